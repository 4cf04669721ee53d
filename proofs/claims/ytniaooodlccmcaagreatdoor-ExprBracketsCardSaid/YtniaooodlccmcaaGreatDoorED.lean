import Derived.Test.YtniaooodlccmcaaGreatDoorEC
import Derived.Test.YtniaooodlccmcaaGreatDoorQx15
set_option linter.unusedVariables false
set_option linter.unusedSimpArgs false
namespace Go.Proofs.YtniaooodlccmcaaGreatDoor.E
open Go.RowKit Go.Proofs.YtniaooodlccmcaaGreatDoorW.PrintWords Go.Proofs.YtniaooodlccmcaaGreatDoorW.PrintLast
open Go.Proofs.YtniaooodlccmcaaGreatDoor.Q Go.Proofs.YtniaooodlccmcaaGreatDoor.M Go.Proofs.YtniaooodlccmcaaGreatDoor.L
theorem Text_own {l : List S38} (hr : Rt l l.length) (hl : l.length ≤ 100000) (hM : much l ≤ 100000) (h0 : 0 < l.length) : Ev (fun k => expr_Text.f k l) (B (X l (l.length - 1))) := by
 unfold expr_Text.f
 exact Ev.bind (written_is hr hl hM h0) (Ev.now _)
theorem Same_l0 {l : List S38} (hl : l.length ≤ 1000000) : ∀ (d i : Nat), i + d = l.length → Ev (fun k => tammyref07_Same.l0 k l l (i : Int)) true := by
 intro d
 induction d with
 | zero =>
  intro i hi
  exact Ev.step (fun k => tammyref07_Same.l0.eq_2 _ _ _ k) (Ev.ite_neg (by omega) (Ev.now _))
 | succ d ih =>
  intro i hi
  refine Ev.step (fun k => tammyref07_Same.l0.eq_2 _ _ _ k) (Ev.ite_pos (by omega) (Ev.ite_pos (by omega) (Ev.ite_pos (by omega) (Ev.ite_neg (by simp) ?_))))
  rw [w64 (by omega) (by omega), show (i : Int) + 1 = ((i + 1 : Nat) : Int) from by omega]
  exact ih (i + 1) (by omega)
theorem Same_self {l : List S38} (hl : l.length ≤ 1000000) : Ev (fun k => tammyref07_Same.f k l l) true := by
 unfold tammyref07_Same.f
 exact Ev.ite_pos rfl (Same_l0 hl l.length 0 (by omega))
end Go.Proofs.YtniaooodlccmcaaGreatDoor.E

