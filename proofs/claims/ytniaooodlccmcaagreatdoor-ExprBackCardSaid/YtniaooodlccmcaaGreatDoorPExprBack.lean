import Derived.Test.YtniaooodlccmcaaGreatDoorED
import Derived.Test.YtniaooodlccmcaaGreatDoorQx15
set_option linter.unusedVariables false
set_option linter.unusedSimpArgs false
namespace Go.Proofs.YtniaooodlccmcaaGreatDoor.E
open Go.RowKit Go.Proofs.YtniaooodlccmcaaGreatDoorW.PrintWords Go.Proofs.YtniaooodlccmcaaGreatDoorW.PrintLast
open Go.Proofs.YtniaooodlccmcaaGreatDoor.Q Go.Proofs.YtniaooodlccmcaaGreatDoor.M Go.Proofs.YtniaooodlccmcaaGreatDoor.L
theorem law_back (l : List S38) (hl : l.length ≤ 140737488355328) (hs : ∀ t ∈ l, t.f1.size ≤ 140737488351232) : ∃ k, tammylaw07_ExprBack.f k l = some true := by
 refine Ev.rounds (g := fun k => tammylaw07_ExprBack.f k l) ?_
 unfold tammylaw07_ExprBack.f
 have hup : Ev (fun k => tammylaw07_ExprBack.j0 k l true true) true := Ev.step (fun k => tammylaw07_ExprBack.j0.eq_2 _ _ _ k) (Ev.ite_pos rfl (Ev.now _))
 refine Ev.bind shown_link (Ev.bind (Few_link hl hs) (Ev.cases_ite (fun hf => ?_) (fun _ => hup)))
 rw [decide_eq_true_eq] at hf
 have hlm := len_much l
 rcases Right_ref (l := l) (by omega) (by omega) with h | ⟨hw, h⟩
 ·exact Ev.bind h hup
 refine Ev.bind h ?_
 by_cases hd' : ¬ D l (l.length - 1) ≤ 40
 ·rw [decide_eq_false hd']; exact hup
 have hd : D l (l.length - 1) ≤ 40 := Classical.not_not.1 hd'
 rw [decide_eq_true hd]
 have h0 := hw.pos
 obtain ⟨ts, he⟩ := ex_at (l := l) (l.length - 1) (by omega) (fun j hj => hw.1 j (by omega))
 have hS := (Cn.whole hw.2).2
 rw [hS, show l.length - 1 + 1 = l.length from by omega, span_all] at he
 have hx := text_len he
 obtain ⟨tk, ht, htl, hta⟩ := text_toks (k := 0) (ns := []) (d := 0) (text_scan he) (by omega)
 refine Ev.step (fun k => tammylaw07_ExprBack.j0.eq_2 _ _ _ k) (Ev.ite_neg (by decide) (Ev.bind (Text_own hw.1 (by omega) (by omega) h0) (Ev.bind (refToks_link _ (by omega)) ?_)))
 rw [ht]
 have htsl := toks_le he
 have hR : Ev (fun k => expr_Read.f k tk 0) (l, (tk.length : Int), 0) := by
  rcases Read_all (read_all he).2 hta htl (by omega) (by omega) with ⟨h, _⟩ | h
  ·omega
  ·exact h
 refine Ev.bind hR (Ev.ite_pos rfl (Ev.ite_pos rfl (Ev.ite_pos rfl (Ev.ite_pos rfl (Ev.bind (show Ev (fun k => tammyref07_Same.f k l l) true from Same_self (by omega)) (Ev.now _))))))
end Go.Proofs.YtniaooodlccmcaaGreatDoor.E

