import Derived.Test.YtniaooodlccmcaaGreatDoorDz
import Derived.Test.YtniaooodlccmcaaGreatDoorED
import Derived.Test.YtniaooodlccmcaaGreatDoorQx15
set_option linter.unusedVariables false
set_option linter.unusedSimpArgs false
namespace Go.Proofs.YtniaooodlccmcaaGreatDoor.E
open Go.RowKit Go.Proofs.YtniaooodlccmcaaGreatDoorW.PrintWords Go.Proofs.YtniaooodlccmcaaGreatDoorW.PrintLast
open Go.Proofs.YtniaooodlccmcaaGreatDoor.Q Go.Proofs.YtniaooodlccmcaaGreatDoor.M Go.Proofs.YtniaooodlccmcaaGreatDoor.L
def wr : Nat → Bytes → Bytes
 | 0, x => x
 | n + 1, x => brX true (wr n x)
def wrT : Nat → List TT → List TT
 | 0, x => x
 | n + 1, x => brT true (wrT n x)
theorem wr_len (x : Bytes) : ∀ n, (wr n x).length = x.length + 2 * n
 | 0 => rfl
 | n + 1 => by rw [wr, brX_len2, wr_len x n]; omega
theorem wrT_len (x : List TT) : ∀ n, (wrT n x).length = x.length + 2 * n
 | 0 => rfl
 | n + 1 => by rw [wrT, brT_len2, wrT_len x n]; omega
theorem wr_expr {k : Int} {ns : List S38} {ts : List TT} {d : Nat} (h : ExprP k ns ts d) : ∀ n, ∃ k', ExprP k' ns (wrT n ts) (d + n)
 | 0 => ⟨k, h⟩
 | n + 1 => by
  obtain ⟨k', h'⟩ := wr_expr h n
  have : PartP (isTwo 0) ns (wrT (n + 1) ts) (d + n + 1) := by
   intro l i out q f o ha hx hl hi ho hq
   exact brackets h' l i out q f o ha hx hl hi ho hq
  exact ⟨0, expr_of_part rfl this⟩
theorem wr_scan {x : Bytes} {ts : List TT} (h : Sc x ts) : ∀ n, Sc (wr n x) (wrT n ts)
 | 0 => h
 | n + 1 => (wr_scan h n).br (b := true)
theorem law_brackets (l : List S38) (n : Int) (hl : l.length ≤ 140737488355328) (hs : ∀ t ∈ l, t.f1.size ≤ 140737488351232) (hn0 : 0 ≤ n) (hn : n ≤ 255) : ∃ k, tammylaw07_ExprBrackets.f k l n = some true := by
 refine Ev.rounds (g := fun k => tammylaw07_ExprBrackets.f k l n) ?_
 unfold tammylaw07_ExprBrackets.f
 have hup : Ev (fun k => tammylaw07_ExprBrackets.j0 k l n true true) true := Ev.step (fun k => tammylaw07_ExprBrackets.j0.eq_2 _ _ _ _ k) (Ev.ite_pos rfl (Ev.now _))
 refine Ev.bind shown_link (Ev.bind (Few_link hl hs) (Ev.cases_ite (fun hf => ?_) (fun _ => hup)))
 rw [decide_eq_true_eq] at hf
 have hlm := len_much l
 rcases Right_ref (l := l) (by omega) (by omega) with h | ⟨hw, h⟩
 ·exact Ev.bind h hup
 refine Ev.bind h ?_
 by_cases hd' : ¬ D l (l.length - 1) ≤ 40
 ·rw [decide_eq_false hd']; exact hup
 have hd : D l (l.length - 1) ≤ 40 := Classical.not_not.1 hd'
 rw [decide_eq_true hd]
 obtain ⟨k0, ts, he⟩ := right_form hw
 have hx := text_len he
 have htx := toks_le he
 refine Ev.step (fun k => tammylaw07_ExprBrackets.j0.eq_2 _ _ _ _ k) (Ev.ite_neg (by decide) (Ev.bind (Text_own hw.1 (by omega) (by omega) hw.pos) ?_))
 obtain ⟨p, hp⟩ : ∃ p : Nat, wrap64 (Int.tmod n 5) = (p : Int) ∧ p < 5 := by
  have h1 : Int.tmod n 5 = n % 5 := Int.tmod_eq_emod_of_nonneg hn0
  refine ⟨(n % 5).toNat, ?_, by omega⟩
  rw [h1, w64 (by omega) (by omega)]; omega
 have loop : ∀ (d q : Nat), q + d = p → Ev (fun k => tammylaw07_ExprBrackets.l0 k l n true (B (wr q (X l (l.length - 1)))) (q : Int)) true := by
  intro d
  induction d with
  | zero =>
   intro q hq
   refine Ev.step (fun k => tammylaw07_ExprBrackets.l0.eq_2 _ _ _ _ _ k) (Ev.ite_neg (by rw [hp.1]; omega) ?_)
   have hwl := wr_len (X l (l.length - 1)) q
   refine Ev.bind (refToks_link _ (by omega)) ?_
   by_cases hlong : 2000 < (wr q (X l (l.length - 1))).length
   ·have e : toksR (wr q (X l (l.length - 1))) = ([], 0, 7) := by unfold toksR; rw [if_pos hlong]
    rw [e]
    exact Ev.ite_neg (show ¬ (7 : Int) = 0 by decide) (Ev.ite_pos Zz14 (Ev.now _))
   ·obtain ⟨tk, ht, htl, hta⟩ := text_toks (k := 0) (ns := []) (d := 0) (wr_scan (text_scan he) q) (by omega)
    obtain ⟨k', hE⟩ := wr_expr (read_all he).2 q
    have hwt := wrT_len ts q
    rw [ht]
    refine Ev.ite_pos rfl ?_
    rcases Read_all hE hta htl (by omega) (by omega) with ⟨_, a, h⟩ | h
    ·exact Ev.bind h (Ev.ite_pos rfl (Ev.ite_neg (show ¬ (7 : Int) = 0 by decide) (Ev.now _)))
    ·exact Ev.bind h (Ev.ite_pos rfl (Ev.ite_pos rfl (Ev.ite_pos rfl (Ev.bind (show Ev (fun k => tammyref07_Same.f k l l) true from Same_self (by omega)) (Ev.ite_pos rfl (Ev.now _))))))
  | succ d ih =>
   intro q hq
   have hwl := wr_len (X l (l.length - 1)) q
   refine Ev.step (fun k => tammylaw07_ExprBrackets.l0.eq_2 _ _ _ _ _ k) (Ev.ite_pos (by rw [hp.1]; omega) (Ev.ite_pos Zz14 (Ev.ite_pos (by rw [B_cons, B_size, List.length_cons]; omega) ?_)))
   rw [brX_B, w64 (by omega) (by omega), show (q : Int) + 1 = ((q + 1 : Nat) : Int) from by omega]
   exact ih (q + 1) (by omega)
 exact loop p 0 (by omega)
end Go.Proofs.YtniaooodlccmcaaGreatDoor.E

