import Derived.Test.YtniaooodlccmcaaGreatDoorDz
import Derived.Test.YtniaooodlccmcaaGreatDoorED
import Derived.Test.YtniaooodlccmcaaGreatDoorQx16
set_option linter.unusedVariables false
set_option linter.unusedSimpArgs false
namespace Go.Proofs.YtniaooodlccmcaaGreatDoor.E
open Go.RowKit Go.Proofs.YtniaooodlccmcaaGreatDoorW.PrintWords Go.Proofs.YtniaooodlccmcaaGreatDoorW.PrintLast
open Go.Proofs.YtniaooodlccmcaaGreatDoor.Q Go.Proofs.YtniaooodlccmcaaGreatDoor.M Go.Proofs.YtniaooodlccmcaaGreatDoor.L
theorem Read_none : Ev (fun k => expr_Read.f k [] 0) ([], 0, 2) := by
 refine ⟨1, fun k hk => ?_⟩
 obtain ⟨k, rfl⟩ : ∃ m, k = m + 1 := ⟨k - 1, by omega⟩
 rfl
theorem law_two (a b : List S38) (u : Bool) (hla : a.length ≤ 140737488355328) (hsa : ∀ t ∈ a, t.f1.size ≤ 140737488351232) (hlb : b.length ≤ 140737488355328) (hsb : ∀ t ∈ b, t.f1.size ≤ 140737488351232) : ∃ k, tammylaw07_ExprTwo.f k a b u = some true := by
 refine Ev.rounds (g := fun k => tammylaw07_ExprTwo.f k a b u) ?_
 unfold tammylaw07_ExprTwo.f
 have hup : Ev (fun k => tammylaw07_ExprTwo.j0 k a b u true true) true := Ev.step (fun k => tammylaw07_ExprTwo.j0.eq_2 _ _ _ _ _ k) (Ev.ite_pos rfl (Ev.now _))
 refine Ev.bind shown_link (Ev.bind (Few_link hla hsa) (Ev.cases_ite (fun hfa => ?_) (fun _ => hup)))
 refine Ev.bind (Few_link hlb hsb) (Ev.cases_ite (fun hfb => ?_) (fun _ => hup))
 rw [decide_eq_true_eq] at hfa hfb
 have hma := len_much a
 have hmb := len_much b
 rcases Right_ref (l := a) (by omega) (by omega) with h | ⟨hwa, h⟩
 ·exact Ev.bind h (Ev.ite_neg (by decide) hup)
 refine Ev.bind h (Ev.cases_ite (fun hda => ?_) (fun _ => hup))
 rw [decide_eq_true_eq] at hda
 rcases Right_ref (l := b) (by omega) (by omega) with h | ⟨hwb, h⟩
 ·exact Ev.bind h hup
 refine Ev.bind h ?_
 by_cases hd' : ¬ D b (b.length - 1) ≤ 40
 ·rw [decide_eq_false hd']; exact hup
 rw [decide_eq_true (Classical.not_not.1 hd')]
 obtain ⟨ka, ta, hea⟩ := right_form hwa
 obtain ⟨kb, tb, heb⟩ := right_form hwb
 have hxa := text_len hea
 have hxb := text_len heb
 have hta := toks_le hea
 have htb := toks_le heb
 have main : ∀ u : Bool, Ev (fun k => tammylaw07_ExprTwo.j1 k a b true (B [s2 u]) (k2 u)) true := by
  intro u
  refine Ev.step (fun k => tammylaw07_ExprTwo.j1.eq_2 _ _ _ _ _ k) (Ev.bind (Text_own hwa.1 (by omega) (by omega) hwa.pos) ?_)
  have e1 : (((⟨#[40]⟩ : ByteArray) ++ B (X a (a.length - 1))) ++ (⟨#[41]⟩ : ByteArray)) = B (brX true (X a (a.length - 1))) := brX_B _
  rw [e1, B_append, B_cat]
  have l1 := brX_len2 (X a (a.length - 1))
  refine Ev.ite_pos Zz14 (Ev.ite_pos (by rw [B_cons, B_size, List.length_cons]; omega) (Ev.ite_pos (by rw [B_size, B_size]; simp only [List.length_cons, List.length_nil]; omega) (Ev.ite_pos (by rw [B_size, List.length_append]; simp only [List.length_cons, List.length_nil]; omega) ?_)))
  refine Ev.bind (Text_own hwb.1 (by omega) (by omega) hwb.pos) ?_
  rw [B_append, B_cat]
  refine Ev.ite_pos (by rw [B_size, B_size]; simp only [List.length_append, List.length_cons, List.length_nil]; omega) (Ev.ite_pos (by rw [B_size]; simp only [List.length_append, List.length_cons, List.length_nil]; omega) ?_)
  have e2 : brX true (X a (a.length - 1)) ++ [s2 u] ++ [40] ++ X b (b.length - 1) ++ [41] = brX true (X a (a.length - 1)) ++ s2 u :: brX true (X b (b.length - 1)) := by
   show _ = brX true (X a (a.length - 1)) ++ s2 u :: (40 :: (X b (b.length - 1) ++ [41]))
   simp only [List.append_assoc, List.cons_append, List.nil_append]
  rw [e2]
  have l2 := brX_len2 (X b (b.length - 1))
  have hlen : (brX true (X a (a.length - 1)) ++ s2 u :: brX true (X b (b.length - 1))).length = (X a (a.length - 1)).length + (X b (b.length - 1)).length + 5 := by
   simp only [List.length_append, List.length_cons]; omega
  refine Ev.bind (refToks_link _ (by omega)) ?_
  by_cases hlong : 2000 < (brX true (X a (a.length - 1)) ++ s2 u :: brX true (X b (b.length - 1))).length
  ·have e : toksR (brX true (X a (a.length - 1)) ++ s2 u :: brX true (X b (b.length - 1))) = ([], 0, 7) := by unfold toksR; rw [if_pos hlong]
   rw [e]
   exact Ev.bind Read_none (Ev.ite_neg (show ¬ (7 : Int) = 0 by decide) (Ev.now _))
  have hsc : Sc (brX true (X a (a.length - 1)) ++ s2 u :: brX true (X b (b.length - 1))) (brT true ta ++ (3, [s2 u]) :: brT true tb) :=
   Sc.app (Sc.br (text_scan hea)) (Sc.sign (s2_sgl u) (Sc.br (text_scan heb))) (Gd_sign (s2_sgl u) _)
  obtain ⟨tk, ht, htl, htk⟩ := text_toks (k := 0) (ns := []) (d := 0) hsc (by omega)
  have hE : ExprP (k2 u) (a ++ b ++ [nd (k2 u) [] 2]) (brT true ta ++ (3, [s2 u]) :: brT true tb) (max (D a (a.length - 1) + 1) (D b (b.length - 1) + 1)) := by
   have pa : PartP (isTwo 0) a (brT true ta) (D a (a.length - 1) + 1) := fun l i out q f o ha hx hl hi ho hq => brackets (read_all hea).2 l i out q f o ha hx hl hi ho hq
   have pb : PartP (isTwo 0) b (brT true tb) (D b (b.length - 1) + 1) := fun l i out q f o ha hx hl hi ho hq => brackets (read_all heb).2 l i out q f o ha hx hl hi ho hq
   exact two_ok u (ka := 0) (kb := 0) ⟨pa, expr_of_part rfl pa⟩ pb
  have lt : (brT true ta ++ (3, [s2 u]) :: brT true tb).length = ta.length + tb.length + 5 := by
   rw [List.length_append, List.length_cons, brT_len2, brT_len2]; omega
  rw [ht]
  have hnl : (a ++ b ++ [nd (k2 u) [] 2]).length = a.length + b.length + 1 := by simp only [List.length_append, List.length_cons, List.length_nil]
  rcases Read_all hE htk htl (by omega) (by omega) with ⟨_, z, h⟩ | h
  ·exact Ev.bind h (Ev.ite_pos rfl (Ev.ite_pos rfl (Ev.now _)))
  refine Ev.bind h (Ev.ite_pos rfl (Ev.ite_neg (show ¬ (0 : Int) = 7 by decide) ?_))
  refine Ev.bind (Ev.now _) (Ev.ite_pos (by simp only [List.length_nil]; omega) ?_)
  refine Ev.bind (Ev.now _) (Ev.ite_pos (by simp only [List.length_append, List.length_nil]; omega) ?_)
  refine Ev.bind (Ev.now _) (Ev.ite_pos (by simp only [List.length_append, List.length_nil]; omega) ?_)
  refine Ev.ite_pos rfl (Ev.ite_pos rfl (Ev.ite_pos rfl ?_))
  exact Ev.bind (show Ev (fun k => tammyref07_Same.f k (a ++ b ++ [nd (k2 u) [] 2]) (a ++ b ++ [nd (k2 u) [] 2])) true from Same_self (by omega)) (Ev.now _)
 refine Ev.step (fun k => tammylaw07_ExprTwo.j0.eq_2 _ _ _ _ _ k) (Ev.ite_neg (by decide) (Ev.cases_ite (fun hu => ?_) (fun hu => ?_)))
 ·exact main true
 ·exact main false
end Go.Proofs.YtniaooodlccmcaaGreatDoor.E

