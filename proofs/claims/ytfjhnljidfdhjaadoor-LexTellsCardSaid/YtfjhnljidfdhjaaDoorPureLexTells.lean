/-
  LexTells, over numbers and lists alone: the text of any tokens, the number of a text, and which rows are the same, are as the document says. (Mine.)
-/
import Derived.Test.YtfjhnljidfdhjaaDoorS
import Derived.Test.YtfjhnljidfdhjaaDoorQx12
set_option linter.unusedVariables false
set_option linter.unusedSimpArgs false
namespace Go.Proofs.YtfjhnljidfdhjaaDoor.Pure
open Go.RowKit Go.Proofs.YtfjhnljidfdhjaaDoorW.PrintWords Go.Proofs.YtfjhnljidfdhjaaDoorW.PrintLast
open Go.Proofs.YtfjhnljidfdhjaaDoor.Q Go.Proofs.YtfjhnljidfdhjaaDoor.M Go.Proofs.YtfjhnljidfdhjaaDoor.L
def few (n : Nat) : List S32 → Bool
  | [] => true
  | t :: r => if 2500 < n + 1 + t.f1.size then false else few (n + 1 + t.f1.size) r
theorem few_len : ∀ (l : List S32) (n : Nat), few n l = true → n ≤ 2500 → n + l.length ≤ 2500 ∧ n + (jn (txt l)).length ≤ 2500
  | [], n, _, hn => by simp [txt, jn]; omega
  | [t], n, h, hn => by
    unfold few at h
    split at h
    · cases h
    · have hz : t.f1.data.toList.length = t.f1.size := by rw [Array.length_toList]; rfl
      simp only [txt, List.map_cons, List.map_nil, jn, List.length_cons, List.length_nil, hz]; omega
  | t :: u :: r, n, h, hn => by
    unfold few at h
    split at h
    · cases h
    · have hz : t.f1.data.toList.length = t.f1.size := by rw [Array.length_toList]; rfl
      have := few_len (u :: r) _ h (by omega)
      simp only [txt, List.map_cons, jn, List.length_cons, List.length_append, hz] at this ⊢; omega
theorem Few_l0 (l : List S32) (hl : l.length ≤ 140737488355328) (hs : ∀ t ∈ l, t.f1.size ≤ 140737488351232) : ∀ (d i n : Nat), i + d = l.length → n ≤ 2500 →
    Ev (fun k => tammyref06_Few.l0 k l (n : Int) (i : Int)) (few n (l.drop i)) := by
  intro d
  induction d with
  | zero =>
    intro i n hi hn
    rw [List.drop_of_length_le (by omega)]
    exact Ev.step (fun k => tammyref06_Few.l0.eq_2 _ _ _ k) (Ev.ite_neg (by omega) (Ev.now _))
  | succ d ih =>
    intro i n hi hn
    have hlt : i < l.length := by omega
    rw [List.drop_eq_getElem_cons hlt]
    refine Ev.step (fun k => tammyref06_Few.l0.eq_2 _ _ _ k) (Ev.ite_pos (by omega) (Ev.ite_pos (by omega) ?_))
    rw [rd_at l i hlt]
    have hz := hs l[i] (List.getElem_mem hlt)
    have hw : wrap64 (wrap64 ((n : Int) + 1) + (l[i].f1.size : Int)) = ((n + 1 + l[i].f1.size : Nat) : Int) := by
      rw [wrap64_nat (x := (n : Int) + 1) (by omega) (by omega), wrap64_nat (by omega) (by omega)]; omega
    rw [hw]
    unfold few
    refine Ev.cases_ite (fun h => ?_) (fun h => ?_)
    · rw [if_pos (by omega)]; exact Ev.now _
    · rw [if_neg (by omega), wrap64_nat (by omega) (by omega), show ((i : Int) + 1) = ((i + 1 : Nat) : Int) from by omega]
      exact ih (i + 1) _ (by omega) (by omega)
theorem Few_link (l : List S32) (hl : l.length ≤ 140737488355328) (hs : ∀ t ∈ l, t.f1.size ≤ 140737488351232) : Ev (fun k => tammyref06_Few.f k l) (few 0 l) := by
  have := Few_l0 l hl hs l.length 0 0 (by omega) (by omega)
  rwa [List.drop_zero] at this
theorem jn_snoc : ∀ (xs : List Bytes) (x : Bytes), jn (xs ++ [x]) = if xs = [] then x else jn xs ++ 32 :: x
  | [], x => rfl
  | [y], x => rfl
  | y :: z :: r, x => by
    have := jn_snoc (z :: r) x
    rw [if_neg (by simp)] at this ⊢
    simp only [List.cons_append] at this ⊢
    simp only [jn]
    rw [this]
    simp
theorem jn_take_le : ∀ (xs : List Bytes) (i : Nat), (jn (xs.take i)).length ≤ (jn xs).length
  | [], i => by simp [jn]
  | [y], 0 => by simp [jn]
  | [y], i + 1 => by simp [jn]
  | y :: z :: r, 0 => by simp [jn]
  | y :: z :: r, 1 => by simp [jn]
  | y :: z :: r, i + 2 => by
    have := jn_take_le (z :: r) (i + 1)
    simp only [List.take_succ_cons] at this ⊢
    simp only [jn, List.length_append, List.length_cons]
    omega
theorem refText_l0 (l : List S32) (hl : l.length ≤ 1000000) (hj : (jn (txt l)).length ≤ 1000000) : ∀ (d i : Nat), i + d = l.length →
    Ev (fun k => tammyref06_Text.l0 k l (B (jn (txt (l.take i)))) (i : Int)) (B (jn (txt l))) := by
  intro d
  induction d with
  | zero =>
    intro i hi
    rw [List.take_of_length_le (by omega)]
    exact Ev.step (fun k => tammyref06_Text.l0.eq_2 _ _ _ k) (Ev.ite_neg (by omega) (Ev.now _))
  | succ d ih =>
    intro i hi
    have hlt : i < l.length := by omega
    have e1 : txt (l.take (i + 1)) = txt (l.take i) ++ [l[i].f1.data.toList] := by
      unfold txt; rw [List.take_succ_eq_append_getElem hlt, List.map_append]; rfl
    have hle : (jn (txt (l.take (i + 1)))).length ≤ 1000000 := by
      have := jn_take_le (txt l) (i + 1)
      have h2 : (txt l).take (i + 1) = txt (l.take (i + 1)) := by unfold txt; rw [List.map_take]
      rw [h2] at this; omega
    have next := ih (i + 1) (by omega)
    have hb := B_of l[i].f1
    have hsz : l[i].f1.size = l[i].f1.data.toList.length := by rw [Array.length_toList]; rfl
    have hlen : (txt (l.take i)).length = i := by unfold txt; rw [List.length_map, List.length_take]; omega
    refine Ev.step (fun k => tammyref06_Text.l0.eq_2 _ _ _ k) (Ev.ite_pos (by omega) ?_)
    rw [rd_at l i hlt, wrap64_nat (by omega) (by omega), show ((i : Int) + 1) = ((i + 1 : Nat) : Int) from by omega, show (⟨#[32]⟩ : ByteArray) = B [32] from rfl]
    rw [e1, jn_snoc] at next hle
    refine Ev.cases_ite (fun h => ?_) (fun h => ?_)
    · have hne : ¬ txt (l.take i) = [] := by intro e; rw [e] at hlen; simp at hlen; omega
      rw [if_neg hne] at next hle
      simp only [List.length_append, List.length_cons] at hle
      refine Ev.ite_pos (by rw [B_size]; omega) (Ev.ite_pos (by omega) (Ev.ite_pos (by rw [B_append, B_size, hsz, List.length_append]; simp only [List.length_cons, List.length_nil]; omega) ?_))
      rw [hb, B_append, B_append, List.append_assoc]
      exact next
    · obtain rfl : i = 0 := by omega
      have hz : txt (l.take 0) = [] := rfl
      rw [if_pos hz] at next hle
      refine Ev.ite_pos (by omega) (Ev.ite_pos (by rw [B_size, hsz, hz]; simp only [jn, List.length_nil]; omega) ?_)
      rw [hb, hz, B_append]
      exact next
theorem api_l0 (l m : List S32) (hl : l.length ≤ 140737488355328) (he : l.length = m.length) : ∀ (d i : Nat), i + d = l.length →
    Ev (fun k => api_Tok.l0 k l m (l.length : Int) (i : Int)) (sm (l.drop i) (m.drop i)) := by
  intro d
  induction d with
  | zero =>
    intro i hi
    refine Ev.step (fun k => api_Tok.l0.eq_2 _ _ _ _ k) (Ev.ite_neg (by omega) ?_)
    rw [List.drop_of_length_le (by omega), List.drop_of_length_le (by omega)]
    exact Ev.now _
  | succ d ih =>
    intro i hi
    refine Ev.step (fun k => api_Tok.l0.eq_2 _ _ _ _ k) (Ev.ite_pos (by omega) (Ev.ite_pos (by omega) (Ev.ite_pos (by omega) (Ev.ite_pos (by omega) ?_))))
    rw [rd_at l i (by omega), rd_at m i (by omega), ne_text, List.drop_eq_getElem_cons (show i < l.length from by omega), List.drop_eq_getElem_cons (show i < m.length from by omega)]
    unfold sm
    refine Ev.cases_ite (fun h => ?_) (fun h => ?_)
    · have : eq32 l[i] m[i] = false := by simpa using h
      rw [this]; exact Ev.now _
    · have : eq32 l[i] m[i] = true := by simpa using h
      rw [this, Bool.true_and, wrap64_nat (by omega) (by omega), show ((i : Int) + 1) = ((i + 1 : Nat) : Int) from by omega]
      exact ih (i + 1) (by omega)
theorem lexSame_link (l m : List S32) (hl : l.length ≤ 140737488355328) : Ev (fun k => lex_Same.f k l m) (sm l m) := by
  unfold lex_Same.f api_Tok.f
  refine Ev.bind (a := sm l m) (Ev.cases_ite (fun h => ?_) (fun h => ?_)) (Ev.now _)
  · exact api_l0 l m hl (by omega) l.length 0 (by omega)
  · exact ev_eq (Ev.now _) (sm_len l m (by omega)).symm
def TellsPure : Prop := ∀ (l m : List S32) (s : ByteArray), l.length ≤ 140737488355328 → m.length ≤ 140737488355328 → (∀ t ∈ l, t.f1.size ≤ 140737488351232) → (∀ t ∈ m, t.f1.size ≤ 140737488351232) → ∃ k, tammylaw06_LexTells.f k l m s = some true
theorem LexTells : TellsPure := by
  intro l m a2 hl hm hsl hsm
  obtain ⟨s, rfl⟩ : ∃ l, a2 = B l := ⟨_, B_of a2⟩
  refine Ev.rounds ?_
  unfold tammylaw06_LexTells.f
  have done : Ev (fun k => tammylaw06_LexTells.j0 k l m (B s) true true) true :=
    Ev.step (fun k => tammylaw06_LexTells.j0.eq_2 _ _ _ _ _ k) (Ev.ite_pos rfl (Ev.now _))
  refine Ev.bind shown_link (Ev.bind (Few_link l hl hsl) (Ev.cases_ite (fun h1 => ?_) (fun _ => done)))
  refine Ev.bind (Few_link m hm hsm) (Ev.cases_ite (fun h2 => ?_) (fun _ => done))
  have hL := few_len l 0 h1 (by omega)
  rw [B_size]
  by_cases h3 : (s.length : Int) > 100
  · rw [decide_eq_true h3]; exact done
  · rw [decide_eq_false h3]
    refine Ev.step (fun k => tammylaw06_LexTells.j0.eq_2 _ _ _ _ _ k) (Ev.ite_neg (by simp) ?_)
    refine Ev.bind (Number_link s (by omega)) (Ev.bind (refNumber_link s (by omega)) (Ev.ite_pos rfl ?_))
    refine Ev.bind (Text_link l (by omega) (by omega)) (Ev.bind (a := B (jn (txt l))) ?_ ?_)
    · exact refText_l0 l (by omega) (by omega) l.length 0 (by omega)
    · refine Ev.ite_pos rfl (Ev.ite_pos rfl (Ev.ite_pos (by simp) (Ev.bind (lexSame_link l m hl) (Ev.bind (Same_link l m hl) (ev_eq (Ev.now _) (by simp))))))
end Go.Proofs.YtfjhnljidfdhjaaDoor.Pure
