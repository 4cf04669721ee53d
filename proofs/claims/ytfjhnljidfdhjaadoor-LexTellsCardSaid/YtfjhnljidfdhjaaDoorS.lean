/-
  The document's example, texts of tokens, and rows that are the same. (Mine.)
-/
import Derived.Test.YtfjhnljidfdhjaaDoorR
import Derived.Lib.Join
set_option linter.unusedVariables false
set_option linter.unusedSimpArgs false
namespace Go.Proofs.YtfjhnljidfdhjaaDoor.L
open Go.RowKit Go.Proofs.YtfjhnljidfdhjaaDoorW.PrintWords Go.Proofs.YtfjhnljidfdhjaaDoorW.PrintLast
open Go.Proofs.YtfjhnljidfdhjaaDoor.Q Go.Proofs.YtfjhnljidfdhjaaDoor.M

theorem rd_at (l : List S32) (n : Nat) (h : n < l.length) : rd_T32 l (n : Int) = l[n] := by
  unfold rd_T32
  rw [Int.toNat_natCast, List.getD_eq_getElem?_getD, List.getElem?_eq_getElem h]; rfl
theorem join_jn : ∀ (xs : List Bytes), Lib.join xs [32] = jn xs
  | [] => rfl
  | [x] => by simp [Lib.join, jn, List.intercalate]
  | x :: y :: r => by
    have ih := join_jn (y :: r)
    unfold Lib.join List.intercalate at ih ⊢
    rw [List.intersperse_cons_cons, List.flatten_cons, List.flatten_cons, ih]
    rfl
def txt (ts : List S32) : List Bytes := ts.map (·.f1.data.toList)
theorem Text_l0 (ts : List S32) (h1 : ts.length ≤ 1000000) (h2 : (jn (txt ts)).length ≤ 1000000) : ∀ (d i : Nat), i + d = ts.length →
    Ev (fun k => lex_Text.l0 k ((ts.take i).map (·.f1)) ts (ts.length : Int) (i : Int)) (B (jn (txt ts))) := by
  intro d
  induction d with
  | zero =>
    intro i hi
    refine Ev.step (fun k => lex_Text.l0.eq_2 _ _ _ _ k) (Ev.ite_neg (by omega) ?_)
    rw [List.take_of_length_le (by omega)]
    have hm : (ts.map (·.f1)).map (·.data.toList) = txt ts := by unfold txt; rw [List.map_map]; rfl
    have hj : strings_Join.f (ts.map (·.f1)) (⟨#[32]⟩ : ByteArray) = some (B (jn (txt ts))) := by
      unfold strings_Join.f
      rw [hm, show (⟨#[32]⟩ : ByteArray).data.toList = [32] from rfl, join_jn, if_pos ⟨by rw [List.length_map]; omega, by omega⟩]; rfl
    rw [hj]
    exact Ev.bind (Ev.now _) (Ev.now _)
  | succ d ih =>
    intro i hi
    refine Ev.step (fun k => lex_Text.l0.eq_2 _ _ _ _ k) (Ev.ite_pos (by omega) (Ev.ite_pos (by omega) (Ev.ite_pos (by omega) (Ev.ite_pos (by rw [List.length_map, List.length_take]; omega) ?_))))
    rw [rd_at ts i (by omega), wrap64_nat (by omega) (by omega), show ((i : Int) + 1) = ((i + 1 : Nat) : Int) from by omega]
    have e : (ts.take i).map (·.f1) ++ [ts[i].f1] = (ts.take (i + 1)).map (·.f1) := by
      rw [List.take_succ_eq_append_getElem (by omega), List.map_append]; rfl
    rw [e]
    exact ih (i + 1) (by omega)
theorem Text_link (ts : List S32) (h1 : ts.length ≤ 1000000) (h2 : (jn (txt ts)).length ≤ 1000000) : Ev (fun k => lex_Text.f k ts) (B (jn (txt ts))) :=
  Text_l0 ts h1 h2 ts.length 0 (by omega)

theorem shown_link : Ev (fun k => tammylaw06_shown.f k) true := by
  unfold tammylaw06_shown.f
  refine Ev.bind (Toks_link [88, 60, 61, 99] (by simp)) ?_
  rw [show toksR [88, 60, 61, 99] = ([⟨1, B [88], 0⟩, ⟨3, B [60, 61], 1⟩, ⟨1, B [99], 3⟩], 0, 0) from rfl]
  refine Ev.bind (Number_link [49, 48] (by simp)) ?_
  rw [show num [49, 48] = (10, true) from rfl]
  refine Ev.ite_pos rfl (Ev.ite_pos rfl (Ev.ite_pos rfl (Ev.ite_pos (by decide) (Ev.ite_pos ?_ (Ev.ite_pos (by decide) (Ev.ite_pos rfl ?_))))))
  · rw [show rd_T32 [⟨1, B [88], 0⟩, ⟨3, B [60, 61], 1⟩, ⟨1, B [99], 3⟩] 1 = ⟨3, B [60, 61], 1⟩ from rfl, B_toList]; rfl
  · refine Ev.bind (Text_link [⟨1, B [88], 0⟩, ⟨3, B [60, 61], 1⟩, ⟨1, B [99], 3⟩] (by simp) (by decide)) ?_
    refine Ev.ite_pos ?_ (Ev.ite_pos rfl (Ev.now _))
    rw [B_toList]; rfl

/-! ### rows that are the same -/
def eq32 (a b : S32) : Bool := a.f0 == b.f0 && (a.f1.toList == b.f1.toList && a.f2 == b.f2)
def sm : List S32 → List S32 → Bool
  | [], [] => true
  | a :: l, b :: m => eq32 a b && sm l m
  | _, _ => false
theorem eq32_refl (a : S32) : eq32 a a = true := by simp [eq32]
theorem sm_refl : ∀ l, sm l l = true
  | [] => rfl
  | a :: l => by unfold sm; rw [eq32_refl, sm_refl l]; rfl
theorem sm_len : ∀ l m, l.length ≠ m.length → sm l m = false
  | [], [], h => absurd rfl h
  | [], _ :: _, _ => rfl
  | _ :: _, [], _ => rfl
  | a :: l, b :: m, h => by unfold sm; rw [sm_len l m (by simpa using h), Bool.and_false]
theorem ne_text (a b : S32) : (!(a.f0 == b.f0) || (!((a.f1.toList) == (b.f1.toList)) || (!(a.f2 == b.f2)))) = !(eq32 a b) := by
  unfold eq32
  cases (a.f0 == b.f0) <;> cases (a.f1.toList == b.f1.toList) <;> cases (a.f2 == b.f2) <;> rfl
theorem Same_l0 (l m : List S32) (hl : l.length ≤ 140737488355328) (he : l.length = m.length) : ∀ (d i : Nat), i + d = l.length →
    Ev (fun k => tammyref06_Same.l0 k l m (i : Int)) (sm (l.drop i) (m.drop i)) := by
  intro d
  induction d with
  | zero =>
    intro i hi
    refine Ev.step (fun k => tammyref06_Same.l0.eq_2 _ _ _ k) (Ev.ite_neg (by omega) ?_)
    rw [List.drop_of_length_le (by omega), List.drop_of_length_le (by omega)]
    exact Ev.now _
  | succ d ih =>
    intro i hi
    refine Ev.step (fun k => tammyref06_Same.l0.eq_2 _ _ _ k) (Ev.ite_pos (by omega) (Ev.ite_pos (by omega) (Ev.ite_pos (by omega) ?_)))
    rw [rd_at l i (by omega), rd_at m i (by omega), ne_text, List.drop_eq_getElem_cons (show i < l.length from by omega), List.drop_eq_getElem_cons (show i < m.length from by omega)]
    unfold sm
    refine Ev.cases_ite (fun h => ?_) (fun h => ?_)
    · have : eq32 l[i] m[i] = false := by simpa using h
      rw [this]; exact Ev.now _
    · have : eq32 l[i] m[i] = true := by simpa using h
      rw [this, Bool.true_and, wrap64_nat (by omega) (by omega), show ((i : Int) + 1) = ((i + 1 : Nat) : Int) from by omega]
      exact ih (i + 1) (by omega)
theorem Same_link (l m : List S32) (hl : l.length ≤ 140737488355328) : Ev (fun k => tammyref06_Same.f k l m) (sm l m) := by
  unfold tammyref06_Same.f
  refine Ev.cases_ite (fun h => ?_) (fun h => ?_)
  · exact Same_l0 l m hl (by omega) l.length 0 (by omega)
  · exact ev_eq (Ev.now _) (sm_len l m (by omega)).symm

/-! ### how long what is read is -/
theorem scan_many : ∀ (l : Bytes) (s p : Nat) (m : List Tk), scan l s p = .ok m → m.length ≤ l.length
  | [], s, p, m, h => by simp only [scan, Except.ok.injEq] at h; subst h; simp
  | c :: r, s + 1, p, m, h => by
    simp only [scan] at h
    have := scan_many r s (p + 1) m h
    rw [List.length_cons]; omega
  | c :: r, 0, p, m, h => by
    simp only [scan] at h
    rw [List.length_cons]
    split at h
    · have := scan_many r 0 (p + 1) m h; omega
    · split at h
      · cases h
      · rename_i k n _
        cases hs : scan r (n - 1) (p + 1) with
        | error e => rw [hs] at h; cases h
        | ok z =>
          rw [hs] at h
          simp only [Except.ok.injEq] at h
          subst h
          have := scan_many r (n - 1) (p + 1) z hs
          rw [List.length_cons]; omega
theorem toksR_many (l : Bytes) : (toksR l).1.length ≤ l.length := by
  unfold toksR
  split
  · simp
  · cases h : scan l 0 0 with
    | error e => simp [res]
    | ok m =>
      have := scan_many l 0 0 m h
      simp only [res, List.nil_append, List.length_map]; exact this
end Go.Proofs.YtfjhnljidfdhjaaDoor.L
