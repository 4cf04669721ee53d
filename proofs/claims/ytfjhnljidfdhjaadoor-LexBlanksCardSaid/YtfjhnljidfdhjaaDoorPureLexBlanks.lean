/-
  LexBlanks, over numbers and lists alone: blanks between tokens count for nothing but where these begin; blanks alone are no token. (Mine.)
-/
import Derived.Test.YtfjhnljidfdhjaaDoorS
import Derived.Test.YtfjhnljidfdhjaaDoorQx11
set_option linter.unusedVariables false
set_option linter.unusedSimpArgs false
namespace Go.Proofs.YtfjhnljidfdhjaaDoor.Pure
open Go.RowKit Go.Proofs.YtfjhnljidfdhjaaDoorW.PrintWords Go.Proofs.YtfjhnljidfdhjaaDoorW.PrintLast
open Go.Proofs.YtfjhnljidfdhjaaDoor.Q Go.Proofs.YtfjhnljidfdhjaaDoor.M Go.Proofs.YtfjhnljidfdhjaaDoor.L
def bl9 : Bytes := [32, 9, 10, 32, 9, 10, 32, 9, 10]
theorem bl9_len (n : Nat) (h : n ≤ 9) : (bl9.take n).length = n := by rw [List.length_take]; show min n 9 = n; omega
theorem bl9_all (n : Nat) : (bl9.take n).all blk = true := by
  rw [List.all_eq_true]
  intro c hc
  have h9 : bl9.all blk = true := rfl
  exact List.all_eq_true.1 h9 c (List.mem_of_mem_take hc)
theorem bl9_head (n : Nat) : ∀ a, (bl9.take n).head? = some a → blk a = true := by
  intro a ha
  have : a ∈ bl9.take n := List.mem_of_mem_head? ha
  exact List.all_eq_true.1 (bl9_all n) a this
theorem scan_around (s : Bytes) (n : Nat) : scan (bl9.take n ++ s ++ bl9.take n) 0 0 = match scan s 0 0 with
    | .error e => .error (e + (bl9.take n).length) | .ok m => .ok (m.map (shift (bl9.take n).length)) := by
  rw [List.append_assoc, scan_blank_ahead _ _ 0 (bl9_all n), scan_append (bl9.take n) (bl9_head n) s 0 _ (Nat.zero_le _), scan_shift s 0 0 _, scan_all_blank _ _ (bl9_all n)]
  cases scan s 0 0 with
  | error e => rfl
  | ok m => simp
theorem bl_l1 (a : ByteArray) (ha : a.size ≤ 1000) (m : List Tk) (hm : m.length ≤ 1000) (hp : ∀ t ∈ m, t.pos ≤ 1000) : ∀ (d i : Nat), i + d = m.length →
    Ev (fun k => tammylaw06_LexBlanks.l1 k true a (m.map enc) ((m.map (shift a.size)).map enc) (i : Int)) true := by
  intro d
  induction d with
  | zero =>
    intro i hi
    exact Ev.step (fun k => tammylaw06_LexBlanks.l1.eq_2 _ _ _ _ _ k) (Ev.ite_neg (by rw [List.length_map]; omega) (Ev.now _))
  | succ d ih =>
    intro i hi
    have hlt : i < m.length := by omega
    refine Ev.step (fun k => tammylaw06_LexBlanks.l1.eq_2 _ _ _ _ _ k) (Ev.ite_pos (by rw [List.length_map]; omega) (Ev.ite_pos (by omega) (Ev.ite_pos (by rw [List.length_map, List.length_map]; omega) ?_)))
    rw [rd_at _ i (by rw [List.length_map]; omega), rd_at _ i (by rw [List.length_map, List.length_map]; omega), List.getElem_map, List.getElem_map, List.getElem_map]
    have hpos := hp m[i] (List.getElem_mem hlt)
    refine Ev.ite_pos rfl (Ev.ite_pos rfl (Ev.ite_pos ?_ ?_))
    · show ((m[i].pos + a.size : Nat) : Int) = wrap64 ((m[i].pos : Int) + (a.size : Int))
      rw [wrap64_nat (by omega) (by omega)]; omega
    · rw [wrap64_nat (by omega) (by omega), show ((i : Int) + 1) = ((i + 1 : Nat) : Int) from by omega]
      exact ih (i + 1) (by omega)
theorem scan_pos2 : ∀ (l : Bytes) (s p : Nat) (m : List Tk), scan l s p = .ok m → ∀ t ∈ m, t.pos ≤ p + l.length
  | [], s, p, m, h => by simp only [scan, Except.ok.injEq] at h; subst h; simp
  | c :: r, s + 1, p, m, h => by
    simp only [scan] at h
    intro t ht
    have := scan_pos2 r s (p + 1) m h t ht
    rw [List.length_cons]; omega
  | c :: r, 0, p, m, h => by
    simp only [scan] at h
    rw [List.length_cons]
    split at h
    · intro t ht; have := scan_pos2 r 0 (p + 1) m h t ht; omega
    · split at h
      · cases h
      · rename_i k n _
        cases hs : scan r (n - 1) (p + 1) with
        | error e => rw [hs] at h; cases h
        | ok z =>
          rw [hs] at h
          simp only [Except.ok.injEq] at h
          subst h
          intro t ht
          rcases List.mem_cons.1 ht with rfl | ht
          · simp only; omega
          · have := scan_pos2 r (n - 1) (p + 1) z hs t ht; omega
theorem scan_err2 : ∀ (l : Bytes) (s p e : Nat), scan l s p = .error e → e < p + l.length := by
  intro l
  induction l with
  | nil => intro s p e h; simp [scan] at h
  | cons c r ih =>
    intro s p e h
    cases s with
    | succ s => simp only [scan] at h; have := ih s (p + 1) e h; simp only [List.length_cons]; omega
    | zero =>
      simp only [scan] at h
      split at h
      · have := ih 0 (p + 1) e h; simp only [List.length_cons]; omega
      · split at h
        · simp only [Except.error.injEq] at h; simp only [List.length_cons]; omega
        · rename_i k n _
          cases hs : scan r (n - 1) (p + 1) with
          | ok z => rw [hs] at h; cases h
          | error e' =>
            rw [hs] at h
            simp only [Except.error.injEq] at h
            have := ih (n - 1) (p + 1) e' hs
            simp only [List.length_cons]; omega
theorem one_more (i : Nat) (h : i < 9) : bl9.take i ++ [UInt8.ofNat (bt (⟨#[32, 9, 10]⟩ : ByteArray) (Int.tmod (i : Int) 3)).toNat] = bl9.take (i + 1) := by
  have : i = 0 ∨ i = 1 ∨ i = 2 ∨ i = 3 ∨ i = 4 ∨ i = 5 ∨ i = 6 ∨ i = 7 ∨ i = 8 := by omega
  rcases this with rfl | rfl | rfl | rfl | rfl | rfl | rfl | rfl | rfl <;> rfl
theorem bl_l0 (s : Bytes) (hs : s.length ≤ 500) (a1 : Int) (n : Nat) (hn : n ≤ 8) (ha : wrap64 (Int.tmod a1 9) = (n : Int)) : ∀ (d i : Nat), i + d = n →
    Ev (fun k => tammylaw06_LexBlanks.l0 k (B s) a1 true (B (bl9.take i)) (i : Int)) true := by
  intro d
  induction d with
  | zero =>
    intro i hi
    obtain rfl : i = n := by omega
    have hl := bl9_len i (by omega)
    refine Ev.step (fun k => tammylaw06_LexBlanks.l0.eq_2 _ _ _ _ _ k) (Ev.ite_neg (by rw [ha]; omega) ?_)
    refine Ev.bind (Toks_link s (by omega)) ?_
    rw [B_append, B_append]
    refine Ev.ite_pos (by rw [B_size, B_size]; omega) (Ev.ite_pos (by rw [B_size, B_size, List.length_append]; omega) ?_)
    refine Ev.bind (Toks_link _ (by rw [List.length_append, List.length_append]; omega)) (Ev.bind (Toks_link _ (by omega)) ?_)
    unfold toksR
    rw [if_neg (by omega), if_neg (by rw [List.length_append, List.length_append]; omega), if_neg (by omega), scan_around, scan_all_blank _ _ (bl9_all i)]
    cases hsc : scan s 0 0 with
    | error e =>
      have he := scan_err2 s 0 0 e hsc
      refine Ev.ite_pos rfl (Ev.ite_pos rfl (Ev.ite_pos rfl (Ev.ite_pos rfl (Ev.ite_neg (by simp [res]) ?_))))
      have hb : ((res [] (Except.error (e + (bl9.take i).length))).2.1 != wrap64 ((res [] (Except.error e)).2.1 + ((B (bl9.take i)).size : Int))) = false := by
        simp only [res]
        rw [B_size, wrap64_nat (by omega) (by omega)]
        simp
      rw [hb]
      refine Ev.step (fun k => tammylaw06_LexBlanks.j1.eq_2 _ _ _ _ _ k) (Ev.ite_neg (by simp) ?_)
      exact bl_l1 (B (bl9.take i)) (by rw [B_size]; omega) [] (by simp) (by simp) 0 0 rfl
    | ok m =>
      have hm := scan_many s 0 0 m hsc
      have hp := scan_pos2 s 0 0 m hsc
      refine Ev.ite_pos rfl (Ev.ite_pos (by simp [res]) (Ev.ite_pos rfl (Ev.ite_pos rfl (Ev.ite_pos rfl ?_))))
      refine Ev.step (fun k => tammylaw06_LexBlanks.j1.eq_2 _ _ _ _ _ k) (Ev.ite_neg (by simp) ?_)
      have := bl_l1 (B (bl9.take i)) (by rw [B_size]; omega) m (by omega) (fun t ht => by have := hp t ht; omega) m.length 0 (by omega)
      rw [B_size] at this
      exact this
  | succ d ih =>
    intro i hi
    have hl := bl9_len i (by omega)
    refine Ev.step (fun k => tammylaw06_LexBlanks.l0.eq_2 _ _ _ _ _ k) (Ev.ite_pos (by rw [ha]; omega) ?_)
    have ht : Int.tmod (i : Int) 3 = ((i % 3 : Nat) : Int) := by rw [Int.tmod_eq_emod_of_nonneg (by omega)]; omega
    refine Ev.ite_pos (by rw [ht]; omega) (Ev.ite_pos (by rw [ht]; omega) ?_)
    refine Ev.bind (Ev.now _) ?_
    have hone : strOfNums [bt (⟨#[32, 9, 10]⟩ : ByteArray) (Int.tmod (i : Int) 3)] = B [UInt8.ofNat (bt (⟨#[32, 9, 10]⟩ : ByteArray) (Int.tmod (i : Int) 3)).toNat] := rfl
    rw [hone, B_append, one_more i (by omega)]
    refine Ev.ite_pos (by rw [B_size, B_size, hl]; simp; omega) ?_
    rw [wrap64_nat (by omega) (by omega), show ((i : Int) + 1) = ((i + 1 : Nat) : Int) from by omega]
    exact ih (i + 1) (by omega)
theorem LexBlanks : tammylaw06_LexBlanks.Pure := by
  intro a0 a1 h0 h1
  obtain ⟨s, rfl⟩ : ∃ l, a0 = B l := ⟨_, B_of a0⟩
  refine Ev.rounds ?_
  unfold tammylaw06_LexBlanks.f
  refine Ev.bind shown_link (Ev.cases_ite (fun h => Ev.now _) (fun h => ?_))
  rw [B_size] at h
  have hr : 0 ≤ a1 ∧ a1 ≤ 255 := by
    have e0 : IntKind.u8.min = 0 := rfl
    have e1 : IntKind.u8.max = 255 := rfl
    simp [Lit.wf] at h1
    omega
  have ht : Int.tmod a1 9 = a1 % 9 := Int.tmod_eq_emod_of_nonneg hr.1
  have hw : wrap64 (Int.tmod a1 9) = ((a1 % 9).toNat : Int) := by rw [ht, wrap64_nat (by omega) (by omega)]; omega
  exact bl_l0 s (by omega) a1 (a1 % 9).toNat (by omega) hw (a1 % 9).toNat 0 (by omega)
end Go.Proofs.YtfjhnljidfdhjaaDoor.Pure
