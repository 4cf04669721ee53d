/-
  LexNumbers, over numbers and lists alone: a number's figures are it; no number has more than nine, nor a nought ahead. (Mine.)
-/
import Derived.Test.YtfjhnljidfdhjaaDoorS
import Derived.Test.YtfjhnljidfdhjaaDoorQx9
set_option linter.unusedVariables false
set_option linter.unusedSimpArgs false
namespace Go.Proofs.YtfjhnljidfdhjaaDoor.Pure
open Go.RowKit Go.Proofs.YtfjhnljidfdhjaaDoorW.PrintWords Go.Proofs.YtfjhnljidfdhjaaDoorW.PrintLast
open Go.Proofs.YtfjhnljidfdhjaaDoor.Q Go.Proofs.YtfjhnljidfdhjaaDoor.M Go.Proofs.YtfjhnljidfdhjaaDoor.L
theorem nums_j1 (s : Bytes) (hs : s.length ≤ 50) (x : Nat) (t : Bytes) (ht : t.length ≤ 9) (hok : numOk t = true) (hv : val 0 t = x) :
    Ev (fun k => tammylaw06_LexNumbers.j1 k (B s) true (x : Int) (B t)) true := by
  have h0 : 0 < t.length := by
    simp only [numOk, Bool.and_eq_true, decide_eq_true_eq] at hok; omega
  refine Ev.step (fun k => tammylaw06_LexNumbers.j1.eq_2 _ _ _ _ k) (Ev.bind (Number_link t (by omega)) ?_)
  refine Ev.ite_pos (by rw [B_size]; omega) ?_
  rw [show (⟨#[48]⟩ : ByteArray) = B [48] from rfl, show (⟨#[48, 48, 48, 48, 48, 48, 48, 48, 48, 48]⟩ : ByteArray) = B [48, 48, 48, 48, 48, 48, 48, 48, 48, 48] from rfl, B_append, B_append]
  refine Ev.bind (Number_link _ (by simp; omega)) (Ev.ite_pos (by rw [B_size]; omega) (Ev.bind (Number_link _ (by simp; omega)) (Ev.bind (Number_link s (by omega)) ?_)))
  have n1 : num ([48] ++ t) = (0, false) := num_no (by
    have : 1 < ([48] ++ t).length := by simp; omega
    simp only [numOk, this]; simp)
  have n2 : num (t ++ [48, 48, 48, 48, 48, 48, 48, 48, 48, 48]) = (0, false) := num_no (by
    have : ¬ (t ++ [48, 48, 48, 48, 48, 48, 48, 48, 48, 48]).length ≤ 9 := by simp
    simp only [numOk, this]; simp)
  rw [num_yes hok, n1, n2, hv]
  refine Ev.ite_pos rfl (Ev.ite_pos rfl (Ev.ite_pos rfl (Ev.ite_neg (by simp) (Ev.ite_neg (by simp) ?_))))
  by_cases h : numOk s = true
  · rw [num_yes h]
    have h2 : 0 < s.length ∧ s.length ≤ 9 := by simp only [numOk, Bool.and_eq_true, decide_eq_true_eq] at h; omega
    refine Ev.ite_pos rfl (Ev.ite_pos (by rw [B_size]; omega) (ev_eq (Ev.now _) ?_))
    rw [B_size]
    exact decide_eq_true (by omega)
  · rw [num_no (by simpa using h)]
    exact Ev.ite_neg (by simp) (Ev.ite_pos rfl (Ev.now _))
theorem nums_l0 (s : Bytes) (hs : s.length ≤ 50) (x : Nat) : ∀ (d m : Nat) (t : Bytes), m < d → val m t = x → t.all fig = true → t.length ≤ 9 → m < 10 ^ (9 - t.length) → (m = 0 → t ≠ [] → t.head? ≠ some 48) → (t = [] → m = x) →
    Ev (fun k => tammylaw06_LexNumbers.l0 k (B s) true (x : Int) (B t) (m : Int)) true := by
  intro d
  induction d with
  | zero => intro m t h; omega
  | succ d ih =>
    intro m t hd hv hf ht hm hh h0
    have hp : 10 ^ (9 - t.length) ≤ 10 ^ 9 := Nat.pow_le_pow_right (by omega) (by omega)
    have hp9 : (10 : Nat) ^ 9 = 1000000000 := rfl
    refine Ev.step (fun k => tammylaw06_LexNumbers.l0.eq_2 _ _ _ _ _ k) (Ev.cases_ite (fun h => ?_) (fun h => ?_))
    · refine Ev.bind (Ev.now _) ?_
      have e1 : Int.tmod (m : Int) 10 = ((m % 10 : Nat) : Int) := by rw [Int.tmod_eq_emod_of_nonneg (by omega)]; omega
      have e2 : Int.tdiv (m : Int) 10 = ((m / 10 : Nat) : Int) := by rw [Int.tdiv_eq_ediv_of_nonneg (by omega)]; omega
      rw [e1, e2, wrap64_nat (x := 48 + ((m % 10 : Nat) : Int)) (by omega) (by omega), wrap64_nat (x := ((m / 10 : Nat) : Int)) (by omega) (by omega)]
      have hone : strOfNums [(48 + ((m % 10 : Nat) : Int)) % 256] = B [UInt8.ofNat (48 + m % 10)] := by
        unfold strOfNums B
        rw [List.map_cons, List.map_nil, show ((48 + ((m % 10 : Nat) : Int)) % 256).toNat = 48 + m % 10 from by omega]
      rw [hone, B_append]
      have hc : (UInt8.ofNat (48 + m % 10)).toNat = 48 + m % 10 := by
        rw [UInt8.toNat_ofNat']; omega
      have htl : t.length < 9 := by
        rcases Nat.lt_or_ge t.length 9 with h9 | h9
        · exact h9
        · rw [show 9 - t.length = 0 from by omega] at hm; simp at hm; omega
      refine Ev.ite_pos (by rw [B_size, B_size]; simp; omega) ?_
      refine ih (m / 10) ([UInt8.ofNat (48 + m % 10)] ++ t) (by omega) ?_ ?_ (by simp; omega) ?_ ?_ (by simp)
      · show val (m / 10 * 10 + ((UInt8.ofNat (48 + m % 10)).toNat - 48)) t = x
        rw [hc, show m / 10 * 10 + (48 + m % 10 - 48) = m from by omega]; exact hv
      · rw [List.all_append, hf, Bool.and_true]
        simp only [List.all_cons, List.all_nil, Bool.and_true, fig, hc, Bool.and_eq_true, decide_eq_true_eq]; omega
      · have : 10 ^ (9 - t.length) = 10 ^ (9 - (t.length + 1)) * 10 := by rw [← Nat.pow_succ]; congr 1; omega
        rw [List.length_append, List.length_singleton, Nat.add_comm 1]; omega
      · intro hm0 _ he
        have he2 : UInt8.ofNat (48 + m % 10) = 48 := by simpa using he
        have := congrArg UInt8.toNat he2
        rw [hc] at this
        have h48 : (48 : UInt8).toNat = 48 := rfl
        omega
    · have hm0 : m = 0 := by omega
      subst hm0
      refine Ev.cases_ite (fun h1 => ?_) (fun h1 => ?_)
      · obtain rfl : x = 0 := by omega
        exact nums_j1 s hs 0 [48] (by simp) rfl rfl
      · have hne : t ≠ [] := fun e => h1 (by rw [← h0 e]; rfl)
        refine nums_j1 s hs x t ht ?_ hv
        have h2 : 0 < t.length := List.length_pos_iff.2 hne
        have h3 := hh rfl hne
        simp [numOk, h2, ht, hf, h3]
theorem LexNumbers : tammylaw06_LexNumbers.Pure := by
  intro a0 a1 h0 h1
  obtain ⟨s, rfl⟩ : ∃ l, a1 = B l := ⟨_, B_of a1⟩
  refine Ev.rounds ?_
  unfold tammylaw06_LexNumbers.f
  refine Ev.bind shown_link (Ev.cases_ite (fun h => Ev.now _) (fun h => ?_))
  rw [B_size] at h
  have hr : 0 ≤ a0 ∧ a0 ≤ 4294967295 := by
    have e0 : IntKind.u32.min = 0 := rfl
    have e1 : IntKind.u32.max = 4294967295 := rfl
    simp [Lit.wf] at h0
    omega
  have hw : wrap64 (Int.tmod a0 1000000000) = ((a0 % 1000000000).toNat : Int) := by
    rw [Int.tmod_eq_emod_of_nonneg hr.1, wrap64_nat (by omega) (by omega)]; omega
  rw [hw]
  have hlt : (a0 % 1000000000).toNat < 10 ^ 9 := by rw [show (10 : Nat) ^ 9 = 1000000000 from rfl]; omega
  exact nums_l0 s (by omega) (a0 % 1000000000).toNat ((a0 % 1000000000).toNat + 1) (a0 % 1000000000).toNat [] (by omega) rfl rfl (by simp) hlt (by simp) (fun _ => rfl)
end Go.Proofs.YtfjhnljidfdhjaaDoor.Pure
