/-
  LexJoins, over numbers and lists alone: two texts with a blank between have the tokens of the first, and then those of the second. (Mine.)
-/
import Derived.Test.YtfjhnljidfdhjaaDoorS
import Derived.Test.YtfjhnljidfdhjaaDoorQx8
set_option linter.unusedVariables false
set_option linter.unusedSimpArgs false
namespace Go.Proofs.YtfjhnljidfdhjaaDoor.Pure
open Go.RowKit Go.Proofs.YtfjhnljidfdhjaaDoorW.PrintWords Go.Proofs.YtfjhnljidfdhjaaDoorW.PrintLast
open Go.Proofs.YtfjhnljidfdhjaaDoor.Q Go.Proofs.YtfjhnljidfdhjaaDoor.M Go.Proofs.YtfjhnljidfdhjaaDoor.L
theorem scan_two (a b : Bytes) : scan (a ++ 32 :: b) 0 0 = match scan a 0 0 with
    | .error e => .error e
    | .ok m => (match scan b 0 0 with | .error e => .error (e + (a.length + 1)) | .ok z => .ok (m ++ z.map (shift (a.length + 1)))) := by
  rw [scan_append (32 :: b) (by intro c h; obtain rfl := Option.some.inj h; rfl) a 0 0 (Nat.zero_le _)]
  have h1 : scan (32 :: b) 0 (0 + a.length) = match scan b 0 0 with | .error e => .error (e + (a.length + 1)) | .ok z => .ok (z.map (shift (a.length + 1))) := by
    rw [scan_blank 32 b _ rfl, show 0 + a.length + 1 = 0 + (a.length + 1) from by omega, scan_shift b 0 0 (a.length + 1)]
    cases scan b 0 0 <;> rfl
  rw [h1]
  cases scan a 0 0 with
  | error e => rfl
  | ok m => cases scan b 0 0 <;> rfl
theorem join_l0 (a : ByteArray) (ha : a.size ≤ 1000) (m z : List Tk) (hm : m.length ≤ 1000) (hz : z.length ≤ 1000) (hp : ∀ t ∈ z, t.pos ≤ 1000) : ∀ (d i : Nat), i + d = m.length + z.length →
    Ev (fun k => tammylaw06_LexJoins.l0 k a true (m.map enc) (z.map enc) ((m ++ z.map (shift (a.size + 1))).map enc) (i : Int)) true := by
  intro d
  induction d with
  | zero =>
    intro i hi
    exact Ev.step (fun k => tammylaw06_LexJoins.l0.eq_2 _ _ _ _ _ _ k) (Ev.ite_neg (by simp only [List.length_map, List.length_append]; omega) (Ev.now _))
  | succ d ih =>
    intro i hi
    have next : Ev (fun k => tammylaw06_LexJoins.l0 k a true (m.map enc) (z.map enc) ((m ++ z.map (shift (a.size + 1))).map enc) (wrap64 ((i : Int) + 1))) true := by
      rw [wrap64_nat (by omega) (by omega), show ((i : Int) + 1) = ((i + 1 : Nat) : Int) from by omega]
      exact ih (i + 1) (by omega)
    have hlen : ((m ++ z.map (shift (a.size + 1))).map enc).length = m.length + z.length := by simp
    have hlm : (m.map enc).length = m.length := by simp
    have hlz : (z.map enc).length = z.length := by simp
    refine Ev.step (fun k => tammylaw06_LexJoins.l0.eq_2 _ _ _ _ _ _ k) (Ev.ite_pos (by omega) ?_)
    rw [rd_at _ i (by omega)]
    refine Ev.cases_ite (fun h1 => ?_) (fun h1 => ?_)
    · rw [hlm] at h1
      rw [rd_at _ i (by omega)]
      refine Ev.ite_pos (by omega) (Ev.ite_neg ?_ (Ev.ite_neg (by omega) next))
      rw [ne_text]
      have : ((m ++ z.map (shift (a.size + 1))).map enc)[i]'(by omega) = (m.map enc)[i]'(by omega) := by
        rw [List.getElem_map, List.getElem_map, List.getElem_append_left (by omega)]
      rw [this, eq32_refl]; simp
    · rw [hlm] at h1
      have hj : i - m.length < z.length := by omega
      have hw : wrap64 ((i : Int) - ((m.map enc).length : Int)) = ((i - m.length : Nat) : Int) := by
        rw [hlm, wrap64_nat (by omega) (by omega)]; omega
      refine Ev.ite_pos (by omega) (Ev.ite_pos (by omega) ?_)
      simp only [hw]
      refine Ev.ite_pos (by omega) (Ev.ite_pos (by omega) ?_)
      rw [rd_at _ (i - m.length) (by omega)]
      have e1 : ((m ++ z.map (shift (a.size + 1))).map enc)[i]'(by omega) = enc (shift (a.size + 1) z[i - m.length]) := by
        rw [List.getElem_map, List.getElem_append_right (by omega), List.getElem_map]
      have e2 : (z.map enc)[i - m.length]'(by omega) = enc z[i - m.length] := List.getElem_map ..
      rw [e1, e2]
      have hpos := hp z[i - m.length] (List.getElem_mem hj)
      refine Ev.ite_pos rfl (Ev.ite_pos ?_ next)
      show ((z[i - m.length].pos + (a.size + 1) : Nat) : Int) = wrap64 (wrap64 ((z[i - m.length].pos : Int) + (a.size : Int)) + 1)
      rw [wrap64_nat (x := (z[i - m.length].pos : Int) + (a.size : Int)) (by omega) (by omega), wrap64_nat (by omega) (by omega)]; omega
theorem scan_pos : ∀ (l : Bytes) (s p : Nat) (m : List Tk), scan l s p = .ok m → ∀ t ∈ m, t.pos ≤ p + l.length
  | [], s, p, m, h => by simp only [scan, Except.ok.injEq] at h; subst h; simp
  | c :: r, s + 1, p, m, h => by
    simp only [scan] at h
    intro t ht
    have := scan_pos r s (p + 1) m h t ht
    rw [List.length_cons]; omega
  | c :: r, 0, p, m, h => by
    simp only [scan] at h
    rw [List.length_cons]
    split at h
    · intro t ht; have := scan_pos r 0 (p + 1) m h t ht; omega
    · split at h
      · cases h
      · rename_i k n _
        cases hs : scan r (n - 1) (p + 1) with
        | error e => rw [hs] at h; cases h
        | ok z =>
          rw [hs] at h
          simp only [Except.ok.injEq] at h
          subst h
          intro t ht
          rcases List.mem_cons.1 ht with rfl | ht
          · simp only; omega
          · have := scan_pos r (n - 1) (p + 1) z hs t ht; omega
theorem LexJoins : tammylaw06_LexJoins.Pure := by
  intro a0 a1 h0 h1
  obtain ⟨a, rfl⟩ : ∃ l, a0 = B l := ⟨_, B_of a0⟩
  obtain ⟨b, rfl⟩ : ∃ l, a1 = B l := ⟨_, B_of a1⟩
  have e32 : (⟨#[32]⟩ : ByteArray) = B [32] := rfl
  refine Ev.rounds ?_
  unfold tammylaw06_LexJoins.f
  simp only [e32, B_append, B_size] at h0 h1 ⊢
  rw [wrap64_nat (by omega) (by omega)]
  refine Ev.bind shown_link (Ev.cases_ite (fun h => Ev.now _) (fun h => ?_))
  have hab : a ++ [32] ++ b = a ++ 32 :: b := by simp
  rw [hab]
  have hlen : (a ++ 32 :: b).length = a.length + b.length + 1 := by simp; omega
  refine Ev.bind (Toks_link a (by omega)) (Ev.bind (Toks_link b (by omega)) (Ev.ite_pos (by omega) (Ev.ite_pos (by rw [List.length_append]; simp; omega) (Ev.bind (Toks_link (a ++ 32 :: b) (by omega)) ?_))))
  unfold toksR
  rw [if_neg (by omega), if_neg (by omega), if_neg (by omega), scan_two]
  cases ha : scan a 0 0 with
  | error e =>
    exact Ev.ite_neg (by simp [res]) (Ev.ite_pos rfl (Ev.ite_pos rfl (ev_eq (Ev.now _) (by simp [res]))))
  | ok m =>
    cases hb : scan b 0 0 with
    | error e =>
      exact Ev.ite_pos rfl (Ev.ite_neg (by simp [res]) (Ev.ite_pos rfl (Ev.ite_pos rfl (ev_eq (Ev.now _) (by simp [res])))))
    | ok z =>
      have hm := scan_many a 0 0 m ha
      have hz := scan_many b 0 0 z hb
      have hp := scan_pos b 0 0 z hb
      refine Ev.ite_pos rfl (Ev.ite_pos rfl (Ev.ite_pos rfl ?_))
      simp only [res, List.nil_append]
      have hne : (((m ++ z.map (shift (a.length + 1))).map enc).length != wrap64 (((m.map enc).length : Int) + ((z.map enc).length : Int)) : Bool) = false := by
        rw [wrap64_nat (by simp only [List.length_map]; omega) (by simp only [List.length_map]; omega)]
        simp
      rw [hne]
      refine Ev.step (fun k => tammylaw06_LexJoins.j0.eq_2 _ _ _ _ _ _ k) (Ev.ite_neg (by simp) ?_)
      have := join_l0 (B a) (by rw [B_size]; omega) m z (by omega) (by omega) (fun t ht => by have := hp t ht; omega) (m.length + z.length) 0 (by omega)
      rw [B_size] at this
      exact this
end Go.Proofs.YtfjhnljidfdhjaaDoor.Pure
