import Derived.Test.YtniaooodlccmcaaGreatDoorEC
import Derived.Test.YtniaooodlccmcaaGreatDoorQx14
set_option linter.unusedVariables false
set_option linter.unusedSimpArgs false
namespace Go.Proofs.YtniaooodlccmcaaGreatDoor.E
open Go.RowKit Go.Proofs.YtniaooodlccmcaaGreatDoorW.PrintWords Go.Proofs.YtniaooodlccmcaaGreatDoorW.PrintLast
open Go.Proofs.YtniaooodlccmcaaGreatDoor.Q Go.Proofs.YtniaooodlccmcaaGreatDoor.M Go.Proofs.YtniaooodlccmcaaGreatDoor.L
theorem lam_bd {f : Nat → Nat} (hf : ∀ x, f x ≤ x) (k : Nat) (ih : ∀ e, e < k → ∀ i, i < e → i < f e ∨ f e ≤ f i) : ∀ (p b : Nat), b ≤ k → ∀ i, i < b → i < bd f b p ∨ bd f b p ≤ f i
 | 0, b, _, i, hi => .inl hi
 | p + 1, b, hb, i, hi => by
  have h1 := hf (b - 1)
  have h2 := bd_le hf p (f (b - 1))
  show i < bd f (f (b - 1)) p ∨ bd f (f (b - 1)) p ≤ f i
  by_cases hlt : i < f (b - 1)
  ·exact lam_bd hf k ih p (f (b - 1)) (by omega) i hlt
  ·right
   by_cases e : i = b - 1
   ·subst e; exact h2
   ·rcases ih (b - 1) (by omega) i (by omega) with h | h <;> omega
theorem lam (l : List S38) : ∀ k i, i < k → i < S l k ∨ S l k ≤ S l i := by
 intro k
 induction k using Nat.strongRecOn with
 | _ k ih =>
  intro i hi
  rw [S_eq l k]
  exact lam_bd (S_le l) k (fun e he i hi => ih e he i hi) _ k (Nat.le_refl _) i hi
structure Sub (l m : List S38) (s j : Nat) : Prop where
 node : ∀ x, s ≤ x → x ≤ j → nodeAt m (x - s) = nodeAt l x
 at_ : ∀ x, s ≤ x → x < j → S m (x - s) + s = S l x
theorem sub_bd {l m : List S38} {s j : Nat} (h : Sub l m s j) : ∀ (r b : Nat), s ≤ b → b ≤ j → Vc (S l) b r → s ≤ bd (S l) b r → bd (S m) (b - s) r + s = bd (S l) b r ∧ Vc (S m) (b - s) r
 | 0, b, hb, _, _, _ => ⟨by show b - s + s = b; omega, trivial⟩
 | r + 1, b, hb, hj, hv, hs => by
  have h1 := bd_le (S_le l) r (S l (b - 1))
  have h2 := S_le l (b - 1)
  have h0 := hv.1
  have hs' : s ≤ bd (S l) (S l (b - 1)) r := hs
  have ha := h.at_ (b - 1) (by omega) (by omega)
  have e : S m (b - s - 1) = S l (b - 1) - s := by rw [show b - s - 1 = b - 1 - s from by omega]; omega
  obtain ⟨i1, i2⟩ := sub_bd h r (S l (b - 1)) (by omega) (by omega) hv.2 hs'
  refine ⟨?_, by omega, ?_⟩
  ·show bd (S m) (S m (b - s - 1)) r + s = bd (S l) (S l (b - 1)) r
   rw [e]; exact i1
  ·show Vc (S m) (S m (b - s - 1)) r
   rw [e]; exact i2
theorem sub_aD {l m : List S38} {s j : Nat} (h : Sub l m s j) (hd : ∀ x, s ≤ x → x < j → D m (x - s) = D l x) : ∀ (r b : Nat), s ≤ b → b ≤ j → Vc (S l) b r → s ≤ bd (S l) b r → aD (S m) (D m) (b - s) r = aD (S l) (D l) b r
 | 0, b, _, _, _, _ => rfl
 | r + 1, b, hb, hj, hv, hs => by
  have h1 := bd_le (S_le l) r (S l (b - 1))
  have h2 := S_le l (b - 1)
  have h0 := hv.1
  have hs' : s ≤ bd (S l) (S l (b - 1)) r := hs
  have ha := h.at_ (b - 1) (by omega) (by omega)
  have e : S m (b - s - 1) = S l (b - 1) - s := by rw [show b - s - 1 = b - 1 - s from by omega]; omega
  show max (aD (S m) (D m) (S m (b - s - 1)) r) (D m (b - s - 1)) = max (aD (S l) (D l) (S l (b - 1)) r) (D l (b - 1))
  rw [e, sub_aD h hd r (S l (b - 1)) (by omega) (by omega) hv.2 hs', show b - s - 1 = b - 1 - s from by omega, hd (b - 1) (by omega) (by omega)]
theorem sub_all {l m : List S38} {s i : Nat} (hr : Rt l (i + 1)) (hn : ∀ x, s ≤ x → x ≤ i → nodeAt m (x - s) = nodeAt l x) (hS : ∀ x, s ≤ x → x ≤ i → s ≤ S l x) : ∀ j, s ≤ j → j ≤ i → S m (j - s) + s = S l j ∧ Vc (S m) (j - s) (pOf (nodeAt m (j - s))) := by
 intro j
 induction j using Nat.strongRecOn with
 | _ j ih =>
  intro hs hj
  have hsub : Sub l m s j := ⟨fun x h1 h2 => hn x h1 (by omega), fun x h1 h2 => (ih x h2 h1 (by omega)).1⟩
  have hv := (hr j (by omega)).2
  have hge := hS j hs hj
  rw [S_eq l j] at hge
  obtain ⟨h1, h2⟩ := sub_bd hsub (pOf (nodeAt l j)) j hs (Nat.le_refl _) hv hge
  rw [hn j hs hj]
  refine ⟨?_, h2⟩
  rw [S_eq m, hn j hs hj, S_eq l j]
  exact h1
theorem nD_congr {l m : List S38} {f g : Nat → Nat} {x y : Nat → Nat} {i j : Nat} (hn : nodeAt m i = nodeAt l j)
  (h3 : (nodeAt l j).f0 = 3 → aD f x i (nodeAt l j).f2.toNat = aD g y j (nodeAt l j).f2.toNat) (h6 : (nodeAt l j).f0 = 6 → x (i - 1) = y (j - 1))
  (h2 : ∀ u, (nodeAt l j).f0 = k2 u → (nodeAt m (f (i - 1) - 1)).f0 = (nodeAt l (g (j - 1) - 1)).f0 ∧ x (f (i - 1) - 1) = y (g (j - 1) - 1) ∧ (nodeAt m (i - 1)).f0 = (nodeAt l (j - 1)).f0 ∧ x (i - 1) = y (j - 1))
  (hm : mayB (nodeAt l j) = true) : nD m f x i = nD l g y j := by
 rcases may_cases hm with hc | hc | hc | ⟨hc, hp, hge⟩ | ⟨u, hc, hp⟩ | ⟨hc, hp, hge, hle⟩
 ·unfold nD; simp only; rw [hn, if_pos hc, if_pos hc]
 ·unfold nD; simp only; rw [hn, if_neg (by omega), if_pos hc, if_neg (by omega), if_pos hc]
 ·unfold nD; simp only; rw [hn, if_neg (by omega), if_neg (by omega), if_pos hc, if_neg (by omega), if_neg (by omega), if_pos hc]
 ·have e := h3 hc
  unfold nD; simp only [hn, e, hc]
  rfl
 ·obtain ⟨a, b, c, d⟩ := h2 u hc
  rw [nD_two (u := u) (by rw [hn]; exact hc), nD_two hc, a, b, c, d]
 ·unfold nD; simp only
  rw [hn, if_neg (by omega), if_neg (by omega), if_neg (by omega), if_neg (by omega), if_pos hc, if_neg (by omega), if_neg (by omega), if_neg (by omega), if_neg (by omega), if_pos hc, h6 hc]
theorem sub_deep {l m : List S38} {s i : Nat} (hr : Rt l (i + 1)) (hrm : Rt m (i + 1 - s)) (hn : ∀ x, s ≤ x → x ≤ i → nodeAt m (x - s) = nodeAt l x) (hS : ∀ x, s ≤ x → x ≤ i → s ≤ S l x) : ∀ j, s ≤ j → j ≤ i → D m (j - s) = D l j := by
 intro j
 induction j using Nat.strongRecOn with
 | _ j ih =>
  intro hs hj
  have hall := sub_all hr hn hS
  have hsub : Sub l m s j := ⟨fun x h1 h2 => hn x h1 (by omega), fun x h1 h2 => (hall x h1 (by omega)).1⟩
  have hv := (hr j (by omega)).2
  have hm := (hr j (by omega)).1
  have hge := hS j hs hj
  rw [S_eq l j] at hge
  rw [D_eq (l := m) (i := j - s) (fun x hx => hrm x (by omega)), D_eq (l := l) (i := j) (fun x hx => hr x (by omega))]
  have hd : ∀ x, s ≤ x → x < j → D m (x - s) = D l x := fun x h1 h2 => ih x h2 h1 (by omega)
  refine nD_congr (hn j hs hj) (fun h3 => ?_) (fun h6 => ?_) (fun u hu => ?_) hm
  ·have hp : pOf (nodeAt l j) = (nodeAt l j).f2.toNat := by unfold pOf; rw [if_neg (by omega)]
   rw [← hp]
   exact sub_aD hsub hd _ j hs (Nat.le_refl _) hv hge
  ·have hp : pOf (nodeAt l j) = 1 := by unfold pOf; rw [if_pos h6]
   rw [hp] at hv hge
   have h0 := hv.1
   have hge' : s ≤ S l (j - 1) := hge
   have := S_le l (j - 1)
   rw [show j - s - 1 = j - 1 - s from by omega]
   exact hd (j - 1) (by omega) (by omega)
  ·have hp : pOf (nodeAt l j) = 2 := by
    rcases may_cases hm with hc | hc | hc | ⟨hc, _, _⟩ | ⟨u, hc, hp⟩ | ⟨hc, _, _, _⟩
    ·rw [hc] at hu; cases u <;> simp [k2] at hu
    ·rw [hc] at hu; cases u <;> simp [k2] at hu
    ·rw [hc] at hu; cases u <;> simp [k2] at hu
    ·rw [hc] at hu; cases u <;> simp [k2] at hu
    ·exact hp
    ·rw [hc] at hu; cases u <;> simp [k2] at hu
   rw [hp] at hv hge
   have h0 := hv.1
   have h1 : 0 < S l (j - 1) := hv.2.1
   have hge' : s ≤ S l (S l (j - 1) - 1) := hge
   have a1 := S_le l (j - 1)
   have a2 := S_le l (S l (j - 1) - 1)
   have ha := hsub.at_ (j - 1) (by omega) (by omega)
   have e1 : j - s - 1 = j - 1 - s := by omega
   have e2 : S m (j - 1 - s) - 1 = S l (j - 1) - 1 - s := by omega
   rw [e1, e2]
   exact ⟨by rw [hn _ (by omega) (by omega)], hd _ (by omega) (by omega), by rw [hn _ (by omega) (by omega)], hd _ (by omega) (by omega)⟩
theorem aD_ge {l : List S38} {k i : Nat} (ih : ∀ e, e < k → ∀ i, S l e ≤ i → i ≤ e → D l i ≤ D l e) : ∀ (p b : Nat), b ≤ k → bd (S l) b p ≤ i → i < b → D l i ≤ aD (S l) (D l) b p
 | 0, b, _, h1, h2 => by have h1 : b ≤ i := h1; omega
 | p + 1, b, hb, h1, h2 => by
  have h3 := S_le l (b - 1)
  have h1' : bd (S l) (S l (b - 1)) p ≤ i := h1
  show D l i ≤ max (aD (S l) (D l) (S l (b - 1)) p) (D l (b - 1))
  by_cases hlt : i < S l (b - 1)
  ·have := aD_ge ih p (S l (b - 1)) (by omega) h1' hlt
   omega
  ·have := ih (b - 1) (by omega) i (by omega) (by omega)
   omega
theorem brD_ge (c : Bool) (d : Nat) : d ≤ brD c d := by
 cases c
 ·exact Nat.le_refl _
 ·exact Nat.le_succ _
theorem D_aD {l : List S38} {k : Nat} (hr : Rt l (k + 1)) : aD (S l) (D l) k (pOf (nodeAt l k)) ≤ D l k := by
 have hm := (hr k (by omega)).1
 rw [D_eq hr]
 rcases may_cases hm with hc | hc | hc | ⟨hc, hp, hge⟩ | ⟨u, hc, hp⟩ | ⟨hc, hp, hge, hle⟩
 ·have hp : pOf (nodeAt l k) = 0 := by
   unfold mayB at hm; rw [if_pos (.inl hc)] at hm
   simp only [Bool.and_eq_true, beq_iff_eq] at hm
   unfold pOf; rw [if_neg (by omega), hm.2]; rfl
  rw [hp]; exact Nat.zero_le _
 ·have hp : pOf (nodeAt l k) = 0 := by
   unfold mayB at hm; rw [if_pos (.inr hc)] at hm
   simp only [Bool.and_eq_true, beq_iff_eq] at hm
   unfold pOf; rw [if_neg (by omega), hm.2]; rfl
  rw [hp]; exact Nat.zero_le _
 ·have hp : pOf (nodeAt l k) = 0 := by
   unfold mayB at hm; rw [if_neg (by omega), if_pos hc] at hm
   simp only [Bool.and_eq_true, beq_iff_eq] at hm
   unfold pOf; rw [if_neg (by omega), hm.2]; rfl
  rw [hp]; exact Nat.zero_le _
 ·unfold nD; simp only
  rw [if_neg (by omega), if_neg (by omega), if_neg (by omega), if_pos hc, hp]
  by_cases hz : (nodeAt l k).f2 = 0
  ·rw [if_pos hz, hz]; exact Nat.le_refl _
  ·rw [if_neg hz]; omega
 ·rw [nD_two hc, hp]
  show max (max 0 (D l (S l (k - 1) - 1))) (D l (k - 1)) ≤ _
  have h1 := brD_ge (oddL u (nodeAt l (S l (k - 1) - 1)).f0) (D l (S l (k - 1) - 1))
  have h2 := brD_ge (isTwo (nodeAt l (k - 1)).f0) (D l (k - 1))
  omega
 ·unfold nD; simp only
  rw [if_neg (by omega), if_neg (by omega), if_neg (by omega), if_neg (by omega), if_pos hc, hp]
  show max 0 (D l (k - 1)) ≤ _
  omega
theorem D_in {l : List S38} {n : Nat} (hr : Rt l n) : ∀ k, k < n → ∀ i, S l k ≤ i → i ≤ k → D l i ≤ D l k := by
 intro k
 induction k using Nat.strongRecOn with
 | _ k ih =>
  intro hk i h1 h2
  by_cases e : i = k
  ·subst e; exact Nat.le_refl _
  ·have h := aD_ge (l := l) (k := k) (i := i) (fun e he j hj1 hj2 => ih e he (by omega) j hj1 hj2) (pOf (nodeAt l k)) k (Nat.le_refl _) (by rw [← S_eq]; exact h1) (by omega)
   have := D_aD (l := l) (k := k) (fun j hj => hr j (by omega))
   omega
theorem sub_right {l : List S38} (hw : Rw l) (hM : much l ≤ 600) (hd : D l (l.length - 1) ≤ 40) {i : Nat} (hi : i < l.length) : Ev (fun k => expr_Right.f k (span l (S l i) (i + 1))) true := by
 have hle := S_le l i
 have hlm := len_much l
 obtain ⟨m, hm⟩ : ∃ m, span l (S l i) (i + 1) = m := ⟨_, rfl⟩
 have hlen : m.length = i + 1 - S l i := by
  rw [← hm]; unfold span; rw [List.length_take, List.length_drop]; omega
 have hmm := much_span l (S l i) (i + 1)
 rw [hm] at hmm ⊢
 have hn : ∀ x, S l i ≤ x → x ≤ i → nodeAt m (x - S l i) = nodeAt l x := by
  intro x h1 h2
  unfold nodeAt
  rw [← hm]
  unfold span
  rw [List.getD_eq_getElem?_getD, List.getD_eq_getElem?_getD, List.getElem?_take_of_lt (by omega), List.getElem?_drop, show S l i + (x - S l i) = x from by omega]
 have hS : ∀ x, S l i ≤ x → x ≤ i → S l i ≤ S l x := by
  intro x h1 h2
  by_cases e : x = i
  ·subst e; exact Nat.le_refl _
  ·rcases lam l i x (by omega) with h | h <;> omega
 have hr : Rt l (i + 1) := fun j hj => hw.1 j (by omega)
 have hall := sub_all hr hn hS
 have hrm : Rt m (i + 1 - S l i) := by
  intro j hj
  have h1 := hn (j + S l i) (by omega) (by omega)
  have h2 := (hall (j + S l i) (by omega) (by omega)).2
  rw [Nat.add_sub_cancel] at h1 h2
  exact ⟨by rw [h1]; exact (hr (j + S l i) (by omega)).1, h2⟩
 have hlast := (hall i (by omega) (Nat.le_refl _)).1
 have hwm : Rw m := by
  refine ⟨by rw [hlen]; exact hrm, by omega, ?_⟩
  show S m (m.length - 1) = 0
  rw [hlen, show i + 1 - S l i - 1 = i - S l i from by omega]
  omega
 refine ev_eq (Right_own_of (by omega) (by omega) hwm) ?_
 rw [decide_eq_true_eq, hlen, show i + 1 - S l i - 1 = i - S l i from by omega, sub_deep hr hrm hn hS i (by omega) (Nat.le_refl _)]
 have h0 := (Cn.whole hw.2).2
 have := D_in hw.1 (l.length - 1) (by omega) i (by omega) (by omega)
 omega
theorem law_starts (l : List S38) (i k : Int) (hl : l.length ≤ 140737488355328) (hs : ∀ t ∈ l, t.f1.size ≤ 140737488351232) : ∃ n, tammylaw07_ExprStarts.f n l i k = some true := by
 refine Ev.rounds (g := fun n => tammylaw07_ExprStarts.f n l i k) ?_
 unfold tammylaw07_ExprStarts.f
 have hup : Ev (fun n => tammylaw07_ExprStarts.j0 n l i k true true) true := Ev.step (fun k => tammylaw07_ExprStarts.j0.eq_2 _ _ _ _ _ k) (Ev.ite_pos rfl (Ev.now _))
 refine Ev.bind shown_link (Ev.bind (Few_link hl hs) (Ev.cases_ite (fun hf => ?_) (fun _ => hup)))
 rw [decide_eq_true_eq] at hf
 have hlm := len_much l
 rcases Right_ref (l := l) (by omega) (by omega) with h | ⟨hw, h⟩
 ·exact Ev.bind h (Ev.ite_neg (by decide) hup)
 refine Ev.bind h (Ev.cases_ite (fun hd => ?_) (fun _ => hup))
 rw [decide_eq_true_eq] at hd
 refine Ev.cases_ite (fun _ => hup) (fun hi0 => Ev.cases_ite (fun _ => hup) (fun hik => ?_))
 by_cases hk : k ≥ (l.length : Int)
 ·rw [decide_eq_true hk]; exact hup
 rw [decide_eq_false hk]
 obtain ⟨a, rfl⟩ : ∃ a : Nat, i = (a : Int) := ⟨i.toNat, by omega⟩
 obtain ⟨b, rfl⟩ : ∃ b : Nat, k = (b : Int) := ⟨k.toNat, by omega⟩
 have hlen := stL_len l l.length
 have ha := stL_rd l l.length a (by omega)
 have hb := stL_rd l l.length b (by omega)
 have hla := stL_rd l l.length (l.length - 1) (by omega)
 have hSa := S_le l a
 have hSb := S_le l b
 have h0 := (Cn.whole hw.2).2
 have e0 : wrap64 ((l.length : Int) - 1) = ((l.length - 1 : Nat) : Int) := by rw [w64 (by omega) (by omega)]; omega
 have e1 : wrap64 ((a : Int) + 1) = ((a + 1 : Nat) : Int) := by rw [w64 (by omega) (by omega)]; omega
 refine Ev.step (fun k => tammylaw07_ExprStarts.j0.eq_2 _ _ _ _ _ k) (Ev.ite_neg (by decide) (Ev.bind (Starts_own hw.1 (by omega)) ?_))
 rw [hlen, e0, e1, ha, hb, hla, h0]
 clear e0 e1 ha hb hla hlen
 have hsub : ∀ y : List S38, y = [] → Ev (fun n => if y.length + ((l.take ((a + 1 : Nat) : Int).toNat).drop ((S l a : Nat) : Int).toNat).length < 4398046511104 then ((expr_Right.f n (y ++ (l.take ((a + 1 : Nat) : Int).toNat).drop ((S l a : Nat) : Int).toNat)).bind fun t288 => (some t288)) else (none)) true := by
  intro y hy
  subst hy
  rw [Int.toNat_natCast, Int.toNat_natCast, List.nil_append]
  have e : (l.take (a + 1)).drop (S l a) = span l (S l a) (a + 1) := by unfold span; rw [List.drop_take]
  rw [e]
  refine Ev.ite_pos ?_ (Ev.bind (sub_right hw hf hd (by omega)) (Ev.now _))
  unfold span
  rw [List.length_take, List.length_drop, List.length_nil]; omega
 refine Ev.ite_pos rfl (Ev.ite_pos (by omega) (Ev.ite_pos (by omega) (Ev.ite_pos rfl (Ev.ite_pos (by omega) (Ev.ite_pos (by omega) (Ev.ite_neg (by omega) (Ev.ite_neg (by omega) (Ev.ite_pos (by omega) (Ev.ite_pos (by omega) (Ev.ite_neg (by omega) (Ev.ite_neg (by omega) (Ev.ite_pos rfl ?_))))))))))))
 refine Ev.cases_ite (fun hc => ?_) (fun hc => ?_)
 ·exact Ev.bind (Ev.now _) (Ev.ite_pos (by omega) (Ev.ite_pos (by omega) (Ev.ite_pos (by omega) (Ev.bind (Ev.now _) (hsub [] rfl)))))
 ·refine Ev.ite_pos ?_ (Ev.bind (Ev.now _) (Ev.ite_pos (by omega) (Ev.ite_pos (by omega) (Ev.ite_pos (by omega) (Ev.bind (Ev.now _) (hsub [] rfl))))))
  rcases lam l b a (by omega) with h | h <;> omega
end Go.Proofs.YtniaooodlccmcaaGreatDoor.E

