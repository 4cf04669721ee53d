import Derived.Test.YtniaooodlccmcaaGreatDoorDz
import Derived.Test.YtniaooodlccmcaaGreatDoorEB
set_option linter.unusedVariables false
set_option linter.unusedSimpArgs false
namespace Go.Proofs.YtniaooodlccmcaaGreatDoor.E
open Go.RowKit Go.Proofs.YtniaooodlccmcaaGreatDoorW.PrintWords Go.Proofs.YtniaooodlccmcaaGreatDoorW.PrintLast
open Go.Proofs.YtniaooodlccmcaaGreatDoor.Q Go.Proofs.YtniaooodlccmcaaGreatDoor.M Go.Proofs.YtniaooodlccmcaaGreatDoor.L
theorem much_span (l : List S38) (a b : Nat) : much (span l a b) ≤ much l := by
 have h1 := much_app (l.take a) (l.drop a)
 have h2 := much_app ((l.drop a).take (b - a)) ((l.drop a).drop (b - a))
 rw [List.take_append_drop] at h1 h2
 unfold span
 omega
theorem X_len {l : List S38} (hr : Rt l l.length) (i : Nat) (hi : i < l.length) : (X l i).length + 2 ≤ 3 * much l := by
 obtain ⟨ts, h⟩ := ex_at i hi (fun j hj => hr j (by omega))
 have := text_len h
 have := much_span l (S l i) (i + 1)
 omega
theorem aX_len {l : List S38} (hr : Rt l l.length) (p i : Nat) (hi : i ≤ l.length) (hv : Vc (S l) i (p + 1)) : (aX (S l) (X l) i (p + 1)).length + 2 ≤ 3 * much l := by
 obtain ⟨ts, h⟩ := args_at p i (fun j hj => ex_at j (by omega) (fun a ha => hr a (by omega))) hv
 have := text_len h
 have := much_span l (bd (S l) i (p + 1)) i
 omega
theorem name_len (l : List S38) (i : Nat) (hi : i < l.length) : (nodeAt l i).f1.size ≤ much l := by
 have h := much_span l i (i + 1)
 rw [span_one hi] at h
 simp only [much, List.map_cons, List.map_nil, List.sum_cons, List.sum_nil] at h
 unfold much
 omega
theorem Vc.drop {f : Nat → Nat} : ∀ (a b i : Nat), Vc f i (a + b) → Vc f (bd f i a) b
 | 0, b, i, h => by rw [Nat.zero_add] at h; exact h
 | a + 1, b, i, h => by
  rw [show a + 1 + b = a + b + 1 from by omega] at h
  exact Vc.drop a b _ h.2
def txL (l : List S38) (n : Nat) : List ByteArray := (List.range n).map fun j => B (X l j)
theorem txL_len (l : List S38) (n : Nat) : (txL l n).length = n := by simp [txL]
theorem txL_rd (l : List S38) (n j : Nat) (h : j < n) : rdOf ByteArray.empty (txL l n) (j : Int) = B (X l j) := by
 unfold rdOf
 rw [Int.toNat_natCast, List.getD_eq_getElem?_getD]
 simp [txL, List.getElem?_map, List.getElem?_range h]
theorem txL_succ (l : List S38) (n : Nat) : txL l (n + 1) = txL l n ++ [B (X l n)] := by simp [txL, List.range_succ]
theorem B_cat (x : Bytes) (c : UInt8) : B x ++ (⟨#[c]⟩ : ByteArray) = B (x ++ [c]) := B_append x [c]
theorem B_cons (x : Bytes) (c : UInt8) : (⟨#[c]⟩ : ByteArray) ++ B x = B (c :: x) := B_append [c] x
theorem brX_B (x : Bytes) : ((⟨#[40]⟩ : ByteArray) ++ B x) ++ (⟨#[41]⟩ : ByteArray) = B (brX true x) := by
 rw [B_cons, B_cat]; rfl
theorem side_ref {l : List S38} (hr : Rt l l.length) (hM : much l ≤ 100000) (i j : Nat) (hi : i ≤ l.length) (hl : l.length ≤ 1000000) (hj : j < i) (u first : Bool) :
  tammyref07_side.f l (txL l i) (j : Int) (k2 u) first = some (B (brX (if first = true then oddL u (nodeAt l j).f0 else isTwo (nodeAt l j).f0) (X l j))) := by
 have hX := X_len hr j (by omega)
 unfold tammyref07_side.f
 rw [if_pos (by omega), if_pos (by omega)]
 have hlt : (j : Int) < ((txL l i).length : Int) := by rw [txL_len]; omega
 have hs : ((⟨#[40]⟩ : ByteArray) ++ B (X l j)).size = (X l j).length + 1 := by rw [B_cons, B_size]; rfl
 rw [nat_at, if_pos hlt, if_pos hlt, txL_rd l i j hj, B_size, hs, if_pos (show 1 + (X l j).length ≤ 9223372036854775807 by omega), if_pos (show (X l j).length + 1 + 1 ≤ 9223372036854775807 by omega), brX_B]
 by_cases h4 : (nodeAt l j).f0 = 4
 ·rw [if_pos h4, h4]
  cases first
  ·rfl
  ·cases u <;> rfl
 rw [if_neg h4]
 by_cases h5 : (nodeAt l j).f0 = 5
 ·rw [if_pos h5, h5]
  cases first
  ·rfl
  ·cases u <;> rfl
 rw [if_neg h5]
 have h1 : isTwo (nodeAt l j).f0 = false := by simp [isTwo, h4, h5]
 have h2 : oddL u (nodeAt l j).f0 = false := by simp [oddL, h1]
 rw [h1, h2, ite_self]; rfl
theorem fig_ref (p : Nat) (h8 : p ≤ 8) : tammyref07_figure.f (p : Int) = some (B [fg p]) := by
 have : ∀ p : Fin 9, tammyref07_figure.f (p.1 : Int) = some (B [fg p.1]) := by decide +kernel
 exact this ⟨p, by omega⟩
def pX (l : List S38) (n : Bytes) (i p q : Nat) : Bytes := if q = 0 then n else n ++ 40 :: aX (S l) (X l) (bd (S l) i (p - q)) q
theorem pX_succ {l : List S38} {i p q : Nat} (hv : Vc (S l) i p) (hq : q < p) (n : Bytes) : pX l n i p (q + 1) = pX l n i p q ++ (if q = 0 then 40 else 44) :: X l (bd (S l) i (p - 1 - q) - 1) := by
 unfold pX
 rw [if_neg (by omega)]
 have e : bd (S l) i (p - q) = S l (bd (S l) i (p - 1 - q) - 1) := by rw [← bd_succ (S l), show p - 1 - q + 1 = p - q from by omega]
 rw [show p - (q + 1) = p - 1 - q from by omega]
 show n ++ 40 :: (if q = 0 then X l (bd (S l) i (p - 1 - q) - 1) else aX (S l) (X l) (S l (bd (S l) i (p - 1 - q) - 1)) q ++ 44 :: X l (bd (S l) i (p - 1 - q) - 1)) = _
 by_cases h0 : q = 0
 ·rw [if_pos h0, if_pos h0, if_pos h0]
 ·rw [if_neg h0, if_neg h0, if_neg h0, e, List.append_assoc, List.cons_append]
theorem pX_len {l : List S38} (hr : Rt l l.length) {i p q : Nat} (hi : i ≤ l.length) (hv : Vc (S l) i p) (hq : q ≤ p) (n : Bytes) : (pX l n i p q).length ≤ n.length + 3 * much l := by
 unfold pX
 by_cases h0 : q = 0
 ·rw [if_pos h0]; omega
 ·rw [if_neg h0]
  obtain ⟨r, rfl⟩ : ∃ r, q = r + 1 := ⟨q - 1, by omega⟩
  have h1 : Vc (S l) (bd (S l) i (p - (r + 1))) (r + 1) := Vc.drop (p - (r + 1)) (r + 1) i (by rw [show p - (r + 1) + (r + 1) = p from by omega]; exact hv)
  have h2 := aX_len hr r (bd (S l) i (p - (r + 1))) (by have := bd_le (S_le l) (p - (r + 1)) i; omega) h1
  simp only [List.length_append, List.length_cons]; omega
theorem Text_l1 {l : List S38} (hr : Rt l l.length) (hM : much l ≤ 100000) {i : Nat} (hk : Ok l i) {p : Nat} (hp : pOf (nodeAt l i) = p) {n : Bytes} (hn : n.length ≤ 100000) {st : List Int} {res : ByteArray}
  (h : Ev (fun k => tammyref07_Text.l0 k l st (txL l i ++ [B (if p = 0 then n else n ++ 40 :: (aX (S l) (X l) i p ++ [41]))]) ((i + 1 : Nat) : Int)) res) : ∀ (d q : Nat), q + d = p →
  Ev (fun k => tammyref07_Text.l1 k l st (txL l i) (i : Int) (kL l i p) (B (pX l n i p q)) (q : Int)) res := by
 intro d
 have hv := hk.vc
 rw [hp] at hv
 have h8 := (pI hk.may).2
 have hlt := hk.lt
 have hlen := hk.len
 have e1 : wrap64 ((i : Int) + 1) = ((i + 1 : Nat) : Int) := by rw [w64 (by omega) (by omega)]; omega
 induction d with
 | zero =>
  intro q hq
  obtain rfl : q = p := by omega
  refine Ev.step (fun k => tammyref07_Text.l1.eq_2 _ _ _ _ _ _ _ k) (Ev.ite_neg (by rw [kL_len]; omega) ?_)
  have hs := pX_len hr (by omega) hv (Nat.le_refl q) n
  refine Ev.cases_ite (fun h0 => ?_) (fun h0 => ?_)
  ·rw [kL_len] at h0
   rw [if_neg (by omega)] at h
   refine Ev.ite_pos Zz14 (Ev.ite_pos Zz25 ?_)
   rw [e1, B_cat]
   have e2 : pX l n i q q ++ [41] = n ++ 40 :: (aX (S l) (X l) i q ++ [41]) := by
    unfold pX
    rw [if_neg (by omega), Nat.sub_self, List.append_assoc]; rfl
   rw [e2]
   exact h
  ·rw [kL_len] at h0
   obtain rfl : q = 0 := by omega
   rw [if_pos rfl] at h
   refine Ev.ite_pos Zz25 ?_
   rw [e1]
   exact h
 | succ d ih =>
  intro q hq
  refine Ev.step (fun k => tammyref07_Text.l1.eq_2 _ _ _ _ _ _ _ k) (Ev.ite_pos (by rw [kL_len]; omega) ?_)
  have hs := pX_len hr (by omega) hv (show q ≤ p by omega) n
  have hpos := Vc.bd_pos _ _ hv (p - 1 - q) (by omega)
  have hb := bd_le (S_le l) (p - 1 - q) i
  have hX := X_len hr (bd (S l) i (p - 1 - q) - 1) (by omega)
  have hn' := ih (q + 1) (by omega)
  rw [pX_succ hv (by omega) n] at hn'
  have e2 : wrap64 ((q : Int) + 1) = ((q + 1 : Nat) : Int) := by rw [w64 (by omega) (by omega)]; omega
  rw [kL_rd l i p q (by omega), show ((bd (S l) i (p - 1 - q) : Nat) : Int) - 1 = ((bd (S l) i (p - 1 - q) - 1 : Nat) : Int) from by omega, txL_rd l i _ (by omega), e2, B_size, B_size]
  clear e2 e1 ih h
  have hq0 : (0 : Int) ≤ (q : Int) := Int.natCast_nonneg q
  refine Ev.cases_ite (fun h0 => ?_) (fun h0 => ?_)
  ·have h0' : q = 0 := Int.natCast_eq_zero.1 h0
   clear h0
   refine Ev.ite_pos (by omega) (Ev.ite_pos hq0 (Ev.ite_pos (by omega) (Ev.ite_pos Zz25 (Ev.ite_pos Zz24 ?_))))
   rw [if_pos h0'] at hn'
   rw [B_cat, B_append, List.append_assoc]
   exact hn'
  ·have h0' : ¬ q = 0 := fun e => h0 (Int.natCast_eq_zero.2 e)
   clear h0
   refine Ev.ite_pos (by omega) (Ev.ite_pos hq0 (Ev.ite_pos (by omega) (Ev.ite_pos Zz25 (Ev.ite_pos Zz24 ?_))))
   rw [if_neg h0'] at hn'
   rw [B_cat, B_append, List.append_assoc]
   exact hn'
theorem may_cases {n : S38} (h : mayB n = true) : n.f0 = 0 ∨ n.f0 = 1 ∨ n.f0 = 2 ∨ (n.f0 = 3 ∧ pOf n = n.f2.toNat ∧ 0 ≤ n.f2) ∨ (∃ u, n.f0 = k2 u ∧ pOf n = 2) ∨ (n.f0 = 6 ∧ pOf n = 1 ∧ 1 ≤ n.f2 ∧ n.f2 ≤ 8) := by
 obtain ⟨f0, f1, f2⟩ := n
 unfold mayB at h
 unfold pOf
 simp only at h ⊢
 by_cases h01 : f0 = 0 ∨ f0 = 1
 ·omega
 rw [if_neg h01] at h
 by_cases h2 : f0 = 2
 ·omega
 rw [if_neg h2] at h
 by_cases h3 : f0 = 3
 ·rw [if_pos h3] at h
  simp only [Bool.and_eq_true, decide_eq_true_eq] at h
  right; right; right; left
  exact ⟨h3, by rw [if_neg (by omega)], h.2.1⟩
 rw [if_neg h3] at h
 by_cases h6 : f0 = 6
 ·rw [if_pos h6] at h
  simp only [Bool.and_eq_true, decide_eq_true_eq] at h
  right; right; right; right; right
  exact ⟨h6, by rw [if_pos h6], h.2.1, h.2.2⟩
 rw [if_neg h6] at h
 split at h
 ·rename_i h45
  simp only [Bool.and_eq_true, beq_iff_eq] at h
  right; right; right; right; left
  rcases h45 with h4 | h5
  ·exact ⟨true, h4, by rw [if_neg h6, h.2]; rfl⟩
  ·exact ⟨false, h5, by rw [if_neg h6, h.2]; rfl⟩
 ·cases h
theorem nX_two {l : List S38} {f : Nat → Nat} {x : Nat → Bytes} {i : Nat} {u : Bool} (h : (nodeAt l i).f0 = k2 u) : nX l f x i = brX (oddL u (nodeAt l (f (i - 1) - 1)).f0) (x (f (i - 1) - 1)) ++ s2 u :: brX (isTwo (nodeAt l (i - 1)).f0) (x (i - 1)) := by
 unfold nX
 simp only
 rw [h]
 cases u <;> rfl
theorem nD_two {l : List S38} {f : Nat → Nat} {x : Nat → Nat} {i : Nat} {u : Bool} (h : (nodeAt l i).f0 = k2 u) : nD l f x i = max (brD (oddL u (nodeAt l (f (i - 1) - 1)).f0) (x (f (i - 1) - 1))) (brD (isTwo (nodeAt l (i - 1)).f0) (x (i - 1))) := by
 unfold nD
 simp only
 rw [h]
 cases u <;> rfl
theorem two_at {l : List S38} {i : Nat} (hk : Ok l i) (h2 : pOf (nodeAt l i) = 2) : 0 < i ∧ 0 < S l (i - 1) ∧ S l (i - 1) ≤ i - 1 ∧ rd (kL l i 2) 0 = ((S l (i - 1) - 1 : Nat) : Int) ∧ rd (kL l i 2) 1 = ((i - 1 : Nat) : Int) := by
 have hv := hk.vc
 rw [h2] at hv
 have hv' : 0 < i ∧ 0 < S l (i - 1) ∧ True := hv
 have h0 := kL_rd l i 2 0 (by omega)
 have h1 := kL_rd l i 2 1 (by omega)
 have hle := S_le l (i - 1)
 refine ⟨hv'.1, hv'.2.1, hle, ?_, ?_⟩
 ·have : rd (kL l i 2) 0 = ((S l (i - 1) : Nat) : Int) - 1 := h0
  rw [this]; omega
 ·have : rd (kL l i 2) 1 = ((i : Nat) : Int) - 1 := h1
  rw [this]; omega
theorem one_at {l : List S38} {i : Nat} (hk : Ok l i) (h1 : pOf (nodeAt l i) = 1) : 0 < i ∧ rd (kL l i 1) 0 = ((i - 1 : Nat) : Int) := by
 have hv := hk.vc
 rw [h1] at hv
 have hv' : 0 < i ∧ True := hv
 have h0 : rd (kL l i 1) 0 = ((i : Nat) : Int) - 1 := kL_rd l i 1 0 (by omega)
 exact ⟨hv'.1, by rw [h0]; have := hv'.1; omega⟩
theorem Text_l0 {l : List S38} (hr : Rt l l.length) (hl : l.length ≤ 1000000) (hM : much l ≤ 100000) (h0 : 0 < l.length) : ∀ (d i : Nat), i + d = l.length →
  Ev (fun k => tammyref07_Text.l0 k l (stL l l.length) (txL l i) (i : Int)) (B (X l (l.length - 1))) := by
 intro d
 induction d with
 | zero =>
  intro i hi
  obtain rfl : i = l.length := by omega
  refine Ev.step (fun k => tammyref07_Text.l0.eq_2 _ _ _ _ k) (Ev.ite_neg (by omega) ?_)
  rw [w64 (by omega) (by omega), show (l.length : Int) - 1 = ((l.length - 1 : Nat) : Int) from by omega, txL_rd l l.length _ (by omega)]
  exact Ev.ite_pos (by omega) (Ev.ite_pos Zz25 (Ev.now _))
 | succ d ih =>
  intro i hi
  have hk := Ok.of hr (show i < l.length by omega) hl
  have hXe := X_eq (l := l) (i := i) (fun j hj => hr j (by omega))
  have hnl := name_len l i (by omega)
  have hnext := ih (i + 1) (by omega)
  rw [txL_succ] at hnext
  have e1 : wrap64 ((i : Int) + 1) = ((i + 1 : Nat) : Int) := by rw [w64 (by omega) (by omega)]; omega
  have step : ∀ s : ByteArray, s = B (X l i) → Ev (fun k => if (txL l i).length < 8796093022208 then (tammyref07_Text.l0 k l (stL l l.length) (txL l i ++ [s]) (wrap64 ((i : Int) + 1))) else none) (B (X l (l.length - 1))) := by
   intro s hs
   rw [hs, e1]
   exact Ev.ite_pos Zz25 hnext
  refine Ev.step (fun k => tammyref07_Text.l0.eq_2 _ _ _ _ k) (Ev.ite_pos (by omega) (Ev.ite_pos (by omega) ?_))
  refine Ev.bind (Kids_ref hk (stL_tb l l.length i (by omega))) ?_
  rw [nat_at]
  have hBn : (nodeAt l i).f1 = B (nodeAt l i).f1.data.toList := B_of _
  have hBs : (nodeAt l i).f1.data.toList.length = (nodeAt l i).f1.size := by rw [Array.length_toList]; rfl
  rcases may_cases hk.may with hc | hc | hc | ⟨hc, hp, hge⟩ | ⟨u, hc, hp⟩ | ⟨hc, hp, hge, hle⟩
  ·refine Ev.ite_pos hc (step _ ?_)
   rw [hXe]; unfold nX; simp only; rw [if_pos hc]; rfl
  ·refine Ev.ite_neg (by omega) (Ev.ite_pos hc (step _ ?_))
   rw [hXe]; unfold nX; simp only; rw [if_neg (by omega), if_pos hc]; rfl
  ·refine Ev.ite_neg (by omega) (Ev.ite_neg (by omega) (Ev.ite_neg (by omega) (Ev.ite_neg (by omega) (Ev.ite_neg (by omega) (Ev.ite_neg (by omega) (step _ ?_))))))
   rw [hXe]; unfold nX; simp only; rw [if_neg (by omega), if_neg (by omega), if_pos hc]; exact hBn
  ·refine Ev.ite_neg (by omega) (Ev.ite_neg (by omega) (Ev.ite_pos hc ?_))
   have e2 : X l i = if pOf (nodeAt l i) = 0 then (nodeAt l i).f1.data.toList else (nodeAt l i).f1.data.toList ++ 40 :: (aX (S l) (X l) i (pOf (nodeAt l i)) ++ [41]) := by
    rw [hXe]; unfold nX; simp only
    rw [if_neg (by omega), if_neg (by omega), if_neg (by omega), if_pos hc, hp]
    by_cases hz : (nodeAt l i).f2 = 0
    ·rw [if_pos hz, if_pos (by omega)]
    ·rw [if_neg hz, if_neg (by omega)]
   rw [e2] at hnext
   have := Text_l1 hr hM hk rfl (n := (nodeAt l i).f1.data.toList) (by rw [hBs]; omega) hnext (pOf (nodeAt l i)) 0 (by omega)
   have e3 : pX l (nodeAt l i).f1.data.toList i (pOf (nodeAt l i)) 0 = (nodeAt l i).f1.data.toList := by unfold pX; rw [if_pos rfl]
   rw [e3, ← hBn] at this
   exact this
  ·rw [hp]
   obtain ⟨i0, s0, sle, r0, r1⟩ := two_at hk hp
   have hside1 := side_ref hr hM i (S l (i - 1) - 1) (by omega) hl (by omega) u true
   have hside2 := side_ref hr hM i (i - 1) (by omega) hl (by omega) u false
   rw [if_pos rfl] at hside1
   rw [if_neg (by decide)] at hside2
   rw [nX_two hc] at hXe
   have hx1 := X_len hr (S l (i - 1) - 1) (by omega)
   have hx2 := X_len hr (i - 1) (by omega)
   have hb1 := brX_len (oddL u (nodeAt l (S l (i - 1) - 1)).f0) (X l (S l (i - 1) - 1))
   have hb2 := brX_len (isTwo (nodeAt l (i - 1)).f0) (X l (i - 1))
   rw [kL_len, r0, r1]
   cases u with
   | true =>
    have hc' : (nodeAt l i).f0 = 4 := hc
    have hs1' : tammyref07_side.f l (txL l i) ((S l (i - 1) - 1 : Nat) : Int) 4 true = _ := hside1
    have hs2' : tammyref07_side.f l (txL l i) ((i - 1 : Nat) : Int) 4 false = _ := hside2
    refine Ev.ite_neg (by omega) (Ev.ite_neg (by omega) (Ev.ite_neg (by omega) (Ev.ite_pos hc' (Ev.ite_pos (by omega) ?_))))
    rw [hs1', hs2']
    refine Ev.bind (Ev.now _) (Ev.ite_pos Zz14 (Ev.ite_pos (by omega) (Ev.bind (Ev.now _) (Ev.ite_pos Zz23 (step _ ?_)))))
    rw [hXe, B_cat, B_append, List.append_assoc]; rfl
   | false =>
    have hc' : (nodeAt l i).f0 = 5 := hc
    have hs1' : tammyref07_side.f l (txL l i) ((S l (i - 1) - 1 : Nat) : Int) 5 true = _ := hside1
    have hs2' : tammyref07_side.f l (txL l i) ((i - 1 : Nat) : Int) 5 false = _ := hside2
    refine Ev.ite_neg (by omega) (Ev.ite_neg (by omega) (Ev.ite_neg (by omega) (Ev.ite_neg (by omega) (Ev.ite_pos hc' (Ev.ite_pos (by omega) ?_)))))
    rw [hs1', hs2']
    refine Ev.bind (Ev.now _) (Ev.ite_pos Zz14 (Ev.ite_pos (by omega) (Ev.bind (Ev.now _) (Ev.ite_pos Zz23 (step _ ?_)))))
    rw [hXe, B_cat, B_append, List.append_assoc]; rfl
  ·rw [hp]
   obtain ⟨i0, r0⟩ := one_at hk hp
   obtain ⟨p, hpe⟩ : ∃ p : Nat, (nodeAt l i).f2 = (p : Int) := ⟨(nodeAt l i).f2.toNat, by omega⟩
   have hx1 := X_len hr (i - 1) (by omega)
   refine Ev.ite_neg (by omega) (Ev.ite_neg (by omega) (Ev.ite_neg (by omega) (Ev.ite_neg (by omega) (Ev.ite_neg (by omega) (Ev.ite_pos hc (Ev.ite_pos (by omega) ?_))))))
   rw [hpe, fig_ref p (by omega), kL_len, r0, txL_rd l i _ (by omega), hBn]
   refine Ev.bind (Ev.now _) (Ev.ite_pos ?_ (Ev.ite_pos ?_ (Ev.ite_pos (by omega) (Ev.ite_pos (by omega) (Ev.ite_pos Zz25 (Ev.ite_pos ?_ (Ev.ite_pos ?_ (step _ ?_))))))))
   ·rw [B_cat, B_size, B_size, List.length_append, hBs]; simp only [List.length_cons, List.length_nil]; omega
   ·rw [B_cat, B_append, B_size, List.length_append, List.length_append, hBs]; simp only [List.length_cons, List.length_nil]; omega
   ·rw [B_cat, B_append, B_cat, B_size, B_size, List.length_append, List.length_append, List.length_append, hBs]; simp only [List.length_cons, List.length_nil]; omega
   ·rw [B_cat, B_append, B_cat, B_append, B_size, List.length_append, List.length_append, List.length_append, List.length_append, hBs]; simp only [List.length_cons, List.length_nil]; omega
   ·rw [hXe, B_cat, B_append, B_cat, B_append, B_cat]
    unfold nX; simp only
    rw [if_neg (by omega), if_neg (by omega), if_neg (by omega), if_neg (by omega), if_pos hc, hpe, Int.toNat_natCast]
    congr 1
    simp only [List.append_assoc, List.cons_append, List.nil_append]
theorem Text_ref {l : List S38} (hr : Rt l l.length) (hl : l.length ≤ 1000000) (hM : much l ≤ 100000) (h0 : 0 < l.length) : Ev (fun k => tammyref07_Text.f k l) (B (X l (l.length - 1))) := by
 unfold tammyref07_Text.f
 exact Ev.bind (Starts_ref hr hl) (Text_l0 hr hl hM h0 l.length 0 (by omega))
def dpL (l : List S38) (n : Nat) : List Int := (List.range n).map fun j => ((D l j : Nat) : Int)
theorem dpL_len (l : List S38) (n : Nat) : (dpL l n).length = n := by simp [dpL]
theorem dpL_rd (l : List S38) (n j : Nat) (h : j < n) : rd (dpL l n) (j : Int) = (D l j : Int) := by
 rw [rdn, List.getD_eq_getElem?_getD]
 simp [dpL, List.getElem?_map, List.getElem?_range h]
theorem dpL_succ (l : List S38) (n : Nat) : dpL l (n + 1) = dpL l n ++ [((D l n : Nat) : Int)] := by simp [dpL, List.range_succ]
theorem D_len {l : List S38} (hr : Rt l l.length) (i : Nat) (hi : i < l.length) : D l i ≤ 3 * much l := by
 obtain ⟨ts, h⟩ := ex_at i hi (fun j hj => hr j (by omega))
 have h1 := text_len h
 have h2 := much_span l (S l i) (i + 1)
 have : ∀ {mo k ns ts x d}, Ex mo k ns ts x d → d ≤ x.length := by
  intro mo k ns ts x d h
  induction h with
  | zero => exact Nat.zero_le _
  | one => exact Nat.zero_le _
  | var n hn => exact Nat.zero_le _
  | con n hn => exact Nat.zero_le _
  | call n hn hm a ia => simp only [List.length_append, List.length_cons, List.length_nil]; omega
  | proj n hn h1 h8 a ia => simp only [List.length_append, List.length_cons, List.length_nil]; omega
  | @two u ka na ta xa da kb nb tb xb db a b ia ib =>
   have e : ∀ (c : Bool) (x : Bytes) (d : Nat), d ≤ x.length → brD c d ≤ (brX c x).length := by
    intro c x d h
    cases c
    ·exact h
    ·show d + 1 ≤ (40 :: (x ++ [41])).length
     simp; omega
   have h1 := e (oddL u ka) xa da ia
   have h2 := e (isTwo kb) xb db ib
   simp only [List.length_append, List.length_cons]; omega
  | arg1 a ia => exact ia
  | argN a b ia ib => simp only [List.length_append, List.length_cons]; omega
 have := this h
 omega
theorem kidT_is {l : List S38} (hr : Rt l l.length) (hM : much l ≤ 100000) {i j : Nat} (hi : i ≤ l.length) (hj : j < i) (b : Bool) : kidT (txL l i) (dpL l i) (j : Int) b = some (B (brX b (X l j)), ((brD b (D l j) : Nat) : Int)) := by
 have h1 := X_len hr j (by omega)
 have h2 := D_len hr j (by omega)
 unfold kidT
 rw [txL_rd l i j hj, dpL_rd l i j hj, if_pos ⟨by omega, by rw [txL_len]; omega, by rw [dpL_len]; omega, by rw [B_size]; omega⟩]
 cases b
 ·rfl
 ·rw [if_pos rfl, brX_B, w64 (by omega) (by omega)]; rfl
theorem callL_app (tx : List ByteArray) (dp : List Int) : ∀ (a b : List Int) (ss : List ByteArray) (d : Int), callL tx dp (a ++ b) ss d = (callL tx dp a ss d).bind fun p => callL tx dp b p.1 p.2
 | [], b, ss, d => rfl
 | k :: a, b, ss, d => by
  simp only [List.cons_append, callL]
  cases kidT tx dp k false with
  | none => rfl
  | some p =>
   simp only [Option.bind_some]
   split
   ·exact callL_app tx dp a b _ _
   ·rfl
theorem mx_nat (a b : Nat) : mx (a : Int) (b : Int) = ((max a b : Nat) : Int) := by
 unfold mx
 split <;> omega
theorem kL_split (l : List S38) (i p : Nat) : kL l i (p + 1) = kL l (S l (i - 1)) p ++ [(i : Int) - 1] := by
 unfold kL
 rw [List.range_succ, List.map_append]
 congr 1
 ·refine List.map_congr_left fun j hj => ?_
  rw [List.mem_range] at hj
  rw [show p + 1 - 1 - j = (p - 1 - j) + 1 from by omega]
  rfl
 ·rw [List.map_cons, show p + 1 - 1 - p = 0 from by omega]; rfl
def aL (f : Nat → Nat) (x : Nat → Bytes) : Nat → Nat → List Bytes
 | _, 0 => []
 | i, p + 1 => aL f x (f (i - 1)) p ++ [x (i - 1)]
theorem aL_len (f : Nat → Nat) (x : Nat → Bytes) : ∀ (p i : Nat), (aL f x i p).length = p
 | 0, _ => rfl
 | p + 1, i => by rw [aL, List.length_append, aL_len f x p]; rfl
theorem join_snoc (xs : List Bytes) (y sep : Bytes) (h : xs ≠ []) : Lib.join (xs ++ [y]) sep = Lib.join xs sep ++ sep ++ y := by
 cases xs with
 | nil => exact absurd rfl h
 | cons a r =>
  rw [List.cons_append, Lib.join_cons, Lib.join_cons]
  unfold Lib.joinTail
  simp
theorem aL_join (f : Nat → Nat) (x : Nat → Bytes) : ∀ (p i : Nat), Lib.join (aL f x i p) [44] = aX f x i p
 | 0, _ => rfl
 | p + 1, i => by
  show Lib.join (aL f x (f (i - 1)) p ++ [x (i - 1)]) [44] = if p = 0 then x (i - 1) else aX f x (f (i - 1)) p ++ 44 :: x (i - 1)
  by_cases h : p = 0
  ·subst h
   rw [if_pos rfl]
   exact Lib.join_one _ _
  ·rw [if_neg h, join_snoc _ _ _ (fun e => h (by have := aL_len f x p (f (i - 1)); rw [e] at this; exact this.symm)), aL_join f x p, List.append_assoc]
   rfl
theorem callL_is {l : List S38} (hr : Rt l l.length) (hM : much l ≤ 100000) {n : Nat} (hn : n ≤ l.length) : ∀ (p i : Nat) (ss : List ByteArray), i ≤ n → p ≤ 1000 → ss.length ≤ 1000 → Vc (S l) i p →
  callL (txL l n) (dpL l n) (kL l i p) ss 0 = some (ss ++ (aL (S l) (X l) i p).map B, ((aD (S l) (D l) i p : Nat) : Int))
 | 0, i, ss, _, _, _, _ => by
  show some (ss, (0 : Int)) = some (ss ++ [], ((0 : Nat) : Int))
  rw [List.append_nil]; rfl
 | p + 1, i, ss, hi, hp, hs, hv => by
  have hi0 := hv.1
  have hle := S_le l (i - 1)
  rw [kL_split, callL_app, callL_is hr hM hn p (S l (i - 1)) ss (by omega) (by omega) hs hv.2, Option.bind_some]
  simp only [callL]
  rw [show (i : Int) - 1 = ((i - 1 : Nat) : Int) from by omega, kidT_is hr hM hn (by omega), Option.bind_some, if_pos (by rw [List.length_append, List.length_map, aL_len]; omega)]
  simp only [brX, brD, Bool.false_eq_true, if_false]
  rw [mx_nat, aL, List.map_append, List.append_assoc]
  rfl
theorem map_B (xs : List Bytes) : (xs.map B).map (·.data.toList) = xs := by
 rw [List.map_map]
 have : ((fun x : ByteArray => x.data.toList) ∘ B) = id := by funext x; rfl
 rw [this, List.map_id]
theorem callT_is {l : List S38} (hr : Rt l l.length) (hl : l.length ≤ 1000000) (hM : much l ≤ 100000) {i : Nat} (hi : i < l.length) (h3 : (nodeAt l i).f0 = 3) (hp : pOf (nodeAt l i) = (nodeAt l i).f2.toNat) (hge : 0 ≤ (nodeAt l i).f2) :
  callT l (stL l l.length) (txL l i) (dpL l i) (i : Int) = some (B (X l i), ((D l i : Nat) : Int)) := by
 have hk := Ok.of hr hi hl
 have hnl := name_len l i hi
 have hXe := X_eq (l := l) (i := i) (fun j hj => hr j (by omega))
 have hDe := D_eq (l := l) (i := i) (fun j hj => hr j (by omega))
 have h8 := (pI hk.may).2
 have hBn : (nodeAt l i).f1 = B (nodeAt l i).f1.data.toList := B_of _
 have hBs : (nodeAt l i).f1.data.toList.length = (nodeAt l i).f1.size := by rw [Array.length_toList]; rfl
 unfold nX at hXe
 unfold nD at hDe
 simp only at hXe hDe
 rw [if_neg (by omega), if_neg (by omega), if_neg (by omega), if_pos h3] at hXe hDe
 unfold callT
 rw [nat_at, if_pos ⟨by omega, by omega, by omega⟩]
 by_cases hz : (nodeAt l i).f2 = 0
 ·rw [if_pos hz] at hXe hDe ⊢
  rw [hXe, hDe, ← hBn]; rfl
 rw [if_neg hz] at hXe hDe ⊢
 rw [kids_own hk (stL_tb l l.length i (by omega)), Option.bind_some, callL_is hr hM (by omega) _ i [] (Nat.le_refl i) (by omega) (by simp) hk.vc, Option.bind_some]
 have hv := hk.vc
 obtain ⟨p, hpp⟩ : ∃ p, pOf (nodeAt l i) = p + 1 := ⟨pOf (nodeAt l i) - 1, by omega⟩
 rw [hpp] at hv
 have hal := aX_len hr p i (by omega) hv
 rw [← hpp] at hal
 have hj : strings_Join.f ([] ++ (aL (S l) (X l) i (pOf (nodeAt l i))).map B) ⟨#[44]⟩ = some (B (aX (S l) (X l) i (pOf (nodeAt l i)))) := by
  unfold strings_Join.f
  rw [List.nil_append, map_B, show ((⟨#[44]⟩ : ByteArray).data.toList) = [44] from rfl, aL_join, if_pos ⟨by rw [List.length_map, aL_len]; omega, by omega⟩]
  rfl
 rw [hj, Option.bind_some, if_pos Zz14]
 have hd : aD (S l) (D l) i (pOf (nodeAt l i)) + 1 ≤ 3 * much l := by
  have := D_len hr i hi
  rw [hDe, ← hp] at this
  exact this
 rw [hXe, hDe, ← hp, hBn, B_cat, B_append, B_cat, B_data, w64 (by omega) (by omega), List.append_assoc, List.append_assoc]
 rfl
theorem twoT_is {l : List S38} (hr : Rt l l.length) (hl : l.length ≤ 1000000) (hM : much l ≤ 100000) {i : Nat} (hi : i < l.length) {u : Bool} (hc : (nodeAt l i).f0 = k2 u) (hp : pOf (nodeAt l i) = 2) :
  twoT l (stL l l.length) (txL l i) (dpL l i) (i : Int) = some (B (X l i), ((D l i : Nat) : Int)) := by
 have hk := Ok.of hr hi hl
 have hXe := X_eq (l := l) (i := i) (fun j hj => hr j (by omega))
 have hDe := D_eq (l := l) (i := i) (fun j hj => hr j (by omega))
 rw [nX_two hc] at hXe
 rw [nD_two hc] at hDe
 obtain ⟨i0, s0, sle, r0, r1⟩ := two_at hk hp
 have hx1 := X_len hr (S l (i - 1) - 1) (by omega)
 have hx2 := X_len hr (i - 1) (by omega)
 have hb1 := brX_len (oddL u (nodeAt l (S l (i - 1) - 1)).f0) (X l (S l (i - 1) - 1))
 have hb2 := brX_len (isTwo (nodeAt l (i - 1)).f0) (X l (i - 1))
 unfold twoT
 rw [nat_at, if_pos ⟨by omega, by omega, by rw [hc]; cases u <;> simp [k2]⟩, kids_own hk (stL_tb l l.length i (by omega)), Option.bind_some, hp, r0, r1, if_pos ⟨by rw [kL_len]; exact Nat.le_refl _, by omega, by omega, by omega, by omega⟩]
 have e1 : oddB l ((S l (i - 1) - 1 : Nat) : Int) (i : Int) false = oddL u (nodeAt l (S l (i - 1) - 1)).f0 := by
  unfold oddB oddL isTwo
  rw [nat_at, nat_at, hc, Bool.false_or]
 have e2 : oddB l ((i - 1 : Nat) : Int) (i : Int) true = isTwo (nodeAt l (i - 1)).f0 := by
  unfold oddB isTwo
  rw [nat_at, Bool.true_or, Bool.and_true]
 have e3 : sgn (nodeAt l i).f0 = B [s2 u] := by rw [hc]; cases u <;> rfl
 rw [e1, e2, e3, kidT_is hr hM (by omega) (by omega), Option.bind_some, kidT_is hr hM (by omega) (by omega), Option.bind_some, if_pos ⟨by rw [B_size]; omega, by rw [B_size]; omega⟩]
 rw [mx_nat, B_append, B_append, hXe, hDe, List.append_assoc]
 rfl
theorem dec_fg (p : Nat) (h8 : p ≤ 8) : (⟨(Lib.decDigits p).toArray⟩ : ByteArray) = B [fg p] := by
 have : Lib.decDigits p = [fg p] := by
  rw [Lib.decDigits, dif_pos (by omega)]; rfl
 rw [this]; rfl
theorem projT_is {l : List S38} (hr : Rt l l.length) (hl : l.length ≤ 1000000) (hM : much l ≤ 100000) {i : Nat} (hi : i < l.length) (hc : (nodeAt l i).f0 = 6) (hp : pOf (nodeAt l i) = 1) (hge : 1 ≤ (nodeAt l i).f2) (hle : (nodeAt l i).f2 ≤ 8) :
  projT l (txL l i) (dpL l i) (i : Int) = some (B (X l i), ((D l i : Nat) : Int)) := by
 have hk := Ok.of hr hi hl
 have hnl := name_len l i hi
 have hXe := X_eq (l := l) (i := i) (fun j hj => hr j (by omega))
 have hDe := D_eq (l := l) (i := i) (fun j hj => hr j (by omega))
 unfold nX at hXe
 unfold nD at hDe
 simp only at hXe hDe
 rw [if_neg (by omega), if_neg (by omega), if_neg (by omega), if_neg (by omega), if_pos hc] at hXe hDe
 obtain ⟨i0, r0⟩ := one_at hk hp
 have hx1 := X_len hr (i - 1) (by omega)
 have hBn : (nodeAt l i).f1 = B (nodeAt l i).f1.data.toList := B_of _
 unfold projT
 rw [nat_at, if_pos ⟨by omega, by omega, by omega, by omega, by omega⟩, show (i : Int) - 1 = ((i - 1 : Nat) : Int) from by omega, kidT_is hr hM (by omega) (by omega), Option.bind_some]
 have hb : (B (brX true (X l (i - 1)))).size ≤ 1000000000000000 := by
  rw [B_size]
  have := brX_len true (X l (i - 1))
  omega
 rw [if_pos hb, dec_fg _ (by omega), hXe, hDe]
 have e : (nodeAt l i).f1 ++ (⟨#[126]⟩ : ByteArray) ++ B [fg (nodeAt l i).f2.toNat] ++ B (brX true (X l (i - 1))) = B ((nodeAt l i).f1.data.toList ++ 126 :: fg (nodeAt l i).f2.toNat :: 40 :: (X l (i - 1) ++ [41])) := by
  rw [hBn, B_cat, B_append, B_append, B_data]
  congr 1
  show _ ++ (40 :: (X l (i - 1) ++ [41])) = _
  simp only [List.append_assoc, List.cons_append, List.nil_append]
 rw [e]
 rfl
theorem wStep_is {l : List S38} (hr : Rt l l.length) (hl : l.length ≤ 1000000) (hM : much l ≤ 100000) {i : Nat} (hi : i < l.length) :
  wStep l (stL l l.length) (txL l i) (dpL l i) (i : Int) = some (B (X l i), ((D l i : Nat) : Int)) := by
 have hk := Ok.of hr hi hl
 have hXe := X_eq (l := l) (i := i) (fun j hj => hr j (by omega))
 have hDe := D_eq (l := l) (i := i) (fun j hj => hr j (by omega))
 unfold wStep
 rw [nat_at]
 rcases may_cases hk.may with hc | hc | hc | ⟨hc, hp, hge⟩ | ⟨u, hc, hp⟩ | ⟨hc, hp, hge, hle⟩
 ·rw [if_pos hc, hXe, hDe]; unfold nX nD; simp only; rw [if_pos hc, if_pos hc]; rfl
 ·rw [if_neg (by omega), if_pos hc, hXe, hDe]; unfold nX nD; simp only; rw [if_neg (by omega), if_pos hc, if_neg (by omega), if_pos hc]; rfl
 ·rw [if_neg (by omega), if_neg (by omega), if_pos hc, hXe, hDe]; unfold nX nD; simp only
  rw [if_neg (by omega), if_neg (by omega), if_pos hc, if_neg (by omega), if_neg (by omega), if_pos hc, ← B_of]; rfl
 ·rw [if_neg (by omega), if_neg (by omega), if_neg (by omega), if_pos hc]
  exact callT_is hr hl hM hi hc hp hge
 ·have h2 := twoT_is hr hl hM hi hc hp
  rw [h2]
  rw [hc]
  cases u <;> rfl
 ·rw [if_neg (by omega), if_neg (by omega), if_neg (by omega), if_neg (by omega), if_neg (by omega), if_neg (by omega), if_pos hc]
  exact projT_is hr hl hM hi hc hp hge hle
theorem wLoop_is {l : List S38} (hr : Rt l l.length) (hl : l.length ≤ 1000000) (hM : much l ≤ 100000) : ∀ (d i : Nat), i + d = l.length → wLoop l (stL l l.length) d (txL l i) (dpL l i) = some (txL l l.length, dpL l l.length)
 | 0, i, h => by
  rw [show i = l.length from by omega]; rfl
 | d + 1, i, h => by
  rw [wLoop, txL_len, wStep_is hr hl hM (show i < l.length by omega), Option.bind_some, ← txL_succ, ← dpL_succ]
  exact wLoop_is hr hl hM d (i + 1) (by omega)
theorem written_is {l : List S38} (hr : Rt l l.length) (hl : l.length ≤ 100000) (hM : much l ≤ 100000) (h0 : 0 < l.length) : Ev (fun k => expr_written.f k l) (B (X l (l.length - 1)), (D l (l.length - 1) : Int)) := by
 unfold expr_written.f
 refine Ev.bind (Starts_own hr (by omega)) ?_
 have hw : wLoop l (stL l l.length) l.length [] [] = _ := wLoop_is hr (by omega) hM l.length 0 (by omega)
 rw [if_pos ⟨h0, hl⟩, hw, Option.bind_some, show (l.length : Int) - 1 = ((l.length - 1 : Nat) : Int) from by omega, txL_rd l _ _ (by omega), dpL_rd l _ _ (by omega)]
 exact Ev.now _
theorem Rt.next {l : List S38} {i m : Nat} (h : Rt l i) (hm : mayB (nodeAt l i) = true) (hc : Cn (S l) i m) (hp : pOf (nodeAt l i) ≤ m) : Rt l (i + 1) := by
 intro j hj
 by_cases e : j = i
 ·subst e; exact ⟨hm, hc.vc _ _ _ hp⟩
 ·exact h j (by omega)
theorem Cn_le {f : Nat → Nat} (hf : ∀ x, f x ≤ x) : ∀ (m i : Nat), Cn f i m → m ≤ i
 | 0, _, _ => Nat.zero_le _
 | m + 1, i, h => by
  have := Cn_le hf m _ h.2
  have := hf (i - 1)
  have := h.1
  omega
def Rw (l : List S38) : Prop := Rt l l.length ∧ Cn (S l) l.length 1
theorem Rw.pos {l : List S38} (h : Rw l) : 0 < l.length := h.2.1
theorem Cn.le {f : Nat → Nat} : ∀ (m p i : Nat), Cn f i m → Vc f i p → p ≤ m
 | _, 0, _, _, _ => Nat.zero_le _
 | 0, p + 1, i, h, hv => by have h : i = 0 := h; have := hv.1; omega
 | m + 1, p + 1, i, h, hv => by have := Cn.le m p _ h.2 hv.2; omega
theorem Right_own_of {l : List S38} (hl : l.length ≤ 100000) (hM : much l ≤ 100000) (h : Rw l) : Ev (fun k => expr_Right.f k l) (decide (D l (l.length - 1) ≤ 40)) := by
 have hr := h.1
 have all : ∀ (d i m : Nat), i + d = l.length → Cn (S l) i m → Ev (fun k => expr_Right.l0 k l (m : Int) l (l.length : Int) (i : Int)) (decide (D l (l.length - 1) ≤ 40)) := by
  intro d
  induction d with
  | zero =>
   intro i m hi hc
   obtain rfl : i = l.length := by omega
   have h1 := Cn.le _ _ _ hc (h.2.vc 1 1 _ (Nat.le_refl _))
   have h2 := Cn.le _ _ _ h.2 (hc.vc m m _ (Nat.le_refl _))
   obtain rfl : m = 1 := by omega
   refine Ev.step (fun k => expr_Right.l0.eq_2 _ _ _ _ _ k) (Ev.ite_neg (by omega) (Ev.ite_pos rfl (Ev.bind (written_is hr hl hM hc.1) ?_)))
   refine ev_eq (Ev.now _) ?_
   rw [Bool.eq_iff_iff, decide_eq_true_eq, decide_eq_true_eq]; omega
  | succ d ih =>
   intro i m hi hc
   have hml := Cn_le (S_le l) m i hc
   have e1 : wrap64 ((i : Int) + 1) = ((i + 1 : Nat) : Int) := by rw [w64 (by omega) (by omega)]; omega
   have hm := (hr i (by omega)).1
   have hp := Cn.le _ _ _ hc (hr i (by omega)).2
   have e2 : wrap64 (wrap64 ((m : Int) - (pOf (nodeAt l i) : Int)) + 1) = ((m - pOf (nodeAt l i) + 1 : Nat) : Int) := by
    have a : wrap64 ((m : Int) - (pOf (nodeAt l i) : Int)) = (m : Int) - (pOf (nodeAt l i) : Int) := w64 (by omega) (by omega)
    rw [a, w64 (by omega) (by omega)]; omega
   refine Ev.step (fun k => expr_Right.l0.eq_2 _ _ _ _ _ k) (Ev.ite_pos (by omega) (Ev.ite_pos (by omega) (Ev.ite_pos (by omega) ?_)))
   rw [nat_at, parts_own _ hm, e1]
   refine Ev.bind (Ev.now _) (Ev.bind (may_own _) ?_)
   rw [hm, e2]
   exact Ev.ite_pos rfl (Ev.ite_neg (by rw [w64 (by omega) (by omega)]; omega) (ih (i + 1) _ (by omega) (hc.next hp)))
 exact all l.length 0 0 (by omega) rfl
theorem Right_l1 (x : Bytes) (hx : x.length ≤ 1000000) : ∀ (d i : Nat) (c : Int), i + d = x.length → c ≤ 40 → -(i : Int) ≤ c → Ev (fun k => tammyref07_Right.l1 k (B x) c (i : Int)) (opn c (x.drop i)).isSome := by
 intro d
 induction d with
 | zero =>
  intro i c hi hc hc0
  refine Ev.step (fun k => tammyref07_Right.l1.eq_2 _ _ _ k) (Ev.ite_neg Zz14 ?_)
  rw [List.drop_of_length_le (by omega)]
  exact Ev.now _
 | succ d ih =>
  intro i c hi hc hc0
  have hlt : i < x.length := by omega
  have e1 : wrap64 ((i : Int) + 1) = ((i + 1 : Nat) : Int) := by rw [w64 (by omega) (by omega)]; omega
  refine Ev.step (fun k => tammyref07_Right.l1.eq_2 _ _ _ k) (Ev.ite_pos Zz14 (Ev.ite_pos (by omega) ?_))
  have hbt := bt_B x i x[i] (List.getElem?_eq_getElem hlt)
  have h40 : ((x[i].toNat : Int) = 40) ↔ x[i] = 40 := by
   constructor
   ·intro e; apply UInt8.toNat_inj.1; simp; omega
   ·intro e; rw [e]; rfl
  have h41 : ((x[i].toNat : Int) = 41) ↔ x[i] = 41 := by
   constructor
   ·intro e; apply UInt8.toNat_inj.1; simp; omega
   ·intro e; rw [e]; rfl
  rw [hbt, List.drop_eq_getElem_cons hlt]
  have hj2 : ∀ c' : Int, -(i : Int) ≤ c' → c' ≤ 41 → x[i] ≠ 41 → Ev (fun k => tammyref07_Right.j2 k (B x) c' (i : Int)) (if c' > 40 then none else opn c' (x.drop (i + 1))).isSome := by
   intro c' h0 h1 h2
   refine Ev.step (fun k => tammyref07_Right.j2.eq_2 _ _ _ k) (Ev.ite_pos (by omega) (Ev.ite_pos Zz14 ?_))
   rw [hbt]
   refine Ev.ite_neg (fun e => h2 (h41.1 e)) (Ev.cases_ite (fun h => ?_) (fun h => ?_))
   ·rw [if_pos h]; exact Ev.now _
   ·rw [if_neg h, e1]; exact ih (i + 1) c' (by omega) (by omega) (by omega)
  refine Ev.cases_ite (fun h => ?_) (fun h => ?_)
  ·have h' := h40.1 h
   rw [w64 (by omega) (by omega)]
   refine ev_eq (hj2 (c + 1) (by omega) (by omega) (by rw [h']; decide)) ?_
   rw [opn, if_pos h']
  ·have h' : x[i] ≠ 40 := fun e => h (h40.2 e)
   rw [opn, if_neg h']
   by_cases h1 : x[i] = 41
   ·rw [if_pos h1]
    refine Ev.step (fun k => tammyref07_Right.j2.eq_2 _ _ _ k) (Ev.ite_pos (by omega) (Ev.ite_pos Zz14 ?_))
    rw [hbt, w64 (by omega) (by omega), e1]
    exact Ev.ite_pos (h41.2 h1) (Ev.ite_neg (by omega) (ih (i + 1) (c - 1) (by omega) (by omega) (by omega)))
   ·rw [if_neg h1]
    refine ev_eq (hj2 c (by omega) (by omega) h1) ?_
    rw [if_neg (by omega)]
theorem RightRef_l0 {l : List S38} (hl : l.length ≤ 100000) (hM : much l ≤ 100000) : ∀ (d i m : Nat), i + d = l.length → Rt l i → Cn (S l) i m →
  Ev (fun k => tammyref07_Right.l0 k l (m : Int) (i : Int)) false ∨ (Rw l ∧ Ev (fun k => tammyref07_Right.l0 k l (m : Int) (i : Int)) (decide (D l (l.length - 1) ≤ 40))) := by
 intro d
 induction d with
 | zero =>
  intro i m hi hr hc
  obtain rfl : i = l.length := by omega
  by_cases h1 : m = 1
  ·subst h1
   right
   refine ⟨⟨hr, hc⟩, Ev.step (fun k => tammyref07_Right.l0.eq_2 _ _ _ k) (Ev.ite_neg (by omega) (Ev.ite_pos rfl (Ev.bind (Text_ref hr (by omega) hM hc.1) ?_)))⟩
   have h0 := hc.1
   have hx := X_len hr (l.length - 1) (by omega)
   obtain ⟨ts, he⟩ := ex_at (l := l) (l.length - 1) (by omega) (fun j hj => hr j (by omega))
   refine ev_eq (Right_l1 (X l (l.length - 1)) (by omega) (X l (l.length - 1)).length 0 0 (by omega) (by omega) (by omega)) ?_
   rw [List.drop_zero]
   exact text_deep he
  ·left
   exact Ev.step (fun k => tammyref07_Right.l0.eq_2 _ _ _ k) (Ev.ite_neg (by omega) (Ev.ite_neg (by omega) (Ev.now _)))
 | succ d ih =>
  intro i m hi hr hc
  have hml := Cn_le (S_le l) m i hc
  have e1 : wrap64 ((i : Int) + 1) = ((i + 1 : Nat) : Int) := by rw [w64 (by omega) (by omega)]; omega
  by_cases hm : mayB (nodeAt l i) = true
  ·have h8 := (pI hm).2
   by_cases hp : pOf (nodeAt l i) ≤ m
   ·have e2 : wrap64 (wrap64 ((m : Int) - (pOf (nodeAt l i) : Int)) + 1) = ((m - pOf (nodeAt l i) + 1 : Nat) : Int) := by
     have a : wrap64 ((m : Int) - (pOf (nodeAt l i) : Int)) = (m : Int) - (pOf (nodeAt l i) : Int) := w64 (by omega) (by omega)
     rw [a, w64 (by omega) (by omega)]; omega
    have step : ∀ v, Ev (fun k => tammyref07_Right.l0 k l ((m - pOf (nodeAt l i) + 1 : Nat) : Int) ((i + 1 : Nat) : Int)) v → Ev (fun k => tammyref07_Right.l0 k l (m : Int) (i : Int)) v := by
     intro v hv
     refine Ev.step (fun k => tammyref07_Right.l0.eq_2 _ _ _ k) (Ev.ite_pos (by omega) (Ev.ite_pos (by omega) ?_))
     rw [nat_at]
     refine Ev.bind (may_ref _) ?_
     rw [hm, parts_ref _ hm, e1]
     refine Ev.ite_pos rfl (Ev.bind (Ev.now _) (Ev.ite_neg (by omega) (Ev.bind (Ev.now _) ?_)))
     rw [e2]
     exact hv
    rcases ih (i + 1) _ (by omega) (hr.next hm hc hp) (hc.next hp) with h | ⟨h1, h2⟩
    ·exact .inl (step _ h)
    ·exact .inr ⟨h1, step _ h2⟩
   ·left
    refine Ev.step (fun k => tammyref07_Right.l0.eq_2 _ _ _ k) (Ev.ite_pos (by omega) (Ev.ite_pos (by omega) ?_))
    rw [nat_at]
    refine Ev.bind (may_ref _) ?_
    rw [hm, parts_ref _ hm]
    exact Ev.ite_pos rfl (Ev.bind (Ev.now _) (Ev.ite_pos (by omega) (Ev.now _)))
  ·left
   refine Ev.step (fun k => tammyref07_Right.l0.eq_2 _ _ _ k) (Ev.ite_pos (by omega) (Ev.ite_pos (by omega) ?_))
   rw [nat_at]
   refine Ev.bind (may_ref _) ?_
   rw [Bool.eq_false_iff.2 hm]
   exact Ev.ite_neg (by decide) (Ev.now _)
theorem Right_ref {l : List S38} (hl : l.length ≤ 100000) (hM : much l ≤ 100000) : Ev (fun k => tammyref07_Right.f k l) false ∨ (Rw l ∧ Ev (fun k => tammyref07_Right.f k l) (decide (D l (l.length - 1) ≤ 40))) :=
 RightRef_l0 hl hM l.length 0 0 (by omega) (fun j hj => by omega) rfl
theorem len_much (l : List S38) : l.length ≤ much l := by
 induction l with
 | nil => exact Nat.zero_le _
 | cons a r ih =>
  have := much_app [a] r
  have h1 : much [a] = 1 + a.f1.size := by simp [much]
  rw [List.singleton_append] at this
  rw [List.length_cons]; omega
theorem much_cons (a : S38) (r : List S38) : much (a :: r) = 1 + a.f1.size + much r := by
 have := much_app [a] r
 have h1 : much [a] = 1 + a.f1.size := by simp [much]
 rw [List.singleton_append] at this
 omega
theorem Few_l0 {l : List S38} (hl : l.length ≤ 140737488355328) (hs : ∀ t ∈ l, t.f1.size ≤ 140737488351232) : ∀ (d i s : Nat), i + d = l.length → s + much (l.drop i) = much l → s ≤ 600 → Ev (fun k => tammyref07_Few.l0 k l (s : Int) (i : Int)) (decide (much l ≤ 600)) := by
 intro d
 induction d with
 | zero =>
  intro i s hi h h6
  refine Ev.step (fun k => tammyref07_Few.l0.eq_2 _ _ _ k) (Ev.ite_neg (by omega) ?_)
  rw [List.drop_of_length_le (by omega)] at h
  have : much ([] : List S38) = 0 := rfl
  rw [decide_eq_true (by omega)]
  exact Ev.now _
 | succ d ih =>
  intro i s hi h h6
  have hlt : i < l.length := by omega
  rw [List.drop_eq_getElem_cons hlt, much_cons] at h
  have hsz := hs l[i] (List.getElem_mem hlt)
  have hn : nodeAt l i = l[i] := by unfold nodeAt; rw [List.getD_eq_getElem?_getD, List.getElem?_eq_getElem hlt]; rfl
  refine Ev.step (fun k => tammyref07_Few.l0.eq_2 _ _ _ k) (Ev.ite_pos (by omega) (Ev.ite_pos (by omega) ?_))
  have e1 : wrap64 ((i : Int) + 1) = ((i + 1 : Nat) : Int) := by rw [w64 (by omega) (by omega)]; omega
  have e2 : wrap64 ((s : Int) + 1) = (s : Int) + 1 := w64 (by omega) (by omega)
  rw [nat_at, hn, e1, e2, w64 (by omega) (by omega)]
  refine Ev.cases_ite (fun hg => ?_) (fun hg => ?_)
  ·rw [decide_eq_false (by omega)]; exact Ev.now _
  ·rw [show (s : Int) + 1 + (l[i].f1.size : Int) = ((s + (1 + l[i].f1.size) : Nat) : Int) from by omega]
   exact ih (i + 1) _ (by omega) (by omega) (by omega)
theorem Few_link {l : List S38} (hl : l.length ≤ 140737488355328) (hs : ∀ t ∈ l, t.f1.size ≤ 140737488351232) : Ev (fun k => tammyref07_Few.f k l) (decide (much l ≤ 600)) := Few_l0 hl hs l.length 0 0 (by omega) (by rw [List.drop_zero, Nat.zero_add]) (by omega)
def shT : List S48 := [⟨1, B [99], 0⟩, ⟨3, B [40], 1⟩, ⟨1, B [88], 2⟩, ⟨3, B [124], 3⟩, ⟨2, B [48], 4⟩, ⟨3, B [44], 5⟩, ⟨1, B [100], 6⟩, ⟨3, B [126], 7⟩, ⟨2, B [50], 8⟩, ⟨3, B [40], 9⟩, ⟨1, B [89], 10⟩, ⟨3, B [41], 11⟩, ⟨3, B [41], 12⟩]
def shN : List S38 := [nd 2 [88] 0, nd 0 [] 0, nd 4 [] 2, nd 2 [89] 0, nd 6 [100] 2, nd 3 [99] 2]
theorem shE : ∃ ts, Ex none 3 shN ts [99, 40, 88, 124, 48, 44, 100, 126, 50, 40, 89, 41, 41] 2 ∧ At shT 0 ts ∧ ts.length = 13 := by
 refine ⟨_, Ex.call [99] rfl (m := 2) (by omega) (Ex.argN (Ex.arg1 (Ex.two true (Ex.var [88] rfl) Ex.zero)) (Ex.proj [100] rfl (p := 2) (by omega) (by omega) (Ex.var [89] rfl))), ?_, rfl⟩
 refine ⟨⟨_, rfl, rfl, rfl⟩, ⟨_, rfl, rfl, rfl⟩, ⟨_, rfl, rfl, rfl⟩, ⟨_, rfl, rfl, rfl⟩, ⟨_, rfl, rfl, rfl⟩, ⟨_, rfl, rfl, rfl⟩, ⟨_, rfl, rfl, rfl⟩, ⟨_, rfl, rfl, rfl⟩, ⟨_, rfl, rfl, rfl⟩, ⟨_, rfl, rfl, rfl⟩, ⟨_, rfl, rfl, rfl⟩, ⟨_, rfl, rfl, rfl⟩, ⟨_, rfl, rfl, rfl⟩, trivial⟩
theorem Read_all {k : Int} {ns : List S38} {ts : List TT} {d : Nat} (h : ExprP k ns ts d) {l : List S48} (ha : At l 0 ts) (hl : l.length = ts.length) (h1 : ts.length ≤ 1000000) (h2 : ns.length ≤ 1000000) :
  (40 < d ∧ ∃ at_ : Int, Ev (fun k => expr_Read.f k l 0) ([], at_, 7)) ∨ Ev (fun k => expr_Read.f k l 0) (ns, (l.length : Int), 0) := by
 have := h l 0 [] [] ⟨-1, B [], 0⟩ ha (Nx_end (by omega)) (by omega) (Nat.zero_le _) (by simpa using h2) (by simp)
 rcases this with ⟨hd, a, hp⟩ | hr
 ·left
  refine ⟨by simp at hd; omega, a, ?_⟩
  exact hp
 ·right
  have := hr _ (TM_end (by show l.length ≤ 0 + ts.length; omega))
  rw [List.nil_append, Nat.zero_add, ← hl] at this
  exact this
theorem shown_link : Ev (fun k => tammylaw07_shown.f k) true := by
 unfold tammylaw07_shown.f
 refine Ev.bind (refToks_link [99, 40, 88, 124, 48, 44, 100, 126, 50, 40, 89, 41, 41] (by simp)) ?_
 rw [show toksR [99, 40, 88, 124, 48, 44, 100, 126, 50, 40, 89, 41, 41] = (shT, 0, 0) from by rfl]
 obtain ⟨ts, hE, hA, hL⟩ := shE
 have hR : Ev (fun k => expr_Read.f k shT 0) (shN, 13, 0) := by
  rcases Read_all (read_all hE).2 hA (by rw [hL]; rfl) (by omega) (by decide) with ⟨h, _⟩ | h
  ·omega
  ·exact h
 refine Ev.bind hR ?_
 refine Ev.ite_pos rfl (Ev.ite_pos rfl (Ev.ite_pos rfl (Ev.ite_pos (by decide) (Ev.ite_pos ?_ (Ev.ite_pos (by decide) (Ev.ite_pos ?_ (Ev.ite_pos (by decide) (Ev.ite_pos ?_ ?_))))))))
 ·rw [show rd_T38 shN 2 = nd 4 [] 2 from rfl]; unfold nd; simp only; rw [B_toList]; rfl
 ·rw [show rd_T38 shN 4 = nd 6 [100] 2 from rfl]; unfold nd; simp only; rw [B_toList]; rfl
 ·rw [show rd_T38 shN 5 = nd 3 [99] 2 from rfl]; unfold nd; simp only; rw [B_toList]; rfl
 ·have hS : S shN 0 = 0 ∧ S shN 1 = 1 ∧ S shN 2 = 0 ∧ S shN 3 = 3 ∧ S shN 4 = 3 ∧ S shN 5 = 0 := by
   have h0 : S shN 0 = 0 := by rw [S_eq]; rfl
   have h1 : S shN 1 = 1 := by rw [S_eq]; rfl
   have h2 : S shN 2 = 0 := by
    rw [S_eq]; show S shN (S shN 1 - 1) = 0; rw [h1]; exact h0
   have h3 : S shN 3 = 3 := by rw [S_eq]; rfl
   have h4 : S shN 4 = 3 := by rw [S_eq]; exact h3
   have h5 : S shN 5 = 0 := by
    rw [S_eq]; show S shN (S shN 4 - 1) = 0; rw [h4]; exact h2
   exact ⟨h0, h1, h2, h3, h4, h5⟩
  obtain ⟨h0, h1, h2, h3, h4, h5⟩ := hS
  have hw : Rw shN := by
   refine ⟨fun j hj => ?_, by decide, h5⟩
   have hj' : j < 6 := hj
   have : j = 0 ∨ j = 1 ∨ j = 2 ∨ j = 3 ∨ j = 4 ∨ j = 5 := by omega
   rcases this with rfl | rfl | rfl | rfl | rfl | rfl
   ·exact ⟨by rfl, trivial⟩
   ·exact ⟨by simp [mayB, nodeAt, shN, nd, B_toList], trivial⟩
   ·refine ⟨by simp [mayB, nodeAt, shN, nd, B_toList], ?_⟩
    show 0 < 2 ∧ 0 < S shN 1 ∧ True
    rw [h1]; simp
   ·exact ⟨by rfl, trivial⟩
   ·refine ⟨by rfl, ?_⟩
    show 0 < 4 ∧ True
    simp
   ·refine ⟨by rfl, ?_⟩
    show 0 < 5 ∧ 0 < S shN 4 ∧ True
    rw [h4]; simp
  refine Ev.bind (Right_own_of (by decide) Zz19 hw) ?_
  obtain ⟨ts', he⟩ := ex_at (l := shN) 5 (by decide) hw.1
  have hd : D shN 5 = 2 := by
   have hr := hw.1
   have d0 : D shN 0 = 0 := by rw [D_eq (fun j hj => hr j Zz29)]; rfl
   have d1 : D shN 1 = 0 := by rw [D_eq (fun j hj => hr j Zz29)]; rfl
   have d3 : D shN 3 = 0 := by rw [D_eq (fun j hj => hr j Zz29)]; rfl
   have d2 : D shN 2 = 0 := by
    rw [D_eq (fun j hj => hr j Zz29), nD_two (u := true) rfl]
    show max (brD (oddL true (nodeAt shN (S shN 1 - 1)).f0) (D shN (S shN 1 - 1))) (brD (isTwo (nodeAt shN 1).f0) (D shN 1)) = 0
    rw [h1, d1]; show max (D shN 0) 0 = 0; rw [d0]; rfl
   have d4 : D shN 4 = 1 := by
    rw [D_eq (fun j hj => hr j Zz29)]; show D shN 3 + 1 = 1; rw [d3]
   rw [D_eq (fun j hj => hr j Zz29)]
   show max (max 0 (D shN (S shN 4 - 1))) (D shN 4) + 1 = 2
   rw [h4, d4]; show max (max 0 (D shN 2)) 1 + 1 = 2; rw [d2]; rfl
  rw [show D shN (shN.length - 1) = 2 from hd]
  exact Ev.now _
theorem toks_le {mo : Option Nat} {k : Int} {ns : List S38} {ts : List TT} {x : Bytes} {d : Nat} (h : Ex mo k ns ts x d) : ts.length ≤ x.length := by
 have e : ∀ (c : Bool) (ts : List TT) (x : Bytes), ts.length ≤ x.length → (brT c ts).length ≤ (brX c x).length := by
  intro c ts x h
  cases c
  ·exact h
  ·show ((3, [40]) :: (ts ++ [(3, [41])]) : List TT).length ≤ (40 :: (x ++ [41])).length
   simp; omega
 induction h with
 | zero => exact Nat.le_refl _
 | one => exact Nat.le_refl _
 | var n hn =>
  obtain ⟨c, r, rfl, _⟩ := name_head (.inl hn)
  simp
 | con n hn =>
  obtain ⟨c, r, rfl, _⟩ := name_head (.inr hn)
  simp
 | call n hn hm a ia =>
  obtain ⟨c, r, rfl, _⟩ := name_head (.inr hn)
  simp only [List.length_append, List.length_cons, List.length_nil]; omega
 | proj n hn h1 h8 a ia =>
  obtain ⟨c, r, rfl, _⟩ := name_head (.inr hn)
  simp only [List.length_append, List.length_cons, List.length_nil]; omega
 | @two u ka na ta xa da kb nb tb xb db a b ia ib =>
  have h1 := e (oddL u ka) ta xa ia
  have h2 := e (isTwo kb) tb xb ib
  simp only [List.length_append, List.length_cons]; omega
 | arg1 a ia => exact ia
 | argN a b ia ib => simp only [List.length_append, List.length_cons]; omega
theorem right_form {l : List S38} (hw : Rw l) : ∃ k ts, Ex none k l ts (X l (l.length - 1)) (D l (l.length - 1)) := by
 have h0 := hw.pos
 obtain ⟨ts, he⟩ := ex_at (l := l) (l.length - 1) (by omega) (fun j hj => hw.1 j (by omega))
 have hS := (Cn.whole hw.2).2
 rw [hS, show l.length - 1 + 1 = l.length from by omega, span_all] at he
 exact ⟨_, ts, he⟩
theorem brX_len2 (x : Bytes) : (brX true x).length = x.length + 2 := by show (40 :: (x ++ [41])).length = _; simp
theorem brT_len2 (x : List TT) : (brT true x).length = x.length + 2 := by show ((3, [40]) :: (x ++ [(3, [41])]) : List TT).length = _; simp
end Go.Proofs.YtniaooodlccmcaaGreatDoor.E

