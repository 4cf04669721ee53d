import Derived.Test.YtniaooodlccmcaaGreatDoorDz
import Derived.Test.YtniaooodlccmcaaGreatDoorEA
import Derived.Test.YtniaooodlccmcaaGreatDoorQx12
set_option linter.unusedVariables false
set_option linter.unusedSimpArgs false
namespace Go.Proofs.YtniaooodlccmcaaGreatDoor.E
open Go.RowKit Go.Proofs.YtniaooodlccmcaaGreatDoorW.PrintWords Go.Proofs.YtniaooodlccmcaaGreatDoorW.PrintLast
open Go.Proofs.YtniaooodlccmcaaGreatDoor.Q Go.Proofs.YtniaooodlccmcaaGreatDoor.M Go.Proofs.YtniaooodlccmcaaGreatDoor.L
def nodeAt (l : List S38) (i : Nat) : S38 := l.getD i (nd 0 [] 0)
def pOf (n : S38) : Nat := if n.f0 = 6 then 1 else n.f2.toNat
def bd (f : Nat → Nat) : Nat → Nat → Nat
 | i, 0 => i
 | i, p + 1 => bd f (f (i - 1)) p
theorem bd_le {f : Nat → Nat} (hf : ∀ x, f x ≤ x) : ∀ (p i : Nat), bd f i p ≤ i
 | 0, i => Nat.le_refl _
 | p + 1, i => by
  have h1 := bd_le hf p (f (i - 1))
  have h2 := hf (i - 1)
  show bd f (f (i - 1)) p ≤ i
  omega
theorem bd_congr {f g : Nat → Nat} (hf : ∀ x, f x ≤ x) (hg : ∀ x, g x ≤ x) : ∀ (p i : Nat), (∀ j, j < i → f j = g j) → bd f i p = bd g i p
 | 0, i, _ => rfl
 | p + 1, i, h => by
  have h2 := hf (i - 1)
  have h3 := hg (i - 1)
  show bd f (f (i - 1)) p = bd g (g (i - 1)) p
  by_cases hi : i = 0
  ·subst hi
   rw [show f (0 - 1) = 0 from by simp at h2; simpa using h2, show g (0 - 1) = 0 from by simp at h3; simpa using h3]
   exact bd_congr hf hg p 0 (fun j hj => by omega)
  ·rw [← h (i - 1) (by omega)]
   exact bd_congr hf hg p _ (fun j hj => h j (by omega))
def S (l : List S38) (i : Nat) : Nat := bd (fun j => if _ : j < i then S l j else 0) i (pOf (nodeAt l i))
termination_by i
theorem S_le (l : List S38) : ∀ i, S l i ≤ i := by
 intro i
 induction i using Nat.strongRecOn with
 | _ i ih =>
  rw [S]
  refine bd_le (fun x => ?_) _ _
  split
  ·rename_i h; exact ih x h
  ·exact Nat.zero_le _
theorem S_eq (l : List S38) (i : Nat) : S l i = bd (S l) i (pOf (nodeAt l i)) := by
 rw [S]
 refine bd_congr (fun x => ?_) (S_le l) _ _ (fun j hj => by rw [dif_pos hj])
 split
 ·exact S_le l x
 ·exact Nat.zero_le _
def aX (f : Nat → Nat) (x : Nat → Bytes) : Nat → Nat → Bytes
 | _, 0 => []
 | i, p + 1 => if p = 0 then x (i - 1) else aX f x (f (i - 1)) p ++ 44 :: x (i - 1)
def aD (f : Nat → Nat) (x : Nat → Nat) : Nat → Nat → Nat
 | _, 0 => 0
 | i, p + 1 => max (aD f x (f (i - 1)) p) (x (i - 1))
theorem aX_congr {f : Nat → Nat} (hf : ∀ x, f x ≤ x) {x y : Nat → Bytes} : ∀ (p i : Nat), 0 < i → (∀ j, j < i → x j = y j) → (∀ r, r < p → 0 < bd f i r) → aX f x i p = aX f y i p
 | 0, i, _, _, _ => rfl
 | p + 1, i, hi, h, hb => by
  have h2 := hf (i - 1)
  show (if p = 0 then x (i - 1) else aX f x (f (i - 1)) p ++ 44 :: x (i - 1)) = (if p = 0 then y (i - 1) else aX f y (f (i - 1)) p ++ 44 :: y (i - 1))
  rw [h (i - 1) (by omega)]
  split
  ·rfl
  ·rw [aX_congr hf p (f (i - 1)) (hb 1 (by omega)) (fun j hj => h j (by omega)) (fun r hr => hb (r + 1) (by omega))]
def Vc (f : Nat → Nat) : Nat → Nat → Prop
 | _, 0 => True
 | i, p + 1 => 0 < i ∧ Vc f (f (i - 1)) p
def Cn (f : Nat → Nat) : Nat → Nat → Prop
 | i, 0 => i = 0
 | i, p + 1 => 0 < i ∧ Cn f (f (i - 1)) p
theorem Cn.vc {f : Nat → Nat} : ∀ (p m i : Nat), Cn f i m → p ≤ m → Vc f i p
 | 0, _, _, _, _ => trivial
 | p + 1, 0, _, _, h => by omega
 | p + 1, m + 1, i, h, hp => ⟨h.1, Cn.vc p m _ h.2 (by omega)⟩
theorem Cn.bd {f : Nat → Nat} : ∀ (p m i : Nat), Cn f i m → p ≤ m → Cn f (bd f i p) (m - p)
 | 0, m, i, h, _ => h
 | p + 1, 0, _, _, h => by omega
 | p + 1, m + 1, i, h, hp => by
  rw [show m + 1 - (p + 1) = m - p from by omega]
  exact Cn.bd p m _ h.2 (by omega)
theorem Vc.bd_pos {f : Nat → Nat} : ∀ (p i : Nat), Vc f i p → ∀ r, r < p → 0 < bd f i r
 | 0, _, _, r, hr => by omega
 | p + 1, i, h, 0, _ => h.1
 | p + 1, i, h, r + 1, hr => Vc.bd_pos p _ h.2 r (by omega)
def nX (l : List S38) (f : Nat → Nat) (x : Nat → Bytes) (i : Nat) : Bytes :=
 let n := nodeAt l i
 let m := n.f1.data.toList
 if n.f0 = 0 then [48] else if n.f0 = 1 then [49] else if n.f0 = 2 then m
 else if n.f0 = 3 then (if n.f2 = 0 then m else m ++ 40 :: (aX f x i n.f2.toNat ++ [41]))
 else if n.f0 = 6 then m ++ 126 :: fg n.f2.toNat :: 40 :: (x (i - 1) ++ [41])
 else brX (oddL (n.f0 == 4) (nodeAt l (f (i - 1) - 1)).f0) (x (f (i - 1) - 1)) ++ s2 (n.f0 == 4) :: brX (isTwo (nodeAt l (i - 1)).f0) (x (i - 1))
def nD (l : List S38) (f : Nat → Nat) (x : Nat → Nat) (i : Nat) : Nat :=
 let n := nodeAt l i
 if n.f0 = 0 then 0 else if n.f0 = 1 then 0 else if n.f0 = 2 then 0
 else if n.f0 = 3 then (if n.f2 = 0 then 0 else aD f x i n.f2.toNat + 1)
 else if n.f0 = 6 then x (i - 1) + 1
 else max (brD (oddL (n.f0 == 4) (nodeAt l (f (i - 1) - 1)).f0) (x (f (i - 1) - 1))) (brD (isTwo (nodeAt l (i - 1)).f0) (x (i - 1)))
def X (l : List S38) (i : Nat) : Bytes := nX l (S l) (fun j => if _ : j < i then X l j else []) i
termination_by i
def D (l : List S38) (i : Nat) : Nat := nD l (S l) (fun j => if _ : j < i then D l j else 0) i
termination_by i
def mayB (n : S38) : Bool :=
 if n.f0 = 0 ∨ n.f0 = 1 then n.f1.toList == [] && n.f2 == 0
 else if n.f0 = 2 then varOk n.f1.data.toList && n.f2 == 0
 else if n.f0 = 3 then conOk n.f1.data.toList && (decide (0 ≤ n.f2) && decide (n.f2 ≤ 8))
 else if n.f0 = 6 then conOk n.f1.data.toList && (decide (1 ≤ n.f2) && decide (n.f2 ≤ 8))
 else if n.f0 = 4 ∨ n.f0 = 5 then n.f1.toList == [] && n.f2 == 2
 else false
def Rt (l : List S38) (i : Nat) : Prop := ∀ j, j < i → mayB (nodeAt l j) = true ∧ Vc (S l) j (pOf (nodeAt l j))
theorem X_eq {l : List S38} {i : Nat} (h : Rt l (i + 1)) : X l i = nX l (S l) (X l) i := by
 rw [X]
 have hv := (h i (by omega)).2
 have hm := (h i (by omega)).1
 unfold mayB at hm
 unfold nX
 unfold pOf at hv
 have lt : ∀ (j : Nat), j < i → (if _ : j < i then X l j else []) = X l j := fun j hj => by rw [dif_pos hj]
 simp only
 by_cases h0 : (nodeAt l i).f0 = 0
 ·rw [if_pos h0, if_pos h0]
 rw [if_neg h0, if_neg h0]
 by_cases h1 : (nodeAt l i).f0 = 1
 ·rw [if_pos h1, if_pos h1]
 rw [if_neg h1, if_neg h1]
 by_cases h2 : (nodeAt l i).f0 = 2
 ·rw [if_pos h2, if_pos h2]
 rw [if_neg h2, if_neg h2]
 by_cases h3 : (nodeAt l i).f0 = 3
 ·rw [if_pos h3, if_pos h3]
  by_cases h4 : (nodeAt l i).f2 = 0
  ·rw [if_pos h4, if_pos h4]
  rw [if_neg h4, if_neg h4]
  rw [if_neg (by omega)] at hv
  rw [if_neg (by omega), if_neg h2, if_pos h3] at hm
  simp only [Bool.and_eq_true, decide_eq_true_eq] at hm
  obtain ⟨p, hp⟩ : ∃ p, (nodeAt l i).f2.toNat = p + 1 := ⟨(nodeAt l i).f2.toNat - 1, by omega⟩
  rw [hp] at hv ⊢
  rw [aX_congr (S_le l) (p + 1) i hv.1 lt (Vc.bd_pos _ _ hv)]
 rw [if_neg h3, if_neg h3]
 by_cases h6 : (nodeAt l i).f0 = 6
 ·rw [if_pos h6, if_pos h6]
  rw [if_pos h6] at hv
  rw [lt (i - 1) Zz30]
 rw [if_neg h6, if_neg h6]
 rw [if_neg (by omega), if_neg h2, if_neg h3, if_neg h6] at hm
 split at hm
 ·simp only [Bool.and_eq_true, beq_iff_eq] at hm
  rw [if_neg h6, hm.2] at hv
  have hv' : 0 < i ∧ 0 < S l (i - 1) ∧ True := hv
  have := S_le l (i - 1)
  rw [lt (i - 1) (by omega), lt (S l (i - 1) - 1) (by omega)]
 ·cases hm
theorem aD_congr {f : Nat → Nat} (hf : ∀ x, f x ≤ x) {x y : Nat → Nat} : ∀ (p i : Nat), Vc f i p → (∀ j, j < i → x j = y j) → aD f x i p = aD f y i p
 | 0, i, _, _ => rfl
 | p + 1, i, hv, h => by
  have h2 := hf (i - 1)
  have h0 := hv.1
  show max (aD f x (f (i - 1)) p) (x (i - 1)) = max (aD f y (f (i - 1)) p) (y (i - 1))
  rw [h (i - 1) (by omega), aD_congr hf p (f (i - 1)) hv.2 (fun j hj => h j (by omega))]
theorem D_eq {l : List S38} {i : Nat} (h : Rt l (i + 1)) : D l i = nD l (S l) (D l) i := by
 rw [D]
 have hv := (h i (by omega)).2
 have hm := (h i (by omega)).1
 unfold mayB at hm
 unfold nD
 unfold pOf at hv
 have lt : ∀ (j : Nat), j < i → (if _ : j < i then D l j else 0) = D l j := fun j hj => by rw [dif_pos hj]
 simp only
 by_cases h0 : (nodeAt l i).f0 = 0
 ·rw [if_pos h0, if_pos h0]
 rw [if_neg h0, if_neg h0]
 by_cases h1 : (nodeAt l i).f0 = 1
 ·rw [if_pos h1, if_pos h1]
 rw [if_neg h1, if_neg h1]
 by_cases h2 : (nodeAt l i).f0 = 2
 ·rw [if_pos h2, if_pos h2]
 rw [if_neg h2, if_neg h2]
 by_cases h3 : (nodeAt l i).f0 = 3
 ·rw [if_pos h3, if_pos h3]
  rw [if_neg (by omega)] at hv
  rw [aD_congr (S_le l) _ i hv lt]
 rw [if_neg h3, if_neg h3]
 by_cases h6 : (nodeAt l i).f0 = 6
 ·rw [if_pos h6, if_pos h6]
  rw [if_pos h6] at hv
  rw [lt (i - 1) Zz30]
 rw [if_neg h6, if_neg h6]
 rw [if_neg (by omega), if_neg h2, if_neg h3, if_neg h6] at hm
 split at hm
 ·simp only [Bool.and_eq_true, beq_iff_eq] at hm
  rw [if_neg h6, hm.2] at hv
  have hv' : 0 < i ∧ 0 < S l (i - 1) ∧ True := hv
  have := S_le l (i - 1)
  rw [lt (i - 1) (by omega), lt (S l (i - 1) - 1) (by omega)]
 ·cases hm
def span (l : List S38) (a b : Nat) : List S38 := (l.drop a).take (b - a)
theorem span_app (l : List S38) {a b c : Nat} (h1 : a ≤ b) (h2 : b ≤ c) : span l a b ++ span l b c = span l a c := by
 unfold span
 rw [show c - a = (b - a) + (c - b) from by omega, List.take_add, List.drop_drop, show a + (b - a) = b from by omega]
theorem span_one {l : List S38} {i : Nat} (h : i < l.length) : span l i (i + 1) = [nodeAt l i] := by
 unfold span nodeAt
 rw [show i + 1 - i = 1 from by omega, List.drop_eq_getElem_cons h, List.take_succ_cons, List.take_zero, List.getD_eq_getElem?_getD, List.getElem?_eq_getElem h]
 rfl
theorem span_all (l : List S38) : span l 0 l.length = l := by
 unfold span
 rw [List.drop_zero, Nat.sub_zero, List.take_length]
def ExAt (l : List S38) (i : Nat) : Prop := ∃ ts, Ex none (nodeAt l i).f0 (span l (S l i) (i + 1)) ts (X l i) (D l i)
theorem args_at {l : List S38} (p : Nat) : ∀ (i : Nat), (∀ j, j < i → ExAt l j) → Vc (S l) i (p + 1) → ∃ ts, Ex (some (p + 1)) 0 (span l (bd (S l) i (p + 1)) i) ts (aX (S l) (X l) i (p + 1)) (aD (S l) (D l) i (p + 1)) := by
 induction p with
 | zero =>
  intro i hx hv
  obtain ⟨ts, h⟩ := hx (i - 1) Zz30
  rw [show i - 1 + 1 = i from by have := hv.1; omega] at h
  refine ⟨ts, ?_⟩
  have e : aD (S l) (D l) i (0 + 1) = D l (i - 1) := by show max 0 (D l (i - 1)) = _; omega
  rw [e]
  exact Ex.arg1 h
 | succ p ih =>
  intro i hx hv
  obtain ⟨ts, h⟩ := hx (i - 1) Zz30
  have hle := S_le l (i - 1)
  rw [show i - 1 + 1 = i from by have := hv.1; omega] at h
  obtain ⟨ts', h'⟩ := ih (S l (i - 1)) (fun j hj => hx j Zz30) hv.2
  refine ⟨ts' ++ (3, [44]) :: ts, ?_⟩
  have := Ex.argN h' h
  rw [span_app l (bd_le (S_le l) _ _) (by omega)] at this
  exact this
theorem bs_nil {a : ByteArray} (h : (a.toList == []) = true) : a = B [] := by
 rw [B_of a]
 rw [beq_iff_eq, Lib.toList_data] at h
 rw [h]
theorem ex_at {l : List S38} : ∀ (i : Nat), i < l.length → Rt l (i + 1) → ExAt l i := by
 intro i
 induction i using Nat.strongRecOn with
 | _ i ih =>
  intro hi hr
  have hx : ∀ j, j < i → ExAt l j := fun j hj => ih j hj (by omega) (fun a ha => hr a (by omega))
  have hm := (hr i (by omega)).1
  have hv := (hr i (by omega)).2
  unfold ExAt
  have hS := S_eq l i
  have hone := span_one hi
  have hle := bd_le (S_le l) (pOf (nodeAt l i)) i
  have hsp : span l (S l i) (i + 1) = span l (S l i) i ++ [nodeAt l i] := by rw [← hone, span_app l (by omega) (by omega)]
  rw [X_eq hr, D_eq hr, hsp, hS]
  unfold mayB at hm
  unfold nX nD
  simp only
  obtain ⟨n, hn⟩ : ∃ n, nodeAt l i = n := ⟨_, rfl⟩
  rw [hn] at hm hv hS ⊢
  obtain ⟨f0, f1, f2⟩ := n
  simp only at hm ⊢
  unfold pOf at hv ⊢
  simp only at hv ⊢
  have self : ∀ j, span l j j = [] := fun j => by unfold span; rw [Nat.sub_self, List.take_zero]
  by_cases h0 : f0 = 0
  ·subst h0
   simp only [true_or, if_true, Bool.and_eq_true, beq_iff_eq] at hm
   obtain ⟨a1, rfl⟩ := hm
   have := bs_nil (beq_iff_eq.2 a1); subst this
   refine ⟨[(2, [48])], ?_⟩
   rw [if_neg (by decide), show (0 : Int).toNat = 0 from rfl, show bd (S l) i 0 = i from rfl, self, if_pos rfl, if_pos rfl]
   exact Ex.zero
  by_cases h1 : f0 = 1
  ·subst h1
   simp only [or_true, if_true, Bool.and_eq_true, beq_iff_eq] at hm
   obtain ⟨a1, rfl⟩ := hm
   have := bs_nil (beq_iff_eq.2 a1); subst this
   refine ⟨[(2, [49])], ?_⟩
   rw [if_neg (by decide), show (0 : Int).toNat = 0 from rfl, show bd (S l) i 0 = i from rfl, self, if_neg (by decide), if_pos rfl, if_neg (by decide), if_pos rfl]
   exact Ex.one
  rw [if_neg (by omega)] at hm
  rw [if_neg h0, if_neg h1, if_neg h0, if_neg h1]
  by_cases h2 : f0 = 2
  ·subst h2
   simp only [if_true, Bool.and_eq_true, beq_iff_eq] at hm
   obtain ⟨a1, rfl⟩ := hm
   refine ⟨[(1, f1.data.toList)], ?_⟩
   rw [if_neg (by decide), show (0 : Int).toNat = 0 from rfl, show bd (S l) i 0 = i from rfl, self, if_pos rfl, if_pos rfl]
   exact Ex.var _ a1
  rw [if_neg h2] at hm
  rw [if_neg h2, if_neg h2]
  by_cases h3 : f0 = 3
  ·subst h3
   simp only [if_true, Bool.and_eq_true, decide_eq_true_eq] at hm
   obtain ⟨a1, a2, a3⟩ := hm
   rw [if_neg (by decide)] at hv ⊢
   rw [if_pos rfl, if_pos rfl]
   by_cases h4 : f2 = 0
   ·subst h4
    refine ⟨[(1, f1.data.toList)], ?_⟩
    rw [show (0 : Int).toNat = 0 from rfl, show bd (S l) i 0 = i from rfl, self, if_pos rfl, if_pos rfl]
    exact Ex.con _ a1
   ·rw [if_neg h4, if_neg h4]
    obtain ⟨p, hp⟩ : ∃ p : Nat, f2 = ((p + 1 : Nat) : Int) := ⟨f2.toNat - 1, by omega⟩
    subst hp
    rw [Int.toNat_natCast] at hv ⊢
    obtain ⟨ts, h⟩ := args_at p i hx hv
    exact ⟨_, Ex.call (f1.data.toList) a1 (by omega) h⟩
  rw [if_neg h3] at hm
  rw [if_neg h3, if_neg h3]
  by_cases h6 : f0 = 6
  ·subst h6
   simp only [if_true, Bool.and_eq_true, decide_eq_true_eq] at hm
   obtain ⟨a1, a2, a3⟩ := hm
   rw [if_pos rfl] at hv ⊢
   rw [if_pos rfl, if_pos rfl]
   have hi0 := hv.1
   obtain ⟨ts, h⟩ := hx (i - 1) (by omega)
   rw [show i - 1 + 1 = i from by omega] at h
   obtain ⟨p, hp⟩ : ∃ p : Nat, f2 = (p : Int) := ⟨f2.toNat, by omega⟩
   subst hp
   rw [Int.toNat_natCast]
   exact ⟨_, Ex.proj (f1.data.toList) a1 (by omega) (by omega) h⟩
  rw [if_neg h6] at hm
  rw [if_neg h6, if_neg h6]
  split at hm
  ·rename_i h45
   simp only [Bool.and_eq_true, beq_iff_eq] at hm
   obtain ⟨a1, rfl⟩ := hm
   have := bs_nil (beq_iff_eq.2 a1); subst this
   rw [if_neg h6] at hv ⊢
   have hv' : 0 < i ∧ 0 < S l (i - 1) ∧ True := hv
   have hle1 := S_le l (i - 1)
   obtain ⟨tb, hb⟩ := hx (i - 1) (by omega)
   rw [show i - 1 + 1 = i from by omega] at hb
   obtain ⟨ta, ha⟩ := hx (S l (i - 1) - 1) (by omega)
   rw [show S l (i - 1) - 1 + 1 = S l (i - 1) from by omega] at ha
   have hle2 := S_le l (S l (i - 1) - 1)
   have e : f0 = k2 (f0 == 4) := by
    rcases h45 with rfl | rfl <;> rfl
   have h := Ex.two (f0 == 4) ha hb
   rw [span_app l (by omega) (by omega), ← e] at h
   exact ⟨_, h⟩
  ·cases hm
theorem Cn.next {l : List S38} {i m : Nat} (h : Cn (S l) i m) (hp : pOf (nodeAt l i) ≤ m) : Cn (S l) (i + 1) (m - pOf (nodeAt l i) + 1) := by
 refine ⟨Nat.succ_pos _, ?_⟩
 rw [Nat.add_sub_cancel, S_eq l i]
 exact Cn.bd _ _ _ h hp
theorem Cn.whole {l : List S38} (h : Cn (S l) l.length 1) : 0 < l.length ∧ S l (l.length - 1) = 0 := ⟨h.1, h.2⟩
theorem small_is (c : UInt8) : tammyref01_small.f (c.toNat : Int) = some (decide (97 ≤ c.toNat ∧ c.toNat ≤ 122)) := by
 unfold tammyref01_small.f
 by_cases h : (c.toNat : Int) ≥ 97
 ·rw [if_pos h]; congr 1; rw [Bool.eq_iff_iff, decide_eq_true_eq, decide_eq_true_eq]; omega
 ·rw [if_neg h]; congr 1; symm; rw [decide_eq_false_iff_not]; omega
theorem big_is (c : UInt8) : tammyref01_big.f (c.toNat : Int) = some (decide (65 ≤ c.toNat ∧ c.toNat ≤ 90)) := by
 unfold tammyref01_big.f
 by_cases h : (c.toNat : Int) ≥ 65
 ·rw [if_pos h]; congr 1; rw [Bool.eq_iff_iff, decide_eq_true_eq, decide_eq_true_eq]; omega
 ·rw [if_neg h]; congr 1; symm; rw [decide_eq_false_iff_not]; omega
def hdOk (n : Bytes) : Bool := match n with | [] => true | c :: r => letter c && r.all inner
def hd1 (p : UInt8 → Bool) (n : Bytes) : Bool := match n with | [] => false | c :: _ => p c
theorem Name_l0 (n : Bytes) (hn : n.length ≤ 20) : ∀ (d i : Nat), i + d = n.length →
  Ev (fun k => tammyref01_Name.l0 k (B n) (i : Int)) (if i = 0 then (hdOk n) else (n.drop i).all inner) := by
 intro d
 induction d with
 | zero =>
  intro i hi
  refine Ev.step (fun k => tammyref01_Name.l0.eq_2 _ _ k) (Ev.ite_neg Zz14 ?_)
  by_cases h0 : i = 0
  ·rw [if_pos h0]
   have : n = [] := List.eq_nil_of_length_eq_zero (by omega)
   subst this
   exact Ev.now _
  ·rw [if_neg h0, List.drop_of_length_le (by omega)]
   exact Ev.now _
 | succ d ih =>
  intro i hi
  have hlt : i < n.length := by omega
  have hnext := ih (i + 1) (by omega)
  rw [if_neg (by omega)] at hnext
  have hw : wrap64 ((i : Int) + 1) = ((i + 1 : Nat) : Int) := by unfold wrap64; omega
  have hv : (if i = 0 then (hdOk n) else (n.drop i).all inner) = ((if i = 0 then letter n[i] else inner n[i]) && (n.drop (i + 1)).all inner) := by
   by_cases h0 : i = 0
   ·subst h0
    rw [if_pos rfl, if_pos rfl]
    cases n with
    | nil => simp at hlt
    | cons c r => rfl
   ·rw [if_neg h0, if_neg h0, List.drop_eq_getElem_cons hlt, List.all_cons]
  rw [hv]
  have hj2 : ∀ x4 : Bool, (x4 = (fig n[i] || decide (n[i].toNat = 95))) → Ev (fun k => tammyref01_Name.j2 k (B n) (i : Int) x4) ((if i = 0 then letter n[i] else inner n[i]) && (n.drop (i + 1)).all inner) := by
   intro x4 hx4
   refine Ev.step (fun k => tammyref01_Name.j2.eq_2 _ _ _ k) (Ev.ite_pos (by omega) (Ev.ite_pos Zz14 ?_))
   rw [bt_B n i n[i] (List.getElem?_eq_getElem hlt), small_is, big_is, hw]
   refine Ev.bind (Ev.now _) (Ev.cases_ite (fun h => ?_) (fun h => ?_))
   ·rw [decide_eq_true_eq] at h
    have h1 : letter n[i] = true := by simp [letter, h]
    have h2 : inner n[i] = true := by simp [inner, h1]
    rw [h1, h2, ite_self, Bool.true_and]
    exact hnext
   refine Ev.bind (Ev.now _) (Ev.cases_ite (fun h' => ?_) (fun h' => ?_))
   ·rw [decide_eq_true_eq] at h'
    have h1 : letter n[i] = true := by simp [letter, h']
    have h2 : inner n[i] = true := by simp [inner, h1]
    rw [h1, h2, ite_self, Bool.true_and]
    exact hnext
   rw [decide_eq_true_eq] at h h'
   have h1 : letter n[i] = false := by
    simp only [letter, Bool.or_eq_false_iff, Bool.and_eq_false_iff, decide_eq_false_iff_not]; omega
   have h2 : inner n[i] = x4 := by simp only [inner, h1, Bool.false_or]; exact hx4.symm
   refine Ev.cases_ite (fun h0 => ?_) (fun h0 => ?_)
   ·rw [if_pos (by omega), h1]; exact Ev.now _
   rw [if_neg (by omega), h2]
   refine Ev.cases_ite (fun h4 => ?_) (fun h4 => ?_)
   ·rw [h4, Bool.true_and]; exact hnext
   ·rw [Bool.eq_false_iff.2 h4]; exact Ev.now _
  refine Ev.step (fun k => tammyref01_Name.l0.eq_2 _ _ k) (Ev.ite_pos Zz14 (Ev.ite_pos (by omega) ?_))
  rw [bt_B n i n[i] (List.getElem?_eq_getElem hlt)]
  have h95 : ((n[i].toNat : Int) == 95) = decide (n[i].toNat = 95) := by
   rw [Bool.eq_iff_iff, beq_iff_eq, decide_eq_true_eq]; omega
  refine Ev.cases_ite (fun h => Ev.cases_ite (fun h' => ?_) (fun h' => ?_)) (fun h => ?_)
  ·refine hj2 true ?_
   have : fig n[i] = true := by simp only [fig, Bool.and_eq_true, decide_eq_true_eq]; omega
   rw [this]; rfl
  ·refine hj2 _ ?_
   have : fig n[i] = false := by simp only [fig, Bool.and_eq_false_iff, decide_eq_false_iff_not]; omega
   rw [this, h95]; rfl
  ·refine hj2 _ ?_
   have : fig n[i] = false := by simp only [fig, Bool.and_eq_false_iff, decide_eq_false_iff_not]; omega
   rw [this, h95]; rfl
def nmOk (n : Bytes) : Bool := decide (n.length ≤ 20) && (!n.isEmpty && hdOk n)
theorem Name_link (n : Bytes) : Ev (fun k => tammyref01_Name.f k (B n)) (nmOk n) := by
 unfold tammyref01_Name.f
 rw [B_size]
 have hj : ∀ x : Bool, x = (decide (n.length < 1) || decide (20 < n.length)) → Ev (fun k => tammyref01_Name.j0 k (B n) x) (nmOk n) := by
  intro x hx
  refine Ev.step (fun k => tammyref01_Name.j0.eq_2 _ _ k) (Ev.cases_ite (fun h => ?_) (fun h => ?_))
  ·rw [h] at hx
   have : nmOk n = false := by
    unfold nmOk
    cases n with
    | nil => rfl
    | cons c r =>
     have : ¬ (c :: r).length ≤ 20 := by simp at hx ⊢; omega
     simp only [decide_eq_false this, Bool.false_and]
   rw [this]; exact Ev.now _
  ·rw [Bool.eq_false_iff.2 h] at hx
   have hb := hx.symm
   simp only [Bool.or_eq_false_iff, decide_eq_false_iff_not] at hb
   have hle : n.length ≤ 20 := by omega
   refine ev_eq (Name_l0 n hle n.length 0 (by omega)) ?_
   rw [if_pos rfl]
   unfold nmOk
   rw [decide_eq_true hle, Bool.true_and]
   cases n with
   | nil => simp at hb
   | cons c r => simp
 refine Ev.cases_ite (fun h => hj _ ?_) (fun h => hj _ ?_)
 ·symm; rw [Bool.or_eq_true, decide_eq_true_eq]; left; omega
 ·rw [decide_eq_false (show ¬ n.length < 1 by omega), Bool.false_or]
  rw [Bool.eq_iff_iff, decide_eq_true_eq, decide_eq_true_eq]; omega
theorem nm_con (n : Bytes) : conOk n = (nmOk n && hd1 (fun c => decide (97 ≤ c.toNat ∧ c.toNat ≤ 122)) n) := by
 unfold conOk nameOk nmOk
 cases n with
 | nil => rfl
 | cons c r =>
  simp only [List.all_cons]
  by_cases h : 97 ≤ c.toNat ∧ c.toNat ≤ 122
  ·have h1 : letter c = true := by simp [letter, h]
   have h2 : inner c = true := by simp [inner, h1]
   simp [h, h1, h2, hdOk, hd1]
  ·simp [decide_eq_false h, hd1]
theorem nm_var (n : Bytes) : varOk n = (nmOk n && hd1 (fun c => decide (65 ≤ c.toNat ∧ c.toNat ≤ 90)) n) := by
 unfold varOk nameOk nmOk
 cases n with
 | nil => rfl
 | cons c r =>
  simp only [List.all_cons]
  by_cases h : 65 ≤ c.toNat ∧ c.toNat ≤ 90
  ·have h1 : letter c = true := by simp [letter, h]
   have h2 : inner c = true := by simp [inner, h1]
   simp [h, h1, h2, hdOk, hd1]
  ·simp [decide_eq_false h, hd1]
theorem nm_cons {n : Bytes} (h : nmOk n = true) : ∃ c r, n = c :: r := by
 cases n with
 | nil => simp [nmOk] at h
 | cons c r => exact ⟨c, r, rfl⟩
theorem Con_link (n : Bytes) : Ev (fun k => tammyref01_Con.f k (B n)) (conOk n) := by
 unfold tammyref01_Con.f
 rw [nm_con]
 refine Ev.bind (Name_link n) (Ev.cases_ite (fun h => ?_) (fun h => ?_))
 ·obtain ⟨c, r, rfl⟩ := nm_cons h
  refine Ev.ite_pos (by rw [B_size]; simp) ?_
  rw [show (0 : Int) = ((0 : Nat) : Int) from rfl, bt_B (c :: r) 0 c rfl, small_is, h]
  exact Ev.bind (Ev.now _) (Ev.now _)
 ·rw [Bool.eq_false_iff.2 h]; exact Ev.now _
theorem Var_link (n : Bytes) : Ev (fun k => tammyref01_Var.f k (B n)) (varOk n) := by
 unfold tammyref01_Var.f
 rw [nm_var]
 refine Ev.bind (Name_link n) (Ev.cases_ite (fun h => ?_) (fun h => ?_))
 ·obtain ⟨c, r, rfl⟩ := nm_cons h
  refine Ev.ite_pos (by rw [B_size]; simp) ?_
  rw [show (0 : Int) = ((0 : Nat) : Int) from rfl, bt_B (c :: r) 0 c rfl, big_is, h]
  exact Ev.bind (Ev.now _) (Ev.now _)
 ·rw [Bool.eq_false_iff.2 h]; exact Ev.now _
theorem may_ref (n : S38) : Ev (fun k => tammyref07_may.f k n.f0 n.f1 n.f2) (mayB n) := by
 obtain ⟨f0, f1, f2⟩ := n
 unfold tammyref07_may.f
 have hc := Con_link f1.data.toList
 have hv := Var_link f1.data.toList
 rw [← B_of f1] at hc hv
 refine Ev.bind hc ?_
 simp only
 have hempty : ∀ z : Int, Ev (fun _ => if f1.toList = ([] : List UInt8) then (some (f2 == z)) else (some false)) (f1.toList == [] && f2 == z) := by
  intro z
  refine Ev.cases_ite (fun h => ?_) (fun h => ?_)
  ·rw [beq_iff_eq.2 h, Bool.true_and]; exact Ev.now _
  ·rw [beq_eq_false_iff_ne.2 h]; exact Ev.now _
 have hj0 : ∀ x10 : Bool, (x10 = (f0 == 0 || f0 == 1)) → Ev (fun k => tammyref07_may.j0 k (conOk f1.data.toList) f0 x10 f0 f1 f2) (mayB ⟨f0, f1, f2⟩) := by
  intro x10 hx
  refine Ev.step (fun k => tammyref07_may.j0.eq_2 _ _ _ _ _ _ k) ?_
  unfold mayB
  simp only
  refine Ev.cases_ite (fun h => ?_) (fun h => ?_)
  ·rw [h] at hx
   have : f0 = 0 ∨ f0 = 1 := by simpa using hx.symm
   rw [if_pos this]
   exact hempty 0
  rw [Bool.eq_false_iff.2 h] at hx
  have h01 : ¬ (f0 = 0 ∨ f0 = 1) := by simpa using hx.symm
  rw [if_neg h01]
  refine Ev.cases_ite (fun h2 => ?_) (fun h2 => ?_)
  ·rw [if_pos h2]
   refine Ev.bind hv (Ev.cases_ite (fun h => ?_) (fun h => ?_))
   ·rw [h, Bool.true_and]; exact Ev.now _
   ·rw [Bool.eq_false_iff.2 h]; exact Ev.now _
  rw [if_neg h2]
  refine Ev.cases_ite (fun h3 => ?_) (fun h3 => ?_)
  ·rw [if_pos h3]
   refine Ev.cases_ite (fun h => ?_) (fun h => ?_)
   ·rw [h, Bool.true_and]
    refine Ev.cases_ite (fun h' => ?_) (fun h' => ?_)
    ·rw [decide_eq_true (show 0 ≤ f2 from h'), Bool.true_and]; exact Ev.now _
    ·rw [decide_eq_false (show ¬ 0 ≤ f2 from h')]; exact Ev.now _
   ·rw [Bool.eq_false_iff.2 h]; exact Ev.now _
  rw [if_neg h3]
  have hj1 : ∀ x45 : Bool, (x45 = (f0 == 4 || f0 == 5)) → Ev (fun k => tammyref07_may.j1 k (conOk f1.data.toList) f0 x45 f0 f1 f2) (if f0 = 6 then conOk f1.data.toList && (decide (1 ≤ f2) && decide (f2 ≤ 8)) else if f0 = 4 ∨ f0 = 5 then f1.toList == [] && f2 == 2 else false) := by
   intro x45 hx
   refine Ev.step (fun k => tammyref07_may.j1.eq_2 _ _ _ _ _ _ k) (Ev.cases_ite (fun h => ?_) (fun h => ?_))
   ·rw [h] at hx
    have : f0 = 4 ∨ f0 = 5 := by simpa using hx.symm
    rw [if_neg (show ¬ f0 = 6 by omega), if_pos this]
    exact hempty 2
   rw [Bool.eq_false_iff.2 h] at hx
   have h45 : ¬ (f0 = 4 ∨ f0 = 5) := by simpa using hx.symm
   refine Ev.cases_ite (fun h6 => ?_) (fun h6 => ?_)
   ·rw [if_pos h6]
    refine Ev.cases_ite (fun h => ?_) (fun h => ?_)
    ·rw [h, Bool.true_and]
     refine Ev.cases_ite (fun h' => ?_) (fun h' => ?_)
     ·rw [decide_eq_true (show 1 ≤ f2 from h'), Bool.true_and]; exact Ev.now _
     ·rw [decide_eq_false (show ¬ 1 ≤ f2 from h')]; exact Ev.now _
    ·rw [Bool.eq_false_iff.2 h]; exact Ev.now _
   ·rw [if_neg h6, if_neg h45]; exact Ev.now _
  refine Ev.cases_ite (fun h4 => hj1 _ ?_) (fun h4 => hj1 _ ?_)
  ·rw [beq_iff_eq.2 h4]; rfl
  ·rw [beq_eq_false_iff_ne.2 h4, Bool.false_or]
 refine Ev.cases_ite (fun h => hj0 _ ?_) (fun h => hj0 _ ?_)
 ·rw [beq_iff_eq.2 h]; rfl
 ·rw [beq_eq_false_iff_ne.2 h, Bool.false_or]
theorem may_own (n : S38) : Ev (fun k => expr_may.f k n.f0 n.f1 n.f2) (mayB n) := by
 obtain ⟨f0, f1, f2⟩ := n
 unfold expr_may.f
 have hc := IsCon_link f1.data.toList
 have hv := IsVar_link f1.data.toList
 rw [← B_of f1] at hc hv
 simp only
 have hempty : ∀ z : Int, Ev (fun _ => if f1.toList = ([] : List UInt8) then (some (f2 == z)) else (some false)) (f1.toList == [] && f2 == z) := by
  intro z
  refine Ev.cases_ite (fun h => ?_) (fun h => ?_)
  ·rw [beq_iff_eq.2 h, Bool.true_and]; exact Ev.now _
  ·rw [beq_eq_false_iff_ne.2 h]; exact Ev.now _
 have hj0 : ∀ x5 : Bool, (x5 = (f0 == 0 || f0 == 1)) → Ev (fun k => expr_may.j0 k f0 x5 f0 f1 f2) (mayB ⟨f0, f1, f2⟩) := by
  intro x5 hx
  refine Ev.step (fun k => expr_may.j0.eq_2 _ _ _ _ _ k) ?_
  unfold mayB
  simp only [hv, hc]
  refine Ev.cases_ite (fun h => ?_) (fun h => ?_)
  ·rw [h] at hx
   have : f0 = 0 ∨ f0 = 1 := by simpa using hx.symm
   rw [if_pos this]
   exact hempty 0
  rw [Bool.eq_false_iff.2 h] at hx
  have h01 : ¬ (f0 = 0 ∨ f0 = 1) := by simpa using hx.symm
  rw [if_neg h01]
  refine Ev.cases_ite (fun h2 => ?_) (fun h2 => ?_)
  ·rw [if_pos h2]
   refine Ev.bind (Ev.now _) (Ev.cases_ite (fun h => ?_) (fun h => ?_))
   ·rw [h, Bool.true_and]; exact Ev.now _
   ·rw [Bool.eq_false_iff.2 h]; exact Ev.now _
  rw [if_neg h2]
  refine Ev.cases_ite (fun h3 => ?_) (fun h3 => ?_)
  ·rw [if_pos h3]
   refine Ev.bind (Ev.now _) (Ev.cases_ite (fun h => ?_) (fun h => ?_))
   ·rw [h, Bool.true_and]
    refine Ev.cases_ite (fun h' => ?_) (fun h' => ?_)
    ·rw [decide_eq_true (show 0 ≤ f2 from h'), Bool.true_and]; exact Ev.now _
    ·rw [decide_eq_false (show ¬ 0 ≤ f2 from h')]; exact Ev.now _
   ·rw [Bool.eq_false_iff.2 h]; exact Ev.now _
  rw [if_neg h3]
  refine Ev.cases_ite (fun h6 => ?_) (fun h6 => ?_)
  ·rw [if_pos h6]
   refine Ev.bind (Ev.now _) (Ev.cases_ite (fun h => ?_) (fun h => ?_))
   ·rw [h, Bool.true_and]
    refine Ev.cases_ite (fun h' => ?_) (fun h' => ?_)
    ·rw [decide_eq_true (show 1 ≤ f2 from h'), Bool.true_and]; exact Ev.now _
    ·rw [decide_eq_false (show ¬ 1 ≤ f2 from h')]; exact Ev.now _
   ·rw [Bool.eq_false_iff.2 h]; exact Ev.now _
  rw [if_neg h6]
  refine Ev.cases_ite (fun h4 => ?_) (fun h4 => ?_)
  ·rw [if_pos (show f0 = 4 ∨ f0 = 5 from .inl h4)]; exact hempty 2
  refine Ev.cases_ite (fun h5 => ?_) (fun h5 => ?_)
  ·rw [if_pos (show f0 = 4 ∨ f0 = 5 from .inr h5)]; exact hempty 2
  rw [if_neg (by omega)]
  exact Ev.now _
 refine Ev.cases_ite (fun h => hj0 _ ?_) (fun h => hj0 _ ?_)
 ·rw [beq_iff_eq.2 h]; rfl
 ·rw [beq_eq_false_iff_ne.2 h, Bool.false_or]
theorem nat_at (l : List S38) (i : Nat) : rd_T38 l (i : Int) = nodeAt l i := by
 unfold rd_T38 nodeAt
 rw [Int.toNat_natCast]; rfl
theorem bd_succ (f : Nat → Nat) : ∀ (r i : Nat), bd f i (r + 1) = f (bd f i r - 1)
 | 0, _ => rfl
 | r + 1, i => bd_succ f r (f (i - 1))
theorem Vc.mono {f : Nat → Nat} : ∀ (r p i : Nat), Vc f i p → r ≤ p → Vc f i r
 | 0, _, _, _, _ => trivial
 | r + 1, 0, _, _, h => by omega
 | r + 1, p + 1, i, h, hr => ⟨h.1, Vc.mono r p _ h.2 (by omega)⟩
theorem w64 {x : Int} (h0 : -9223372036854775808 ≤ x) (h1 : x ≤ 9223372036854775807) : wrap64 x = x := wrap64_nat h0 h1
theorem pI {n : S38} (h : mayB n = true) : (if n.f0 = 6 then (1 : Int) else n.f2) = (pOf n : Int) ∧ pOf n ≤ 8 := by
 obtain ⟨f0, f1, f2⟩ := n
 unfold mayB at h
 unfold pOf
 simp only at h ⊢
 by_cases h6 : f0 = 6
 ·rw [if_pos h6, if_pos h6]; exact ⟨rfl, by omega⟩
 ·rw [if_neg h6, if_neg h6]
  have : 0 ≤ f2 ∧ f2 ≤ 8 := by
   split at h
   ·simp only [Bool.and_eq_true, beq_iff_eq] at h; omega
   split at h
   ·simp only [Bool.and_eq_true, beq_iff_eq] at h; omega
   split at h
   ·simp only [Bool.and_eq_true, decide_eq_true_eq] at h; omega
   split at h
   ·simp only [Bool.and_eq_true, beq_iff_eq] at h; omega
   ·cases h
  exact ⟨by omega, by omega⟩
def Tb (st : List Int) (l : List S38) (i : Nat) : Prop := i ≤ st.length ∧ ∀ j : Nat, j < i → rd st (j : Int) = (S l j : Int)
def stL (l : List S38) (n : Nat) : List Int := (List.range n).map fun j => ((S l j : Nat) : Int)
theorem rdn (xs : List Int) (j : Nat) : rd xs (j : Int) = xs.getD j 0 := by unfold rd; rw [Int.toNat_natCast]
theorem stL_len (l : List S38) (n : Nat) : (stL l n).length = n := by simp [stL]
theorem stL_rd (l : List S38) (n j : Nat) (h : j < n) : rd (stL l n) (j : Int) = (S l j : Int) := by
 rw [rdn, List.getD_eq_getElem?_getD]
 simp [stL, List.getElem?_map, List.getElem?_range h]
theorem stL_succ (l : List S38) (n : Nat) : stL l (n + 1) = stL l n ++ [((S l n : Nat) : Int)] := by simp [stL, List.range_succ]
theorem stL_tb (l : List S38) (n i : Nat) (h : i ≤ n) : Tb (stL l n) l i := ⟨by rw [stL_len]; exact h, fun j hj => stL_rd l n j (by omega)⟩
theorem parts_ref (n : S38) (h : mayB n = true) : tammyref07_Parts.f n.f0 n.f1 n.f2 = some (pOf n : Int) := by
 unfold tammyref07_Parts.f
 rw [← (pI h).1]
 split <;> rfl
theorem parts_own (n : S38) (h : mayB n = true) : expr_parts.f n.f0 n.f1 n.f2 = some (pOf n : Int) := by
 unfold expr_parts.f
 rw [← (pI h).1]
 split <;> rfl
structure Ok (l : List S38) (i : Nat) : Prop where
 lt : i < l.length
 len : l.length ≤ 1000000
 may : mayB (nodeAt l i) = true
 vc : Vc (S l) i (pOf (nodeAt l i))
theorem Ok.of {l : List S38} {i : Nat} (h : Rt l l.length) (hi : i < l.length) (hl : l.length ≤ 1000000) : Ok l i := ⟨hi, hl, (h i hi).1, (h i hi).2⟩
theorem Starts_l1 {l : List S38} {i : Nat} (hk : Ok l i) {res : List Int} (h : Ev (fun k => tammyref07_Starts.l0 k l (stL l (i + 1)) ((i + 1 : Nat) : Int)) res) : ∀ (d r : Nat), r + d = pOf (nodeAt l i) →
  Ev (fun k => tammyref07_Starts.l1 k l (stL l i) (i : Int) (bd (S l) i r : Int) (r : Int)) res := by
 intro d
 have h8 := (pI hk.may).2
 have hlt := hk.lt
 have hlen := hk.len
 induction d with
 | zero =>
  intro r hr
  refine Ev.step (fun k => tammyref07_Starts.l1.eq_2 _ _ _ _ _ k) (Ev.ite_pos (by omega) (Ev.ite_pos (by omega) ?_))
  rw [nat_at, parts_ref _ hk.may]
  refine Ev.bind (Ev.now _) (Ev.ite_neg (by omega) (Ev.ite_pos (by rw [stL_len]; omega) ?_))
  rw [w64 (by omega) (by omega), show r = pOf (nodeAt l i) from by omega, ← S_eq, ← stL_succ]
  exact h
 | succ d ih =>
  intro r hr
  refine Ev.step (fun k => tammyref07_Starts.l1.eq_2 _ _ _ _ _ k) (Ev.ite_pos (by omega) (Ev.ite_pos (by omega) ?_))
  have hp := Vc.bd_pos _ _ hk.vc r (by omega)
  have hb := bd_le (S_le l) r i
  rw [nat_at, parts_ref _ hk.may, w64 (by omega) (by omega), w64 (by omega) (by omega)]
  refine Ev.bind (Ev.now _) (Ev.ite_pos (by omega) (Ev.ite_pos (by omega) (Ev.ite_pos (by rw [stL_len]; omega) ?_)))
  rw [show ((bd (S l) i r : Nat) : Int) - 1 = ((bd (S l) i r - 1 : Nat) : Int) from by omega, stL_rd l i _ (by omega), ← bd_succ (S l), show (r : Int) + 1 = ((r + 1 : Nat) : Int) from by omega]
  exact ih (r + 1) (by omega)
theorem Starts_l0 {l : List S38} (hr : Rt l l.length) (hl : l.length ≤ 1000000) : ∀ (d i : Nat), i + d = l.length → Ev (fun k => tammyref07_Starts.l0 k l (stL l i) (i : Int)) (stL l l.length) := by
 intro d
 induction d with
 | zero =>
  intro i hi
  refine Ev.step (fun k => tammyref07_Starts.l0.eq_2 _ _ _ k) (Ev.ite_neg (by omega) ?_)
  rw [show i = l.length from by omega]
  exact Ev.now _
 | succ d ih =>
  intro i hi
  refine Ev.step (fun k => tammyref07_Starts.l0.eq_2 _ _ _ k) (Ev.ite_pos (by omega) ?_)
  exact Starts_l1 (Ok.of hr (by omega) hl) (ih (i + 1) (by omega)) (pOf (nodeAt l i)) 0 (by omega)
theorem Starts_ref {l : List S38} (hr : Rt l l.length) (hl : l.length ≤ 1000000) : Ev (fun k => tammyref07_Starts.f k l) (stL l l.length) := Starts_l0 hr hl l.length 0 (by omega)
def kL (l : List S38) (i p : Nat) : List Int := (List.range p).map fun j => ((bd (S l) i (p - 1 - j) : Nat) : Int) - 1
def kR (l : List S38) (i p : Nat) : List Int := (List.range p).map fun j => ((bd (S l) i j : Nat) : Int) - 1
theorem kR_len (l : List S38) (i p : Nat) : (kR l i p).length = p := by simp [kR]
theorem kL_len (l : List S38) (i p : Nat) : (kL l i p).length = p := by simp [kL]
theorem kR_succ (l : List S38) (i p : Nat) : kR l i (p + 1) = kR l i p ++ [((bd (S l) i p : Nat) : Int) - 1] := by simp [kR, List.range_succ]
theorem kL_succ (l : List S38) (i p : Nat) : kL l i (p + 1) = (((bd (S l) i p : Nat) : Int) - 1) :: kL l i p := by
 unfold kL
 rw [List.range_succ_eq_map, List.map_cons, List.map_map]
 congr 1
 refine List.map_congr_left fun j hj => ?_
 show ((bd (S l) i (p + 1 - 1 - (j + 1)) : Nat) : Int) - 1 = _
 rw [show p + 1 - 1 - (j + 1) = p - 1 - j from by omega]
theorem kR_rev (l : List S38) (i : Nat) : ∀ p, (kR l i p).reverse = kL l i p
 | 0 => rfl
 | p + 1 => by rw [kR_succ, List.reverse_append, kR_rev l i p, kL_succ]; rfl
theorem kL_rd (l : List S38) (i p j : Nat) (h : j < p) : rd (kL l i p) (j : Int) = ((bd (S l) i (p - 1 - j) : Nat) : Int) - 1 := by
 rw [rdn, List.getD_eq_getElem?_getD]
 simp [kL, List.getElem?_map, List.getElem?_range h]
theorem Kids_l1 (xs : List Int) (hx : xs.length ≤ 1000) : ∀ (m : Nat) (ys : List Int), m ≤ xs.length → ys.length + m ≤ 1000 → Ev (fun k => tammyref07_Kids.l1 k xs ys ((m : Int) - 1)) (ys ++ (xs.take m).reverse) := by
 intro m
 induction m with
 | zero =>
  intro ys _ _
  refine Ev.step (fun k => tammyref07_Kids.l1.eq_2 _ _ _ k) (Ev.ite_neg (by omega) ?_)
  rw [List.take_zero, List.reverse_nil, List.append_nil]
  exact Ev.now _
 | succ m ih =>
  intro ys hm hy
  refine Ev.step (fun k => tammyref07_Kids.l1.eq_2 _ _ _ k) (Ev.ite_pos (by omega) (Ev.ite_pos (by omega) (Ev.ite_pos (by omega) (Ev.ite_pos (by omega) ?_))))
  have e : ((m + 1 : Nat) : Int) - 1 = (m : Int) := by omega
  rw [e, w64 (by omega) (by omega)]
  have := ih (ys ++ [rd xs (m : Int)]) (by omega) (by simp; omega)
  refine ev_eq this ?_
  rw [rdn, List.getD_eq_getElem?_getD, List.take_succ_eq_append_getElem (show m < xs.length by omega), List.getElem?_eq_getElem (show m < xs.length by omega), List.reverse_append, List.append_assoc]
  rfl
theorem Kids_l0 {l : List S38} {i : Nat} (hk : Ok l i) {st : List Int} (ht : Tb st l i) : ∀ (d r : Nat), r + d = pOf (nodeAt l i) →
  Ev (fun k => tammyref07_Kids.l0 k l st (i : Int) (kR l i r) (((bd (S l) i r : Nat) : Int) - 1) (r : Int)) (kL l i (pOf (nodeAt l i))) := by
 intro d
 have h8 := (pI hk.may).2
 have hlt := hk.lt
 have hlen := hk.len
 induction d with
 | zero =>
  intro r hr
  refine Ev.step (fun k => tammyref07_Kids.l0.eq_2 _ _ _ _ _ _ k) (Ev.ite_pos (by omega) (Ev.ite_pos (by omega) ?_))
  rw [nat_at, parts_ref _ hk.may]
  refine Ev.bind (Ev.now _) (Ev.ite_neg (by omega) ?_)
  have hr' : r = pOf (nodeAt l i) := by omega
  rw [kR_len, w64 (by omega) (by omega), hr']
  have := Kids_l1 (kR l i (pOf (nodeAt l i))) (by rw [kR_len]; omega) (pOf (nodeAt l i)) [] (by rw [kR_len]; exact Nat.le_refl _) (by simp; omega)
  refine ev_eq this ?_
  rw [List.nil_append, List.take_of_length_le (by rw [kR_len]; exact Nat.le_refl _), kR_rev]
 | succ d ih =>
  intro r hr
  refine Ev.step (fun k => tammyref07_Kids.l0.eq_2 _ _ _ _ _ _ k) (Ev.ite_pos (by omega) (Ev.ite_pos (by omega) ?_))
  have hp := Vc.bd_pos _ _ hk.vc r (by omega)
  have hb := bd_le (S_le l) r i
  have hb' := bd_le (S_le l) (r + 1) i
  have htl := ht.1
  rw [nat_at, parts_ref _ hk.may]
  refine Ev.bind (Ev.now _) (Ev.ite_pos (by omega) (Ev.ite_pos (by rw [kR_len]; omega) (Ev.ite_pos (by omega) (Ev.ite_pos (by omega) ?_))))
  rw [← kR_succ, show ((bd (S l) i r : Nat) : Int) - 1 = ((bd (S l) i r - 1 : Nat) : Int) from by omega, ht.2 _ (by omega), ← bd_succ (S l), w64 (by omega) (by omega), w64 (by have := bd_le (S_le l) (r + 1) i; omega) (by have := bd_le (S_le l) (r + 1) i; omega), show (r : Int) + 1 = ((r + 1 : Nat) : Int) from by omega]
  exact ih (r + 1) (by omega)
theorem Kids_ref {l : List S38} {i : Nat} (hk : Ok l i) {st : List Int} (ht : Tb st l i) : Ev (fun k => tammyref07_Kids.f k l st (i : Int)) (kL l i (pOf (nodeAt l i))) := by
 have := Kids_l0 hk ht (pOf (nodeAt l i)) 0 (by omega)
 unfold tammyref07_Kids.f
 have hlt := hk.lt
 have hlen := hk.len
 rw [w64 (by omega) (by omega)]
 exact this
theorem kEnd_is {l : List S38} {i : Nat} (hk : Ok l i) {st : List Int} (ht : Tb st l i) : ∀ r, r ≤ pOf (nodeAt l i) → kEnd st ((i : Int) - 1) r = ((bd (S l) i r : Nat) : Int) - 1
 | 0, _ => rfl
 | r + 1, h => by
  have hp := Vc.bd_pos _ _ hk.vc r (by omega)
  have hb := bd_le (S_le l) r i
  have hb' := bd_le (S_le l) (r + 1) i
  have hlt := hk.lt
  have hlen := hk.len
  rw [kEnd, kEnd_is hk ht r (by omega), show ((bd (S l) i r : Nat) : Int) - 1 = ((bd (S l) i r - 1 : Nat) : Int) from by omega, ht.2 _ (by omega), ← bd_succ (S l), w64 (by omega) (by omega)]
theorem kids_own {l : List S38} {i : Nat} (hk : Ok l i) {st : List Int} (ht : Tb st l i) : expr_kids.f l st (i : Int) = some (kL l i (pOf (nodeAt l i))) := by
 have h8 := (pI hk.may).2
 have hlt := hk.lt
 have hlen := hk.len
 have htl := ht.1
 unfold expr_kids.f
 rw [if_pos (by omega), if_pos (by omega), nat_at, parts_own _ hk.may, Option.bind_some, if_pos ⟨by omega, by omega⟩, Int.toNat_natCast, w64 (by omega) (by omega), if_pos]
 ·congr 1
  unfold kOut kL
  refine List.map_congr_left fun j hj => ?_
  rw [List.mem_range] at hj
  exact kEnd_is hk ht _ (by omega)
 ·unfold kOk
  rw [List.all_eq_true]
  intro r hr
  rw [List.mem_range] at hr
  have hp := Vc.bd_pos _ _ hk.vc r hr
  have hb := bd_le (S_le l) r i
  rw [kEnd_is hk ht r (by omega), Bool.and_eq_true, decide_eq_true_eq, decide_eq_true_eq]
  omega
theorem rd_set_at (xs : List Int) (i : Nat) (v : Int) (h : i < xs.length) : rd (xs.set i v) (i : Int) = v := by
 rw [rdn, List.getD_eq_getElem?_getD, List.getElem?_set_self (by simpa using h)]; rfl
theorem rd_set_ne (xs : List Int) (i j : Nat) (v : Int) (h : i ≠ j) : rd (xs.set i v) (j : Int) = rd xs (j : Int) := by
 rw [rdn, rdn, List.getD_eq_getElem?_getD, List.getD_eq_getElem?_getD, List.getElem?_set_ne h]
theorem OwnStarts_l0 {l : List S38} (hr : Rt l l.length) (hl : l.length ≤ 1000000) : ∀ (d i : Nat) (st : List Int), i + d = l.length → st.length = l.length → Tb st l i →
  Ev (fun k => expr_Starts.l0 k l st (l.length : Int) (i : Int)) (stL l l.length) := by
 intro d
 induction d with
 | zero =>
  intro i st hi hs ht
  refine Ev.step (fun k => expr_Starts.l0.eq_2 _ _ _ _ k) (Ev.ite_neg (by omega) ?_)
  refine ev_eq (Ev.now _) (List.ext_getElem (by rw [stL_len, hs]) fun j h1 h2 => ?_)
  have a := ht.2 j (by omega)
  have b := stL_rd l l.length j (by omega)
  rw [rdn, List.getD_eq_getElem?_getD, List.getElem?_eq_getElem h1] at a
  rw [rdn, List.getD_eq_getElem?_getD, List.getElem?_eq_getElem h2] at b
  simp only [Option.getD_some] at a b
  rw [a, b]
 | succ d ih =>
  intro i st hi hs ht
  have hk := Ok.of hr (show i < l.length by omega) hl
  refine Ev.step (fun k => expr_Starts.l0.eq_2 _ _ _ _ k) (Ev.ite_pos (by omega) (Ev.ite_pos (by omega) (Ev.ite_pos (by omega) ?_)))
  refine Ev.bind (Ev.now _) ?_
  rw [Int.toNat_natCast, w64 (by omega) (by omega)]
  have ht1 : Tb (st.set i (i : Int)) l i := ⟨by rw [List.length_set]; exact ht.1, fun j hj => by rw [rd_set_ne _ _ _ _ (by omega)]; exact ht.2 j hj⟩
  rw [kids_own hk ht1]
  refine Ev.bind (Ev.now _) ?_
  rw [kL_len]
  have hnext : ∀ v : Int, v = (S l i : Int) → ∀ st', st'.length = l.length → (∀ j : Nat, j < i → rd st' (j : Int) = (S l j : Int)) → rd st' (i : Int) = v → Ev (fun k => expr_Starts.l0 k l st' (l.length : Int) ((i : Int) + 1)) (stL l l.length) := by
   intro v hv st' hl' h1 h2
   rw [show (i : Int) + 1 = ((i + 1 : Nat) : Int) from by omega]
   refine ih (i + 1) st' (by omega) hl' ⟨by omega, fun j hj => ?_⟩
   by_cases hji : j = i
   ·rw [hji, h2, hv]
   ·exact h1 j (by omega)
  have hS := S_eq l i
  refine Ev.cases_ite (fun hp => ?_) (fun hp => ?_)
  ·obtain ⟨p, hpp⟩ : ∃ p, pOf (nodeAt l i) = p + 1 := ⟨pOf (nodeAt l i) - 1, by omega⟩
   rw [hpp] at hp hS ⊢
   have h0 := kL_rd l i (p + 1) 0 (by omega)
   rw [show p + 1 - 1 - 0 = p from by omega] at h0
   have h0' : rd (kL l i (p + 1)) 0 = ((bd (S l) i p : Nat) : Int) - 1 := h0
   have hpos := Vc.bd_pos _ _ hk.vc p (by omega)
   have hb := bd_le (S_le l) p i
   rw [h0', show ((bd (S l) i p : Nat) : Int) - 1 = ((bd (S l) i p - 1 : Nat) : Int) from by omega]
   refine Ev.ite_pos (by omega) (Ev.ite_pos (by omega) (Ev.ite_pos (by omega) ?_))
   rw [ht1.2 _ (by omega), ← bd_succ (S l), ← hS]
   refine hnext _ rfl _ (by rw [List.length_set, List.length_set]; exact hs) (fun j hj => ?_) (rd_set_at _ _ _ (by rw [List.length_set]; omega))
   rw [rd_set_ne _ _ _ _ (by omega)]
   exact ht1.2 j hj
  ·have hp0 : pOf (nodeAt l i) = 0 := by omega
   rw [hp0] at hS
   refine hnext _ (by rw [hS]; rfl) _ (by rw [List.length_set]; exact hs) ht1.2 (rd_set_at _ _ _ (by omega))
theorem Starts_own {l : List S38} (hr : Rt l l.length) (hl : l.length ≤ 1000000) : Ev (fun k => expr_Starts.f k l) (stL l l.length) := by
 unfold expr_Starts.f
 refine Ev.ite_pos (by omega) (Ev.ite_pos (by omega) ?_)
 rw [Int.toNat_natCast]
 exact OwnStarts_l0 hr hl l.length 0 _ (by omega) (by simp) ⟨Nat.zero_le _, fun j hj => by omega⟩
end Go.Proofs.YtniaooodlccmcaaGreatDoor.E

