import Derived.Test.YtniaooodlccmcaaGreatDoorDz
import Derived.Test.YtniaooodlccmcaaGreatDoorQx0
import Derived.Test.YtniaooodlccmcaaGreatDoorQx2
namespace Go.Proofs.YtniaooodlccmcaaGreatDoor.Q
open Go.RowKit Go.Proofs.YtniaooodlccmcaaGreatDoorW.PrintWords Go.Proofs.YtniaooodlccmcaaGreatDoorW.PrintLast Go.Proofs.YtniaooodlccmcaaGreatDoorW.PrintMore
attribute [local go_sem] max2_int min2_int max_two min_two max_three min_three max_four min_four
set_option linter.unusedVariables false
set_option linter.unusedSimpArgs false
section
open Go.Shelf
attribute [local go_sem] Oper.semAt_some
abbrev BX (len : Nat) := { k : Nat // k < len } × Int
def bxE (len : Nat) (x : BX len) : Array Value := #[.int .i64 (x.1.1 : Int), .int .i64 x.2]
def HeldB (Bs b len cap : Nat) (W : World) : Prop := W.cell? ⟨Bs, 0, none⟩ = some (.slice (some ⟨b, 0, none⟩) len cap) ∧ ∀ j, j < len → ∃ v, W.cell? ⟨b, j, none⟩ = some (.int .i64 v)
def KpB (Bs b len cap : Nat) (W W' : World) : Prop := HeldB Bs b len cap W → HeldB Bs b len cap W'
set_option maxRecDepth 100000 in
set_option maxHeartbeats 2000000 in
theorem bw1_in (F : Fence) (n : Nat) (h7 : F.fn 53) (hro : F.round = none) (hn : 1 ≤ n) (l Bs b len cap : Nat) (hlen : len ≤ 1000000000) (J Jx : List (BX len) → World → Prop)
  (hY : ∀ pre (x : BX len) W, J pre W → pre.length < len → YieldAt F (n - 1) Tryz.prog l (bxE len x) W fun e W' =>
   (e = .returned (.bool true) ∧ J (pre ++ [x]) W' ∧ KpB Bs b len cap W W') ∨ (e = .returned (.bool false) ∧ Jx (pre ++ [x]) W'))
  (W : World) (hH : HeldB Bs b len cap W) (h0 : J [] W) :
  CallsIn F n Tryz.prog 53 #[.func (.yield l) #[] #[], .pointer (some ⟨Bs, 0, none⟩)] W fun e W' => (∃ v, e = .returned v) ∧
   ((∃ ys, ys.map (·.1.1) = (List.range len).reverse ∧ J ys W') ∨ (∃ pre, True ∧ Jx pre W')) := by
 refine callsIn_of_wp Tryz.func53 rfl h7 ?_ hro
 simp only [Tryz.ntmps53, List.size_toArray, List.length_cons, List.length_nil, Nat.reduceAdd, Nat.reduceSub, Array.replicate_succ, Array.replicate_zero, List.push_toArray, List.append_toArray, List.nil_append, List.cons_append]
 have hb0 := hH.1
 have hw0 : wrap64 ((len : Int) - 1) = (len : Int) - 1 := by unfold wrap64; omega
 gi_wp2
 gi_loopw [3] (fun i wr => ∃ (k : Nat) (pre : List (BX len)), k ≤ len ∧ i = .int .i64 ((k : Int) - 1) ∧ pre.map (·.1.1) ++ (List.range k).reverse = (List.range len).reverse ∧ J pre wr ∧ HeldB Bs b len cap wr)
  (fun i _ => (intOf i + 1).toNat)
 case atStart => exact ⟨len, [], Nat.le_refl _, rfl, rfl, h0, hH⟩
 case round =>
  obtain ⟨k, pre, hk, rfl, hpre, hJs, hHr⟩ := hrel
  have hBs := hHr.1
  cases k with
  | zero =>
   have t0 : ¬ (0 : Int) ≤ ((0 : Nat) : Int) - 1 := by omega
   have t1 : decide ((0 : Int) ≤ ((0 : Nat) : Int) - 1) = false := by decide
   gi_wp2
   go_end0
   exact ⟨⟨_, rfl⟩, .inl ⟨pre, by simpa using hpre, hJs⟩⟩
  | succ k =>
   obtain ⟨v, hv⟩ := hHr.2 k (by omega)
   have hpl : pre.length < len := by have := congrArg List.length hpre; simp at this; omega
   obtain ⟨fn, tmps, assign, body, hy, hR⟩ := hY pre (⟨k, by omega⟩, v) wr hJs hpl
   dsimp only [bxE] at hy
   have e1 : ((k + 1 : Nat) : Int) - 1 = (k : Int) := by omega
   rw [e1]
   have e2 : (0 : Int) ≤ (k : Int) := by omega
   have e3 : (k : Int) < (len : Int) := by omega
   have hHH := Aside0.mk hHr
   have hpp := Aside0.mk hpre
   clear hpre hHr hpl e1
   gi_wp2
   refine hR.mono ?_
   rintro e W3 (⟨rfl, hJ3, hk3⟩ | ⟨rfl, hJx3⟩)
   ·have hH3 := hk3 hHH.out
    gi_wp2
    go_roundw
    case rel => exact ⟨k, pre ++ [(⟨k, by omega⟩, v)], by omega, by simp, by have := hpp.out; rw [List.range_succ, List.reverse_append] at this; simpa using this, hJ3, hH3⟩
    case measure => simp [intOf]
   ·gi_wp2
    refine bodyPost_ret (results_none rfl _ _ _) rfl ?_
    exact ⟨⟨_, rfl⟩, .inr ⟨_, trivial, hJx3⟩⟩
end
section
open Go.Shelf
attribute [local go_sem] Oper.semAt_some
set_option maxHeartbeats 1000000 in
theorem bw_in (F : Fence) (n : Nat) (h5 : F.fn 32) (hro : F.round = none) (a : Option Addr) (len cap : Nat) (w : World) :
  CallsIn F n Tryz.prog 32 #[.slice a len cap] w fun e w' => e = .returned (.func (.func 53) #[] #[.pointer (some ⟨w.heap.size, 0, none⟩)]) ∧ w' = w.alloc (.cells #[.slice a len cap] 25) := by
 refine callsIn_of_wp Tryz.func32 rfl h5 ?_ hro
 simp only [Tryz.ntmps32, List.size_toArray, List.length_cons, List.length_nil, Nat.reduceAdd, Nat.reduceSub, Array.replicate_succ, Array.replicate_zero, List.push_toArray, List.append_toArray, List.nil_append, List.cons_append]
 gi_wp2
 go_ret
 exact ⟨rfl, rfl⟩
theorem bw_stops (F : Fence) (n : Nat) (h7 : F.fn 53) (hro : F.round = none) (hn : 1 ≤ n) (Bs b len cap : Nat) (hlen : len ≤ 1000000000) (w : World) (hBs : Bs < w.heap.size) (hb : b < w.heap.size) (hH : HeldB Bs b len cap w) :
  SeqStopsK F n Tryz.prog 53 #[.pointer (some ⟨Bs, 0, none⟩)] (bxE len) (KpB Bs b len cap) (fun ys => ys.map (·.1.1) = (List.range len).reverse) (fun pre => True) len w := fun l J Jx W hW _ _ hY h0 =>
 bw1_in F n h7 hro hn l Bs b len cap hlen J Jx hY W ⟨(hW.cell (p := ⟨Bs, 0, none⟩) hBs).trans hH.1, fun j hj => by obtain ⟨v, hv⟩ := hH.2 j hj; exact ⟨v, (hW.cell (p := ⟨b, j, none⟩) hb).trans hv⟩⟩ h0
theorem KpB_t {Bs b len cap : Nat} {A B C : World} (h : KpB Bs b len cap A B) (k : KpB Bs b len cap B C) : KpB Bs b len cap A C := fun x => k (h x)
theorem KpB_b {Bs b len cap : Nat} (W : World) (l : Nat) (o o' : Obj) (hl : W.heap[l]? = some o) (hc : o.isCells = false) : KpB Bs b len cap W (W.putObj l o') := fun h => by
 have hk : ∀ {b' j v}, W.cell? ⟨b', j, none⟩ = some v → (W.putObj l o').cell? ⟨b', j, none⟩ = some v := fun h => cell_kept h (grownBy_putObj' W l o') (fun r e => by cases e; exact ⟨o, hl, hc⟩)
 exact ⟨hk h.1, fun j hj => by obtain ⟨v, hv⟩ := h.2 j hj; exact ⟨v, hk hv⟩⟩
end
def kEnd (starts : List Int) (e : Int) : Nat → Int
 | 0 => e
 | r + 1 => wrap64 (rd starts (kEnd starts e r) - 1)
def kOk (starts : List Int) (e : Int) (m : Nat) : Bool := (List.range m).all (fun r => decide (0 ≤ kEnd starts e r) && decide (kEnd starts e r < (starts.length : Int)))
def kOut (starts : List Int) (e : Int) (m : Nat) : List Int := (List.range m).map (fun j => kEnd starts e (m - 1 - j))
def expr_kids.f (l0 : List S38) (l1 : List Int) (a2 : Int) : Option (List Int) :=
 if 0 ≤ a2 then (if a2 < (l0.length : Int) then (expr_parts.f (rd_T38 l0 a2).f0 (rd_T38 l0 a2).f1 (rd_T38 l0 a2).f2).bind fun p =>
  if 0 ≤ p ∧ p ≤ 1000 then (if kOk l1 (wrap64 (a2 - 1)) p.toNat = true then some (kOut l1 (wrap64 (a2 - 1)) p.toNat) else none) else none else none) else none
def kCont (starts : List Int) (e : Int) (m : Nat) (ks : List Nat) : List Int := (ks.foldl (fun (p : Nat × List Int) k => (p.1 + 1, p.2.set k (kEnd starts e p.1))) (0, List.replicate m 0)).2
theorem kCont_fst (starts : List Int) (e : Int) : ∀ (ks : List Nat) (p : Nat × List Int), (ks.foldl (fun (p : Nat × List Int) k => (p.1 + 1, p.2.set k (kEnd starts e p.1))) p).1 = p.1 + ks.length
 | [], p => rfl
 | k :: r, p => by rw [List.foldl_cons, kCont_fst starts e r]; simp; omega
theorem kCont_snoc (starts : List Int) (e : Int) (m : Nat) (ks : List Nat) (k : Nat) : kCont starts e m (ks ++ [k]) = (kCont starts e m ks).set k (kEnd starts e ks.length) := by
 unfold kCont
 rw [List.foldl_append, List.foldl_cons, List.foldl_nil, kCont_fst]
 simp
theorem kCont_len (starts : List Int) (e : Int) (m : Nat) : ∀ (ks : List Nat), (kCont starts e m ks).length = m := by
 intro ks
 have : ∀ n (ks : List Nat), ks.length = n → (kCont starts e m ks).length = m := by
  intro n
  induction n with
  | zero => intro ks h; obtain rfl := List.eq_nil_of_length_eq_zero h; simp [kCont]
  | succ n ih =>
   intro ks h
   obtain ⟨r, x, rfl⟩ : ∃ r x, ks = r ++ [x] := ⟨ks.dropLast, ks.getLast (by intro e; subst e; cases h), (List.dropLast_concat_getLast _).symm⟩
   rw [kCont_snoc, List.length_set]
   exact ih r (by simpa using h)
 exact this _ ks rfl
theorem kCont_at (starts : List Int) (e : Int) (m : Nat) : ∀ (r k : Nat) (ks : List Nat), k + r = m → ks ++ (List.range k).reverse = (List.range m).reverse → ∀ j, j < m → (kCont starts e m ks)[j]? = some (if k ≤ j then kEnd starts e (m - 1 - j) else 0)
 | 0, k, ks, hr, h, j, hj => by
  obtain rfl : k = m := by omega
  have h0 : ks = [] := by have := congrArg List.length h; simp at this; exact this
  subst h0
  rw [if_neg (by omega)]
  simp [kCont, hj]
 | r + 1, k, ks, hr, h, j, hj => by
  have hl : ks.length = r + 1 := by have := congrArg List.length h; simp at this; omega
  obtain ⟨q, x, rfl⟩ : ∃ q x, ks = q ++ [x] := ⟨ks.dropLast, ks.getLast (by intro e; subst e; cases hl), (List.dropLast_concat_getLast _).symm⟩
  have hq : q.length = r := by simpa using hl
  have hx : x = k ∧ q ++ (List.range (k + 1)).reverse = (List.range m).reverse := by
   have h1 := congrArg (fun l => l[r]?) h
   simp only [List.append_assoc] at h1
   rw [List.getElem?_append_right (by omega), hq, Nat.sub_self] at h1
   rw [List.getElem?_reverse (by simp; omega)] at h1
   simp only [List.singleton_append, List.getElem?_cons_zero, List.length_range] at h1
   rw [List.getElem?_range (by omega)] at h1
   have hxk : x = k := by injection h1 with h1; omega
   subst hxk
   refine ⟨rfl, ?_⟩
   rw [List.range_succ, List.reverse_append, ← h]
   simp
  obtain ⟨rfl, hq2⟩ := hx
  have ih := kCont_at starts e m r (x + 1) q (by omega) hq2 j hj
  rw [kCont_snoc]
  by_cases hjx : j = x
  ·subst hjx
   rw [List.getElem?_set_self (by rw [kCont_len]; exact hj), if_pos (Nat.le_refl _), hq]
   congr 2
   omega
  ·rw [List.getElem?_set_ne (by omega), ih]
   congr 1
   by_cases h2 : x ≤ j
   ·rw [if_pos h2, if_pos (by omega)]
   ·rw [if_neg h2, if_neg (by omega)]
theorem kCont_all (starts : List Int) (e : Int) (m : Nat) {ks : List Nat} (h : ks = (List.range m).reverse) : kCont starts e m ks = kOut starts e m := by
 apply List.ext_getElem?
 intro j
 by_cases hj : j < m
 ·rw [kCont_at starts e m m 0 ks (by omega) (by rw [h]; simp) j hj, if_pos (Nat.zero_le _)]
  simp [kOut, hj]
 ·rw [List.getElem?_eq_none (by rw [kCont_len]; omega), List.getElem?_eq_none (by simp [kOut]; omega)]
theorem kOk_at {starts : List Int} {e : Int} {m : Nat} (h : kOk starts e m = true) {r : Nat} (hr : r < m) : 0 ≤ kEnd starts e r ∧ kEnd starts e r < (starts.length : Int) := by
 unfold kOk at h
 rw [List.all_eq_true] at h
 simpa using h r (List.mem_range.mpr hr)
def IkC (w : World) (b : Nat) (A1 : Option Addr) (c1 : Nat) (l1 : List Int) (e0 : Int) (m : Nat) (pre : List (BX m)) (W : World) : Prop :=
 W.heap[b]? = some (.cells (nums .i64 (kCont l1 e0 m (pre.map (·.1.1)))).toArray 3 (0, 0)) ∧ W.heap[b + 1]? = some (.cells #[.slice (some ⟨b, 0, none⟩) m m] 25 (0, 0)) ∧ W.heap[b + 2]? = some (.cells #[.int .i64 (kEnd l1 e0 pre.length)] 3 (0, 0)) ∧ W.heap[b + 3]? = some (.cells #[.slice (some ⟨b, 0, none⟩) m m] 25 (0, 0)) ∧ W.heap[w.heap.size]? = some (.cells #[.slice A1 l1.length c1] 25 (0, 0))
theorem blk_own {W W' : World} {k : Nat} {cs : Array Value} {t : TypeId} {fr : Nat × Nat} {row : Option Nat} (h : W.heap[k]? = some (.cells cs t fr)) (hg : W.grownBy W' row) (hr : ∀ r, row = some r → ∃ o : Obj, W.heap[r]? = some o ∧ o.isCells = false) : W'.heap[k]? = some (.cells cs t fr) := by
 refine (hg.block k (blk_lt h) (fun e => ?_)).trans h
 obtain ⟨o, ho, hc⟩ := hr k e.symm
 rw [h] at ho
 cases ho
 cases hc
theorem IkC_own (w : World) (b : Nat) (A1 : Option Addr) (c1 : Nat) (l1 : List Int) (e0 : Int) (m : Nat) : Own (IkC w b A1 c1 l1 e0 m) := fun s W W' row hs hg hr =>
 ⟨blk_own hs.1 hg hr, blk_own hs.2.1 hg hr, blk_own hs.2.2.1 hg hr, blk_own hs.2.2.2.1 hg hr, blk_own hs.2.2.2.2 hg hr⟩
theorem alloc_old {W : World} {k : Nat} {x : Obj} (h : W.heap[k]? = some x) (o : Obj) : (W.alloc o).heap[k]? = some x := blk_grown h (World.grownBy_alloc W o none) (by simp)
theorem alloc_new {W : World} {k : Nat} (o : Obj) (h : W.heap.size = k) : (W.alloc o).heap[k]? = some o := by
 subst h
 exact heap_alloc_new W o
theorem made_nums (m : Nat) : madeCells #[.int .i64 0] m = (nums .i64 (List.replicate m 0)).toArray := by
 rw [← Array.toArray_toList (xs := madeCells #[.int .i64 0] m), toList_madeCells_one]
 simp [nums]
theorem nums_held {W : World} {b m : Nat} {xs : List Int} (h : W.heap[b]? = some (.cells (nums .i64 xs).toArray 3 (0, 0))) (hl : xs.length = m) : ∀ j, j < m → W.cell? ⟨b, j, none⟩ = some (.int .i64 (xs.getD j 0)) := by
 intro j hj
 rw [blk_cell h j]
 have : j < xs.length := by omega
 simp [nums, this, List.getD_eq_getElem?_getD]
theorem info3k : (Tryz.prog.info? 3).map (fun i => (i.zero, i.size, i.bytes)) = some (some (.int .i64 0), 1, 8) := by kernel_rfl
section
open Go.Shelf
attribute [local go_sem] Oper.semAt_some
set_option maxHeartbeats 8000000 in
set_option maxRecDepth 100000 in
theorem kids_in (A0 : Option Addr) (c0 : Nat) (l0 : List S38) (A1 : Option Addr) (c1 : Nat) (l1 : List Int) (a2 : Int) (m : Nat) (w : World) (hr0 : Kd.C k38 w A0 l0.length l0) (hr1 : Kd.C (Kd.int .i64) w A1 l1.length l1)
  (h1 : 0 ≤ a2) (h2 : a2 < (l0.length : Int)) (hp : expr_parts.f (rd_T38 l0 a2).f0 (rd_T38 l0 a2).f1 (rd_T38 l0 a2).f2 = some (m : Int)) (hm : m ≤ 1000) (hk : kOk l1 (wrap64 (a2 - 1)) m = true) :
  CallsIn Fence.wide 5 Tryz.prog 19 #[.slice A0 l0.length c0, .slice A1 l1.length c1, .int .i64 a2] w fun e w' => ∃ v0_ : Value, e = .returned v0_ ∧ Kd.R (Kd.int .i64) 3 w' w.heap.size (fun _ => True) v0_ (kOut l1 (wrap64 (a2 - 1)) m) ∧ Below w.heap.size w w' := by
 obtain ⟨ad, rfl, hx0, hx1, hx2⟩ := at_T38 hr0 a2 h1 h2
 have HP := Aside0.mk hp
 have HK := Aside0.mk hk
 have HR1 := Aside0.mk hr1
 have hmk := print_make (P := Tryz.prog) 25 3 .i64 8 Tryz.underlying25 info3k (by omega) m (by omega)
 have hhm : (m : Int) ≤ 1000 := by omega
 clear hp hk hr0 hr1
 have hne : (1 : Nat) ≤ 5 := by omega
 have n0 := cell_alloc2_ hx0 (.cells #[.slice A1 l1.length c1] 25)
 have n1 := cell_alloc2_ hx1 (.cells #[.slice A1 l1.length c1] 25)
 have n2 := cell_alloc2_ hx2 (.cells #[.slice A1 l1.length c1] 25)
 refine callsIn_of_wp_marks Tryz.func19 rfl trivial ?_ rfl
 simp only [Tryz.ntmps19, List.size_toArray, List.length_cons, List.length_nil, Nat.reduceAdd, Nat.reduceSub, Array.replicate_succ, Array.replicate_zero, List.push_toArray, List.append_toArray, List.nil_append, List.cons_append]
 gi_wp2_with (first | (refine ⟨trivial, ?_⟩; gi_at_call 20; (with_reducible refine (callsIn_wide.2 (expr_parts.calls _ _ _ (m : Int) _ HP.out)).mono ?_); rintro e w1 ⟨rfl, hb1⟩; have HB1 := Aside0.mk hb1; clear hb1) | (refine ⟨trivial, ?_⟩; gi_at_call 32; refine (bw_in Fence.wide _ trivial rfl _ _ _ _).mono ?_; rintro e w2 ⟨rfl, rfl⟩))
 have hsz : w.heap.size + 1 ≤ w1.heap.size := by have := HB1.out.size; simpa using this
 obtain ⟨e0, he0⟩ : ∃ e0, wrap64 (a2 - 1) = e0 := ⟨_, rfl⟩
 rw [he0] at HK ⊢
 obtain ⟨W0, hW0⟩ : ∃ W0, ((((w1.alloc (.cells (madeCells #[.int .i64 0] m) 3)).alloc (.cells #[.slice (some ⟨w1.heap.size, 0, none⟩) m m] 25)).alloc (.cells #[.int .i64 e0] 3)).alloc (.cells #[.slice (some ⟨w1.heap.size, 0, none⟩) m m] 25)) = W0 := ⟨_, rfl⟩
 rw [hW0]
 have hs0 : w1.heap.size + 4 = W0.heap.size := by rw [← hW0]; simp
 have hB0 : Below w.heap.size w W0 := by
  rw [← hW0]
  have h1 : Below w.heap.size w w1 := (below_alloc (Below.refl _ _) _).trans (HB1.out.mono (by simp))
  exact below_alloc (below_alloc (below_alloc (below_alloc h1 _) _) _) _
 have hI0 : IkC w w1.heap.size A1 c1 l1 e0 m [] W0 := by
  have hst : w1.heap[w.heap.size]? = some (.cells #[.slice A1 l1.length c1] 25 (0, 0)) := (HB1.out.block w.heap.size (by simp)).trans (heap_alloc_new w _)
  rw [← hW0]
  refine ⟨?_, ?_, ?_, ?_, ?_⟩
  ·have h0 : kCont l1 e0 m (([] : List (BX m)).map (·.1.1)) = List.replicate m 0 := rfl
   rw [h0, ← made_nums]
   exact alloc_old (alloc_old (alloc_old (alloc_new _ rfl) _) _) _
  ·exact alloc_old (alloc_old (alloc_new _ (by simp)) _) _
  ·exact alloc_old (alloc_new _ (by simp)) _
  ·exact alloc_new _ (by simp)
  ·exact alloc_old (alloc_old (alloc_old (alloc_old hst _) _) _) _
 obtain ⟨b, hbb⟩ : ∃ b, w1.heap.size = b := ⟨_, rfl⟩
 rw [hbb] at hI0 hs0 hsz ⊢
 have hH0 : HeldB (b + 3) b m m W0 := ⟨blk_cell hI0.2.2.2.1 0, fun j hj => ⟨_, nums_held hI0.1 (kCont_len _ _ _ _) j hj⟩⟩
 clear hW0 hbb
 have hx9 : (1 : Nat) ≤ 5 := by omega
 refine wpIn_rangeFunc_ownF rfl hx9 (gf := 53) (lb := #[.pointer (some ⟨b + 1 + 1 + 1, 0, none⟩)]) rfl trivial (enters_of Tryz.func53 (by kernel_rfl) rfl)
  (bw_stops Fence.wide (5 - 1) trivial rfl (by omega) (b + 3) b m m (by omega) W0 (by omega) (by omega) hH0) KpB_t (fun W l o o' _ hl hc _ => KpB_b W l o o' hl hc) (Below.refl _ _) (fun _ => rfl)
  (fun pre W => IkC w b A1 c1 l1 e0 m pre W ∧ Below w.heap.size w W)
  (fun _ _ _ => False)
  (OwnFrom.and ((IkC_own w b A1 c1 l1 e0 m).from _) (ownFrom_below (Nat.le_refl _) (by omega)))
  (fun _ _ _ _ _ hs _ _ => hs)
  ⟨hI0, hB0⟩
  (fun x => { tmps := #[.slice (some ad) l0.length c0, .slice A1 l1.length c1, .int .i64 a2, undef, .pointer (some ⟨w.heap.size, 0, none⟩), undef, .slice none 0 0, .pointer (some ⟨b + 1, 0, none⟩), .pointer (some ⟨b + 1 + 1, 0, none⟩), .int .i64 (x.1.1 : Int), .slice (some ad) l0.length c0, .int .i64 a2, .pointer (some (ad.add (a2.toNat * 3))), .agg #[.int .i64 (rd_T38 l0 a2).f0, .string (rd_T38 l0 a2).f1, .int .i64 (rd_T38 l0 a2).f2], .int .i64 (m : Int), .slice (some ⟨b, 0, none⟩) m m, .int .i64 a2, .int .i64 e0, .slice (some ⟨b, 0, none⟩) m m, .func (.func 53) #[] #[.pointer (some ⟨b + 1 + 1 + 1, 0, none⟩)], .int .i64 (x.1.1 : Int), .int .i64 x.2, undef, undef, undef, undef, undef, undef, undef, undef, undef, undef], defers := [] }) ?assign ?body ?done ?stop
 case assign =>
  intro l x W K hK
  dsimp only [bxE]
  gi_wp2
  exact hK
 case body =>
  rintro l pre ⟨⟨k, hkm⟩, v⟩ W ⟨hI, hB⟩ hlt
  obtain ⟨q0, q1⟩ := kOk_at HK.out hlt
  obtain ⟨ad1, rfl, hx⟩ := Kd.at_int HR1.out _ q0 q1
  have HI := Aside0.mk hI
  have HB := Aside0.mk hB
  have cb1 := blk_cell hI.2.1 0
  have cb2 := blk_cell hI.2.2.1 0
  have cst := blk_cell hI.2.2.2.2 0
  replace cb1 : W.cell? ⟨b + 1, 0, none⟩ = some (.slice (some ⟨b, 0, none⟩) m m) := cb1
  replace cb2 : W.cell? ⟨b + 1 + 1, 0, none⟩ = some (.int .i64 (kEnd l1 e0 pre.length)) := cb2
  replace cst : W.cell? ⟨w.heap.size, 0, none⟩ = some (.slice (some ad1) l1.length c1) := cst
  have cbk := nums_held hI.1 (kCont_len _ _ _ _) k hkm
  have fbk := blk_frozen hI.1 k
  have fb2 : W.frozen? ⟨b + 1 + 1, 0, none⟩ = false := blk_frozen hI.2.2.1 0
  have hb0 := World.block_lt_of_cell? w _ hx
  have hx' := pw_cell_below hB hx
  have ne1 : (ad1.add (kEnd l1 e0 pre.length).toNat).block ≠ b := by omega
  have ne2 : w.heap.size ≠ b := by omega
  have ne3 : b ≠ (ad1.add (kEnd l1 e0 pre.length).toNat).block := by omega
  have k0 : (0 : Int) ≤ (k : Int) := by omega
  have k1 : (k : Int) < (m : Int) := by omega
  obtain ⟨q, hq⟩ : ∃ q, kEnd l1 e0 pre.length = q := ⟨_, rfl⟩
  have HQ := Aside0.mk hq
  rw [hq] at q0 q1 hx' cb2 ne1 ne3 hb0
  have hx3 := (((Below.refl w.heap.size W).setCell (p := ⟨b, k, none⟩) (show w.heap.size ≤ b by omega) (.int .i64 q)).cell (p := ad1.add q.toNat) hb0).trans hx'
  clear hq hx hb0 ne1 ne3 hI hB hH0 hI0 hB0 hx0 hx1 hx2 n0 n1 n2
  gi_wp2
  have hI' : IkC w b (some ad1) c1 l1 e0 m (pre ++ [(⟨k, hkm⟩, v)]) ((W.setCell ⟨b, k, none⟩ (.int .i64 q)).setCell ⟨b + 1 + 1, 0, none⟩ (.int .i64 (wrap64 (rd l1 q - 1)))) := by
   refine ⟨?_, ?_, ?_, ?_, ?_⟩
   ·have h0 := blk_far (blk_set HI.out.1 k (.int .i64 q)) (p := ⟨b + 1 + 1, 0, none⟩) (show b ≠ b + 1 + 1 by omega) (.int .i64 (wrap64 (rd l1 q - 1)))
    rw [h0, List.map_append, List.map_cons, List.map_nil, kCont_snoc, List.length_map, HQ.out]
    simp [nums, List.map_set]
   ·exact blk_far (blk_far HI.out.2.1 (p := ⟨b, k, none⟩) (show b + 1 ≠ b by omega) _) (p := ⟨b + 1 + 1, 0, none⟩) (show b + 1 ≠ b + 1 + 1 by omega) _
   ·have h0 := blk_set (blk_far HI.out.2.2.1 (p := ⟨b, k, none⟩) (show b + 2 ≠ b by omega) (.int .i64 q)) 0 (.int .i64 (wrap64 (rd l1 q - 1)))
    rw [show b + 1 + 1 = b + 2 from rfl, h0, List.length_append, List.length_singleton, kEnd, HQ.out]
    rfl
   ·exact blk_far (blk_far HI.out.2.2.2.1 (p := ⟨b, k, none⟩) (show b + 3 ≠ b by omega) _) (p := ⟨b + 1 + 1, 0, none⟩) (show b + 3 ≠ b + 1 + 1 by omega) _
   ·exact blk_far (blk_far HI.out.2.2.2.2 (p := ⟨b, k, none⟩) ne2 _) (p := ⟨b + 1 + 1, 0, none⟩) (show w.heap.size ≠ b + 1 + 1 by omega) _
  exact ⟨(KeepsOthers.setCell _ _ _).trans (KeepsOthers.setCell _ _ _), fun _ => ⟨blk_cell hI'.2.2.2.1 0, fun j hj => ⟨_, nums_held hI'.1 (kCont_len _ _ _ _) j hj⟩⟩, hI', (HB.out.setCell (p := ⟨b, k, none⟩) (show w.heap.size ≤ b by omega) _).setCell (p := ⟨b + 1 + 1, 0, none⟩) (show w.heap.size ≤ b + 1 + 1 by omega) _⟩
 case done =>
  rintro D ys W hD hS ⟨hI, hB⟩ hK
  have hA := kCont_all l1 e0 m hS
  have h0 := hI.1
  rw [hA] at h0
  have cb1 := blk_cell hI.2.1 0
  replace cb1 : W.cell? ⟨b + 1, 0, none⟩ = some (.slice (some ⟨b, 0, none⟩) m m) := cb1
  have H0 := Aside0.mk h0
  have HB := Aside0.mk hB
  have HD := Aside0.mk hD
  clear hI hB hA h0 hS hD
  gi_wp2
  refine ⟨by simp, .inl ⟨_, _, rfl, run_takeDeferred hK, ?_⟩⟩
  refine ⟨_, results_tmp rfl _ _ _, _, rfl, ?_, ?_⟩
  ·rw [he0]
   have h1 := blk_own H0.out (grownBy_putObj' W D (.deferred none)) (fun r e => by cases e; exact ⟨_, hK, rfl⟩)
   have ho : (W.putObj D (.deferred none)).ownsRow w.heap.size 3 1 (.slice (some ⟨b, 0, none⟩) m m) m (nums .i64 (kOut l1 e0 m)) :=
    ⟨by simp [nums, kOut], .inr ⟨b, m, _, rfl, by omega, h1, Nat.le_refl _, by simp only [maxLen]; omega, by simp [nums, kOut], by rw [List.toList_toArray, List.take_of_length_le (by simp [nums, kOut])]⟩⟩
   have hl : (kOut l1 e0 m).length = m := by simp [kOut]
   exact Kd.R_of_own (by rw [hl]; exact ho) (fun _ _ => trivial)
  ·exact HB.out.trans (belowK_b (w := w) (Nat.le_refl _) W D _ _ (by have := HD.out; omega) hK rfl rfl)
 case stop =>
  rintro D c pre W _ _ h _
  exact h.elim
end
theorem expr_kids.calls (A0 : Option Addr) (c0 : Nat) (l0 : List S38) (A1 : Option Addr) (c1 : Nat) (l1 : List Int) (a2 : Int) (r : List Int) (w : World) (hr0 : Kd.C k38 w A0 l0.length l0) (hc0 : l0.length ≤ c0) (hr1 : Kd.C (Kd.int .i64) w A1 l1.length l1) (hc1 : l1.length ≤ c1) (h : expr_kids.f l0 l1 a2 = some r) :
  Calls Tryz.prog 19 #[.slice A0 l0.length c0, .slice A1 l1.length c1, .int .i64 a2] w fun e w' => ∃ v0_ : Value, e = .returned (v0_) ∧ Kd.R (Kd.int .i64) 3 w' w.heap.size (fun _ => True) v0_ r ∧ Below w.heap.size w w' := by
 unfold expr_kids.f at h
 split at h
 ·rename_i h1
  split at h
  ·rename_i h2
   obtain ⟨p, hp, h⟩ := Option.bind_eq_some_iff.1 h
   split at h
   ·rename_i h3
    split at h
    ·rename_i h4
     obtain rfl := Option.some.inj h
     obtain ⟨m, rfl⟩ := Int.eq_ofNat_of_zero_le h3.1
     exact callsIn_wide.1 (kids_in A0 c0 l0 A1 c1 l1 a2 m w hr0 hr1 h1 h2 hp (by omega) h4)
    ·cases h
   ·cases h
  ·cases h
 ·cases h
def expr_Starts.l0 : Nat → List (S38) → List Int → Int → Int → Option (List Int)
 | 0, _, _, _, _ => none
 | k + 1, x0, x3, x10, x11 => if x11 < x10 then (if 0 ≤ x11 then (if x11 < (x3.length : Int) then ((some (x3.set (x11 : Int).toNat x11 : List Int)).bind fun y119 => ((expr_kids.f x0 y119 x11).bind fun t120 => (if (t120.length : Int) > 0 then (if 0 < (t120.length : Int) then (if 0 ≤ (rd t120 0) then (if (rd t120 0) < (x3.length : Int) then (expr_Starts.l0 k x0 (y119.set (x11 : Int).toNat (rd y119 (rd t120 0))) x10 (wrap64 (x11 + 1))) else (none)) else (none)) else (none)) else (expr_Starts.l0 k x0 y119 x10 (wrap64 (x11 + 1)))))) else (none)) else (none)) else (some x3)
def expr_Starts.f (k : Nat) (l0 : List (S38)) : Option (List Int) := if 0 ≤ (l0.length : Int) then (if ((l0.length : Int) : Int).toNat ≤ 35184372088832 then (expr_Starts.l0 k l0 (List.replicate ((l0.length : Int) : Int).toNat 0) (l0.length : Int) 0) else (none)) else (none)
theorem expr_Starts.mono_l : ∀ k, (∀ y0 y1 y2 y3, LeO (expr_Starts.l0 k y0 y1 y2 y3) (expr_Starts.l0 (k + 1) y0 y1 y2 y3))
 | 0 => fun _ _ _ _ r h => by simp [expr_Starts.l0] at h
 | k + 1 => by
  have ih0 := expr_Starts.mono_l k
  ·intro y0 y1 y2 y3
   unfold expr_Starts.l0
   repeat' first
   | (with_reducible exact ih0 _ _ _ _)
   | (with_reducible exact LeO.refl _)
   | (with_reducible exact LeO.none _)
   | (with_reducible refine LeO.ite ?_ ?_)
   | (with_reducible refine LeO.bind ?_ (fun _ => ?_))
   | exact ih0 _ _ _ _
   | exact LeO.none _
   | refine LeO.ite ?_ ?_
   | refine LeO.bind ?_ (fun _ => ?_)
theorem expr_Starts.mono : ∀ a0 k, LeO (expr_Starts.f k a0) (expr_Starts.f (k + 1) a0) := by
 intro a0 k
 have ih0 := expr_Starts.mono_l k
 unfold expr_Starts.f
 repeat' first
   | (with_reducible exact ih0 _ _ _ _)
   | (with_reducible exact LeO.refl _)
   | (with_reducible exact LeO.none _)
   | (with_reducible refine LeO.ite ?_ ?_)
   | (with_reducible refine LeO.bind ?_ (fun _ => ?_))
   | exact ih0 _ _ _ _
   | exact LeO.none _
   | refine LeO.ite ?_ ?_
   | refine LeO.bind ?_ (fun _ => ?_)
set_option maxHeartbeats 8000000 in
set_option maxRecDepth 100000 in
theorem expr_Starts.calls (k : Nat) (A0 : Option Addr) (c0 : Nat) (l0 : List (S38)) (r : List Int) (w : World) (hr0 : Kd.C k38 w A0 l0.length l0) (hc0 : l0.length ≤ c0) (h : expr_Starts.f k l0 = some r) :
  Calls Tryz.prog 10 #[.slice A0 l0.length c0] w fun e w' => ∃ v0_ : Value, e = .returned (v0_) ∧ Kd.R (Kd.int .i64) 3 w' w.heap.size (fun _ => True) v0_ r ∧ Below w.heap.size w w' := by
 have HR0 := Aside0.mk hr0
 have HC0 := Aside0.mk hc0
 clear hr0 hc0
 have HB := Aside0.mk (Below.refl w.heap.size w)
 have H : (if 0 ≤ (l0.length : Int) then (if ((l0.length : Int) : Int).toNat ≤ 35184372088832 then (expr_Starts.l0 k l0 (List.replicate ((l0.length : Int) : Int).toNat 0) (l0.length : Int) 0) else (none)) else (none)) = some r := h
 clear h
 by_cases c2 : 0 ≤ (l0.length : Int)
 ·rw [if_pos c2] at H
  have c2b0 := eq_true c2
  have c2b1 := decide_eq_true c2
  clear c2
  by_cases c3 : ((l0.length : Int) : Int).toNat ≤ 35184372088832
  ·rw [if_pos c3] at H
   have c3b0 := eq_true c3
   have c3b1 := decide_eq_true c3
   clear c3
   obtain ⟨y116, hy116⟩ : ∃ y_ : List Int, y_ = (List.replicate ((l0.length : Int) : Int).toNat 0) := ⟨_, rfl⟩
   replace H : (expr_Starts.l0 k l0 y116 (l0.length : Int) 0) = some r := by first | (rw [hy116]; with_reducible exact H) | (have H2_ := (Option.bind_some _ _).symm.trans H; rw [hy116]; with_reducible exact H2_) | (have H2_ := (Option.bind_some _ _).symm.trans H; with_reducible exact H2_) | with_reducible exact H | (rw [hy116]; exact H) | exact H
   have Ny116 := Aside0.mk hy116
   clear hy116
   have H' := Aside0.mk H
   clear H
   go_enter Tryz.func10, Tryz.ntmps10
   go_wp2_with (first | ((with_reducible refine gate_dst (N := 8) rfl ?_); refine Kd.R_make (Kd.int .i64) _ 3 rfl (N := 8) rfl 25 _ _ rfl (l0.length : Int) rfl rfl Tryz.underlying25 (.int .i64 0) 8 info3 rfl (by decide) (by omega) 0 (ok := fun _ => True) (okp := fun _ => True) rfl (fun _ hk => hk) trivial (of_decide_eq_true Zz1) (Nat.le_trans (Nat.mul_le_mul_right _ (of_decide_eq_true Zz1 : (l0.length : Int).toNat ≤ 35184372088832)) (by omega)) (Below.refl _ _) (Nat.le_refl _) ?_; intro v117 w4 ho5 hb hg_ hnew_; clear hg_ hnew_; (first | rw [← Ny116.out] at ho5 | (simp only [Int.reduceToNat] at ho5; rw [← Ny116.out] at ho5)); have n0_ := Aside0.mk (Kd.R_lower ho5 (below_size Zz0)); have n1_ := Aside0.mk (below_step Zz0 hb); clear HB; have HO118 := n0_; have HB := n1_; clear n0_ n1_; clear hb ho5))
   go_loopg [11] k (fun kq v11 w' => ∃ (x3_1 : List Int) (x11_1 : Int), v11 = .int .i64 x11_1 ∧ Aside0 (expr_Starts.l0 kq l0 x3_1 (l0.length : Int) x11_1 = some r) ∧ Aside0 (kq ≤ k) ∧ Aside0 (Kd.R (Kd.int .i64) 3 w' w.heap.size (fun _ => True) v117 x3_1) ∧ Aside0 (Below w.heap.size w w'))
   case atStart => exact ⟨(y116), (0), Zz6, H', ⟨Nat.le_refl _⟩, ⟨by (with_reducible repeat (first | apply Kd.R_alloc | apply Kd.R_drewN | apply Kd.R_drew)); exact HO118.out⟩, ⟨by repeat (first | (with_reducible first | exact HB.out | apply below_alloc | apply pw_below_drewN | apply below_drew1) | exact HB.out)⟩⟩
   case round =>
    clear H'
    try clear c1
    try clear c2
    try clear c2b0
    try clear c2b1
    try clear p2
    try clear c3
    try clear c3b0
    try clear c3b1
    obtain ⟨x3_1, x11_1, rfl, HA, HK1, HO_3, HB⟩ := hrel
    cases gk with
    | zero => exact absurd HA.out (by simp [expr_Starts.l0])
    | succ k1 =>
     have H := HA.out
     clear HA
     simp only [expr_Starts.l0] at H
     by_cases c6 : x11_1 < (l0.length : Int)
     ·rw [if_pos c6] at H
      have c6b0 := decide_eq_true c6
      clear c6
      by_cases c7 : 0 ≤ x11_1
      ·rw [if_pos c7] at H
       have c7b0 := decide_eq_true c7
       clear c7
       by_cases c8 : x11_1 < (x3_1.length : Int)
       ·rw [if_pos c8] at H
        have c8b0 := decide_eq_true c8
        clear c8
        obtain ⟨y119, hy119⟩ : ∃ y_ : List Int, y_ = (x3_1.set (x11_1 : Int).toNat x11_1) := ⟨_, rfl⟩
        replace H : ((expr_kids.f l0 y119 x11_1).bind fun t120 => (if (t120.length : Int) > 0 then (if 0 < (t120.length : Int) then (if 0 ≤ (rd t120 0) then (if (rd t120 0) < (x3_1.length : Int) then (expr_Starts.l0 k1 l0 (y119.set (x11_1 : Int).toNat (rd y119 (rd t120 0))) (l0.length : Int) (wrap64 (x11_1 + 1))) else (none)) else (none)) else (none)) else (expr_Starts.l0 k1 l0 y119 (l0.length : Int) (wrap64 (x11_1 + 1))))) = some r := by first | (rw [hy119]; with_reducible exact H) | (have H2_ := (Option.bind_some _ _).symm.trans H; rw [hy119]; with_reducible exact H2_) | (have H2_ := (Option.bind_some _ _).symm.trans H; with_reducible exact H2_) | with_reducible exact H | (rw [hy119]; exact H) | exact H
        have Ny119 := Aside0.mk hy119
        clear hy119
        replace H := Option.bind_eq_some_iff.mp H
        obtain ⟨t120, A100, H⟩ := H
        replace H : (if (t120.length : Int) > 0 then (if 0 < (t120.length : Int) then (if 0 ≤ (rd t120 0) then (if (rd t120 0) < (x3_1.length : Int) then (expr_Starts.l0 k1 l0 (y119.set (x11_1 : Int).toNat (rd y119 (rd t120 0))) (l0.length : Int) (wrap64 (x11_1 + 1))) else (none)) else (none)) else (none)) else (expr_Starts.l0 k1 l0 y119 (l0.length : Int) (wrap64 (x11_1 + 1)))) = some r := H
        have A10 := Aside0.mk A100
        clear A100
        by_cases c11 : (t120.length : Int) > 0
        ·rw [if_pos c11] at H
         have c11b0 : decide (0 < (t120.length : Int)) = true := decide_eq_true c11
         have c11b1 : decide (0 < t120.length) = true := decide_eq_true (by omega)
         clear c11
         by_cases c12 : 0 < (t120.length : Int)
         ·rw [if_pos c12] at H
          have c12b0 := decide_eq_true c12
          have c12b1 : decide (0 < t120.length) = true := decide_eq_true (by omega)
          clear c12
          by_cases c13 : 0 ≤ (rd t120 0)
          ·rw [if_pos c13] at H
           have c13b0 := decide_eq_true c13
           clear c13
           by_cases c14 : (rd t120 0) < (x3_1.length : Int)
           ·rw [if_pos c14] at H
            have c14b0 := decide_eq_true c14
            clear c14
            obtain ⟨y125, hy125⟩ : ∃ y_ : List Int, y_ = (y119.set (x11_1 : Int).toNat (rd y119 (rd t120 0))) := ⟨_, rfl⟩
            replace H : (expr_Starts.l0 k1 l0 y125 (l0.length : Int) (wrap64 (x11_1 + 1))) = some r := by first | (rw [hy125]; with_reducible exact H) | (have H2_ := (Option.bind_some _ _).symm.trans H; rw [hy125]; with_reducible exact H2_) | (have H2_ := (Option.bind_some _ _).symm.trans H; with_reducible exact H2_) | with_reducible exact H | (rw [hy125]; exact H) | exact H
            have Ny125 := Aside0.mk hy125
            clear hy125
            have H' := Aside0.mk H
            clear H
            have p9 : 0 ≤ (x11_1 : Int) := of_decide_eq_true Zz1
            have q9 : (x11_1 : Int) < ((x3_1.length : Int) : Int) := of_decide_eq_true Zz1
            obtain ⟨go9, co9, eo9, gb9, gl9, cl9, HG9⟩ := Kd.R_form HO_3.out (by omega)
            (first | cases eo9 | (injection eo9 with ea_ en_ ec_; (first | subst ea_ | (injection ea_ with ea_; subst ea_)); subst ec_; clear en_))
            have GB9 := Aside0.mk gb9
            have GG9 := Aside0.mk HG9
            clear gb9 gl9 HG9
            obtain ⟨hx9_0, hf9_0⟩ := Kd.R_celln 0 HO_3.out (x11_1 : Int) p9 q9
            replace p9 := eq_true p9
            replace q9 := eq_true q9
            have HP16 := Kd.R_putg HO_3.out (x11_1 : Int) x11_1
            go_wp2_with (first | ((with_reducible refine gate_store (t := 3) (p := 17) rfl ?_); refine store_event (t := 3) (p := 17) (v := ?vo_w17) (w1 := (wr.setCell ⟨go9, (x11_1 : Int).toNat, none⟩ (.int .i64 x11_1))) ?hg ?ho ?hn ?hr ?_; (case ho => rfl); (case hg => rfl); (case hn => rfl); (case hr => first | (go_simp; done) | (go_simp; rfl)); intro w17 hw; have hg : wr.grownBy w17 (some go9) := (by rw [hw]; exact HP16.2); have hp_ : Kd.R (Kd.int .i64) 3 w17 w.heap.size (fun _ => True) (.slice (some ⟨go9, 0, none⟩) x3_1.length co9) y119 := (by rw [hw, Ny119.out]; exact HP16.1); clear HP16; have n0_ := Aside0.mk (hp_); have n1_ := Aside0.mk ((Zz27 : Below w.heap.size w w17)); clear HO_3; clear HB; have HO_3 := n0_; have HB := n1_; clear n0_ n1_; clear hg hw hp_) | ((with_reducible refine gate_callee (f := 19) rfl ?_); refine goesL_ (some 21) rfl rfl Tryz.func19 (by kernel_rfl) rfl #[.slice A0 l0.length c0, .slice (some ⟨go9, 0, none⟩) y119.length co9, .int .i64 x11_1] rfl Zz17 ?_; (with_reducible refine (expr_kids.calls _ _ l0 _ _ y119 x11_1 t120 _ ?side1 ?side2 ?side3 ?side4 A10.out).mono ?_); (case side1 => repeat (first | exact (Kd.C_below HR0.out HB.out) | (with_reducible refine Kd.C_alloc ?_ _) | (with_reducible refine Kd.C_drewN ?_ _) | (with_reducible refine Kd.C_drew ?_))); (case side2 => exact HC0.out); (case side3 => repeat (first | exact (Kd.R_reads' HO_3.out).2.2 | (with_reducible refine Kd.C_alloc ?_ _) | (with_reducible refine Kd.C_drewN ?_ _) | (with_reducible refine Kd.C_drew ?_))); (case side4 => rw [show y119.length = x3_1.length from (Kd.R_reads' HO_3.out).1.symm]; exact (Kd.R_reads' HO_3.out).2.1); rintro e w18 ⟨v121, rfl, ho0, hb⟩; refine ⟨_, rfl, ?_⟩; have n0_ := Aside0.mk (Kd.R_elder' (Zz31 HO_3.out) (Kd.R_base ho0) hb); have n1_ := Aside0.mk (Kd.R_lower (Kd.R_new' ho0 (Kd.R_lt (Zz31 HO_3.out))) (below_size Zz0)); have n2_ := Aside0.mk (below_step Zz0 hb); clear HO_3; clear HB; have HO_3 := n0_; have HO122 := n1_; have HB := n2_; clear n0_ n1_ n2_; (try clear hb); (try clear hb2); (try clear hk); (try clear hi); (try clear ho0); obtain ⟨Ao19, co19, eo19⟩ := Kd.R_slice HO122.out; subst eo19; have p123 : 0 ≤ (0 : Int) := (by omega); have q123 : 0 < (t120.length : Int) := of_decide_eq_true Zz1; obtain ⟨ad123, e123, hx123_0⟩ := Kd.at_int (Kd.R_reads' HO122.out).2.2 0 p123 q123; cases e123; have qi123 : (0 < t120.length) = True := eq_true (by omega); (try rw [show ((0 : Int)).toNat = 0 from rfl] at hx123_0); (try rw [Addr.add_zero'] at hx123_0); replace p123 := eq_true p123; replace q123 := eq_true q123; have p124 : 0 ≤ ((rd t120 0) : Int) := of_decide_eq_true Zz1; have q124 : (rd t120 0) < (y119.length : Int) := (by have h_ : ((rd t120 0) : Int) < ((x3_1.length : Int) : Int) := of_decide_eq_true Zz1; first | (have e_ := (Kd.R_reads' HO_3.out).1; omega) | simpa only [Ny119.out, List.length_set] using h_); have ql124 : (((rd t120 0) : Int) < ((x3_1.length : Int) : Int)) = True := eq_true (of_decide_eq_true Zz1); obtain ⟨ad124, e124, hx124_0⟩ := Kd.at_int (Kd.R_reads' HO_3.out).2.2 (rd t120 0) p124 q124; obtain rfl : (⟨go9, 0, none⟩ : Addr) = ad124 := (by injection e124); (first | simp only [add_plain] at hx124_0 | simp only [add_at] at hx124_0 | simp only [Addr.add, Nat.zero_add] at hx124_0 | skip); replace p124 := eq_true p124; replace q124 := eq_true q124; have p15 : 0 ≤ (x11_1 : Int) := of_decide_eq_true Zz1; have q15 : (x11_1 : Int) < ((x3_1.length : Int) : Int) := of_decide_eq_true Zz1; obtain ⟨hx15_0, hf15_0⟩ := Kd.R_celln 0 HO_3.out (x11_1 : Int) p15 q15; replace p15 := eq_true p15; replace q15 := eq_true q15; have n_ := Aside0.mk (Kd.R_mono (ok' := (fun k_ => some k_ ≠ (.slice (some ad123) t120.length co19 : Value).ownBlock)) HO_3.out (fun k_ hk => hk.2)); clear HO_3; have HO_3 := n_; clear n_; obtain ⟨hy20_, hz20_⟩ := Kd.R_celln 0 HO_3.out (x11_1 : Int) (of_decide_eq_true Zz1) (of_decide_eq_true Zz1); have HP20 := Kd.R_putg HO_3.out (x11_1 : Int) (rd y119 (rd t120 0))) | ((with_reducible refine gate_store (t := 3) (p := 33) rfl ?_); refine store_event (t := 3) (p := 33) (v := ?vo_w21) (w1 := (w18.setCell ⟨go9, (x11_1 : Int).toNat, none⟩ (.int .i64 (rd y119 (rd t120 0))))) ?hg ?ho ?hn ?hr ?_; (case ho => rfl); (case hg => rfl); (case hn => rfl); (case hr => first | (go_simp; done) | (go_simp; rfl)); intro w21 hw; have hg : w18.grownBy w21 (some go9) := (by rw [hw]; exact HP20.2); have hp_ : Kd.R (Kd.int .i64) 3 w21 w.heap.size (fun k_ => some k_ ≠ (.slice (some ad123) t120.length co19 : Value).ownBlock) (.slice (some ⟨go9, 0, none⟩) x3_1.length co9) y125 := (by rw [hw, Ny125.out]; exact HP20.1); clear HP20; have n0_ := Aside0.mk (hp_); have n1_ := Aside0.mk (Kd.R_after (v := (.slice (some ⟨go9, 0, none⟩) x3_1.length co9)) (v1 := (.slice (some ⟨go9, 0, none⟩) x3_1.length co9)) (ok := (fun _ => True)) (Zz31 HO122.out) hg (.inl rfl)); have n2_ := Aside0.mk ((Zz27 : Below w.heap.size w w21)); clear HO_3; clear HO122; clear HB; have HO_3 := n0_; have HO122 := n1_; have HB := n2_; clear n0_ n1_ n2_; clear hg hw hp_))
            go_roundg k1
            case measure => have := HK1.out; omega
            case rel => exact ⟨(y125), (wrap64 (x11_1 + 1)), Zz6, H', ⟨by have := HK1.out; omega⟩, ⟨by (with_reducible repeat (first | apply Kd.R_alloc | apply Kd.R_drewN | apply Kd.R_drew)); exact Kd.R_mono HO_3.out (fun _ hk => trivial)⟩, ⟨by repeat (first | (with_reducible first | exact HB.out | apply below_alloc | apply pw_below_drewN | apply below_drew1) | exact HB.out)⟩⟩
           ·rw [if_neg c14] at H
            exact absurd H (by simp)
          ·rw [if_neg c13] at H
           exact absurd H (by simp)
         ·rw [if_neg c12] at H
          exact absurd H (by simp)
        ·rw [if_neg c11] at H
         have c11b0 : decide (0 < (t120.length : Int)) = false := decide_eq_false c11
         have c11b1 : decide (0 < t120.length) = false := decide_eq_false (by omega)
         clear c11
         have H' := Aside0.mk H
         clear H
         have p9 : 0 ≤ (x11_1 : Int) := of_decide_eq_true Zz1
         have q9 : (x11_1 : Int) < ((x3_1.length : Int) : Int) := of_decide_eq_true Zz1
         obtain ⟨go9, co9, eo9, gb9, gl9, cl9, HG9⟩ := Kd.R_form HO_3.out (by omega)
         (first | cases eo9 | (injection eo9 with ea_ en_ ec_; (first | subst ea_ | (injection ea_ with ea_; subst ea_)); subst ec_; clear en_))
         have GB9 := Aside0.mk gb9
         have GG9 := Aside0.mk HG9
         clear gb9 gl9 HG9
         obtain ⟨hx9_0, hf9_0⟩ := Kd.R_celln 0 HO_3.out (x11_1 : Int) p9 q9
         replace p9 := eq_true p9
         replace q9 := eq_true q9
         have HP22 := Kd.R_putg HO_3.out (x11_1 : Int) x11_1
         go_wp2_with (first | ((with_reducible refine gate_store (t := 3) (p := 17) rfl ?_); refine store_event (t := 3) (p := 17) (v := ?vo_w23) (w1 := (wr.setCell ⟨go9, (x11_1 : Int).toNat, none⟩ (.int .i64 x11_1))) ?hg ?ho ?hn ?hr ?_; (case ho => rfl); (case hg => rfl); (case hn => rfl); (case hr => first | (go_simp; done) | (go_simp; rfl)); intro w23 hw; have hg : wr.grownBy w23 (some go9) := (by rw [hw]; exact HP22.2); have hp_ : Kd.R (Kd.int .i64) 3 w23 w.heap.size (fun _ => True) (.slice (some ⟨go9, 0, none⟩) x3_1.length co9) y119 := (by rw [hw, Ny119.out]; exact HP22.1); clear HP22; have n0_ := Aside0.mk (hp_); have n1_ := Aside0.mk ((Zz27 : Below w.heap.size w w23)); clear HO_3; clear HB; have HO_3 := n0_; have HB := n1_; clear n0_ n1_; clear hg hw hp_) | ((with_reducible refine gate_callee (f := 19) rfl ?_); refine goesL_ (some 21) rfl rfl Tryz.func19 (by kernel_rfl) rfl #[.slice A0 l0.length c0, .slice (some ⟨go9, 0, none⟩) y119.length co9, .int .i64 x11_1] rfl Zz17 ?_; (with_reducible refine (expr_kids.calls _ _ l0 _ _ y119 x11_1 t120 _ ?side1 ?side2 ?side3 ?side4 A10.out).mono ?_); (case side1 => repeat (first | exact (Kd.C_below HR0.out HB.out) | (with_reducible refine Kd.C_alloc ?_ _) | (with_reducible refine Kd.C_drewN ?_ _) | (with_reducible refine Kd.C_drew ?_))); (case side2 => exact HC0.out); (case side3 => repeat (first | exact (Kd.R_reads' HO_3.out).2.2 | (with_reducible refine Kd.C_alloc ?_ _) | (with_reducible refine Kd.C_drewN ?_ _) | (with_reducible refine Kd.C_drew ?_))); (case side4 => rw [show y119.length = x3_1.length from (Kd.R_reads' HO_3.out).1.symm]; exact (Kd.R_reads' HO_3.out).2.1); rintro e w24 ⟨v121, rfl, ho0, hb⟩; refine ⟨_, rfl, ?_⟩; have n0_ := Aside0.mk (Kd.R_elder' (Zz31 HO_3.out) (Kd.R_base ho0) hb); have n1_ := Aside0.mk (Kd.R_lower (Kd.R_new' ho0 (Kd.R_lt (Zz31 HO_3.out))) (below_size Zz0)); have n2_ := Aside0.mk (below_step Zz0 hb); clear HO_3; clear HB; have HO_3 := n0_; have HO122 := n1_; have HB := n2_; clear n0_ n1_ n2_; (try clear hb); (try clear hb2); (try clear hk); (try clear hi); (try clear ho0); obtain ⟨Ao25, co25, eo25⟩ := Kd.R_slice HO122.out; subst eo25))
         go_roundg k1
         case measure => have := HK1.out; omega
         case rel => exact ⟨(y119), (wrap64 (x11_1 + 1)), Zz6, H', ⟨by have := HK1.out; omega⟩, ⟨by (with_reducible repeat (first | apply Kd.R_alloc | apply Kd.R_drewN | apply Kd.R_drew)); exact Kd.R_mono HO_3.out (fun _ hk => trivial)⟩, ⟨by repeat (first | (with_reducible first | exact HB.out | apply below_alloc | apply pw_below_drewN | apply below_drew1) | exact HB.out)⟩⟩
       ·rw [if_neg c8] at H
        exact absurd H (by simp)
      ·rw [if_neg c7] at H
       exact absurd H (by simp)
     ·rw [if_neg c6] at H
      have c6b0 := decide_eq_false c6
      clear c6
      obtain rfl := Option.some.inj H
      go_wp2
      go_ret
      exact ⟨_, by first | rfl | (simp [errW_none, errW_some] <;> rfl) | (simp [*, errW_none, errW_some] <;> rfl), by (with_reducible repeat (first | apply Kd.R_alloc | apply Kd.R_drewN | apply Kd.R_drew)); exact HO_3.out, by repeat (first | (with_reducible first | exact HB.out | apply below_alloc | apply pw_below_drewN | apply below_drew1) | exact HB.out)⟩
  ·rw [if_neg c3] at H
   exact absurd H (by simp)
 ·rw [if_neg c2] at H
  exact absurd H (by simp)
theorem spot_none {w : World} {ad : Addr} {v : Value} (h : w.cell? ad = some v) : ad = ⟨ad.block, ad.off, none⟩ := by
 cases ad with
 | mk b o s =>
  cases s with
  | none => rfl
  | some x =>
   simp only [World.cell?] at h
   split at h
   ·simp at h
   ·cases h
theorem add_none (b o j : Nat) : (⟨b, o, none⟩ : Addr).add j = ⟨b, o + j, none⟩ := by
 unfold Addr.add
 by_cases h : j = 0
 ·subst h; rfl
 ·rw [if_neg h]
theorem C_strs {w : World} {A : Option Addr} {xs : List ByteArray} (h : Kd.C Kd.string w A xs.length xs) (h0 : 0 < xs.length) :
  ∃ b o, A = some ⟨b, o, none⟩ ∧ ∀ (j : Nat) x, xs[j]? = some x → w.cell? ⟨b, o + j, none⟩ = some (.string x) := by
 obtain ⟨ad, rfl, hc⟩ := h.2.2 h0
 have hk : ∀ (j : Nat) x, xs[j]? = some x → w.cell? (ad.add j) = some (.string x) := by
  intro j x hx
  obtain ⟨c, _, hK, hcell⟩ := hc j x hx
  have hc1 : c = [.string x] := hK
  have h2 := hcell 0 (.string x) (by rw [hc1]; rfl)
  have h3 : j * Kd.string.sz + 0 = j := by show j * 1 + 0 = j; omega
  rwa [h3] at h2
 have h1 := spot_none (hk 0 _ (List.getElem?_eq_getElem h0))
 have h2 : ad.add 0 = ad := rfl
 rw [h2] at h1
 refine ⟨ad.block, ad.off, by rw [← h1], fun j x hx => ?_⟩
 rw [← add_none, ← h1]
 exact hk j x hx
def strings_Join.f (l0 : List ByteArray) (a1 : ByteArray) : Option ByteArray :=
 if l0.length ≤ 140737488355328 ∧ (Lib.join (l0.map (·.data.toList)) a1.data.toList).length ≤ 140737488355328 then some ⟨(Lib.join (l0.map (·.data.toList)) a1.data.toList).toArray⟩ else none
theorem strings_Join.calls (A0 : Option Addr) (c0 : Nat) (l0 : List ByteArray) (a1 : ByteArray) (r : ByteArray) (w : World) (hr0 : Kd.C Kd.string w A0 l0.length l0) (hc0 : l0.length ≤ c0) (h : strings_Join.f l0 a1 = some r) :
  Calls Tryz.prog 59 #[.slice A0 l0.length c0, .string a1] w fun e w' => e = .returned (.string r) ∧ Below w.heap.size w w' := by
 unfold strings_Join.f at h
 split at h
 ·rename_i hs
  obtain ⟨hN, hlen⟩ := hs
  obtain rfl := Option.some.inj h
  rcases Nat.eq_zero_or_pos l0.length with h0 | h0
  ·obtain rfl : l0 = [] := List.eq_nil_of_length_eq_zero h0
   refine (Tryz.strings_Join_none A0 c0 a1 w).mono ?_
   rintro e w' ⟨rfl, rfl⟩
   exact ⟨by simp [Lib.join], Below.refl _ _⟩
  ·obtain ⟨b, o, rfl, hc⟩ := C_strs hr0 h0
   refine (Tryz.strings_Join b o c0 l0 a1 w (fun j x hx => hc j x hx) ?_ hN hc0 hlen).mono (fun e w' hw => hw)
   have hx : l0[0]? = some (l0[0]) := List.getElem?_eq_getElem h0
   exact World.block_lt_of_cell? w ⟨b, o + 0, none⟩ (hc 0 _ hx)
 ·cases h
end Go.Proofs.YtniaooodlccmcaaGreatDoor.Q

