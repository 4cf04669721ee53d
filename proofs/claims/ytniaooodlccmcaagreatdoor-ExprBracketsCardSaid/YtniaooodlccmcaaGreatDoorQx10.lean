import Derived.Test.YtniaooodlccmcaaGreatDoorDz
import Derived.Test.YtniaooodlccmcaaGreatDoorQx0
import Derived.Test.YtniaooodlccmcaaGreatDoorQx9
namespace Go.Proofs.YtniaooodlccmcaaGreatDoor.Q
open Go.RowKit Go.Proofs.YtniaooodlccmcaaGreatDoorW.PrintWords Go.Proofs.YtniaooodlccmcaaGreatDoorW.PrintLast Go.Proofs.YtniaooodlccmcaaGreatDoorW.PrintMore
attribute [local go_sem] max2_int min2_int max_two min_two max_three min_three max_four min_four
set_option linter.unusedVariables false
set_option linter.unusedSimpArgs false
mutual
def tammyref07_may.j0 : Nat → Bool → Int → Bool → Int → ByteArray → Int → Option (Bool)
 | 0, _, _, _, _, _, _ => none
 | k + 1, x3, x9, x10, x177000, x177001, x177002 => if x10 = true then (if x177001.toList = ([] : List UInt8) then (some (x177002 == 0)) else (some false)) else (if x9 = 2 then ((tammyref01_Var.f k x177001).bind fun t178 => (if t178 = true then (some (x177002 == 0)) else (some false))) else (if x9 = 3 then (if x3 = true then (if x177002 ≥ 0 then (some (decide (x177002 ≤ 8))) else (some false)) else (some false)) else (if x9 = 4 then (tammyref07_may.j1 k x3 x9 (x9 == 4) x177000 x177001 x177002) else (tammyref07_may.j1 k x3 x9 (x9 == 5) x177000 x177001 x177002))))
def tammyref07_may.j1 : Nat → Bool → Int → Bool → Int → ByteArray → Int → Option (Bool)
 | 0, _, _, _, _, _, _ => none
 | k + 1, x3, x9, x45, x177000, x177001, x177002 => if x45 = true then (if x177001.toList = ([] : List UInt8) then (some (x177002 == 2)) else (some false)) else (if x9 = 6 then (if x3 = true then (if x177002 ≥ 1 then (some (decide (x177002 ≤ 8))) else (some false)) else (some false)) else (some false))
end
def tammyref07_may.f (k : Nat) (a0_0 : Int) (a0_1 : ByteArray) (a0_2 : Int) : Option (Bool) := (tammyref01_Con.f k a0_1).bind fun t177 => (if a0_0 = 0 then (tammyref07_may.j0 k t177 a0_0 (a0_0 == 0) a0_0 a0_1 a0_2) else (tammyref07_may.j0 k t177 a0_0 (a0_0 == 1) a0_0 a0_1 a0_2))
theorem tammyref07_may.mono_l : ∀ k, (∀ y0 y1 y2 y3 y4 y5, LeO (tammyref07_may.j0 k y0 y1 y2 y3 y4 y5) (tammyref07_may.j0 (k + 1) y0 y1 y2 y3 y4 y5)) ∧ (∀ y0 y1 y2 y3 y4 y5, LeO (tammyref07_may.j1 k y0 y1 y2 y3 y4 y5) (tammyref07_may.j1 (k + 1) y0 y1 y2 y3 y4 y5))
 | 0 => ⟨fun _ _ _ _ _ _ r h => by simp [tammyref07_may.j0] at h, fun _ _ _ _ _ _ r h => by simp [tammyref07_may.j1] at h⟩
 | k + 1 => by
  obtain ⟨ih0, ih1⟩ := tammyref07_may.mono_l k
  refine ⟨?_, ?_⟩
  ·intro y0 y1 y2 y3 y4 y5
   unfold tammyref07_may.j0
   repeat' first
   | (with_reducible exact ih0 _ _ _ _ _ _)
   | (with_reducible exact ih1 _ _ _ _ _ _)
   | (with_reducible exact tammyref01_Con.mono _ _)
   | (with_reducible exact tammyref01_Var.mono _ _)
   | (with_reducible exact LeO.refl _)
   | (with_reducible exact LeO.none _)
   | (with_reducible refine LeO.ite ?_ ?_)
   | (with_reducible refine LeO.bind ?_ (fun _ => ?_))
   | exact ih0 _ _ _ _ _ _
   | exact ih1 _ _ _ _ _ _
   | exact tammyref01_Con.mono _ _
   | exact tammyref01_Var.mono _ _
   | exact LeO.none _
   | refine LeO.ite ?_ ?_
   | refine LeO.bind ?_ (fun _ => ?_)
  ·intro y0 y1 y2 y3 y4 y5
   unfold tammyref07_may.j1
   repeat' first
   | (with_reducible exact ih0 _ _ _ _ _ _)
   | (with_reducible exact ih1 _ _ _ _ _ _)
   | (with_reducible exact tammyref01_Con.mono _ _)
   | (with_reducible exact tammyref01_Var.mono _ _)
   | (with_reducible exact LeO.refl _)
   | (with_reducible exact LeO.none _)
   | (with_reducible refine LeO.ite ?_ ?_)
   | (with_reducible refine LeO.bind ?_ (fun _ => ?_))
   | exact ih0 _ _ _ _ _ _
   | exact ih1 _ _ _ _ _ _
   | exact tammyref01_Con.mono _ _
   | exact tammyref01_Var.mono _ _
   | exact LeO.none _
   | refine LeO.ite ?_ ?_
   | refine LeO.bind ?_ (fun _ => ?_)
theorem tammyref07_may.mono : ∀ a0 a1 a2 k, LeO (tammyref07_may.f k a0 a1 a2) (tammyref07_may.f (k + 1) a0 a1 a2) := by
 intro a0 a1 a2 k
 obtain ⟨ih0, ih1⟩ := tammyref07_may.mono_l k
 unfold tammyref07_may.f
 repeat' first
   | (with_reducible exact ih0 _ _ _ _ _ _)
   | (with_reducible exact ih1 _ _ _ _ _ _)
   | (with_reducible exact tammyref01_Con.mono _ _)
   | (with_reducible exact tammyref01_Var.mono _ _)
   | (with_reducible exact LeO.refl _)
   | (with_reducible exact LeO.none _)
   | (with_reducible refine LeO.ite ?_ ?_)
   | (with_reducible refine LeO.bind ?_ (fun _ => ?_))
   | exact ih0 _ _ _ _ _ _
   | exact ih1 _ _ _ _ _ _
   | exact tammyref01_Con.mono _ _
   | exact tammyref01_Var.mono _ _
   | exact LeO.none _
   | refine LeO.ite ?_ ?_
   | refine LeO.bind ?_ (fun _ => ?_)
set_option maxHeartbeats 8000000 in
set_option maxRecDepth 100000 in
theorem tammyref07_may.calls (k : Nat) (a0_0 : Int) (a0_1 : ByteArray) (a0_2 : Int) (r : Bool) (w : World) (h : tammyref07_may.f k a0_0 a0_1 a0_2 = some r) :
  Calls Tryz.prog 16 #[.agg #[.int .i64 a0_0, .string a0_1, .int .i64 a0_2]] w fun e w' => e = .returned (.bool r) ∧ Below w.heap.size w w' := by
 have hu38 := Tryz.underlying38
 have HB := Aside0.mk (Below.refl w.heap.size w)
 have H : ((tammyref01_Con.f k a0_1).bind fun t177 => (if a0_0 = 0 then (tammyref07_may.j0 k t177 a0_0 (a0_0 == 0) a0_0 a0_1 a0_2) else (tammyref07_may.j0 k t177 a0_0 (a0_0 == 1) a0_0 a0_1 a0_2))) = some r := h
 clear h
 replace H := Option.bind_eq_some_iff.mp H
 obtain ⟨t177, A20, H⟩ := H
 replace H : (if a0_0 = 0 then (tammyref07_may.j0 k t177 a0_0 (a0_0 == 0) a0_0 a0_1 a0_2) else (tammyref07_may.j0 k t177 a0_0 (a0_0 == 1) a0_0 a0_1 a0_2)) = some r := H
 have A2 := Aside0.mk A20
 clear A20
 have HC3 := Aside0.mk H
 clear H
 go_enter Tryz.func16, Tryz.ntmps16
 go_upto_if 10 with (first | ((with_reducible refine gate_dst (N := 1) rfl ?_); refine box_event ?hg (N := 1) ?hd (cs := #[.int .i64 a0_0, .string a0_1, .int .i64 a0_2]) (t := 38) ?hr ?_; (case hd => rfl); (case hg => rfl); (case hr => first | (go_simp; done) | (go_simp; rfl)); intro gb176 hg w4 hbox hb; have n0_ := Aside0.mk (below_step Zz0 hb); have n1_ := Aside0.mk (hbox); have n2_ := Aside0.mk ((Zz4 : w.heap.size ≤ gb176)); have n3_ := Aside0.mk ((Zz4 : w.heap.size ≤ gb176)); clear HB; have HB := n0_; have BK176 := n1_; have GW176 := n2_; have GE176 := n3_; clear n0_ n1_ n2_ n3_; clear hb hbox hg; have hcz5_0 : w4.cell? ⟨gb176, 0, none⟩ = some (.int .i64 a0_0) := (blk_cell BK176.out 0).trans rfl; have hcz5_1 : w4.cell? ⟨gb176, 1, none⟩ = some (.string a0_1) := (blk_cell BK176.out 1).trans rfl; have hcz5_2 : w4.cell? ⟨gb176, 2, none⟩ = some (.int .i64 a0_2) := (blk_cell BK176.out 2).trans rfl; have hfz5_0 := blk_frozen BK176.out 0; have hfz5_1 := blk_frozen BK176.out 1; have hfz5_2 := blk_frozen BK176.out 2) | ((with_reducible refine gate_callee (f := 26) rfl ?_); refine goesL_ (some 7) rfl rfl Tryz.func26 (by kernel_rfl) rfl #[.string a0_1] rfl Zz2 ?_; (with_reducible refine (tammyref01_Con.calls k a0_1 t177 _ A2.out).mono ?_); rintro e w' ⟨rfl, ⟨nd, rfl⟩⟩; refine ⟨_, rfl, ?_⟩))
 (try simp only [Act.put, List.setIfInBounds_toArray, List.set_cons_zero, List.set_cons_succ])
 go_cut [10] (fun v10 wc => ∃ (kq : Nat) (x10_2 : Bool), v10 = .bool x10_2 ∧ Aside0 (tammyref07_may.j0 kq t177 a0_0 x10_2 a0_0 a0_1 a0_2 = some r) ∧ Aside0 (kq ≤ k) ∧ Aside0 (wc.heap[gb176]? = some (.cells #[.int .i64 a0_0, .string a0_1, .int .i64 a0_2] 38 (0, 0))) ∧ Aside0 (Below w.heap.size w wc))
 case first =>
  have H := HC3.out
  clear HC3
  by_cases c6 : a0_0 = 0
  ·rw [if_pos c6] at H
   have c6b0 := beq_iff_eq.mpr c6
   have c6b1 := bne_eq_false_iff_eq.mpr c6
   clear c6
   (first | rw [c6b0] | (simp only [i64_w, i32_w]; rw [c6b0]) | skip)
   have H' := Aside0.mk H
   clear H
   go_wp2
   go_meet
   case rel => exact ⟨_, ((a0_0 == 0)), Zz6, H', ⟨by first | omega | exact Nat.le_refl _⟩, ⟨by (with_reducible repeat (first | refine blk_drewN ?_ _ | refine blk_drew ?_ | refine blk_alloc ?_ _)); exact BK176.out⟩, ⟨by repeat (first | (with_reducible first | exact HB.out | apply below_alloc | apply pw_below_drewN | apply below_drew1 | refine below_set ?_ GE176.out) | exact HB.out)⟩⟩
  ·rw [if_neg c6] at H
   have c6b0 := beq_eq_false_iff_ne.mpr c6
   have c6b1 := bne_iff_ne.mpr c6
   (first | rw [c6b0] | (simp only [i64_w, i32_w]; rw [c6b0]) | skip)
   have H' := Aside0.mk H
   clear H
   go_wp2
   go_meet
   case rel => exact ⟨_, ((a0_0 == 1)), Zz6, H', ⟨by first | omega | exact Nat.le_refl _⟩, ⟨by (with_reducible repeat (first | refine blk_drewN ?_ _ | refine blk_drew ?_ | refine blk_alloc ?_ _)); exact BK176.out⟩, ⟨by repeat (first | (with_reducible first | exact HB.out | apply below_alloc | apply pw_below_drewN | apply below_drew1 | refine below_set ?_ GE176.out) | exact HB.out)⟩⟩
 case rest =>
  clear HC3
  try clear c1
  try clear c2
  try clear p2
  try clear c6
  try clear c6b0
  try clear c6b1
  try clear hcz5_0
  try clear hcz5_1
  try clear hcz5_2
  try clear hfz5_0
  try clear hfz5_1
  try clear hfz5_2
  obtain ⟨kq, x10_2, rfl, HA, HJ2, BK176, HB⟩ := hcut
  cases kq with
  | zero => exact absurd HA.out (by simp [tammyref07_may.j0])
  | succ kj2 =>
   have H := HA.out
   clear HA
   simp only [tammyref07_may.j0] at H
   by_cases c7 : x10_2 = true
   ·subst c7
    have H1 : (if a0_1.toList = ([] : List UInt8) then (some (a0_2 == 0)) else (some false)) = some r := by rw [if_pos rfl] at H; exact H
    clear H
    have H := H1
    clear H1
    by_cases c8 : a0_1.toList = ([] : List UInt8)
    ·rw [if_pos c8] at H
     have c8b0 := beq_iff_eq.mpr c8
     have c8b1 := bne_eq_false_iff_eq.mpr c8
     clear c8
     obtain rfl := Option.some.inj H
     have hcz9_0 : wc.cell? ⟨gb176, 0, none⟩ = some (.int .i64 a0_0) := (blk_cell BK176.out 0).trans rfl
     have hcz9_1 : wc.cell? ⟨gb176, 1, none⟩ = some (.string a0_1) := (blk_cell BK176.out 1).trans rfl
     have hcz9_2 : wc.cell? ⟨gb176, 2, none⟩ = some (.int .i64 a0_2) := (blk_cell BK176.out 2).trans rfl
     have hfz9_0 := blk_frozen BK176.out 0
     have hfz9_1 := blk_frozen BK176.out 1
     have hfz9_2 := blk_frozen BK176.out 2
     go_wp2
     go_ret
     exact ⟨by first | rfl | (simp [errW_none, errW_some] <;> rfl) | (simp [*, errW_none, errW_some] <;> rfl), by repeat (first | (with_reducible first | exact HB.out | apply below_alloc | apply pw_below_drewN | apply below_drew1 | refine below_set ?_ GE176.out) | exact HB.out)⟩
    ·rw [if_neg c8] at H
     have c8b0 := beq_eq_false_iff_ne.mpr c8
     have c8b1 := bne_iff_ne.mpr c8
     obtain rfl := Option.some.inj H
     have hcz10_0 : wc.cell? ⟨gb176, 0, none⟩ = some (.int .i64 a0_0) := (blk_cell BK176.out 0).trans rfl
     have hcz10_1 : wc.cell? ⟨gb176, 1, none⟩ = some (.string a0_1) := (blk_cell BK176.out 1).trans rfl
     have hcz10_2 : wc.cell? ⟨gb176, 2, none⟩ = some (.int .i64 a0_2) := (blk_cell BK176.out 2).trans rfl
     have hfz10_0 := blk_frozen BK176.out 0
     have hfz10_1 := blk_frozen BK176.out 1
     have hfz10_2 := blk_frozen BK176.out 2
     go_wp2
     go_ret
     exact ⟨by first | rfl | (simp [errW_none, errW_some] <;> rfl) | (simp [*, errW_none, errW_some] <;> rfl), by repeat (first | (with_reducible first | exact HB.out | apply below_alloc | apply pw_below_drewN | apply below_drew1 | refine below_set ?_ GE176.out) | exact HB.out)⟩
   ·replace c7 := Bool.eq_false_iff.mpr c7
    subst c7
    have H1 : (if a0_0 = 2 then ((tammyref01_Var.f kj2 a0_1).bind fun t178 => (if t178 = true then (some (a0_2 == 0)) else (some false))) else (if a0_0 = 3 then (if t177 = true then (if a0_2 ≥ 0 then (some (decide (a0_2 ≤ 8))) else (some false)) else (some false)) else (if a0_0 = 4 then (tammyref07_may.j1 kj2 t177 a0_0 (a0_0 == 4) a0_0 a0_1 a0_2) else (tammyref07_may.j1 kj2 t177 a0_0 (a0_0 == 5) a0_0 a0_1 a0_2)))) = some r := by rw [if_neg (show ¬ (false = true) by decide)] at H; exact H
    clear H
    have H := H1
    clear H1
    by_cases c11 : a0_0 = 2
    ·rw [if_pos c11] at H
     have c11b0 := beq_iff_eq.mpr c11
     have c11b1 := bne_eq_false_iff_eq.mpr c11
     clear c11
     replace H := Option.bind_eq_some_iff.mp H
     obtain ⟨t178, A120, H⟩ := H
     replace H : (if t178 = true then (some (a0_2 == 0)) else (some false)) = some r := H
     have A12 := Aside0.mk A120
     clear A120
     by_cases c13 : t178 = true
     ·subst c13
      have H1 : (some (a0_2 == 0)) = some r := by rw [if_pos rfl] at H; exact H
      clear H
      have H := H1
      clear H1
      obtain rfl := Option.some.inj H
      have hcz14_0 : wc.cell? ⟨gb176, 0, none⟩ = some (.int .i64 a0_0) := (blk_cell BK176.out 0).trans rfl
      have hcz14_1 : wc.cell? ⟨gb176, 1, none⟩ = some (.string a0_1) := (blk_cell BK176.out 1).trans rfl
      have hcz14_2 : wc.cell? ⟨gb176, 2, none⟩ = some (.int .i64 a0_2) := (blk_cell BK176.out 2).trans rfl
      have hfz14_0 := blk_frozen BK176.out 0
      have hfz14_1 := blk_frozen BK176.out 1
      have hfz14_2 := blk_frozen BK176.out 2
      go_wp2_with (first | ((with_reducible refine gate_callee (f := 27) rfl ?_); refine goesL_ (some 25) rfl rfl Tryz.func27 (by kernel_rfl) rfl #[.string a0_1] rfl Zz2 ?_; (with_reducible refine (tammyref01_Var.calls kj2 a0_1 true _ A12.out).mono ?_); rintro e w' ⟨rfl, ⟨nd, rfl⟩⟩; refine ⟨_, rfl, ?_⟩))
      go_ret
      exact ⟨by first | rfl | (simp [errW_none, errW_some] <;> rfl) | (simp [*, errW_none, errW_some] <;> rfl), by repeat (first | (with_reducible first | exact HB.out | apply below_alloc | apply pw_below_drewN | apply below_drew1 | refine below_set ?_ GE176.out) | exact HB.out)⟩
     ·replace c13 := Bool.eq_false_iff.mpr c13
      subst c13
      have H1 : (some false) = some r := by rw [if_neg (show ¬ (false = true) by decide)] at H; exact H
      clear H
      have H := H1
      clear H1
      obtain rfl := Option.some.inj H
      have hcz15_0 : wc.cell? ⟨gb176, 0, none⟩ = some (.int .i64 a0_0) := (blk_cell BK176.out 0).trans rfl
      have hcz15_1 : wc.cell? ⟨gb176, 1, none⟩ = some (.string a0_1) := (blk_cell BK176.out 1).trans rfl
      have hcz15_2 : wc.cell? ⟨gb176, 2, none⟩ = some (.int .i64 a0_2) := (blk_cell BK176.out 2).trans rfl
      have hfz15_0 := blk_frozen BK176.out 0
      have hfz15_1 := blk_frozen BK176.out 1
      have hfz15_2 := blk_frozen BK176.out 2
      go_wp2_with (first | ((with_reducible refine gate_callee (f := 27) rfl ?_); refine goesL_ (some 25) rfl rfl Tryz.func27 (by kernel_rfl) rfl #[.string a0_1] rfl Zz2 ?_; (with_reducible refine (tammyref01_Var.calls kj2 a0_1 false _ A12.out).mono ?_); rintro e w' ⟨rfl, ⟨nd, rfl⟩⟩; refine ⟨_, rfl, ?_⟩))
      go_ret
      exact ⟨by first | rfl | (simp [errW_none, errW_some] <;> rfl) | (simp [*, errW_none, errW_some] <;> rfl), by repeat (first | (with_reducible first | exact HB.out | apply below_alloc | apply pw_below_drewN | apply below_drew1 | refine below_set ?_ GE176.out) | exact HB.out)⟩
    ·rw [if_neg c11] at H
     have c11b0 := beq_eq_false_iff_ne.mpr c11
     have c11b1 := bne_iff_ne.mpr c11
     by_cases c16 : a0_0 = 3
     ·rw [if_pos c16] at H
      have c16b0 := beq_iff_eq.mpr c16
      have c16b1 := bne_eq_false_iff_eq.mpr c16
      clear c16
      by_cases c17 : t177 = true
      ·subst c17
       have H1 : (if a0_2 ≥ 0 then (some (decide (a0_2 ≤ 8))) else (some false)) = some r := by rw [if_pos rfl] at H; exact H
       clear H
       have H := H1
       clear H1
       by_cases c18 : a0_2 ≥ 0
       ·rw [if_pos c18] at H
        have c18b0 : decide (0 ≤ a0_2) = true := decide_eq_true c18
        clear c18
        obtain rfl := Option.some.inj H
        have hcz19_0 : wc.cell? ⟨gb176, 0, none⟩ = some (.int .i64 a0_0) := (blk_cell BK176.out 0).trans rfl
        have hcz19_1 : wc.cell? ⟨gb176, 1, none⟩ = some (.string a0_1) := (blk_cell BK176.out 1).trans rfl
        have hcz19_2 : wc.cell? ⟨gb176, 2, none⟩ = some (.int .i64 a0_2) := (blk_cell BK176.out 2).trans rfl
        have hfz19_0 := blk_frozen BK176.out 0
        have hfz19_1 := blk_frozen BK176.out 1
        have hfz19_2 := blk_frozen BK176.out 2
        go_wp2
        go_ret
        exact ⟨by first | rfl | (simp [errW_none, errW_some] <;> rfl) | (simp [*, errW_none, errW_some] <;> rfl), by repeat (first | (with_reducible first | exact HB.out | apply below_alloc | apply pw_below_drewN | apply below_drew1 | refine below_set ?_ GE176.out) | exact HB.out)⟩
       ·rw [if_neg c18] at H
        have c18b0 : decide (0 ≤ a0_2) = false := decide_eq_false c18
        clear c18
        obtain rfl := Option.some.inj H
        have hcz20_0 : wc.cell? ⟨gb176, 0, none⟩ = some (.int .i64 a0_0) := (blk_cell BK176.out 0).trans rfl
        have hcz20_1 : wc.cell? ⟨gb176, 1, none⟩ = some (.string a0_1) := (blk_cell BK176.out 1).trans rfl
        have hcz20_2 : wc.cell? ⟨gb176, 2, none⟩ = some (.int .i64 a0_2) := (blk_cell BK176.out 2).trans rfl
        have hfz20_0 := blk_frozen BK176.out 0
        have hfz20_1 := blk_frozen BK176.out 1
        have hfz20_2 := blk_frozen BK176.out 2
        go_wp2
        go_ret
        exact ⟨by first | rfl | (simp [errW_none, errW_some] <;> rfl) | (simp [*, errW_none, errW_some] <;> rfl), by repeat (first | (with_reducible first | exact HB.out | apply below_alloc | apply pw_below_drewN | apply below_drew1 | refine below_set ?_ GE176.out) | exact HB.out)⟩
      ·replace c17 := Bool.eq_false_iff.mpr c17
       subst c17
       have H1 : (some false) = some r := by rw [if_neg (show ¬ (false = true) by decide)] at H; exact H
       clear H
       have H := H1
       clear H1
       obtain rfl := Option.some.inj H
       go_wp2
       go_ret
       exact ⟨by first | rfl | (simp [errW_none, errW_some] <;> rfl) | (simp [*, errW_none, errW_some] <;> rfl), by repeat (first | (with_reducible first | exact HB.out | apply below_alloc | apply pw_below_drewN | apply below_drew1 | refine below_set ?_ GE176.out) | exact HB.out)⟩
     ·rw [if_neg c16] at H
      have c16b0 := beq_eq_false_iff_ne.mpr c16
      have c16b1 := bne_iff_ne.mpr c16
      have HC21 := Aside0.mk H
      clear H
      go_upto_if 45 with (fail)
      go_cut [45] (fun v45 wc => ∃ (kq : Nat) (x45_20 : Bool), v45 = .bool x45_20 ∧ Aside0 (tammyref07_may.j1 kq t177 a0_0 x45_20 a0_0 a0_1 a0_2 = some r) ∧ Aside0 (kq ≤ kj2) ∧ Aside0 (wc.heap[gb176]? = some (.cells #[.int .i64 a0_0, .string a0_1, .int .i64 a0_2] 38 (0, 0))) ∧ Aside0 (Below w.heap.size w wc))
      case first =>
       have H := HC21.out
       clear HC21
       by_cases c22 : a0_0 = 4
       ·rw [if_pos c22] at H
        have c22b0 := beq_iff_eq.mpr c22
        have c22b1 := bne_eq_false_iff_eq.mpr c22
        clear c22
        (first | rw [c22b0] | (simp only [i64_w, i32_w]; rw [c22b0]) | skip)
        have H' := Aside0.mk H
        clear H
        go_wp2
        go_meet
        case rel => exact ⟨_, ((a0_0 == 4)), Zz6, H', ⟨by have := HJ2.out; first | omega | exact Nat.le_refl _⟩, ⟨by (with_reducible repeat (first | refine blk_drewN ?_ _ | refine blk_drew ?_ | refine blk_alloc ?_ _)); exact BK176.out⟩, ⟨by repeat (first | (with_reducible first | exact HB.out | apply below_alloc | apply pw_below_drewN | apply below_drew1 | refine below_set ?_ GE176.out) | exact HB.out)⟩⟩
       ·rw [if_neg c22] at H
        have c22b0 := beq_eq_false_iff_ne.mpr c22
        have c22b1 := bne_iff_ne.mpr c22
        (first | rw [c22b0] | (simp only [i64_w, i32_w]; rw [c22b0]) | skip)
        have H' := Aside0.mk H
        clear H
        go_wp2
        go_meet
        case rel => exact ⟨_, ((a0_0 == 5)), Zz6, H', ⟨by have := HJ2.out; first | omega | exact Nat.le_refl _⟩, ⟨by (with_reducible repeat (first | refine blk_drewN ?_ _ | refine blk_drew ?_ | refine blk_alloc ?_ _)); exact BK176.out⟩, ⟨by repeat (first | (with_reducible first | exact HB.out | apply below_alloc | apply pw_below_drewN | apply below_drew1 | refine below_set ?_ GE176.out) | exact HB.out)⟩⟩
      case rest =>
       clear HC21
       try clear c1
       try clear c2
       try clear p2
       try clear c6
       try clear c6b0
       try clear c6b1
       try clear c7
       try clear c8
       try clear c8b0
       try clear c8b1
       try clear c11
       try clear c11b0
       try clear c11b1
       try clear c13
       try clear c16
       try clear c16b0
       try clear c16b1
       try clear c17
       try clear c18
       try clear c18b0
       try clear c22
       try clear c22b0
       try clear c22b1
       try clear hcz10_0
       try clear hcz10_1
       try clear hcz10_2
       try clear hcz14_0
       try clear hcz14_1
       try clear hcz14_2
       try clear hcz15_0
       try clear hcz15_1
       try clear hcz15_2
       try clear hcz19_0
       try clear hcz19_1
       try clear hcz19_2
       try clear hcz20_0
       try clear hcz20_1
       try clear hcz20_2
       try clear hcz5_0
       try clear hcz5_1
       try clear hcz5_2
       try clear hcz9_0
       try clear hcz9_1
       try clear hcz9_2
       try clear hfz10_0
       try clear hfz10_1
       try clear hfz10_2
       try clear hfz14_0
       try clear hfz14_1
       try clear hfz14_2
       try clear hfz15_0
       try clear hfz15_1
       try clear hfz15_2
       try clear hfz19_0
       try clear hfz19_1
       try clear hfz19_2
       try clear hfz20_0
       try clear hfz20_1
       try clear hfz20_2
       try clear hfz5_0
       try clear hfz5_1
       try clear hfz5_2
       try clear hfz9_0
       try clear hfz9_1
       try clear hfz9_2
       try clear p2
       obtain ⟨kq, x45_20, rfl, HA, HJ20, BK176, HB⟩ := hcut
       cases kq with
       | zero => exact absurd HA.out (by simp [tammyref07_may.j1])
       | succ kj20 =>
        have H := HA.out
        clear HA
        simp only [tammyref07_may.j1] at H
        by_cases c23 : x45_20 = true
        ·subst c23
         have H1 : (if a0_1.toList = ([] : List UInt8) then (some (a0_2 == 2)) else (some false)) = some r := by rw [if_pos rfl] at H; exact H
         clear H
         have H := H1
         clear H1
         by_cases c24 : a0_1.toList = ([] : List UInt8)
         ·rw [if_pos c24] at H
          have c24b0 := beq_iff_eq.mpr c24
          have c24b1 := bne_eq_false_iff_eq.mpr c24
          clear c24
          obtain rfl := Option.some.inj H
          have hcz25_0 : wc.cell? ⟨gb176, 0, none⟩ = some (.int .i64 a0_0) := (blk_cell BK176.out 0).trans rfl
          have hcz25_1 : wc.cell? ⟨gb176, 1, none⟩ = some (.string a0_1) := (blk_cell BK176.out 1).trans rfl
          have hcz25_2 : wc.cell? ⟨gb176, 2, none⟩ = some (.int .i64 a0_2) := (blk_cell BK176.out 2).trans rfl
          have hfz25_0 := blk_frozen BK176.out 0
          have hfz25_1 := blk_frozen BK176.out 1
          have hfz25_2 := blk_frozen BK176.out 2
          go_wp2
          go_ret
          exact ⟨by first | rfl | (simp [errW_none, errW_some] <;> rfl) | (simp [*, errW_none, errW_some] <;> rfl), by repeat (first | (with_reducible first | exact HB.out | apply below_alloc | apply pw_below_drewN | apply below_drew1 | refine below_set ?_ GE176.out) | exact HB.out)⟩
         ·rw [if_neg c24] at H
          have c24b0 := beq_eq_false_iff_ne.mpr c24
          have c24b1 := bne_iff_ne.mpr c24
          obtain rfl := Option.some.inj H
          have hcz26_0 : wc.cell? ⟨gb176, 0, none⟩ = some (.int .i64 a0_0) := (blk_cell BK176.out 0).trans rfl
          have hcz26_1 : wc.cell? ⟨gb176, 1, none⟩ = some (.string a0_1) := (blk_cell BK176.out 1).trans rfl
          have hcz26_2 : wc.cell? ⟨gb176, 2, none⟩ = some (.int .i64 a0_2) := (blk_cell BK176.out 2).trans rfl
          have hfz26_0 := blk_frozen BK176.out 0
          have hfz26_1 := blk_frozen BK176.out 1
          have hfz26_2 := blk_frozen BK176.out 2
          go_wp2
          go_ret
          exact ⟨by first | rfl | (simp [errW_none, errW_some] <;> rfl) | (simp [*, errW_none, errW_some] <;> rfl), by repeat (first | (with_reducible first | exact HB.out | apply below_alloc | apply pw_below_drewN | apply below_drew1 | refine below_set ?_ GE176.out) | exact HB.out)⟩
        ·replace c23 := Bool.eq_false_iff.mpr c23
         subst c23
         have H1 : (if a0_0 = 6 then (if t177 = true then (if a0_2 ≥ 1 then (some (decide (a0_2 ≤ 8))) else (some false)) else (some false)) else (some false)) = some r := by rw [if_neg (show ¬ (false = true) by decide)] at H; exact H
         clear H
         have H := H1
         clear H1
         by_cases c27 : a0_0 = 6
         ·rw [if_pos c27] at H
          have c27b0 := beq_iff_eq.mpr c27
          have c27b1 := bne_eq_false_iff_eq.mpr c27
          clear c27
          by_cases c28 : t177 = true
          ·subst c28
           have H1 : (if a0_2 ≥ 1 then (some (decide (a0_2 ≤ 8))) else (some false)) = some r := by rw [if_pos rfl] at H; exact H
           clear H
           have H := H1
           clear H1
           by_cases c29 : a0_2 ≥ 1
           ·rw [if_pos c29] at H
            have c29b0 : decide (1 ≤ a0_2) = true := decide_eq_true c29
            clear c29
            obtain rfl := Option.some.inj H
            have hcz30_0 : wc.cell? ⟨gb176, 0, none⟩ = some (.int .i64 a0_0) := (blk_cell BK176.out 0).trans rfl
            have hcz30_1 : wc.cell? ⟨gb176, 1, none⟩ = some (.string a0_1) := (blk_cell BK176.out 1).trans rfl
            have hcz30_2 : wc.cell? ⟨gb176, 2, none⟩ = some (.int .i64 a0_2) := (blk_cell BK176.out 2).trans rfl
            have hfz30_0 := blk_frozen BK176.out 0
            have hfz30_1 := blk_frozen BK176.out 1
            have hfz30_2 := blk_frozen BK176.out 2
            go_wp2
            go_ret
            exact ⟨by first | rfl | (simp [errW_none, errW_some] <;> rfl) | (simp [*, errW_none, errW_some] <;> rfl), by repeat (first | (with_reducible first | exact HB.out | apply below_alloc | apply pw_below_drewN | apply below_drew1 | refine below_set ?_ GE176.out) | exact HB.out)⟩
           ·rw [if_neg c29] at H
            have c29b0 : decide (1 ≤ a0_2) = false := decide_eq_false c29
            clear c29
            obtain rfl := Option.some.inj H
            have hcz31_0 : wc.cell? ⟨gb176, 0, none⟩ = some (.int .i64 a0_0) := (blk_cell BK176.out 0).trans rfl
            have hcz31_1 : wc.cell? ⟨gb176, 1, none⟩ = some (.string a0_1) := (blk_cell BK176.out 1).trans rfl
            have hcz31_2 : wc.cell? ⟨gb176, 2, none⟩ = some (.int .i64 a0_2) := (blk_cell BK176.out 2).trans rfl
            have hfz31_0 := blk_frozen BK176.out 0
            have hfz31_1 := blk_frozen BK176.out 1
            have hfz31_2 := blk_frozen BK176.out 2
            go_wp2
            go_ret
            exact ⟨by first | rfl | (simp [errW_none, errW_some] <;> rfl) | (simp [*, errW_none, errW_some] <;> rfl), by repeat (first | (with_reducible first | exact HB.out | apply below_alloc | apply pw_below_drewN | apply below_drew1 | refine below_set ?_ GE176.out) | exact HB.out)⟩
          ·replace c28 := Bool.eq_false_iff.mpr c28
           subst c28
           have H1 : (some false) = some r := by rw [if_neg (show ¬ (false = true) by decide)] at H; exact H
           clear H
           have H := H1
           clear H1
           obtain rfl := Option.some.inj H
           go_wp2
           go_ret
           exact ⟨by first | rfl | (simp [errW_none, errW_some] <;> rfl) | (simp [*, errW_none, errW_some] <;> rfl), by repeat (first | (with_reducible first | exact HB.out | apply below_alloc | apply pw_below_drewN | apply below_drew1 | refine below_set ?_ GE176.out) | exact HB.out)⟩
         ·rw [if_neg c27] at H
          have c27b0 := beq_eq_false_iff_ne.mpr c27
          have c27b1 := bne_iff_ne.mpr c27
          obtain rfl := Option.some.inj H
          go_wp2
          go_ret
          exact ⟨by first | rfl | (simp [errW_none, errW_some] <;> rfl) | (simp [*, errW_none, errW_some] <;> rfl), by repeat (first | (with_reducible first | exact HB.out | apply below_alloc | apply pw_below_drewN | apply below_drew1 | refine below_set ?_ GE176.out) | exact HB.out)⟩
def tammyref07_Parts.f (a0_0 : Int) (a0_1 : ByteArray) (a0_2 : Int) : Option (Int) := if a0_0 = 6 then (some 1) else (some a0_2)
set_option maxHeartbeats 8000000 in
set_option maxRecDepth 100000 in
theorem tammyref07_Parts.calls (a0_0 : Int) (a0_1 : ByteArray) (a0_2 : Int) (r : Int) (w : World) (h : tammyref07_Parts.f a0_0 a0_1 a0_2 = some r) :
  Calls Tryz.prog 17 #[.agg #[.int .i64 a0_0, .string a0_1, .int .i64 a0_2]] w fun e w' => e = .returned (.int .i64 r) ∧ Below w.heap.size w w' := by
 have hu38 := Tryz.underlying38
 have HB := Aside0.mk (Below.refl w.heap.size w)
 have H : (if a0_0 = 6 then (some 1) else (some a0_2)) = some r := h
 clear h
 by_cases c2 : a0_0 = 6
 ·rw [if_pos c2] at H
  have c2b0 := beq_iff_eq.mpr c2
  have c2b1 := bne_eq_false_iff_eq.mpr c2
  clear c2
  obtain rfl := Option.some.inj H
  go_enter Tryz.func17, Tryz.ntmps17
  go_wp2_with (first | ((with_reducible refine gate_dst (N := 1) rfl ?_); refine box_event ?hg (N := 1) ?hd (cs := #[.int .i64 a0_0, .string a0_1, .int .i64 a0_2]) (t := 38) ?hr ?_; (case hd => rfl); (case hg => rfl); (case hr => first | (go_simp; done) | (go_simp; rfl)); intro gb179 hg w3 hbox hb; have n0_ := Aside0.mk (below_step Zz0 hb); have n1_ := Aside0.mk (hbox); have n2_ := Aside0.mk ((Zz4 : w.heap.size ≤ gb179)); have n3_ := Aside0.mk ((Zz4 : w.heap.size ≤ gb179)); clear HB; have HB := n0_; have BK179 := n1_; have GW179 := n2_; have GE179 := n3_; clear n0_ n1_ n2_ n3_; clear hb hbox hg; have hcz4_0 : w3.cell? ⟨gb179, 0, none⟩ = some (.int .i64 a0_0) := (blk_cell BK179.out 0).trans rfl; have hcz4_1 : w3.cell? ⟨gb179, 1, none⟩ = some (.string a0_1) := (blk_cell BK179.out 1).trans rfl; have hcz4_2 : w3.cell? ⟨gb179, 2, none⟩ = some (.int .i64 a0_2) := (blk_cell BK179.out 2).trans rfl; have hfz4_0 := blk_frozen BK179.out 0; have hfz4_1 := blk_frozen BK179.out 1; have hfz4_2 := blk_frozen BK179.out 2))
  go_ret
  exact ⟨by first | rfl | (simp [errW_none, errW_some] <;> rfl) | (simp [*, errW_none, errW_some] <;> rfl), by repeat (first | (with_reducible first | exact HB.out | apply below_alloc | apply pw_below_drewN | apply below_drew1 | refine below_set ?_ GE179.out) | exact HB.out)⟩
 ·rw [if_neg c2] at H
  have c2b0 := beq_eq_false_iff_ne.mpr c2
  have c2b1 := bne_iff_ne.mpr c2
  obtain rfl := Option.some.inj H
  go_enter Tryz.func17, Tryz.ntmps17
  go_wp2_with (first | ((with_reducible refine gate_dst (N := 1) rfl ?_); refine box_event ?hg (N := 1) ?hd (cs := #[.int .i64 a0_0, .string a0_1, .int .i64 a0_2]) (t := 38) ?hr ?_; (case hd => rfl); (case hg => rfl); (case hr => first | (go_simp; done) | (go_simp; rfl)); intro gb179 hg w5 hbox hb; have n0_ := Aside0.mk (below_step Zz0 hb); have n1_ := Aside0.mk (hbox); have n2_ := Aside0.mk ((Zz4 : w.heap.size ≤ gb179)); have n3_ := Aside0.mk ((Zz4 : w.heap.size ≤ gb179)); clear HB; have HB := n0_; have BK179 := n1_; have GW179 := n2_; have GE179 := n3_; clear n0_ n1_ n2_ n3_; clear hb hbox hg; have hcz6_0 : w5.cell? ⟨gb179, 0, none⟩ = some (.int .i64 a0_0) := (blk_cell BK179.out 0).trans rfl; have hcz6_1 : w5.cell? ⟨gb179, 1, none⟩ = some (.string a0_1) := (blk_cell BK179.out 1).trans rfl; have hcz6_2 : w5.cell? ⟨gb179, 2, none⟩ = some (.int .i64 a0_2) := (blk_cell BK179.out 2).trans rfl; have hfz6_0 := blk_frozen BK179.out 0; have hfz6_1 := blk_frozen BK179.out 1; have hfz6_2 := blk_frozen BK179.out 2))
  go_ret
  exact ⟨by first | rfl | (simp [errW_none, errW_some] <;> rfl) | (simp [*, errW_none, errW_some] <;> rfl), by repeat (first | (with_reducible first | exact HB.out | apply below_alloc | apply pw_below_drewN | apply below_drew1 | refine below_set ?_ GE179.out) | exact HB.out)⟩
mutual
def tammyref07_Starts.l0 : Nat → List (S38) → List Int → Int → Option (List Int)
 | 0, _, _, _ => none
 | k + 1, x0, x3, x4 => if x4 < (x0.length : Int) then (tammyref07_Starts.l1 k x0 x3 x4 x4 0) else (some x3)
def tammyref07_Starts.l1 : Nat → List (S38) → List Int → Int → Int → Int → Option (List Int)
 | 0, _, _, _, _, _ => none
 | k + 1, x0, x3, x4, x5, x6 => if 0 ≤ x4 then (if x4 < (x0.length : Int) then ((tammyref07_Parts.f ((rd_T38 x0 x4).f0) ((rd_T38 x0 x4).f1) ((rd_T38 x0 x4).f2)).bind fun t181 => (if x6 < t181 then (if 0 ≤ (wrap64 (x5 - 1)) then (if (wrap64 (x5 - 1)) < (x3.length : Int) then (tammyref07_Starts.l1 k x0 x3 x4 (rd x3 (wrap64 (x5 - 1))) (wrap64 (x6 + 1))) else (none)) else (none)) else (if x3.length < 17592186044416 then (tammyref07_Starts.l0 k x0 (x3 ++ [x5]) (wrap64 (x4 + 1))) else (none)))) else (none)) else (none)
end
def tammyref07_Starts.f (k : Nat) (l0 : List (S38)) : Option (List Int) := tammyref07_Starts.l0 k l0 ([] : List Int) 0
theorem tammyref07_Starts.mono_l : ∀ k, (∀ y0 y1 y2, LeO (tammyref07_Starts.l0 k y0 y1 y2) (tammyref07_Starts.l0 (k + 1) y0 y1 y2)) ∧ (∀ y0 y1 y2 y3 y4, LeO (tammyref07_Starts.l1 k y0 y1 y2 y3 y4) (tammyref07_Starts.l1 (k + 1) y0 y1 y2 y3 y4))
 | 0 => ⟨fun _ _ _ r h => by simp [tammyref07_Starts.l0] at h, fun _ _ _ _ _ r h => by simp [tammyref07_Starts.l1] at h⟩
 | k + 1 => by
  obtain ⟨ih0, ih1⟩ := tammyref07_Starts.mono_l k
  refine ⟨?_, ?_⟩
  ·intro y0 y1 y2
   unfold tammyref07_Starts.l0
   repeat' first
   | (with_reducible exact ih0 _ _ _)
   | (with_reducible exact ih1 _ _ _ _ _)
   | (with_reducible exact LeO.refl _)
   | (with_reducible exact LeO.none _)
   | (with_reducible refine LeO.ite ?_ ?_)
   | (with_reducible refine LeO.bind ?_ (fun _ => ?_))
   | exact ih0 _ _ _
   | exact ih1 _ _ _ _ _
   | exact LeO.none _
   | refine LeO.ite ?_ ?_
   | refine LeO.bind ?_ (fun _ => ?_)
  ·intro y0 y1 y2 y3 y4
   unfold tammyref07_Starts.l1
   repeat' first
   | (with_reducible exact ih0 _ _ _)
   | (with_reducible exact ih1 _ _ _ _ _)
   | (with_reducible exact LeO.refl _)
   | (with_reducible exact LeO.none _)
   | (with_reducible refine LeO.ite ?_ ?_)
   | (with_reducible refine LeO.bind ?_ (fun _ => ?_))
   | exact ih0 _ _ _
   | exact ih1 _ _ _ _ _
   | exact LeO.none _
   | refine LeO.ite ?_ ?_
   | refine LeO.bind ?_ (fun _ => ?_)
theorem tammyref07_Starts.mono : ∀ a0 k, LeO (tammyref07_Starts.f k a0) (tammyref07_Starts.f (k + 1) a0) := by
 intro a0 k
 obtain ⟨ih0, ih1⟩ := tammyref07_Starts.mono_l k
 unfold tammyref07_Starts.f
 repeat' first
   | (with_reducible exact ih0 _ _ _)
   | (with_reducible exact ih1 _ _ _ _ _)
   | (with_reducible exact LeO.refl _)
   | (with_reducible exact LeO.none _)
   | (with_reducible refine LeO.ite ?_ ?_)
   | (with_reducible refine LeO.bind ?_ (fun _ => ?_))
   | exact ih0 _ _ _
   | exact ih1 _ _ _ _ _
   | exact LeO.none _
   | refine LeO.ite ?_ ?_
   | refine LeO.bind ?_ (fun _ => ?_)
set_option maxHeartbeats 8000000 in
set_option maxRecDepth 100000 in
theorem tammyref07_Starts.calls (k : Nat) (A0 : Option Addr) (c0 : Nat) (l0 : List (S38)) (r : List Int) (w : World) (hr0 : Kd.C k38 w A0 l0.length l0) (hc0 : l0.length ≤ c0) (h : tammyref07_Starts.f k l0 = some r) :
  Calls Tryz.prog 28 #[.slice A0 l0.length c0] w fun e w' => ∃ v0_ : Value, e = .returned (v0_) ∧ Kd.R (Kd.int .i64) 3 w' w.heap.size (fun _ => True) v0_ r ∧ Below w.heap.size w w' := by
 have hu38 := Tryz.underlying38
 have HR0 := Aside0.mk hr0
 have HC0 := Aside0.mk hc0
 clear hr0 hc0
 have HB := Aside0.mk (Below.refl w.heap.size w)
 have H : (tammyref07_Starts.l0 k l0 ([] : List Int) 0) = some r := h
 clear h
 have H' := Aside0.mk H
 clear H
 go_enter Tryz.func28, Tryz.ntmps28
 go_wp2
 go_loopg [3, 4] k (fun kq v3 v4 w' => ∃ (x3_1 : List Int) (x4_1 : Int), v4 = .int .i64 x4_1 ∧ Aside0 (tammyref07_Starts.l0 kq l0 x3_1 x4_1 = some r) ∧ Aside0 (kq ≤ k) ∧ Aside0 (Kd.R (Kd.int .i64) 3 w' w.heap.size (fun _ => True) v3 x3_1) ∧ Aside0 (Below w.heap.size w w'))
 case atStart => exact ⟨(([] : List Int)), (0), Zz6, H', ⟨Nat.le_refl _⟩, ⟨by first | exact Kd.R_nil _ _ _ _ _ | exact Kd.N_nil _ _ _ _ _ | exact Kd.V_nil _ _ _ _ _ | exact Kd.Q_nil _ _ _ _ _ | exact Kd.S_nil _ _ _ _ _⟩, ⟨by repeat (first | (with_reducible first | exact HB.out | apply below_alloc | apply pw_below_drewN | apply below_drew1) | exact HB.out)⟩⟩
 case round =>
  clear H'
  obtain ⟨x3_1, x4_1, rfl, HA, HK1, HO_3, HB⟩ := hrel
  cases gk with
  | zero => exact absurd HA.out (by simp [tammyref07_Starts.l0])
  | succ k1 =>
   have H := HA.out
   clear HA
   simp only [tammyref07_Starts.l0] at H
   by_cases c2 : x4_1 < (l0.length : Int)
   ·rw [if_pos c2] at H
    have c2b0 := decide_eq_true c2
    clear c2
    have H' := Aside0.mk H
    clear H
    go_wp2
    go_loopg [5, 6] k1 (fun kq v5 v6 w' => ∃ (x5_2 : Int) (x6_2 : Int), v5 = .int .i64 x5_2 ∧ v6 = .int .i64 x6_2 ∧ Aside0 (tammyref07_Starts.l1 kq l0 x3_1 x4_1 x5_2 x6_2 = some r) ∧ Aside0 (kq ≤ k1) ∧ Aside0 (Kd.R (Kd.int .i64) 3 w' w.heap.size (fun _ => True) u3 x3_1) ∧ Aside0 (Below w.heap.size w w'))
    case atStart => exact ⟨(x4_1), (0), Zz6, Zz6, H', ⟨Nat.le_refl _⟩, ⟨by (with_reducible repeat (first | apply Kd.R_alloc | apply Kd.R_drewN | apply Kd.R_drew)); exact HO_3.out⟩, ⟨by repeat (first | (with_reducible first | exact HB.out | apply below_alloc | apply pw_below_drewN | apply below_drew1) | exact HB.out)⟩⟩
    case round =>
     clear H'
     try clear c2
     try clear c2b0
     try clear p2
     obtain ⟨x5_2, x6_2, rfl, rfl, HA, HK2, HO_3, HB⟩ := hrel
     cases gk with
     | zero => exact absurd HA.out (by simp [tammyref07_Starts.l1])
     | succ k2 =>
      have H := HA.out
      clear HA
      simp only [tammyref07_Starts.l1] at H
      by_cases c3 : 0 ≤ x4_1
      ·rw [if_pos c3] at H
       have c3b0 := decide_eq_true c3
       clear c3
       by_cases c4 : x4_1 < (l0.length : Int)
       ·rw [if_pos c4] at H
        have c4b0 := decide_eq_true c4
        clear c4
        replace H := Option.bind_eq_some_iff.mp H
        obtain ⟨t181, A50, H⟩ := H
        replace H : (if x6_2 < t181 then (if 0 ≤ (wrap64 (x5_2 - 1)) then (if (wrap64 (x5_2 - 1)) < (x3_1.length : Int) then (tammyref07_Starts.l1 k2 l0 x3_1 x4_1 (rd x3_1 (wrap64 (x5_2 - 1))) (wrap64 (x6_2 + 1))) else (none)) else (none)) else (if x3_1.length < 17592186044416 then (tammyref07_Starts.l0 k2 l0 (x3_1 ++ [x5_2]) (wrap64 (x4_1 + 1))) else (none))) = some r := H
        have A5 := Aside0.mk A50
        clear A50
        by_cases c6 : x6_2 < t181
        ·rw [if_pos c6] at H
         have c6b0 := decide_eq_true c6
         clear c6
         obtain ⟨ji7, hji7⟩ : ∃ j_ : Int, (wrap64 (x5_2 - 1)) = j_ := ⟨_, rfl⟩
         replace H : (if 0 ≤ (ji7) then (if (ji7) < (x3_1.length : Int) then (tammyref07_Starts.l1 k2 l0 x3_1 x4_1 (rd x3_1 (ji7)) (wrap64 (x6_2 + 1))) else (none)) else (none)) = some r := by first | (rw [hji7] at H; exact H) | (simp only [hji7] at H ⊢; exact H)
         (try rw [hji7] at A5)
         have hji7w : (IntKind.i64.wrap (x5_2 - 1)) = ji7 := (i64_w _).trans hji7
         by_cases c8 : 0 ≤ (ji7)
         ·rw [if_pos c8] at H
          have c8b0 := decide_eq_true c8
          clear c8
          by_cases c9 : (ji7) < (x3_1.length : Int)
          ·rw [if_pos c9] at H
           have c9b0 := decide_eq_true c9
           clear c9
           have H' := Aside0.mk H
           clear H
           have p180 : 0 ≤ (x4_1 : Int) := of_decide_eq_true Zz1
           have q180 : x4_1 < (l0.length : Int) := of_decide_eq_true Zz1
           obtain ⟨ad180, e180, hx180_0, hx180_1, hx180_2⟩ := at_T38 HR0.out x4_1 p180 q180
           cases e180
           replace hx180_0 := (HB.out.cell (World.block_lt_of_cell? w _ hx180_0)).trans hx180_0
           replace hx180_1 := (HB.out.cell (World.block_lt_of_cell? w _ hx180_1)).trans hx180_1
           replace hx180_2 := (HB.out.cell (World.block_lt_of_cell? w _ hx180_2)).trans hx180_2
           replace p180 := eq_true p180
           replace q180 := eq_true q180
           go_wp2_with (first | ((with_reducible refine gate_callee (f := 17) rfl ?_); refine goesL_ (some 19) rfl rfl Tryz.func17 (by kernel_rfl) rfl #[.agg #[.int .i64 ((rd_T38 l0 x4_1).f0), .string ((rd_T38 l0 x4_1).f1), .int .i64 ((rd_T38 l0 x4_1).f2)]] rfl Zz2 ?_; (with_reducible refine (tammyref07_Parts.calls ((rd_T38 l0 x4_1).f0) ((rd_T38 l0 x4_1).f1) ((rd_T38 l0 x4_1).f2) t181 _ A5.out).mono ?_); rintro e w10 ⟨rfl, hb⟩; refine ⟨_, rfl, ?_⟩; have n0_ := Aside0.mk (Kd.R_below (Zz31 HO_3.out) hb); have n1_ := Aside0.mk (below_step Zz0 hb); clear HO_3; clear HB; have HO_3 := n0_; have HB := n1_; clear n0_ n1_; (try clear hb); (try clear hb2); (try clear hk); (try clear hi); obtain ⟨Ao11, co11, eo11⟩ := Kd.R_slice HO_3.out; subst eo11; have p182 : 0 ≤ ((ji7) : Int) := of_decide_eq_true Zz1; have q182 : (ji7) < (x3_1.length : Int) := of_decide_eq_true Zz1; obtain ⟨ad182, e182, hx182_0⟩ := Kd.at_int (Kd.R_reads' HO_3.out).2.2 (ji7) p182 q182; cases e182; replace p182 := eq_true p182; replace q182 := eq_true q182))
           go_roundg k2
           case measure => have := HK1.out; have := HK2.out; omega
           case rel => exact ⟨(rd x3_1 (ji7)), (wrap64 (x6_2 + 1)), (by first | rfl | (simp; done) | (simp only [← hji7] <;> (first | rfl | simp)) | (simp [*]; done)), Zz6, H', ⟨by have := HK1.out; have := HK2.out; omega⟩, ⟨by (with_reducible repeat (first | apply Kd.R_alloc | apply Kd.R_drewN | apply Kd.R_drew)); exact HO_3.out⟩, ⟨by repeat (first | (with_reducible first | exact HB.out | apply below_alloc | apply pw_below_drewN | apply below_drew1) | exact HB.out)⟩⟩
          ·rw [if_neg c9] at H
           exact absurd H (by simp)
         ·rw [if_neg c8] at H
          exact absurd H (by simp)
        ·rw [if_neg c6] at H
         have c6b0 := decide_eq_false c6
         clear c6
         by_cases c12 : x3_1.length < 17592186044416
         ·rw [if_pos c12] at H
          have LMc12 := Aside0.mk c12
          clear c12
          obtain ⟨y183, hy183⟩ : ∃ y_ : List Int, y_ = (x3_1 ++ [x5_2]) := ⟨_, rfl⟩
          replace H : (tammyref07_Starts.l0 k2 l0 y183 (wrap64 (x4_1 + 1))) = some r := by first | (rw [hy183]; with_reducible exact H) | (have H2_ := (Option.bind_some _ _).symm.trans H; rw [hy183]; with_reducible exact H2_) | (have H2_ := (Option.bind_some _ _).symm.trans H; with_reducible exact H2_) | with_reducible exact H | (rw [hy183]; exact H) | exact H
          have Ny183 := Aside0.mk hy183
          clear hy183
          have H' := Aside0.mk H
          clear H
          have p180 : 0 ≤ (x4_1 : Int) := of_decide_eq_true Zz1
          have q180 : x4_1 < (l0.length : Int) := of_decide_eq_true Zz1
          obtain ⟨ad180, e180, hx180_0, hx180_1, hx180_2⟩ := at_T38 HR0.out x4_1 p180 q180
          cases e180
          replace hx180_0 := (HB.out.cell (World.block_lt_of_cell? w _ hx180_0)).trans hx180_0
          replace hx180_1 := (HB.out.cell (World.block_lt_of_cell? w _ hx180_1)).trans hx180_1
          replace hx180_2 := (HB.out.cell (World.block_lt_of_cell? w _ hx180_2)).trans hx180_2
          replace p180 := eq_true p180
          replace q180 := eq_true q180
          go_wp2_with (first | ((with_reducible refine gate_callee (f := 17) rfl ?_); refine goesL_ (some 19) rfl rfl Tryz.func17 (by kernel_rfl) rfl #[.agg #[.int .i64 ((rd_T38 l0 x4_1).f0), .string ((rd_T38 l0 x4_1).f1), .int .i64 ((rd_T38 l0 x4_1).f2)]] rfl Zz2 ?_; (with_reducible refine (tammyref07_Parts.calls ((rd_T38 l0 x4_1).f0) ((rd_T38 l0 x4_1).f1) ((rd_T38 l0 x4_1).f2) t181 _ A5.out).mono ?_); rintro e w13 ⟨rfl, hb⟩; refine ⟨_, rfl, ?_⟩; have n0_ := Aside0.mk (Kd.R_below (Zz31 HO_3.out) hb); have n1_ := Aside0.mk (below_step Zz0 hb); clear HO_3; clear HB; have HO_3 := n0_; have HB := n1_; clear n0_ n1_; (try clear hb); (try clear hb2); (try clear hk); (try clear hi)) | ((with_reducible refine gate_builtin (b := .append) (xs := #[.tmp 28, .tmp 30]) rfl ?_); at_builtin; refine Kd.R_append (Kd.int .i64) (w0 := w) w.heap.size rfl (.tmp 28) (.tmp 30) 25 3 (.int .i64 0) 8 rfl Tryz.underlying25 info3 rfl (by decide) (by omega) u3 x3_1 x5_2 [.int .i64 x5_2] (fun _ => True) (fun _ => False) rfl rfl ?aP (fun _ hk => hk.elim) ?aF ?aO ?aB ?aS ?aL ?_; (case aP => exact rfl); (case aB => exact Zz0); (case aF => exact (fun _ _ => trivial)); (case aO => exact (Zz31 HO_3.out)); (case aS => exact (below_size Zz0)); (case aL => have := LMc12.out; omega); intro v184 w14 ho hb hg hat; rw [← Ny183.out] at ho; have n0_ := Aside0.mk (hb); have n1_ := Aside0.mk (ho); clear HB; clear HO_3; have HB := n0_; have HO185 := n1_; clear n0_ n1_; clear ho hb hg hat))
          go_roundg k2
          case measure => have := HK1.out; have := HK2.out; omega
          case rel => exact ⟨(y183), (wrap64 (x4_1 + 1)), Zz6, H', ⟨by have := HK1.out; have := HK2.out; omega⟩, ⟨by (with_reducible repeat (first | apply Kd.R_alloc | apply Kd.R_drewN | apply Kd.R_drew)); exact HO185.out⟩, ⟨by repeat (first | (with_reducible first | exact HB.out | apply below_alloc | apply pw_below_drewN | apply below_drew1) | exact HB.out)⟩⟩
         ·rw [if_neg c12] at H
          exact absurd H (by simp)
       ·rw [if_neg c4] at H
        exact absurd H (by simp)
      ·rw [if_neg c3] at H
       exact absurd H (by simp)
   ·rw [if_neg c2] at H
    have c2b0 := decide_eq_false c2
    clear c2
    obtain rfl := Option.some.inj H
    go_wp2
    go_ret
    exact ⟨_, by first | rfl | (simp [errW_none, errW_some] <;> rfl) | (simp [*, errW_none, errW_some] <;> rfl), by (with_reducible repeat (first | apply Kd.R_alloc | apply Kd.R_drewN | apply Kd.R_drew)); exact HO_3.out, by repeat (first | (with_reducible first | exact HB.out | apply below_alloc | apply pw_below_drewN | apply below_drew1) | exact HB.out)⟩
end Go.Proofs.YtniaooodlccmcaaGreatDoor.Q

