import Derived.Test.YtniaooodlccmcaaGreatDoorDz
import Derived.Test.YtniaooodlccmcaaGreatDoorQx0
import Derived.Test.YtniaooodlccmcaaGreatDoorQx10
import Derived.Test.YtniaooodlccmcaaGreatDoorQx12
namespace Go.Proofs.YtniaooodlccmcaaGreatDoor.Q
open Go.RowKit Go.Proofs.YtniaooodlccmcaaGreatDoorW.PrintWords Go.Proofs.YtniaooodlccmcaaGreatDoorW.PrintLast Go.Proofs.YtniaooodlccmcaaGreatDoorW.PrintMore
attribute [local go_sem] max2_int min2_int max_two min_two max_three min_three max_four min_four
set_option linter.unusedVariables false
set_option linter.unusedSimpArgs false
mutual
def tammyref07_Right.l0 : Nat → List (S38) → Int → Int → Option (Bool)
 | 0, _, _, _ => none
 | k + 1, x0, x3, x4 => if x4 < (x0.length : Int) then (if 0 ≤ x4 then ((tammyref07_may.f k ((rd_T38 x0 x4).f0) ((rd_T38 x0 x4).f1) ((rd_T38 x0 x4).f2)).bind fun t259 => (if t259 = true then ((tammyref07_Parts.f ((rd_T38 x0 x4).f0) ((rd_T38 x0 x4).f1) ((rd_T38 x0 x4).f2)).bind fun t261 => (if t261 > x3 then (some false) else ((tammyref07_Parts.f ((rd_T38 x0 x4).f0) ((rd_T38 x0 x4).f1) ((rd_T38 x0 x4).f2)).bind fun t263 => (tammyref07_Right.l0 k x0 (wrap64 ((wrap64 (x3 - t263)) + 1)) (wrap64 (x4 + 1)))))) else (some false))) else (none)) else (if x3 = 1 then ((tammyref07_Text.f k x0).bind fun t264 => (tammyref07_Right.l1 k t264 0 0)) else (some false))
def tammyref07_Right.l1 : Nat → ByteArray → Int → Int → Option (Bool)
 | 0, _, _, _ => none
 | k + 1, x6, x7, x8 => if x8 < (x6.size : Int) then (if 0 ≤ x8 then (if (bt x6 x8) = 40 then (tammyref07_Right.j2 k x6 (wrap64 (x7 + 1)) x8) else (tammyref07_Right.j2 k x6 x7 x8)) else (none)) else (some true)
def tammyref07_Right.j2 : Nat → ByteArray → Int → Int → Option (Bool)
 | 0, _, _, _ => none
 | k + 1, x6, x7, x8 => if 0 ≤ x8 then (if x8 < (x6.size : Int) then (if (bt x6 x8) = 41 then (if (wrap64 (x7 - 1)) > 40 then (some false) else (tammyref07_Right.l1 k x6 (wrap64 (x7 - 1)) (wrap64 (x8 + 1)))) else (if x7 > 40 then (some false) else (tammyref07_Right.l1 k x6 x7 (wrap64 (x8 + 1))))) else (none)) else (none)
end
def tammyref07_Right.f (k : Nat) (l0 : List (S38)) : Option (Bool) := tammyref07_Right.l0 k l0 0 0
theorem tammyref07_Right.mono_l : ∀ k, (∀ y0 y1 y2, LeO (tammyref07_Right.l0 k y0 y1 y2) (tammyref07_Right.l0 (k + 1) y0 y1 y2)) ∧ (∀ y0 y1 y2, LeO (tammyref07_Right.l1 k y0 y1 y2) (tammyref07_Right.l1 (k + 1) y0 y1 y2)) ∧ (∀ y0 y1 y2, LeO (tammyref07_Right.j2 k y0 y1 y2) (tammyref07_Right.j2 (k + 1) y0 y1 y2))
 | 0 => ⟨fun _ _ _ r h => by simp [tammyref07_Right.l0] at h, fun _ _ _ r h => by simp [tammyref07_Right.l1] at h, fun _ _ _ r h => by simp [tammyref07_Right.j2] at h⟩
 | k + 1 => by
  obtain ⟨ih0, ih1, ih2⟩ := tammyref07_Right.mono_l k
  refine ⟨?_, ?_, ?_⟩
  ·intro y0 y1 y2
   unfold tammyref07_Right.l0
   repeat' first
   | (with_reducible exact ih0 _ _ _)
   | (with_reducible exact ih1 _ _ _)
   | (with_reducible exact ih2 _ _ _)
   | (with_reducible exact tammyref07_Text.mono _ _)
   | (with_reducible exact tammyref07_may.mono _ _ _ _)
   | (with_reducible exact LeO.refl _)
   | (with_reducible exact LeO.none _)
   | (with_reducible refine LeO.ite ?_ ?_)
   | (with_reducible refine LeO.bind ?_ (fun _ => ?_))
   | exact ih0 _ _ _
   | exact ih1 _ _ _
   | exact ih2 _ _ _
   | exact tammyref07_Text.mono _ _
   | exact tammyref07_may.mono _ _ _ _
   | exact LeO.none _
   | refine LeO.ite ?_ ?_
   | refine LeO.bind ?_ (fun _ => ?_)
  ·intro y0 y1 y2
   unfold tammyref07_Right.l1
   repeat' first
   | (with_reducible exact ih0 _ _ _)
   | (with_reducible exact ih1 _ _ _)
   | (with_reducible exact ih2 _ _ _)
   | (with_reducible exact tammyref07_Text.mono _ _)
   | (with_reducible exact tammyref07_may.mono _ _ _ _)
   | (with_reducible exact LeO.refl _)
   | (with_reducible exact LeO.none _)
   | (with_reducible refine LeO.ite ?_ ?_)
   | (with_reducible refine LeO.bind ?_ (fun _ => ?_))
   | exact ih0 _ _ _
   | exact ih1 _ _ _
   | exact ih2 _ _ _
   | exact tammyref07_Text.mono _ _
   | exact tammyref07_may.mono _ _ _ _
   | exact LeO.none _
   | refine LeO.ite ?_ ?_
   | refine LeO.bind ?_ (fun _ => ?_)
  ·intro y0 y1 y2
   unfold tammyref07_Right.j2
   repeat' first
   | (with_reducible exact ih0 _ _ _)
   | (with_reducible exact ih1 _ _ _)
   | (with_reducible exact ih2 _ _ _)
   | (with_reducible exact tammyref07_Text.mono _ _)
   | (with_reducible exact tammyref07_may.mono _ _ _ _)
   | (with_reducible exact LeO.refl _)
   | (with_reducible exact LeO.none _)
   | (with_reducible refine LeO.ite ?_ ?_)
   | (with_reducible refine LeO.bind ?_ (fun _ => ?_))
   | exact ih0 _ _ _
   | exact ih1 _ _ _
   | exact ih2 _ _ _
   | exact tammyref07_Text.mono _ _
   | exact tammyref07_may.mono _ _ _ _
   | exact LeO.none _
   | refine LeO.ite ?_ ?_
   | refine LeO.bind ?_ (fun _ => ?_)
theorem tammyref07_Right.mono : ∀ a0 k, LeO (tammyref07_Right.f k a0) (tammyref07_Right.f (k + 1) a0) := by
 intro a0 k
 obtain ⟨ih0, ih1, ih2⟩ := tammyref07_Right.mono_l k
 unfold tammyref07_Right.f
 repeat' first
   | (with_reducible exact ih0 _ _ _)
   | (with_reducible exact ih1 _ _ _)
   | (with_reducible exact ih2 _ _ _)
   | (with_reducible exact tammyref07_Text.mono _ _)
   | (with_reducible exact tammyref07_may.mono _ _ _ _)
   | (with_reducible exact LeO.refl _)
   | (with_reducible exact LeO.none _)
   | (with_reducible refine LeO.ite ?_ ?_)
   | (with_reducible refine LeO.bind ?_ (fun _ => ?_))
   | exact ih0 _ _ _
   | exact ih1 _ _ _
   | exact ih2 _ _ _
   | exact tammyref07_Text.mono _ _
   | exact tammyref07_may.mono _ _ _ _
   | exact LeO.none _
   | refine LeO.ite ?_ ?_
   | refine LeO.bind ?_ (fun _ => ?_)
set_option maxHeartbeats 8000000 in
set_option maxRecDepth 100000 in
theorem tammyref07_Right.calls (k : Nat) (A0 : Option Addr) (c0 : Nat) (l0 : List (S38)) (r : Bool) (w : World) (hr0 : Kd.C k38 w A0 l0.length l0) (hc0 : l0.length ≤ c0) (h : tammyref07_Right.f k l0 = some r) :
  Calls Tryz.prog 9 #[.slice A0 l0.length c0] w fun e w' => e = .returned (.bool r) ∧ Below w.heap.size w w' := by
 have hu38 := Tryz.underlying38
 have HR0 := Aside0.mk hr0
 have HC0 := Aside0.mk hc0
 clear hr0 hc0
 have HB := Aside0.mk (Below.refl w.heap.size w)
 have H : (tammyref07_Right.l0 k l0 0 0) = some r := h
 clear h
 have H' := Aside0.mk H
 clear H
 go_enter Tryz.func9, Tryz.ntmps9
 go_wp2
 go_loopg [3, 4] k (fun kq v3 v4 w' => ∃ (x3_1 : Int) (x4_1 : Int), v3 = .int .i64 x3_1 ∧ v4 = .int .i64 x4_1 ∧ Aside0 (tammyref07_Right.l0 kq l0 x3_1 x4_1 = some r) ∧ Aside0 (kq ≤ k) ∧ Aside0 (Below w.heap.size w w'))
 case atStart => exact ⟨(0), (0), Zz6, Zz6, H', ⟨Nat.le_refl _⟩, ⟨by repeat (first | (with_reducible first | exact HB.out | apply below_alloc | apply pw_below_drewN | apply below_drew1) | exact HB.out)⟩⟩
 case round =>
  clear H'
  obtain ⟨x3_1, x4_1, rfl, rfl, HA, HK1, HB⟩ := hrel
  cases gk with
  | zero => exact absurd HA.out (by simp [tammyref07_Right.l0])
  | succ k1 =>
   have H := HA.out
   clear HA
   simp only [tammyref07_Right.l0] at H
   by_cases c2 : x4_1 < (l0.length : Int)
   ·rw [if_pos c2] at H
    have c2b0 := decide_eq_true c2
    clear c2
    by_cases c3 : 0 ≤ x4_1
    ·rw [if_pos c3] at H
     have c3b0 := decide_eq_true c3
     clear c3
     replace H := Option.bind_eq_some_iff.mp H
     obtain ⟨t259, A40, H⟩ := H
     replace H : (if t259 = true then ((tammyref07_Parts.f ((rd_T38 l0 x4_1).f0) ((rd_T38 l0 x4_1).f1) ((rd_T38 l0 x4_1).f2)).bind fun t261 => (if t261 > x3_1 then (some false) else ((tammyref07_Parts.f ((rd_T38 l0 x4_1).f0) ((rd_T38 l0 x4_1).f1) ((rd_T38 l0 x4_1).f2)).bind fun t263 => (tammyref07_Right.l0 k1 l0 (wrap64 ((wrap64 (x3_1 - t263)) + 1)) (wrap64 (x4_1 + 1)))))) else (some false)) = some r := H
     have A4 := Aside0.mk A40
     clear A40
     by_cases c5 : t259 = true
     ·subst c5
      have H1 : ((tammyref07_Parts.f ((rd_T38 l0 x4_1).f0) ((rd_T38 l0 x4_1).f1) ((rd_T38 l0 x4_1).f2)).bind fun t261 => (if t261 > x3_1 then (some false) else ((tammyref07_Parts.f ((rd_T38 l0 x4_1).f0) ((rd_T38 l0 x4_1).f1) ((rd_T38 l0 x4_1).f2)).bind fun t263 => (tammyref07_Right.l0 k1 l0 (wrap64 ((wrap64 (x3_1 - t263)) + 1)) (wrap64 (x4_1 + 1)))))) = some r := by rw [if_pos rfl] at H; exact H
      clear H
      have H := H1
      clear H1
      replace H := Option.bind_eq_some_iff.mp H
      obtain ⟨t261, A60, H⟩ := H
      replace H : (if t261 > x3_1 then (some false) else ((tammyref07_Parts.f ((rd_T38 l0 x4_1).f0) ((rd_T38 l0 x4_1).f1) ((rd_T38 l0 x4_1).f2)).bind fun t263 => (tammyref07_Right.l0 k1 l0 (wrap64 ((wrap64 (x3_1 - t263)) + 1)) (wrap64 (x4_1 + 1))))) = some r := H
      have A6 := Aside0.mk A60
      clear A60
      by_cases c7 : t261 > x3_1
      ·rw [if_pos c7] at H
       have c7b0 : decide (x3_1 < t261) = true := decide_eq_true c7
       clear c7
       obtain rfl := Option.some.inj H
       have p258 : 0 ≤ (x4_1 : Int) := of_decide_eq_true Zz1
       have q258 : x4_1 < (l0.length : Int) := of_decide_eq_true Zz1
       obtain ⟨ad258, e258, hx258_0, hx258_1, hx258_2⟩ := at_T38 HR0.out x4_1 p258 q258
       cases e258
       replace hx258_0 := (HB.out.cell (World.block_lt_of_cell? w _ hx258_0)).trans hx258_0
       replace hx258_1 := (HB.out.cell (World.block_lt_of_cell? w _ hx258_1)).trans hx258_1
       replace hx258_2 := (HB.out.cell (World.block_lt_of_cell? w _ hx258_2)).trans hx258_2
       replace p258 := eq_true p258
       replace q258 := eq_true q258
       go_wp2_with (first | ((with_reducible refine gate_callee (f := 16) rfl ?_); refine goesL_ (some 19) rfl rfl Tryz.func16 (by kernel_rfl) rfl #[.agg #[.int .i64 ((rd_T38 l0 x4_1).f0), .string ((rd_T38 l0 x4_1).f1), .int .i64 ((rd_T38 l0 x4_1).f2)]] rfl Zz2 ?_; (with_reducible refine (tammyref07_may.calls k1 ((rd_T38 l0 x4_1).f0) ((rd_T38 l0 x4_1).f1) ((rd_T38 l0 x4_1).f2) true _ A4.out).mono ?_); rintro e w8 ⟨rfl, hb⟩; refine ⟨_, rfl, ?_⟩; have n0_ := Aside0.mk (below_step Zz0 hb); clear HB; have HB := n0_; clear n0_; (try clear hb); (try clear hb2); (try clear hk); (try clear hi); have p260 : 0 ≤ (x4_1 : Int) := of_decide_eq_true Zz1; have q260 : x4_1 < (l0.length : Int) := of_decide_eq_true Zz1; obtain ⟨ad260, e260, hx260_0, hx260_1, hx260_2⟩ := at_T38 HR0.out x4_1 p260 q260; obtain rfl : ad258 = ad260 := (by injection e260); replace hx260_0 := (HB.out.cell (World.block_lt_of_cell? w _ hx260_0)).trans hx260_0; replace hx260_1 := (HB.out.cell (World.block_lt_of_cell? w _ hx260_1)).trans hx260_1; replace hx260_2 := (HB.out.cell (World.block_lt_of_cell? w _ hx260_2)).trans hx260_2; replace p260 := eq_true p260; replace q260 := eq_true q260) | (go_at_call 17; (with_reducible refine (tammyref07_Parts.calls ((rd_T38 l0 x4_1).f0) ((rd_T38 l0 x4_1).f1) ((rd_T38 l0 x4_1).f2) t261 _ A6.out).mono ?_); rintro e w9 ⟨rfl, hb⟩; have n0_ := Aside0.mk (below_step Zz0 hb); clear HB; have HB := n0_; clear n0_; (try clear hb); (try clear hb2); (try clear hk); (try clear hi)))
       go_ret
       exact ⟨by first | rfl | (simp [errW_none, errW_some] <;> rfl) | (simp [*, errW_none, errW_some] <;> rfl), by repeat (first | (with_reducible first | exact HB.out | apply below_alloc | apply pw_below_drewN | apply below_drew1) | exact HB.out)⟩
      ·rw [if_neg c7] at H
       have c7b0 : decide (x3_1 < t261) = false := decide_eq_false c7
       clear c7
       replace H := Option.bind_eq_some_iff.mp H
       obtain ⟨t263, A100, H⟩ := H
       replace H : (tammyref07_Right.l0 k1 l0 (wrap64 ((wrap64 (x3_1 - t263)) + 1)) (wrap64 (x4_1 + 1))) = some r := H
       have A10 := Aside0.mk A100
       clear A100
       have H' := Aside0.mk H
       clear H
       have p258 : 0 ≤ (x4_1 : Int) := of_decide_eq_true Zz1
       have q258 : x4_1 < (l0.length : Int) := of_decide_eq_true Zz1
       obtain ⟨ad258, e258, hx258_0, hx258_1, hx258_2⟩ := at_T38 HR0.out x4_1 p258 q258
       cases e258
       replace hx258_0 := (HB.out.cell (World.block_lt_of_cell? w _ hx258_0)).trans hx258_0
       replace hx258_1 := (HB.out.cell (World.block_lt_of_cell? w _ hx258_1)).trans hx258_1
       replace hx258_2 := (HB.out.cell (World.block_lt_of_cell? w _ hx258_2)).trans hx258_2
       replace p258 := eq_true p258
       replace q258 := eq_true q258
       go_wp2_with (first | ((with_reducible refine gate_callee (f := 16) rfl ?_); refine goesL_ (some 19) rfl rfl Tryz.func16 (by kernel_rfl) rfl #[.agg #[.int .i64 ((rd_T38 l0 x4_1).f0), .string ((rd_T38 l0 x4_1).f1), .int .i64 ((rd_T38 l0 x4_1).f2)]] rfl Zz2 ?_; (with_reducible refine (tammyref07_may.calls k1 ((rd_T38 l0 x4_1).f0) ((rd_T38 l0 x4_1).f1) ((rd_T38 l0 x4_1).f2) true _ A4.out).mono ?_); rintro e w11 ⟨rfl, hb⟩; refine ⟨_, rfl, ?_⟩; have n0_ := Aside0.mk (below_step Zz0 hb); clear HB; have HB := n0_; clear n0_; (try clear hb); (try clear hb2); (try clear hk); (try clear hi); have p260 : 0 ≤ (x4_1 : Int) := of_decide_eq_true Zz1; have q260 : x4_1 < (l0.length : Int) := of_decide_eq_true Zz1; obtain ⟨ad260, e260, hx260_0, hx260_1, hx260_2⟩ := at_T38 HR0.out x4_1 p260 q260; obtain rfl : ad258 = ad260 := (by injection e260); replace hx260_0 := (HB.out.cell (World.block_lt_of_cell? w _ hx260_0)).trans hx260_0; replace hx260_1 := (HB.out.cell (World.block_lt_of_cell? w _ hx260_1)).trans hx260_1; replace hx260_2 := (HB.out.cell (World.block_lt_of_cell? w _ hx260_2)).trans hx260_2; replace p260 := eq_true p260; replace q260 := eq_true q260) | (go_at_call 17; (with_reducible refine (tammyref07_Parts.calls ((rd_T38 l0 x4_1).f0) ((rd_T38 l0 x4_1).f1) ((rd_T38 l0 x4_1).f2) t261 _ A6.out).mono ?_); rintro e w12 ⟨rfl, hb⟩; have n0_ := Aside0.mk (below_step Zz0 hb); clear HB; have HB := n0_; clear n0_; (try clear hb); (try clear hb2); (try clear hk); (try clear hi); have p262 : 0 ≤ (x4_1 : Int) := of_decide_eq_true Zz1; have q262 : x4_1 < (l0.length : Int) := of_decide_eq_true Zz1; obtain ⟨ad262, e262, hx262_0, hx262_1, hx262_2⟩ := at_T38 HR0.out x4_1 p262 q262; obtain rfl : ad258 = ad262 := (by injection e262); replace hx262_0 := (HB.out.cell (World.block_lt_of_cell? w _ hx262_0)).trans hx262_0; replace hx262_1 := (HB.out.cell (World.block_lt_of_cell? w _ hx262_1)).trans hx262_1; replace hx262_2 := (HB.out.cell (World.block_lt_of_cell? w _ hx262_2)).trans hx262_2; replace p262 := eq_true p262; replace q262 := eq_true q262) | ((with_reducible refine gate_callee (f := 17) rfl ?_); refine goesL_ (some 36) rfl rfl Tryz.func17 (by kernel_rfl) rfl #[.agg #[.int .i64 ((rd_T38 l0 x4_1).f0), .string ((rd_T38 l0 x4_1).f1), .int .i64 ((rd_T38 l0 x4_1).f2)]] rfl Zz2 ?_; (with_reducible refine (tammyref07_Parts.calls ((rd_T38 l0 x4_1).f0) ((rd_T38 l0 x4_1).f1) ((rd_T38 l0 x4_1).f2) t263 _ A10.out).mono ?_); rintro e w13 ⟨rfl, hb⟩; refine ⟨_, rfl, ?_⟩; have n0_ := Aside0.mk (below_step Zz0 hb); clear HB; have HB := n0_; clear n0_; (try clear hb); (try clear hb2); (try clear hk); (try clear hi)))
       go_roundg k1
       case measure => have := HK1.out; omega
       case rel => exact ⟨(wrap64 ((wrap64 (x3_1 - t263)) + 1)), (wrap64 (x4_1 + 1)), Zz6, Zz6, H', ⟨by have := HK1.out; omega⟩, ⟨by repeat (first | (with_reducible first | exact HB.out | apply below_alloc | apply pw_below_drewN | apply below_drew1) | exact HB.out)⟩⟩
     ·replace c5 := Bool.eq_false_iff.mpr c5
      subst c5
      have H1 : (some false) = some r := by rw [if_neg (show ¬ (false = true) by decide)] at H; exact H
      clear H
      have H := H1
      clear H1
      obtain rfl := Option.some.inj H
      have p258 : 0 ≤ (x4_1 : Int) := of_decide_eq_true Zz1
      have q258 : x4_1 < (l0.length : Int) := of_decide_eq_true Zz1
      obtain ⟨ad258, e258, hx258_0, hx258_1, hx258_2⟩ := at_T38 HR0.out x4_1 p258 q258
      cases e258
      replace hx258_0 := (HB.out.cell (World.block_lt_of_cell? w _ hx258_0)).trans hx258_0
      replace hx258_1 := (HB.out.cell (World.block_lt_of_cell? w _ hx258_1)).trans hx258_1
      replace hx258_2 := (HB.out.cell (World.block_lt_of_cell? w _ hx258_2)).trans hx258_2
      replace p258 := eq_true p258
      replace q258 := eq_true q258
      go_wp2_with (first | ((with_reducible refine gate_callee (f := 16) rfl ?_); refine goesL_ (some 19) rfl rfl Tryz.func16 (by kernel_rfl) rfl #[.agg #[.int .i64 ((rd_T38 l0 x4_1).f0), .string ((rd_T38 l0 x4_1).f1), .int .i64 ((rd_T38 l0 x4_1).f2)]] rfl Zz2 ?_; (with_reducible refine (tammyref07_may.calls k1 ((rd_T38 l0 x4_1).f0) ((rd_T38 l0 x4_1).f1) ((rd_T38 l0 x4_1).f2) false _ A4.out).mono ?_); rintro e w14 ⟨rfl, hb⟩; refine ⟨_, rfl, ?_⟩; have n0_ := Aside0.mk (below_step Zz0 hb); clear HB; have HB := n0_; clear n0_; (try clear hb); (try clear hb2); (try clear hk); (try clear hi)))
      go_ret
      exact ⟨by first | rfl | (simp [errW_none, errW_some] <;> rfl) | (simp [*, errW_none, errW_some] <;> rfl), by repeat (first | (with_reducible first | exact HB.out | apply below_alloc | apply pw_below_drewN | apply below_drew1) | exact HB.out)⟩
    ·rw [if_neg c3] at H
     exact absurd H (by simp)
   ·rw [if_neg c2] at H
    have c2b0 := decide_eq_false c2
    clear c2
    by_cases c15 : x3_1 = 1
    ·rw [if_pos c15] at H
     have c15b0 := beq_iff_eq.mpr c15
     have c15b1 := bne_eq_false_iff_eq.mpr c15
     clear c15
     replace H := Option.bind_eq_some_iff.mp H
     obtain ⟨t264, A160, H⟩ := H
     replace H : (tammyref07_Right.l1 k1 t264 0 0) = some r := H
     have A16 := Aside0.mk A160
     clear A160
     have H' := Aside0.mk H
     clear H
     go_wp2_with (first | ((with_reducible refine gate_callee (f := 18) rfl ?_); refine goesL_ (some 42) rfl rfl Tryz.func18 (by kernel_rfl) rfl #[.slice A0 l0.length c0] rfl Zz2 ?_; (with_reducible refine (tammyref07_Text.calls k1 _ _ l0 t264 _ ?side1 ?side2 A16.out).mono ?_); (case side1 => repeat (first | exact (Kd.C_below HR0.out HB.out) | (with_reducible refine Kd.C_alloc ?_ _) | (with_reducible refine Kd.C_drewN ?_ _) | (with_reducible refine Kd.C_drew ?_))); (case side2 => exact HC0.out); rintro e w17 ⟨rfl, hb⟩; refine ⟨_, rfl, ?_⟩; have n0_ := Aside0.mk (below_step Zz0 hb); clear HB; have HB := n0_; clear n0_; (try clear hb); (try clear hb2); (try clear hk); (try clear hi)))
     go_loopg [7, 8] k1 (fun kq v7 v8 w' => ∃ (x7_2 : Int) (x8_2 : Int), v7 = .int .i64 x7_2 ∧ v8 = .int .i64 x8_2 ∧ Aside0 (tammyref07_Right.l1 kq t264 x7_2 x8_2 = some r) ∧ Aside0 (kq ≤ k1) ∧ Aside0 (Below w.heap.size w w'))
     case atStart => exact ⟨(0), (0), Zz6, Zz6, H', ⟨Nat.le_refl _⟩, ⟨by repeat (first | (with_reducible first | exact HB.out | apply below_alloc | apply pw_below_drewN | apply below_drew1) | exact HB.out)⟩⟩
     case round =>
      clear H'
      try clear c1
      try clear c2
      try clear c2b0
      try clear p2
      try clear q2
      try clear hx2
      try clear c3
      try clear c3b0
      try clear c5
      try clear p6
      try clear c7
      try clear c7b0
      try clear c9
      try clear c15
      try clear c15b0
      try clear c15b1
      try clear c16
      try clear c17
      try clear hx258_0
      try clear hx258_1
      try clear hx258_2
      try clear hx260_0
      try clear hx260_1
      try clear hx260_2
      try clear hx262_0
      try clear hx262_1
      try clear hx262_2
      try clear p258
      try clear p260
      try clear p262
      try clear q258
      try clear q260
      try clear q262
      obtain ⟨x7_2, x8_2, rfl, rfl, HA, HK2, HB⟩ := hrel
      cases gk with
      | zero => exact absurd HA.out (by simp [tammyref07_Right.l1])
      | succ k2 =>
       have H := HA.out
       clear HA
       simp only [tammyref07_Right.l1] at H
       by_cases c18 : x8_2 < (t264.size : Int)
       ·rw [if_pos c18] at H
        have c18b0 := decide_eq_true c18
        clear c18
        by_cases c19 : 0 ≤ x8_2
        ·rw [if_pos c19] at H
         have c19b0 := decide_eq_true c19
         clear c19
         have HC21 := Aside0.mk H
         clear H
         have p20 : 0 ≤ (x8_2 : Int) := of_decide_eq_true Zz1
         have q20 : x8_2 < (t264.size : Int) := of_decide_eq_true Zz1
         have hx20 := bt_at t264 x8_2
         replace p20 := eq_true p20
         replace q20 := eq_true q20
         go_upto_if 52 with (fail)
         go_cut [7] (fun v7 wc => ∃ (kq : Nat) (x7_20 : Int), v7 = .int .i64 x7_20 ∧ Aside0 (tammyref07_Right.j2 kq t264 x7_20 x8_2 = some r) ∧ Aside0 (kq ≤ k2) ∧ Aside0 (Below w.heap.size w wc))
         case first =>
          have H := HC21.out
          clear HC21
          by_cases c22 : (bt t264 x8_2) = 40
          ·rw [if_pos c22] at H
           have c22b0 := beq_iff_eq.mpr c22
           have c22b1 := bne_eq_false_iff_eq.mpr c22
           clear c22
           (first | rw [c22b0] | (simp only [i64_w, i32_w]; rw [c22b0]) | skip)
           have H' := Aside0.mk H
           clear H
           go_wp2
           go_meet
           case rel => exact ⟨_, (wrap64 (x7_2 + 1)), Zz6, H', ⟨by have := HK1.out; have := HK2.out; first | omega | exact Nat.le_refl _⟩, ⟨by repeat (first | (with_reducible first | exact HB.out | apply below_alloc | apply pw_below_drewN | apply below_drew1) | exact HB.out)⟩⟩
          ·rw [if_neg c22] at H
           have c22b0 := beq_eq_false_iff_ne.mpr c22
           have c22b1 := bne_iff_ne.mpr c22
           (first | rw [c22b0] | (simp only [i64_w, i32_w]; rw [c22b0]) | skip)
           have H' := Aside0.mk H
           clear H
           go_wp2
           go_meet
           case rel => exact ⟨_, (x7_2), Zz6, H', ⟨by have := HK1.out; have := HK2.out; first | omega | exact Nat.le_refl _⟩, ⟨by repeat (first | (with_reducible first | exact HB.out | apply below_alloc | apply pw_below_drewN | apply below_drew1) | exact HB.out)⟩⟩
         case rest =>
          clear HC21
          try clear c1
          try clear c2
          try clear c2b0
          try clear p2
          try clear q2
          try clear hx2
          try clear c3
          try clear c3b0
          try clear c5
          try clear p6
          try clear c7
          try clear c7b0
          try clear c9
          try clear c15
          try clear c15b0
          try clear c15b1
          try clear c16
          try clear c17
          try clear c18
          try clear c18b0
          try clear c19
          try clear c19b0
          try clear p20
          try clear q20
          try clear hx20
          try clear c22
          try clear c22b0
          try clear c22b1
          try clear hx258_0
          try clear hx258_1
          try clear hx258_2
          try clear hx260_0
          try clear hx260_1
          try clear hx260_2
          try clear hx262_0
          try clear hx262_1
          try clear hx262_2
          try clear p2
          try clear p20
          try clear p258
          try clear p260
          try clear p262
          try clear p6
          try clear q2
          try clear q20
          try clear q258
          try clear q260
          try clear q262
          obtain ⟨kq, x7_20, rfl, HA, HJ20, HB⟩ := hcut
          cases kq with
          | zero => exact absurd HA.out (by simp [tammyref07_Right.j2])
          | succ kj20 =>
           have H := HA.out
           clear HA
           simp only [tammyref07_Right.j2] at H
           by_cases c23 : 0 ≤ x8_2
           ·rw [if_pos c23] at H
            have c23b0 := decide_eq_true c23
            clear c23
            by_cases c24 : x8_2 < (t264.size : Int)
            ·rw [if_pos c24] at H
             have c24b0 := decide_eq_true c24
             clear c24
             by_cases c26 : (bt t264 x8_2) = 41
             ·rw [if_pos c26] at H
              have c26b0 := beq_iff_eq.mpr c26
              have c26b1 := bne_eq_false_iff_eq.mpr c26
              clear c26
              by_cases c27 : (wrap64 (x7_20 - 1)) > 40
              ·rw [if_pos c27] at H
               have c27b0 : decide (40 < (wrap64 (x7_20 - 1))) = true := decide_eq_true c27
               clear c27
               obtain rfl := Option.some.inj H
               have p25 : 0 ≤ (x8_2 : Int) := of_decide_eq_true Zz1
               have q25 : x8_2 < (t264.size : Int) := of_decide_eq_true Zz1
               have hx25 := bt_at t264 x8_2
               replace p25 := eq_true p25
               replace q25 := eq_true q25
               go_wp2
               go_ret
               exact ⟨by first | rfl | (simp [errW_none, errW_some] <;> rfl) | (simp [*, errW_none, errW_some] <;> rfl), by repeat (first | (with_reducible first | exact HB.out | apply below_alloc | apply pw_below_drewN | apply below_drew1) | exact HB.out)⟩
              ·rw [if_neg c27] at H
               have c27b0 : decide (40 < (wrap64 (x7_20 - 1))) = false := decide_eq_false c27
               clear c27
               have H' := Aside0.mk H
               clear H
               have p25 : 0 ≤ (x8_2 : Int) := of_decide_eq_true Zz1
               have q25 : x8_2 < (t264.size : Int) := of_decide_eq_true Zz1
               have hx25 := bt_at t264 x8_2
               replace p25 := eq_true p25
               replace q25 := eq_true q25
               go_wp2
               go_roundg kj20
               case measure => have := HK1.out; have := HK2.out; have := HJ20.out; omega
               case rel => exact ⟨(wrap64 (x7_20 - 1)), (wrap64 (x8_2 + 1)), Zz6, Zz6, H', ⟨by have := HK1.out; have := HK2.out; have := HJ20.out; omega⟩, ⟨by repeat (first | (with_reducible first | exact HB.out | apply below_alloc | apply pw_below_drewN | apply below_drew1) | exact HB.out)⟩⟩
             ·rw [if_neg c26] at H
              have c26b0 := beq_eq_false_iff_ne.mpr c26
              have c26b1 := bne_iff_ne.mpr c26
              by_cases c28 : x7_20 > 40
              ·rw [if_pos c28] at H
               have c28b0 : decide (40 < x7_20) = true := decide_eq_true c28
               clear c28
               obtain rfl := Option.some.inj H
               have p25 : 0 ≤ (x8_2 : Int) := of_decide_eq_true Zz1
               have q25 : x8_2 < (t264.size : Int) := of_decide_eq_true Zz1
               have hx25 := bt_at t264 x8_2
               replace p25 := eq_true p25
               replace q25 := eq_true q25
               go_wp2
               go_ret
               exact ⟨by first | rfl | (simp [errW_none, errW_some] <;> rfl) | (simp [*, errW_none, errW_some] <;> rfl), by repeat (first | (with_reducible first | exact HB.out | apply below_alloc | apply pw_below_drewN | apply below_drew1) | exact HB.out)⟩
              ·rw [if_neg c28] at H
               have c28b0 : decide (40 < x7_20) = false := decide_eq_false c28
               clear c28
               have H' := Aside0.mk H
               clear H
               have p25 : 0 ≤ (x8_2 : Int) := of_decide_eq_true Zz1
               have q25 : x8_2 < (t264.size : Int) := of_decide_eq_true Zz1
               have hx25 := bt_at t264 x8_2
               replace p25 := eq_true p25
               replace q25 := eq_true q25
               go_wp2
               go_roundg kj20
               case measure => have := HK1.out; have := HK2.out; have := HJ20.out; omega
               case rel => exact ⟨(x7_20), (wrap64 (x8_2 + 1)), Zz6, Zz6, H', ⟨by have := HK1.out; have := HK2.out; have := HJ20.out; omega⟩, ⟨by repeat (first | (with_reducible first | exact HB.out | apply below_alloc | apply pw_below_drewN | apply below_drew1) | exact HB.out)⟩⟩
            ·rw [if_neg c24] at H
             exact absurd H (by simp)
           ·rw [if_neg c23] at H
            exact absurd H (by simp)
        ·rw [if_neg c19] at H
         exact absurd H (by simp)
       ·rw [if_neg c18] at H
        have c18b0 := decide_eq_false c18
        clear c18
        obtain rfl := Option.some.inj H
        go_wp2
        go_ret
        exact ⟨by first | rfl | (simp [errW_none, errW_some] <;> rfl) | (simp [*, errW_none, errW_some] <;> rfl), by repeat (first | (with_reducible first | exact HB.out | apply below_alloc | apply pw_below_drewN | apply below_drew1) | exact HB.out)⟩
    ·rw [if_neg c15] at H
     have c15b0 := beq_eq_false_iff_ne.mpr c15
     have c15b1 := bne_iff_ne.mpr c15
     obtain rfl := Option.some.inj H
     go_wp2
     go_ret
     exact ⟨by first | rfl | (simp [errW_none, errW_some] <;> rfl) | (simp [*, errW_none, errW_some] <;> rfl), by repeat (first | (with_reducible first | exact HB.out | apply below_alloc | apply pw_below_drewN | apply below_drew1) | exact HB.out)⟩
end Go.Proofs.YtniaooodlccmcaaGreatDoor.Q

