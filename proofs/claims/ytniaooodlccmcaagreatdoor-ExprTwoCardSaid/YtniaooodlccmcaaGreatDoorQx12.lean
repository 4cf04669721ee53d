import Derived.Test.YtniaooodlccmcaaGreatDoorDz
import Derived.Test.YtniaooodlccmcaaGreatDoorQx0
import Derived.Test.YtniaooodlccmcaaGreatDoorQx10
import Derived.Test.YtniaooodlccmcaaGreatDoorQx11
namespace Go.Proofs.YtniaooodlccmcaaGreatDoor.Q
open Go.RowKit Go.Proofs.YtniaooodlccmcaaGreatDoorW.PrintWords Go.Proofs.YtniaooodlccmcaaGreatDoorW.PrintLast Go.Proofs.YtniaooodlccmcaaGreatDoorW.PrintMore
attribute [local go_sem] max2_int min2_int max_two min_two max_three min_three max_four min_four
set_option linter.unusedVariables false
set_option linter.unusedSimpArgs false
mutual
def tammyref07_Text.l0 : Nat → List (S38) → List Int → List ByteArray → Int → Option (ByteArray)
 | 0, _, _, _, _ => none
 | k + 1, x0, x3, x4, x5 => if x5 < (x0.length : Int) then (if 0 ≤ x5 then ((tammyref07_Kids.f k x0 x3 x5).bind fun t216 => (if ((rd_T38 x0 x5).f0) = 0 then (if x4.length < 8796093022208 then (tammyref07_Text.l0 k x0 x3 (x4 ++ [(⟨#[48]⟩ : ByteArray)]) (wrap64 (x5 + 1))) else (none)) else (if ((rd_T38 x0 x5).f0) = 1 then (if x4.length < 8796093022208 then (tammyref07_Text.l0 k x0 x3 (x4 ++ [(⟨#[49]⟩ : ByteArray)]) (wrap64 (x5 + 1))) else (none)) else (if ((rd_T38 x0 x5).f0) = 3 then (tammyref07_Text.l1 k x0 x3 x4 x5 t216 ((rd_T38 x0 x5).f1) 0) else (if ((rd_T38 x0 x5).f0) = 4 then (if 0 < (t216.length : Int) then ((tammyref07_side.f x0 x4 (rd t216 0) 4 true).bind fun t236 => (if t236.size + 1 ≤ 9223372036854775807 then (if 1 < (t216.length : Int) then ((tammyref07_side.f x0 x4 (rd t216 1) 4 false).bind fun t238 => (if (t236 ++ (⟨#[124]⟩ : ByteArray)).size + t238.size ≤ 9223372036854775807 then (if x4.length < 8796093022208 then (tammyref07_Text.l0 k x0 x3 (x4 ++ [(t236 ++ (⟨#[124]⟩ : ByteArray)) ++ t238]) (wrap64 (x5 + 1))) else (none)) else (none))) else (none)) else (none))) else (none)) else (if ((rd_T38 x0 x5).f0) = 5 then (if 0 < (t216.length : Int) then ((tammyref07_side.f x0 x4 (rd t216 0) 5 true).bind fun t243 => (if t243.size + 1 ≤ 9223372036854775807 then (if 1 < (t216.length : Int) then ((tammyref07_side.f x0 x4 (rd t216 1) 5 false).bind fun t245 => (if (t243 ++ (⟨#[38]⟩ : ByteArray)).size + t245.size ≤ 9223372036854775807 then (if x4.length < 8796093022208 then (tammyref07_Text.l0 k x0 x3 (x4 ++ [(t243 ++ (⟨#[38]⟩ : ByteArray)) ++ t245]) (wrap64 (x5 + 1))) else (none)) else (none))) else (none)) else (none))) else (none)) else (if ((rd_T38 x0 x5).f0) = 6 then (if ((rd_T38 x0 x5).f1).size + 1 ≤ 9223372036854775807 then ((tammyref07_figure.f ((rd_T38 x0 x5).f2)).bind fun t249 => (if (((rd_T38 x0 x5).f1) ++ (⟨#[126]⟩ : ByteArray)).size + t249.size ≤ 9223372036854775807 then (if ((((rd_T38 x0 x5).f1) ++ (⟨#[126]⟩ : ByteArray)) ++ t249).size + 1 ≤ 9223372036854775807 then (if 0 < (t216.length : Int) then (if 0 ≤ (rd t216 0) then (if (rd t216 0) < (x4.length : Int) then (if (((((rd_T38 x0 x5).f1) ++ (⟨#[126]⟩ : ByteArray)) ++ t249) ++ (⟨#[40]⟩ : ByteArray)).size + (rdOf ByteArray.empty x4 (rd t216 0)).size ≤ 9223372036854775807 then (if ((((((rd_T38 x0 x5).f1) ++ (⟨#[126]⟩ : ByteArray)) ++ t249) ++ (⟨#[40]⟩ : ByteArray)) ++ (rdOf ByteArray.empty x4 (rd t216 0))).size + 1 ≤ 9223372036854775807 then (if x4.length < 8796093022208 then (tammyref07_Text.l0 k x0 x3 (x4 ++ [((((((rd_T38 x0 x5).f1) ++ (⟨#[126]⟩ : ByteArray)) ++ t249) ++ (⟨#[40]⟩ : ByteArray)) ++ (rdOf ByteArray.empty x4 (rd t216 0))) ++ (⟨#[41]⟩ : ByteArray)]) (wrap64 (x5 + 1))) else (none)) else (none)) else (none)) else (none)) else (none)) else (none)) else (none)) else (none))) else (none)) else (if x4.length < 8796093022208 then (tammyref07_Text.l0 k x0 x3 (x4 ++ [(rd_T38 x0 x5).f1]) (wrap64 (x5 + 1))) else (none))))))))) else (none)) else (if 0 ≤ (wrap64 ((x0.length : Int) - 1)) then (if (wrap64 ((x0.length : Int) - 1)) < (x4.length : Int) then (some (rdOf ByteArray.empty x4 (wrap64 ((x0.length : Int) - 1)))) else (none)) else (none))
def tammyref07_Text.l1 : Nat → List (S38) → List Int → List ByteArray → Int → List Int → ByteArray → Int → Option (ByteArray)
 | 0, _, _, _, _, _, _, _ => none
 | k + 1, x0, x3, x4, x5, x7, x8, x9 => if x9 < (x7.length : Int) then (if x9 = 0 then (if x8.size + 1 ≤ 9223372036854775807 then (if 0 ≤ x9 then (if 0 ≤ (rd x7 x9) then (if (rd x7 x9) < (x4.length : Int) then (if (x8 ++ (⟨#[40]⟩ : ByteArray)).size + (rdOf ByteArray.empty x4 (rd x7 x9)).size ≤ 9223372036854775807 then (tammyref07_Text.l1 k x0 x3 x4 x5 x7 ((x8 ++ (⟨#[40]⟩ : ByteArray)) ++ (rdOf ByteArray.empty x4 (rd x7 x9))) (wrap64 (x9 + 1))) else (none)) else (none)) else (none)) else (none)) else (none)) else (if x8.size + 1 ≤ 9223372036854775807 then (if 0 ≤ x9 then (if 0 ≤ (rd x7 x9) then (if (rd x7 x9) < (x4.length : Int) then (if (x8 ++ (⟨#[44]⟩ : ByteArray)).size + (rdOf ByteArray.empty x4 (rd x7 x9)).size ≤ 9223372036854775807 then (tammyref07_Text.l1 k x0 x3 x4 x5 x7 ((x8 ++ (⟨#[44]⟩ : ByteArray)) ++ (rdOf ByteArray.empty x4 (rd x7 x9))) (wrap64 (x9 + 1))) else (none)) else (none)) else (none)) else (none)) else (none))) else (if (x7.length : Int) > 0 then (if x8.size + 1 ≤ 9223372036854775807 then (if x4.length < 8796093022208 then (tammyref07_Text.l0 k x0 x3 (x4 ++ [x8 ++ (⟨#[41]⟩ : ByteArray)]) (wrap64 (x5 + 1))) else (none)) else (none)) else (if x4.length < 8796093022208 then (tammyref07_Text.l0 k x0 x3 (x4 ++ [x8]) (wrap64 (x5 + 1))) else (none)))
end
def tammyref07_Text.f (k : Nat) (l0 : List (S38)) : Option (ByteArray) := (tammyref07_Starts.f k l0).bind fun t210 => (tammyref07_Text.l0 k l0 t210 ([] : List ByteArray) 0)
theorem tammyref07_Text.mono_l : ∀ k, (∀ y0 y1 y2 y3, LeO (tammyref07_Text.l0 k y0 y1 y2 y3) (tammyref07_Text.l0 (k + 1) y0 y1 y2 y3)) ∧ (∀ y0 y1 y2 y3 y4 y5 y6, LeO (tammyref07_Text.l1 k y0 y1 y2 y3 y4 y5 y6) (tammyref07_Text.l1 (k + 1) y0 y1 y2 y3 y4 y5 y6))
 | 0 => ⟨fun _ _ _ _ r h => by simp [tammyref07_Text.l0] at h, fun _ _ _ _ _ _ _ r h => by simp [tammyref07_Text.l1] at h⟩
 | k + 1 => by
  obtain ⟨ih0, ih1⟩ := tammyref07_Text.mono_l k
  refine ⟨?_, ?_⟩
  ·intro y0 y1 y2 y3
   unfold tammyref07_Text.l0
   repeat' first
   | (with_reducible exact ih0 _ _ _ _)
   | (with_reducible exact ih1 _ _ _ _ _ _ _)
   | (with_reducible exact tammyref07_Kids.mono _ _ _ _)
   | (with_reducible exact tammyref07_Starts.mono _ _)
   | (with_reducible exact LeO.refl _)
   | (with_reducible exact LeO.none _)
   | (with_reducible refine LeO.ite ?_ ?_)
   | (with_reducible refine LeO.bind ?_ (fun _ => ?_))
   | exact ih0 _ _ _ _
   | exact ih1 _ _ _ _ _ _ _
   | exact tammyref07_Kids.mono _ _ _ _
   | exact tammyref07_Starts.mono _ _
   | exact LeO.none _
   | refine LeO.ite ?_ ?_
   | refine LeO.bind ?_ (fun _ => ?_)
  ·intro y0 y1 y2 y3 y4 y5 y6
   unfold tammyref07_Text.l1
   repeat' first
   | (with_reducible exact ih0 _ _ _ _)
   | (with_reducible exact ih1 _ _ _ _ _ _ _)
   | (with_reducible exact tammyref07_Kids.mono _ _ _ _)
   | (with_reducible exact tammyref07_Starts.mono _ _)
   | (with_reducible exact LeO.refl _)
   | (with_reducible exact LeO.none _)
   | (with_reducible refine LeO.ite ?_ ?_)
   | (with_reducible refine LeO.bind ?_ (fun _ => ?_))
   | exact ih0 _ _ _ _
   | exact ih1 _ _ _ _ _ _ _
   | exact tammyref07_Kids.mono _ _ _ _
   | exact tammyref07_Starts.mono _ _
   | exact LeO.none _
   | refine LeO.ite ?_ ?_
   | refine LeO.bind ?_ (fun _ => ?_)
theorem tammyref07_Text.mono : ∀ a0 k, LeO (tammyref07_Text.f k a0) (tammyref07_Text.f (k + 1) a0) := by
 intro a0 k
 obtain ⟨ih0, ih1⟩ := tammyref07_Text.mono_l k
 unfold tammyref07_Text.f
 repeat' first
   | (with_reducible exact ih0 _ _ _ _)
   | (with_reducible exact ih1 _ _ _ _ _ _ _)
   | (with_reducible exact tammyref07_Kids.mono _ _ _ _)
   | (with_reducible exact tammyref07_Starts.mono _ _)
   | (with_reducible exact LeO.refl _)
   | (with_reducible exact LeO.none _)
   | (with_reducible refine LeO.ite ?_ ?_)
   | (with_reducible refine LeO.bind ?_ (fun _ => ?_))
   | exact ih0 _ _ _ _
   | exact ih1 _ _ _ _ _ _ _
   | exact tammyref07_Kids.mono _ _ _ _
   | exact tammyref07_Starts.mono _ _
   | exact LeO.none _
   | refine LeO.ite ?_ ?_
   | refine LeO.bind ?_ (fun _ => ?_)
def tammyref07_Text.T25 : Bool × List (List Nat × List Nat) := (true, [([], []), ([], []), ([], []), ([2], [2]), ([3], [3]), ([0, 1, 4], [0, 1, 4]), ([5], [5]), ([], []), ([], []), ([], []), ([9], [9]), ([10], [10]), ([7, 8, 11, 5], [7, 8, 11]), ([6, 12], [6, 12]), ([13, 12, 0, 1, 2, 3, 4, 5, 6, 7, 8, 9, 10, 11, 12, 13], [13])])
def tammyref07_Text.B25 : List Nat := [0, 0, 0, 4, 12, 31, 63, 0, 0, 0, 512, 1536, 4031, 8191, 16383]
theorem tammyref07_Text.tab25 : rtab .any (opsOf Tryz.f18 25) = tammyref07_Text.T25 := by kernel_rfl
theorem tammyref07_Text.bits25 : waitsOk tammyref07_Text.T25.2 tammyref07_Text.B25 = true := by kernel_rfl
def tammyref07_Text.T27 : Bool × List (List Nat × List Nat) := (true, [([], []), ([], []), ([], []), ([2], [2]), ([3], [3]), ([0, 1, 4], [0, 1, 4]), ([5], [5]), ([], []), ([], []), ([], []), ([9], [9]), ([10], [10]), ([7, 8, 11, 5], [7, 8, 11]), ([6, 12], [6, 12]), ([13, 12, 0, 1, 2, 3, 4, 5, 6, 7, 8, 9, 10, 11, 12, 13], [13])])
def tammyref07_Text.B27 : List Nat := [0, 0, 0, 4, 12, 31, 63, 0, 0, 0, 512, 1536, 4031, 8191, 16383]
theorem tammyref07_Text.tab27 : rtab .any (opsOf Tryz.f18 27) = tammyref07_Text.T27 := by kernel_rfl
theorem tammyref07_Text.bits27 : waitsOk tammyref07_Text.T27.2 tammyref07_Text.B27 = true := by kernel_rfl
def tammyref07_Text.T29 : Bool × List (List Nat × List Nat) := (true, [([], []), ([0], [0]), ([], []), ([2], [2]), ([3], [3]), ([1, 4], [1, 4]), ([5], [5]), ([], []), ([], []), ([8], [8]), ([9], [9]), ([7, 10], [7, 10]), ([11], [11]), ([6, 12], [6, 12]), ([13], [13]), ([14, 4, 0, 1, 2, 3, 4, 5, 6, 7, 8, 9, 10, 11, 12, 13, 14], [0, 14])])
def tammyref07_Text.B29 : List Nat := [0, 1, 0, 4, 12, 31, 63, 0, 0, 256, 768, 1920, 3968, 8191, 16383, 32767]
theorem tammyref07_Text.tab29 : rtab .any (opsOf Tryz.f18 29) = tammyref07_Text.T29 := by kernel_rfl
theorem tammyref07_Text.bits29 : waitsOk tammyref07_Text.T29.2 tammyref07_Text.B29 = true := by kernel_rfl
set_option maxHeartbeats 8000000 in
set_option maxRecDepth 100000 in
theorem tammyref07_Text.calls (k : Nat) (A0 : Option Addr) (c0 : Nat) (l0 : List (S38)) (r : ByteArray) (w : World) (hr0 : Kd.C k38 w A0 l0.length l0) (hc0 : l0.length ≤ c0) (h : tammyref07_Text.f k l0 = some r) :
  Calls Tryz.prog 18 #[.slice A0 l0.length c0] w fun e w' => e = .returned (.string r) ∧ Below w.heap.size w w' := by
 have hu38 := Tryz.underlying38
 have HR0 := Aside0.mk hr0
 have HC0 := Aside0.mk hc0
 clear hr0 hc0
 have HB := Aside0.mk (Below.refl w.heap.size w)
 have H : ((tammyref07_Starts.f k l0).bind fun t210 => (tammyref07_Text.l0 k l0 t210 ([] : List ByteArray) 0)) = some r := h
 clear h
 replace H := Option.bind_eq_some_iff.mp H
 obtain ⟨t210, A20, H⟩ := H
 replace H : (tammyref07_Text.l0 k l0 t210 ([] : List ByteArray) 0) = some r := H
 have A2 := Aside0.mk A20
 clear A20
 have H' := Aside0.mk H
 clear H
 go_enter Tryz.func18, Tryz.ntmps18
 go_wp2_with (first | ((with_reducible refine gate_callee (f := 28) rfl ?_); refine goesL_ (some 11) rfl rfl Tryz.func28 (by kernel_rfl) rfl #[.slice A0 l0.length c0] rfl Zz2 ?_; (with_reducible refine (tammyref07_Starts.calls k _ _ l0 t210 _ ?side1 ?side2 A2.out).mono ?_); (case side1 => repeat (first | exact HR0.out | (with_reducible refine Kd.C_alloc ?_ _) | (with_reducible refine Kd.C_drewN ?_ _) | (with_reducible refine Kd.C_drew ?_))); (case side2 => exact HC0.out); rintro e w3 ⟨v211, rfl, ho0, hb⟩; refine ⟨_, rfl, ?_⟩; have n0_ := Aside0.mk (Kd.R_lower ho0 (below_size Zz0)); have n1_ := Aside0.mk (below_step Zz0 hb); clear HB; have HO212 := n0_; have HB := n1_; clear n0_ n1_; (try clear hb); (try clear hb2); (try clear hk); (try clear hi); (try clear ho0)))
 go_loopg [4, 5] k (fun kq v4 v5 w' => ∃ (x4_1 : List ByteArray) (x5_1 : Int), v5 = .int .i64 x5_1 ∧ Aside0 (tammyref07_Text.l0 kq l0 t210 x4_1 x5_1 = some r) ∧ Aside0 (kq ≤ k) ∧ Aside0 (Kd.R (Kd.int .i64) 3 w' w.heap.size (fun _ => True) v211 t210) ∧ Aside0 (Kd.R Kd.string 9 w' w.heap.size (fun _ => True) v4 x4_1) ∧ Aside0 (Below w.heap.size w w'))
 case atStart => exact ⟨(([] : List ByteArray)), (0), Zz6, H', ⟨Nat.le_refl _⟩, ⟨by (with_reducible repeat (first | apply Kd.R_alloc | apply Kd.R_drewN | apply Kd.R_drew)); exact HO212.out⟩, ⟨by first | exact Kd.R_nil _ _ _ _ _ | exact Kd.N_nil _ _ _ _ _ | exact Kd.V_nil _ _ _ _ _ | exact Kd.Q_nil _ _ _ _ _ | exact Kd.S_nil _ _ _ _ _⟩, ⟨by repeat (first | (with_reducible first | exact HB.out | apply below_alloc | apply pw_below_drewN | apply below_drew1) | exact HB.out)⟩⟩
 case round =>
  clear H'
  try clear c1
  try clear c2
  try clear p2
  obtain ⟨x4_1, x5_1, rfl, HA, HK1, HO_3, HO_4, HB⟩ := hrel
  cases gk with
  | zero => exact absurd HA.out (by simp [tammyref07_Text.l0])
  | succ k1 =>
   have H := HA.out
   clear HA
   simp only [tammyref07_Text.l0] at H
   by_cases c4 : x5_1 < (l0.length : Int)
   ·rw [if_pos c4] at H
    have c4b0 := decide_eq_true c4
    clear c4
    by_cases c5 : 0 ≤ x5_1
    ·rw [if_pos c5] at H
     have c5b0 := decide_eq_true c5
     clear c5
     replace H := Option.bind_eq_some_iff.mp H
     obtain ⟨t216, A60, H⟩ := H
     replace H : (if ((rd_T38 l0 x5_1).f0) = 0 then (if x4_1.length < 8796093022208 then (tammyref07_Text.l0 k1 l0 t210 (x4_1 ++ [(⟨#[48]⟩ : ByteArray)]) (wrap64 (x5_1 + 1))) else (none)) else (if ((rd_T38 l0 x5_1).f0) = 1 then (if x4_1.length < 8796093022208 then (tammyref07_Text.l0 k1 l0 t210 (x4_1 ++ [(⟨#[49]⟩ : ByteArray)]) (wrap64 (x5_1 + 1))) else (none)) else (if ((rd_T38 l0 x5_1).f0) = 3 then (tammyref07_Text.l1 k1 l0 t210 x4_1 x5_1 t216 ((rd_T38 l0 x5_1).f1) 0) else (if ((rd_T38 l0 x5_1).f0) = 4 then (if 0 < (t216.length : Int) then ((tammyref07_side.f l0 x4_1 (rd t216 0) 4 true).bind fun t236 => (if t236.size + 1 ≤ 9223372036854775807 then (if 1 < (t216.length : Int) then ((tammyref07_side.f l0 x4_1 (rd t216 1) 4 false).bind fun t238 => (if (t236 ++ (⟨#[124]⟩ : ByteArray)).size + t238.size ≤ 9223372036854775807 then (if x4_1.length < 8796093022208 then (tammyref07_Text.l0 k1 l0 t210 (x4_1 ++ [(t236 ++ (⟨#[124]⟩ : ByteArray)) ++ t238]) (wrap64 (x5_1 + 1))) else (none)) else (none))) else (none)) else (none))) else (none)) else (if ((rd_T38 l0 x5_1).f0) = 5 then (if 0 < (t216.length : Int) then ((tammyref07_side.f l0 x4_1 (rd t216 0) 5 true).bind fun t243 => (if t243.size + 1 ≤ 9223372036854775807 then (if 1 < (t216.length : Int) then ((tammyref07_side.f l0 x4_1 (rd t216 1) 5 false).bind fun t245 => (if (t243 ++ (⟨#[38]⟩ : ByteArray)).size + t245.size ≤ 9223372036854775807 then (if x4_1.length < 8796093022208 then (tammyref07_Text.l0 k1 l0 t210 (x4_1 ++ [(t243 ++ (⟨#[38]⟩ : ByteArray)) ++ t245]) (wrap64 (x5_1 + 1))) else (none)) else (none))) else (none)) else (none))) else (none)) else (if ((rd_T38 l0 x5_1).f0) = 6 then (if ((rd_T38 l0 x5_1).f1).size + 1 ≤ 9223372036854775807 then ((tammyref07_figure.f ((rd_T38 l0 x5_1).f2)).bind fun t249 => (if (((rd_T38 l0 x5_1).f1) ++ (⟨#[126]⟩ : ByteArray)).size + t249.size ≤ 9223372036854775807 then (if ((((rd_T38 l0 x5_1).f1) ++ (⟨#[126]⟩ : ByteArray)) ++ t249).size + 1 ≤ 9223372036854775807 then (if 0 < (t216.length : Int) then (if 0 ≤ (rd t216 0) then (if (rd t216 0) < (x4_1.length : Int) then (if (((((rd_T38 l0 x5_1).f1) ++ (⟨#[126]⟩ : ByteArray)) ++ t249) ++ (⟨#[40]⟩ : ByteArray)).size + (rdOf ByteArray.empty x4_1 (rd t216 0)).size ≤ 9223372036854775807 then (if ((((((rd_T38 l0 x5_1).f1) ++ (⟨#[126]⟩ : ByteArray)) ++ t249) ++ (⟨#[40]⟩ : ByteArray)) ++ (rdOf ByteArray.empty x4_1 (rd t216 0))).size + 1 ≤ 9223372036854775807 then (if x4_1.length < 8796093022208 then (tammyref07_Text.l0 k1 l0 t210 (x4_1 ++ [((((((rd_T38 l0 x5_1).f1) ++ (⟨#[126]⟩ : ByteArray)) ++ t249) ++ (⟨#[40]⟩ : ByteArray)) ++ (rdOf ByteArray.empty x4_1 (rd t216 0))) ++ (⟨#[41]⟩ : ByteArray)]) (wrap64 (x5_1 + 1))) else (none)) else (none)) else (none)) else (none)) else (none)) else (none)) else (none)) else (none))) else (none)) else (if x4_1.length < 8796093022208 then (tammyref07_Text.l0 k1 l0 t210 (x4_1 ++ [(rd_T38 l0 x5_1).f1]) (wrap64 (x5_1 + 1))) else (none)))))))) = some r := H
     have A6 := Aside0.mk A60
     clear A60
     by_cases c7 : ((rd_T38 l0 x5_1).f0) = 0
     ·rw [if_pos c7] at H
      have c7b0 := beq_iff_eq.mpr c7
      have c7b1 := bne_eq_false_iff_eq.mpr c7
      clear c7
      by_cases c8 : x4_1.length < 8796093022208
      ·rw [if_pos c8] at H
       have LMc8 := Aside0.mk c8
       clear c8
       obtain ⟨y219, hy219⟩ : ∃ y_ : List ByteArray, y_ = (x4_1 ++ [(⟨#[48]⟩ : ByteArray)]) := ⟨_, rfl⟩
       replace H : (tammyref07_Text.l0 k1 l0 t210 y219 (wrap64 (x5_1 + 1))) = some r := by first | (rw [hy219]; with_reducible exact H) | (have H2_ := (Option.bind_some _ _).symm.trans H; rw [hy219]; with_reducible exact H2_) | (have H2_ := (Option.bind_some _ _).symm.trans H; with_reducible exact H2_) | with_reducible exact H | (rw [hy219]; exact H) | exact H
       have Ny219 := Aside0.mk hy219
       clear hy219
       have H' := Aside0.mk H
       clear H
       have p214 : 0 ≤ (x5_1 : Int) := of_decide_eq_true Zz1
       have q214 : x5_1 < (l0.length : Int) := of_decide_eq_true Zz1
       obtain ⟨ad214, e214, hx214_0, hx214_1, hx214_2⟩ := at_T38 HR0.out x5_1 p214 q214
       cases e214
       replace hx214_0 := (HB.out.cell (World.block_lt_of_cell? w _ hx214_0)).trans hx214_0
       replace hx214_1 := (HB.out.cell (World.block_lt_of_cell? w _ hx214_1)).trans hx214_1
       replace hx214_2 := (HB.out.cell (World.block_lt_of_cell? w _ hx214_2)).trans hx214_2
       replace p214 := eq_true p214
       replace q214 := eq_true q214
       go_wp2_with (first | ((with_reducible refine gate_dst (N := 6) rfl ?_); refine box_event ?hg (N := 6) ?hd (cs := #[.int .i64 0, .string (⟨#[]⟩ : ByteArray), .int .i64 0]) (t := 38) ?hr ?_; (case hd => rfl); (case hg => rfl); (case hr => first | (go_simp; done) | (go_simp; rfl)); intro gb215 hg w9 hbox hb; have n0_ := Aside0.mk (Kd.R_below (Zz31 HO_3.out) hb); have n1_ := Aside0.mk (Kd.R_below (Zz31 HO_4.out) hb); have n2_ := Aside0.mk (below_step Zz0 hb); have n3_ := Aside0.mk (hbox); have n4_ := Aside0.mk ((Zz4 : w.heap.size ≤ gb215)); have n5_ := Aside0.mk ((Zz4 : w.heap.size ≤ gb215)); clear HO_3; clear HO_4; clear HB; have HO_3 := n0_; have HO_4 := n1_; have HB := n2_; have BK215 := n3_; have GW215 := n4_; have GE215 := n5_; clear n0_ n1_ n2_ n3_ n4_ n5_; clear hb hbox hg; have hcz10_0 : w9.cell? ⟨gb215, 0, none⟩ = some (.int .i64 0) := (blk_cell BK215.out 0).trans rfl; have hcz10_1 : w9.cell? ⟨gb215, 1, none⟩ = some (.string (⟨#[]⟩ : ByteArray)) := (blk_cell BK215.out 1).trans rfl; have hcz10_2 : w9.cell? ⟨gb215, 2, none⟩ = some (.int .i64 0) := (blk_cell BK215.out 2).trans rfl; have hfz10_0 := blk_frozen BK215.out 0; have hfz10_1 := blk_frozen BK215.out 1; have hfz10_2 := blk_frozen BK215.out 2; obtain ⟨Ao11, co11, eo11⟩ := Kd.R_slice HO_3.out; subst eo11) | ((with_reducible refine gate_callee (f := 29) rfl ?_); refine goesL_ (some 25) rfl rfl Tryz.func29 (by kernel_rfl) rfl #[.slice (some ad214) l0.length c0, .slice Ao11 t210.length co11, .int .i64 x5_1] rfl Zz2 ?_; (with_reducible refine (tammyref07_Kids.calls k1 _ _ l0 _ _ t210 x5_1 t216 _ ?side1 ?side2 ?side3 ?side4 A6.out).mono ?_); (case side1 => exact Kd.C_below HR0.out Zz5); (case side2 => exact HC0.out); (case side3 => refine (Kd.R_reads' (e := 3) (base := w.heap.size) (ok := fun k_ => True) (n := t210.length) (c := co11) ?_).2.2; exact Zz3); (case side4 => exact (Kd.R_reads' HO_3.out).2.1); rintro e w12 ⟨v217, rfl, ho0, hb⟩; refine ⟨_, rfl, ?_⟩; have n0_ := Aside0.mk (Kd.R_elder' Zz3 (Kd.R_base ho0) hb); have n1_ := Aside0.mk (Kd.R_below Zz8 hb); have n2_ := Aside0.mk (Kd.R_lower (Kd.R_new' ho0 (Kd.R_lt Zz3)) (below_size Zz5)); have n3_ := Aside0.mk (blk_below (g := gb215) (o := .cells #[.int .i64 ((rd_T38 l0 x5_1).f0), .string ((rd_T38 l0 x5_1).f1), .int .i64 ((rd_T38 l0 x5_1).f2)] 38 (0, 0)) Zz7 hb); have n4_ := Aside0.mk (below_step Zz5 hb); clear HO_3; clear HO_4; clear BK215; clear HB; have HO_3 := n0_; have HO_4 := n1_; have HO218 := n2_; have BK215 := n3_; have HB := n4_; clear n0_ n1_ n2_ n3_ n4_; (try clear hb); (try clear hb2); (try clear hk); (try clear hi); (try clear ho0); have hcz13_0 : w12.cell? ⟨gb215, 0, none⟩ = some (.int .i64 ((rd_T38 l0 x5_1).f0)) := (blk_cell BK215.out 0).trans rfl; have hcz13_1 : w12.cell? ⟨gb215, 1, none⟩ = some (.string ((rd_T38 l0 x5_1).f1)) := (blk_cell BK215.out 1).trans rfl; have hcz13_2 : w12.cell? ⟨gb215, 2, none⟩ = some (.int .i64 ((rd_T38 l0 x5_1).f2)) := (blk_cell BK215.out 2).trans rfl; have hfz13_0 := blk_frozen BK215.out 0; have hfz13_1 := blk_frozen BK215.out 1; have hfz13_2 := blk_frozen BK215.out 2) | ((with_reducible refine gate_builtin (b := .append) (xs := #[.tmp 111, .tmp 113]) rfl ?_); at_builtin; refine Kd.R_append Kd.string (w0 := w) w.heap.size rfl (.tmp 111) (.tmp 113) 56 9 (.string ⟨#[]⟩) 16 rfl Tryz.underlying56 info9 rfl (by decide) (by omega) u4 x4_1 (⟨#[48]⟩ : ByteArray) [.string (⟨#[48]⟩ : ByteArray)] (fun _ => True) (fun _ => False) rfl rfl ?aP (fun _ hk => hk.elim) ?aF ?aO ?aB ?aS ?aL ?_; (case aP => exact rfl); (case aB => exact Zz5); (case aF => exact (fun _ _ => trivial)); (case aO => exact (Zz31 HO_4.out)); (case aS => exact (below_size Zz5)); (case aL => have := LMc8.out; omega); intro v220 w14 ho hb hg hat; rw [← Ny219.out] at ho; have n0_ := Aside0.mk (Kd.R_over' (Zz31 HO_3.out) (Kd.R_typed (Zz31 HO_4.out)) (by decide) hg); have n1_ := Aside0.mk (blk_grown (g := gb215) (o := .cells #[.int .i64 ((rd_T38 l0 x5_1).f0), .string ((rd_T38 l0 x5_1).f1), .int .i64 ((rd_T38 l0 x5_1).f2)] 38 (0, 0)) (Zz33 BK215.out) hg (Kd.R_ne HO_4.out BK215.out (by decide))); have n2_ := Aside0.mk (Kd.R_over' (Zz31 HO218.out) (Kd.R_typed (Zz31 HO_4.out)) (by decide) hg); have n3_ := Aside0.mk (hb); have n4_ := Aside0.mk (ho); clear HO_3; clear BK215; clear HO218; clear HB; clear HO_4; have HO_3 := n0_; have BK215 := n1_; have HO218 := n2_; have HB := n3_; have HO221 := n4_; clear n0_ n1_ n2_ n3_ n4_; clear ho hb hg hat))
       go_roundg k1
       case measure => have := HK1.out; omega
       case rel => exact ⟨(y219), (wrap64 (x5_1 + 1)), Zz6, H', ⟨by have := HK1.out; omega⟩, ⟨by (with_reducible repeat (first | apply Kd.R_alloc | apply Kd.R_drewN | apply Kd.R_drew)); exact Kd.R_mono HO_3.out (fun _ hk => trivial)⟩, ⟨by (with_reducible repeat (first | apply Kd.R_alloc | apply Kd.R_drewN | apply Kd.R_drew)); exact HO221.out⟩, ⟨by repeat (first | (with_reducible first | exact HB.out | apply below_alloc | apply pw_below_drewN | apply below_drew1 | refine below_set ?_ GE215.out) | exact HB.out)⟩⟩
      ·rw [if_neg c8] at H
       exact absurd H (by simp)
     ·rw [if_neg c7] at H
      have c7b0 := beq_eq_false_iff_ne.mpr c7
      have c7b1 := bne_iff_ne.mpr c7
      by_cases c15 : ((rd_T38 l0 x5_1).f0) = 1
      ·rw [if_pos c15] at H
       have c15b0 := beq_iff_eq.mpr c15
       have c15b1 := bne_eq_false_iff_eq.mpr c15
       clear c15
       by_cases c16 : x4_1.length < 8796093022208
       ·rw [if_pos c16] at H
        have LMc16 := Aside0.mk c16
        clear c16
        obtain ⟨y222, hy222⟩ : ∃ y_ : List ByteArray, y_ = (x4_1 ++ [(⟨#[49]⟩ : ByteArray)]) := ⟨_, rfl⟩
        replace H : (tammyref07_Text.l0 k1 l0 t210 y222 (wrap64 (x5_1 + 1))) = some r := by first | (rw [hy222]; with_reducible exact H) | (have H2_ := (Option.bind_some _ _).symm.trans H; rw [hy222]; with_reducible exact H2_) | (have H2_ := (Option.bind_some _ _).symm.trans H; with_reducible exact H2_) | with_reducible exact H | (rw [hy222]; exact H) | exact H
        have Ny222 := Aside0.mk hy222
        clear hy222
        have H' := Aside0.mk H
        clear H
        have p214 : 0 ≤ (x5_1 : Int) := of_decide_eq_true Zz1
        have q214 : x5_1 < (l0.length : Int) := of_decide_eq_true Zz1
        obtain ⟨ad214, e214, hx214_0, hx214_1, hx214_2⟩ := at_T38 HR0.out x5_1 p214 q214
        cases e214
        replace hx214_0 := (HB.out.cell (World.block_lt_of_cell? w _ hx214_0)).trans hx214_0
        replace hx214_1 := (HB.out.cell (World.block_lt_of_cell? w _ hx214_1)).trans hx214_1
        replace hx214_2 := (HB.out.cell (World.block_lt_of_cell? w _ hx214_2)).trans hx214_2
        replace p214 := eq_true p214
        replace q214 := eq_true q214
        go_wp2_with (first | ((with_reducible refine gate_dst (N := 6) rfl ?_); refine box_event ?hg (N := 6) ?hd (cs := #[.int .i64 0, .string (⟨#[]⟩ : ByteArray), .int .i64 0]) (t := 38) ?hr ?_; (case hd => rfl); (case hg => rfl); (case hr => first | (go_simp; done) | (go_simp; rfl)); intro gb215 hg w17 hbox hb; have n0_ := Aside0.mk (Kd.R_below (Zz31 HO_3.out) hb); have n1_ := Aside0.mk (Kd.R_below (Zz31 HO_4.out) hb); have n2_ := Aside0.mk (below_step Zz0 hb); have n3_ := Aside0.mk (hbox); have n4_ := Aside0.mk ((Zz4 : w.heap.size ≤ gb215)); have n5_ := Aside0.mk ((Zz4 : w.heap.size ≤ gb215)); clear HO_3; clear HO_4; clear HB; have HO_3 := n0_; have HO_4 := n1_; have HB := n2_; have BK215 := n3_; have GW215 := n4_; have GE215 := n5_; clear n0_ n1_ n2_ n3_ n4_ n5_; clear hb hbox hg; have hcz18_0 : w17.cell? ⟨gb215, 0, none⟩ = some (.int .i64 0) := (blk_cell BK215.out 0).trans rfl; have hcz18_1 : w17.cell? ⟨gb215, 1, none⟩ = some (.string (⟨#[]⟩ : ByteArray)) := (blk_cell BK215.out 1).trans rfl; have hcz18_2 : w17.cell? ⟨gb215, 2, none⟩ = some (.int .i64 0) := (blk_cell BK215.out 2).trans rfl; have hfz18_0 := blk_frozen BK215.out 0; have hfz18_1 := blk_frozen BK215.out 1; have hfz18_2 := blk_frozen BK215.out 2; obtain ⟨Ao19, co19, eo19⟩ := Kd.R_slice HO_3.out; subst eo19) | ((with_reducible refine gate_callee (f := 29) rfl ?_); refine goesL_ (some 25) rfl rfl Tryz.func29 (by kernel_rfl) rfl #[.slice (some ad214) l0.length c0, .slice Ao19 t210.length co19, .int .i64 x5_1] rfl Zz2 ?_; (with_reducible refine (tammyref07_Kids.calls k1 _ _ l0 _ _ t210 x5_1 t216 _ ?side1 ?side2 ?side3 ?side4 A6.out).mono ?_); (case side1 => exact Kd.C_below HR0.out Zz5); (case side2 => exact HC0.out); (case side3 => refine (Kd.R_reads' (e := 3) (base := w.heap.size) (ok := fun k_ => True) (n := t210.length) (c := co19) ?_).2.2; exact Zz3); (case side4 => exact (Kd.R_reads' HO_3.out).2.1); rintro e w20 ⟨v217, rfl, ho0, hb⟩; refine ⟨_, rfl, ?_⟩; have n0_ := Aside0.mk (Kd.R_elder' Zz3 (Kd.R_base ho0) hb); have n1_ := Aside0.mk (Kd.R_below Zz8 hb); have n2_ := Aside0.mk (Kd.R_lower (Kd.R_new' ho0 (Kd.R_lt Zz3)) (below_size Zz5)); have n3_ := Aside0.mk (blk_below (g := gb215) (o := .cells #[.int .i64 ((rd_T38 l0 x5_1).f0), .string ((rd_T38 l0 x5_1).f1), .int .i64 ((rd_T38 l0 x5_1).f2)] 38 (0, 0)) Zz7 hb); have n4_ := Aside0.mk (below_step Zz5 hb); clear HO_3; clear HO_4; clear BK215; clear HB; have HO_3 := n0_; have HO_4 := n1_; have HO218 := n2_; have BK215 := n3_; have HB := n4_; clear n0_ n1_ n2_ n3_ n4_; (try clear hb); (try clear hb2); (try clear hk); (try clear hi); (try clear ho0); have hcz21_0 : w20.cell? ⟨gb215, 0, none⟩ = some (.int .i64 ((rd_T38 l0 x5_1).f0)) := (blk_cell BK215.out 0).trans rfl; have hcz21_1 : w20.cell? ⟨gb215, 1, none⟩ = some (.string ((rd_T38 l0 x5_1).f1)) := (blk_cell BK215.out 1).trans rfl; have hcz21_2 : w20.cell? ⟨gb215, 2, none⟩ = some (.int .i64 ((rd_T38 l0 x5_1).f2)) := (blk_cell BK215.out 2).trans rfl; have hfz21_0 := blk_frozen BK215.out 0; have hfz21_1 := blk_frozen BK215.out 1; have hfz21_2 := blk_frozen BK215.out 2) | ((with_reducible refine gate_builtin (b := .append) (xs := #[.tmp 111, .tmp 113]) rfl ?_); at_builtin; refine Kd.R_append Kd.string (w0 := w) w.heap.size rfl (.tmp 111) (.tmp 113) 56 9 (.string ⟨#[]⟩) 16 rfl Tryz.underlying56 info9 rfl (by decide) (by omega) u4 x4_1 (⟨#[49]⟩ : ByteArray) [.string (⟨#[49]⟩ : ByteArray)] (fun _ => True) (fun _ => False) rfl rfl ?aP (fun _ hk => hk.elim) ?aF ?aO ?aB ?aS ?aL ?_; (case aP => exact rfl); (case aB => exact Zz5); (case aF => exact (fun _ _ => trivial)); (case aO => exact (Zz31 HO_4.out)); (case aS => exact (below_size Zz5)); (case aL => have := LMc16.out; omega); intro v223 w22 ho hb hg hat; rw [← Ny222.out] at ho; have n0_ := Aside0.mk (Kd.R_over' (Zz31 HO_3.out) (Kd.R_typed (Zz31 HO_4.out)) (by decide) hg); have n1_ := Aside0.mk (blk_grown (g := gb215) (o := .cells #[.int .i64 ((rd_T38 l0 x5_1).f0), .string ((rd_T38 l0 x5_1).f1), .int .i64 ((rd_T38 l0 x5_1).f2)] 38 (0, 0)) (Zz33 BK215.out) hg (Kd.R_ne HO_4.out BK215.out (by decide))); have n2_ := Aside0.mk (Kd.R_over' (Zz31 HO218.out) (Kd.R_typed (Zz31 HO_4.out)) (by decide) hg); have n3_ := Aside0.mk (hb); have n4_ := Aside0.mk (ho); clear HO_3; clear BK215; clear HO218; clear HB; clear HO_4; have HO_3 := n0_; have BK215 := n1_; have HO218 := n2_; have HB := n3_; have HO224 := n4_; clear n0_ n1_ n2_ n3_ n4_; clear ho hb hg hat))
        go_roundg k1
        case measure => have := HK1.out; omega
        case rel => exact ⟨(y222), (wrap64 (x5_1 + 1)), Zz6, H', ⟨by have := HK1.out; omega⟩, ⟨by (with_reducible repeat (first | apply Kd.R_alloc | apply Kd.R_drewN | apply Kd.R_drew)); exact Kd.R_mono HO_3.out (fun _ hk => trivial)⟩, ⟨by (with_reducible repeat (first | apply Kd.R_alloc | apply Kd.R_drewN | apply Kd.R_drew)); exact HO224.out⟩, ⟨by repeat (first | (with_reducible first | exact HB.out | apply below_alloc | apply pw_below_drewN | apply below_drew1 | refine below_set ?_ GE215.out) | exact HB.out)⟩⟩
       ·rw [if_neg c16] at H
        exact absurd H (by simp)
      ·rw [if_neg c15] at H
       have c15b0 := beq_eq_false_iff_ne.mpr c15
       have c15b1 := bne_iff_ne.mpr c15
       by_cases c23 : ((rd_T38 l0 x5_1).f0) = 3
       ·rw [if_pos c23] at H
        have c23b0 := beq_iff_eq.mpr c23
        have c23b1 := bne_eq_false_iff_eq.mpr c23
        clear c23
        have H' := Aside0.mk H
        clear H
        have p214 : 0 ≤ (x5_1 : Int) := of_decide_eq_true Zz1
        have q214 : x5_1 < (l0.length : Int) := of_decide_eq_true Zz1
        obtain ⟨ad214, e214, hx214_0, hx214_1, hx214_2⟩ := at_T38 HR0.out x5_1 p214 q214
        cases e214
        replace hx214_0 := (HB.out.cell (World.block_lt_of_cell? w _ hx214_0)).trans hx214_0
        replace hx214_1 := (HB.out.cell (World.block_lt_of_cell? w _ hx214_1)).trans hx214_1
        replace hx214_2 := (HB.out.cell (World.block_lt_of_cell? w _ hx214_2)).trans hx214_2
        replace p214 := eq_true p214
        replace q214 := eq_true q214
        go_wp2_with (first | ((with_reducible refine gate_dst (N := 6) rfl ?_); refine box_event ?hg (N := 6) ?hd (cs := #[.int .i64 0, .string (⟨#[]⟩ : ByteArray), .int .i64 0]) (t := 38) ?hr ?_; (case hd => rfl); (case hg => rfl); (case hr => first | (go_simp; done) | (go_simp; rfl)); intro gb215 hg w24 hbox hb; have n0_ := Aside0.mk (Kd.R_below (Zz31 HO_3.out) hb); have n1_ := Aside0.mk (Kd.R_below (Zz31 HO_4.out) hb); have n2_ := Aside0.mk (below_step Zz0 hb); have n3_ := Aside0.mk (hbox); have n4_ := Aside0.mk ((Zz4 : w.heap.size ≤ gb215)); have n5_ := Aside0.mk ((Zz4 : w.heap.size ≤ gb215)); clear HO_3; clear HO_4; clear HB; have HO_3 := n0_; have HO_4 := n1_; have HB := n2_; have BK215 := n3_; have GW215 := n4_; have GE215 := n5_; clear n0_ n1_ n2_ n3_ n4_ n5_; clear hb hbox hg; have hcz25_0 : w24.cell? ⟨gb215, 0, none⟩ = some (.int .i64 0) := (blk_cell BK215.out 0).trans rfl; have hcz25_1 : w24.cell? ⟨gb215, 1, none⟩ = some (.string (⟨#[]⟩ : ByteArray)) := (blk_cell BK215.out 1).trans rfl; have hcz25_2 : w24.cell? ⟨gb215, 2, none⟩ = some (.int .i64 0) := (blk_cell BK215.out 2).trans rfl; have hfz25_0 := blk_frozen BK215.out 0; have hfz25_1 := blk_frozen BK215.out 1; have hfz25_2 := blk_frozen BK215.out 2; obtain ⟨Ao26, co26, eo26⟩ := Kd.R_slice HO_3.out; subst eo26) | ((with_reducible refine gate_callee (f := 29) rfl ?_); refine goesL_ (some 25) rfl rfl Tryz.func29 (by kernel_rfl) rfl #[.slice (some ad214) l0.length c0, .slice Ao26 t210.length co26, .int .i64 x5_1] rfl Zz2 ?_; (with_reducible refine (tammyref07_Kids.calls k1 _ _ l0 _ _ t210 x5_1 t216 _ ?side1 ?side2 ?side3 ?side4 A6.out).mono ?_); (case side1 => exact Kd.C_below HR0.out Zz5); (case side2 => exact HC0.out); (case side3 => refine (Kd.R_reads' (e := 3) (base := w.heap.size) (ok := fun k_ => True) (n := t210.length) (c := co26) ?_).2.2; exact Zz3); (case side4 => exact (Kd.R_reads' HO_3.out).2.1); rintro e w27 ⟨v217, rfl, ho0, hb⟩; refine ⟨_, rfl, ?_⟩; have n0_ := Aside0.mk (Kd.R_elder' Zz3 (Kd.R_base ho0) hb); have n1_ := Aside0.mk (Kd.R_below Zz8 hb); have n2_ := Aside0.mk (Kd.R_lower (Kd.R_new' ho0 (Kd.R_lt Zz3)) (below_size Zz5)); have n3_ := Aside0.mk (blk_below (g := gb215) (o := .cells #[.int .i64 ((rd_T38 l0 x5_1).f0), .string ((rd_T38 l0 x5_1).f1), .int .i64 ((rd_T38 l0 x5_1).f2)] 38 (0, 0)) Zz7 hb); have n4_ := Aside0.mk (below_step Zz5 hb); clear HO_3; clear HO_4; clear BK215; clear HB; have HO_3 := n0_; have HO_4 := n1_; have HO218 := n2_; have BK215 := n3_; have HB := n4_; clear n0_ n1_ n2_ n3_ n4_; (try clear hb); (try clear hb2); (try clear hk); (try clear hi); (try clear ho0); have hcz28_0 : w27.cell? ⟨gb215, 0, none⟩ = some (.int .i64 ((rd_T38 l0 x5_1).f0)) := (blk_cell BK215.out 0).trans rfl; have hcz28_1 : w27.cell? ⟨gb215, 1, none⟩ = some (.string ((rd_T38 l0 x5_1).f1)) := (blk_cell BK215.out 1).trans rfl; have hcz28_2 : w27.cell? ⟨gb215, 2, none⟩ = some (.int .i64 ((rd_T38 l0 x5_1).f2)) := (blk_cell BK215.out 2).trans rfl; have hfz28_0 := blk_frozen BK215.out 0; have hfz28_1 := blk_frozen BK215.out 1; have hfz28_2 := blk_frozen BK215.out 2))
        go_loopg [8, 9] k1 (fun kq v8 v9 w' => ∃ (x8_2 : ByteArray) (x9_2 : Int), v8 = .string x8_2 ∧ v9 = .int .i64 x9_2 ∧ Aside0 (tammyref07_Text.l1 kq l0 t210 x4_1 x5_1 t216 x8_2 x9_2 = some r) ∧ Aside0 (kq ≤ k1) ∧ Aside0 (Kd.R (Kd.int .i64) 3 w' w.heap.size (fun k_ => some k_ ≠ (v217 : Value).ownBlock) (.slice Ao26 t210.length co26) t210) ∧ Aside0 (Kd.R Kd.string 9 w' w.heap.size (fun _ => True) u4 x4_1) ∧ Aside0 (Kd.R (Kd.int .i64) 3 w' w.heap.size (fun k_ => some k_ ≠ ((.slice Ao26 t210.length co26) : Value).ownBlock) v217 t216) ∧ Aside0 (w'.heap[gb215]? = some (.cells #[.int .i64 ((rd_T38 l0 x5_1).f0), .string ((rd_T38 l0 x5_1).f1), .int .i64 ((rd_T38 l0 x5_1).f2)] 38 (0, 0))) ∧ Aside0 (Below w.heap.size w w'))
        case atStart => exact ⟨((rd_T38 l0 x5_1).f1), (0), Zz6, Zz6, H', ⟨Nat.le_refl _⟩, ⟨by (with_reducible repeat (first | apply Kd.R_alloc | apply Kd.R_drewN | apply Kd.R_drew)); exact Kd.R_mono HO_3.out (fun _ hk => hk.2)⟩, ⟨by (with_reducible repeat (first | apply Kd.R_alloc | apply Kd.R_drewN | apply Kd.R_drew)); exact HO_4.out⟩, ⟨by (with_reducible repeat (first | apply Kd.R_alloc | apply Kd.R_drewN | apply Kd.R_drew)); exact Kd.R_mono HO218.out (fun _ hk => hk.2)⟩, ⟨by (with_reducible repeat (first | refine blk_drewN ?_ _ | refine blk_drew ?_ | refine blk_alloc ?_ _)); exact BK215.out⟩, ⟨by repeat (first | (with_reducible first | exact HB.out | apply below_alloc | apply pw_below_drewN | apply below_drew1 | refine below_set ?_ GE215.out) | exact HB.out)⟩⟩
        case round =>
         clear H'
         try clear c1
         try clear c2
         try clear p2
         try clear q2
         try clear hx2
         try clear c4
         try clear c4b0
         try clear c5
         try clear c5b0
         try clear p6
         try clear c7
         try clear c7b0
         try clear c7b1
         try clear c8
         try clear c15
         try clear c15b0
         try clear c15b1
         try clear c16
         try clear c18
         try clear p21
         try clear q21
         try clear hx21
         try clear c23
         try clear c23b0
         try clear c23b1
         try clear c28
         try clear hcz10_0
         try clear hcz10_1
         try clear hcz10_2
         try clear hcz13_0
         try clear hcz13_1
         try clear hcz13_2
         try clear hcz18_0
         try clear hcz18_1
         try clear hcz18_2
         try clear hcz21_0
         try clear hcz21_1
         try clear hcz21_2
         try clear hcz25_0
         try clear hcz25_1
         try clear hcz25_2
         try clear hcz28_0
         try clear hcz28_1
         try clear hcz28_2
         try clear hfz10_0
         try clear hfz10_1
         try clear hfz10_2
         try clear hfz13_0
         try clear hfz13_1
         try clear hfz13_2
         try clear hfz18_0
         try clear hfz18_1
         try clear hfz18_2
         try clear hfz21_0
         try clear hfz21_1
         try clear hfz21_2
         try clear hfz25_0
         try clear hfz25_1
         try clear hfz25_2
         try clear hfz28_0
         try clear hfz28_1
         try clear hfz28_2
         try clear hx214_0
         try clear hx214_1
         try clear hx214_2
         try clear p2
         try clear p214
         try clear q214
         obtain ⟨x8_2, x9_2, rfl, rfl, HA, HK2, HO_3, HO_4, HO_7, BK215, HB⟩ := hrel
         cases gk with
         | zero => exact absurd HA.out (by simp [tammyref07_Text.l1])
         | succ k2 =>
          have H := HA.out
          clear HA
          simp only [tammyref07_Text.l1] at H
          by_cases c29 : x9_2 < (t216.length : Int)
          ·rw [if_pos c29] at H
           have c29b0 := decide_eq_true c29
           clear c29
           by_cases c30 : x9_2 = 0
           ·rw [if_pos c30] at H
            have c30b0 := beq_iff_eq.mpr c30
            have c30b1 := bne_eq_false_iff_eq.mpr c30
            clear c30
            by_cases c31 : x8_2.size + 1 ≤ 9223372036854775807
            ·rw [if_pos c31] at H
             have c31b0 := eq_true c31
             have c31b1 := decide_eq_true c31
             try have c31b2 : (9223372036854775807 < x8_2.size + 1) = False := eq_false (Nat.not_lt.2 c31)
             by_cases c32 : 0 ≤ x9_2
             ·rw [if_pos c32] at H
              have c32b0 := decide_eq_true c32
              clear c32
              by_cases c33 : 0 ≤ (rd t216 x9_2)
              ·rw [if_pos c33] at H
               have c33b0 := decide_eq_true c33
               clear c33
               by_cases c34 : (rd t216 x9_2) < (x4_1.length : Int)
               ·rw [if_pos c34] at H
                have c34b0 := decide_eq_true c34
                clear c34
                by_cases c35 : (x8_2 ++ (⟨#[40]⟩ : ByteArray)).size + (rdOf ByteArray.empty x4_1 (rd t216 x9_2)).size ≤ 9223372036854775807
                ·rw [if_pos c35] at H
                 have c35b0 := eq_true c35
                 have c35b1 := decide_eq_true c35
                 try have c35b2 : (9223372036854775807 < (x8_2 ++ (⟨#[40]⟩ : ByteArray)).size + (rdOf ByteArray.empty x4_1 (rd t216 x9_2)).size) = False := eq_false (Nat.not_lt.2 c35)
                 try (have c35b3 := c35b2; simp only [ByteArray.size_append, show (⟨#[40]⟩ : ByteArray).size = 1 from rfl, show (⟨#[41]⟩ : ByteArray).size = 1 from rfl, show (⟨#[44]⟩ : ByteArray).size = 1 from rfl, show (⟨#[124]⟩ : ByteArray).size = 1 from rfl, show (⟨#[38]⟩ : ByteArray).size = 1 from rfl, show (⟨#[126]⟩ : ByteArray).size = 1 from rfl] at c35b3)
                 have H' := Aside0.mk H
                 clear H
                 obtain ⟨Ao36, co36, eo36⟩ := Kd.R_slice HO_7.out
                 subst eo36
                 have p225 : 0 ≤ (x9_2 : Int) := of_decide_eq_true Zz1
                 have q225 : x9_2 < (t216.length : Int) := of_decide_eq_true Zz1
                 obtain ⟨ad225, e225, hx225_0⟩ := Kd.at_int (Kd.R_reads' HO_7.out).2.2 x9_2 p225 q225
                 cases e225
                 replace p225 := eq_true p225
                 replace q225 := eq_true q225
                 obtain ⟨Ao37, co37, eo37⟩ := Kd.R_slice HO_4.out
                 subst eo37
                 have p226 : 0 ≤ ((rd t216 x9_2) : Int) := of_decide_eq_true Zz1
                 have q226 : (rd t216 x9_2) < (x4_1.length : Int) := of_decide_eq_true Zz1
                 obtain ⟨ad226, e226, hx226_0⟩ := Kd.at_string (Kd.R_reads' HO_4.out).2.2 (rd t216 x9_2) p226 q226
                 cases e226
                 replace p226 := eq_true p226
                 replace q226 := eq_true q226
                 go_wp2
                 go_roundg k2
                 case measure => have := HK1.out; have := HK2.out; omega
                 case rel => exact ⟨((x8_2 ++ (⟨#[40]⟩ : ByteArray)) ++ (rdOf ByteArray.empty x4_1 (rd t216 x9_2))), (wrap64 (x9_2 + 1)), Zz6, Zz6, H', ⟨by have := HK1.out; have := HK2.out; omega⟩, ⟨by (with_reducible repeat (first | apply Kd.R_alloc | apply Kd.R_drewN | apply Kd.R_drew)); exact HO_3.out⟩, ⟨by (with_reducible repeat (first | apply Kd.R_alloc | apply Kd.R_drewN | apply Kd.R_drew)); exact HO_4.out⟩, ⟨by (with_reducible repeat (first | apply Kd.R_alloc | apply Kd.R_drewN | apply Kd.R_drew)); exact HO_7.out⟩, ⟨by (with_reducible repeat (first | refine blk_drewN ?_ _ | refine blk_drew ?_ | refine blk_alloc ?_ _)); exact BK215.out⟩, ⟨by repeat (first | (with_reducible first | exact HB.out | apply below_alloc | apply pw_below_drewN | apply below_drew1 | refine below_set ?_ GE215.out) | exact HB.out)⟩⟩
                ·rw [if_neg c35] at H
                 exact absurd H (by simp)
               ·rw [if_neg c34] at H
                exact absurd H (by simp)
              ·rw [if_neg c33] at H
               exact absurd H (by simp)
             ·rw [if_neg c32] at H
              exact absurd H (by simp)
            ·rw [if_neg c31] at H
             exact absurd H (by simp)
           ·rw [if_neg c30] at H
            have c30b0 := beq_eq_false_iff_ne.mpr c30
            have c30b1 := bne_iff_ne.mpr c30
            by_cases c38 : x8_2.size + 1 ≤ 9223372036854775807
            ·rw [if_pos c38] at H
             have c38b0 := eq_true c38
             have c38b1 := decide_eq_true c38
             try have c38b2 : (9223372036854775807 < x8_2.size + 1) = False := eq_false (Nat.not_lt.2 c38)
             by_cases c39 : 0 ≤ x9_2
             ·rw [if_pos c39] at H
              have c39b0 := decide_eq_true c39
              clear c39
              by_cases c40 : 0 ≤ (rd t216 x9_2)
              ·rw [if_pos c40] at H
               have c40b0 := decide_eq_true c40
               clear c40
               by_cases c41 : (rd t216 x9_2) < (x4_1.length : Int)
               ·rw [if_pos c41] at H
                have c41b0 := decide_eq_true c41
                clear c41
                by_cases c42 : (x8_2 ++ (⟨#[44]⟩ : ByteArray)).size + (rdOf ByteArray.empty x4_1 (rd t216 x9_2)).size ≤ 9223372036854775807
                ·rw [if_pos c42] at H
                 have c42b0 := eq_true c42
                 have c42b1 := decide_eq_true c42
                 try have c42b2 : (9223372036854775807 < (x8_2 ++ (⟨#[44]⟩ : ByteArray)).size + (rdOf ByteArray.empty x4_1 (rd t216 x9_2)).size) = False := eq_false (Nat.not_lt.2 c42)
                 try (have c42b3 := c42b2; simp only [ByteArray.size_append, show (⟨#[40]⟩ : ByteArray).size = 1 from rfl, show (⟨#[41]⟩ : ByteArray).size = 1 from rfl, show (⟨#[44]⟩ : ByteArray).size = 1 from rfl, show (⟨#[124]⟩ : ByteArray).size = 1 from rfl, show (⟨#[38]⟩ : ByteArray).size = 1 from rfl, show (⟨#[126]⟩ : ByteArray).size = 1 from rfl] at c42b3)
                 have H' := Aside0.mk H
                 clear H
                 obtain ⟨Ao43, co43, eo43⟩ := Kd.R_slice HO_7.out
                 subst eo43
                 have p227 : 0 ≤ (x9_2 : Int) := of_decide_eq_true Zz1
                 have q227 : x9_2 < (t216.length : Int) := of_decide_eq_true Zz1
                 obtain ⟨ad227, e227, hx227_0⟩ := Kd.at_int (Kd.R_reads' HO_7.out).2.2 x9_2 p227 q227
                 cases e227
                 replace p227 := eq_true p227
                 replace q227 := eq_true q227
                 obtain ⟨Ao44, co44, eo44⟩ := Kd.R_slice HO_4.out
                 subst eo44
                 have p228 : 0 ≤ ((rd t216 x9_2) : Int) := of_decide_eq_true Zz1
                 have q228 : (rd t216 x9_2) < (x4_1.length : Int) := of_decide_eq_true Zz1
                 obtain ⟨ad228, e228, hx228_0⟩ := Kd.at_string (Kd.R_reads' HO_4.out).2.2 (rd t216 x9_2) p228 q228
                 cases e228
                 replace p228 := eq_true p228
                 replace q228 := eq_true q228
                 go_wp2
                 go_roundg k2
                 case measure => have := HK1.out; have := HK2.out; omega
                 case rel => exact ⟨((x8_2 ++ (⟨#[44]⟩ : ByteArray)) ++ (rdOf ByteArray.empty x4_1 (rd t216 x9_2))), (wrap64 (x9_2 + 1)), Zz6, Zz6, H', ⟨by have := HK1.out; have := HK2.out; omega⟩, ⟨by (with_reducible repeat (first | apply Kd.R_alloc | apply Kd.R_drewN | apply Kd.R_drew)); exact HO_3.out⟩, ⟨by (with_reducible repeat (first | apply Kd.R_alloc | apply Kd.R_drewN | apply Kd.R_drew)); exact HO_4.out⟩, ⟨by (with_reducible repeat (first | apply Kd.R_alloc | apply Kd.R_drewN | apply Kd.R_drew)); exact HO_7.out⟩, ⟨by (with_reducible repeat (first | refine blk_drewN ?_ _ | refine blk_drew ?_ | refine blk_alloc ?_ _)); exact BK215.out⟩, ⟨by repeat (first | (with_reducible first | exact HB.out | apply below_alloc | apply pw_below_drewN | apply below_drew1 | refine below_set ?_ GE215.out) | exact HB.out)⟩⟩
                ·rw [if_neg c42] at H
                 exact absurd H (by simp)
               ·rw [if_neg c41] at H
                exact absurd H (by simp)
              ·rw [if_neg c40] at H
               exact absurd H (by simp)
             ·rw [if_neg c39] at H
              exact absurd H (by simp)
            ·rw [if_neg c38] at H
             exact absurd H (by simp)
          ·rw [if_neg c29] at H
           have c29b0 := decide_eq_false c29
           clear c29
           by_cases c45 : (t216.length : Int) > 0
           ·rw [if_pos c45] at H
            have c45b0 : decide (0 < (t216.length : Int)) = true := decide_eq_true c45
            have c45b1 : decide (0 < t216.length) = true := decide_eq_true (by omega)
            clear c45
            by_cases c46 : x8_2.size + 1 ≤ 9223372036854775807
            ·rw [if_pos c46] at H
             have c46b0 := eq_true c46
             have c46b1 := decide_eq_true c46
             try have c46b2 : (9223372036854775807 < x8_2.size + 1) = False := eq_false (Nat.not_lt.2 c46)
             by_cases c47 : x4_1.length < 8796093022208
             ·rw [if_pos c47] at H
              have LMc47 := Aside0.mk c47
              clear c47
              obtain ⟨y229, hy229⟩ : ∃ y_ : List ByteArray, y_ = (x4_1 ++ [x8_2 ++ (⟨#[41]⟩ : ByteArray)]) := ⟨_, rfl⟩
              replace H : (tammyref07_Text.l0 k2 l0 t210 y229 (wrap64 (x5_1 + 1))) = some r := by first | (rw [hy229]; with_reducible exact H) | (have H2_ := (Option.bind_some _ _).symm.trans H; rw [hy229]; with_reducible exact H2_) | (have H2_ := (Option.bind_some _ _).symm.trans H; with_reducible exact H2_) | with_reducible exact H | (rw [hy229]; exact H) | exact H
              have Ny229 := Aside0.mk hy229
              clear hy229
              have H' := Aside0.mk H
              clear H
              obtain ⟨Ao48, co48, eo48⟩ := Kd.R_slice HO_7.out
              subst eo48
              go_wp2_with (first | ((with_reducible refine gate_builtin (b := .append) (xs := #[.tmp 111, .tmp 113]) rfl ?_); at_builtin; refine Kd.R_append Kd.string (w0 := w) w.heap.size rfl (.tmp 111) (.tmp 113) 56 9 (.string ⟨#[]⟩) 16 rfl Tryz.underlying56 info9 rfl (by decide) (by omega) u4 x4_1 (x8_2 ++ (⟨#[41]⟩ : ByteArray)) [.string (x8_2 ++ (⟨#[41]⟩ : ByteArray))] (fun _ => True) (fun _ => False) rfl rfl ?aP (fun _ hk => hk.elim) ?aF ?aO ?aB ?aS ?aL ?_; (case aP => exact rfl); (case aB => exact Zz5); (case aF => exact (fun _ _ => trivial)); (case aO => exact (Zz31 HO_4.out)); (case aS => exact (below_size Zz5)); (case aL => have := LMc47.out; omega); intro v230 w49 ho hb hg hat; rw [← Ny229.out] at ho; have n0_ := Aside0.mk (Kd.R_over' (Zz31 HO_3.out) (Kd.R_typed (Zz31 HO_4.out)) (by decide) hg); have n1_ := Aside0.mk (Kd.R_over' (Zz31 HO_7.out) (Kd.R_typed (Zz31 HO_4.out)) (by decide) hg); have n2_ := Aside0.mk (blk_grown (g := gb215) (o := .cells #[.int .i64 ((rd_T38 l0 x5_1).f0), .string ((rd_T38 l0 x5_1).f1), .int .i64 ((rd_T38 l0 x5_1).f2)] 38 (0, 0)) (Zz33 BK215.out) hg (Kd.R_ne HO_4.out BK215.out (by decide))); have n3_ := Aside0.mk (hb); have n4_ := Aside0.mk (ho); clear HO_3; clear HO_7; clear BK215; clear HB; clear HO_4; have HO_3 := n0_; have HO_7 := n1_; have BK215 := n2_; have HB := n3_; have HO231 := n4_; clear n0_ n1_ n2_ n3_ n4_; clear ho hb hg hat))
              go_roundg k2
              case measure => have := HK1.out; have := HK2.out; omega
              case rel => exact ⟨(y229), (wrap64 (x5_1 + 1)), Zz6, H', ⟨by have := HK1.out; have := HK2.out; omega⟩, ⟨by (with_reducible repeat (first | apply Kd.R_alloc | apply Kd.R_drewN | apply Kd.R_drew)); exact Kd.R_mono HO_3.out (fun _ hk => trivial)⟩, ⟨by (with_reducible repeat (first | apply Kd.R_alloc | apply Kd.R_drewN | apply Kd.R_drew)); exact HO231.out⟩, ⟨by repeat (first | (with_reducible first | exact HB.out | apply below_alloc | apply pw_below_drewN | apply below_drew1 | refine below_set ?_ GE215.out) | exact HB.out)⟩⟩
             ·rw [if_neg c47] at H
              exact absurd H (by simp)
            ·rw [if_neg c46] at H
             exact absurd H (by simp)
           ·rw [if_neg c45] at H
            have c45b0 : decide (0 < (t216.length : Int)) = false := decide_eq_false c45
            have c45b1 : decide (0 < t216.length) = false := decide_eq_false (by omega)
            clear c45
            by_cases c50 : x4_1.length < 8796093022208
            ·rw [if_pos c50] at H
             have LMc50 := Aside0.mk c50
             clear c50
             obtain ⟨y232, hy232⟩ : ∃ y_ : List ByteArray, y_ = (x4_1 ++ [x8_2]) := ⟨_, rfl⟩
             replace H : (tammyref07_Text.l0 k2 l0 t210 y232 (wrap64 (x5_1 + 1))) = some r := by first | (rw [hy232]; with_reducible exact H) | (have H2_ := (Option.bind_some _ _).symm.trans H; rw [hy232]; with_reducible exact H2_) | (have H2_ := (Option.bind_some _ _).symm.trans H; with_reducible exact H2_) | with_reducible exact H | (rw [hy232]; exact H) | exact H
             have Ny232 := Aside0.mk hy232
             clear hy232
             have H' := Aside0.mk H
             clear H
             obtain ⟨Ao51, co51, eo51⟩ := Kd.R_slice HO_7.out
             subst eo51
             go_wp2_with (first | ((with_reducible refine gate_builtin (b := .append) (xs := #[.tmp 111, .tmp 113]) rfl ?_); at_builtin; refine Kd.R_append Kd.string (w0 := w) w.heap.size rfl (.tmp 111) (.tmp 113) 56 9 (.string ⟨#[]⟩) 16 rfl Tryz.underlying56 info9 rfl (by decide) (by omega) u4 x4_1 x8_2 [.string x8_2] (fun _ => True) (fun _ => False) rfl rfl ?aP (fun _ hk => hk.elim) ?aF ?aO ?aB ?aS ?aL ?_; (case aP => exact rfl); (case aB => exact Zz5); (case aF => exact (fun _ _ => trivial)); (case aO => exact (Zz31 HO_4.out)); (case aS => exact (below_size Zz5)); (case aL => have := LMc50.out; omega); intro v233 w52 ho hb hg hat; rw [← Ny232.out] at ho; have n0_ := Aside0.mk (Kd.R_over' (Zz31 HO_3.out) (Kd.R_typed (Zz31 HO_4.out)) (by decide) hg); have n1_ := Aside0.mk (Kd.R_over' (Zz31 HO_7.out) (Kd.R_typed (Zz31 HO_4.out)) (by decide) hg); have n2_ := Aside0.mk (blk_grown (g := gb215) (o := .cells #[.int .i64 ((rd_T38 l0 x5_1).f0), .string ((rd_T38 l0 x5_1).f1), .int .i64 ((rd_T38 l0 x5_1).f2)] 38 (0, 0)) (Zz33 BK215.out) hg (Kd.R_ne HO_4.out BK215.out (by decide))); have n3_ := Aside0.mk (hb); have n4_ := Aside0.mk (ho); clear HO_3; clear HO_7; clear BK215; clear HB; clear HO_4; have HO_3 := n0_; have HO_7 := n1_; have BK215 := n2_; have HB := n3_; have HO234 := n4_; clear n0_ n1_ n2_ n3_ n4_; clear ho hb hg hat))
             go_roundg k2
             case measure => have := HK1.out; have := HK2.out; omega
             case rel => exact ⟨(y232), (wrap64 (x5_1 + 1)), Zz6, H', ⟨by have := HK1.out; have := HK2.out; omega⟩, ⟨by (with_reducible repeat (first | apply Kd.R_alloc | apply Kd.R_drewN | apply Kd.R_drew)); exact Kd.R_mono HO_3.out (fun _ hk => trivial)⟩, ⟨by (with_reducible repeat (first | apply Kd.R_alloc | apply Kd.R_drewN | apply Kd.R_drew)); exact HO234.out⟩, ⟨by repeat (first | (with_reducible first | exact HB.out | apply below_alloc | apply pw_below_drewN | apply below_drew1 | refine below_set ?_ GE215.out) | exact HB.out)⟩⟩
            ·rw [if_neg c50] at H
             exact absurd H (by simp)
       ·rw [if_neg c23] at H
        have c23b0 := beq_eq_false_iff_ne.mpr c23
        have c23b1 := bne_iff_ne.mpr c23
        by_cases c53 : ((rd_T38 l0 x5_1).f0) = 4
        ·rw [if_pos c53] at H
         have c53b0 := beq_iff_eq.mpr c53
         have c53b1 := bne_eq_false_iff_eq.mpr c53
         clear c53
         by_cases c54 : 0 < (t216.length : Int)
         ·rw [if_pos c54] at H
          have c54b0 := decide_eq_true c54
          have c54b1 : decide (0 < t216.length) = true := decide_eq_true (by omega)
          clear c54
          replace H := Option.bind_eq_some_iff.mp H
          obtain ⟨t236, A550, H⟩ := H
          replace H : (if t236.size + 1 ≤ 9223372036854775807 then (if 1 < (t216.length : Int) then ((tammyref07_side.f l0 x4_1 (rd t216 1) 4 false).bind fun t238 => (if (t236 ++ (⟨#[124]⟩ : ByteArray)).size + t238.size ≤ 9223372036854775807 then (if x4_1.length < 8796093022208 then (tammyref07_Text.l0 k1 l0 t210 (x4_1 ++ [(t236 ++ (⟨#[124]⟩ : ByteArray)) ++ t238]) (wrap64 (x5_1 + 1))) else (none)) else (none))) else (none)) else (none)) = some r := H
          have A55 := Aside0.mk A550
          clear A550
          by_cases c56 : t236.size + 1 ≤ 9223372036854775807
          ·rw [if_pos c56] at H
           have c56b0 := eq_true c56
           have c56b1 := decide_eq_true c56
           try have c56b2 : (9223372036854775807 < t236.size + 1) = False := eq_false (Nat.not_lt.2 c56)
           by_cases c57 : 1 < (t216.length : Int)
           ·rw [if_pos c57] at H
            have c57b0 := decide_eq_true c57
            have c57b1 : decide (1 < t216.length) = true := decide_eq_true (by omega)
            clear c57
            replace H := Option.bind_eq_some_iff.mp H
            obtain ⟨t238, A580, H⟩ := H
            replace H : (if (t236 ++ (⟨#[124]⟩ : ByteArray)).size + t238.size ≤ 9223372036854775807 then (if x4_1.length < 8796093022208 then (tammyref07_Text.l0 k1 l0 t210 (x4_1 ++ [(t236 ++ (⟨#[124]⟩ : ByteArray)) ++ t238]) (wrap64 (x5_1 + 1))) else (none)) else (none)) = some r := H
            have A58 := Aside0.mk A580
            clear A580
            by_cases c59 : (t236 ++ (⟨#[124]⟩ : ByteArray)).size + t238.size ≤ 9223372036854775807
            ·rw [if_pos c59] at H
             have c59b0 := eq_true c59
             have c59b1 := decide_eq_true c59
             try have c59b2 : (9223372036854775807 < (t236 ++ (⟨#[124]⟩ : ByteArray)).size + t238.size) = False := eq_false (Nat.not_lt.2 c59)
             try (have c59b3 := c59b2; simp only [ByteArray.size_append, show (⟨#[40]⟩ : ByteArray).size = 1 from rfl, show (⟨#[41]⟩ : ByteArray).size = 1 from rfl, show (⟨#[44]⟩ : ByteArray).size = 1 from rfl, show (⟨#[124]⟩ : ByteArray).size = 1 from rfl, show (⟨#[38]⟩ : ByteArray).size = 1 from rfl, show (⟨#[126]⟩ : ByteArray).size = 1 from rfl] at c59b3)
             by_cases c60 : x4_1.length < 8796093022208
             ·rw [if_pos c60] at H
              have LMc60 := Aside0.mk c60
              clear c60
              obtain ⟨y239, hy239⟩ : ∃ y_ : List ByteArray, y_ = (x4_1 ++ [(t236 ++ (⟨#[124]⟩ : ByteArray)) ++ t238]) := ⟨_, rfl⟩
              replace H : (tammyref07_Text.l0 k1 l0 t210 y239 (wrap64 (x5_1 + 1))) = some r := by first | (rw [hy239]; with_reducible exact H) | (have H2_ := (Option.bind_some _ _).symm.trans H; rw [hy239]; with_reducible exact H2_) | (have H2_ := (Option.bind_some _ _).symm.trans H; with_reducible exact H2_) | with_reducible exact H | (rw [hy239]; exact H) | exact H
              have Ny239 := Aside0.mk hy239
              clear hy239
              have H' := Aside0.mk H
              clear H
              have p214 : 0 ≤ (x5_1 : Int) := of_decide_eq_true Zz1
              have q214 : x5_1 < (l0.length : Int) := of_decide_eq_true Zz1
              obtain ⟨ad214, e214, hx214_0, hx214_1, hx214_2⟩ := at_T38 HR0.out x5_1 p214 q214
              cases e214
              replace hx214_0 := (HB.out.cell (World.block_lt_of_cell? w _ hx214_0)).trans hx214_0
              replace hx214_1 := (HB.out.cell (World.block_lt_of_cell? w _ hx214_1)).trans hx214_1
              replace hx214_2 := (HB.out.cell (World.block_lt_of_cell? w _ hx214_2)).trans hx214_2
              replace p214 := eq_true p214
              replace q214 := eq_true q214
              try go_wp2_with (first | ((with_reducible refine gate_dst (N := 6) rfl ?_); refine box_event ?hg (N := 6) ?hd (cs := #[.int .i64 0, .string (⟨#[]⟩ : ByteArray), .int .i64 0]) (t := 38) ?hr ?_; (case hd => rfl); (case hg => rfl); (case hr => first | (go_simp; done) | (go_simp; rfl)); intro gb215 hg w61 hbox hb; have n0_ := Aside0.mk (Kd.R_below (Zz31 HO_3.out) hb); have n1_ := Aside0.mk (Kd.R_below (Zz31 HO_4.out) hb); have n2_ := Aside0.mk (below_step Zz0 hb); have n3_ := Aside0.mk (hbox); have n4_ := Aside0.mk ((Zz4 : w.heap.size ≤ gb215)); have n5_ := Aside0.mk ((Zz4 : w.heap.size ≤ gb215)); clear HO_3; clear HO_4; clear HB; have HO_3 := n0_; have HO_4 := n1_; have HB := n2_; have BK215 := n3_; have GW215 := n4_; have GE215 := n5_; clear n0_ n1_ n2_ n3_ n4_ n5_; clear hb hbox hg; have hcz62_0 : w61.cell? ⟨gb215, 0, none⟩ = some (.int .i64 0) := (blk_cell BK215.out 0).trans rfl; have hcz62_1 : w61.cell? ⟨gb215, 1, none⟩ = some (.string (⟨#[]⟩ : ByteArray)) := (blk_cell BK215.out 1).trans rfl; have hcz62_2 : w61.cell? ⟨gb215, 2, none⟩ = some (.int .i64 0) := (blk_cell BK215.out 2).trans rfl; have hfz62_0 := blk_frozen BK215.out 0; have hfz62_1 := blk_frozen BK215.out 1; have hfz62_2 := blk_frozen BK215.out 2; obtain ⟨Ao63, co63, eo63⟩ := Kd.R_slice HO_3.out; subst eo63) | ((with_reducible refine gate_callee (f := 29) rfl ?_); refine goesL_ (some 25) rfl rfl Tryz.func29 (by kernel_rfl) rfl #[.slice (some ad214) l0.length c0, .slice Ao63 t210.length co63, .int .i64 x5_1] rfl Zz2 ?_; (with_reducible refine (tammyref07_Kids.calls k1 _ _ l0 _ _ t210 x5_1 t216 _ ?side1 ?side2 ?side3 ?side4 A6.out).mono ?_); (case side1 => exact Kd.C_below HR0.out Zz5); (case side2 => exact HC0.out); (case side3 => refine (Kd.R_reads' (e := 3) (base := w.heap.size) (ok := fun k_ => True) (n := t210.length) (c := co63) ?_).2.2; exact Zz3); (case side4 => exact (Kd.R_reads' HO_3.out).2.1); rintro e w64 ⟨v217, rfl, ho0, hb⟩; refine ⟨_, rfl, ?_⟩; have n0_ := Aside0.mk (Kd.R_elder' Zz3 (Kd.R_base ho0) hb); have n1_ := Aside0.mk (Kd.R_below Zz8 hb); have n2_ := Aside0.mk (Kd.R_lower (Kd.R_new' ho0 (Kd.R_lt Zz3)) (below_size Zz5)); have n3_ := Aside0.mk (blk_below (g := gb215) (o := .cells #[.int .i64 ((rd_T38 l0 x5_1).f0), .string ((rd_T38 l0 x5_1).f1), .int .i64 ((rd_T38 l0 x5_1).f2)] 38 (0, 0)) Zz7 hb); have n4_ := Aside0.mk (below_step Zz5 hb); clear HO_3; clear HO_4; clear BK215; clear HB; have HO_3 := n0_; have HO_4 := n1_; have HO218 := n2_; have BK215 := n3_; have HB := n4_; clear n0_ n1_ n2_ n3_ n4_; (try clear hb); (try clear hb2); (try clear hk); (try clear hi); (try clear ho0); have hcz65_0 : w64.cell? ⟨gb215, 0, none⟩ = some (.int .i64 ((rd_T38 l0 x5_1).f0)) := (blk_cell BK215.out 0).trans rfl; have hcz65_1 : w64.cell? ⟨gb215, 1, none⟩ = some (.string ((rd_T38 l0 x5_1).f1)) := (blk_cell BK215.out 1).trans rfl; have hcz65_2 : w64.cell? ⟨gb215, 2, none⟩ = some (.int .i64 ((rd_T38 l0 x5_1).f2)) := (blk_cell BK215.out 2).trans rfl; have hfz65_0 := blk_frozen BK215.out 0; have hfz65_1 := blk_frozen BK215.out 1; have hfz65_2 := blk_frozen BK215.out 2))
              have n0_ := Aside0.mk (Kd.R_drew HO_3.out)
              have n1_ := Aside0.mk (Kd.R_drew HO_4.out)
              have n2_ := Aside0.mk (Kd.R_drew HO218.out)
              have n3_ := Aside0.mk (blk_drew BK215.out)
              have n4_ := Aside0.mk (below_drew1 HB.out)
              clear HO_3
              clear HO_4
              clear HO218
              clear BK215
              clear HB
              have HO_3 := n0_
              have HO_4 := n1_
              have HO218 := n2_
              have BK215 := n3_
              have HB := n4_
              clear n0_ n1_ n2_ n3_ n4_
              obtain ⟨Ao67, co67, eo67⟩ := Kd.R_slice HO218.out
              (first | subst eo67 | (injection eo67 with f1_ f2_ f3_; have f4_ := f1_.symm; have f5_ := f3_.symm; clear f1_ f2_ f3_; subst f4_; subst f5_))
              have p235 : 0 ≤ (0 : Int) := (by omega)
              have q235 : 0 < (t216.length : Int) := of_decide_eq_true Zz1
              obtain ⟨ad235, e235, hx235_0⟩ := Kd.at_int (Kd.R_reads' HO218.out).2.2 0 p235 q235
              cases e235
              have qi235 : (0 < t216.length) = True := eq_true (by omega)
              (try rw [show ((0 : Int)).toNat = 0 from rfl] at hx235_0)
              (try rw [Addr.add_zero'] at hx235_0)
              replace p235 := eq_true p235
              replace q235 := eq_true q235
              have p237 : 0 ≤ (1 : Int) := (by omega)
              have q237 : 1 < (t216.length : Int) := of_decide_eq_true Zz1
              obtain ⟨ad237, e237, hx237_0⟩ := Kd.at_int (Kd.R_reads' HO218.out).2.2 1 p237 q237
              obtain rfl : ad235 = ad237 := (by injection e237)
              (try simp only [show (1 : Int).toNat = 1 from rfl, Nat.reduceMul, Nat.reduceEqDiff, Go.Addr.add, ↓reduceIte] at hx237_0)
              have qi237 : (1 < t216.length) = True := eq_true (by omega)
              (try rw [show ((1 : Int)).toNat = 1 from rfl] at hx237_0)
              replace p237 := eq_true p237
              replace q237 := eq_true q237
              obtain ⟨Ao68, co68, eo68⟩ := Kd.R_slice HO_4.out
              (first | subst eo68 | (injection eo68 with f1_ f2_ f3_; have f4_ := f1_.symm; have f5_ := f3_.symm; clear f1_ f2_ f3_; subst f4_; subst f5_))
              refine start_ (n := 15) (S := fun w' => w'.cell? ad235 = some (.int .i64 (rd t216 0)) ∧ w'.cell? ⟨ad235.block, ad235.off + 1, none⟩ = some (.int .i64 (rd t216 1))) (ds := []) #[false, false, false, false, false, false, false, false, false, false, false, false, false, false, false] (by kernel_rfl) rfl rfl ⟨hx235_0, hx237_0⟩ (fun hHeld => ?_); refine with_tabW tammyref07_Text.tab25 tammyref07_Text.bits25 (fun HT_ HW_ => ?_)
              generalize w64.drew = w66 at HO_3 HO_4 HO218 BK215 HB hx235_0 hx237_0 hHeld ⊢
              refine pure_ (i := 0) (N := some 64) (v := ?_) (a' := ?_) #[true, false, false, false, false, false, false, false, false, false, false, false, false, false, false] rfl rfl (any_of HT_.out (by kernel_rfl)) (fun _ _ _ h => h) (Or.inl ⟨by rfl, ?_⟩) ?_ ?_
              rotate_left
              ·intro w'
               go_simp
               with_reducible rfl
              rotate_left
              ·simp only [Act.put, List.setIfInBounds_toArray, List.set_cons_zero, List.set_cons_succ, i64_w, i32_w]
               rfl
              refine pure_ (i := 1) (N := some 65) (v := ?_) (a' := ?_) #[true, true, false, false, false, false, false, false, false, false, false, false, false, false, false] rfl rfl (any_of HT_.out (by kernel_rfl)) (fun _ _ _ h => h) (Or.inl ⟨by rfl, ?_⟩) ?_ ?_
              rotate_left
              ·intro w'
               go_simp
               with_reducible rfl
              rotate_left
              ·simp only [Act.put, List.setIfInBounds_toArray, List.set_cons_zero, List.set_cons_succ, i64_w, i32_w]
               rfl
              refine pure_ (i := 2) (N := some 66) (v := ?_) (a' := ?_) #[true, true, true, false, false, false, false, false, false, false, false, false, false, false, false] rfl rfl (any_of HT_.out (by kernel_rfl)) (fun _ _ _ h => h) (Or.inl ⟨by rfl, ?_⟩) ?_ ?_
              rotate_left
              ·intro w'
               go_simp
               with_reducible rfl
              rotate_left
              ·simp only [Act.put, List.setIfInBounds_toArray, List.set_cons_zero, List.set_cons_succ, i64_w, i32_w]
               rfl
              refine pure_ (i := 3) (N := some 67) (v := ?_) (a' := ?_) #[true, true, true, true, false, false, false, false, false, false, false, false, false, false, false] rfl rfl (any_of HT_.out (by kernel_rfl)) (fun _ _ _ h => h) (Or.inl ⟨by rfl, ?_⟩) ?_ ?_
              rotate_left
              ·intro w'
               go_simp
               with_reducible rfl
              rotate_left
              ·simp only [Act.put, List.setIfInBounds_toArray, List.set_cons_zero, List.set_cons_succ, i64_w, i32_w]
               rfl
              refine pure_ (i := 7) (N := some 71) (v := ?_) (a' := ?_) #[true, true, true, true, false, false, false, true, false, false, false, false, false, false, false] rfl rfl (any_of HT_.out (by kernel_rfl)) (fun _ _ _ h => h) (Or.inl ⟨by rfl, ?_⟩) ?_ ?_
              rotate_left
              ·intro w'
               go_simp
               with_reducible rfl
              rotate_left
              ·simp only [Act.put, List.setIfInBounds_toArray, List.set_cons_zero, List.set_cons_succ, i64_w, i32_w]
               rfl
              refine pure_ (i := 8) (N := some 72) (v := ?_) (a' := ?_) #[true, true, true, true, false, false, false, true, true, false, false, false, false, false, false] rfl rfl (any_of HT_.out (by kernel_rfl)) (fun _ _ _ h => h) (Or.inl ⟨by rfl, ?_⟩) ?_ ?_
              rotate_left
              ·intro w'
               go_simp
               with_reducible rfl
              rotate_left
              ·simp only [Act.put, List.setIfInBounds_toArray, List.set_cons_zero, List.set_cons_succ, i64_w, i32_w]
               rfl
              refine pure_ (i := 9) (N := some 73) (v := ?_) (a' := ?_) #[true, true, true, true, false, false, false, true, true, true, false, false, false, false, false] rfl rfl (any_of HT_.out (by kernel_rfl)) (fun _ _ _ h => h) (Or.inl ⟨by rfl, ?_⟩) ?_ ?_
              rotate_left
              ·intro w'
               go_simp
               with_reducible rfl
              rotate_left
              ·simp only [Act.put, List.setIfInBounds_toArray, List.set_cons_zero, List.set_cons_succ, i64_w, i32_w]
               rfl
              refine pure_ (i := 10) (N := some 74) (v := ?_) (a' := ?_) #[true, true, true, true, false, false, false, true, true, true, true, false, false, false, false] rfl rfl (any_of HT_.out (by kernel_rfl)) (fun _ _ _ h => h) (Or.inl ⟨by rfl, ?_⟩) ?_ ?_
              rotate_left
              ·intro w'
               go_simp
               with_reducible rfl
              rotate_left
              ·simp only [Act.put, List.setIfInBounds_toArray, List.set_cons_zero, List.set_cons_succ, i64_w, i32_w]
               rfl
              refine take_ (i := 4) (N := some 68) (v := ?_) (a' := ?_) #[true, true, true, true, true, false, false, true, true, true, true, false, false, false, false] rfl rfl (take_ofW HT_.out HW_.out (by kernel_rfl)) (fun _ _ _ h => h) (Or.inl ⟨by rfl, ?_⟩) hHeld ?_ ?_
              rotate_left
              ·rintro w' ⟨s0, s1⟩
               go_simp
               with_reducible rfl
              rotate_left
              ·simp only [Act.put, List.setIfInBounds_toArray, List.set_cons_zero, List.set_cons_succ, i64_w, i32_w]
               rfl
              refine take_ (i := 11) (N := some 75) (v := ?_) (a' := ?_) #[true, true, true, true, true, false, false, true, true, true, true, true, false, false, false] rfl rfl (take_ofW HT_.out HW_.out (by kernel_rfl)) (fun _ _ _ h => h) (Or.inl ⟨by rfl, ?_⟩) hHeld ?_ ?_
              rotate_left
              ·rintro w' ⟨s0, s1⟩
               go_simp
               with_reducible rfl
              rotate_left
              ·simp only [Act.put, List.setIfInBounds_toArray, List.set_cons_zero, List.set_cons_succ, i64_w, i32_w]
               rfl
              refine one_ (i := 5) (N := some 69) #[true, true, true, true, true, true, false, true, true, true, true, true, false, false, false] rfl rfl (one_of HT_.out (by kernel_rfl)) (by decide) (fun K hK => ?_)
              refine goes_ Tryz.func30 (by kernel_rfl) rfl #[.slice (some ad214) l0.length c0, .slice Ao68 x4_1.length co68, .int .i64 (rd t216 0), .int .i64 4, .bool true] (by rfl) rfl rfl Zz2 ?_
              with_reducible refine (tammyref07_side.calls _ _ l0 _ _ x4_1 (rd t216 0) 4 true t236 _ ?side1 ?side2 ?side3 ?side4 A55.out).mono ?_
              (case side1 => repeat (first | exact (Kd.C_below HR0.out HB.out) | (with_reducible refine Kd.C_alloc ?_ _) | (with_reducible refine Kd.C_drewN ?_ _) | (with_reducible refine Kd.C_drew ?_)))
              (case side2 => exact HC0.out)
              (case side3 => repeat (first | exact (Kd.R_reads' HO_4.out).2.2 | (with_reducible refine Kd.C_alloc ?_ _) | (with_reducible refine Kd.C_drewN ?_ _) | (with_reducible refine Kd.C_drew ?_)))
              (case side4 => exact (Kd.R_reads' HO_4.out).2.1)
              rintro e w' ⟨rfl, ⟨nd, rfl⟩⟩
              refine ⟨_, rfl, ?_⟩
              refine hK.out _ _ ⟨hHeld.1, hHeld.2⟩ (fun hHeld => ?_)
              clear hK K
              refine norm_ (a' := ?_) ?_ ?_
              rotate_left
              ·show Act.put _ (some 69) _ = _
               simp only [Act.put, List.setIfInBounds_toArray, List.set_cons_zero, List.set_cons_succ, i64_w, i32_w]
               rfl
              refine pure_ (i := 6) (N := some 70) (v := ?_) (a' := ?_) #[true, true, true, true, true, true, true, true, true, true, true, true, false, false, false] rfl rfl (any_of HT_.out (by kernel_rfl)) (fun _ _ _ h => h) (Or.inl ⟨by rfl, ?_⟩) ?_ ?_
              rotate_left
              ·intro w'
               go_simp
               with_reducible rfl
              rotate_left
              ·simp only [Act.put, List.setIfInBounds_toArray, List.set_cons_zero, List.set_cons_succ, i64_w, i32_w]
               rfl
              refine one_ (i := 12) (N := some 76) #[true, true, true, true, true, true, true, true, true, true, true, true, true, false, false] rfl rfl (one_of HT_.out (by kernel_rfl)) (by decide) (fun K hK => ?_)
              refine goes_ Tryz.func30 (by kernel_rfl) rfl #[.slice (some ad214) l0.length c0, .slice Ao68 x4_1.length co68, .int .i64 (rd t216 1), .int .i64 4, .bool false] (by rfl) rfl rfl Zz2 ?_
              with_reducible refine (tammyref07_side.calls _ _ l0 _ _ x4_1 (rd t216 1) 4 false t238 _ ?side1 ?side2 ?side3 ?side4 A58.out).mono ?_
              (case side1 => repeat (first | exact (Kd.C_below HR0.out Zz5) | (with_reducible refine Kd.C_alloc ?_ _) | (with_reducible refine Kd.C_drewN ?_ _) | (with_reducible refine Kd.C_drew ?_)))
              (case side2 => exact HC0.out)
              (case side3 => repeat (first | exact (Kd.R_reads' HO_4.out).2.2 | (with_reducible refine Kd.C_alloc ?_ _) | (with_reducible refine Kd.C_drewN ?_ _) | (with_reducible refine Kd.C_drew ?_)))
              (case side4 => exact (Kd.R_reads' HO_4.out).2.1)
              rintro e w' ⟨rfl, ⟨nd, rfl⟩⟩
              refine ⟨_, rfl, ?_⟩
              refine hK.out _ _ ⟨hHeld.1, hHeld.2⟩ (fun hHeld => ?_)
              clear hK K
              refine norm_ (a' := ?_) ?_ ?_
              rotate_left
              ·show Act.put _ (some 76) _ = _
               simp only [Act.put, List.setIfInBounds_toArray, List.set_cons_zero, List.set_cons_succ, i64_w, i32_w]
               rfl
              refine pure_ (i := 13) (N := some 77) (v := ?_) (a' := ?_) #[true, true, true, true, true, true, true, true, true, true, true, true, true, true, false] rfl rfl (any_of HT_.out (by kernel_rfl)) (fun _ _ _ h => h) (Or.inl ⟨by rfl, ?_⟩) ?_ ?_
              rotate_left
              ·intro w'
               go_simp
               with_reducible rfl
              rotate_left
              ·simp only [Act.put, List.setIfInBounds_toArray, List.set_cons_zero, List.set_cons_succ, i64_w, i32_w]
               rfl
              refine pure_ (i := 14) (N := some 8) (v := ?_) (a' := ?_) #[true, true, true, true, true, true, true, true, true, true, true, true, true, true, true] rfl rfl (any_of HT_.out (by kernel_rfl)) (fun _ _ _ h => h) (Or.inl ⟨by rfl, ?_⟩) ?_ ?_
              rotate_left
              ·intro w'
               go_simp
               with_reducible rfl
              rotate_left
              ·simp only [Act.put, List.setIfInBounds_toArray, List.set_cons_zero, List.set_cons_succ, i64_w, i32_w]
               rfl
              refine done_ (done_of HT_.out (by kernel_rfl)) ?_
              try go_wp2_with (first | ((with_reducible refine gate_builtin (b := .append) (xs := #[.tmp 111, .tmp 113]) rfl ?_); at_builtin; refine Kd.R_append Kd.string (w0 := w) w.heap.size rfl (.tmp 111) (.tmp 113) 56 9 (.string ⟨#[]⟩) 16 rfl Tryz.underlying56 info9 rfl (by decide) (by omega) (.slice Ao68 x4_1.length co68) x4_1 ((t236 ++ (⟨#[124]⟩ : ByteArray)) ++ t238) [.string ((t236 ++ (⟨#[124]⟩ : ByteArray)) ++ t238)] (fun _ => True) (fun _ => False) rfl rfl ?aP (fun _ hk => hk.elim) ?aF ?aO ?aB ?aS ?aL ?_; (case aP => exact rfl); (case aB => exact Zz5); (case aF => exact (fun _ _ => trivial)); (case aO => exact (Zz31 HO_4.out)); (case aS => exact (below_size Zz5)); (case aL => have := LMc60.out; omega); intro v240 w69 ho hb hg hat; rw [← Ny239.out] at ho; have n0_ := Aside0.mk (Kd.R_over' (Zz31 HO_3.out) (Kd.R_typed (Zz31 HO_4.out)) (by decide) hg); have n1_ := Aside0.mk (blk_grown (g := gb215) (o := .cells #[.int .i64 ((rd_T38 l0 x5_1).f0), .string ((rd_T38 l0 x5_1).f1), .int .i64 ((rd_T38 l0 x5_1).f2)] 38 (0, 0)) (Zz33 BK215.out) hg (Kd.R_ne HO_4.out BK215.out (by decide))); have n2_ := Aside0.mk (Kd.R_over' (Zz31 HO218.out) (Kd.R_typed (Zz31 HO_4.out)) (by decide) hg); have n3_ := Aside0.mk (hb); have n4_ := Aside0.mk (ho); clear HO_3; clear BK215; clear HO218; clear HB; clear HO_4; have HO_3 := n0_; have BK215 := n1_; have HO218 := n2_; have HB := n3_; have HO241 := n4_; clear n0_ n1_ n2_ n3_ n4_; clear ho hb hg hat))
              go_roundg k1
              case measure => have := HK1.out; omega
              case rel => exact ⟨(y239), (wrap64 (x5_1 + 1)), Zz6, H', ⟨by have := HK1.out; omega⟩, ⟨by (with_reducible repeat (first | apply Kd.R_alloc | apply Kd.R_drewN | apply Kd.R_drew)); exact Kd.R_mono HO_3.out (fun _ hk => trivial)⟩, ⟨by (with_reducible repeat (first | apply Kd.R_alloc | apply Kd.R_drewN | apply Kd.R_drew)); exact HO241.out⟩, ⟨by repeat (first | (with_reducible first | exact HB.out | apply below_alloc | apply pw_below_drewN | apply below_drew1 | refine below_set ?_ GE215.out) | exact HB.out)⟩⟩
             ·rw [if_neg c60] at H
              exact absurd H (by simp)
            ·rw [if_neg c59] at H
             exact absurd H (by simp)
           ·rw [if_neg c57] at H
            exact absurd H (by simp)
          ·rw [if_neg c56] at H
           exact absurd H (by simp)
         ·rw [if_neg c54] at H
          exact absurd H (by simp)
        ·rw [if_neg c53] at H
         have c53b0 := beq_eq_false_iff_ne.mpr c53
         have c53b1 := bne_iff_ne.mpr c53
         by_cases c70 : ((rd_T38 l0 x5_1).f0) = 5
         ·rw [if_pos c70] at H
          have c70b0 := beq_iff_eq.mpr c70
          have c70b1 := bne_eq_false_iff_eq.mpr c70
          clear c70
          by_cases c71 : 0 < (t216.length : Int)
          ·rw [if_pos c71] at H
           have c71b0 := decide_eq_true c71
           have c71b1 : decide (0 < t216.length) = true := decide_eq_true (by omega)
           clear c71
           replace H := Option.bind_eq_some_iff.mp H
           obtain ⟨t243, A720, H⟩ := H
           replace H : (if t243.size + 1 ≤ 9223372036854775807 then (if 1 < (t216.length : Int) then ((tammyref07_side.f l0 x4_1 (rd t216 1) 5 false).bind fun t245 => (if (t243 ++ (⟨#[38]⟩ : ByteArray)).size + t245.size ≤ 9223372036854775807 then (if x4_1.length < 8796093022208 then (tammyref07_Text.l0 k1 l0 t210 (x4_1 ++ [(t243 ++ (⟨#[38]⟩ : ByteArray)) ++ t245]) (wrap64 (x5_1 + 1))) else (none)) else (none))) else (none)) else (none)) = some r := H
           have A72 := Aside0.mk A720
           clear A720
           by_cases c73 : t243.size + 1 ≤ 9223372036854775807
           ·rw [if_pos c73] at H
            have c73b0 := eq_true c73
            have c73b1 := decide_eq_true c73
            try have c73b2 : (9223372036854775807 < t243.size + 1) = False := eq_false (Nat.not_lt.2 c73)
            by_cases c74 : 1 < (t216.length : Int)
            ·rw [if_pos c74] at H
             have c74b0 := decide_eq_true c74
             have c74b1 : decide (1 < t216.length) = true := decide_eq_true (by omega)
             clear c74
             replace H := Option.bind_eq_some_iff.mp H
             obtain ⟨t245, A750, H⟩ := H
             replace H : (if (t243 ++ (⟨#[38]⟩ : ByteArray)).size + t245.size ≤ 9223372036854775807 then (if x4_1.length < 8796093022208 then (tammyref07_Text.l0 k1 l0 t210 (x4_1 ++ [(t243 ++ (⟨#[38]⟩ : ByteArray)) ++ t245]) (wrap64 (x5_1 + 1))) else (none)) else (none)) = some r := H
             have A75 := Aside0.mk A750
             clear A750
             by_cases c76 : (t243 ++ (⟨#[38]⟩ : ByteArray)).size + t245.size ≤ 9223372036854775807
             ·rw [if_pos c76] at H
              have c76b0 := eq_true c76
              have c76b1 := decide_eq_true c76
              try have c76b2 : (9223372036854775807 < (t243 ++ (⟨#[38]⟩ : ByteArray)).size + t245.size) = False := eq_false (Nat.not_lt.2 c76)
              try (have c76b3 := c76b2; simp only [ByteArray.size_append, show (⟨#[40]⟩ : ByteArray).size = 1 from rfl, show (⟨#[41]⟩ : ByteArray).size = 1 from rfl, show (⟨#[44]⟩ : ByteArray).size = 1 from rfl, show (⟨#[124]⟩ : ByteArray).size = 1 from rfl, show (⟨#[38]⟩ : ByteArray).size = 1 from rfl, show (⟨#[126]⟩ : ByteArray).size = 1 from rfl] at c76b3)
              by_cases c77 : x4_1.length < 8796093022208
              ·rw [if_pos c77] at H
               have LMc77 := Aside0.mk c77
               clear c77
               obtain ⟨y246, hy246⟩ : ∃ y_ : List ByteArray, y_ = (x4_1 ++ [(t243 ++ (⟨#[38]⟩ : ByteArray)) ++ t245]) := ⟨_, rfl⟩
               replace H : (tammyref07_Text.l0 k1 l0 t210 y246 (wrap64 (x5_1 + 1))) = some r := by first | (rw [hy246]; with_reducible exact H) | (have H2_ := (Option.bind_some _ _).symm.trans H; rw [hy246]; with_reducible exact H2_) | (have H2_ := (Option.bind_some _ _).symm.trans H; with_reducible exact H2_) | with_reducible exact H | (rw [hy246]; exact H) | exact H
               have Ny246 := Aside0.mk hy246
               clear hy246
               have H' := Aside0.mk H
               clear H
               have p214 : 0 ≤ (x5_1 : Int) := of_decide_eq_true Zz1
               have q214 : x5_1 < (l0.length : Int) := of_decide_eq_true Zz1
               obtain ⟨ad214, e214, hx214_0, hx214_1, hx214_2⟩ := at_T38 HR0.out x5_1 p214 q214
               cases e214
               replace hx214_0 := (HB.out.cell (World.block_lt_of_cell? w _ hx214_0)).trans hx214_0
               replace hx214_1 := (HB.out.cell (World.block_lt_of_cell? w _ hx214_1)).trans hx214_1
               replace hx214_2 := (HB.out.cell (World.block_lt_of_cell? w _ hx214_2)).trans hx214_2
               replace p214 := eq_true p214
               replace q214 := eq_true q214
               try go_wp2_with (first | ((with_reducible refine gate_dst (N := 6) rfl ?_); refine box_event ?hg (N := 6) ?hd (cs := #[.int .i64 0, .string (⟨#[]⟩ : ByteArray), .int .i64 0]) (t := 38) ?hr ?_; (case hd => rfl); (case hg => rfl); (case hr => first | (go_simp; done) | (go_simp; rfl)); intro gb215 hg w78 hbox hb; have n0_ := Aside0.mk (Kd.R_below (Zz31 HO_3.out) hb); have n1_ := Aside0.mk (Kd.R_below (Zz31 HO_4.out) hb); have n2_ := Aside0.mk (below_step Zz0 hb); have n3_ := Aside0.mk (hbox); have n4_ := Aside0.mk ((Zz4 : w.heap.size ≤ gb215)); have n5_ := Aside0.mk ((Zz4 : w.heap.size ≤ gb215)); clear HO_3; clear HO_4; clear HB; have HO_3 := n0_; have HO_4 := n1_; have HB := n2_; have BK215 := n3_; have GW215 := n4_; have GE215 := n5_; clear n0_ n1_ n2_ n3_ n4_ n5_; clear hb hbox hg; have hcz79_0 : w78.cell? ⟨gb215, 0, none⟩ = some (.int .i64 0) := (blk_cell BK215.out 0).trans rfl; have hcz79_1 : w78.cell? ⟨gb215, 1, none⟩ = some (.string (⟨#[]⟩ : ByteArray)) := (blk_cell BK215.out 1).trans rfl; have hcz79_2 : w78.cell? ⟨gb215, 2, none⟩ = some (.int .i64 0) := (blk_cell BK215.out 2).trans rfl; have hfz79_0 := blk_frozen BK215.out 0; have hfz79_1 := blk_frozen BK215.out 1; have hfz79_2 := blk_frozen BK215.out 2; obtain ⟨Ao80, co80, eo80⟩ := Kd.R_slice HO_3.out; subst eo80) | ((with_reducible refine gate_callee (f := 29) rfl ?_); refine goesL_ (some 25) rfl rfl Tryz.func29 (by kernel_rfl) rfl #[.slice (some ad214) l0.length c0, .slice Ao80 t210.length co80, .int .i64 x5_1] rfl Zz2 ?_; (with_reducible refine (tammyref07_Kids.calls k1 _ _ l0 _ _ t210 x5_1 t216 _ ?side1 ?side2 ?side3 ?side4 A6.out).mono ?_); (case side1 => exact Kd.C_below HR0.out Zz5); (case side2 => exact HC0.out); (case side3 => refine (Kd.R_reads' (e := 3) (base := w.heap.size) (ok := fun k_ => True) (n := t210.length) (c := co80) ?_).2.2; exact Zz3); (case side4 => exact (Kd.R_reads' HO_3.out).2.1); rintro e w81 ⟨v217, rfl, ho0, hb⟩; refine ⟨_, rfl, ?_⟩; have n0_ := Aside0.mk (Kd.R_elder' Zz3 (Kd.R_base ho0) hb); have n1_ := Aside0.mk (Kd.R_below Zz8 hb); have n2_ := Aside0.mk (Kd.R_lower (Kd.R_new' ho0 (Kd.R_lt Zz3)) (below_size Zz5)); have n3_ := Aside0.mk (blk_below (g := gb215) (o := .cells #[.int .i64 ((rd_T38 l0 x5_1).f0), .string ((rd_T38 l0 x5_1).f1), .int .i64 ((rd_T38 l0 x5_1).f2)] 38 (0, 0)) Zz7 hb); have n4_ := Aside0.mk (below_step Zz5 hb); clear HO_3; clear HO_4; clear BK215; clear HB; have HO_3 := n0_; have HO_4 := n1_; have HO218 := n2_; have BK215 := n3_; have HB := n4_; clear n0_ n1_ n2_ n3_ n4_; (try clear hb); (try clear hb2); (try clear hk); (try clear hi); (try clear ho0); have hcz82_0 : w81.cell? ⟨gb215, 0, none⟩ = some (.int .i64 ((rd_T38 l0 x5_1).f0)) := (blk_cell BK215.out 0).trans rfl; have hcz82_1 : w81.cell? ⟨gb215, 1, none⟩ = some (.string ((rd_T38 l0 x5_1).f1)) := (blk_cell BK215.out 1).trans rfl; have hcz82_2 : w81.cell? ⟨gb215, 2, none⟩ = some (.int .i64 ((rd_T38 l0 x5_1).f2)) := (blk_cell BK215.out 2).trans rfl; have hfz82_0 := blk_frozen BK215.out 0; have hfz82_1 := blk_frozen BK215.out 1; have hfz82_2 := blk_frozen BK215.out 2))
               have n0_ := Aside0.mk (Kd.R_drew HO_3.out)
               have n1_ := Aside0.mk (Kd.R_drew HO_4.out)
               have n2_ := Aside0.mk (Kd.R_drew HO218.out)
               have n3_ := Aside0.mk (blk_drew BK215.out)
               have n4_ := Aside0.mk (below_drew1 HB.out)
               clear HO_3
               clear HO_4
               clear HO218
               clear BK215
               clear HB
               have HO_3 := n0_
               have HO_4 := n1_
               have HO218 := n2_
               have BK215 := n3_
               have HB := n4_
               clear n0_ n1_ n2_ n3_ n4_
               obtain ⟨Ao84, co84, eo84⟩ := Kd.R_slice HO218.out
               (first | subst eo84 | (injection eo84 with f1_ f2_ f3_; have f4_ := f1_.symm; have f5_ := f3_.symm; clear f1_ f2_ f3_; subst f4_; subst f5_))
               have p242 : 0 ≤ (0 : Int) := (by omega)
               have q242 : 0 < (t216.length : Int) := of_decide_eq_true Zz1
               obtain ⟨ad242, e242, hx242_0⟩ := Kd.at_int (Kd.R_reads' HO218.out).2.2 0 p242 q242
               cases e242
               have qi242 : (0 < t216.length) = True := eq_true (by omega)
               (try rw [show ((0 : Int)).toNat = 0 from rfl] at hx242_0)
               (try rw [Addr.add_zero'] at hx242_0)
               replace p242 := eq_true p242
               replace q242 := eq_true q242
               have p244 : 0 ≤ (1 : Int) := (by omega)
               have q244 : 1 < (t216.length : Int) := of_decide_eq_true Zz1
               obtain ⟨ad244, e244, hx244_0⟩ := Kd.at_int (Kd.R_reads' HO218.out).2.2 1 p244 q244
               obtain rfl : ad242 = ad244 := (by injection e244)
               (try simp only [show (1 : Int).toNat = 1 from rfl, Nat.reduceMul, Nat.reduceEqDiff, Go.Addr.add, ↓reduceIte] at hx244_0)
               have qi244 : (1 < t216.length) = True := eq_true (by omega)
               (try rw [show ((1 : Int)).toNat = 1 from rfl] at hx244_0)
               replace p244 := eq_true p244
               replace q244 := eq_true q244
               obtain ⟨Ao85, co85, eo85⟩ := Kd.R_slice HO_4.out
               (first | subst eo85 | (injection eo85 with f1_ f2_ f3_; have f4_ := f1_.symm; have f5_ := f3_.symm; clear f1_ f2_ f3_; subst f4_; subst f5_))
               refine start_ (n := 15) (S := fun w' => w'.cell? ad242 = some (.int .i64 (rd t216 0)) ∧ w'.cell? ⟨ad242.block, ad242.off + 1, none⟩ = some (.int .i64 (rd t216 1))) (ds := []) #[false, false, false, false, false, false, false, false, false, false, false, false, false, false, false] (by kernel_rfl) rfl rfl ⟨hx242_0, hx244_0⟩ (fun hHeld => ?_); refine with_tabW tammyref07_Text.tab27 tammyref07_Text.bits27 (fun HT_ HW_ => ?_)
               generalize w81.drew = w83 at HO_3 HO_4 HO218 BK215 HB hx242_0 hx244_0 hHeld ⊢
               refine pure_ (i := 0) (N := some 80) (v := ?_) (a' := ?_) #[true, false, false, false, false, false, false, false, false, false, false, false, false, false, false] rfl rfl (any_of HT_.out (by kernel_rfl)) (fun _ _ _ h => h) (Or.inl ⟨by rfl, ?_⟩) ?_ ?_
               rotate_left
               ·intro w'
                go_simp
                with_reducible rfl
               rotate_left
               ·simp only [Act.put, List.setIfInBounds_toArray, List.set_cons_zero, List.set_cons_succ, i64_w, i32_w]
                rfl
               refine pure_ (i := 1) (N := some 81) (v := ?_) (a' := ?_) #[true, true, false, false, false, false, false, false, false, false, false, false, false, false, false] rfl rfl (any_of HT_.out (by kernel_rfl)) (fun _ _ _ h => h) (Or.inl ⟨by rfl, ?_⟩) ?_ ?_
               rotate_left
               ·intro w'
                go_simp
                with_reducible rfl
               rotate_left
               ·simp only [Act.put, List.setIfInBounds_toArray, List.set_cons_zero, List.set_cons_succ, i64_w, i32_w]
                rfl
               refine pure_ (i := 2) (N := some 82) (v := ?_) (a' := ?_) #[true, true, true, false, false, false, false, false, false, false, false, false, false, false, false] rfl rfl (any_of HT_.out (by kernel_rfl)) (fun _ _ _ h => h) (Or.inl ⟨by rfl, ?_⟩) ?_ ?_
               rotate_left
               ·intro w'
                go_simp
                with_reducible rfl
               rotate_left
               ·simp only [Act.put, List.setIfInBounds_toArray, List.set_cons_zero, List.set_cons_succ, i64_w, i32_w]
                rfl
               refine pure_ (i := 3) (N := some 83) (v := ?_) (a' := ?_) #[true, true, true, true, false, false, false, false, false, false, false, false, false, false, false] rfl rfl (any_of HT_.out (by kernel_rfl)) (fun _ _ _ h => h) (Or.inl ⟨by rfl, ?_⟩) ?_ ?_
               rotate_left
               ·intro w'
                go_simp
                with_reducible rfl
               rotate_left
               ·simp only [Act.put, List.setIfInBounds_toArray, List.set_cons_zero, List.set_cons_succ, i64_w, i32_w]
                rfl
               refine pure_ (i := 7) (N := some 87) (v := ?_) (a' := ?_) #[true, true, true, true, false, false, false, true, false, false, false, false, false, false, false] rfl rfl (any_of HT_.out (by kernel_rfl)) (fun _ _ _ h => h) (Or.inl ⟨by rfl, ?_⟩) ?_ ?_
               rotate_left
               ·intro w'
                go_simp
                with_reducible rfl
               rotate_left
               ·simp only [Act.put, List.setIfInBounds_toArray, List.set_cons_zero, List.set_cons_succ, i64_w, i32_w]
                rfl
               refine pure_ (i := 8) (N := some 88) (v := ?_) (a' := ?_) #[true, true, true, true, false, false, false, true, true, false, false, false, false, false, false] rfl rfl (any_of HT_.out (by kernel_rfl)) (fun _ _ _ h => h) (Or.inl ⟨by rfl, ?_⟩) ?_ ?_
               rotate_left
               ·intro w'
                go_simp
                with_reducible rfl
               rotate_left
               ·simp only [Act.put, List.setIfInBounds_toArray, List.set_cons_zero, List.set_cons_succ, i64_w, i32_w]
                rfl
               refine pure_ (i := 9) (N := some 89) (v := ?_) (a' := ?_) #[true, true, true, true, false, false, false, true, true, true, false, false, false, false, false] rfl rfl (any_of HT_.out (by kernel_rfl)) (fun _ _ _ h => h) (Or.inl ⟨by rfl, ?_⟩) ?_ ?_
               rotate_left
               ·intro w'
                go_simp
                with_reducible rfl
               rotate_left
               ·simp only [Act.put, List.setIfInBounds_toArray, List.set_cons_zero, List.set_cons_succ, i64_w, i32_w]
                rfl
               refine pure_ (i := 10) (N := some 90) (v := ?_) (a' := ?_) #[true, true, true, true, false, false, false, true, true, true, true, false, false, false, false] rfl rfl (any_of HT_.out (by kernel_rfl)) (fun _ _ _ h => h) (Or.inl ⟨by rfl, ?_⟩) ?_ ?_
               rotate_left
               ·intro w'
                go_simp
                with_reducible rfl
               rotate_left
               ·simp only [Act.put, List.setIfInBounds_toArray, List.set_cons_zero, List.set_cons_succ, i64_w, i32_w]
                rfl
               refine take_ (i := 4) (N := some 84) (v := ?_) (a' := ?_) #[true, true, true, true, true, false, false, true, true, true, true, false, false, false, false] rfl rfl (take_ofW HT_.out HW_.out (by kernel_rfl)) (fun _ _ _ h => h) (Or.inl ⟨by rfl, ?_⟩) hHeld ?_ ?_
               rotate_left
               ·rintro w' ⟨s0, s1⟩
                go_simp
                with_reducible rfl
               rotate_left
               ·simp only [Act.put, List.setIfInBounds_toArray, List.set_cons_zero, List.set_cons_succ, i64_w, i32_w]
                rfl
               refine take_ (i := 11) (N := some 91) (v := ?_) (a' := ?_) #[true, true, true, true, true, false, false, true, true, true, true, true, false, false, false] rfl rfl (take_ofW HT_.out HW_.out (by kernel_rfl)) (fun _ _ _ h => h) (Or.inl ⟨by rfl, ?_⟩) hHeld ?_ ?_
               rotate_left
               ·rintro w' ⟨s0, s1⟩
                go_simp
                with_reducible rfl
               rotate_left
               ·simp only [Act.put, List.setIfInBounds_toArray, List.set_cons_zero, List.set_cons_succ, i64_w, i32_w]
                rfl
               refine one_ (i := 5) (N := some 85) #[true, true, true, true, true, true, false, true, true, true, true, true, false, false, false] rfl rfl (one_of HT_.out (by kernel_rfl)) (by decide) (fun K hK => ?_)
               refine goes_ Tryz.func30 (by kernel_rfl) rfl #[.slice (some ad214) l0.length c0, .slice Ao85 x4_1.length co85, .int .i64 (rd t216 0), .int .i64 5, .bool true] (by rfl) rfl rfl Zz2 ?_
               with_reducible refine (tammyref07_side.calls _ _ l0 _ _ x4_1 (rd t216 0) 5 true t243 _ ?side1 ?side2 ?side3 ?side4 A72.out).mono ?_
               (case side1 => repeat (first | exact (Kd.C_below HR0.out HB.out) | (with_reducible refine Kd.C_alloc ?_ _) | (with_reducible refine Kd.C_drewN ?_ _) | (with_reducible refine Kd.C_drew ?_)))
               (case side2 => exact HC0.out)
               (case side3 => repeat (first | exact (Kd.R_reads' HO_4.out).2.2 | (with_reducible refine Kd.C_alloc ?_ _) | (with_reducible refine Kd.C_drewN ?_ _) | (with_reducible refine Kd.C_drew ?_)))
               (case side4 => exact (Kd.R_reads' HO_4.out).2.1)
               rintro e w' ⟨rfl, ⟨nd, rfl⟩⟩
               refine ⟨_, rfl, ?_⟩
               refine hK.out _ _ ⟨hHeld.1, hHeld.2⟩ (fun hHeld => ?_)
               clear hK K
               refine norm_ (a' := ?_) ?_ ?_
               rotate_left
               ·show Act.put _ (some 85) _ = _
                simp only [Act.put, List.setIfInBounds_toArray, List.set_cons_zero, List.set_cons_succ, i64_w, i32_w]
                rfl
               refine pure_ (i := 6) (N := some 86) (v := ?_) (a' := ?_) #[true, true, true, true, true, true, true, true, true, true, true, true, false, false, false] rfl rfl (any_of HT_.out (by kernel_rfl)) (fun _ _ _ h => h) (Or.inl ⟨by rfl, ?_⟩) ?_ ?_
               rotate_left
               ·intro w'
                go_simp
                with_reducible rfl
               rotate_left
               ·simp only [Act.put, List.setIfInBounds_toArray, List.set_cons_zero, List.set_cons_succ, i64_w, i32_w]
                rfl
               refine one_ (i := 12) (N := some 92) #[true, true, true, true, true, true, true, true, true, true, true, true, true, false, false] rfl rfl (one_of HT_.out (by kernel_rfl)) (by decide) (fun K hK => ?_)
               refine goes_ Tryz.func30 (by kernel_rfl) rfl #[.slice (some ad214) l0.length c0, .slice Ao85 x4_1.length co85, .int .i64 (rd t216 1), .int .i64 5, .bool false] (by rfl) rfl rfl Zz2 ?_
               with_reducible refine (tammyref07_side.calls _ _ l0 _ _ x4_1 (rd t216 1) 5 false t245 _ ?side1 ?side2 ?side3 ?side4 A75.out).mono ?_
               (case side1 => repeat (first | exact (Kd.C_below HR0.out Zz5) | (with_reducible refine Kd.C_alloc ?_ _) | (with_reducible refine Kd.C_drewN ?_ _) | (with_reducible refine Kd.C_drew ?_)))
               (case side2 => exact HC0.out)
               (case side3 => repeat (first | exact (Kd.R_reads' HO_4.out).2.2 | (with_reducible refine Kd.C_alloc ?_ _) | (with_reducible refine Kd.C_drewN ?_ _) | (with_reducible refine Kd.C_drew ?_)))
               (case side4 => exact (Kd.R_reads' HO_4.out).2.1)
               rintro e w' ⟨rfl, ⟨nd, rfl⟩⟩
               refine ⟨_, rfl, ?_⟩
               refine hK.out _ _ ⟨hHeld.1, hHeld.2⟩ (fun hHeld => ?_)
               clear hK K
               refine norm_ (a' := ?_) ?_ ?_
               rotate_left
               ·show Act.put _ (some 92) _ = _
                simp only [Act.put, List.setIfInBounds_toArray, List.set_cons_zero, List.set_cons_succ, i64_w, i32_w]
                rfl
               refine pure_ (i := 13) (N := some 93) (v := ?_) (a' := ?_) #[true, true, true, true, true, true, true, true, true, true, true, true, true, true, false] rfl rfl (any_of HT_.out (by kernel_rfl)) (fun _ _ _ h => h) (Or.inl ⟨by rfl, ?_⟩) ?_ ?_
               rotate_left
               ·intro w'
                go_simp
                with_reducible rfl
               rotate_left
               ·simp only [Act.put, List.setIfInBounds_toArray, List.set_cons_zero, List.set_cons_succ, i64_w, i32_w]
                rfl
               refine pure_ (i := 14) (N := some 8) (v := ?_) (a' := ?_) #[true, true, true, true, true, true, true, true, true, true, true, true, true, true, true] rfl rfl (any_of HT_.out (by kernel_rfl)) (fun _ _ _ h => h) (Or.inl ⟨by rfl, ?_⟩) ?_ ?_
               rotate_left
               ·intro w'
                go_simp
                with_reducible rfl
               rotate_left
               ·simp only [Act.put, List.setIfInBounds_toArray, List.set_cons_zero, List.set_cons_succ, i64_w, i32_w]
                rfl
               refine done_ (done_of HT_.out (by kernel_rfl)) ?_
               try go_wp2_with (first | ((with_reducible refine gate_builtin (b := .append) (xs := #[.tmp 111, .tmp 113]) rfl ?_); at_builtin; refine Kd.R_append Kd.string (w0 := w) w.heap.size rfl (.tmp 111) (.tmp 113) 56 9 (.string ⟨#[]⟩) 16 rfl Tryz.underlying56 info9 rfl (by decide) (by omega) (.slice Ao85 x4_1.length co85) x4_1 ((t243 ++ (⟨#[38]⟩ : ByteArray)) ++ t245) [.string ((t243 ++ (⟨#[38]⟩ : ByteArray)) ++ t245)] (fun _ => True) (fun _ => False) rfl rfl ?aP (fun _ hk => hk.elim) ?aF ?aO ?aB ?aS ?aL ?_; (case aP => exact rfl); (case aB => exact Zz5); (case aF => exact (fun _ _ => trivial)); (case aO => exact (Zz31 HO_4.out)); (case aS => exact (below_size Zz5)); (case aL => have := LMc77.out; omega); intro v247 w86 ho hb hg hat; rw [← Ny246.out] at ho; have n0_ := Aside0.mk (Kd.R_over' (Zz31 HO_3.out) (Kd.R_typed (Zz31 HO_4.out)) (by decide) hg); have n1_ := Aside0.mk (blk_grown (g := gb215) (o := .cells #[.int .i64 ((rd_T38 l0 x5_1).f0), .string ((rd_T38 l0 x5_1).f1), .int .i64 ((rd_T38 l0 x5_1).f2)] 38 (0, 0)) (Zz33 BK215.out) hg (Kd.R_ne HO_4.out BK215.out (by decide))); have n2_ := Aside0.mk (Kd.R_over' (Zz31 HO218.out) (Kd.R_typed (Zz31 HO_4.out)) (by decide) hg); have n3_ := Aside0.mk (hb); have n4_ := Aside0.mk (ho); clear HO_3; clear BK215; clear HO218; clear HB; clear HO_4; have HO_3 := n0_; have BK215 := n1_; have HO218 := n2_; have HB := n3_; have HO248 := n4_; clear n0_ n1_ n2_ n3_ n4_; clear ho hb hg hat))
               go_roundg k1
               case measure => have := HK1.out; omega
               case rel => exact ⟨(y246), (wrap64 (x5_1 + 1)), Zz6, H', ⟨by have := HK1.out; omega⟩, ⟨by (with_reducible repeat (first | apply Kd.R_alloc | apply Kd.R_drewN | apply Kd.R_drew)); exact Kd.R_mono HO_3.out (fun _ hk => trivial)⟩, ⟨by (with_reducible repeat (first | apply Kd.R_alloc | apply Kd.R_drewN | apply Kd.R_drew)); exact HO248.out⟩, ⟨by repeat (first | (with_reducible first | exact HB.out | apply below_alloc | apply pw_below_drewN | apply below_drew1 | refine below_set ?_ GE215.out) | exact HB.out)⟩⟩
              ·rw [if_neg c77] at H
               exact absurd H (by simp)
             ·rw [if_neg c76] at H
              exact absurd H (by simp)
            ·rw [if_neg c74] at H
             exact absurd H (by simp)
           ·rw [if_neg c73] at H
            exact absurd H (by simp)
          ·rw [if_neg c71] at H
           exact absurd H (by simp)
         ·rw [if_neg c70] at H
          have c70b0 := beq_eq_false_iff_ne.mpr c70
          have c70b1 := bne_iff_ne.mpr c70
          by_cases c87 : ((rd_T38 l0 x5_1).f0) = 6
          ·rw [if_pos c87] at H
           have c87b0 := beq_iff_eq.mpr c87
           have c87b1 := bne_eq_false_iff_eq.mpr c87
           clear c87
           by_cases c88 : ((rd_T38 l0 x5_1).f1).size + 1 ≤ 9223372036854775807
           ·rw [if_pos c88] at H
            have c88b0 := eq_true c88
            have c88b1 := decide_eq_true c88
            try have c88b2 : (9223372036854775807 < ((rd_T38 l0 x5_1).f1).size + 1) = False := eq_false (Nat.not_lt.2 c88)
            replace H := Option.bind_eq_some_iff.mp H
            obtain ⟨t249, A890, H⟩ := H
            replace H : (if (((rd_T38 l0 x5_1).f1) ++ (⟨#[126]⟩ : ByteArray)).size + t249.size ≤ 9223372036854775807 then (if ((((rd_T38 l0 x5_1).f1) ++ (⟨#[126]⟩ : ByteArray)) ++ t249).size + 1 ≤ 9223372036854775807 then (if 0 < (t216.length : Int) then (if 0 ≤ (rd t216 0) then (if (rd t216 0) < (x4_1.length : Int) then (if (((((rd_T38 l0 x5_1).f1) ++ (⟨#[126]⟩ : ByteArray)) ++ t249) ++ (⟨#[40]⟩ : ByteArray)).size + (rdOf ByteArray.empty x4_1 (rd t216 0)).size ≤ 9223372036854775807 then (if ((((((rd_T38 l0 x5_1).f1) ++ (⟨#[126]⟩ : ByteArray)) ++ t249) ++ (⟨#[40]⟩ : ByteArray)) ++ (rdOf ByteArray.empty x4_1 (rd t216 0))).size + 1 ≤ 9223372036854775807 then (if x4_1.length < 8796093022208 then (tammyref07_Text.l0 k1 l0 t210 (x4_1 ++ [((((((rd_T38 l0 x5_1).f1) ++ (⟨#[126]⟩ : ByteArray)) ++ t249) ++ (⟨#[40]⟩ : ByteArray)) ++ (rdOf ByteArray.empty x4_1 (rd t216 0))) ++ (⟨#[41]⟩ : ByteArray)]) (wrap64 (x5_1 + 1))) else (none)) else (none)) else (none)) else (none)) else (none)) else (none)) else (none)) else (none)) = some r := H
            have A89 := Aside0.mk A890
            clear A890
            by_cases c90 : (((rd_T38 l0 x5_1).f1) ++ (⟨#[126]⟩ : ByteArray)).size + t249.size ≤ 9223372036854775807
            ·rw [if_pos c90] at H
             have c90b0 := eq_true c90
             have c90b1 := decide_eq_true c90
             try have c90b2 : (9223372036854775807 < (((rd_T38 l0 x5_1).f1) ++ (⟨#[126]⟩ : ByteArray)).size + t249.size) = False := eq_false (Nat.not_lt.2 c90)
             try (have c90b3 := c90b2; simp only [ByteArray.size_append, show (⟨#[40]⟩ : ByteArray).size = 1 from rfl, show (⟨#[41]⟩ : ByteArray).size = 1 from rfl, show (⟨#[44]⟩ : ByteArray).size = 1 from rfl, show (⟨#[124]⟩ : ByteArray).size = 1 from rfl, show (⟨#[38]⟩ : ByteArray).size = 1 from rfl, show (⟨#[126]⟩ : ByteArray).size = 1 from rfl] at c90b3)
             by_cases c91 : ((((rd_T38 l0 x5_1).f1) ++ (⟨#[126]⟩ : ByteArray)) ++ t249).size + 1 ≤ 9223372036854775807
             ·rw [if_pos c91] at H
              have c91b0 := eq_true c91
              have c91b1 := decide_eq_true c91
              try have c91b2 : (9223372036854775807 < ((((rd_T38 l0 x5_1).f1) ++ (⟨#[126]⟩ : ByteArray)) ++ t249).size + 1) = False := eq_false (Nat.not_lt.2 c91)
              try (have c91b3 := c91b2; simp only [ByteArray.size_append, show (⟨#[40]⟩ : ByteArray).size = 1 from rfl, show (⟨#[41]⟩ : ByteArray).size = 1 from rfl, show (⟨#[44]⟩ : ByteArray).size = 1 from rfl, show (⟨#[124]⟩ : ByteArray).size = 1 from rfl, show (⟨#[38]⟩ : ByteArray).size = 1 from rfl, show (⟨#[126]⟩ : ByteArray).size = 1 from rfl] at c91b3)
              by_cases c92 : 0 < (t216.length : Int)
              ·rw [if_pos c92] at H
               have c92b0 := decide_eq_true c92
               have c92b1 : decide (0 < t216.length) = true := decide_eq_true (by omega)
               clear c92
               by_cases c93 : 0 ≤ (rd t216 0)
               ·rw [if_pos c93] at H
                have c93b0 := decide_eq_true c93
                clear c93
                by_cases c94 : (rd t216 0) < (x4_1.length : Int)
                ·rw [if_pos c94] at H
                 have c94b0 := decide_eq_true c94
                 clear c94
                 by_cases c95 : (((((rd_T38 l0 x5_1).f1) ++ (⟨#[126]⟩ : ByteArray)) ++ t249) ++ (⟨#[40]⟩ : ByteArray)).size + (rdOf ByteArray.empty x4_1 (rd t216 0)).size ≤ 9223372036854775807
                 ·rw [if_pos c95] at H
                  have c95b0 := eq_true c95
                  have c95b1 := decide_eq_true c95
                  try have c95b2 : (9223372036854775807 < (((((rd_T38 l0 x5_1).f1) ++ (⟨#[126]⟩ : ByteArray)) ++ t249) ++ (⟨#[40]⟩ : ByteArray)).size + (rdOf ByteArray.empty x4_1 (rd t216 0)).size) = False := eq_false (Nat.not_lt.2 c95)
                  try (have c95b3 := c95b2; simp only [ByteArray.size_append, show (⟨#[40]⟩ : ByteArray).size = 1 from rfl, show (⟨#[41]⟩ : ByteArray).size = 1 from rfl, show (⟨#[44]⟩ : ByteArray).size = 1 from rfl, show (⟨#[124]⟩ : ByteArray).size = 1 from rfl, show (⟨#[38]⟩ : ByteArray).size = 1 from rfl, show (⟨#[126]⟩ : ByteArray).size = 1 from rfl] at c95b3)
                  by_cases c96 : ((((((rd_T38 l0 x5_1).f1) ++ (⟨#[126]⟩ : ByteArray)) ++ t249) ++ (⟨#[40]⟩ : ByteArray)) ++ (rdOf ByteArray.empty x4_1 (rd t216 0))).size + 1 ≤ 9223372036854775807
                  ·rw [if_pos c96] at H
                   have c96b0 := eq_true c96
                   have c96b1 := decide_eq_true c96
                   try have c96b2 : (9223372036854775807 < ((((((rd_T38 l0 x5_1).f1) ++ (⟨#[126]⟩ : ByteArray)) ++ t249) ++ (⟨#[40]⟩ : ByteArray)) ++ (rdOf ByteArray.empty x4_1 (rd t216 0))).size + 1) = False := eq_false (Nat.not_lt.2 c96)
                   try (have c96b3 := c96b2; simp only [ByteArray.size_append, show (⟨#[40]⟩ : ByteArray).size = 1 from rfl, show (⟨#[41]⟩ : ByteArray).size = 1 from rfl, show (⟨#[44]⟩ : ByteArray).size = 1 from rfl, show (⟨#[124]⟩ : ByteArray).size = 1 from rfl, show (⟨#[38]⟩ : ByteArray).size = 1 from rfl, show (⟨#[126]⟩ : ByteArray).size = 1 from rfl] at c96b3)
                   by_cases c97 : x4_1.length < 8796093022208
                   ·rw [if_pos c97] at H
                    have LMc97 := Aside0.mk c97
                    clear c97
                    obtain ⟨y252, hy252⟩ : ∃ y_ : List ByteArray, y_ = (x4_1 ++ [((((((rd_T38 l0 x5_1).f1) ++ (⟨#[126]⟩ : ByteArray)) ++ t249) ++ (⟨#[40]⟩ : ByteArray)) ++ (rdOf ByteArray.empty x4_1 (rd t216 0))) ++ (⟨#[41]⟩ : ByteArray)]) := ⟨_, rfl⟩
                    replace H : (tammyref07_Text.l0 k1 l0 t210 y252 (wrap64 (x5_1 + 1))) = some r := by first | (rw [hy252]; with_reducible exact H) | (have H2_ := (Option.bind_some _ _).symm.trans H; rw [hy252]; with_reducible exact H2_) | (have H2_ := (Option.bind_some _ _).symm.trans H; with_reducible exact H2_) | with_reducible exact H | (rw [hy252]; exact H) | exact H
                    have Ny252 := Aside0.mk hy252
                    clear hy252
                    have H' := Aside0.mk H
                    clear H
                    have p214 : 0 ≤ (x5_1 : Int) := of_decide_eq_true Zz1
                    have q214 : x5_1 < (l0.length : Int) := of_decide_eq_true Zz1
                    obtain ⟨ad214, e214, hx214_0, hx214_1, hx214_2⟩ := at_T38 HR0.out x5_1 p214 q214
                    cases e214
                    replace hx214_0 := (HB.out.cell (World.block_lt_of_cell? w _ hx214_0)).trans hx214_0
                    replace hx214_1 := (HB.out.cell (World.block_lt_of_cell? w _ hx214_1)).trans hx214_1
                    replace hx214_2 := (HB.out.cell (World.block_lt_of_cell? w _ hx214_2)).trans hx214_2
                    replace p214 := eq_true p214
                    replace q214 := eq_true q214
                    try go_wp2_with (first | ((with_reducible refine gate_dst (N := 6) rfl ?_); refine box_event ?hg (N := 6) ?hd (cs := #[.int .i64 0, .string (⟨#[]⟩ : ByteArray), .int .i64 0]) (t := 38) ?hr ?_; (case hd => rfl); (case hg => rfl); (case hr => first | (go_simp; done) | (go_simp; rfl)); intro gb215 hg w98 hbox hb; have n0_ := Aside0.mk (Kd.R_below (Zz31 HO_3.out) hb); have n1_ := Aside0.mk (Kd.R_below (Zz31 HO_4.out) hb); have n2_ := Aside0.mk (below_step Zz0 hb); have n3_ := Aside0.mk (hbox); have n4_ := Aside0.mk ((Zz4 : w.heap.size ≤ gb215)); have n5_ := Aside0.mk ((Zz4 : w.heap.size ≤ gb215)); clear HO_3; clear HO_4; clear HB; have HO_3 := n0_; have HO_4 := n1_; have HB := n2_; have BK215 := n3_; have GW215 := n4_; have GE215 := n5_; clear n0_ n1_ n2_ n3_ n4_ n5_; clear hb hbox hg; have hcz99_0 : w98.cell? ⟨gb215, 0, none⟩ = some (.int .i64 0) := (blk_cell BK215.out 0).trans rfl; have hcz99_1 : w98.cell? ⟨gb215, 1, none⟩ = some (.string (⟨#[]⟩ : ByteArray)) := (blk_cell BK215.out 1).trans rfl; have hcz99_2 : w98.cell? ⟨gb215, 2, none⟩ = some (.int .i64 0) := (blk_cell BK215.out 2).trans rfl; have hfz99_0 := blk_frozen BK215.out 0; have hfz99_1 := blk_frozen BK215.out 1; have hfz99_2 := blk_frozen BK215.out 2; obtain ⟨Ao100, co100, eo100⟩ := Kd.R_slice HO_3.out; subst eo100) | ((with_reducible refine gate_callee (f := 29) rfl ?_); refine goesL_ (some 25) rfl rfl Tryz.func29 (by kernel_rfl) rfl #[.slice (some ad214) l0.length c0, .slice Ao100 t210.length co100, .int .i64 x5_1] rfl Zz2 ?_; (with_reducible refine (tammyref07_Kids.calls k1 _ _ l0 _ _ t210 x5_1 t216 _ ?side1 ?side2 ?side3 ?side4 A6.out).mono ?_); (case side1 => exact Kd.C_below HR0.out Zz5); (case side2 => exact HC0.out); (case side3 => refine (Kd.R_reads' (e := 3) (base := w.heap.size) (ok := fun k_ => True) (n := t210.length) (c := co100) ?_).2.2; exact Zz3); (case side4 => exact (Kd.R_reads' HO_3.out).2.1); rintro e w101 ⟨v217, rfl, ho0, hb⟩; refine ⟨_, rfl, ?_⟩; have n0_ := Aside0.mk (Kd.R_elder' Zz3 (Kd.R_base ho0) hb); have n1_ := Aside0.mk (Kd.R_below Zz8 hb); have n2_ := Aside0.mk (Kd.R_lower (Kd.R_new' ho0 (Kd.R_lt Zz3)) (below_size Zz5)); have n3_ := Aside0.mk (blk_below (g := gb215) (o := .cells #[.int .i64 ((rd_T38 l0 x5_1).f0), .string ((rd_T38 l0 x5_1).f1), .int .i64 ((rd_T38 l0 x5_1).f2)] 38 (0, 0)) Zz7 hb); have n4_ := Aside0.mk (below_step Zz5 hb); clear HO_3; clear HO_4; clear BK215; clear HB; have HO_3 := n0_; have HO_4 := n1_; have HO218 := n2_; have BK215 := n3_; have HB := n4_; clear n0_ n1_ n2_ n3_ n4_; (try clear hb); (try clear hb2); (try clear hk); (try clear hi); (try clear ho0); have hcz102_0 : w101.cell? ⟨gb215, 0, none⟩ = some (.int .i64 ((rd_T38 l0 x5_1).f0)) := (blk_cell BK215.out 0).trans rfl; have hcz102_1 : w101.cell? ⟨gb215, 1, none⟩ = some (.string ((rd_T38 l0 x5_1).f1)) := (blk_cell BK215.out 1).trans rfl; have hcz102_2 : w101.cell? ⟨gb215, 2, none⟩ = some (.int .i64 ((rd_T38 l0 x5_1).f2)) := (blk_cell BK215.out 2).trans rfl; have hfz102_0 := blk_frozen BK215.out 0; have hfz102_1 := blk_frozen BK215.out 1; have hfz102_2 := blk_frozen BK215.out 2))
                    have n0_ := Aside0.mk (Kd.R_drew HO_3.out)
                    have n1_ := Aside0.mk (Kd.R_drew HO_4.out)
                    have n2_ := Aside0.mk (Kd.R_drew HO218.out)
                    have n3_ := Aside0.mk (blk_drew BK215.out)
                    have n4_ := Aside0.mk (below_drew1 HB.out)
                    clear HO_3
                    clear HO_4
                    clear HO218
                    clear BK215
                    clear HB
                    have HO_3 := n0_
                    have HO_4 := n1_
                    have HO218 := n2_
                    have BK215 := n3_
                    have HB := n4_
                    clear n0_ n1_ n2_ n3_ n4_
                    obtain ⟨Ao104, co104, eo104⟩ := Kd.R_slice HO218.out
                    (first | subst eo104 | (injection eo104 with f1_ f2_ f3_; have f4_ := f1_.symm; have f5_ := f3_.symm; clear f1_ f2_ f3_; subst f4_; subst f5_))
                    have p250 : 0 ≤ (0 : Int) := (by omega)
                    have q250 : 0 < (t216.length : Int) := of_decide_eq_true Zz1
                    obtain ⟨ad250, e250, hx250_0⟩ := Kd.at_int (Kd.R_reads' HO218.out).2.2 0 p250 q250
                    cases e250
                    have qi250 : (0 < t216.length) = True := eq_true (by omega)
                    (try rw [show ((0 : Int)).toNat = 0 from rfl] at hx250_0)
                    (try rw [Addr.add_zero'] at hx250_0)
                    replace p250 := eq_true p250
                    replace q250 := eq_true q250
                    obtain ⟨Ao105, co105, eo105⟩ := Kd.R_slice HO_4.out
                    (first | subst eo105 | (injection eo105 with f1_ f2_ f3_; have f4_ := f1_.symm; have f5_ := f3_.symm; clear f1_ f2_ f3_; subst f4_; subst f5_))
                    have p251 : 0 ≤ ((rd t216 0) : Int) := of_decide_eq_true Zz1
                    have q251 : (rd t216 0) < (x4_1.length : Int) := of_decide_eq_true Zz1
                    obtain ⟨ad251, e251, hx251_0⟩ := Kd.at_string (Kd.R_reads' HO_4.out).2.2 (rd t216 0) p251 q251
                    cases e251
                    replace p251 := eq_true p251
                    replace q251 := eq_true q251
                    refine start_ (n := 16) (S := fun w' => w'.cell? ⟨gb215, 0, none⟩ = some (.int .i64 ((rd_T38 l0 x5_1).f0)) ∧ w'.cell? ⟨gb215, 1, none⟩ = some (.string ((rd_T38 l0 x5_1).f1)) ∧ w'.cell? ⟨gb215, 2, none⟩ = some (.int .i64 ((rd_T38 l0 x5_1).f2)) ∧ w'.cell? ad250 = some (.int .i64 (rd t216 0)) ∧ w'.cell? (ad251.add ((rd t216 0)).toNat) = some (.string (rdOf ByteArray.empty x4_1 (rd t216 0)))) (ds := []) #[false, false, false, false, false, false, false, false, false, false, false, false, false, false, false, false] (by kernel_rfl) rfl rfl ⟨(blk_cell BK215.out 0).trans rfl, (blk_cell BK215.out 1).trans rfl, (blk_cell BK215.out 2).trans rfl, hx250_0, hx251_0⟩ (fun hHeld => ?_); refine with_tabW tammyref07_Text.tab29 tammyref07_Text.bits29 (fun HT_ HW_ => ?_)
                    generalize w101.drew = w103 at HO_3 HO_4 HO218 BK215 HB hx250_0 hx251_0 hHeld ⊢
                    refine pure_ (i := 0) (N := some 96) (v := ?_) (a' := ?_) #[true, false, false, false, false, false, false, false, false, false, false, false, false, false, false, false] rfl rfl (any_of HT_.out (by kernel_rfl)) (fun _ _ _ h => h) (Or.inl ⟨by rfl, ?_⟩) ?_ ?_
                    rotate_left
                    ·intro w'
                     go_simp
                     with_reducible rfl
                    rotate_left
                    ·simp only [Act.put, List.setIfInBounds_toArray, List.set_cons_zero, List.set_cons_succ, i64_w, i32_w]
                     rfl
                    refine pure_ (i := 1) (N := some 97) (v := ?_) (a' := ?_) #[true, true, false, false, false, false, false, false, false, false, false, false, false, false, false, false] rfl rfl (any_of HT_.out (by kernel_rfl)) (fun _ _ _ h => h) (Or.inl ⟨by rfl, ?_⟩) ?_ ?_
                    rotate_left
                    ·intro w'
                     go_simp
                     with_reducible rfl
                    rotate_left
                    ·simp only [Act.put, List.setIfInBounds_toArray, List.set_cons_zero, List.set_cons_succ, i64_w, i32_w]
                     rfl
                    refine pure_ (i := 2) (N := some 98) (v := ?_) (a' := ?_) #[true, true, true, false, false, false, false, false, false, false, false, false, false, false, false, false] rfl rfl (any_of HT_.out (by kernel_rfl)) (fun _ _ _ h => h) (Or.inl ⟨by rfl, ?_⟩) ?_ ?_
                    rotate_left
                    ·intro w'
                     go_simp
                     with_reducible rfl
                    rotate_left
                    ·simp only [Act.put, List.setIfInBounds_toArray, List.set_cons_zero, List.set_cons_succ, i64_w, i32_w]
                     rfl
                    refine pure_ (i := 7) (N := some 103) (v := ?_) (a' := ?_) #[true, true, true, false, false, false, false, true, false, false, false, false, false, false, false, false] rfl rfl (any_of HT_.out (by kernel_rfl)) (fun _ _ _ h => h) (Or.inl ⟨by rfl, ?_⟩) ?_ ?_
                    rotate_left
                    ·intro w'
                     go_simp
                     with_reducible rfl
                    rotate_left
                    ·simp only [Act.put, List.setIfInBounds_toArray, List.set_cons_zero, List.set_cons_succ, i64_w, i32_w]
                     rfl
                    refine pure_ (i := 8) (N := some 104) (v := ?_) (a' := ?_) #[true, true, true, false, false, false, false, true, true, false, false, false, false, false, false, false] rfl rfl (any_of HT_.out (by kernel_rfl)) (fun _ _ _ h => h) (Or.inl ⟨by rfl, ?_⟩) ?_ ?_
                    rotate_left
                    ·intro w'
                     go_simp
                     with_reducible rfl
                    rotate_left
                    ·simp only [Act.put, List.setIfInBounds_toArray, List.set_cons_zero, List.set_cons_succ, i64_w, i32_w]
                     rfl
                    refine pure_ (i := 9) (N := some 105) (v := ?_) (a' := ?_) #[true, true, true, false, false, false, false, true, true, true, false, false, false, false, false, false] rfl rfl (any_of HT_.out (by kernel_rfl)) (fun _ _ _ h => h) (Or.inl ⟨by rfl, ?_⟩) ?_ ?_
                    rotate_left
                    ·intro w'
                     go_simp
                     with_reducible rfl
                    rotate_left
                    ·simp only [Act.put, List.setIfInBounds_toArray, List.set_cons_zero, List.set_cons_succ, i64_w, i32_w]
                     rfl
                    refine take_ (i := 3) (N := some 99) (v := ?_) (a' := ?_) #[true, true, true, true, false, false, false, true, true, true, false, false, false, false, false, false] rfl rfl (take_ofW HT_.out HW_.out (by kernel_rfl)) (fun _ _ _ h => h) (Or.inl ⟨by rfl, ?_⟩) hHeld ?_ ?_
                    rotate_left
                    ·rintro w' ⟨s0, s1, s2, s3, s4⟩
                     go_simp
                     with_reducible rfl
                    rotate_left
                    ·simp only [Act.put, List.setIfInBounds_toArray, List.set_cons_zero, List.set_cons_succ, i64_w, i32_w]
                     rfl
                    refine take_ (i := 10) (N := some 106) (v := ?_) (a' := ?_) #[true, true, true, true, false, false, false, true, true, true, true, false, false, false, false, false] rfl rfl (take_ofW HT_.out HW_.out (by kernel_rfl)) (fun _ _ _ h => h) (Or.inl ⟨by rfl, ?_⟩) hHeld ?_ ?_
                    rotate_left
                    ·rintro w' ⟨s0, s1, s2, s3, s4⟩
                     go_simp
                     with_reducible rfl
                    rotate_left
                    ·simp only [Act.put, List.setIfInBounds_toArray, List.set_cons_zero, List.set_cons_succ, i64_w, i32_w]
                     rfl
                    refine pure_ (i := 11) (N := some 107) (v := ?_) (a' := ?_) #[true, true, true, true, false, false, false, true, true, true, true, true, false, false, false, false] rfl rfl (any_of HT_.out (by kernel_rfl)) (fun _ _ _ h => h) (Or.inl ⟨by rfl, ?_⟩) ?_ ?_
                    rotate_left
                    ·intro w'
                     go_simp
                     with_reducible rfl
                    rotate_left
                    ·simp only [Act.put, List.setIfInBounds_toArray, List.set_cons_zero, List.set_cons_succ, i64_w, i32_w]
                     rfl
                    refine take_ (i := 12) (N := some 108) (v := ?_) (a' := ?_) #[true, true, true, true, false, false, false, true, true, true, true, true, true, false, false, false] rfl rfl (take_ofW HT_.out HW_.out (by kernel_rfl)) (fun _ _ _ h => h) (Or.inl ⟨by rfl, ?_⟩) hHeld ?_ ?_
                    rotate_left
                    ·rintro w' ⟨s0, s1, s2, s3, s4⟩
                     go_simp
                     with_reducible rfl
                    rotate_left
                    ·simp only [Act.put, List.setIfInBounds_toArray, List.set_cons_zero, List.set_cons_succ, i64_w, i32_w]
                     rfl
                    refine one_ (i := 4) (N := some 100) #[true, true, true, true, true, false, false, true, true, true, true, true, true, false, false, false] rfl rfl (one_of HT_.out (by kernel_rfl)) (by decide) (fun K hK => ?_)
                    refine goes_ Tryz.func31 (by kernel_rfl) rfl #[.int .i64 ((rd_T38 l0 x5_1).f2)] (by rfl) rfl rfl Zz2 ?_
                    with_reducible refine (tammyref07_figure.calls ((rd_T38 l0 x5_1).f2) t249 _ A89.out).mono ?_
                    rintro e w106 ⟨rfl, hb⟩
                    have HS3_ := (hb.cell (World.block_lt_of_cell? _ _ (hHeld.2.2.2.1))).trans (hHeld.2.2.2.1)
                    have HS4_ := (hb.cell (World.block_lt_of_cell? _ _ (hHeld.2.2.2.2))).trans (hHeld.2.2.2.2)
                    refine ⟨_, rfl, ?_⟩
                    have n0_ := Aside0.mk (Kd.R_below (Zz31 HO_3.out) hb)
                    have n1_ := Aside0.mk (Kd.R_below (Zz31 HO_4.out) hb)
                    have n2_ := Aside0.mk (Kd.R_below (Zz31 HO218.out) hb)
                    have n3_ := Aside0.mk (blk_below (g := gb215) (o := .cells #[.int .i64 ((rd_T38 l0 x5_1).f0), .string ((rd_T38 l0 x5_1).f1), .int .i64 ((rd_T38 l0 x5_1).f2)] 38 (0, 0)) (Zz33 BK215.out) hb)
                    have n4_ := Aside0.mk (below_step Zz5 hb)
                    clear HO_3
                    clear HO_4
                    clear HO218
                    clear BK215
                    clear HB
                    have HO_3 := n0_
                    have HO_4 := n1_
                    have HO218 := n2_
                    have BK215 := n3_
                    have HB := n4_
                    clear n0_ n1_ n2_ n3_ n4_
                    (try clear hb)
                    (try clear hb2)
                    (try clear hk)
                    (try clear hi)
                    refine hK.out _ _ ⟨(blk_cell BK215.out 0).trans rfl, (blk_cell BK215.out 1).trans rfl, (blk_cell BK215.out 2).trans rfl, HS3_, HS4_⟩ (fun hHeld => ?_)
                    clear hK K
                    refine norm_ (a' := ?_) ?_ ?_
                    rotate_left
                    ·show Act.put _ (some 100) _ = _
                     simp only [Act.put, List.setIfInBounds_toArray, List.set_cons_zero, List.set_cons_succ, i64_w, i32_w]
                     rfl
                    refine pure_ (i := 5) (N := some 101) (v := ?_) (a' := ?_) #[true, true, true, true, true, true, false, true, true, true, true, true, true, false, false, false] rfl rfl (any_of HT_.out (by kernel_rfl)) (fun _ _ _ h => h) (Or.inl ⟨by rfl, ?_⟩) ?_ ?_
                    rotate_left
                    ·intro w'
                     go_simp
                     with_reducible rfl
                    rotate_left
                    ·simp only [Act.put, List.setIfInBounds_toArray, List.set_cons_zero, List.set_cons_succ, i64_w, i32_w]
                     rfl
                    refine pure_ (i := 6) (N := some 102) (v := ?_) (a' := ?_) #[true, true, true, true, true, true, true, true, true, true, true, true, true, false, false, false] rfl rfl (any_of HT_.out (by kernel_rfl)) (fun _ _ _ h => h) (Or.inl ⟨by rfl, ?_⟩) ?_ ?_
                    rotate_left
                    ·intro w'
                     go_simp
                     with_reducible rfl
                    rotate_left
                    ·simp only [Act.put, List.setIfInBounds_toArray, List.set_cons_zero, List.set_cons_succ, i64_w, i32_w]
                     rfl
                    refine pure_ (i := 13) (N := some 109) (v := ?_) (a' := ?_) #[true, true, true, true, true, true, true, true, true, true, true, true, true, true, false, false] rfl rfl (any_of HT_.out (by kernel_rfl)) (fun _ _ _ h => h) (Or.inl ⟨by rfl, ?_⟩) ?_ ?_
                    rotate_left
                    ·intro w'
                     go_simp
                     with_reducible rfl
                    rotate_left
                    ·simp only [Act.put, List.setIfInBounds_toArray, List.set_cons_zero, List.set_cons_succ, i64_w, i32_w]
                     rfl
                    refine pure_ (i := 14) (N := some 110) (v := ?_) (a' := ?_) #[true, true, true, true, true, true, true, true, true, true, true, true, true, true, true, false] rfl rfl (any_of HT_.out (by kernel_rfl)) (fun _ _ _ h => h) (Or.inl ⟨by rfl, ?_⟩) ?_ ?_
                    rotate_left
                    ·intro w'
                     go_simp
                     with_reducible rfl
                    rotate_left
                    ·simp only [Act.put, List.setIfInBounds_toArray, List.set_cons_zero, List.set_cons_succ, i64_w, i32_w]
                     rfl
                    refine pure_ (i := 15) (N := some 8) (v := ?_) (a' := ?_) #[true, true, true, true, true, true, true, true, true, true, true, true, true, true, true, true] rfl rfl (any_of HT_.out (by kernel_rfl)) (fun _ _ _ h => h) (Or.inl ⟨by rfl, ?_⟩) ?_ ?_
                    rotate_left
                    ·intro w'
                     go_simp
                     with_reducible rfl
                    rotate_left
                    ·simp only [Act.put, List.setIfInBounds_toArray, List.set_cons_zero, List.set_cons_succ, i64_w, i32_w]
                     rfl
                    refine done_ (done_of HT_.out (by kernel_rfl)) ?_
                    try go_wp2_with (first | ((with_reducible refine gate_builtin (b := .append) (xs := #[.tmp 111, .tmp 113]) rfl ?_); at_builtin; refine Kd.R_append Kd.string (w0 := w) w.heap.size rfl (.tmp 111) (.tmp 113) 56 9 (.string ⟨#[]⟩) 16 rfl Tryz.underlying56 info9 rfl (by decide) (by omega) (.slice (some ad251) x4_1.length co105) x4_1 (((((((rd_T38 l0 x5_1).f1) ++ (⟨#[126]⟩ : ByteArray)) ++ t249) ++ (⟨#[40]⟩ : ByteArray)) ++ (rdOf ByteArray.empty x4_1 (rd t216 0))) ++ (⟨#[41]⟩ : ByteArray)) [.string (((((((rd_T38 l0 x5_1).f1) ++ (⟨#[126]⟩ : ByteArray)) ++ t249) ++ (⟨#[40]⟩ : ByteArray)) ++ (rdOf ByteArray.empty x4_1 (rd t216 0))) ++ (⟨#[41]⟩ : ByteArray))] (fun _ => True) (fun _ => False) rfl rfl ?aP (fun _ hk => hk.elim) ?aF ?aO ?aB ?aS ?aL ?_; (case aP => exact rfl); (case aB => exact Zz5); (case aF => exact (fun _ _ => trivial)); (case aO => exact (Zz31 HO_4.out)); (case aS => exact (below_size Zz5)); (case aL => have := LMc97.out; omega); intro v253 w107 ho hb hg hat; rw [← Ny252.out] at ho; have n0_ := Aside0.mk (Kd.R_over' (Zz31 HO_3.out) (Kd.R_typed (Zz31 HO_4.out)) (by decide) hg); have n1_ := Aside0.mk (blk_grown (g := gb215) (o := .cells #[.int .i64 ((rd_T38 l0 x5_1).f0), .string ((rd_T38 l0 x5_1).f1), .int .i64 ((rd_T38 l0 x5_1).f2)] 38 (0, 0)) (Zz33 BK215.out) hg (Kd.R_ne HO_4.out BK215.out (by decide))); have n2_ := Aside0.mk (Kd.R_over' (Zz31 HO218.out) (Kd.R_typed (Zz31 HO_4.out)) (by decide) hg); have n3_ := Aside0.mk (hb); have n4_ := Aside0.mk (ho); clear HO_3; clear BK215; clear HO218; clear HB; clear HO_4; have HO_3 := n0_; have BK215 := n1_; have HO218 := n2_; have HB := n3_; have HO254 := n4_; clear n0_ n1_ n2_ n3_ n4_; clear ho hb hg hat))
                    go_roundg k1
                    case measure => have := HK1.out; omega
                    case rel => exact ⟨(y252), (wrap64 (x5_1 + 1)), Zz6, H', ⟨by have := HK1.out; omega⟩, ⟨by (with_reducible repeat (first | apply Kd.R_alloc | apply Kd.R_drewN | apply Kd.R_drew)); exact Kd.R_mono HO_3.out (fun _ hk => trivial)⟩, ⟨by (with_reducible repeat (first | apply Kd.R_alloc | apply Kd.R_drewN | apply Kd.R_drew)); exact HO254.out⟩, ⟨by repeat (first | (with_reducible first | exact HB.out | apply below_alloc | apply pw_below_drewN | apply below_drew1 | refine below_set ?_ GE215.out) | exact HB.out)⟩⟩
                   ·rw [if_neg c97] at H
                    exact absurd H (by simp)
                  ·rw [if_neg c96] at H
                   exact absurd H (by simp)
                 ·rw [if_neg c95] at H
                  exact absurd H (by simp)
                ·rw [if_neg c94] at H
                 exact absurd H (by simp)
               ·rw [if_neg c93] at H
                exact absurd H (by simp)
              ·rw [if_neg c92] at H
               exact absurd H (by simp)
             ·rw [if_neg c91] at H
              exact absurd H (by simp)
            ·rw [if_neg c90] at H
             exact absurd H (by simp)
           ·rw [if_neg c88] at H
            exact absurd H (by simp)
          ·rw [if_neg c87] at H
           have c87b0 := beq_eq_false_iff_ne.mpr c87
           have c87b1 := bne_iff_ne.mpr c87
           by_cases c108 : x4_1.length < 8796093022208
           ·rw [if_pos c108] at H
            have LMc108 := Aside0.mk c108
            clear c108
            obtain ⟨y255, hy255⟩ : ∃ y_ : List ByteArray, y_ = (x4_1 ++ [(rd_T38 l0 x5_1).f1]) := ⟨_, rfl⟩
            replace H : (tammyref07_Text.l0 k1 l0 t210 y255 (wrap64 (x5_1 + 1))) = some r := by first | (rw [hy255]; with_reducible exact H) | (have H2_ := (Option.bind_some _ _).symm.trans H; rw [hy255]; with_reducible exact H2_) | (have H2_ := (Option.bind_some _ _).symm.trans H; with_reducible exact H2_) | with_reducible exact H | (rw [hy255]; exact H) | exact H
            have Ny255 := Aside0.mk hy255
            clear hy255
            have H' := Aside0.mk H
            clear H
            have p214 : 0 ≤ (x5_1 : Int) := of_decide_eq_true Zz1
            have q214 : x5_1 < (l0.length : Int) := of_decide_eq_true Zz1
            obtain ⟨ad214, e214, hx214_0, hx214_1, hx214_2⟩ := at_T38 HR0.out x5_1 p214 q214
            cases e214
            replace hx214_0 := (HB.out.cell (World.block_lt_of_cell? w _ hx214_0)).trans hx214_0
            replace hx214_1 := (HB.out.cell (World.block_lt_of_cell? w _ hx214_1)).trans hx214_1
            replace hx214_2 := (HB.out.cell (World.block_lt_of_cell? w _ hx214_2)).trans hx214_2
            replace p214 := eq_true p214
            replace q214 := eq_true q214
            go_wp2_with (first | ((with_reducible refine gate_dst (N := 6) rfl ?_); refine box_event ?hg (N := 6) ?hd (cs := #[.int .i64 0, .string (⟨#[]⟩ : ByteArray), .int .i64 0]) (t := 38) ?hr ?_; (case hd => rfl); (case hg => rfl); (case hr => first | (go_simp; done) | (go_simp; rfl)); intro gb215 hg w109 hbox hb; have n0_ := Aside0.mk (Kd.R_below (Zz31 HO_3.out) hb); have n1_ := Aside0.mk (Kd.R_below (Zz31 HO_4.out) hb); have n2_ := Aside0.mk (below_step Zz0 hb); have n3_ := Aside0.mk (hbox); have n4_ := Aside0.mk ((Zz4 : w.heap.size ≤ gb215)); have n5_ := Aside0.mk ((Zz4 : w.heap.size ≤ gb215)); clear HO_3; clear HO_4; clear HB; have HO_3 := n0_; have HO_4 := n1_; have HB := n2_; have BK215 := n3_; have GW215 := n4_; have GE215 := n5_; clear n0_ n1_ n2_ n3_ n4_ n5_; clear hb hbox hg; have hcz110_0 : w109.cell? ⟨gb215, 0, none⟩ = some (.int .i64 0) := (blk_cell BK215.out 0).trans rfl; have hcz110_1 : w109.cell? ⟨gb215, 1, none⟩ = some (.string (⟨#[]⟩ : ByteArray)) := (blk_cell BK215.out 1).trans rfl; have hcz110_2 : w109.cell? ⟨gb215, 2, none⟩ = some (.int .i64 0) := (blk_cell BK215.out 2).trans rfl; have hfz110_0 := blk_frozen BK215.out 0; have hfz110_1 := blk_frozen BK215.out 1; have hfz110_2 := blk_frozen BK215.out 2; obtain ⟨Ao111, co111, eo111⟩ := Kd.R_slice HO_3.out; subst eo111) | ((with_reducible refine gate_callee (f := 29) rfl ?_); refine goesL_ (some 25) rfl rfl Tryz.func29 (by kernel_rfl) rfl #[.slice (some ad214) l0.length c0, .slice Ao111 t210.length co111, .int .i64 x5_1] rfl Zz2 ?_; (with_reducible refine (tammyref07_Kids.calls k1 _ _ l0 _ _ t210 x5_1 t216 _ ?side1 ?side2 ?side3 ?side4 A6.out).mono ?_); (case side1 => exact Kd.C_below HR0.out Zz5); (case side2 => exact HC0.out); (case side3 => refine (Kd.R_reads' (e := 3) (base := w.heap.size) (ok := fun k_ => True) (n := t210.length) (c := co111) ?_).2.2; exact Zz3); (case side4 => exact (Kd.R_reads' HO_3.out).2.1); rintro e w112 ⟨v217, rfl, ho0, hb⟩; refine ⟨_, rfl, ?_⟩; have n0_ := Aside0.mk (Kd.R_elder' Zz3 (Kd.R_base ho0) hb); have n1_ := Aside0.mk (Kd.R_below Zz8 hb); have n2_ := Aside0.mk (Kd.R_lower (Kd.R_new' ho0 (Kd.R_lt Zz3)) (below_size Zz5)); have n3_ := Aside0.mk (blk_below (g := gb215) (o := .cells #[.int .i64 ((rd_T38 l0 x5_1).f0), .string ((rd_T38 l0 x5_1).f1), .int .i64 ((rd_T38 l0 x5_1).f2)] 38 (0, 0)) Zz7 hb); have n4_ := Aside0.mk (below_step Zz5 hb); clear HO_3; clear HO_4; clear BK215; clear HB; have HO_3 := n0_; have HO_4 := n1_; have HO218 := n2_; have BK215 := n3_; have HB := n4_; clear n0_ n1_ n2_ n3_ n4_; (try clear hb); (try clear hb2); (try clear hk); (try clear hi); (try clear ho0); have hcz113_0 : w112.cell? ⟨gb215, 0, none⟩ = some (.int .i64 ((rd_T38 l0 x5_1).f0)) := (blk_cell BK215.out 0).trans rfl; have hcz113_1 : w112.cell? ⟨gb215, 1, none⟩ = some (.string ((rd_T38 l0 x5_1).f1)) := (blk_cell BK215.out 1).trans rfl; have hcz113_2 : w112.cell? ⟨gb215, 2, none⟩ = some (.int .i64 ((rd_T38 l0 x5_1).f2)) := (blk_cell BK215.out 2).trans rfl; have hfz113_0 := blk_frozen BK215.out 0; have hfz113_1 := blk_frozen BK215.out 1; have hfz113_2 := blk_frozen BK215.out 2) | ((with_reducible refine gate_builtin (b := .append) (xs := #[.tmp 111, .tmp 113]) rfl ?_); at_builtin; refine Kd.R_append Kd.string (w0 := w) w.heap.size rfl (.tmp 111) (.tmp 113) 56 9 (.string ⟨#[]⟩) 16 rfl Tryz.underlying56 info9 rfl (by decide) (by omega) u4 x4_1 ((rd_T38 l0 x5_1).f1) [.string ((rd_T38 l0 x5_1).f1)] (fun _ => True) (fun _ => False) rfl rfl ?aP (fun _ hk => hk.elim) ?aF ?aO ?aB ?aS ?aL ?_; (case aP => exact rfl); (case aB => exact Zz5); (case aF => exact (fun _ _ => trivial)); (case aO => exact (Zz31 HO_4.out)); (case aS => exact (below_size Zz5)); (case aL => have := LMc108.out; omega); intro v256 w114 ho hb hg hat; rw [← Ny255.out] at ho; have n0_ := Aside0.mk (Kd.R_over' (Zz31 HO_3.out) (Kd.R_typed (Zz31 HO_4.out)) (by decide) hg); have n1_ := Aside0.mk (blk_grown (g := gb215) (o := .cells #[.int .i64 ((rd_T38 l0 x5_1).f0), .string ((rd_T38 l0 x5_1).f1), .int .i64 ((rd_T38 l0 x5_1).f2)] 38 (0, 0)) (Zz33 BK215.out) hg (Kd.R_ne HO_4.out BK215.out (by decide))); have n2_ := Aside0.mk (Kd.R_over' (Zz31 HO218.out) (Kd.R_typed (Zz31 HO_4.out)) (by decide) hg); have n3_ := Aside0.mk (hb); have n4_ := Aside0.mk (ho); clear HO_3; clear BK215; clear HO218; clear HB; clear HO_4; have HO_3 := n0_; have BK215 := n1_; have HO218 := n2_; have HB := n3_; have HO257 := n4_; clear n0_ n1_ n2_ n3_ n4_; clear ho hb hg hat))
            go_roundg k1
            case measure => have := HK1.out; omega
            case rel => exact ⟨(y255), (wrap64 (x5_1 + 1)), Zz6, H', ⟨by have := HK1.out; omega⟩, ⟨by (with_reducible repeat (first | apply Kd.R_alloc | apply Kd.R_drewN | apply Kd.R_drew)); exact Kd.R_mono HO_3.out (fun _ hk => trivial)⟩, ⟨by (with_reducible repeat (first | apply Kd.R_alloc | apply Kd.R_drewN | apply Kd.R_drew)); exact HO257.out⟩, ⟨by repeat (first | (with_reducible first | exact HB.out | apply below_alloc | apply pw_below_drewN | apply below_drew1 | refine below_set ?_ GE215.out) | exact HB.out)⟩⟩
           ·rw [if_neg c108] at H
            exact absurd H (by simp)
    ·rw [if_neg c5] at H
     exact absurd H (by simp)
   ·rw [if_neg c4] at H
    have c4b0 := decide_eq_false c4
    clear c4
    obtain ⟨ji115, hji115⟩ : ∃ j_ : Int, (wrap64 ((l0.length : Int) - 1)) = j_ := ⟨_, rfl⟩
    replace H : (if 0 ≤ (ji115) then (if (ji115) < (x4_1.length : Int) then (some (rdOf ByteArray.empty x4_1 (ji115))) else (none)) else (none)) = some r := by first | (rw [hji115] at H; exact H) | (simp only [hji115] at H ⊢; exact H)
    have hji115w : (IntKind.i64.wrap ((l0.length : Int) - 1)) = ji115 := (i64_w _).trans hji115
    by_cases c116 : 0 ≤ (ji115)
    ·rw [if_pos c116] at H
     have c116b0 := decide_eq_true c116
     clear c116
     by_cases c117 : (ji115) < (x4_1.length : Int)
     ·rw [if_pos c117] at H
      have c117b0 := decide_eq_true c117
      clear c117
      obtain rfl := Option.some.inj H
      obtain ⟨Ao118, co118, eo118⟩ := Kd.R_slice HO_4.out
      subst eo118
      have p213 : 0 ≤ ((ji115) : Int) := of_decide_eq_true Zz1
      have q213 : (ji115) < (x4_1.length : Int) := of_decide_eq_true Zz1
      obtain ⟨ad213, e213, hx213_0⟩ := Kd.at_string (Kd.R_reads' HO_4.out).2.2 (ji115) p213 q213
      cases e213
      replace p213 := eq_true p213
      replace q213 := eq_true q213
      go_wp2
      go_ret
      exact ⟨by first | rfl | (simp [errW_none, errW_some] <;> rfl) | (simp only [← hji115]; first | rfl | (simp [errW_none, errW_some] <;> rfl)) | (simp [*, errW_none, errW_some] <;> rfl), by repeat (first | (with_reducible first | exact HB.out | apply below_alloc | apply pw_below_drewN | apply below_drew1) | exact HB.out)⟩
     ·rw [if_neg c117] at H
      exact absurd H (by simp)
    ·rw [if_neg c116] at H
     exact absurd H (by simp)
end Go.Proofs.YtniaooodlccmcaaGreatDoor.Q

