import Derived.Test.YtniaooodlccmcaaGreatDoorDz
import Derived.Test.YtniaooodlccmcaaGreatDoorQx0
import Derived.Test.YtniaooodlccmcaaGreatDoorQx3
import Derived.Test.YtniaooodlccmcaaGreatDoorQx5
import Derived.Test.YtniaooodlccmcaaGreatDoorQx9
import Derived.Test.YtniaooodlccmcaaGreatDoorQx13
namespace Go.Proofs.YtniaooodlccmcaaGreatDoor.Q
open Go.RowKit Go.Proofs.YtniaooodlccmcaaGreatDoorW.PrintWords Go.Proofs.YtniaooodlccmcaaGreatDoorW.PrintLast Go.Proofs.YtniaooodlccmcaaGreatDoorW.PrintMore
attribute [local go_sem] max2_int min2_int max_two min_two max_three min_three max_four min_four
set_option linter.unusedVariables false
set_option linter.unusedSimpArgs false
def tammylaw07_ExprStarts.j0 : Nat → List (S38) → Int → Int → Bool → Bool → Option (Bool)
 | 0, _, _, _, _, _ => none
 | k + 1, x0, x1, x2, x7, x32 => if x32 = true then (some x7) else ((expr_Starts.f k x0).bind fun t268 => (if (t268.length : Int) = (x0.length : Int) then (if 0 ≤ (wrap64 ((x0.length : Int) - 1)) then (if (wrap64 ((x0.length : Int) - 1)) < (t268.length : Int) then (if (rd t268 (wrap64 ((x0.length : Int) - 1))) = 0 then (if 0 ≤ x1 then (if x1 < (t268.length : Int) then (if (rd t268 x1) < 0 then (none) else (if (rd t268 x1) > x1 then (none) else (if 0 ≤ x2 then (if x2 < (t268.length : Int) then (if (rd t268 x2) < 0 then (none) else (if (rd t268 x2) > x2 then (none) else (if x7 = true then (if (rd t268 x2) > x1 then ((some (([] : List (S38)) : List (S38))).bind fun y277 => (if 0 ≤ (rd t268 x1) then (if (rd t268 x1) ≤ (wrap64 (x1 + 1)) then (if (wrap64 (x1 + 1)) ≤ (x0.length : Int) then ((some ((x0.take ((wrap64 (x1 + 1)) : Int).toNat).drop ((rd t268 x1) : Int).toNat : List (S38))).bind fun y281 => (if y277.length + y281.length < 4398046511104 then ((expr_Right.f k (y277 ++ y281)).bind fun t288 => (some t288)) else (none))) else (none)) else (none)) else (none))) else (if (rd t268 x2) ≤ (rd t268 x1) then ((some (([] : List (S38)) : List (S38))).bind fun y291 => (if 0 ≤ (rd t268 x1) then (if (rd t268 x1) ≤ (wrap64 (x1 + 1)) then (if (wrap64 (x1 + 1)) ≤ (x0.length : Int) then ((some ((x0.take ((wrap64 (x1 + 1)) : Int).toNat).drop ((rd t268 x1) : Int).toNat : List (S38))).bind fun y295 => (if y291.length + y295.length < 4398046511104 then ((expr_Right.f k (y291 ++ y295)).bind fun t302 => (some t302)) else (none))) else (none)) else (none)) else (none))) else (none))) else (none)))) else (none)) else (none)))) else (none)) else (none)) else (none)) else (none)) else (none)) else (none)))
def tammylaw07_ExprStarts.f (k : Nat) (l0 : List (S38)) (a1 : Int) (a2 : Int) : Option (Bool) := (tammylaw07_shown.f k).bind fun t265 => ((tammyref07_Few.f k l0).bind fun t266 => (if t266 = true then ((tammyref07_Right.f k l0).bind fun t267 => (if t267 = true then (if a1 < 0 then (tammylaw07_ExprStarts.j0 k l0 a1 a2 t265 true) else (if a1 ≥ a2 then (tammylaw07_ExprStarts.j0 k l0 a1 a2 t265 true) else (tammylaw07_ExprStarts.j0 k l0 a1 a2 t265 (decide (a2 ≥ (l0.length : Int)))))) else (tammylaw07_ExprStarts.j0 k l0 a1 a2 t265 true))) else (tammylaw07_ExprStarts.j0 k l0 a1 a2 t265 true)))
theorem tammylaw07_ExprStarts.mono_l : ∀ k, (∀ y0 y1 y2 y3 y4, LeO (tammylaw07_ExprStarts.j0 k y0 y1 y2 y3 y4) (tammylaw07_ExprStarts.j0 (k + 1) y0 y1 y2 y3 y4))
 | 0 => fun _ _ _ _ _ r h => by simp [tammylaw07_ExprStarts.j0] at h
 | k + 1 => by
  have ih0 := tammylaw07_ExprStarts.mono_l k
  ·intro y0 y1 y2 y3 y4
   unfold tammylaw07_ExprStarts.j0
   repeat' first
   | (with_reducible exact ih0 _ _ _ _ _)
   | (with_reducible exact expr_Right.mono _ _)
   | (with_reducible exact expr_Starts.mono _ _)
   | (with_reducible exact tammylaw07_shown.mono _)
   | (with_reducible exact tammyref07_Few.mono _ _)
   | (with_reducible exact tammyref07_Right.mono _ _)
   | (with_reducible exact LeO.refl _)
   | (with_reducible exact LeO.none _)
   | (with_reducible refine LeO.ite ?_ ?_)
   | (with_reducible refine LeO.bind ?_ (fun _ => ?_))
   | exact ih0 _ _ _ _ _
   | exact expr_Right.mono _ _
   | exact expr_Starts.mono _ _
   | exact tammylaw07_shown.mono _
   | exact tammyref07_Few.mono _ _
   | exact tammyref07_Right.mono _ _
   | exact LeO.none _
   | refine LeO.ite ?_ ?_
   | refine LeO.bind ?_ (fun _ => ?_)
theorem tammylaw07_ExprStarts.mono : ∀ a0 a1 a2 k, LeO (tammylaw07_ExprStarts.f k a0 a1 a2) (tammylaw07_ExprStarts.f (k + 1) a0 a1 a2) := by
 intro a0 a1 a2 k
 have ih0 := tammylaw07_ExprStarts.mono_l k
 unfold tammylaw07_ExprStarts.f
 repeat' first
   | (with_reducible exact ih0 _ _ _ _ _)
   | (with_reducible exact expr_Right.mono _ _)
   | (with_reducible exact expr_Starts.mono _ _)
   | (with_reducible exact tammylaw07_shown.mono _)
   | (with_reducible exact tammyref07_Few.mono _ _)
   | (with_reducible exact tammyref07_Right.mono _ _)
   | (with_reducible exact LeO.refl _)
   | (with_reducible exact LeO.none _)
   | (with_reducible refine LeO.ite ?_ ?_)
   | (with_reducible refine LeO.bind ?_ (fun _ => ?_))
   | exact ih0 _ _ _ _ _
   | exact expr_Right.mono _ _
   | exact expr_Starts.mono _ _
   | exact tammylaw07_shown.mono _
   | exact tammyref07_Few.mono _ _
   | exact tammyref07_Right.mono _ _
   | exact LeO.none _
   | refine LeO.ite ?_ ?_
   | refine LeO.bind ?_ (fun _ => ?_)
def tammylaw07_ExprStarts.T7 : Bool × List (List Nat × List Nat) := (true, [([], []), ([0], [0]), ([1], [1]), ([1], [1]), ([2, 3, 1], [1, 2, 3]), ([4, 1], [1, 4]), ([1], [1]), ([5, 6, 1], [1, 5, 6]), ([7, 1, 1], [1, 7]), ([8], [8]), ([8], [8]), ([9, 10, 8], [8, 9, 10]), ([11, 8], [8, 11]), ([8], [8]), ([8], [8]), ([13, 14, 8], [8, 13, 14]), ([15, 8], [8, 15]), ([12, 16, 8], [8, 12, 16]), ([8, 17, 1], [1, 8, 17]), ([1, 18], [1, 18]), ([19, 8], [19]), ([20], [20]), ([20], [20]), ([20], [20]), ([20], [20]), ([23, 24, 20], [20, 23, 24]), ([25, 20], [20, 25]), ([20], [20]), ([27, 20], [20, 27]), ([22, 26, 28, 20], [20, 22, 26, 28]), ([21, 29, 20, 20], [20, 21, 29]), ([30, 30, 20], [20, 30]), ([20, 31], [20, 31]), ([32, 31, 0, 1, 2, 3, 4, 5, 6, 7, 8, 9, 10, 11, 12, 13, 14, 15, 16, 17, 18, 19, 20, 21, 22, 23, 24, 25, 26, 27, 28, 29, 30, 31, 32], [32])])
def tammylaw07_ExprStarts.B7 : List Nat := [0, 1, 3, 3, 15, 31, 3, 127, 255, 511, 511, 2047, 4095, 511, 511, 25087, 57855, 131071, 262143, 524287, 1048575, 2097151, 2097151, 2097151, 2097151, 27262975, 60817407, 2097151, 136314879, 534773759, 1073741823, 2147483647, 4294967295, 8589934591]
theorem tammylaw07_ExprStarts.tab7 : rtab .any (opsOf Tryz.f3 7) = tammylaw07_ExprStarts.T7 := by kernel_rfl
theorem tammylaw07_ExprStarts.bits7 : waitsOk tammylaw07_ExprStarts.T7.2 tammylaw07_ExprStarts.B7 = true := by kernel_rfl
set_option maxHeartbeats 8000000 in
set_option maxRecDepth 100000 in
theorem tammylaw07_ExprStarts.calls (k : Nat) (A0 : Option Addr) (c0 : Nat) (l0 : List (S38)) (a1 : Int) (a2 : Int) (r : Bool) (w : World) (hr0 : Kd.C k38 w A0 l0.length l0) (hc0 : l0.length ≤ c0) (h : tammylaw07_ExprStarts.f k l0 a1 a2 = some r) :
  Calls Tryz.prog 3 #[.slice A0 l0.length c0, .int .i64 a1, .int .i64 a2] w fun e w' => e = .returned (.bool r) ∧ Below w.heap.size w w' := by
 have HR0 := Aside0.mk hr0
 have HC0 := Aside0.mk hc0
 clear hr0 hc0
 have HB := Aside0.mk (Below.refl w.heap.size w)
 have H : ((tammylaw07_shown.f k).bind fun t265 => ((tammyref07_Few.f k l0).bind fun t266 => (if t266 = true then ((tammyref07_Right.f k l0).bind fun t267 => (if t267 = true then (if a1 < 0 then (tammylaw07_ExprStarts.j0 k l0 a1 a2 t265 true) else (if a1 ≥ a2 then (tammylaw07_ExprStarts.j0 k l0 a1 a2 t265 true) else (tammylaw07_ExprStarts.j0 k l0 a1 a2 t265 (decide (a2 ≥ (l0.length : Int)))))) else (tammylaw07_ExprStarts.j0 k l0 a1 a2 t265 true))) else (tammylaw07_ExprStarts.j0 k l0 a1 a2 t265 true)))) = some r := h
 clear h
 replace H := Option.bind_eq_some_iff.mp H
 obtain ⟨t265, A40, H⟩ := H
 replace H : ((tammyref07_Few.f k l0).bind fun t266 => (if t266 = true then ((tammyref07_Right.f k l0).bind fun t267 => (if t267 = true then (if a1 < 0 then (tammylaw07_ExprStarts.j0 k l0 a1 a2 t265 true) else (if a1 ≥ a2 then (tammylaw07_ExprStarts.j0 k l0 a1 a2 t265 true) else (tammylaw07_ExprStarts.j0 k l0 a1 a2 t265 (decide (a2 ≥ (l0.length : Int)))))) else (tammylaw07_ExprStarts.j0 k l0 a1 a2 t265 true))) else (tammylaw07_ExprStarts.j0 k l0 a1 a2 t265 true))) = some r := H
 have A4 := Aside0.mk A40
 clear A40
 have HC5 := Aside0.mk H
 clear H
 go_enter Tryz.func3, Tryz.ntmps3
 go_upto_region 2 with (first | ((with_reducible refine gate_callee (f := 7) rfl ?_); refine goesL_ (some 9) rfl rfl Tryz.func7 (by kernel_rfl) rfl #[] rfl Zz2 ?_; (with_reducible refine (tammylaw07_shown.calls k  t265 _ A4.out).mono ?_); rintro e w6 ⟨rfl, hb⟩; refine ⟨_, rfl, ?_⟩; have n0_ := Aside0.mk (below_step Zz0 hb); clear HB; have HB := n0_; clear n0_; (try clear hb); (try clear hb2); (try clear hk); (try clear hi)))
 (try simp only [Act.put, List.setIfInBounds_toArray, List.set_cons_zero, List.set_cons_succ])
 go_cut [32] (fun v32 wc => ∃ (kq : Nat) (x32_4 : Bool), v32 = .bool x32_4 ∧ Aside0 (tammylaw07_ExprStarts.j0 kq l0 a1 a2 t265 x32_4 = some r) ∧ Aside0 (kq ≤ k) ∧ Aside0 (Below w.heap.size w wc))
 case first =>
  have H := HC5.out
  clear HC5
  replace H := Option.bind_eq_some_iff.mp H
  obtain ⟨t266, A70, H⟩ := H
  replace H : (if t266 = true then ((tammyref07_Right.f k l0).bind fun t267 => (if t267 = true then (if a1 < 0 then (tammylaw07_ExprStarts.j0 k l0 a1 a2 t265 true) else (if a1 ≥ a2 then (tammylaw07_ExprStarts.j0 k l0 a1 a2 t265 true) else (tammylaw07_ExprStarts.j0 k l0 a1 a2 t265 (decide (a2 ≥ (l0.length : Int)))))) else (tammylaw07_ExprStarts.j0 k l0 a1 a2 t265 true))) else (tammylaw07_ExprStarts.j0 k l0 a1 a2 t265 true)) = some r := H
  have A7 := Aside0.mk A70
  clear A70
  by_cases c8 : t266 = true
  ·subst c8
   have H1 : ((tammyref07_Right.f k l0).bind fun t267 => (if t267 = true then (if a1 < 0 then (tammylaw07_ExprStarts.j0 k l0 a1 a2 t265 true) else (if a1 ≥ a2 then (tammylaw07_ExprStarts.j0 k l0 a1 a2 t265 true) else (tammylaw07_ExprStarts.j0 k l0 a1 a2 t265 (decide (a2 ≥ (l0.length : Int)))))) else (tammylaw07_ExprStarts.j0 k l0 a1 a2 t265 true))) = some r := by rw [if_pos rfl] at H; exact H
   clear H
   have H := H1
   clear H1
   replace H := Option.bind_eq_some_iff.mp H
   obtain ⟨t267, A90, H⟩ := H
   replace H : (if t267 = true then (if a1 < 0 then (tammylaw07_ExprStarts.j0 k l0 a1 a2 t265 true) else (if a1 ≥ a2 then (tammylaw07_ExprStarts.j0 k l0 a1 a2 t265 true) else (tammylaw07_ExprStarts.j0 k l0 a1 a2 t265 (decide (a2 ≥ (l0.length : Int)))))) else (tammylaw07_ExprStarts.j0 k l0 a1 a2 t265 true)) = some r := H
   have A9 := Aside0.mk A90
   clear A90
   by_cases c10 : t267 = true
   ·subst c10
    have H1 : (if a1 < 0 then (tammylaw07_ExprStarts.j0 k l0 a1 a2 t265 true) else (if a1 ≥ a2 then (tammylaw07_ExprStarts.j0 k l0 a1 a2 t265 true) else (tammylaw07_ExprStarts.j0 k l0 a1 a2 t265 (decide (a2 ≥ (l0.length : Int)))))) = some r := by rw [if_pos rfl] at H; exact H
    clear H
    have H := H1
    clear H1
    by_cases c11 : a1 < 0
    ·rw [if_pos c11] at H
     have c11b0 := decide_eq_true c11
     clear c11
     (first | rw [c11b0] | (simp only [i64_w, i32_w]; rw [c11b0]) | skip)
     have H' := Aside0.mk H
     clear H
     go_wp2_with (first | ((with_reducible refine gate_callee (f := 8) rfl ?_); refine goesL_ (some 11) rfl rfl Tryz.func8 (by kernel_rfl) rfl #[.slice A0 l0.length c0] rfl Zz2 ?_; (with_reducible refine (tammyref07_Few.calls k _ _ l0 true _ ?side1 ?side2 A7.out).mono ?_); (case side1 => repeat (first | exact (Kd.C_below HR0.out HB.out) | (with_reducible refine Kd.C_alloc ?_ _) | (with_reducible refine Kd.C_drewN ?_ _) | (with_reducible refine Kd.C_drew ?_))); (case side2 => exact HC0.out); rintro e w' ⟨rfl, ⟨nd, rfl⟩⟩; refine ⟨_, rfl, ?_⟩) | (go_at_call 9; (with_reducible refine (tammyref07_Right.calls k _ _ l0 true _ ?side1 ?side2 A9.out).mono ?_); (case side1 => repeat (first | exact (Kd.C_below HR0.out Zz0) | (with_reducible refine Kd.C_alloc ?_ _) | (with_reducible refine Kd.C_drewN ?_ _) | (with_reducible refine Kd.C_drew ?_))); (case side2 => exact HC0.out); rintro e w12 ⟨rfl, hb⟩; have n0_ := Aside0.mk (below_step Zz0 hb); clear HB; have HB := n0_; clear n0_; (try clear hb); (try clear hb2); (try clear hk); (try clear hi)))
     go_meet
     case rel => exact ⟨_, (true), Zz6, H', ⟨by first | omega | exact Nat.le_refl _⟩, ⟨by repeat (first | (with_reducible first | exact HB.out | apply below_alloc | apply pw_below_drewN | apply below_drew1) | exact HB.out)⟩⟩
    ·rw [if_neg c11] at H
     have c11b0 := decide_eq_false c11
     clear c11
     (first | rw [c11b0] | (simp only [i64_w, i32_w]; rw [c11b0]) | skip)
     by_cases c13 : a1 ≥ a2
     ·rw [if_pos c13] at H
      have c13b0 : decide (a2 ≤ a1) = true := decide_eq_true c13
      clear c13
      have H' := Aside0.mk H
      clear H
      go_wp2_with (first | ((with_reducible refine gate_callee (f := 8) rfl ?_); refine goesL_ (some 11) rfl rfl Tryz.func8 (by kernel_rfl) rfl #[.slice A0 l0.length c0] rfl Zz2 ?_; (with_reducible refine (tammyref07_Few.calls k _ _ l0 true _ ?side1 ?side2 A7.out).mono ?_); (case side1 => repeat (first | exact (Kd.C_below HR0.out HB.out) | (with_reducible refine Kd.C_alloc ?_ _) | (with_reducible refine Kd.C_drewN ?_ _) | (with_reducible refine Kd.C_drew ?_))); (case side2 => exact HC0.out); rintro e w' ⟨rfl, ⟨nd, rfl⟩⟩; refine ⟨_, rfl, ?_⟩) | (go_at_call 9; (with_reducible refine (tammyref07_Right.calls k _ _ l0 true _ ?side1 ?side2 A9.out).mono ?_); (case side1 => repeat (first | exact (Kd.C_below HR0.out Zz0) | (with_reducible refine Kd.C_alloc ?_ _) | (with_reducible refine Kd.C_drewN ?_ _) | (with_reducible refine Kd.C_drew ?_))); (case side2 => exact HC0.out); rintro e w14 ⟨rfl, hb⟩; have n0_ := Aside0.mk (below_step Zz0 hb); clear HB; have HB := n0_; clear n0_; (try clear hb); (try clear hb2); (try clear hk); (try clear hi)))
      go_meet
      case rel => exact ⟨_, (true), Zz6, H', ⟨by first | omega | exact Nat.le_refl _⟩, ⟨by repeat (first | (with_reducible first | exact HB.out | apply below_alloc | apply pw_below_drewN | apply below_drew1) | exact HB.out)⟩⟩
     ·rw [if_neg c13] at H
      have c13b0 : decide (a2 ≤ a1) = false := decide_eq_false c13
      clear c13
      have H' := Aside0.mk H
      clear H
      go_wp2_with (first | ((with_reducible refine gate_callee (f := 8) rfl ?_); refine goesL_ (some 11) rfl rfl Tryz.func8 (by kernel_rfl) rfl #[.slice A0 l0.length c0] rfl Zz2 ?_; (with_reducible refine (tammyref07_Few.calls k _ _ l0 true _ ?side1 ?side2 A7.out).mono ?_); (case side1 => repeat (first | exact (Kd.C_below HR0.out HB.out) | (with_reducible refine Kd.C_alloc ?_ _) | (with_reducible refine Kd.C_drewN ?_ _) | (with_reducible refine Kd.C_drew ?_))); (case side2 => exact HC0.out); rintro e w' ⟨rfl, ⟨nd, rfl⟩⟩; refine ⟨_, rfl, ?_⟩) | (go_at_call 9; (with_reducible refine (tammyref07_Right.calls k _ _ l0 true _ ?side1 ?side2 A9.out).mono ?_); (case side1 => repeat (first | exact (Kd.C_below HR0.out Zz0) | (with_reducible refine Kd.C_alloc ?_ _) | (with_reducible refine Kd.C_drewN ?_ _) | (with_reducible refine Kd.C_drew ?_))); (case side2 => exact HC0.out); rintro e w15 ⟨rfl, hb⟩; have n0_ := Aside0.mk (below_step Zz0 hb); clear HB; have HB := n0_; clear n0_; (try clear hb); (try clear hb2); (try clear hk); (try clear hi)))
      go_meet
      case rel => exact ⟨_, (decide (a2 ≥ (l0.length : Int))), Zz6, H', ⟨by first | omega | exact Nat.le_refl _⟩, ⟨by repeat (first | (with_reducible first | exact HB.out | apply below_alloc | apply pw_below_drewN | apply below_drew1) | exact HB.out)⟩⟩
   ·replace c10 := Bool.eq_false_iff.mpr c10
    subst c10
    have H1 : (tammylaw07_ExprStarts.j0 k l0 a1 a2 t265 true) = some r := by rw [if_neg (show ¬ (false = true) by decide)] at H; exact H
    clear H
    have H := H1
    clear H1
    have H' := Aside0.mk H
    clear H
    go_wp2_with (first | ((with_reducible refine gate_callee (f := 8) rfl ?_); refine goesL_ (some 11) rfl rfl Tryz.func8 (by kernel_rfl) rfl #[.slice A0 l0.length c0] rfl Zz2 ?_; (with_reducible refine (tammyref07_Few.calls k _ _ l0 true _ ?side1 ?side2 A7.out).mono ?_); (case side1 => repeat (first | exact (Kd.C_below HR0.out HB.out) | (with_reducible refine Kd.C_alloc ?_ _) | (with_reducible refine Kd.C_drewN ?_ _) | (with_reducible refine Kd.C_drew ?_))); (case side2 => exact HC0.out); rintro e w' ⟨rfl, ⟨nd, rfl⟩⟩; refine ⟨_, rfl, ?_⟩) | (go_at_call 9; (with_reducible refine (tammyref07_Right.calls k _ _ l0 false _ ?side1 ?side2 A9.out).mono ?_); (case side1 => repeat (first | exact (Kd.C_below HR0.out Zz0) | (with_reducible refine Kd.C_alloc ?_ _) | (with_reducible refine Kd.C_drewN ?_ _) | (with_reducible refine Kd.C_drew ?_))); (case side2 => exact HC0.out); rintro e w16 ⟨rfl, hb⟩; have n0_ := Aside0.mk (below_step Zz0 hb); clear HB; have HB := n0_; clear n0_; (try clear hb); (try clear hb2); (try clear hk); (try clear hi)))
    go_meet
    case rel => exact ⟨_, (true), Zz6, H', ⟨by first | omega | exact Nat.le_refl _⟩, ⟨by repeat (first | (with_reducible first | exact HB.out | apply below_alloc | apply pw_below_drewN | apply below_drew1) | exact HB.out)⟩⟩
  ·replace c8 := Bool.eq_false_iff.mpr c8
   subst c8
   have H1 : (tammylaw07_ExprStarts.j0 k l0 a1 a2 t265 true) = some r := by rw [if_neg (show ¬ (false = true) by decide)] at H; exact H
   clear H
   have H := H1
   clear H1
   have H' := Aside0.mk H
   clear H
   go_wp2_with (first | ((with_reducible refine gate_callee (f := 8) rfl ?_); refine goesL_ (some 11) rfl rfl Tryz.func8 (by kernel_rfl) rfl #[.slice A0 l0.length c0] rfl Zz2 ?_; (with_reducible refine (tammyref07_Few.calls k _ _ l0 false _ ?side1 ?side2 A7.out).mono ?_); (case side1 => repeat (first | exact (Kd.C_below HR0.out HB.out) | (with_reducible refine Kd.C_alloc ?_ _) | (with_reducible refine Kd.C_drewN ?_ _) | (with_reducible refine Kd.C_drew ?_))); (case side2 => exact HC0.out); rintro e w' ⟨rfl, ⟨nd, rfl⟩⟩; refine ⟨_, rfl, ?_⟩))
   go_meet
   case rel => exact ⟨_, (true), Zz6, H', ⟨by first | omega | exact Nat.le_refl _⟩, ⟨by repeat (first | (with_reducible first | exact HB.out | apply below_alloc | apply pw_below_drewN | apply below_drew1) | exact HB.out)⟩⟩
 case rest =>
  clear HC5
  try clear c1
  try clear p2
  try clear c3
  try clear c7
  try clear c8
  try clear c10
  try clear c11
  try clear c11b0
  try clear c13
  try clear c13b0
  obtain ⟨kq, x32_4, rfl, HA, HJ4, HB⟩ := hcut
  cases kq with
  | zero => exact absurd HA.out (by simp [tammylaw07_ExprStarts.j0])
  | succ kj4 =>
   have H := HA.out
   clear HA
   simp only [tammylaw07_ExprStarts.j0] at H
   by_cases c17 : x32_4 = true
   ·subst c17
    have H1 : (some t265) = some r := by rw [if_pos rfl] at H; exact H
    clear H
    have H := H1
    clear H1
    obtain rfl := Option.some.inj H
    go_wp2
    go_ret
    exact ⟨by first | rfl | (simp [errW_none, errW_some] <;> rfl) | (simp [*, errW_none, errW_some] <;> rfl), by repeat (first | (with_reducible first | exact HB.out | apply below_alloc | apply pw_below_drewN | apply below_drew1) | exact HB.out)⟩
   ·replace c17 := Bool.eq_false_iff.mpr c17
    subst c17
    have H1 : ((expr_Starts.f kj4 l0).bind fun t268 => (if (t268.length : Int) = (l0.length : Int) then (if 0 ≤ (wrap64 ((l0.length : Int) - 1)) then (if (wrap64 ((l0.length : Int) - 1)) < (t268.length : Int) then (if (rd t268 (wrap64 ((l0.length : Int) - 1))) = 0 then (if 0 ≤ a1 then (if a1 < (t268.length : Int) then (if (rd t268 a1) < 0 then (none) else (if (rd t268 a1) > a1 then (none) else (if 0 ≤ a2 then (if a2 < (t268.length : Int) then (if (rd t268 a2) < 0 then (none) else (if (rd t268 a2) > a2 then (none) else (if t265 = true then (if (rd t268 a2) > a1 then ((some (([] : List (S38)) : List (S38))).bind fun y277 => (if 0 ≤ (rd t268 a1) then (if (rd t268 a1) ≤ (wrap64 (a1 + 1)) then (if (wrap64 (a1 + 1)) ≤ (l0.length : Int) then ((some ((l0.take ((wrap64 (a1 + 1)) : Int).toNat).drop ((rd t268 a1) : Int).toNat : List (S38))).bind fun y281 => (if y277.length + y281.length < 4398046511104 then ((expr_Right.f kj4 (y277 ++ y281)).bind fun t288 => (some t288)) else (none))) else (none)) else (none)) else (none))) else (if (rd t268 a2) ≤ (rd t268 a1) then ((some (([] : List (S38)) : List (S38))).bind fun y291 => (if 0 ≤ (rd t268 a1) then (if (rd t268 a1) ≤ (wrap64 (a1 + 1)) then (if (wrap64 (a1 + 1)) ≤ (l0.length : Int) then ((some ((l0.take ((wrap64 (a1 + 1)) : Int).toNat).drop ((rd t268 a1) : Int).toNat : List (S38))).bind fun y295 => (if y291.length + y295.length < 4398046511104 then ((expr_Right.f kj4 (y291 ++ y295)).bind fun t302 => (some t302)) else (none))) else (none)) else (none)) else (none))) else (none))) else (none)))) else (none)) else (none)))) else (none)) else (none)) else (none)) else (none)) else (none)) else (none))) = some r := by rw [if_neg (show ¬ (false = true) by decide)] at H; exact H
    clear H
    have H := H1
    clear H1
    replace H := Option.bind_eq_some_iff.mp H
    obtain ⟨t268, A180, H⟩ := H
    replace H : (if (t268.length : Int) = (l0.length : Int) then (if 0 ≤ (wrap64 ((l0.length : Int) - 1)) then (if (wrap64 ((l0.length : Int) - 1)) < (t268.length : Int) then (if (rd t268 (wrap64 ((l0.length : Int) - 1))) = 0 then (if 0 ≤ a1 then (if a1 < (t268.length : Int) then (if (rd t268 a1) < 0 then (none) else (if (rd t268 a1) > a1 then (none) else (if 0 ≤ a2 then (if a2 < (t268.length : Int) then (if (rd t268 a2) < 0 then (none) else (if (rd t268 a2) > a2 then (none) else (if t265 = true then (if (rd t268 a2) > a1 then ((some (([] : List (S38)) : List (S38))).bind fun y277 => (if 0 ≤ (rd t268 a1) then (if (rd t268 a1) ≤ (wrap64 (a1 + 1)) then (if (wrap64 (a1 + 1)) ≤ (l0.length : Int) then ((some ((l0.take ((wrap64 (a1 + 1)) : Int).toNat).drop ((rd t268 a1) : Int).toNat : List (S38))).bind fun y281 => (if y277.length + y281.length < 4398046511104 then ((expr_Right.f kj4 (y277 ++ y281)).bind fun t288 => (some t288)) else (none))) else (none)) else (none)) else (none))) else (if (rd t268 a2) ≤ (rd t268 a1) then ((some (([] : List (S38)) : List (S38))).bind fun y291 => (if 0 ≤ (rd t268 a1) then (if (rd t268 a1) ≤ (wrap64 (a1 + 1)) then (if (wrap64 (a1 + 1)) ≤ (l0.length : Int) then ((some ((l0.take ((wrap64 (a1 + 1)) : Int).toNat).drop ((rd t268 a1) : Int).toNat : List (S38))).bind fun y295 => (if y291.length + y295.length < 4398046511104 then ((expr_Right.f kj4 (y291 ++ y295)).bind fun t302 => (some t302)) else (none))) else (none)) else (none)) else (none))) else (none))) else (none)))) else (none)) else (none)))) else (none)) else (none)) else (none)) else (none)) else (none)) else (none)) = some r := H
    have A18 := Aside0.mk A180
    clear A180
    by_cases c19 : (t268.length : Int) = (l0.length : Int)
    ·rw [if_pos c19] at H
     have c19b0 := beq_iff_eq.mpr c19
     have c19b1 := bne_eq_false_iff_eq.mpr c19
     have c19b2 : (t268.length == l0.length) = true := by first | simpa using c19 | (simp at c19 ⊢; omega)
     clear c19
     obtain ⟨ji20, hji20⟩ : ∃ j_ : Int, (wrap64 ((l0.length : Int) - 1)) = j_ := ⟨_, rfl⟩
     replace H : (if 0 ≤ (ji20) then (if (ji20) < (t268.length : Int) then (if (rd t268 (ji20)) = 0 then (if 0 ≤ a1 then (if a1 < (t268.length : Int) then (if (rd t268 a1) < 0 then (none) else (if (rd t268 a1) > a1 then (none) else (if 0 ≤ a2 then (if a2 < (t268.length : Int) then (if (rd t268 a2) < 0 then (none) else (if (rd t268 a2) > a2 then (none) else (if t265 = true then (if (rd t268 a2) > a1 then ((some (([] : List (S38)) : List (S38))).bind fun y277 => (if 0 ≤ (rd t268 a1) then (if (rd t268 a1) ≤ (wrap64 (a1 + 1)) then (if (wrap64 (a1 + 1)) ≤ (l0.length : Int) then ((some ((l0.take ((wrap64 (a1 + 1)) : Int).toNat).drop ((rd t268 a1) : Int).toNat : List (S38))).bind fun y281 => (if y277.length + y281.length < 4398046511104 then ((expr_Right.f kj4 (y277 ++ y281)).bind fun t288 => (some t288)) else (none))) else (none)) else (none)) else (none))) else (if (rd t268 a2) ≤ (rd t268 a1) then ((some (([] : List (S38)) : List (S38))).bind fun y291 => (if 0 ≤ (rd t268 a1) then (if (rd t268 a1) ≤ (wrap64 (a1 + 1)) then (if (wrap64 (a1 + 1)) ≤ (l0.length : Int) then ((some ((l0.take ((wrap64 (a1 + 1)) : Int).toNat).drop ((rd t268 a1) : Int).toNat : List (S38))).bind fun y295 => (if y291.length + y295.length < 4398046511104 then ((expr_Right.f kj4 (y291 ++ y295)).bind fun t302 => (some t302)) else (none))) else (none)) else (none)) else (none))) else (none))) else (none)))) else (none)) else (none)))) else (none)) else (none)) else (none)) else (none)) else (none)) = some r := by first | (rw [hji20] at H; exact H) | (simp only [hji20] at H ⊢; exact H)
     (try rw [hji20] at A18)
     have hji20w : (IntKind.i64.wrap ((l0.length : Int) - 1)) = ji20 := (i64_w _).trans hji20
     by_cases c21 : 0 ≤ (ji20)
     ·rw [if_pos c21] at H
      have c21b0 := decide_eq_true c21
      clear c21
      by_cases c22 : (ji20) < (t268.length : Int)
      ·rw [if_pos c22] at H
       have c22b0 := decide_eq_true c22
       clear c22
       by_cases c23 : (rd t268 (ji20)) = 0
       ·rw [if_pos c23] at H
        have c23b0 := beq_iff_eq.mpr c23
        have c23b1 := bne_eq_false_iff_eq.mpr c23
        clear c23
        by_cases c24 : 0 ≤ a1
        ·rw [if_pos c24] at H
         have c24b0 := decide_eq_true c24
         clear c24
         by_cases c25 : a1 < (t268.length : Int)
         ·rw [if_pos c25] at H
          have c25b0 := decide_eq_true c25
          clear c25
          by_cases c26 : (rd t268 a1) < 0
          ·rw [if_pos c26] at H
           exact absurd H (by simp)
          ·rw [if_neg c26] at H
           have c26b0 := decide_eq_false c26
           clear c26
           by_cases c27 : (rd t268 a1) > a1
           ·rw [if_pos c27] at H
            exact absurd H (by simp)
           ·rw [if_neg c27] at H
            have c27b0 : decide (a1 < (rd t268 a1)) = false := decide_eq_false c27
            clear c27
            by_cases c28 : 0 ≤ a2
            ·rw [if_pos c28] at H
             have c28b0 := decide_eq_true c28
             clear c28
             by_cases c29 : a2 < (t268.length : Int)
             ·rw [if_pos c29] at H
              have c29b0 := decide_eq_true c29
              clear c29
              by_cases c30 : (rd t268 a2) < 0
              ·rw [if_pos c30] at H
               exact absurd H (by simp)
              ·rw [if_neg c30] at H
               have c30b0 := decide_eq_false c30
               clear c30
               by_cases c31 : (rd t268 a2) > a2
               ·rw [if_pos c31] at H
                exact absurd H (by simp)
               ·rw [if_neg c31] at H
                have c31b0 : decide (a2 < (rd t268 a2)) = false := decide_eq_false c31
                clear c31
                by_cases c32 : t265 = true
                ·subst c32
                 have H1 : (if (rd t268 a2) > a1 then ((some (([] : List (S38)) : List (S38))).bind fun y277 => (if 0 ≤ (rd t268 a1) then (if (rd t268 a1) ≤ (wrap64 (a1 + 1)) then (if (wrap64 (a1 + 1)) ≤ (l0.length : Int) then ((some ((l0.take ((wrap64 (a1 + 1)) : Int).toNat).drop ((rd t268 a1) : Int).toNat : List (S38))).bind fun y281 => (if y277.length + y281.length < 4398046511104 then ((expr_Right.f kj4 (y277 ++ y281)).bind fun t288 => (some t288)) else (none))) else (none)) else (none)) else (none))) else (if (rd t268 a2) ≤ (rd t268 a1) then ((some (([] : List (S38)) : List (S38))).bind fun y291 => (if 0 ≤ (rd t268 a1) then (if (rd t268 a1) ≤ (wrap64 (a1 + 1)) then (if (wrap64 (a1 + 1)) ≤ (l0.length : Int) then ((some ((l0.take ((wrap64 (a1 + 1)) : Int).toNat).drop ((rd t268 a1) : Int).toNat : List (S38))).bind fun y295 => (if y291.length + y295.length < 4398046511104 then ((expr_Right.f kj4 (y291 ++ y295)).bind fun t302 => (some t302)) else (none))) else (none)) else (none)) else (none))) else (none))) = some r := by rw [if_pos rfl] at H; exact H
                 clear H
                 have H := H1
                 clear H1
                 by_cases c33 : (rd t268 a2) > a1
                 ·rw [if_pos c33] at H
                  have c33b0 : decide (a1 < (rd t268 a2)) = true := decide_eq_true c33
                  clear c33
                  obtain ⟨y277, hy277⟩ : ∃ y_ : List (S38), y_ = (([] : List (S38))) := ⟨_, rfl⟩
                  replace H : (if 0 ≤ (rd t268 a1) then (if (rd t268 a1) ≤ (wrap64 (a1 + 1)) then (if (wrap64 (a1 + 1)) ≤ (l0.length : Int) then ((some ((l0.take ((wrap64 (a1 + 1)) : Int).toNat).drop ((rd t268 a1) : Int).toNat : List (S38))).bind fun y281 => (if y277.length + y281.length < 4398046511104 then ((expr_Right.f kj4 (y277 ++ y281)).bind fun t288 => (some t288)) else (none))) else (none)) else (none)) else (none)) = some r := by first | (rw [hy277]; with_reducible exact H) | (have H2_ := (Option.bind_some _ _).symm.trans H; rw [hy277]; with_reducible exact H2_) | (have H2_ := (Option.bind_some _ _).symm.trans H; with_reducible exact H2_) | with_reducible exact H | (rw [hy277]; exact H) | exact H
                  have Ny277 := Aside0.mk hy277
                  clear hy277
                  by_cases c34 : 0 ≤ (rd t268 a1)
                  ·rw [if_pos c34] at H
                   have c34b0 := eq_true c34
                   have c34b1 := decide_eq_true c34
                   clear c34
                   by_cases c35 : (rd t268 a1) ≤ (wrap64 (a1 + 1))
                   ·rw [if_pos c35] at H
                    have c35b0 := eq_true c35
                    have c35b1 := decide_eq_true c35
                    by_cases c36 : (wrap64 (a1 + 1)) ≤ (l0.length : Int)
                    ·rw [if_pos c36] at H
                     have c36b0 := eq_true c36
                     have c36b1 := decide_eq_true c36
                     obtain ⟨y281, hy281⟩ : ∃ y_ : List (S38), y_ = ((l0.take ((wrap64 (a1 + 1)) : Int).toNat).drop ((rd t268 a1) : Int).toNat) := ⟨_, rfl⟩
                     replace H : (if y277.length + y281.length < 4398046511104 then ((expr_Right.f kj4 (y277 ++ y281)).bind fun t288 => (some t288)) else (none)) = some r := by first | (rw [hy281]; with_reducible exact H) | (have H2_ := (Option.bind_some _ _).symm.trans H; rw [hy281]; with_reducible exact H2_) | (have H2_ := (Option.bind_some _ _).symm.trans H; with_reducible exact H2_) | with_reducible exact H | (rw [hy281]; exact H) | exact H
                     have Ny281 := Aside0.mk hy281
                     clear hy281
                     by_cases c37 : y277.length + y281.length < 4398046511104
                     ·rw [if_pos c37] at H
                      have LMc37 := Aside0.mk c37
                      clear c37
                      obtain ⟨y285, hy285⟩ : ∃ y_ : List (S38), y_ = (y277 ++ y281) := ⟨_, rfl⟩
                      replace H : ((expr_Right.f kj4 y285).bind fun t288 => (some t288)) = some r := by first | (rw [hy285]; with_reducible exact H) | (have H2_ := (Option.bind_some _ _).symm.trans H; rw [hy285]; with_reducible exact H2_) | (have H2_ := (Option.bind_some _ _).symm.trans H; with_reducible exact H2_) | with_reducible exact H | (rw [hy285]; exact H) | exact H
                      have Ny285 := Aside0.mk hy285
                      clear hy285
                      replace H := Option.bind_eq_some_iff.mp H
                      obtain ⟨t288, A380, H⟩ := H
                      replace H : (some t288) = some r := H
                      have A38 := Aside0.mk A380
                      clear A380
                      obtain rfl := Option.some.inj H
                      try go_wp2_with (first | ((with_reducible refine gate_callee (f := 10) rfl ?_); refine goesL_ (some 35) rfl rfl Tryz.func10 (by kernel_rfl) rfl #[.slice A0 l0.length c0] rfl Zz2 ?_; (with_reducible refine (expr_Starts.calls kj4 _ _ l0 t268 _ ?side1 ?side2 A18.out).mono ?_); (case side1 => repeat (first | exact (Kd.C_below HR0.out HB.out) | (with_reducible refine Kd.C_alloc ?_ _) | (with_reducible refine Kd.C_drewN ?_ _) | (with_reducible refine Kd.C_drew ?_))); (case side2 => exact HC0.out); rintro e w39 ⟨v269, rfl, ho0, hb⟩; refine ⟨_, rfl, ?_⟩; have n0_ := Aside0.mk (Kd.R_lower ho0 (below_size Zz0)); have n1_ := Aside0.mk (below_step Zz0 hb); clear HB; have HO270 := n0_; have HB := n1_; clear n0_ n1_; (try clear hb); (try clear hb2); (try clear hk); (try clear hi); (try clear ho0); obtain ⟨Ao40, co40, eo40⟩ := Kd.R_slice HO270.out; subst eo40; have p271 : 0 ≤ ((ji20) : Int) := of_decide_eq_true Zz1; have q271 : (ji20) < (t268.length : Int) := of_decide_eq_true Zz1; obtain ⟨ad271, e271, hx271_0⟩ := Kd.at_int (Kd.R_reads' HO270.out).2.2 (ji20) p271 q271; cases e271; replace p271 := eq_true p271; replace q271 := eq_true q271; have p272 : 0 ≤ (a1 : Int) := of_decide_eq_true Zz1; have q272 : a1 < (t268.length : Int) := of_decide_eq_true Zz1; obtain ⟨ad272, e272, hx272_0⟩ := Kd.at_int (Kd.R_reads' HO270.out).2.2 a1 p272 q272; obtain rfl : ad271 = ad272 := (by injection e272); replace p272 := eq_true p272; replace q272 := eq_true q272; have p273 : 0 ≤ (a1 : Int) := of_decide_eq_true Zz1; have q273 : a1 < (t268.length : Int) := of_decide_eq_true Zz1; obtain ⟨ad273, e273, hx273_0⟩ := Kd.at_int (Kd.R_reads' HO270.out).2.2 a1 p273 q273; obtain rfl : ad271 = ad273 := (by injection e273); replace p273 := eq_true p273; replace q273 := eq_true q273; have p274 : 0 ≤ (a2 : Int) := of_decide_eq_true Zz1; have q274 : a2 < (t268.length : Int) := of_decide_eq_true Zz1; obtain ⟨ad274, e274, hx274_0⟩ := Kd.at_int (Kd.R_reads' HO270.out).2.2 a2 p274 q274; obtain rfl : ad271 = ad274 := (by injection e274); replace p274 := eq_true p274; replace q274 := eq_true q274; have p275 : 0 ≤ (a2 : Int) := of_decide_eq_true Zz1; have q275 : a2 < (t268.length : Int) := of_decide_eq_true Zz1; obtain ⟨ad275, e275, hx275_0⟩ := Kd.at_int (Kd.R_reads' HO270.out).2.2 a2 p275 q275; obtain rfl : ad271 = ad275 := (by injection e275); replace p275 := eq_true p275; replace q275 := eq_true q275))
                      have n0_ := Aside0.mk (Kd.R_drew HO270.out)
                      have n1_ := Aside0.mk (below_drew1 HB.out)
                      clear HO270
                      clear HB
                      have HO270 := n0_
                      have HB := n1_
                      clear n0_ n1_
                      have p276 : 0 ≤ (a2 : Int) := of_decide_eq_true Zz1
                      have q276 : a2 < (t268.length : Int) := of_decide_eq_true Zz1
                      obtain ⟨ad276, e276, hx276_0⟩ := Kd.at_int (Kd.R_reads' HO270.out).2.2 a2 p276 q276
                      obtain rfl : ad271 = ad276 := (by injection e276)
                      replace p276 := eq_true p276
                      replace q276 := eq_true q276
                      have p280 : 0 ≤ (a1 : Int) := of_decide_eq_true Zz1
                      have q280 : a1 < (t268.length : Int) := of_decide_eq_true Zz1
                      obtain ⟨ad280, e280, hx280_0⟩ := Kd.at_int (Kd.R_reads' HO270.out).2.2 a1 p280 q280
                      obtain rfl : ad271 = ad280 := (by injection e280)
                      replace p280 := eq_true p280
                      replace q280 := eq_true q280
                      have q42 : ((wrap64 (a1 + 1)) : Int) ≤ ((l0.length : Int) : Int) := of_decide_eq_true Zz1
                      obtain ⟨i042, hi042, _, hsz42, _⟩ := info_parts info38
                      have hroom42 : l0.length ≤ c0 := HC0.out
                      have hC42 : Kd.C k38 _ A0 l0.length l0 := HR0.out
                      have ql42 : ((rd t268 a1) : Int) ≤ ((wrap64 (a1 + 1)) : Int) := of_decide_eq_true Zz1
                      have q042 : (0 : Int) ≤ ((rd t268 a1) : Int) := of_decide_eq_true Zz1
                      have hcut42 := cut_mid (P := Tryz.prog) 22 38 .i64 .i64 Tryz.underlying22 hi042 3 hsz42 A0 l0.length c0 (rd t268 a1) (wrap64 (a1 + 1)) q042 ql42 q42 hroom42
                      have hr42 := Kd.C_mid (lo := ((rd t268 a1) : Int).toNat) (hi := ((wrap64 (a1 + 1)) : Int).toNat) (c := c0) hC42 (by omega) (by omega) hroom42
                      obtain ⟨A42, hA42⟩ : ∃ A1, A1 = (if c0 = ((rd t268 a1) : Int).toNat then A0 else (A0 : Option Addr).map (·.add (((rd t268 a1) : Int).toNat * 3))) := ⟨_, rfl⟩
                      obtain ⟨c42, hc42⟩ : ∃ c1, c1 = c0 - ((rd t268 a1) : Int).toNat := ⟨_, rfl⟩
                      have hy42 : y281.length = ((wrap64 (a1 + 1)) : Int).toNat - ((rd t268 a1) : Int).toNat := (by rw [Ny281.out, List.length_drop, List.length_take] <;> omega)
                      rw [show ((l0).take ((wrap64 (a1 + 1)) : Int).toNat).drop ((rd t268 a1) : Int).toNat = y281 from Ny281.out.symm] at hr42
                      replace hr42 : Kd.C k38 _ A42 y281.length y281 := (by rw [hA42]; exact hr42)
                      rw [← hy42, ← hA42, ← hc42] at hcut42
                      have HR284 := Aside0.mk hr42
                      have HC284 := Aside0.mk (show y281.length ≤ c42 from by rw [hy42, hc42]; exact Nat.sub_le_sub_right (Nat.le_trans (by omega) hroom42) _)
                      clear hr42 hC42 hroom42 hi042 hsz42 hc42
                      have KY42 := Aside0.mk hy42
                      have KA42 := Aside0.mk hA42
                      clear hy42 hA42
                      replace q42 := eq_true q42
                      refine start_ (n := 34) (S := fun w' => w'.cell? (ad271.add (a2).toNat) = some (.int .i64 (rd t268 a2)) ∧ w'.cell? (ad271.add (a1).toNat) = some (.int .i64 (rd t268 a1))) (ds := [30]) #[false, false, false, false, false, false, false, false, false, false, false, false, false, false, false, false, false, false, false, false, false, false, false, false, false, false, false, false, false, false, false, false, false, false] (by kernel_rfl) rfl rfl ⟨hx276_0, hx280_0⟩ (fun hHeld => ?_); refine with_tabW tammylaw07_ExprStarts.tab7 tammylaw07_ExprStarts.bits7 (fun HT_ HW_ => ?_)
                      generalize w39.drew = w41 at HO270 HB HR284 hx276_0 hx280_0 hHeld ⊢
                      refine pure_ (i := 0) (N := some 80) (v := ?_) (a' := ?_) #[true, false, false, false, false, false, false, false, false, false, false, false, false, false, false, false, false, false, false, false, false, false, false, false, false, false, false, false, false, false, false, false, false, false] rfl rfl (any_of HT_.out (by kernel_rfl)) (fun _ _ _ h => h) (Or.inl ⟨by rfl, ?_⟩) ?_ ?_
                      rotate_left
                      ·intro w'
                       go_simp
                       with_reducible rfl
                      rotate_left
                      ·simp only [Act.put, List.setIfInBounds_toArray, List.set_cons_zero, List.set_cons_succ, i64_w, i32_w]
                       rfl
                      refine pure_ (i := 1) (N := some 81) (v := ?_) (a' := ?_) #[true, true, false, false, false, false, false, false, false, false, false, false, false, false, false, false, false, false, false, false, false, false, false, false, false, false, false, false, false, false, false, false, false, false] rfl rfl (any_of HT_.out (by kernel_rfl)) (fun _ _ _ h => h) (Or.inl ⟨by rfl, ?_⟩) ?_ ?_
                      rotate_left
                      ·intro w'
                       go_simp
                       with_reducible rfl
                      rotate_left
                      ·simp only [Act.put, List.setIfInBounds_toArray, List.set_cons_zero, List.set_cons_succ, i64_w, i32_w]
                       rfl
                      refine pure_ (i := 2) (N := some 82) (v := ?_) (a' := ?_) #[true, true, true, false, false, false, false, false, false, false, false, false, false, false, false, false, false, false, false, false, false, false, false, false, false, false, false, false, false, false, false, false, false, false] rfl rfl (any_of HT_.out (by kernel_rfl)) (fun _ _ _ h => h) (Or.inl ⟨by rfl, ?_⟩) ?_ ?_
                      rotate_left
                      ·intro w'
                       go_simp
                       with_reducible rfl
                      rotate_left
                      ·simp only [Act.put, List.setIfInBounds_toArray, List.set_cons_zero, List.set_cons_succ, i64_w, i32_w]
                       rfl
                      refine pure_ (i := 3) (N := some 83) (v := ?_) (a' := ?_) #[true, true, true, true, false, false, false, false, false, false, false, false, false, false, false, false, false, false, false, false, false, false, false, false, false, false, false, false, false, false, false, false, false, false] rfl rfl (any_of HT_.out (by kernel_rfl)) (fun _ _ _ h => h) (Or.inl ⟨by rfl, ?_⟩) ?_ ?_
                      rotate_left
                      ·intro w'
                       go_simp
                       with_reducible rfl
                      rotate_left
                      ·simp only [Act.put, List.setIfInBounds_toArray, List.set_cons_zero, List.set_cons_succ, i64_w, i32_w]
                       rfl
                      refine pure_ (i := 4) (N := some 84) (v := ?_) (a' := ?_) #[true, true, true, true, true, false, false, false, false, false, false, false, false, false, false, false, false, false, false, false, false, false, false, false, false, false, false, false, false, false, false, false, false, false] rfl rfl (any_of HT_.out (by kernel_rfl)) (fun _ _ _ h => h) (Or.inl ⟨by rfl, ?_⟩) ?_ ?_
                      rotate_left
                      ·intro w'
                       go_simp
                       with_reducible rfl
                      rotate_left
                      ·simp only [Act.put, List.setIfInBounds_toArray, List.set_cons_zero, List.set_cons_succ, i64_w, i32_w]
                       rfl
                      refine pure_ (i := 6) (N := some 86) (v := ?_) (a' := ?_) #[true, true, true, true, true, false, true, false, false, false, false, false, false, false, false, false, false, false, false, false, false, false, false, false, false, false, false, false, false, false, false, false, false, false] rfl rfl (any_of HT_.out (by kernel_rfl)) (fun _ _ _ h => h) (Or.inl ⟨by rfl, ?_⟩) ?_ ?_
                      rotate_left
                      ·intro w'
                       go_simp
                       with_reducible rfl
                      rotate_left
                      ·simp only [Act.put, List.setIfInBounds_toArray, List.set_cons_zero, List.set_cons_succ, i64_w, i32_w]
                       rfl
                      refine take_ (i := 5) (N := some 85) (v := ?_) (a' := ?_) #[true, true, true, true, true, true, true, false, false, false, false, false, false, false, false, false, false, false, false, false, false, false, false, false, false, false, false, false, false, false, false, false, false, false] rfl rfl (take_ofW HT_.out HW_.out (by kernel_rfl)) (fun _ _ _ h => h) (Or.inl ⟨by rfl, ?_⟩) hHeld ?_ ?_
                      rotate_left
                      ·rintro w' ⟨s0, s1⟩
                       go_simp
                       with_reducible rfl
                      rotate_left
                      ·simp only [Act.put, List.setIfInBounds_toArray, List.set_cons_zero, List.set_cons_succ, i64_w, i32_w]
                       rfl
                      refine pure_ (i := 7) (N := some 87) (v := ?_) (a' := ?_) #[true, true, true, true, true, true, true, true, false, false, false, false, false, false, false, false, false, false, false, false, false, false, false, false, false, false, false, false, false, false, false, false, false, false] rfl rfl (any_of HT_.out (by kernel_rfl)) (fun _ _ _ h => h) (Or.inl ⟨by rfl, ?_⟩) ?_ ?_
                      rotate_left
                      ·intro w'
                       go_simp
                       with_reducible rfl
                      rotate_left
                      ·simp only [Act.put, List.setIfInBounds_toArray, List.set_cons_zero, List.set_cons_succ, i64_w, i32_w]
                       rfl
                      refine pure_ (i := 8) (N := some 88) (v := ?_) (a' := ?_) #[true, true, true, true, true, true, true, true, true, false, false, false, false, false, false, false, false, false, false, false, false, false, false, false, false, false, false, false, false, false, false, false, false, false] rfl rfl (any_of HT_.out (by kernel_rfl)) (fun _ _ _ h => h) (Or.inl ⟨by rfl, ?_⟩) ?_ ?_
                      rotate_left
                      ·intro w'
                       go_simp
                       with_reducible rfl
                      rotate_left
                      ·simp only [Act.put, List.setIfInBounds_toArray, List.set_cons_zero, List.set_cons_succ, i64_w, i32_w]
                       rfl
                      refine pure_ (i := 9) (N := some 89) (v := undef) (a' := ?_) #[true, true, true, true, true, true, true, true, true, true, false, false, false, false, false, false, false, false, false, false, false, false, false, false, false, false, false, false, false, false, false, false, false, false] rfl rfl (any_of HT_.out (by kernel_rfl)) (fun _ _ _ h => h) (Or.inr ⟨by rfl, rfl⟩) ?_ ?_
                      rotate_left
                      ·simp only [Act.put, List.setIfInBounds_toArray, List.set_cons_zero, List.set_cons_succ, i64_w, i32_w]
                       rfl
                      refine pure_ (i := 10) (N := some 90) (v := undef) (a' := ?_) #[true, true, true, true, true, true, true, true, true, true, true, false, false, false, false, false, false, false, false, false, false, false, false, false, false, false, false, false, false, false, false, false, false, false] rfl rfl (any_of HT_.out (by kernel_rfl)) (fun _ _ _ h => h) (Or.inr ⟨by rfl, rfl⟩) ?_ ?_
                      rotate_left
                      ·simp only [Act.put, List.setIfInBounds_toArray, List.set_cons_zero, List.set_cons_succ, i64_w, i32_w]
                       rfl
                      refine pure_ (i := 11) (N := some 91) (v := undef) (a' := ?_) #[true, true, true, true, true, true, true, true, true, true, true, true, false, false, false, false, false, false, false, false, false, false, false, false, false, false, false, false, false, false, false, false, false, false] rfl rfl (any_of HT_.out (by kernel_rfl)) (fun _ _ _ h => h) (Or.inr ⟨by rfl, rfl⟩) ?_ ?_
                      rotate_left
                      ·simp only [Act.put, List.setIfInBounds_toArray, List.set_cons_zero, List.set_cons_succ, i64_w, i32_w]
                       rfl
                      refine pure_ (i := 12) (N := some 92) (v := undef) (a' := ?_) #[true, true, true, true, true, true, true, true, true, true, true, true, true, false, false, false, false, false, false, false, false, false, false, false, false, false, false, false, false, false, false, false, false, false] rfl rfl (any_of HT_.out (by kernel_rfl)) (fun _ _ _ h => h) (Or.inr ⟨by rfl, rfl⟩) ?_ ?_
                      rotate_left
                      ·simp only [Act.put, List.setIfInBounds_toArray, List.set_cons_zero, List.set_cons_succ, i64_w, i32_w]
                       rfl
                      refine pure_ (i := 13) (N := some 93) (v := undef) (a' := ?_) #[true, true, true, true, true, true, true, true, true, true, true, true, true, true, false, false, false, false, false, false, false, false, false, false, false, false, false, false, false, false, false, false, false, false] rfl rfl (any_of HT_.out (by kernel_rfl)) (fun _ _ _ h => h) (Or.inr ⟨by rfl, rfl⟩) ?_ ?_
                      rotate_left
                      ·simp only [Act.put, List.setIfInBounds_toArray, List.set_cons_zero, List.set_cons_succ, i64_w, i32_w]
                       rfl
                      refine pure_ (i := 14) (N := some 94) (v := undef) (a' := ?_) #[true, true, true, true, true, true, true, true, true, true, true, true, true, true, true, false, false, false, false, false, false, false, false, false, false, false, false, false, false, false, false, false, false, false] rfl rfl (any_of HT_.out (by kernel_rfl)) (fun _ _ _ h => h) (Or.inr ⟨by rfl, rfl⟩) ?_ ?_
                      rotate_left
                      ·simp only [Act.put, List.setIfInBounds_toArray, List.set_cons_zero, List.set_cons_succ, i64_w, i32_w]
                       rfl
                      refine pure_ (i := 15) (N := some 95) (v := undef) (a' := ?_) #[true, true, true, true, true, true, true, true, true, true, true, true, true, true, true, true, false, false, false, false, false, false, false, false, false, false, false, false, false, false, false, false, false, false] rfl rfl (any_of HT_.out (by kernel_rfl)) (fun _ _ _ h => h) (Or.inr ⟨by rfl, rfl⟩) ?_ ?_
                      rotate_left
                      ·simp only [Act.put, List.setIfInBounds_toArray, List.set_cons_zero, List.set_cons_succ, i64_w, i32_w]
                       rfl
                      refine pure_ (i := 16) (N := some 96) (v := undef) (a' := ?_) #[true, true, true, true, true, true, true, true, true, true, true, true, true, true, true, true, true, false, false, false, false, false, false, false, false, false, false, false, false, false, false, false, false, false] rfl rfl (any_of HT_.out (by kernel_rfl)) (fun _ _ _ h => h) (Or.inr ⟨by rfl, rfl⟩) ?_ ?_
                      rotate_left
                      ·simp only [Act.put, List.setIfInBounds_toArray, List.set_cons_zero, List.set_cons_succ, i64_w, i32_w]
                       rfl
                      refine pure_ (i := 17) (N := some 97) (v := undef) (a' := ?_) #[true, true, true, true, true, true, true, true, true, true, true, true, true, true, true, true, true, true, false, false, false, false, false, false, false, false, false, false, false, false, false, false, false, false] rfl rfl (any_of HT_.out (by kernel_rfl)) (fun _ _ _ h => h) (Or.inr ⟨by rfl, rfl⟩) ?_ ?_
                      rotate_left
                      ·simp only [Act.put, List.setIfInBounds_toArray, List.set_cons_zero, List.set_cons_succ, i64_w, i32_w]
                       rfl
                      refine pure_ (i := 18) (N := some 98) (v := ?_) (a' := ?_) #[true, true, true, true, true, true, true, true, true, true, true, true, true, true, true, true, true, true, true, false, false, false, false, false, false, false, false, false, false, false, false, false, false, false] rfl rfl (any_of HT_.out (by kernel_rfl)) (fun _ _ _ h => h) (Or.inl ⟨by rfl, ?_⟩) ?_ ?_
                      rotate_left
                      ·intro w'
                       go_simp
                       with_reducible rfl
                      rotate_left
                      ·simp only [Act.put, List.setIfInBounds_toArray, List.set_cons_zero, List.set_cons_succ, i64_w, i32_w]
                       rfl
                      refine pure_ (i := 19) (N := some 99) (v := ?_) (a' := ?_) #[true, true, true, true, true, true, true, true, true, true, true, true, true, true, true, true, true, true, true, true, false, false, false, false, false, false, false, false, false, false, false, false, false, false] rfl rfl (any_of HT_.out (by kernel_rfl)) (fun _ _ _ h => h) (Or.inl ⟨by rfl, ?_⟩) ?_ ?_
                      rotate_left
                      ·intro w'
                       go_simp
                       with_reducible rfl
                      rotate_left
                      ·simp only [Act.put, List.setIfInBounds_toArray, List.set_cons_zero, List.set_cons_succ, i64_w, i32_w]
                       rfl
                      refine pure_ (i := 20) (N := some 100) (v := ?_) (a' := ?_) #[true, true, true, true, true, true, true, true, true, true, true, true, true, true, true, true, true, true, true, true, true, false, false, false, false, false, false, false, false, false, false, false, false, false] rfl rfl (any_of HT_.out (by kernel_rfl)) (fun _ _ _ h => h) (Or.inl ⟨by rfl, ?_⟩) ?_ ?_
                      rotate_left
                      ·intro w'
                       go_simp
                       with_reducible rfl
                      rotate_left
                      ·simp only [Act.put, List.setIfInBounds_toArray, List.set_cons_zero, List.set_cons_succ, i64_w, i32_w]
                       rfl
                      refine pure_ (i := 22) (N := some 102) (v := ?_) (a' := ?_) #[true, true, true, true, true, true, true, true, true, true, true, true, true, true, true, true, true, true, true, true, true, false, true, false, false, false, false, false, false, false, false, false, false, false] rfl rfl (any_of HT_.out (by kernel_rfl)) (fun _ _ _ h => h) (Or.inl ⟨by rfl, ?_⟩) ?_ ?_
                      rotate_left
                      ·intro w'
                       go_simp
                       with_reducible rfl
                      rotate_left
                      ·simp only [Act.put, List.setIfInBounds_toArray, List.set_cons_zero, List.set_cons_succ, i64_w, i32_w]
                       rfl
                      refine pure_ (i := 23) (N := some 103) (v := ?_) (a' := ?_) #[true, true, true, true, true, true, true, true, true, true, true, true, true, true, true, true, true, true, true, true, true, false, true, true, false, false, false, false, false, false, false, false, false, false] rfl rfl (any_of HT_.out (by kernel_rfl)) (fun _ _ _ h => h) (Or.inl ⟨by rfl, ?_⟩) ?_ ?_
                      rotate_left
                      ·intro w'
                       go_simp
                       with_reducible rfl
                      rotate_left
                      ·simp only [Act.put, List.setIfInBounds_toArray, List.set_cons_zero, List.set_cons_succ, i64_w, i32_w]
                       rfl
                      refine pure_ (i := 24) (N := some 104) (v := ?_) (a' := ?_) #[true, true, true, true, true, true, true, true, true, true, true, true, true, true, true, true, true, true, true, true, true, false, true, true, true, false, false, false, false, false, false, false, false, false] rfl rfl (any_of HT_.out (by kernel_rfl)) (fun _ _ _ h => h) (Or.inl ⟨by rfl, ?_⟩) ?_ ?_
                      rotate_left
                      ·intro w'
                       go_simp
                       with_reducible rfl
                      rotate_left
                      ·simp only [Act.put, List.setIfInBounds_toArray, List.set_cons_zero, List.set_cons_succ, i64_w, i32_w]
                       rfl
                      refine pure_ (i := 25) (N := some 105) (v := ?_) (a' := ?_) #[true, true, true, true, true, true, true, true, true, true, true, true, true, true, true, true, true, true, true, true, true, false, true, true, true, true, false, false, false, false, false, false, false, false] rfl rfl (any_of HT_.out (by kernel_rfl)) (fun _ _ _ h => h) (Or.inl ⟨by rfl, ?_⟩) ?_ ?_
                      rotate_left
                      ·intro w'
                       go_simp
                       with_reducible rfl
                      rotate_left
                      ·simp only [Act.put, List.setIfInBounds_toArray, List.set_cons_zero, List.set_cons_succ, i64_w, i32_w]
                       rfl
                      refine pure_ (i := 27) (N := some 107) (v := ?_) (a' := ?_) #[true, true, true, true, true, true, true, true, true, true, true, true, true, true, true, true, true, true, true, true, true, false, true, true, true, true, false, true, false, false, false, false, false, false] rfl rfl (any_of HT_.out (by kernel_rfl)) (fun _ _ _ h => h) (Or.inl ⟨by rfl, ?_⟩) ?_ ?_
                      rotate_left
                      ·intro w'
                       go_simp
                       with_reducible rfl
                      rotate_left
                      ·simp only [Act.put, List.setIfInBounds_toArray, List.set_cons_zero, List.set_cons_succ, i64_w, i32_w]
                       rfl
                      refine pure_ (i := 28) (N := some 108) (v := ?_) (a' := ?_) #[true, true, true, true, true, true, true, true, true, true, true, true, true, true, true, true, true, true, true, true, true, false, true, true, true, true, false, true, true, false, false, false, false, false] rfl rfl (any_of HT_.out (by kernel_rfl)) (fun _ _ _ h => h) (Or.inl ⟨by rfl, ?_⟩) ?_ ?_
                      rotate_left
                      ·intro w'
                       go_simp
                       with_reducible rfl
                      rotate_left
                      ·simp only [Act.put, List.setIfInBounds_toArray, List.set_cons_zero, List.set_cons_succ, i64_w, i32_w]
                       rfl
                      refine take_ (i := 26) (N := some 106) (v := ?_) (a' := ?_) #[true, true, true, true, true, true, true, true, true, true, true, true, true, true, true, true, true, true, true, true, true, false, true, true, true, true, true, true, true, false, false, false, false, false] rfl rfl (take_ofW HT_.out HW_.out (by kernel_rfl)) (fun _ _ _ h => h) (Or.inl ⟨by rfl, ?_⟩) hHeld ?_ ?_
                      rotate_left
                      ·rintro w' ⟨s0, s1⟩
                       go_simp
                       with_reducible rfl
                      rotate_left
                      ·simp only [Act.put, List.setIfInBounds_toArray, List.set_cons_zero, List.set_cons_succ, i64_w, i32_w]
                       rfl
                      refine pure_ (i := 29) (N := some 109) (v := ?_) (a' := ?_) #[true, true, true, true, true, true, true, true, true, true, true, true, true, true, true, true, true, true, true, true, true, false, true, true, true, true, true, true, true, true, false, false, false, false] rfl rfl (any_of HT_.out (by kernel_rfl)) (fun _ _ _ h => h) (Or.inl ⟨by rfl, ?_⟩) ?_ ?_
                      rotate_left
                      ·intro w'
                       go_simp
                       with_reducible rfl
                      rotate_left
                      ·simp only [Act.put, List.setIfInBounds_toArray, List.set_cons_zero, List.set_cons_succ, i64_w, i32_w]
                       rfl
                      refine one_ (i := 21) (N := some 101) #[true, true, true, true, true, true, true, true, true, true, true, true, true, true, true, true, true, true, true, true, true, true, true, true, true, true, true, true, true, true, false, false, false, false] rfl rfl (one_of HT_.out (by kernel_rfl)) (by decide) (fun K hK => ?_)
                      refine Kd.R_lit_step k38 _ 38 ?hg (N := 101) ?hd (xs := ([] : List (S38))) (inner := []) (ok := fun _ => True) (okp := fun _ => True) ?hr ?hp (fun _ hk => hk) trivial (Below.refl _ _) (Nat.le_refl _) (by simp) ?_; (case hd => rfl); (case hg => rfl); (case hr => first | (go_simp; done) | (go_simp; rfl)); (case hp => exact (Reps.none _ _))
                      intro v278 w43 ho44 hb hg_ hnew_
                      have HS0_ := (hb.cell (World.block_lt_of_cell? _ _ (hHeld.1))).trans (hHeld.1)
                      have HS1_ := (hb.cell (World.block_lt_of_cell? _ _ (hHeld.2))).trans (hHeld.2)
                      clear hg_ hnew_
                      (first | rw [← Ny277.out] at ho44 | (simp only [Int.reduceToNat] at ho44; rw [← Ny277.out] at ho44))
                      have n0_ := Aside0.mk (Kd.R_below (Zz31 HO270.out) hb)
                      have n1_ := Aside0.mk (Kd.R_lower ho44 (below_size Zz0))
                      have n2_ := Aside0.mk (below_step Zz0 hb)
                      clear HO270
                      clear HB
                      have HO270 := n0_
                      have HO279 := n1_
                      have HB := n2_
                      clear n0_ n1_ n2_
                      clear hb ho44
                      refine hK.out _ _ ⟨HS0_, HS1_⟩ (fun hHeld => ?_)
                      clear hK K
                      refine norm_ (a' := ?_) ?_ ?_
                      rotate_left
                      ·show Act.put _ (some 101) _ = _
                       simp only [Act.put, List.setIfInBounds_toArray, List.set_cons_zero, List.set_cons_succ, i64_w, i32_w]
                       rfl
                      refine last_ (i := 30) (N := some 110) #[true, true, true, true, true, true, true, true, true, true, true, true, true, true, true, true, true, true, true, true, true, true, true, true, true, true, true, true, true, true, true, false, false, false] rfl rfl (one_of HT_.out (by kernel_rfl)) (by decide) (fun K hK => ?_)
                      refine Kd.R_append_rows_step k38 (w0 := w) w.heap.size (by rfl) (.tmp 101) (.tmp 109) 22 38 (.agg #[(.int .i64 0), (.string ⟨#[]⟩), (.int .i64 0)]) 32 rfl Tryz.underlying22 info38 rfl (by decide) (by omega) v278 y277 y281 _ _ _ (fun _ => True) (fun _ => False) rfl rfl ?aO ?aR (fun _ _ h => h) (fun _ h => h.elim) ?aF ?aB ?aS ?aL ?_
                      (case aR => repeat (first | exact (Kd.C_below HR284.out HB.out) | (with_reducible refine Kd.C_alloc ?_ _) | (with_reducible refine Kd.C_drewN ?_ _) | (with_reducible refine Kd.C_drew ?_)))
                      (case aB => exact Zz0)
                      (case aF => exact (fun _ _ => trivial))
                      (case aO => exact (Zz31 HO279.out))
                      (case aS => exact (below_size Zz0))
                      (case aL => have := LMc37.out; omega)
                      intro v286 w45 ho hb hg hat
                      rw [← Ny285.out] at ho
                      have n0_ := Aside0.mk (Kd.R_over' (Zz31 HO270.out) (Kd.R_typed (Zz31 HO279.out)) (by decide) hg)
                      have n1_ := Aside0.mk (hb)
                      have n2_ := Aside0.mk (ho)
                      clear HO270
                      clear HB
                      clear HO279
                      have HO270 := n0_
                      have HB := n1_
                      have HO287 := n2_
                      clear n0_ n1_ n2_
                      clear ho hb hg hat
                      obtain ⟨Ao46, co46, eo46⟩ := Kd.R_slice HO287.out
                      (first | subst eo46 | (injection eo46 with f1_ f2_ f3_; have f4_ := f1_.symm; have f5_ := f3_.symm; clear f1_ f2_ f3_; subst f4_; subst f5_))
                      refine hK.out _ _ ?_
                      clear hK K
                      refine norm_ (a' := ?_) ?_ ?_
                      rotate_left
                      ·show Act.put _ (some 110) _ = _
                       simp only [Act.put, List.setIfInBounds_toArray, List.set_cons_zero, List.set_cons_succ, i64_w, i32_w]
                       rfl
                      refine one_ (i := 31) (N := some 111) #[true, true, true, true, true, true, true, true, true, true, true, true, true, true, true, true, true, true, true, true, true, true, true, true, true, true, true, true, true, true, true, true, false, false] rfl rfl (one_of HT_.out (by kernel_rfl)) (by decide) (fun K hK => ?_)
                      refine goes_ Tryz.func11 (by kernel_rfl) rfl #[.slice Ao46 y285.length co46] (by rfl) rfl rfl Zz2 ?_
                      with_reducible refine (expr_Right.calls kj4 _ _ y285 t288 _ ?side1 ?side2 A38.out).mono ?_
                      (case side1 => repeat (first | exact (Kd.R_reads' HO287.out).2.2 | (with_reducible refine Kd.C_alloc ?_ _) | (with_reducible refine Kd.C_drewN ?_ _) | (with_reducible refine Kd.C_drew ?_)))
                      (case side2 => exact (Kd.R_reads' HO287.out).2.1)
                      obtain ⟨_, e0_, X2_⟩ := Kd.at_int (Kd.R_reads' HO270.out).2.2 a2 (of_eq_true (by assumption)) (of_eq_true (by assumption))
                      cases e0_
                      obtain ⟨_, e0_, X1_⟩ := Kd.at_int (Kd.R_reads' HO270.out).2.2 a1 (of_eq_true (by assumption)) (of_eq_true (by assumption))
                      cases e0_
                      have hHeld := And.intro X2_ X1_
                      rintro e w47 ⟨rfl, hb⟩
                      have HS0_ := (hb.cell (World.block_lt_of_cell? _ _ (hHeld.1))).trans (hHeld.1)
                      have HS1_ := (hb.cell (World.block_lt_of_cell? _ _ (hHeld.2))).trans (hHeld.2)
                      refine ⟨_, rfl, ?_⟩
                      have n0_ := Aside0.mk (Kd.R_below (Zz31 HO270.out) hb)
                      have n1_ := Aside0.mk (Kd.R_below (Zz31 HO287.out) hb)
                      have n2_ := Aside0.mk (below_step Zz0 hb)
                      clear HO270
                      clear HO287
                      clear HB
                      have HO270 := n0_
                      have HO287 := n1_
                      have HB := n2_
                      clear n0_ n1_ n2_
                      (try clear hb)
                      (try clear hb2)
                      (try clear hk)
                      (try clear hi)
                      refine hK.out _ _ ⟨HS0_, HS1_⟩ (fun hHeld => ?_)
                      clear hK K
                      refine norm_ (a' := ?_) ?_ ?_
                      rotate_left
                      ·show Act.put _ (some 111) _ = _
                       simp only [Act.put, List.setIfInBounds_toArray, List.set_cons_zero, List.set_cons_succ, i64_w, i32_w]
                       rfl
                      refine pure_ (i := 32) (N := some 112) (v := ?_) (a' := ?_) #[true, true, true, true, true, true, true, true, true, true, true, true, true, true, true, true, true, true, true, true, true, true, true, true, true, true, true, true, true, true, true, true, true, false] rfl rfl (any_of HT_.out (by kernel_rfl)) (fun _ _ _ h => h) (Or.inl ⟨by rfl, ?_⟩) ?_ ?_
                      rotate_left
                      ·intro w'
                       go_simp
                       with_reducible rfl
                      rotate_left
                      ·simp only [Act.put, List.setIfInBounds_toArray, List.set_cons_zero, List.set_cons_succ, i64_w, i32_w]
                       rfl
                      refine pure_ (i := 33) (N := some 6) (v := ?_) (a' := ?_) #[true, true, true, true, true, true, true, true, true, true, true, true, true, true, true, true, true, true, true, true, true, true, true, true, true, true, true, true, true, true, true, true, true, true] rfl rfl (any_of HT_.out (by kernel_rfl)) (fun _ _ _ h => h) (Or.inl ⟨by rfl, ?_⟩) ?_ ?_
                      rotate_left
                      ·intro w'
                       go_simp
                       with_reducible rfl
                      rotate_left
                      ·simp only [Act.put, List.setIfInBounds_toArray, List.set_cons_zero, List.set_cons_succ, i64_w, i32_w]
                       rfl
                      refine done_ (done_of HT_.out (by kernel_rfl)) ?_
                      try go_wp2
                      go_ret
                      exact ⟨by first | rfl | (simp [errW_none, errW_some] <;> rfl) | (simp only [← hji20]; first | rfl | (simp [errW_none, errW_some] <;> rfl)) | (simp [*, errW_none, errW_some] <;> rfl), by repeat (first | (with_reducible first | exact HB.out | apply below_alloc | apply pw_below_drewN | apply below_drew1) | exact HB.out)⟩
                     ·rw [if_neg c37] at H
                      exact absurd H (by simp)
                    ·rw [if_neg c36] at H
                     exact absurd H (by simp)
                   ·rw [if_neg c35] at H
                    exact absurd H (by simp)
                  ·rw [if_neg c34] at H
                   exact absurd H (by simp)
                 ·rw [if_neg c33] at H
                  have c33b0 : decide (a1 < (rd t268 a2)) = false := decide_eq_false c33
                  clear c33
                  by_cases c48 : (rd t268 a2) ≤ (rd t268 a1)
                  ·rw [if_pos c48] at H
                   have c48b0 := decide_eq_true c48
                   clear c48
                   obtain ⟨y291, hy291⟩ : ∃ y_ : List (S38), y_ = (([] : List (S38))) := ⟨_, rfl⟩
                   replace H : (if 0 ≤ (rd t268 a1) then (if (rd t268 a1) ≤ (wrap64 (a1 + 1)) then (if (wrap64 (a1 + 1)) ≤ (l0.length : Int) then ((some ((l0.take ((wrap64 (a1 + 1)) : Int).toNat).drop ((rd t268 a1) : Int).toNat : List (S38))).bind fun y295 => (if y291.length + y295.length < 4398046511104 then ((expr_Right.f kj4 (y291 ++ y295)).bind fun t302 => (some t302)) else (none))) else (none)) else (none)) else (none)) = some r := by first | (rw [hy291]; with_reducible exact H) | (have H2_ := (Option.bind_some _ _).symm.trans H; rw [hy291]; with_reducible exact H2_) | (have H2_ := (Option.bind_some _ _).symm.trans H; with_reducible exact H2_) | with_reducible exact H | (rw [hy291]; exact H) | exact H
                   have Ny291 := Aside0.mk hy291
                   clear hy291
                   by_cases c49 : 0 ≤ (rd t268 a1)
                   ·rw [if_pos c49] at H
                    have c49b0 := eq_true c49
                    have c49b1 := decide_eq_true c49
                    clear c49
                    by_cases c50 : (rd t268 a1) ≤ (wrap64 (a1 + 1))
                    ·rw [if_pos c50] at H
                     have c50b0 := eq_true c50
                     have c50b1 := decide_eq_true c50
                     by_cases c51 : (wrap64 (a1 + 1)) ≤ (l0.length : Int)
                     ·rw [if_pos c51] at H
                      have c51b0 := eq_true c51
                      have c51b1 := decide_eq_true c51
                      obtain ⟨y295, hy295⟩ : ∃ y_ : List (S38), y_ = ((l0.take ((wrap64 (a1 + 1)) : Int).toNat).drop ((rd t268 a1) : Int).toNat) := ⟨_, rfl⟩
                      replace H : (if y291.length + y295.length < 4398046511104 then ((expr_Right.f kj4 (y291 ++ y295)).bind fun t302 => (some t302)) else (none)) = some r := by first | (rw [hy295]; with_reducible exact H) | (have H2_ := (Option.bind_some _ _).symm.trans H; rw [hy295]; with_reducible exact H2_) | (have H2_ := (Option.bind_some _ _).symm.trans H; with_reducible exact H2_) | with_reducible exact H | (rw [hy295]; exact H) | exact H
                      have Ny295 := Aside0.mk hy295
                      clear hy295
                      by_cases c52 : y291.length + y295.length < 4398046511104
                      ·rw [if_pos c52] at H
                       have LMc52 := Aside0.mk c52
                       clear c52
                       obtain ⟨y299, hy299⟩ : ∃ y_ : List (S38), y_ = (y291 ++ y295) := ⟨_, rfl⟩
                       replace H : ((expr_Right.f kj4 y299).bind fun t302 => (some t302)) = some r := by first | (rw [hy299]; with_reducible exact H) | (have H2_ := (Option.bind_some _ _).symm.trans H; rw [hy299]; with_reducible exact H2_) | (have H2_ := (Option.bind_some _ _).symm.trans H; with_reducible exact H2_) | with_reducible exact H | (rw [hy299]; exact H) | exact H
                       have Ny299 := Aside0.mk hy299
                       clear hy299
                       replace H := Option.bind_eq_some_iff.mp H
                       obtain ⟨t302, A530, H⟩ := H
                       replace H : (some t302) = some r := H
                       have A53 := Aside0.mk A530
                       clear A530
                       obtain rfl := Option.some.inj H
                       try go_wp2_with (first | ((with_reducible refine gate_callee (f := 10) rfl ?_); refine goesL_ (some 35) rfl rfl Tryz.func10 (by kernel_rfl) rfl #[.slice A0 l0.length c0] rfl Zz2 ?_; (with_reducible refine (expr_Starts.calls kj4 _ _ l0 t268 _ ?side1 ?side2 A18.out).mono ?_); (case side1 => repeat (first | exact (Kd.C_below HR0.out HB.out) | (with_reducible refine Kd.C_alloc ?_ _) | (with_reducible refine Kd.C_drewN ?_ _) | (with_reducible refine Kd.C_drew ?_))); (case side2 => exact HC0.out); rintro e w54 ⟨v269, rfl, ho0, hb⟩; refine ⟨_, rfl, ?_⟩; have n0_ := Aside0.mk (Kd.R_lower ho0 (below_size Zz0)); have n1_ := Aside0.mk (below_step Zz0 hb); clear HB; have HO270 := n0_; have HB := n1_; clear n0_ n1_; (try clear hb); (try clear hb2); (try clear hk); (try clear hi); (try clear ho0); obtain ⟨Ao55, co55, eo55⟩ := Kd.R_slice HO270.out; subst eo55; have p271 : 0 ≤ ((ji20) : Int) := of_decide_eq_true Zz1; have q271 : (ji20) < (t268.length : Int) := of_decide_eq_true Zz1; obtain ⟨ad271, e271, hx271_0⟩ := Kd.at_int (Kd.R_reads' HO270.out).2.2 (ji20) p271 q271; cases e271; replace p271 := eq_true p271; replace q271 := eq_true q271; have p272 : 0 ≤ (a1 : Int) := of_decide_eq_true Zz1; have q272 : a1 < (t268.length : Int) := of_decide_eq_true Zz1; obtain ⟨ad272, e272, hx272_0⟩ := Kd.at_int (Kd.R_reads' HO270.out).2.2 a1 p272 q272; obtain rfl : ad271 = ad272 := (by injection e272); replace p272 := eq_true p272; replace q272 := eq_true q272; have p273 : 0 ≤ (a1 : Int) := of_decide_eq_true Zz1; have q273 : a1 < (t268.length : Int) := of_decide_eq_true Zz1; obtain ⟨ad273, e273, hx273_0⟩ := Kd.at_int (Kd.R_reads' HO270.out).2.2 a1 p273 q273; obtain rfl : ad271 = ad273 := (by injection e273); replace p273 := eq_true p273; replace q273 := eq_true q273; have p274 : 0 ≤ (a2 : Int) := of_decide_eq_true Zz1; have q274 : a2 < (t268.length : Int) := of_decide_eq_true Zz1; obtain ⟨ad274, e274, hx274_0⟩ := Kd.at_int (Kd.R_reads' HO270.out).2.2 a2 p274 q274; obtain rfl : ad271 = ad274 := (by injection e274); replace p274 := eq_true p274; replace q274 := eq_true q274; have p275 : 0 ≤ (a2 : Int) := of_decide_eq_true Zz1; have q275 : a2 < (t268.length : Int) := of_decide_eq_true Zz1; obtain ⟨ad275, e275, hx275_0⟩ := Kd.at_int (Kd.R_reads' HO270.out).2.2 a2 p275 q275; obtain rfl : ad271 = ad275 := (by injection e275); replace p275 := eq_true p275; replace q275 := eq_true q275))
                       have n0_ := Aside0.mk (Kd.R_drew HO270.out)
                       have n1_ := Aside0.mk (below_drew1 HB.out)
                       clear HO270
                       clear HB
                       have HO270 := n0_
                       have HB := n1_
                       clear n0_ n1_
                       have p276 : 0 ≤ (a2 : Int) := of_decide_eq_true Zz1
                       have q276 : a2 < (t268.length : Int) := of_decide_eq_true Zz1
                       obtain ⟨ad276, e276, hx276_0⟩ := Kd.at_int (Kd.R_reads' HO270.out).2.2 a2 p276 q276
                       obtain rfl : ad271 = ad276 := (by injection e276)
                       replace p276 := eq_true p276
                       replace q276 := eq_true q276
                       have p289 : 0 ≤ (a2 : Int) := of_decide_eq_true Zz1
                       have q289 : a2 < (t268.length : Int) := of_decide_eq_true Zz1
                       obtain ⟨ad289, e289, hx289_0⟩ := Kd.at_int (Kd.R_reads' HO270.out).2.2 a2 p289 q289
                       obtain rfl : ad271 = ad289 := (by injection e289)
                       replace p289 := eq_true p289
                       replace q289 := eq_true q289
                       have p290 : 0 ≤ (a1 : Int) := of_decide_eq_true Zz1
                       have q290 : a1 < (t268.length : Int) := of_decide_eq_true Zz1
                       obtain ⟨ad290, e290, hx290_0⟩ := Kd.at_int (Kd.R_reads' HO270.out).2.2 a1 p290 q290
                       obtain rfl : ad271 = ad290 := (by injection e290)
                       replace p290 := eq_true p290
                       replace q290 := eq_true q290
                       have p294 : 0 ≤ (a1 : Int) := of_decide_eq_true Zz1
                       have q294 : a1 < (t268.length : Int) := of_decide_eq_true Zz1
                       obtain ⟨ad294, e294, hx294_0⟩ := Kd.at_int (Kd.R_reads' HO270.out).2.2 a1 p294 q294
                       obtain rfl : ad271 = ad294 := (by injection e294)
                       replace p294 := eq_true p294
                       replace q294 := eq_true q294
                       have q57 : ((wrap64 (a1 + 1)) : Int) ≤ ((l0.length : Int) : Int) := of_decide_eq_true Zz1
                       obtain ⟨i057, hi057, _, hsz57, _⟩ := info_parts info38
                       have hroom57 : l0.length ≤ c0 := HC0.out
                       have hC57 : Kd.C k38 _ A0 l0.length l0 := HR0.out
                       have ql57 : ((rd t268 a1) : Int) ≤ ((wrap64 (a1 + 1)) : Int) := of_decide_eq_true Zz1
                       have q057 : (0 : Int) ≤ ((rd t268 a1) : Int) := of_decide_eq_true Zz1
                       have hcut57 := cut_mid (P := Tryz.prog) 22 38 .i64 .i64 Tryz.underlying22 hi057 3 hsz57 A0 l0.length c0 (rd t268 a1) (wrap64 (a1 + 1)) q057 ql57 q57 hroom57
                       have hr57 := Kd.C_mid (lo := ((rd t268 a1) : Int).toNat) (hi := ((wrap64 (a1 + 1)) : Int).toNat) (c := c0) hC57 (by omega) (by omega) hroom57
                       obtain ⟨A57, hA57⟩ : ∃ A1, A1 = (if c0 = ((rd t268 a1) : Int).toNat then A0 else (A0 : Option Addr).map (·.add (((rd t268 a1) : Int).toNat * 3))) := ⟨_, rfl⟩
                       obtain ⟨c57, hc57⟩ : ∃ c1, c1 = c0 - ((rd t268 a1) : Int).toNat := ⟨_, rfl⟩
                       have hy57 : y295.length = ((wrap64 (a1 + 1)) : Int).toNat - ((rd t268 a1) : Int).toNat := (by rw [Ny295.out, List.length_drop, List.length_take] <;> omega)
                       rw [show ((l0).take ((wrap64 (a1 + 1)) : Int).toNat).drop ((rd t268 a1) : Int).toNat = y295 from Ny295.out.symm] at hr57
                       replace hr57 : Kd.C k38 _ A57 y295.length y295 := (by rw [hA57]; exact hr57)
                       rw [← hy57, ← hA57, ← hc57] at hcut57
                       have HR298 := Aside0.mk hr57
                       have HC298 := Aside0.mk (show y295.length ≤ c57 from by rw [hy57, hc57]; exact Nat.sub_le_sub_right (Nat.le_trans (by omega) hroom57) _)
                       clear hr57 hC57 hroom57 hi057 hsz57 hc57
                       have KY57 := Aside0.mk hy57
                       have KA57 := Aside0.mk hA57
                       clear hy57 hA57
                       replace q57 := eq_true q57
                       refine start_ (n := 34) (S := fun w' => w'.cell? (ad271.add (a2).toNat) = some (.int .i64 (rd t268 a2)) ∧ w'.cell? (ad271.add (a2).toNat) = some (.int .i64 (rd t268 a2)) ∧ w'.cell? (ad271.add (a1).toNat) = some (.int .i64 (rd t268 a1)) ∧ w'.cell? (ad271.add (a1).toNat) = some (.int .i64 (rd t268 a1))) (ds := [30]) #[false, false, false, false, false, false, false, false, false, false, false, false, false, false, false, false, false, false, false, false, false, false, false, false, false, false, false, false, false, false, false, false, false, false] (by kernel_rfl) rfl rfl ⟨hx276_0, hx289_0, hx290_0, hx294_0⟩ (fun hHeld => ?_); refine with_tabW tammylaw07_ExprStarts.tab7 tammylaw07_ExprStarts.bits7 (fun HT_ HW_ => ?_)
                       generalize w54.drew = w56 at HO270 HB HR298 hx276_0 hx289_0 hx290_0 hx294_0 hHeld ⊢
                       refine pure_ (i := 0) (N := some 80) (v := ?_) (a' := ?_) #[true, false, false, false, false, false, false, false, false, false, false, false, false, false, false, false, false, false, false, false, false, false, false, false, false, false, false, false, false, false, false, false, false, false] rfl rfl (any_of HT_.out (by kernel_rfl)) (fun _ _ _ h => h) (Or.inl ⟨by rfl, ?_⟩) ?_ ?_
                       rotate_left
                       ·intro w'
                        go_simp
                        with_reducible rfl
                       rotate_left
                       ·simp only [Act.put, List.setIfInBounds_toArray, List.set_cons_zero, List.set_cons_succ, i64_w, i32_w]
                        rfl
                       refine pure_ (i := 1) (N := some 81) (v := ?_) (a' := ?_) #[true, true, false, false, false, false, false, false, false, false, false, false, false, false, false, false, false, false, false, false, false, false, false, false, false, false, false, false, false, false, false, false, false, false] rfl rfl (any_of HT_.out (by kernel_rfl)) (fun _ _ _ h => h) (Or.inl ⟨by rfl, ?_⟩) ?_ ?_
                       rotate_left
                       ·intro w'
                        go_simp
                        with_reducible rfl
                       rotate_left
                       ·simp only [Act.put, List.setIfInBounds_toArray, List.set_cons_zero, List.set_cons_succ, i64_w, i32_w]
                        rfl
                       refine pure_ (i := 2) (N := some 82) (v := ?_) (a' := ?_) #[true, true, true, false, false, false, false, false, false, false, false, false, false, false, false, false, false, false, false, false, false, false, false, false, false, false, false, false, false, false, false, false, false, false] rfl rfl (any_of HT_.out (by kernel_rfl)) (fun _ _ _ h => h) (Or.inl ⟨by rfl, ?_⟩) ?_ ?_
                       rotate_left
                       ·intro w'
                        go_simp
                        with_reducible rfl
                       rotate_left
                       ·simp only [Act.put, List.setIfInBounds_toArray, List.set_cons_zero, List.set_cons_succ, i64_w, i32_w]
                        rfl
                       refine pure_ (i := 3) (N := some 83) (v := ?_) (a' := ?_) #[true, true, true, true, false, false, false, false, false, false, false, false, false, false, false, false, false, false, false, false, false, false, false, false, false, false, false, false, false, false, false, false, false, false] rfl rfl (any_of HT_.out (by kernel_rfl)) (fun _ _ _ h => h) (Or.inl ⟨by rfl, ?_⟩) ?_ ?_
                       rotate_left
                       ·intro w'
                        go_simp
                        with_reducible rfl
                       rotate_left
                       ·simp only [Act.put, List.setIfInBounds_toArray, List.set_cons_zero, List.set_cons_succ, i64_w, i32_w]
                        rfl
                       refine pure_ (i := 4) (N := some 84) (v := ?_) (a' := ?_) #[true, true, true, true, true, false, false, false, false, false, false, false, false, false, false, false, false, false, false, false, false, false, false, false, false, false, false, false, false, false, false, false, false, false] rfl rfl (any_of HT_.out (by kernel_rfl)) (fun _ _ _ h => h) (Or.inl ⟨by rfl, ?_⟩) ?_ ?_
                       rotate_left
                       ·intro w'
                        go_simp
                        with_reducible rfl
                       rotate_left
                       ·simp only [Act.put, List.setIfInBounds_toArray, List.set_cons_zero, List.set_cons_succ, i64_w, i32_w]
                        rfl
                       refine pure_ (i := 6) (N := some 86) (v := ?_) (a' := ?_) #[true, true, true, true, true, false, true, false, false, false, false, false, false, false, false, false, false, false, false, false, false, false, false, false, false, false, false, false, false, false, false, false, false, false] rfl rfl (any_of HT_.out (by kernel_rfl)) (fun _ _ _ h => h) (Or.inl ⟨by rfl, ?_⟩) ?_ ?_
                       rotate_left
                       ·intro w'
                        go_simp
                        with_reducible rfl
                       rotate_left
                       ·simp only [Act.put, List.setIfInBounds_toArray, List.set_cons_zero, List.set_cons_succ, i64_w, i32_w]
                        rfl
                       refine take_ (i := 5) (N := some 85) (v := ?_) (a' := ?_) #[true, true, true, true, true, true, true, false, false, false, false, false, false, false, false, false, false, false, false, false, false, false, false, false, false, false, false, false, false, false, false, false, false, false] rfl rfl (take_ofW HT_.out HW_.out (by kernel_rfl)) (fun _ _ _ h => h) (Or.inl ⟨by rfl, ?_⟩) hHeld ?_ ?_
                       rotate_left
                       ·rintro w' ⟨s0, s1, s2, s3⟩
                        go_simp
                        with_reducible rfl
                       rotate_left
                       ·simp only [Act.put, List.setIfInBounds_toArray, List.set_cons_zero, List.set_cons_succ, i64_w, i32_w]
                        rfl
                       refine pure_ (i := 7) (N := some 87) (v := ?_) (a' := ?_) #[true, true, true, true, true, true, true, true, false, false, false, false, false, false, false, false, false, false, false, false, false, false, false, false, false, false, false, false, false, false, false, false, false, false] rfl rfl (any_of HT_.out (by kernel_rfl)) (fun _ _ _ h => h) (Or.inl ⟨by rfl, ?_⟩) ?_ ?_
                       rotate_left
                       ·intro w'
                        go_simp
                        with_reducible rfl
                       rotate_left
                       ·simp only [Act.put, List.setIfInBounds_toArray, List.set_cons_zero, List.set_cons_succ, i64_w, i32_w]
                        rfl
                       refine pure_ (i := 8) (N := some 88) (v := ?_) (a' := ?_) #[true, true, true, true, true, true, true, true, true, false, false, false, false, false, false, false, false, false, false, false, false, false, false, false, false, false, false, false, false, false, false, false, false, false] rfl rfl (any_of HT_.out (by kernel_rfl)) (fun _ _ _ h => h) (Or.inl ⟨by rfl, ?_⟩) ?_ ?_
                       rotate_left
                       ·intro w'
                        go_simp
                        with_reducible rfl
                       rotate_left
                       ·simp only [Act.put, List.setIfInBounds_toArray, List.set_cons_zero, List.set_cons_succ, i64_w, i32_w]
                        rfl
                       refine pure_ (i := 9) (N := some 89) (v := ?_) (a' := ?_) #[true, true, true, true, true, true, true, true, true, true, false, false, false, false, false, false, false, false, false, false, false, false, false, false, false, false, false, false, false, false, false, false, false, false] rfl rfl (any_of HT_.out (by kernel_rfl)) (fun _ _ _ h => h) (Or.inl ⟨by rfl, ?_⟩) ?_ ?_
                       rotate_left
                       ·intro w'
                        go_simp
                        with_reducible rfl
                       rotate_left
                       ·simp only [Act.put, List.setIfInBounds_toArray, List.set_cons_zero, List.set_cons_succ, i64_w, i32_w]
                        rfl
                       refine pure_ (i := 10) (N := some 90) (v := ?_) (a' := ?_) #[true, true, true, true, true, true, true, true, true, true, true, false, false, false, false, false, false, false, false, false, false, false, false, false, false, false, false, false, false, false, false, false, false, false] rfl rfl (any_of HT_.out (by kernel_rfl)) (fun _ _ _ h => h) (Or.inl ⟨by rfl, ?_⟩) ?_ ?_
                       rotate_left
                       ·intro w'
                        go_simp
                        with_reducible rfl
                       rotate_left
                       ·simp only [Act.put, List.setIfInBounds_toArray, List.set_cons_zero, List.set_cons_succ, i64_w, i32_w]
                        rfl
                       refine pure_ (i := 11) (N := some 91) (v := ?_) (a' := ?_) #[true, true, true, true, true, true, true, true, true, true, true, true, false, false, false, false, false, false, false, false, false, false, false, false, false, false, false, false, false, false, false, false, false, false] rfl rfl (any_of HT_.out (by kernel_rfl)) (fun _ _ _ h => h) (Or.inl ⟨by rfl, ?_⟩) ?_ ?_
                       rotate_left
                       ·intro w'
                        go_simp
                        with_reducible rfl
                       rotate_left
                       ·simp only [Act.put, List.setIfInBounds_toArray, List.set_cons_zero, List.set_cons_succ, i64_w, i32_w]
                        rfl
                       refine pure_ (i := 13) (N := some 93) (v := ?_) (a' := ?_) #[true, true, true, true, true, true, true, true, true, true, true, true, false, true, false, false, false, false, false, false, false, false, false, false, false, false, false, false, false, false, false, false, false, false] rfl rfl (any_of HT_.out (by kernel_rfl)) (fun _ _ _ h => h) (Or.inl ⟨by rfl, ?_⟩) ?_ ?_
                       rotate_left
                       ·intro w'
                        go_simp
                        with_reducible rfl
                       rotate_left
                       ·simp only [Act.put, List.setIfInBounds_toArray, List.set_cons_zero, List.set_cons_succ, i64_w, i32_w]
                        rfl
                       refine pure_ (i := 14) (N := some 94) (v := ?_) (a' := ?_) #[true, true, true, true, true, true, true, true, true, true, true, true, false, true, true, false, false, false, false, false, false, false, false, false, false, false, false, false, false, false, false, false, false, false] rfl rfl (any_of HT_.out (by kernel_rfl)) (fun _ _ _ h => h) (Or.inl ⟨by rfl, ?_⟩) ?_ ?_
                       rotate_left
                       ·intro w'
                        go_simp
                        with_reducible rfl
                       rotate_left
                       ·simp only [Act.put, List.setIfInBounds_toArray, List.set_cons_zero, List.set_cons_succ, i64_w, i32_w]
                        rfl
                       refine pure_ (i := 15) (N := some 95) (v := ?_) (a' := ?_) #[true, true, true, true, true, true, true, true, true, true, true, true, false, true, true, true, false, false, false, false, false, false, false, false, false, false, false, false, false, false, false, false, false, false] rfl rfl (any_of HT_.out (by kernel_rfl)) (fun _ _ _ h => h) (Or.inl ⟨by rfl, ?_⟩) ?_ ?_
                       rotate_left
                       ·intro w'
                        go_simp
                        with_reducible rfl
                       rotate_left
                       ·simp only [Act.put, List.setIfInBounds_toArray, List.set_cons_zero, List.set_cons_succ, i64_w, i32_w]
                        rfl
                       refine take_ (i := 12) (N := some 92) (v := ?_) (a' := ?_) #[true, true, true, true, true, true, true, true, true, true, true, true, true, true, true, true, false, false, false, false, false, false, false, false, false, false, false, false, false, false, false, false, false, false] rfl rfl (take_ofW HT_.out HW_.out (by kernel_rfl)) (fun _ _ _ h => h) (Or.inl ⟨by rfl, ?_⟩) hHeld ?_ ?_
                       rotate_left
                       ·rintro w' ⟨s0, s1, s2, s3⟩
                        go_simp
                        with_reducible rfl
                       rotate_left
                       ·simp only [Act.put, List.setIfInBounds_toArray, List.set_cons_zero, List.set_cons_succ, i64_w, i32_w]
                        rfl
                       refine take_ (i := 16) (N := some 96) (v := ?_) (a' := ?_) #[true, true, true, true, true, true, true, true, true, true, true, true, true, true, true, true, true, false, false, false, false, false, false, false, false, false, false, false, false, false, false, false, false, false] rfl rfl (take_ofW HT_.out HW_.out (by kernel_rfl)) (fun _ _ _ h => h) (Or.inl ⟨by rfl, ?_⟩) hHeld ?_ ?_
                       rotate_left
                       ·rintro w' ⟨s0, s1, s2, s3⟩
                        go_simp
                        with_reducible rfl
                       rotate_left
                       ·simp only [Act.put, List.setIfInBounds_toArray, List.set_cons_zero, List.set_cons_succ, i64_w, i32_w]
                        rfl
                       refine pure_ (i := 17) (N := some 97) (v := ?_) (a' := ?_) #[true, true, true, true, true, true, true, true, true, true, true, true, true, true, true, true, true, true, false, false, false, false, false, false, false, false, false, false, false, false, false, false, false, false] rfl rfl (any_of HT_.out (by kernel_rfl)) (fun _ _ _ h => h) (Or.inl ⟨by rfl, ?_⟩) ?_ ?_
                       rotate_left
                       ·intro w'
                        go_simp
                        with_reducible rfl
                       rotate_left
                       ·simp only [Act.put, List.setIfInBounds_toArray, List.set_cons_zero, List.set_cons_succ, i64_w, i32_w]
                        rfl
                       refine pure_ (i := 18) (N := some 98) (v := ?_) (a' := ?_) #[true, true, true, true, true, true, true, true, true, true, true, true, true, true, true, true, true, true, true, false, false, false, false, false, false, false, false, false, false, false, false, false, false, false] rfl rfl (any_of HT_.out (by kernel_rfl)) (fun _ _ _ h => h) (Or.inl ⟨by rfl, ?_⟩) ?_ ?_
                       rotate_left
                       ·intro w'
                        go_simp
                        with_reducible rfl
                       rotate_left
                       ·simp only [Act.put, List.setIfInBounds_toArray, List.set_cons_zero, List.set_cons_succ, i64_w, i32_w]
                        rfl
                       refine pure_ (i := 19) (N := some 99) (v := ?_) (a' := ?_) #[true, true, true, true, true, true, true, true, true, true, true, true, true, true, true, true, true, true, true, true, false, false, false, false, false, false, false, false, false, false, false, false, false, false] rfl rfl (any_of HT_.out (by kernel_rfl)) (fun _ _ _ h => h) (Or.inl ⟨by rfl, ?_⟩) ?_ ?_
                       rotate_left
                       ·intro w'
                        go_simp
                        with_reducible rfl
                       rotate_left
                       ·simp only [Act.put, List.setIfInBounds_toArray, List.set_cons_zero, List.set_cons_succ, i64_w, i32_w]
                        rfl
                       refine pure_ (i := 20) (N := some 100) (v := ?_) (a' := ?_) #[true, true, true, true, true, true, true, true, true, true, true, true, true, true, true, true, true, true, true, true, true, false, false, false, false, false, false, false, false, false, false, false, false, false] rfl rfl (any_of HT_.out (by kernel_rfl)) (fun _ _ _ h => h) (Or.inl ⟨by rfl, ?_⟩) ?_ ?_
                       rotate_left
                       ·intro w'
                        go_simp
                        with_reducible rfl
                       rotate_left
                       ·simp only [Act.put, List.setIfInBounds_toArray, List.set_cons_zero, List.set_cons_succ, i64_w, i32_w]
                        rfl
                       refine pure_ (i := 22) (N := some 102) (v := ?_) (a' := ?_) #[true, true, true, true, true, true, true, true, true, true, true, true, true, true, true, true, true, true, true, true, true, false, true, false, false, false, false, false, false, false, false, false, false, false] rfl rfl (any_of HT_.out (by kernel_rfl)) (fun _ _ _ h => h) (Or.inl ⟨by rfl, ?_⟩) ?_ ?_
                       rotate_left
                       ·intro w'
                        go_simp
                        with_reducible rfl
                       rotate_left
                       ·simp only [Act.put, List.setIfInBounds_toArray, List.set_cons_zero, List.set_cons_succ, i64_w, i32_w]
                        rfl
                       refine pure_ (i := 23) (N := some 103) (v := ?_) (a' := ?_) #[true, true, true, true, true, true, true, true, true, true, true, true, true, true, true, true, true, true, true, true, true, false, true, true, false, false, false, false, false, false, false, false, false, false] rfl rfl (any_of HT_.out (by kernel_rfl)) (fun _ _ _ h => h) (Or.inl ⟨by rfl, ?_⟩) ?_ ?_
                       rotate_left
                       ·intro w'
                        go_simp
                        with_reducible rfl
                       rotate_left
                       ·simp only [Act.put, List.setIfInBounds_toArray, List.set_cons_zero, List.set_cons_succ, i64_w, i32_w]
                        rfl
                       refine pure_ (i := 24) (N := some 104) (v := ?_) (a' := ?_) #[true, true, true, true, true, true, true, true, true, true, true, true, true, true, true, true, true, true, true, true, true, false, true, true, true, false, false, false, false, false, false, false, false, false] rfl rfl (any_of HT_.out (by kernel_rfl)) (fun _ _ _ h => h) (Or.inl ⟨by rfl, ?_⟩) ?_ ?_
                       rotate_left
                       ·intro w'
                        go_simp
                        with_reducible rfl
                       rotate_left
                       ·simp only [Act.put, List.setIfInBounds_toArray, List.set_cons_zero, List.set_cons_succ, i64_w, i32_w]
                        rfl
                       refine pure_ (i := 25) (N := some 105) (v := ?_) (a' := ?_) #[true, true, true, true, true, true, true, true, true, true, true, true, true, true, true, true, true, true, true, true, true, false, true, true, true, true, false, false, false, false, false, false, false, false] rfl rfl (any_of HT_.out (by kernel_rfl)) (fun _ _ _ h => h) (Or.inl ⟨by rfl, ?_⟩) ?_ ?_
                       rotate_left
                       ·intro w'
                        go_simp
                        with_reducible rfl
                       rotate_left
                       ·simp only [Act.put, List.setIfInBounds_toArray, List.set_cons_zero, List.set_cons_succ, i64_w, i32_w]
                        rfl
                       refine pure_ (i := 27) (N := some 107) (v := ?_) (a' := ?_) #[true, true, true, true, true, true, true, true, true, true, true, true, true, true, true, true, true, true, true, true, true, false, true, true, true, true, false, true, false, false, false, false, false, false] rfl rfl (any_of HT_.out (by kernel_rfl)) (fun _ _ _ h => h) (Or.inl ⟨by rfl, ?_⟩) ?_ ?_
                       rotate_left
                       ·intro w'
                        go_simp
                        with_reducible rfl
                       rotate_left
                       ·simp only [Act.put, List.setIfInBounds_toArray, List.set_cons_zero, List.set_cons_succ, i64_w, i32_w]
                        rfl
                       refine pure_ (i := 28) (N := some 108) (v := ?_) (a' := ?_) #[true, true, true, true, true, true, true, true, true, true, true, true, true, true, true, true, true, true, true, true, true, false, true, true, true, true, false, true, true, false, false, false, false, false] rfl rfl (any_of HT_.out (by kernel_rfl)) (fun _ _ _ h => h) (Or.inl ⟨by rfl, ?_⟩) ?_ ?_
                       rotate_left
                       ·intro w'
                        go_simp
                        with_reducible rfl
                       rotate_left
                       ·simp only [Act.put, List.setIfInBounds_toArray, List.set_cons_zero, List.set_cons_succ, i64_w, i32_w]
                        rfl
                       refine take_ (i := 26) (N := some 106) (v := ?_) (a' := ?_) #[true, true, true, true, true, true, true, true, true, true, true, true, true, true, true, true, true, true, true, true, true, false, true, true, true, true, true, true, true, false, false, false, false, false] rfl rfl (take_ofW HT_.out HW_.out (by kernel_rfl)) (fun _ _ _ h => h) (Or.inl ⟨by rfl, ?_⟩) hHeld ?_ ?_
                       rotate_left
                       ·rintro w' ⟨s0, s1, s2, s3⟩
                        go_simp
                        with_reducible rfl
                       rotate_left
                       ·simp only [Act.put, List.setIfInBounds_toArray, List.set_cons_zero, List.set_cons_succ, i64_w, i32_w]
                        rfl
                       refine pure_ (i := 29) (N := some 109) (v := ?_) (a' := ?_) #[true, true, true, true, true, true, true, true, true, true, true, true, true, true, true, true, true, true, true, true, true, false, true, true, true, true, true, true, true, true, false, false, false, false] rfl rfl (any_of HT_.out (by kernel_rfl)) (fun _ _ _ h => h) (Or.inl ⟨by rfl, ?_⟩) ?_ ?_
                       rotate_left
                       ·intro w'
                        go_simp
                        with_reducible rfl
                       rotate_left
                       ·simp only [Act.put, List.setIfInBounds_toArray, List.set_cons_zero, List.set_cons_succ, i64_w, i32_w]
                        rfl
                       refine one_ (i := 21) (N := some 101) #[true, true, true, true, true, true, true, true, true, true, true, true, true, true, true, true, true, true, true, true, true, true, true, true, true, true, true, true, true, true, false, false, false, false] rfl rfl (one_of HT_.out (by kernel_rfl)) (by decide) (fun K hK => ?_)
                       refine Kd.R_lit_step k38 _ 38 ?hg (N := 101) ?hd (xs := ([] : List (S38))) (inner := []) (ok := fun _ => True) (okp := fun _ => True) ?hr ?hp (fun _ hk => hk) trivial (Below.refl _ _) (Nat.le_refl _) (by simp) ?_; (case hd => rfl); (case hg => rfl); (case hr => first | (go_simp; done) | (go_simp; rfl)); (case hp => exact (Reps.none _ _))
                       intro v292 w58 ho59 hb hg_ hnew_
                       have HS0_ := (hb.cell (World.block_lt_of_cell? _ _ (hHeld.1))).trans (hHeld.1)
                       have HS1_ := (hb.cell (World.block_lt_of_cell? _ _ (hHeld.2.1))).trans (hHeld.2.1)
                       have HS2_ := (hb.cell (World.block_lt_of_cell? _ _ (hHeld.2.2.1))).trans (hHeld.2.2.1)
                       have HS3_ := (hb.cell (World.block_lt_of_cell? _ _ (hHeld.2.2.2))).trans (hHeld.2.2.2)
                       clear hg_ hnew_
                       (first | rw [← Ny291.out] at ho59 | (simp only [Int.reduceToNat] at ho59; rw [← Ny291.out] at ho59))
                       have n0_ := Aside0.mk (Kd.R_below (Zz31 HO270.out) hb)
                       have n1_ := Aside0.mk (Kd.R_lower ho59 (below_size Zz0))
                       have n2_ := Aside0.mk (below_step Zz0 hb)
                       clear HO270
                       clear HB
                       have HO270 := n0_
                       have HO293 := n1_
                       have HB := n2_
                       clear n0_ n1_ n2_
                       clear hb ho59
                       refine hK.out _ _ ⟨HS0_, HS1_, HS2_, HS3_⟩ (fun hHeld => ?_)
                       clear hK K
                       refine norm_ (a' := ?_) ?_ ?_
                       rotate_left
                       ·show Act.put _ (some 101) _ = _
                        simp only [Act.put, List.setIfInBounds_toArray, List.set_cons_zero, List.set_cons_succ, i64_w, i32_w]
                        rfl
                       refine last_ (i := 30) (N := some 110) #[true, true, true, true, true, true, true, true, true, true, true, true, true, true, true, true, true, true, true, true, true, true, true, true, true, true, true, true, true, true, true, false, false, false] rfl rfl (one_of HT_.out (by kernel_rfl)) (by decide) (fun K hK => ?_)
                       refine Kd.R_append_rows_step k38 (w0 := w) w.heap.size (by rfl) (.tmp 101) (.tmp 109) 22 38 (.agg #[(.int .i64 0), (.string ⟨#[]⟩), (.int .i64 0)]) 32 rfl Tryz.underlying22 info38 rfl (by decide) (by omega) v292 y291 y295 _ _ _ (fun _ => True) (fun _ => False) rfl rfl ?aO ?aR (fun _ _ h => h) (fun _ h => h.elim) ?aF ?aB ?aS ?aL ?_
                       (case aR => repeat (first | exact (Kd.C_below HR298.out HB.out) | (with_reducible refine Kd.C_alloc ?_ _) | (with_reducible refine Kd.C_drewN ?_ _) | (with_reducible refine Kd.C_drew ?_)))
                       (case aB => exact Zz0)
                       (case aF => exact (fun _ _ => trivial))
                       (case aO => exact (Zz31 HO293.out))
                       (case aS => exact (below_size Zz0))
                       (case aL => have := LMc52.out; omega)
                       intro v300 w60 ho hb hg hat
                       rw [← Ny299.out] at ho
                       have n0_ := Aside0.mk (Kd.R_over' (Zz31 HO270.out) (Kd.R_typed (Zz31 HO293.out)) (by decide) hg)
                       have n1_ := Aside0.mk (hb)
                       have n2_ := Aside0.mk (ho)
                       clear HO270
                       clear HB
                       clear HO293
                       have HO270 := n0_
                       have HB := n1_
                       have HO301 := n2_
                       clear n0_ n1_ n2_
                       clear ho hb hg hat
                       obtain ⟨Ao61, co61, eo61⟩ := Kd.R_slice HO301.out
                       (first | subst eo61 | (injection eo61 with f1_ f2_ f3_; have f4_ := f1_.symm; have f5_ := f3_.symm; clear f1_ f2_ f3_; subst f4_; subst f5_))
                       refine hK.out _ _ ?_
                       clear hK K
                       refine norm_ (a' := ?_) ?_ ?_
                       rotate_left
                       ·show Act.put _ (some 110) _ = _
                        simp only [Act.put, List.setIfInBounds_toArray, List.set_cons_zero, List.set_cons_succ, i64_w, i32_w]
                        rfl
                       refine one_ (i := 31) (N := some 111) #[true, true, true, true, true, true, true, true, true, true, true, true, true, true, true, true, true, true, true, true, true, true, true, true, true, true, true, true, true, true, true, true, false, false] rfl rfl (one_of HT_.out (by kernel_rfl)) (by decide) (fun K hK => ?_)
                       refine goes_ Tryz.func11 (by kernel_rfl) rfl #[.slice Ao61 y299.length co61] (by rfl) rfl rfl Zz2 ?_
                       with_reducible refine (expr_Right.calls kj4 _ _ y299 t302 _ ?side1 ?side2 A53.out).mono ?_
                       (case side1 => repeat (first | exact (Kd.R_reads' HO301.out).2.2 | (with_reducible refine Kd.C_alloc ?_ _) | (with_reducible refine Kd.C_drewN ?_ _) | (with_reducible refine Kd.C_drew ?_)))
                       (case side2 => exact (Kd.R_reads' HO301.out).2.1)
                       obtain ⟨_, e0_, X2_⟩ := Kd.at_int (Kd.R_reads' HO270.out).2.2 a2 (of_eq_true (by assumption)) (of_eq_true (by assumption))
                       cases e0_
                       obtain ⟨_, e0_, X1_⟩ := Kd.at_int (Kd.R_reads' HO270.out).2.2 a1 (of_eq_true (by assumption)) (of_eq_true (by assumption))
                       cases e0_
                       have hHeld := And.intro X2_ (And.intro X2_ (And.intro X1_ X1_))
                       rintro e w62 ⟨rfl, hb⟩
                       have HS0_ := (hb.cell (World.block_lt_of_cell? _ _ (hHeld.1))).trans (hHeld.1)
                       have HS1_ := (hb.cell (World.block_lt_of_cell? _ _ (hHeld.2.1))).trans (hHeld.2.1)
                       have HS2_ := (hb.cell (World.block_lt_of_cell? _ _ (hHeld.2.2.1))).trans (hHeld.2.2.1)
                       have HS3_ := (hb.cell (World.block_lt_of_cell? _ _ (hHeld.2.2.2))).trans (hHeld.2.2.2)
                       refine ⟨_, rfl, ?_⟩
                       have n0_ := Aside0.mk (Kd.R_below (Zz31 HO270.out) hb)
                       have n1_ := Aside0.mk (Kd.R_below (Zz31 HO301.out) hb)
                       have n2_ := Aside0.mk (below_step Zz0 hb)
                       clear HO270
                       clear HO301
                       clear HB
                       have HO270 := n0_
                       have HO301 := n1_
                       have HB := n2_
                       clear n0_ n1_ n2_
                       (try clear hb)
                       (try clear hb2)
                       (try clear hk)
                       (try clear hi)
                       refine hK.out _ _ ⟨HS0_, HS1_, HS2_, HS3_⟩ (fun hHeld => ?_)
                       clear hK K
                       refine norm_ (a' := ?_) ?_ ?_
                       rotate_left
                       ·show Act.put _ (some 111) _ = _
                        simp only [Act.put, List.setIfInBounds_toArray, List.set_cons_zero, List.set_cons_succ, i64_w, i32_w]
                        rfl
                       refine pure_ (i := 32) (N := some 112) (v := ?_) (a' := ?_) #[true, true, true, true, true, true, true, true, true, true, true, true, true, true, true, true, true, true, true, true, true, true, true, true, true, true, true, true, true, true, true, true, true, false] rfl rfl (any_of HT_.out (by kernel_rfl)) (fun _ _ _ h => h) (Or.inl ⟨by rfl, ?_⟩) ?_ ?_
                       rotate_left
                       ·intro w'
                        go_simp
                        with_reducible rfl
                       rotate_left
                       ·simp only [Act.put, List.setIfInBounds_toArray, List.set_cons_zero, List.set_cons_succ, i64_w, i32_w]
                        rfl
                       refine pure_ (i := 33) (N := some 6) (v := ?_) (a' := ?_) #[true, true, true, true, true, true, true, true, true, true, true, true, true, true, true, true, true, true, true, true, true, true, true, true, true, true, true, true, true, true, true, true, true, true] rfl rfl (any_of HT_.out (by kernel_rfl)) (fun _ _ _ h => h) (Or.inl ⟨by rfl, ?_⟩) ?_ ?_
                       rotate_left
                       ·intro w'
                        go_simp
                        with_reducible rfl
                       rotate_left
                       ·simp only [Act.put, List.setIfInBounds_toArray, List.set_cons_zero, List.set_cons_succ, i64_w, i32_w]
                        rfl
                       refine done_ (done_of HT_.out (by kernel_rfl)) ?_
                       try go_wp2
                       go_ret
                       exact ⟨by first | rfl | (simp [errW_none, errW_some] <;> rfl) | (simp only [← hji20]; first | rfl | (simp [errW_none, errW_some] <;> rfl)) | (simp [*, errW_none, errW_some] <;> rfl), by repeat (first | (with_reducible first | exact HB.out | apply below_alloc | apply pw_below_drewN | apply below_drew1) | exact HB.out)⟩
                      ·rw [if_neg c52] at H
                       exact absurd H (by simp)
                     ·rw [if_neg c51] at H
                      exact absurd H (by simp)
                    ·rw [if_neg c50] at H
                     exact absurd H (by simp)
                   ·rw [if_neg c49] at H
                    exact absurd H (by simp)
                  ·rw [if_neg c48] at H
                   exact absurd H (by simp)
                ·replace c32 := Bool.eq_false_iff.mpr c32
                 subst c32
                 have H1 : (none) = some r := by rw [if_neg (show ¬ (false = true) by decide)] at H; exact H
                 clear H
                 have H := H1
                 clear H1
                 exact absurd H (by simp)
             ·rw [if_neg c29] at H
              exact absurd H (by simp)
            ·rw [if_neg c28] at H
             exact absurd H (by simp)
         ·rw [if_neg c25] at H
          exact absurd H (by simp)
        ·rw [if_neg c24] at H
         exact absurd H (by simp)
       ·rw [if_neg c23] at H
        exact absurd H (by simp)
      ·rw [if_neg c22] at H
       exact absurd H (by simp)
     ·rw [if_neg c21] at H
      exact absurd H (by simp)
    ·rw [if_neg c19] at H
     exact absurd H (by simp)
end Go.Proofs.YtniaooodlccmcaaGreatDoor.Q

