import Derived.Test.YtniaooodlccmcaaGreatDoorDz
import Derived.Test.YtniaooodlccmcaaGreatDoorQx0
import Derived.Test.YtniaooodlccmcaaGreatDoorQx1
import Derived.Test.YtniaooodlccmcaaGreatDoorQx5
import Derived.Test.YtniaooodlccmcaaGreatDoorQx7
import Derived.Test.YtniaooodlccmcaaGreatDoorQx8
namespace Go.Proofs.YtniaooodlccmcaaGreatDoor.Q
open Go.RowKit Go.Proofs.YtniaooodlccmcaaGreatDoorW.PrintWords Go.Proofs.YtniaooodlccmcaaGreatDoorW.PrintLast Go.Proofs.YtniaooodlccmcaaGreatDoorW.PrintMore
attribute [local go_sem] max2_int min2_int max_two min_two max_three min_three max_four min_four
set_option linter.unusedVariables false
set_option linter.unusedSimpArgs false
attribute [local go_sem high] eqA38
def tammylaw07_shown.f (k : Nat)  : Option (Bool) := (tammyref06_Toks.f k (⟨#[99, 40, 88, 124, 48, 44, 100, 126, 50, 40, 89, 41, 41]⟩ : ByteArray)).bind fun bt155 => ((expr_Read.f k bt155.1 0).bind fun bt160 => (if bt160.2.2 = 0 then (if bt160.2.1 = (bt155.1.length : Int) then (if (bt160.1.length : Int) = 6 then (if 2 < (bt160.1.length : Int) then (if (((rd_T38 bt160.1 2).f0) == 4 && ((((rd_T38 bt160.1 2).f1).toList) == ([] : List UInt8) && (((rd_T38 bt160.1 2).f2) == 2))) = true then (if 4 < (bt160.1.length : Int) then (if (((rd_T38 bt160.1 4).f0) == 6 && ((((rd_T38 bt160.1 4).f1).toList) == ([100] : List UInt8) && (((rd_T38 bt160.1 4).f2) == 2))) = true then (if 5 < (bt160.1.length : Int) then (if (((rd_T38 bt160.1 5).f0) == 3 && ((((rd_T38 bt160.1 5).f1).toList) == ([99] : List UInt8) && (((rd_T38 bt160.1 5).f2) == 2))) = true then ((expr_Right.f k bt160.1).bind fun t168 => (some t168)) else (none)) else (none)) else (none)) else (none)) else (none)) else (none)) else (none)) else (none)) else (none)))
theorem tammylaw07_shown.mono : ∀ k, LeO (tammylaw07_shown.f k ) (tammylaw07_shown.f (k + 1) ) := by
 intro  k
 unfold tammylaw07_shown.f
 repeat' first
   | (with_reducible exact expr_Read.mono _ _ _)
   | (with_reducible exact expr_Right.mono _ _)
   | (with_reducible exact tammyref06_Toks.mono _ _)
   | (with_reducible exact LeO.refl _)
   | (with_reducible exact LeO.none _)
   | (with_reducible refine LeO.ite ?_ ?_)
   | (with_reducible refine LeO.bind ?_ (fun _ => ?_))
   | exact expr_Read.mono _ _ _
   | exact expr_Right.mono _ _
   | exact tammyref06_Toks.mono _ _
   | exact LeO.none _
   | refine LeO.ite ?_ ?_
   | refine LeO.bind ?_ (fun _ => ?_)
set_option maxHeartbeats 8000000 in
set_option maxRecDepth 100000 in
theorem tammylaw07_shown.calls (k : Nat)  (r : Bool) (w : World) (h : tammylaw07_shown.f k  = some r) :
  Calls Tryz.prog 7 #[] w fun e w' => e = .returned (.bool r) ∧ Below w.heap.size w w' := by
 have hu38 := Tryz.underlying38
 have HB := Aside0.mk (Below.refl w.heap.size w)
 have H : ((tammyref06_Toks.f k (⟨#[99, 40, 88, 124, 48, 44, 100, 126, 50, 40, 89, 41, 41]⟩ : ByteArray)).bind fun bt155 => ((expr_Read.f k bt155.1 0).bind fun bt160 => (if bt160.2.2 = 0 then (if bt160.2.1 = (bt155.1.length : Int) then (if (bt160.1.length : Int) = 6 then (if 2 < (bt160.1.length : Int) then (if (((rd_T38 bt160.1 2).f0) == 4 && ((((rd_T38 bt160.1 2).f1).toList) == ([] : List UInt8) && (((rd_T38 bt160.1 2).f2) == 2))) = true then (if 4 < (bt160.1.length : Int) then (if (((rd_T38 bt160.1 4).f0) == 6 && ((((rd_T38 bt160.1 4).f1).toList) == ([100] : List UInt8) && (((rd_T38 bt160.1 4).f2) == 2))) = true then (if 5 < (bt160.1.length : Int) then (if (((rd_T38 bt160.1 5).f0) == 3 && ((((rd_T38 bt160.1 5).f1).toList) == ([99] : List UInt8) && (((rd_T38 bt160.1 5).f2) == 2))) = true then ((expr_Right.f k bt160.1).bind fun t168 => (some t168)) else (none)) else (none)) else (none)) else (none)) else (none)) else (none)) else (none)) else (none)) else (none)))) = some r := h
 clear h
 replace H := Option.bind_eq_some_iff.mp H
 obtain ⟨⟨t155, t156, t157⟩, A10, H⟩ := H
 replace H : ((expr_Read.f k t155 0).bind fun bt160 => (if bt160.2.2 = 0 then (if bt160.2.1 = (t155.length : Int) then (if (bt160.1.length : Int) = 6 then (if 2 < (bt160.1.length : Int) then (if (((rd_T38 bt160.1 2).f0) == 4 && ((((rd_T38 bt160.1 2).f1).toList) == ([] : List UInt8) && (((rd_T38 bt160.1 2).f2) == 2))) = true then (if 4 < (bt160.1.length : Int) then (if (((rd_T38 bt160.1 4).f0) == 6 && ((((rd_T38 bt160.1 4).f1).toList) == ([100] : List UInt8) && (((rd_T38 bt160.1 4).f2) == 2))) = true then (if 5 < (bt160.1.length : Int) then (if (((rd_T38 bt160.1 5).f0) == 3 && ((((rd_T38 bt160.1 5).f1).toList) == ([99] : List UInt8) && (((rd_T38 bt160.1 5).f2) == 2))) = true then ((expr_Right.f k bt160.1).bind fun t168 => (some t168)) else (none)) else (none)) else (none)) else (none)) else (none)) else (none)) else (none)) else (none)) else (none))) = some r := H
 have A1 := Aside0.mk A10
 clear A10
 replace H := Option.bind_eq_some_iff.mp H
 obtain ⟨⟨t160, t161, t162⟩, A20, H⟩ := H
 replace H : (if t162 = 0 then (if t161 = (t155.length : Int) then (if (t160.length : Int) = 6 then (if 2 < (t160.length : Int) then (if (((rd_T38 t160 2).f0) == 4 && ((((rd_T38 t160 2).f1).toList) == ([] : List UInt8) && (((rd_T38 t160 2).f2) == 2))) = true then (if 4 < (t160.length : Int) then (if (((rd_T38 t160 4).f0) == 6 && ((((rd_T38 t160 4).f1).toList) == ([100] : List UInt8) && (((rd_T38 t160 4).f2) == 2))) = true then (if 5 < (t160.length : Int) then (if (((rd_T38 t160 5).f0) == 3 && ((((rd_T38 t160 5).f1).toList) == ([99] : List UInt8) && (((rd_T38 t160 5).f2) == 2))) = true then ((expr_Right.f k t160).bind fun t168 => (some t168)) else (none)) else (none)) else (none)) else (none)) else (none)) else (none)) else (none)) else (none)) else (none)) = some r := H
 have A2 := Aside0.mk A20
 clear A20
 by_cases c3 : t162 = 0
 ·rw [if_pos c3] at H
  have c3b0 := beq_iff_eq.mpr c3
  have c3b1 := bne_eq_false_iff_eq.mpr c3
  clear c3
  by_cases c4 : t161 = (t155.length : Int)
  ·rw [if_pos c4] at H
   have c4b0 := beq_iff_eq.mpr c4
   have c4b1 := bne_eq_false_iff_eq.mpr c4
   clear c4
   by_cases c5 : (t160.length : Int) = 6
   ·rw [if_pos c5] at H
    have c5b0 := beq_iff_eq.mpr c5
    have c5b1 := bne_eq_false_iff_eq.mpr c5
    clear c5
    by_cases c6 : 2 < (t160.length : Int)
    ·rw [if_pos c6] at H
     have c6b0 := decide_eq_true c6
     have c6b1 : decide (2 < t160.length) = true := decide_eq_true (by omega)
     clear c6
     by_cases c7 : (((rd_T38 t160 2).f0) == 4 && ((((rd_T38 t160 2).f1).toList) == ([] : List UInt8) && (((rd_T38 t160 2).f2) == 2))) = true
     ·rw [if_pos c7] at H
      have c7b0 : (((rd_T38 t160 2).f0) == 4 && ((((rd_T38 t160 2).f1).toList) == ([] : List UInt8) && (((rd_T38 t160 2).f2) == 2))) = true := c7
      (try (have c7b1 : decide (((rd_T38 t160 2).f0) = 4 && ((((rd_T38 t160 2).f1).toList) == ([] : List UInt8) && (((rd_T38 t160 2).f2) == 2))) = true := by simpa using c7))
      (try (have c7b2 : (((rd_T38 t160 2).f0) == 4 && ((((rd_T38 t160 2).f1).toList) == ([] : List UInt8) && (((rd_T38 t160 2).f2) == 2))) = true := by simpa using c7))
      have c7z : (rd_T38 t160 2).f0 = 4 ∧ (rd_T38 t160 2).f1.toList = [] ∧ (rd_T38 t160 2).f2 = 2 := by simpa using c7
      clear c7
      by_cases c8 : 4 < (t160.length : Int)
      ·rw [if_pos c8] at H
       have c8b0 := decide_eq_true c8
       have c8b1 : decide (4 < t160.length) = true := decide_eq_true (by omega)
       clear c8
       by_cases c9 : (((rd_T38 t160 4).f0) == 6 && ((((rd_T38 t160 4).f1).toList) == ([100] : List UInt8) && (((rd_T38 t160 4).f2) == 2))) = true
       ·rw [if_pos c9] at H
        have c9b0 : (((rd_T38 t160 4).f0) == 6 && ((((rd_T38 t160 4).f1).toList) == ([100] : List UInt8) && (((rd_T38 t160 4).f2) == 2))) = true := c9
        (try (have c9b1 : decide (((rd_T38 t160 4).f0) = 6 && ((((rd_T38 t160 4).f1).toList) == ([100] : List UInt8) && (((rd_T38 t160 4).f2) == 2))) = true := by simpa using c9))
        (try (have c9b2 : (((rd_T38 t160 4).f0) == 6 && ((((rd_T38 t160 4).f1).toList) == ([100] : List UInt8) && (((rd_T38 t160 4).f2) == 2))) = true := by simpa using c9))
        clear c9
        by_cases c10 : 5 < (t160.length : Int)
        ·rw [if_pos c10] at H
         have c10b0 := decide_eq_true c10
         have c10b1 : decide (5 < t160.length) = true := decide_eq_true (by omega)
         clear c10
         by_cases c11 : (((rd_T38 t160 5).f0) == 3 && ((((rd_T38 t160 5).f1).toList) == ([99] : List UInt8) && (((rd_T38 t160 5).f2) == 2))) = true
         ·rw [if_pos c11] at H
          have c11b0 : (((rd_T38 t160 5).f0) == 3 && ((((rd_T38 t160 5).f1).toList) == ([99] : List UInt8) && (((rd_T38 t160 5).f2) == 2))) = true := c11
          (try (have c11b1 : decide (((rd_T38 t160 5).f0) = 3 && ((((rd_T38 t160 5).f1).toList) == ([99] : List UInt8) && (((rd_T38 t160 5).f2) == 2))) = true := by simpa using c11))
          (try (have c11b2 : (((rd_T38 t160 5).f0) == 3 && ((((rd_T38 t160 5).f1).toList) == ([99] : List UInt8) && (((rd_T38 t160 5).f2) == 2))) = true := by simpa using c11))
          clear c11
          replace H := Option.bind_eq_some_iff.mp H
          obtain ⟨t168, A120, H⟩ := H
          replace H : (some t168) = some r := H
          have A12 := Aside0.mk A120
          clear A120
          obtain rfl := Option.some.inj H
          go_enter Tryz.func7, Tryz.ntmps7
          go_wp2_with (first | ((with_reducible refine gate_callee (f := 12) rfl ?_); refine goesL_ (some 8) rfl rfl Tryz.func12 (by kernel_rfl) rfl #[.string (⟨#[99, 40, 88, 124, 48, 44, 100, 126, 50, 40, 89, 41, 41]⟩ : ByteArray)] rfl Zz2 ?_; (with_reducible refine (tammyref06_Toks.calls k (⟨#[99, 40, 88, 124, 48, 44, 100, 126, 50, 40, 89, 41, 41]⟩ : ByteArray) t155 t156 t157 _ A1.out).mono ?_); rintro e w13 ⟨v158, rfl, ho0, hb⟩; refine ⟨_, rfl, ?_⟩; have n0_ := Aside0.mk (Kd.R_lower ho0 (below_size Zz0)); have n1_ := Aside0.mk (below_step Zz0 hb); clear HB; have HO159 := n0_; have HB := n1_; clear n0_ n1_; (try clear hb); (try clear hb2); (try clear hk); (try clear hi); (try clear ho0); obtain ⟨Ao14, co14, eo14⟩ := Kd.R_slice HO159.out; subst eo14) | ((with_reducible refine gate_callee (f := 14) rfl ?_); refine goesL_ (some 14) rfl rfl Tryz.func14 (by kernel_rfl) rfl #[.slice Ao14 t155.length co14, .int .i64 0] rfl Zz2 ?_; (with_reducible refine (expr_Read.calls k _ _ t155 0 t160 t161 t162 _ ?side1 ?side2 A2.out).mono ?_); (case side1 => repeat (first | exact (Kd.R_reads' HO159.out).2.2 | (with_reducible refine Kd.C_alloc ?_ _) | (with_reducible refine Kd.C_drewN ?_ _) | (with_reducible refine Kd.C_drew ?_))); (case side2 => exact (Kd.R_reads' HO159.out).2.1); rintro e w15 ⟨v163, rfl, ho0, hb⟩; refine ⟨_, rfl, ?_⟩; have n0_ := Aside0.mk (Kd.R_below (Zz31 HO159.out) hb); have n1_ := Aside0.mk (Kd.R_lower ho0 (below_size Zz0)); have n2_ := Aside0.mk (below_step Zz0 hb); clear HO159; clear HB; have HO159 := n0_; have HO164 := n1_; have HB := n2_; clear n0_ n1_ n2_; (try clear hb); (try clear hb2); (try clear hk); (try clear hi); (try clear ho0); obtain ⟨Ao16, co16, eo16⟩ := Kd.R_slice HO164.out; subst eo16; have p165 : 0 ≤ (2 : Int) := (by omega); have q165 : 2 < (t160.length : Int) := of_decide_eq_true Zz1; obtain ⟨ad165, e165, hx165_0, hx165_1, hx165_2⟩ := at_T38 (Kd.R_reads' HO164.out).2.2 2 p165 q165; cases e165; (try simp only [show (2 : Int).toNat = 2 from rfl, Nat.reduceMul, Nat.reduceEqDiff, Go.Addr.add, ↓reduceIte] at hx165_0); (try simp only [show (2 : Int).toNat = 2 from rfl, Nat.reduceMul, Nat.reduceEqDiff, Go.Addr.add, ↓reduceIte] at hx165_1); (try simp only [show (2 : Int).toNat = 2 from rfl, Nat.reduceMul, Nat.reduceEqDiff, Go.Addr.add, ↓reduceIte] at hx165_2); have qi165 : (2 < t160.length) = True := eq_true (by omega); (try rw [show ((2 : Int)).toNat = 2 from rfl] at hx165_0); (try rw [show 2 * 3 = 6 from rfl] at hx165_0); (try rw [show ((2 : Int)).toNat = 2 from rfl] at hx165_1); (try rw [show 2 * 3 = 6 from rfl] at hx165_1); (try rw [show ((2 : Int)).toNat = 2 from rfl] at hx165_2); (try rw [show 2 * 3 = 6 from rfl] at hx165_2); replace p165 := eq_true p165; replace q165 := eq_true q165; have p166 : 0 ≤ (4 : Int) := (by omega); have q166 : 4 < (t160.length : Int) := of_decide_eq_true Zz1; obtain ⟨ad166, e166, hx166_0, hx166_1, hx166_2⟩ := at_T38 (Kd.R_reads' HO164.out).2.2 4 p166 q166; obtain rfl : ad165 = ad166 := (by injection e166); (try simp only [show (4 : Int).toNat = 4 from rfl, Nat.reduceMul, Nat.reduceEqDiff, Go.Addr.add, ↓reduceIte] at hx166_0); (try simp only [show (4 : Int).toNat = 4 from rfl, Nat.reduceMul, Nat.reduceEqDiff, Go.Addr.add, ↓reduceIte] at hx166_1); (try simp only [show (4 : Int).toNat = 4 from rfl, Nat.reduceMul, Nat.reduceEqDiff, Go.Addr.add, ↓reduceIte] at hx166_2); have qi166 : (4 < t160.length) = True := eq_true (by omega); (try rw [show ((4 : Int)).toNat = 4 from rfl] at hx166_0); (try rw [show 4 * 3 = 12 from rfl] at hx166_0); (try rw [show ((4 : Int)).toNat = 4 from rfl] at hx166_1); (try rw [show 4 * 3 = 12 from rfl] at hx166_1); (try rw [show ((4 : Int)).toNat = 4 from rfl] at hx166_2); (try rw [show 4 * 3 = 12 from rfl] at hx166_2); replace p166 := eq_true p166; replace q166 := eq_true q166; have p167 : 0 ≤ (5 : Int) := (by omega); have q167 : 5 < (t160.length : Int) := of_decide_eq_true Zz1; obtain ⟨ad167, e167, hx167_0, hx167_1, hx167_2⟩ := at_T38 (Kd.R_reads' HO164.out).2.2 5 p167 q167; obtain rfl : ad165 = ad167 := (by injection e167); (try simp only [show (5 : Int).toNat = 5 from rfl, Nat.reduceMul, Nat.reduceEqDiff, Go.Addr.add, ↓reduceIte] at hx167_0); (try simp only [show (5 : Int).toNat = 5 from rfl, Nat.reduceMul, Nat.reduceEqDiff, Go.Addr.add, ↓reduceIte] at hx167_1); (try simp only [show (5 : Int).toNat = 5 from rfl, Nat.reduceMul, Nat.reduceEqDiff, Go.Addr.add, ↓reduceIte] at hx167_2); have qi167 : (5 < t160.length) = True := eq_true (by omega); (try rw [show ((5 : Int)).toNat = 5 from rfl] at hx167_0); (try rw [show 5 * 3 = 15 from rfl] at hx167_0); (try rw [show ((5 : Int)).toNat = 5 from rfl] at hx167_1); (try rw [show 5 * 3 = 15 from rfl] at hx167_1); (try rw [show ((5 : Int)).toNat = 5 from rfl] at hx167_2); (try rw [show 5 * 3 = 15 from rfl] at hx167_2); replace p167 := eq_true p167; replace q167 := eq_true q167) | (go_at_call 11; (with_reducible refine (expr_Right.calls k _ _ t160 t168 _ ?side1 ?side2 A12.out).mono ?_); (case side1 => repeat (first | exact (Kd.R_reads' HO164.out).2.2 | (with_reducible refine Kd.C_alloc ?_ _) | (with_reducible refine Kd.C_drewN ?_ _) | (with_reducible refine Kd.C_drew ?_))); (case side2 => exact (Kd.R_reads' HO164.out).2.1); rintro e w17 ⟨rfl, hb⟩; have n0_ := Aside0.mk (Kd.R_below (Zz31 HO159.out) hb); have n1_ := Aside0.mk (Kd.R_below (Zz31 HO164.out) hb); have n2_ := Aside0.mk (below_step Zz0 hb); clear HO159; clear HO164; clear HB; have HO159 := n0_; have HO164 := n1_; have HB := n2_; clear n0_ n1_ n2_; (try clear hb); (try clear hb2); (try clear hk); (try clear hi)))
          go_ret
          exact ⟨by first | rfl | (simp [errW_none, errW_some] <;> rfl) | (simp [*, errW_none, errW_some] <;> rfl), by repeat (first | (with_reducible first | exact HB.out | apply below_alloc | apply pw_below_drewN | apply below_drew1) | exact HB.out)⟩
         ·rw [if_neg c11] at H
          exact absurd H (by simp)
        ·rw [if_neg c10] at H
         exact absurd H (by simp)
       ·rw [if_neg c9] at H
        exact absurd H (by simp)
      ·rw [if_neg c8] at H
       exact absurd H (by simp)
     ·rw [if_neg c7] at H
      exact absurd H (by simp)
    ·rw [if_neg c6] at H
     exact absurd H (by simp)
   ·rw [if_neg c5] at H
    exact absurd H (by simp)
  ·rw [if_neg c4] at H
   exact absurd H (by simp)
 ·rw [if_neg c3] at H
  exact absurd H (by simp)
def tammyref07_Few.l0 : Nat → List (S38) → Int → Int → Option (Bool)
 | 0, _, _, _ => none
 | k + 1, x0, x3, x4 => if x4 < (x0.length : Int) then (if 0 ≤ x4 then (if (wrap64 ((wrap64 (x3 + 1)) + (((rd_T38 x0 x4).f1).size : Int))) > 600 then (some false) else (tammyref07_Few.l0 k x0 (wrap64 ((wrap64 (x3 + 1)) + (((rd_T38 x0 x4).f1).size : Int))) (wrap64 (x4 + 1)))) else (none)) else (some true)
def tammyref07_Few.f (k : Nat) (l0 : List (S38)) : Option (Bool) := tammyref07_Few.l0 k l0 0 0
theorem tammyref07_Few.mono_l : ∀ k, (∀ y0 y1 y2, LeO (tammyref07_Few.l0 k y0 y1 y2) (tammyref07_Few.l0 (k + 1) y0 y1 y2))
 | 0 => fun _ _ _ r h => by simp [tammyref07_Few.l0] at h
 | k + 1 => by
  have ih0 := tammyref07_Few.mono_l k
  ·intro y0 y1 y2
   unfold tammyref07_Few.l0
   repeat' first
   | (with_reducible exact ih0 _ _ _)
   | (with_reducible exact LeO.refl _)
   | (with_reducible exact LeO.none _)
   | (with_reducible refine LeO.ite ?_ ?_)
   | (with_reducible refine LeO.bind ?_ (fun _ => ?_))
   | exact ih0 _ _ _
   | exact LeO.none _
   | refine LeO.ite ?_ ?_
   | refine LeO.bind ?_ (fun _ => ?_)
theorem tammyref07_Few.mono : ∀ a0 k, LeO (tammyref07_Few.f k a0) (tammyref07_Few.f (k + 1) a0) := by
 intro a0 k
 have ih0 := tammyref07_Few.mono_l k
 unfold tammyref07_Few.f
 repeat' first
   | (with_reducible exact ih0 _ _ _)
   | (with_reducible exact LeO.refl _)
   | (with_reducible exact LeO.none _)
   | (with_reducible refine LeO.ite ?_ ?_)
   | (with_reducible refine LeO.bind ?_ (fun _ => ?_))
   | exact ih0 _ _ _
   | exact LeO.none _
   | refine LeO.ite ?_ ?_
   | refine LeO.bind ?_ (fun _ => ?_)
set_option maxHeartbeats 8000000 in
set_option maxRecDepth 100000 in
theorem tammyref07_Few.calls (k : Nat) (A0 : Option Addr) (c0 : Nat) (l0 : List (S38)) (r : Bool) (w : World) (hr0 : Kd.C k38 w A0 l0.length l0) (hc0 : l0.length ≤ c0) (h : tammyref07_Few.f k l0 = some r) :
  Calls Tryz.prog 8 #[.slice A0 l0.length c0] w fun e w' => e = .returned (.bool r) ∧ Drawn0 w w' := by
 have HR0 := Aside0.mk hr0
 have HC0 := Aside0.mk hc0
 clear hr0 hc0
 have H : (tammyref07_Few.l0 k l0 0 0) = some r := h
 clear h
 have H' := Aside0.mk H
 clear H
 go_enter Tryz.func8, Tryz.ntmps8
 go_wp2
 go_loopg [3, 4] k (fun kq v3 v4 w' => ∃ (x3_1 : Int) (x4_1 : Int), v3 = .int .i64 x3_1 ∧ v4 = .int .i64 x4_1 ∧ Aside0 (tammyref07_Few.l0 kq l0 x3_1 x4_1 = some r) ∧ Aside0 (kq ≤ k) ∧ Drawn0 w w')
 case atStart => exact ⟨(0), (0), Zz6, Zz6, H', ⟨Nat.le_refl _⟩, by repeat (first | exact Drawn0.refl _ | apply Drawn0.step)⟩
 case round =>
  clear H'
  obtain ⟨x3_1, x4_1, rfl, rfl, HA, HK1, ⟨m1, rfl⟩⟩ := hrel
  cases gk with
  | zero => exact absurd HA.out (by simp [tammyref07_Few.l0])
  | succ k1 =>
   have H := HA.out
   clear HA
   simp only [tammyref07_Few.l0] at H
   by_cases c2 : x4_1 < (l0.length : Int)
   ·rw [if_pos c2] at H
    have c2b0 := decide_eq_true c2
    clear c2
    by_cases c3 : 0 ≤ x4_1
    ·rw [if_pos c3] at H
     have c3b0 := decide_eq_true c3
     clear c3
     by_cases c4 : (wrap64 ((wrap64 (x3_1 + 1)) + (((rd_T38 l0 x4_1).f1).size : Int))) > 600
     ·rw [if_pos c4] at H
      have c4b0 : decide (600 < (wrap64 ((wrap64 (x3_1 + 1)) + (((rd_T38 l0 x4_1).f1).size : Int)))) = true := decide_eq_true c4
      clear c4
      obtain rfl := Option.some.inj H
      have p169 : 0 ≤ (x4_1 : Int) := of_decide_eq_true Zz1
      have q169 : x4_1 < (l0.length : Int) := of_decide_eq_true Zz1
      obtain ⟨ad169, e169, hx169_0, hx169_1, hx169_2⟩ := at_T38 HR0.out x4_1 p169 q169
      cases e169
      replace p169 := eq_true p169
      replace q169 := eq_true q169
      go_wp2
      go_ret
      exact ⟨by first | rfl | (simp; done) | (simp [*]; done), by repeat (first | exact Drawn0.refl _ | apply Drawn0.step)⟩
     ·rw [if_neg c4] at H
      have c4b0 : decide (600 < (wrap64 ((wrap64 (x3_1 + 1)) + (((rd_T38 l0 x4_1).f1).size : Int)))) = false := decide_eq_false c4
      clear c4
      have H' := Aside0.mk H
      clear H
      have p169 : 0 ≤ (x4_1 : Int) := of_decide_eq_true Zz1
      have q169 : x4_1 < (l0.length : Int) := of_decide_eq_true Zz1
      obtain ⟨ad169, e169, hx169_0, hx169_1, hx169_2⟩ := at_T38 HR0.out x4_1 p169 q169
      cases e169
      replace p169 := eq_true p169
      replace q169 := eq_true q169
      go_wp2
      go_roundg k1
      case measure => have := HK1.out; omega
      case rel => exact ⟨(wrap64 ((wrap64 (x3_1 + 1)) + (((rd_T38 l0 x4_1).f1).size : Int))), (wrap64 (x4_1 + 1)), Zz6, Zz6, H', ⟨by have := HK1.out; omega⟩, by repeat (first | exact Drawn0.refl _ | apply Drawn0.step)⟩
    ·rw [if_neg c3] at H
     exact absurd H (by simp)
   ·rw [if_neg c2] at H
    have c2b0 := decide_eq_false c2
    clear c2
    obtain rfl := Option.some.inj H
    go_wp2
    go_ret
    exact ⟨by first | rfl | (simp; done) | (simp [*]; done), by repeat (first | exact Drawn0.refl _ | apply Drawn0.step)⟩
def tammyref01_small.f (a0 : Int) : Option (Bool) := if a0 ≥ 97 then (some (decide (a0 ≤ 122))) else (some false)
set_option maxHeartbeats 8000000 in
set_option maxRecDepth 100000 in
theorem tammyref01_small.calls (a0 : Int) (r : Bool) (w : World) (h : tammyref01_small.f a0 = some r) :
  Calls Tryz.prog 51 #[.int .u8 a0] w fun e w' => e = .returned (.bool r) ∧ Drawn0 w w' := by
 have H : (if a0 ≥ 97 then (some (decide (a0 ≤ 122))) else (some false)) = some r := h
 clear h
 by_cases c2 : a0 ≥ 97
 ·rw [if_pos c2] at H
  have c2b0 : decide (97 ≤ a0) = true := decide_eq_true c2
  clear c2
  obtain rfl := Option.some.inj H
  go_enter Tryz.func51, Tryz.ntmps51
  go_wp2
  go_ret
  exact ⟨by first | rfl | (simp; done) | (simp [*]; done), by repeat (first | exact Drawn0.refl _ | apply Drawn0.step)⟩
 ·rw [if_neg c2] at H
  have c2b0 : decide (97 ≤ a0) = false := decide_eq_false c2
  clear c2
  obtain rfl := Option.some.inj H
  go_enter Tryz.func51, Tryz.ntmps51
  go_wp2
  go_ret
  exact ⟨by first | rfl | (simp; done) | (simp [*]; done), by repeat (first | exact Drawn0.refl _ | apply Drawn0.step)⟩
def tammyref01_big.f (a0 : Int) : Option (Bool) := if a0 ≥ 65 then (some (decide (a0 ≤ 90))) else (some false)
set_option maxHeartbeats 8000000 in
set_option maxRecDepth 100000 in
theorem tammyref01_big.calls (a0 : Int) (r : Bool) (w : World) (h : tammyref01_big.f a0 = some r) :
  Calls Tryz.prog 52 #[.int .u8 a0] w fun e w' => e = .returned (.bool r) ∧ Drawn0 w w' := by
 have H : (if a0 ≥ 65 then (some (decide (a0 ≤ 90))) else (some false)) = some r := h
 clear h
 by_cases c2 : a0 ≥ 65
 ·rw [if_pos c2] at H
  have c2b0 : decide (65 ≤ a0) = true := decide_eq_true c2
  clear c2
  obtain rfl := Option.some.inj H
  go_enter Tryz.func52, Tryz.ntmps52
  go_wp2
  go_ret
  exact ⟨by first | rfl | (simp; done) | (simp [*]; done), by repeat (first | exact Drawn0.refl _ | apply Drawn0.step)⟩
 ·rw [if_neg c2] at H
  have c2b0 : decide (65 ≤ a0) = false := decide_eq_false c2
  clear c2
  obtain rfl := Option.some.inj H
  go_enter Tryz.func52, Tryz.ntmps52
  go_wp2
  go_ret
  exact ⟨by first | rfl | (simp; done) | (simp [*]; done), by repeat (first | exact Drawn0.refl _ | apply Drawn0.step)⟩
mutual
def tammyref01_Name.j0 : Nat → ByteArray → Bool → Option (Bool)
 | 0, _, _ => none
 | k + 1, x0, x13 => if x13 = true then (some false) else (tammyref01_Name.l0 k x0 0)
def tammyref01_Name.l0 : Nat → ByteArray → Int → Option (Bool)
 | 0, _, _ => none
 | k + 1, x0, x3 => if x3 < (x0.size : Int) then (if 0 ≤ x3 then (if (bt x0 x3) ≥ 48 then (if (bt x0 x3) ≤ 57 then (tammyref01_Name.j2 k x0 x3 true) else (tammyref01_Name.j2 k x0 x3 ((bt x0 x3) == 95))) else (tammyref01_Name.j2 k x0 x3 ((bt x0 x3) == 95))) else (none)) else (some true)
def tammyref01_Name.j2 : Nat → ByteArray → Int → Bool → Option (Bool)
 | 0, _, _, _ => none
 | k + 1, x0, x3, x4 => if 0 ≤ x3 then (if x3 < (x0.size : Int) then ((tammyref01_small.f (bt x0 x3)).bind fun t170 => (if t170 = true then (tammyref01_Name.l0 k x0 (wrap64 (x3 + 1))) else ((tammyref01_big.f (bt x0 x3)).bind fun t171 => (if t171 = true then (tammyref01_Name.l0 k x0 (wrap64 (x3 + 1))) else (if x3 = 0 then (some false) else (if x4 = true then (tammyref01_Name.l0 k x0 (wrap64 (x3 + 1))) else (some false))))))) else (none)) else (none)
end
def tammyref01_Name.f (k : Nat) (a0 : ByteArray) : Option (Bool) := if (a0.size : Int) < 1 then (tammyref01_Name.j0 k a0 true) else (tammyref01_Name.j0 k a0 (decide ((a0.size : Int) > 20)))
theorem tammyref01_Name.mono_l : ∀ k, (∀ y0 y1, LeO (tammyref01_Name.j0 k y0 y1) (tammyref01_Name.j0 (k + 1) y0 y1)) ∧ (∀ y0 y1, LeO (tammyref01_Name.l0 k y0 y1) (tammyref01_Name.l0 (k + 1) y0 y1)) ∧ (∀ y0 y1 y2, LeO (tammyref01_Name.j2 k y0 y1 y2) (tammyref01_Name.j2 (k + 1) y0 y1 y2))
 | 0 => ⟨fun _ _ r h => by simp [tammyref01_Name.j0] at h, fun _ _ r h => by simp [tammyref01_Name.l0] at h, fun _ _ _ r h => by simp [tammyref01_Name.j2] at h⟩
 | k + 1 => by
  obtain ⟨ih0, ih1, ih2⟩ := tammyref01_Name.mono_l k
  refine ⟨?_, ?_, ?_⟩
  ·intro y0 y1
   unfold tammyref01_Name.j0
   repeat' first
   | (with_reducible exact ih0 _ _)
   | (with_reducible exact ih1 _ _)
   | (with_reducible exact ih2 _ _ _)
   | (with_reducible exact LeO.refl _)
   | (with_reducible exact LeO.none _)
   | (with_reducible refine LeO.ite ?_ ?_)
   | (with_reducible refine LeO.bind ?_ (fun _ => ?_))
   | exact ih0 _ _
   | exact ih1 _ _
   | exact ih2 _ _ _
   | exact LeO.none _
   | refine LeO.ite ?_ ?_
   | refine LeO.bind ?_ (fun _ => ?_)
  ·intro y0 y1
   unfold tammyref01_Name.l0
   repeat' first
   | (with_reducible exact ih0 _ _)
   | (with_reducible exact ih1 _ _)
   | (with_reducible exact ih2 _ _ _)
   | (with_reducible exact LeO.refl _)
   | (with_reducible exact LeO.none _)
   | (with_reducible refine LeO.ite ?_ ?_)
   | (with_reducible refine LeO.bind ?_ (fun _ => ?_))
   | exact ih0 _ _
   | exact ih1 _ _
   | exact ih2 _ _ _
   | exact LeO.none _
   | refine LeO.ite ?_ ?_
   | refine LeO.bind ?_ (fun _ => ?_)
  ·intro y0 y1 y2
   unfold tammyref01_Name.j2
   repeat' first
   | (with_reducible exact ih0 _ _)
   | (with_reducible exact ih1 _ _)
   | (with_reducible exact ih2 _ _ _)
   | (with_reducible exact LeO.refl _)
   | (with_reducible exact LeO.none _)
   | (with_reducible refine LeO.ite ?_ ?_)
   | (with_reducible refine LeO.bind ?_ (fun _ => ?_))
   | exact ih0 _ _
   | exact ih1 _ _
   | exact ih2 _ _ _
   | exact LeO.none _
   | refine LeO.ite ?_ ?_
   | refine LeO.bind ?_ (fun _ => ?_)
theorem tammyref01_Name.mono : ∀ a0 k, LeO (tammyref01_Name.f k a0) (tammyref01_Name.f (k + 1) a0) := by
 intro a0 k
 obtain ⟨ih0, ih1, ih2⟩ := tammyref01_Name.mono_l k
 unfold tammyref01_Name.f
 repeat' first
   | (with_reducible exact ih0 _ _)
   | (with_reducible exact ih1 _ _)
   | (with_reducible exact ih2 _ _ _)
   | (with_reducible exact LeO.refl _)
   | (with_reducible exact LeO.none _)
   | (with_reducible refine LeO.ite ?_ ?_)
   | (with_reducible refine LeO.bind ?_ (fun _ => ?_))
   | exact ih0 _ _
   | exact ih1 _ _
   | exact ih2 _ _ _
   | exact LeO.none _
   | refine LeO.ite ?_ ?_
   | refine LeO.bind ?_ (fun _ => ?_)
set_option maxHeartbeats 8000000 in
set_option maxRecDepth 100000 in
theorem tammyref01_Name.calls (k : Nat) (a0 : ByteArray) (r : Bool) (w : World) (h : tammyref01_Name.f k a0 = some r) :
  Calls Tryz.prog 50 #[.string a0] w fun e w' => e = .returned (.bool r) ∧ Drawn0 w w' := by
 have H : (if (a0.size : Int) < 1 then (tammyref01_Name.j0 k a0 true) else (tammyref01_Name.j0 k a0 (decide ((a0.size : Int) > 20)))) = some r := h
 clear h
 have HC2 := Aside0.mk H
 clear H
 go_enter Tryz.func50, Tryz.ntmps50
 go_upto_region 1 with (fail)
 go_cut [13] (fun v13 wc => ∃ (kq : Nat) (x13_1 : Bool), v13 = .bool x13_1 ∧ Aside0 (tammyref01_Name.j0 kq a0 x13_1 = some r) ∧ Aside0 (kq ≤ k) ∧ Drawn0 w wc)
 case first =>
  have H := HC2.out
  clear HC2
  by_cases c3 : (a0.size : Int) < 1
  ·rw [if_pos c3] at H
   have c3b0 := decide_eq_true c3
   have c3b1 : decide (a0.size < 1) = true := decide_eq_true (by omega)
   clear c3
   (first | rw [c3b0] | (simp only [i64_w, i32_w]; rw [c3b0]) | skip)
   have H' := Aside0.mk H
   clear H
   go_wp2
   go_meet
   case rel => exact ⟨_, (true), Zz6, H', ⟨by first | omega | exact Nat.le_refl _⟩, by repeat (first | exact Drawn0.refl _ | apply Drawn0.step)⟩
  ·rw [if_neg c3] at H
   have c3b0 := decide_eq_false c3
   have c3b1 : decide (a0.size < 1) = false := decide_eq_false (by omega)
   clear c3
   (first | rw [c3b0] | (simp only [i64_w, i32_w]; rw [c3b0]) | skip)
   have H' := Aside0.mk H
   clear H
   go_wp2
   go_meet
   case rel => exact ⟨_, (decide ((a0.size : Int) > 20)), Zz6, H', ⟨by first | omega | exact Nat.le_refl _⟩, by repeat (first | exact Drawn0.refl _ | apply Drawn0.step)⟩
 case rest =>
  clear HC2
  try clear p2
  try clear c3
  try clear c3b0
  try clear c3b1
  obtain ⟨kq, x13_1, rfl, HA, HJ1, ⟨mc1, rfl⟩⟩ := hcut
  cases kq with
  | zero => exact absurd HA.out (by simp [tammyref01_Name.j0])
  | succ kj1 =>
   have H := HA.out
   clear HA
   simp only [tammyref01_Name.j0] at H
   by_cases c4 : x13_1 = true
   ·subst c4
    have H1 : (some false) = some r := by rw [if_pos rfl] at H; exact H
    clear H
    have H := H1
    clear H1
    obtain rfl := Option.some.inj H
    go_wp2
    go_ret
    exact ⟨by first | rfl | (simp; done) | (simp [*]; done), by repeat (first | exact Drawn0.refl _ | apply Drawn0.step)⟩
   ·replace c4 := Bool.eq_false_iff.mpr c4
    subst c4
    have H1 : (tammyref01_Name.l0 kj1 a0 0) = some r := by rw [if_neg (show ¬ (false = true) by decide)] at H; exact H
    clear H
    have H := H1
    clear H1
    have H' := Aside0.mk H
    clear H
    go_wp2
    go_loopg [3] kj1 (fun kq v3 w' => ∃ (x3_2 : Int), v3 = .int .i64 x3_2 ∧ Aside0 (tammyref01_Name.l0 kq a0 x3_2 = some r) ∧ Aside0 (kq ≤ kj1) ∧ Drawn0 w w')
    case atStart => exact ⟨(0), Zz6, H', ⟨Nat.le_refl _⟩, by repeat (first | exact Drawn0.refl _ | apply Drawn0.step)⟩
    case round =>
     clear H'
     try clear c1
     try clear p2
     try clear c3
     try clear c3b0
     try clear c3b1
     try clear c4
     try clear p2
     obtain ⟨x3_2, rfl, HA, HK2, ⟨m2, rfl⟩⟩ := hrel
     cases gk with
     | zero => exact absurd HA.out (by simp [tammyref01_Name.l0])
     | succ k2 =>
      have H := HA.out
      clear HA
      simp only [tammyref01_Name.l0] at H
      by_cases c5 : x3_2 < (a0.size : Int)
      ·rw [if_pos c5] at H
       have c5b0 := decide_eq_true c5
       clear c5
       have HC6 := Aside0.mk H
       clear H
       go_upto_region 6 with (fail)
       go_cut [4] (fun v4 wc => ∃ (kq : Nat) (x4_5 : Bool), v4 = .bool x4_5 ∧ Aside0 (tammyref01_Name.j2 kq a0 x3_2 x4_5 = some r) ∧ Aside0 (kq ≤ k2) ∧ Drawn0 w wc)
       case first =>
        have H := HC6.out
        clear HC6
        by_cases c7 : 0 ≤ x3_2
        ·rw [if_pos c7] at H
         have c7b0 := decide_eq_true c7
         clear c7
         (first | rw [c7b0] | (simp only [i64_w, i32_w]; rw [c7b0]) | skip)
         by_cases c9 : (bt a0 x3_2) ≥ 48
         ·rw [if_pos c9] at H
          have c9b0 : decide (48 ≤ (bt a0 x3_2)) = true := decide_eq_true c9
          clear c9
          by_cases c11 : (bt a0 x3_2) ≤ 57
          ·rw [if_pos c11] at H
           have c11b0 := decide_eq_true c11
           clear c11
           have H' := Aside0.mk H
           clear H
           have p8 : 0 ≤ (x3_2 : Int) := of_decide_eq_true Zz1
           have q8 : x3_2 < (a0.size : Int) := of_decide_eq_true Zz1
           have hx8 := bt_at a0 x3_2
           replace p8 := eq_true p8
           replace q8 := eq_true q8
           have p10 : 0 ≤ (x3_2 : Int) := of_decide_eq_true Zz1
           have q10 : x3_2 < (a0.size : Int) := of_decide_eq_true Zz1
           have hx10 := bt_at a0 x3_2
           replace p10 := eq_true p10
           replace q10 := eq_true q10
           go_wp2
           go_meet
           case rel => exact ⟨_, (true), Zz6, H', ⟨by have := HJ1.out; have := HK2.out; first | omega | exact Nat.le_refl _⟩, by repeat (first | exact Drawn0.refl _ | apply Drawn0.step)⟩
          ·rw [if_neg c11] at H
           have c11b0 := decide_eq_false c11
           clear c11
           have H' := Aside0.mk H
           clear H
           have p8 : 0 ≤ (x3_2 : Int) := of_decide_eq_true Zz1
           have q8 : x3_2 < (a0.size : Int) := of_decide_eq_true Zz1
           have hx8 := bt_at a0 x3_2
           replace p8 := eq_true p8
           replace q8 := eq_true q8
           have p10 : 0 ≤ (x3_2 : Int) := of_decide_eq_true Zz1
           have q10 : x3_2 < (a0.size : Int) := of_decide_eq_true Zz1
           have hx10 := bt_at a0 x3_2
           replace p10 := eq_true p10
           replace q10 := eq_true q10
           have p12 : 0 ≤ (x3_2 : Int) := of_decide_eq_true Zz1
           have q12 : x3_2 < (a0.size : Int) := of_decide_eq_true Zz1
           have hx12 := bt_at a0 x3_2
           replace p12 := eq_true p12
           replace q12 := eq_true q12
           go_wp2
           go_meet
           case rel => exact ⟨_, (((bt a0 x3_2) == 95)), Zz6, H', ⟨by have := HJ1.out; have := HK2.out; first | omega | exact Nat.le_refl _⟩, by repeat (first | exact Drawn0.refl _ | apply Drawn0.step)⟩
         ·rw [if_neg c9] at H
          have c9b0 : decide (48 ≤ (bt a0 x3_2)) = false := decide_eq_false c9
          clear c9
          have H' := Aside0.mk H
          clear H
          have p8 : 0 ≤ (x3_2 : Int) := of_decide_eq_true Zz1
          have q8 : x3_2 < (a0.size : Int) := of_decide_eq_true Zz1
          have hx8 := bt_at a0 x3_2
          replace p8 := eq_true p8
          replace q8 := eq_true q8
          have p13 : 0 ≤ (x3_2 : Int) := of_decide_eq_true Zz1
          have q13 : x3_2 < (a0.size : Int) := of_decide_eq_true Zz1
          have hx13 := bt_at a0 x3_2
          replace p13 := eq_true p13
          replace q13 := eq_true q13
          go_wp2
          go_meet
          case rel => exact ⟨_, (((bt a0 x3_2) == 95)), Zz6, H', ⟨by have := HJ1.out; have := HK2.out; first | omega | exact Nat.le_refl _⟩, by repeat (first | exact Drawn0.refl _ | apply Drawn0.step)⟩
        ·rw [if_neg c7] at H
         exact absurd H (by simp)
       case rest =>
        clear HC6
        try clear c1
        try clear p1
        try clear q1
        try clear hx1
        try clear p2
        try clear c3
        try clear c3b0
        try clear c3b1
        try clear c4
        try clear c5
        try clear c5b0
        try clear c7
        try clear c7b0
        try clear p8
        try clear q8
        try clear hx8
        try clear c9
        try clear c9b0
        try clear p10
        try clear q10
        try clear hx10
        try clear c11
        try clear c11b0
        try clear p12
        try clear q12
        try clear hx12
        try clear p13
        try clear q13
        try clear hx13
        try clear p10
        try clear p12
        try clear p13
        try clear p2
        try clear p8
        try clear q10
        try clear q12
        try clear q13
        try clear q8
        obtain ⟨kq, x4_5, rfl, HA, HJ5, ⟨mc5, rfl⟩⟩ := hcut
        cases kq with
        | zero => exact absurd HA.out (by simp [tammyref01_Name.j2])
        | succ kj5 =>
         have H := HA.out
         clear HA
         simp only [tammyref01_Name.j2] at H
         by_cases c14 : 0 ≤ x3_2
         ·rw [if_pos c14] at H
          have c14b0 := decide_eq_true c14
          clear c14
          by_cases c15 : x3_2 < (a0.size : Int)
          ·rw [if_pos c15] at H
           have c15b0 := decide_eq_true c15
           clear c15
           replace H := Option.bind_eq_some_iff.mp H
           obtain ⟨t170, A170, H⟩ := H
           replace H : (if t170 = true then (tammyref01_Name.l0 kj5 a0 (wrap64 (x3_2 + 1))) else ((tammyref01_big.f (bt a0 x3_2)).bind fun t171 => (if t171 = true then (tammyref01_Name.l0 kj5 a0 (wrap64 (x3_2 + 1))) else (if x3_2 = 0 then (some false) else (if x4_5 = true then (tammyref01_Name.l0 kj5 a0 (wrap64 (x3_2 + 1))) else (some false)))))) = some r := H
           have A17 := Aside0.mk A170
           clear A170
           by_cases c18 : t170 = true
           ·subst c18
            have H1 : (tammyref01_Name.l0 kj5 a0 (wrap64 (x3_2 + 1))) = some r := by rw [if_pos rfl] at H; exact H
            clear H
            have H := H1
            clear H1
            have H' := Aside0.mk H
            clear H
            have p16 : 0 ≤ (x3_2 : Int) := of_decide_eq_true Zz1
            have q16 : x3_2 < (a0.size : Int) := of_decide_eq_true Zz1
            have hx16 := bt_at a0 x3_2
            replace p16 := eq_true p16
            replace q16 := eq_true q16
            go_wp2_with (first | ((with_reducible refine gate_callee (f := 51) rfl ?_); refine goesL_ (some 39) rfl rfl Tryz.func51 (by kernel_rfl) rfl #[.int .u8 (bt a0 x3_2)] rfl Zz2 ?_; (with_reducible refine (tammyref01_small.calls (bt a0 x3_2) true _ A17.out).mono ?_); rintro e w' ⟨rfl, ⟨nd, rfl⟩⟩; refine ⟨_, rfl, ?_⟩))
            go_roundg kj5
            case measure => have := HJ1.out; have := HK2.out; have := HJ5.out; omega
            case rel => exact ⟨(wrap64 (x3_2 + 1)), Zz6, H', ⟨by have := HJ1.out; have := HK2.out; have := HJ5.out; omega⟩, by repeat (first | exact Drawn0.refl _ | apply Drawn0.step)⟩
           ·replace c18 := Bool.eq_false_iff.mpr c18
            subst c18
            have H1 : ((tammyref01_big.f (bt a0 x3_2)).bind fun t171 => (if t171 = true then (tammyref01_Name.l0 kj5 a0 (wrap64 (x3_2 + 1))) else (if x3_2 = 0 then (some false) else (if x4_5 = true then (tammyref01_Name.l0 kj5 a0 (wrap64 (x3_2 + 1))) else (some false))))) = some r := by rw [if_neg (show ¬ (false = true) by decide)] at H; exact H
            clear H
            have H := H1
            clear H1
            replace H := Option.bind_eq_some_iff.mp H
            obtain ⟨t171, A200, H⟩ := H
            replace H : (if t171 = true then (tammyref01_Name.l0 kj5 a0 (wrap64 (x3_2 + 1))) else (if x3_2 = 0 then (some false) else (if x4_5 = true then (tammyref01_Name.l0 kj5 a0 (wrap64 (x3_2 + 1))) else (some false)))) = some r := H
            have A20 := Aside0.mk A200
            clear A200
            by_cases c21 : t171 = true
            ·subst c21
             have H1 : (tammyref01_Name.l0 kj5 a0 (wrap64 (x3_2 + 1))) = some r := by rw [if_pos rfl] at H; exact H
             clear H
             have H := H1
             clear H1
             have H' := Aside0.mk H
             clear H
             have p16 : 0 ≤ (x3_2 : Int) := of_decide_eq_true Zz1
             have q16 : x3_2 < (a0.size : Int) := of_decide_eq_true Zz1
             have hx16 := bt_at a0 x3_2
             replace p16 := eq_true p16
             replace q16 := eq_true q16
             go_wp2_with (first | ((with_reducible refine gate_callee (f := 51) rfl ?_); refine goesL_ (some 39) rfl rfl Tryz.func51 (by kernel_rfl) rfl #[.int .u8 (bt a0 x3_2)] rfl Zz2 ?_; (with_reducible refine (tammyref01_small.calls (bt a0 x3_2) false _ A17.out).mono ?_); rintro e w' ⟨rfl, ⟨nd, rfl⟩⟩; refine ⟨_, rfl, ?_⟩; have p19 : 0 ≤ (x3_2 : Int) := of_decide_eq_true Zz1; have q19 : x3_2 < (a0.size : Int) := of_decide_eq_true Zz1; have hx19 := bt_at a0 x3_2; replace p19 := eq_true p19; replace q19 := eq_true q19) | (go_at_call 52; (with_reducible refine (tammyref01_big.calls (bt a0 x3_2) true _ A20.out).mono ?_); rintro e w' ⟨rfl, ⟨nd, rfl⟩⟩))
             go_roundg kj5
             case measure => have := HJ1.out; have := HK2.out; have := HJ5.out; omega
             case rel => exact ⟨(wrap64 (x3_2 + 1)), Zz6, H', ⟨by have := HJ1.out; have := HK2.out; have := HJ5.out; omega⟩, by repeat (first | exact Drawn0.refl _ | apply Drawn0.step)⟩
            ·replace c21 := Bool.eq_false_iff.mpr c21
             subst c21
             have H1 : (if x3_2 = 0 then (some false) else (if x4_5 = true then (tammyref01_Name.l0 kj5 a0 (wrap64 (x3_2 + 1))) else (some false))) = some r := by rw [if_neg (show ¬ (false = true) by decide)] at H; exact H
             clear H
             have H := H1
             clear H1
             by_cases c22 : x3_2 = 0
             ·rw [if_pos c22] at H
              have c22b0 := beq_iff_eq.mpr c22
              have c22b1 := bne_eq_false_iff_eq.mpr c22
              clear c22
              obtain rfl := Option.some.inj H
              have p16 : 0 ≤ (x3_2 : Int) := of_decide_eq_true Zz1
              have q16 : x3_2 < (a0.size : Int) := of_decide_eq_true Zz1
              have hx16 := bt_at a0 x3_2
              replace p16 := eq_true p16
              replace q16 := eq_true q16
              go_wp2_with (first | ((with_reducible refine gate_callee (f := 51) rfl ?_); refine goesL_ (some 39) rfl rfl Tryz.func51 (by kernel_rfl) rfl #[.int .u8 (bt a0 x3_2)] rfl Zz2 ?_; (with_reducible refine (tammyref01_small.calls (bt a0 x3_2) false _ A17.out).mono ?_); rintro e w' ⟨rfl, ⟨nd, rfl⟩⟩; refine ⟨_, rfl, ?_⟩; have p19 : 0 ≤ (x3_2 : Int) := of_decide_eq_true Zz1; have q19 : x3_2 < (a0.size : Int) := of_decide_eq_true Zz1; have hx19 := bt_at a0 x3_2; replace p19 := eq_true p19; replace q19 := eq_true q19) | (go_at_call 52; (with_reducible refine (tammyref01_big.calls (bt a0 x3_2) false _ A20.out).mono ?_); rintro e w' ⟨rfl, ⟨nd, rfl⟩⟩))
              go_ret
              exact ⟨by first | rfl | (simp; done) | (simp [*]; done), by repeat (first | exact Drawn0.refl _ | apply Drawn0.step)⟩
             ·rw [if_neg c22] at H
              have c22b0 := beq_eq_false_iff_ne.mpr c22
              have c22b1 := bne_iff_ne.mpr c22
              by_cases c23 : x4_5 = true
              ·subst c23
               have H1 : (tammyref01_Name.l0 kj5 a0 (wrap64 (x3_2 + 1))) = some r := by rw [if_pos rfl] at H; exact H
               clear H
               have H := H1
               clear H1
               have H' := Aside0.mk H
               clear H
               have p16 : 0 ≤ (x3_2 : Int) := of_decide_eq_true Zz1
               have q16 : x3_2 < (a0.size : Int) := of_decide_eq_true Zz1
               have hx16 := bt_at a0 x3_2
               replace p16 := eq_true p16
               replace q16 := eq_true q16
               go_wp2_with (first | ((with_reducible refine gate_callee (f := 51) rfl ?_); refine goesL_ (some 39) rfl rfl Tryz.func51 (by kernel_rfl) rfl #[.int .u8 (bt a0 x3_2)] rfl Zz2 ?_; (with_reducible refine (tammyref01_small.calls (bt a0 x3_2) false _ A17.out).mono ?_); rintro e w' ⟨rfl, ⟨nd, rfl⟩⟩; refine ⟨_, rfl, ?_⟩; have p19 : 0 ≤ (x3_2 : Int) := of_decide_eq_true Zz1; have q19 : x3_2 < (a0.size : Int) := of_decide_eq_true Zz1; have hx19 := bt_at a0 x3_2; replace p19 := eq_true p19; replace q19 := eq_true q19) | (go_at_call 52; (with_reducible refine (tammyref01_big.calls (bt a0 x3_2) false _ A20.out).mono ?_); rintro e w' ⟨rfl, ⟨nd, rfl⟩⟩))
               go_roundg kj5
               case measure => have := HJ1.out; have := HK2.out; have := HJ5.out; omega
               case rel => exact ⟨(wrap64 (x3_2 + 1)), Zz6, H', ⟨by have := HJ1.out; have := HK2.out; have := HJ5.out; omega⟩, by repeat (first | exact Drawn0.refl _ | apply Drawn0.step)⟩
              ·replace c23 := Bool.eq_false_iff.mpr c23
               subst c23
               have H1 : (some false) = some r := by rw [if_neg (show ¬ (false = true) by decide)] at H; exact H
               clear H
               have H := H1
               clear H1
               obtain rfl := Option.some.inj H
               have p16 : 0 ≤ (x3_2 : Int) := of_decide_eq_true Zz1
               have q16 : x3_2 < (a0.size : Int) := of_decide_eq_true Zz1
               have hx16 := bt_at a0 x3_2
               replace p16 := eq_true p16
               replace q16 := eq_true q16
               go_wp2_with (first | ((with_reducible refine gate_callee (f := 51) rfl ?_); refine goesL_ (some 39) rfl rfl Tryz.func51 (by kernel_rfl) rfl #[.int .u8 (bt a0 x3_2)] rfl Zz2 ?_; (with_reducible refine (tammyref01_small.calls (bt a0 x3_2) false _ A17.out).mono ?_); rintro e w' ⟨rfl, ⟨nd, rfl⟩⟩; refine ⟨_, rfl, ?_⟩; have p19 : 0 ≤ (x3_2 : Int) := of_decide_eq_true Zz1; have q19 : x3_2 < (a0.size : Int) := of_decide_eq_true Zz1; have hx19 := bt_at a0 x3_2; replace p19 := eq_true p19; replace q19 := eq_true q19) | (go_at_call 52; (with_reducible refine (tammyref01_big.calls (bt a0 x3_2) false _ A20.out).mono ?_); rintro e w' ⟨rfl, ⟨nd, rfl⟩⟩))
               go_ret
               exact ⟨by first | rfl | (simp; done) | (simp [*]; done), by repeat (first | exact Drawn0.refl _ | apply Drawn0.step)⟩
          ·rw [if_neg c15] at H
           exact absurd H (by simp)
         ·rw [if_neg c14] at H
          exact absurd H (by simp)
      ·rw [if_neg c5] at H
       have c5b0 := decide_eq_false c5
       clear c5
       obtain rfl := Option.some.inj H
       go_wp2
       go_ret
       exact ⟨by first | rfl | (simp; done) | (simp [*]; done), by repeat (first | exact Drawn0.refl _ | apply Drawn0.step)⟩
def tammyref01_Con.f (k : Nat) (a0 : ByteArray) : Option (Bool) := (tammyref01_Name.f k a0).bind fun t172 => (if t172 = true then (if 0 < (a0.size : Int) then ((tammyref01_small.f (bt a0 0)).bind fun t173 => (some t173)) else (none)) else (some false))
theorem tammyref01_Con.mono : ∀ a0 k, LeO (tammyref01_Con.f k a0) (tammyref01_Con.f (k + 1) a0) := by
 intro a0 k
 unfold tammyref01_Con.f
 repeat' first
   | (with_reducible exact tammyref01_Name.mono _ _)
   | (with_reducible exact LeO.refl _)
   | (with_reducible exact LeO.none _)
   | (with_reducible refine LeO.ite ?_ ?_)
   | (with_reducible refine LeO.bind ?_ (fun _ => ?_))
   | exact tammyref01_Name.mono _ _
   | exact LeO.none _
   | refine LeO.ite ?_ ?_
   | refine LeO.bind ?_ (fun _ => ?_)
set_option maxHeartbeats 8000000 in
set_option maxRecDepth 100000 in
theorem tammyref01_Con.calls (k : Nat) (a0 : ByteArray) (r : Bool) (w : World) (h : tammyref01_Con.f k a0 = some r) :
  Calls Tryz.prog 26 #[.string a0] w fun e w' => e = .returned (.bool r) ∧ Drawn0 w w' := by
 have H : ((tammyref01_Name.f k a0).bind fun t172 => (if t172 = true then (if 0 < (a0.size : Int) then ((tammyref01_small.f (bt a0 0)).bind fun t173 => (some t173)) else (none)) else (some false))) = some r := h
 clear h
 replace H := Option.bind_eq_some_iff.mp H
 obtain ⟨t172, A20, H⟩ := H
 replace H : (if t172 = true then (if 0 < (a0.size : Int) then ((tammyref01_small.f (bt a0 0)).bind fun t173 => (some t173)) else (none)) else (some false)) = some r := H
 have A2 := Aside0.mk A20
 clear A20
 by_cases c3 : t172 = true
 ·subst c3
  have H1 : (if 0 < (a0.size : Int) then ((tammyref01_small.f (bt a0 0)).bind fun t173 => (some t173)) else (none)) = some r := by rw [if_pos rfl] at H; exact H
  clear H
  have H := H1
  clear H1
  by_cases c4 : 0 < (a0.size : Int)
  ·rw [if_pos c4] at H
   have c4b0 := decide_eq_true c4
   have c4b1 : decide (0 < a0.size) = true := decide_eq_true (by omega)
   clear c4
   replace H := Option.bind_eq_some_iff.mp H
   obtain ⟨t173, A60, H⟩ := H
   replace H : (some t173) = some r := H
   have A6 := Aside0.mk A60
   clear A60
   obtain rfl := Option.some.inj H
   go_enter Tryz.func26, Tryz.ntmps26
   go_wp2_with (first | ((with_reducible refine gate_callee (f := 50) rfl ?_); refine goesL_ (some 4) rfl rfl Tryz.func50 (by kernel_rfl) rfl #[.string a0] rfl Zz2 ?_; (with_reducible refine (tammyref01_Name.calls k a0 true _ A2.out).mono ?_); rintro e w' ⟨rfl, ⟨nd, rfl⟩⟩; refine ⟨_, rfl, ?_⟩; have p5 : 0 ≤ (0 : Int) := (by omega); have q5 : 0 < a0.size := Zz9; have hx5 : ∀ h : 0 < a0.size, ((a0[0]'h).toNat : Int) = bt a0 0 := bt_at a0 0; clear p5; have qi5 : (0 < (a0.size : Int)) = True := eq_true (of_decide_eq_true Zz1); replace q5 := eq_true q5) | (go_at_call 51; (with_reducible refine (tammyref01_small.calls (bt a0 0) t173 _ A6.out).mono ?_); rintro e w' ⟨rfl, ⟨nd, rfl⟩⟩))
   go_ret
   exact ⟨by first | rfl | (simp; done) | (simp [*]; done), by repeat (first | exact Drawn0.refl _ | apply Drawn0.step)⟩
  ·rw [if_neg c4] at H
   exact absurd H (by simp)
 ·replace c3 := Bool.eq_false_iff.mpr c3
  subst c3
  have H1 : (some false) = some r := by rw [if_neg (show ¬ (false = true) by decide)] at H; exact H
  clear H
  have H := H1
  clear H1
  obtain rfl := Option.some.inj H
  go_enter Tryz.func26, Tryz.ntmps26
  go_wp2_with (first | ((with_reducible refine gate_callee (f := 50) rfl ?_); refine goesL_ (some 4) rfl rfl Tryz.func50 (by kernel_rfl) rfl #[.string a0] rfl Zz2 ?_; (with_reducible refine (tammyref01_Name.calls k a0 false _ A2.out).mono ?_); rintro e w' ⟨rfl, ⟨nd, rfl⟩⟩; refine ⟨_, rfl, ?_⟩))
  go_ret
  exact ⟨by first | rfl | (simp; done) | (simp [*]; done), by repeat (first | exact Drawn0.refl _ | apply Drawn0.step)⟩
def tammyref01_Var.f (k : Nat) (a0 : ByteArray) : Option (Bool) := (tammyref01_Name.f k a0).bind fun t174 => (if t174 = true then (if 0 < (a0.size : Int) then ((tammyref01_big.f (bt a0 0)).bind fun t175 => (some t175)) else (none)) else (some false))
theorem tammyref01_Var.mono : ∀ a0 k, LeO (tammyref01_Var.f k a0) (tammyref01_Var.f (k + 1) a0) := by
 intro a0 k
 unfold tammyref01_Var.f
 repeat' first
   | (with_reducible exact tammyref01_Name.mono _ _)
   | (with_reducible exact LeO.refl _)
   | (with_reducible exact LeO.none _)
   | (with_reducible refine LeO.ite ?_ ?_)
   | (with_reducible refine LeO.bind ?_ (fun _ => ?_))
   | exact tammyref01_Name.mono _ _
   | exact LeO.none _
   | refine LeO.ite ?_ ?_
   | refine LeO.bind ?_ (fun _ => ?_)
set_option maxHeartbeats 8000000 in
set_option maxRecDepth 100000 in
theorem tammyref01_Var.calls (k : Nat) (a0 : ByteArray) (r : Bool) (w : World) (h : tammyref01_Var.f k a0 = some r) :
  Calls Tryz.prog 27 #[.string a0] w fun e w' => e = .returned (.bool r) ∧ Drawn0 w w' := by
 have H : ((tammyref01_Name.f k a0).bind fun t174 => (if t174 = true then (if 0 < (a0.size : Int) then ((tammyref01_big.f (bt a0 0)).bind fun t175 => (some t175)) else (none)) else (some false))) = some r := h
 clear h
 replace H := Option.bind_eq_some_iff.mp H
 obtain ⟨t174, A20, H⟩ := H
 replace H : (if t174 = true then (if 0 < (a0.size : Int) then ((tammyref01_big.f (bt a0 0)).bind fun t175 => (some t175)) else (none)) else (some false)) = some r := H
 have A2 := Aside0.mk A20
 clear A20
 by_cases c3 : t174 = true
 ·subst c3
  have H1 : (if 0 < (a0.size : Int) then ((tammyref01_big.f (bt a0 0)).bind fun t175 => (some t175)) else (none)) = some r := by rw [if_pos rfl] at H; exact H
  clear H
  have H := H1
  clear H1
  by_cases c4 : 0 < (a0.size : Int)
  ·rw [if_pos c4] at H
   have c4b0 := decide_eq_true c4
   have c4b1 : decide (0 < a0.size) = true := decide_eq_true (by omega)
   clear c4
   replace H := Option.bind_eq_some_iff.mp H
   obtain ⟨t175, A60, H⟩ := H
   replace H : (some t175) = some r := H
   have A6 := Aside0.mk A60
   clear A60
   obtain rfl := Option.some.inj H
   go_enter Tryz.func27, Tryz.ntmps27
   go_wp2_with (first | ((with_reducible refine gate_callee (f := 50) rfl ?_); refine goesL_ (some 4) rfl rfl Tryz.func50 (by kernel_rfl) rfl #[.string a0] rfl Zz2 ?_; (with_reducible refine (tammyref01_Name.calls k a0 true _ A2.out).mono ?_); rintro e w' ⟨rfl, ⟨nd, rfl⟩⟩; refine ⟨_, rfl, ?_⟩; have p5 : 0 ≤ (0 : Int) := (by omega); have q5 : 0 < a0.size := Zz9; have hx5 : ∀ h : 0 < a0.size, ((a0[0]'h).toNat : Int) = bt a0 0 := bt_at a0 0; clear p5; have qi5 : (0 < (a0.size : Int)) = True := eq_true (of_decide_eq_true Zz1); replace q5 := eq_true q5) | (go_at_call 52; (with_reducible refine (tammyref01_big.calls (bt a0 0) t175 _ A6.out).mono ?_); rintro e w' ⟨rfl, ⟨nd, rfl⟩⟩))
   go_ret
   exact ⟨by first | rfl | (simp; done) | (simp [*]; done), by repeat (first | exact Drawn0.refl _ | apply Drawn0.step)⟩
  ·rw [if_neg c4] at H
   exact absurd H (by simp)
 ·replace c3 := Bool.eq_false_iff.mpr c3
  subst c3
  have H1 : (some false) = some r := by rw [if_neg (show ¬ (false = true) by decide)] at H; exact H
  clear H
  have H := H1
  clear H1
  obtain rfl := Option.some.inj H
  go_enter Tryz.func27, Tryz.ntmps27
  go_wp2_with (first | ((with_reducible refine gate_callee (f := 50) rfl ?_); refine goesL_ (some 4) rfl rfl Tryz.func50 (by kernel_rfl) rfl #[.string a0] rfl Zz2 ?_; (with_reducible refine (tammyref01_Name.calls k a0 false _ A2.out).mono ?_); rintro e w' ⟨rfl, ⟨nd, rfl⟩⟩; refine ⟨_, rfl, ?_⟩))
  go_ret
  exact ⟨by first | rfl | (simp; done) | (simp [*]; done), by repeat (first | exact Drawn0.refl _ | apply Drawn0.step)⟩
end Go.Proofs.YtniaooodlccmcaaGreatDoor.Q

