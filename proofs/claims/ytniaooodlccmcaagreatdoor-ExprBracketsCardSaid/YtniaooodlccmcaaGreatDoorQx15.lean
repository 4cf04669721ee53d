import Derived.Test.YtniaooodlccmcaaGreatDoorDz
import Derived.Test.YtniaooodlccmcaaGreatDoorQx0
import Derived.Test.YtniaooodlccmcaaGreatDoorQx1
import Derived.Test.YtniaooodlccmcaaGreatDoorQx4
import Derived.Test.YtniaooodlccmcaaGreatDoorQx7
import Derived.Test.YtniaooodlccmcaaGreatDoorQx8
import Derived.Test.YtniaooodlccmcaaGreatDoorQx9
import Derived.Test.YtniaooodlccmcaaGreatDoorQx13
namespace Go.Proofs.YtniaooodlccmcaaGreatDoor.Q
open Go.RowKit Go.Proofs.YtniaooodlccmcaaGreatDoorW.PrintWords Go.Proofs.YtniaooodlccmcaaGreatDoorW.PrintLast Go.Proofs.YtniaooodlccmcaaGreatDoorW.PrintMore
attribute [local go_sem] max2_int min2_int max_two min_two max_three min_three max_four min_four
set_option linter.unusedVariables false
set_option linter.unusedSimpArgs false
attribute [local go_sem high] eqA38
def expr_Text.f (k : Nat) (l0 : List (S38)) : Option (ByteArray) := (expr_written.f k l0).bind fun bt303 => (some bt303.1)
theorem expr_Text.mono : ∀ a0 k, LeO (expr_Text.f k a0) (expr_Text.f (k + 1) a0) := by
 intro a0 k
 unfold expr_Text.f
 repeat' first
   | (with_reducible exact expr_written.mono _ _)
   | (with_reducible exact LeO.refl _)
   | (with_reducible exact LeO.none _)
   | (with_reducible refine LeO.ite ?_ ?_)
   | (with_reducible refine LeO.bind ?_ (fun _ => ?_))
   | exact expr_written.mono _ _
   | exact LeO.none _
   | refine LeO.ite ?_ ?_
   | refine LeO.bind ?_ (fun _ => ?_)
set_option maxHeartbeats 8000000 in
set_option maxRecDepth 100000 in
theorem expr_Text.calls (k : Nat) (A0 : Option Addr) (c0 : Nat) (l0 : List (S38)) (r : ByteArray) (w : World) (hr0 : Kd.C k38 w A0 l0.length l0) (hc0 : l0.length ≤ c0) (h : expr_Text.f k l0 = some r) :
  Calls Tryz.prog 13 #[.slice A0 l0.length c0] w fun e w' => e = .returned (.string r) ∧ Below w.heap.size w w' := by
 have HR0 := Aside0.mk hr0
 have HC0 := Aside0.mk hc0
 clear hr0 hc0
 have HB := Aside0.mk (Below.refl w.heap.size w)
 have H : ((expr_written.f k l0).bind fun bt303 => (some bt303.1)) = some r := h
 clear h
 replace H := Option.bind_eq_some_iff.mp H
 obtain ⟨⟨t303, t304⟩, A20, H⟩ := H
 replace H : (some t303) = some r := H
 have A2 := Aside0.mk A20
 clear A20
 obtain rfl := Option.some.inj H
 go_enter Tryz.func13, Tryz.ntmps13
 go_wp2_with (first | ((with_reducible refine gate_callee (f := 22) rfl ?_); refine goesL_ (some 7) rfl rfl Tryz.func22 (by kernel_rfl) rfl #[.slice A0 l0.length c0] rfl Zz2 ?_; (with_reducible refine (expr_written.calls k _ _ l0 t303 t304 _ ?side1 ?side2 A2.out).mono ?_); (case side1 => repeat (first | exact HR0.out | (with_reducible refine Kd.C_alloc ?_ _) | (with_reducible refine Kd.C_drewN ?_ _) | (with_reducible refine Kd.C_drew ?_))); (case side2 => exact HC0.out); rintro e w3 ⟨rfl, hb⟩; refine ⟨_, rfl, ?_⟩; have n0_ := Aside0.mk (below_step Zz0 hb); clear HB; have HB := n0_; clear n0_; (try clear hb); (try clear hb2); (try clear hk); (try clear hi)))
 go_ret
 exact ⟨by first | rfl | (simp [errW_none, errW_some] <;> rfl) | (simp [*, errW_none, errW_some] <;> rfl), by repeat (first | (with_reducible first | exact HB.out | apply below_alloc | apply pw_below_drewN | apply below_drew1) | exact HB.out)⟩
def tammyref07_Same.l0 : Nat → List (S38) → List (S38) → Int → Option (Bool)
 | 0, _, _, _ => none
 | k + 1, x0, x1, x5 => if x5 < (x0.length : Int) then (if 0 ≤ x5 then (if x5 < (x1.length : Int) then (if (!(((rd_T38 x0 x5).f0) == ((rd_T38 x1 x5).f0)) || (!((((rd_T38 x0 x5).f1).toList) == (((rd_T38 x1 x5).f1).toList)) || (!(((rd_T38 x0 x5).f2) == ((rd_T38 x1 x5).f2))))) = true then (some false) else (tammyref07_Same.l0 k x0 x1 (wrap64 (x5 + 1)))) else (none)) else (none)) else (some true)
def tammyref07_Same.f (k : Nat) (l0 : List (S38)) (l1 : List (S38)) : Option (Bool) := if (l0.length : Int) = (l1.length : Int) then (tammyref07_Same.l0 k l0 l1 0) else (some false)
theorem tammyref07_Same.mono_l : ∀ k, (∀ y0 y1 y2, LeO (tammyref07_Same.l0 k y0 y1 y2) (tammyref07_Same.l0 (k + 1) y0 y1 y2))
 | 0 => fun _ _ _ r h => by simp [tammyref07_Same.l0] at h
 | k + 1 => by
  have ih0 := tammyref07_Same.mono_l k
  ·intro y0 y1 y2
   unfold tammyref07_Same.l0
   repeat' first
   | (with_reducible exact ih0 _ _ _)
   | (with_reducible exact LeO.refl _)
   | (with_reducible exact LeO.none _)
   | (with_reducible refine LeO.ite ?_ ?_)
   | (with_reducible refine LeO.bind ?_ (fun _ => ?_))
   | exact ih0 _ _ _
   | exact LeO.none _
   | refine LeO.ite ?_ ?_
   | refine LeO.bind ?_ (fun _ => ?_)
theorem tammyref07_Same.mono : ∀ a0 a1 k, LeO (tammyref07_Same.f k a0 a1) (tammyref07_Same.f (k + 1) a0 a1) := by
 intro a0 a1 k
 have ih0 := tammyref07_Same.mono_l k
 unfold tammyref07_Same.f
 repeat' first
   | (with_reducible exact ih0 _ _ _)
   | (with_reducible exact LeO.refl _)
   | (with_reducible exact LeO.none _)
   | (with_reducible refine LeO.ite ?_ ?_)
   | (with_reducible refine LeO.bind ?_ (fun _ => ?_))
   | exact ih0 _ _ _
   | exact LeO.none _
   | refine LeO.ite ?_ ?_
   | refine LeO.bind ?_ (fun _ => ?_)
set_option maxHeartbeats 8000000 in
set_option maxRecDepth 100000 in
theorem tammyref07_Same.calls (k : Nat) (A0 : Option Addr) (c0 : Nat) (l0 : List (S38)) (A1 : Option Addr) (c1 : Nat) (l1 : List (S38)) (r : Bool) (w : World) (hr0 : Kd.C k38 w A0 l0.length l0) (hc0 : l0.length ≤ c0) (hr1 : Kd.C k38 w A1 l1.length l1) (hc1 : l1.length ≤ c1) (h : tammyref07_Same.f k l0 l1 = some r) :
  Calls Tryz.prog 15 #[.slice A0 l0.length c0, .slice A1 l1.length c1] w fun e w' => e = .returned (.bool r) ∧ Drawn0 w w' := by
 have hu38 := Tryz.underlying38
 have HR0 := Aside0.mk hr0
 have HC0 := Aside0.mk hc0
 clear hr0 hc0
 have HR1 := Aside0.mk hr1
 have HC1 := Aside0.mk hc1
 clear hr1 hc1
 have H : (if (l0.length : Int) = (l1.length : Int) then (tammyref07_Same.l0 k l0 l1 0) else (some false)) = some r := h
 clear h
 by_cases c3 : (l0.length : Int) = (l1.length : Int)
 ·rw [if_pos c3] at H
  have c3b0 := beq_iff_eq.mpr c3
  have c3b1 := bne_eq_false_iff_eq.mpr c3
  have c3b2 : (l0.length == l1.length) = true := by first | simpa using c3 | (simp at c3 ⊢; omega)
  clear c3
  have H' := Aside0.mk H
  clear H
  go_enter Tryz.func15, Tryz.ntmps15
  go_wp2
  repeat (go_quiet (fail); try go_wp2)
  go_loopg [5] k (fun kq v5 w' => ∃ (x5_1 : Int), v5 = .int .i64 x5_1 ∧ Aside0 (tammyref07_Same.l0 kq l0 l1 x5_1 = some r) ∧ Aside0 (kq ≤ k) ∧ Drawn0 w w')
  case atStart => exact ⟨(0), Zz6, H', ⟨Nat.le_refl _⟩, by repeat (first | exact Drawn0.refl _ | apply Drawn0.step)⟩
  case round =>
   clear H'
   try clear c1
   try clear p2
   try clear c3
   try clear c3b0
   try clear c3b1
   try clear c3b2
   obtain ⟨x5_1, rfl, HA, HK1, ⟨m1, rfl⟩⟩ := hrel
   cases gk with
   | zero => exact absurd HA.out (by simp [tammyref07_Same.l0])
   | succ k1 =>
    have H := HA.out
    clear HA
    simp only [tammyref07_Same.l0] at H
    by_cases c4 : x5_1 < (l0.length : Int)
    ·rw [if_pos c4] at H
     have c4b0 := decide_eq_true c4
     clear c4
     by_cases c5 : 0 ≤ x5_1
     ·rw [if_pos c5] at H
      have c5b0 := decide_eq_true c5
      clear c5
      by_cases c6 : x5_1 < (l1.length : Int)
      ·rw [if_pos c6] at H
       have c6b0 := decide_eq_true c6
       clear c6
       by_cases c7 : (!(((rd_T38 l0 x5_1).f0) == ((rd_T38 l1 x5_1).f0)) || (!((((rd_T38 l0 x5_1).f1).toList) == (((rd_T38 l1 x5_1).f1).toList)) || (!(((rd_T38 l0 x5_1).f2) == ((rd_T38 l1 x5_1).f2))))) = true
       ·rw [if_pos c7] at H
        have c7b0 : (!(((rd_T38 l0 x5_1).f0) == ((rd_T38 l1 x5_1).f0)) || (!((((rd_T38 l0 x5_1).f1).toList) == (((rd_T38 l1 x5_1).f1).toList)) || (!(((rd_T38 l0 x5_1).f2) == ((rd_T38 l1 x5_1).f2))))) = true := c7
        clear c7
        obtain rfl := Option.some.inj H
        have p305 : 0 ≤ (x5_1 : Int) := of_decide_eq_true Zz1
        have q305 : x5_1 < (l0.length : Int) := of_decide_eq_true Zz1
        obtain ⟨ad305, e305, hx305_0, hx305_1, hx305_2⟩ := at_T38 HR0.out x5_1 p305 q305
        cases e305
        replace p305 := eq_true p305
        replace q305 := eq_true q305
        have p306 : 0 ≤ (x5_1 : Int) := of_decide_eq_true Zz1
        have q306 : x5_1 < (l1.length : Int) := of_decide_eq_true Zz1
        obtain ⟨ad306, e306, hx306_0, hx306_1, hx306_2⟩ := at_T38 HR1.out x5_1 p306 q306
        cases e306
        replace p306 := eq_true p306
        replace q306 := eq_true q306
        go_wp2
        repeat (go_quiet (fail); try go_wp2)
        go_ret
        exact ⟨by first | rfl | (simp; done) | (simp [*]; done), by repeat (first | exact Drawn0.refl _ | apply Drawn0.step)⟩
       ·rw [if_neg c7] at H
        have c7b0 : (!(((rd_T38 l0 x5_1).f0) == ((rd_T38 l1 x5_1).f0)) || (!((((rd_T38 l0 x5_1).f1).toList) == (((rd_T38 l1 x5_1).f1).toList)) || (!(((rd_T38 l0 x5_1).f2) == ((rd_T38 l1 x5_1).f2))))) = false := by simpa using c7
        clear c7
        have H' := Aside0.mk H
        clear H
        have p305 : 0 ≤ (x5_1 : Int) := of_decide_eq_true Zz1
        have q305 : x5_1 < (l0.length : Int) := of_decide_eq_true Zz1
        obtain ⟨ad305, e305, hx305_0, hx305_1, hx305_2⟩ := at_T38 HR0.out x5_1 p305 q305
        cases e305
        replace p305 := eq_true p305
        replace q305 := eq_true q305
        have p306 : 0 ≤ (x5_1 : Int) := of_decide_eq_true Zz1
        have q306 : x5_1 < (l1.length : Int) := of_decide_eq_true Zz1
        obtain ⟨ad306, e306, hx306_0, hx306_1, hx306_2⟩ := at_T38 HR1.out x5_1 p306 q306
        cases e306
        replace p306 := eq_true p306
        replace q306 := eq_true q306
        go_wp2
        repeat (go_quiet (fail); try go_wp2)
        go_roundg k1
        case measure => have := HK1.out; omega
        case rel => exact ⟨(wrap64 (x5_1 + 1)), Zz6, H', ⟨by have := HK1.out; omega⟩, by repeat (first | exact Drawn0.refl _ | apply Drawn0.step)⟩
      ·rw [if_neg c6] at H
       exact absurd H (by simp)
     ·rw [if_neg c5] at H
      exact absurd H (by simp)
    ·rw [if_neg c4] at H
     have c4b0 := decide_eq_false c4
     clear c4
     obtain rfl := Option.some.inj H
     go_wp2
     repeat (go_quiet (fail); try go_wp2)
     go_ret
     exact ⟨by first | rfl | (simp; done) | (simp [*]; done), by repeat (first | exact Drawn0.refl _ | apply Drawn0.step)⟩
 ·rw [if_neg c3] at H
  have c3b0 := beq_eq_false_iff_ne.mpr c3
  have c3b1 := bne_iff_ne.mpr c3
  have c3b2 : (l0.length == l1.length) = false := by first | simpa using c3 | (simp at c3 ⊢; omega)
  obtain rfl := Option.some.inj H
  go_enter Tryz.func15, Tryz.ntmps15
  go_wp2
  repeat (go_quiet (fail); try go_wp2)
  go_ret
  exact ⟨by first | rfl | (simp; done) | (simp [*]; done), by repeat (first | exact Drawn0.refl _ | apply Drawn0.step)⟩
def tammylaw07_ExprBack.j0 : Nat → List (S38) → Bool → Bool → Option (Bool)
 | 0, _, _, _ => none
 | k + 1, x0, x3, x18 => if x18 = true then (some x3) else ((expr_Text.f k x0).bind fun t310 => ((tammyref06_Toks.f k t310).bind fun bt311 => ((expr_Read.f k bt311.1 0).bind fun bt316 => (if x3 = true then (if bt311.2.2 = 0 then (if bt316.2.2 = 0 then (if bt316.2.1 = (bt311.1.length : Int) then ((tammyref07_Same.f k bt316.1 x0).bind fun t321 => (some t321)) else (none)) else (none)) else (none)) else (none)))))
def tammylaw07_ExprBack.f (k : Nat) (l0 : List (S38)) : Option (Bool) := (tammylaw07_shown.f k).bind fun t307 => ((tammyref07_Few.f k l0).bind fun t308 => (if t308 = true then ((tammyref07_Right.f k l0).bind fun t309 => (tammylaw07_ExprBack.j0 k l0 t307 (!t309))) else (tammylaw07_ExprBack.j0 k l0 t307 true)))
theorem tammylaw07_ExprBack.mono_l : ∀ k, (∀ y0 y1 y2, LeO (tammylaw07_ExprBack.j0 k y0 y1 y2) (tammylaw07_ExprBack.j0 (k + 1) y0 y1 y2))
 | 0 => fun _ _ _ r h => by simp [tammylaw07_ExprBack.j0] at h
 | k + 1 => by
  have ih0 := tammylaw07_ExprBack.mono_l k
  ·intro y0 y1 y2
   unfold tammylaw07_ExprBack.j0
   repeat' first
   | (with_reducible exact ih0 _ _ _)
   | (with_reducible exact expr_Read.mono _ _ _)
   | (with_reducible exact expr_Text.mono _ _)
   | (with_reducible exact tammylaw07_shown.mono _)
   | (with_reducible exact tammyref06_Toks.mono _ _)
   | (with_reducible exact tammyref07_Few.mono _ _)
   | (with_reducible exact tammyref07_Right.mono _ _)
   | (with_reducible exact tammyref07_Same.mono _ _ _)
   | (with_reducible exact LeO.refl _)
   | (with_reducible exact LeO.none _)
   | (with_reducible refine LeO.ite ?_ ?_)
   | (with_reducible refine LeO.bind ?_ (fun _ => ?_))
   | exact ih0 _ _ _
   | exact expr_Read.mono _ _ _
   | exact expr_Text.mono _ _
   | exact tammylaw07_shown.mono _
   | exact tammyref06_Toks.mono _ _
   | exact tammyref07_Few.mono _ _
   | exact tammyref07_Right.mono _ _
   | exact tammyref07_Same.mono _ _ _
   | exact LeO.none _
   | refine LeO.ite ?_ ?_
   | refine LeO.bind ?_ (fun _ => ?_)
theorem tammylaw07_ExprBack.mono : ∀ a0 k, LeO (tammylaw07_ExprBack.f k a0) (tammylaw07_ExprBack.f (k + 1) a0) := by
 intro a0 k
 have ih0 := tammylaw07_ExprBack.mono_l k
 unfold tammylaw07_ExprBack.f
 repeat' first
   | (with_reducible exact ih0 _ _ _)
   | (with_reducible exact expr_Read.mono _ _ _)
   | (with_reducible exact expr_Text.mono _ _)
   | (with_reducible exact tammylaw07_shown.mono _)
   | (with_reducible exact tammyref06_Toks.mono _ _)
   | (with_reducible exact tammyref07_Few.mono _ _)
   | (with_reducible exact tammyref07_Right.mono _ _)
   | (with_reducible exact tammyref07_Same.mono _ _ _)
   | (with_reducible exact LeO.refl _)
   | (with_reducible exact LeO.none _)
   | (with_reducible refine LeO.ite ?_ ?_)
   | (with_reducible refine LeO.bind ?_ (fun _ => ?_))
   | exact ih0 _ _ _
   | exact expr_Read.mono _ _ _
   | exact expr_Text.mono _ _
   | exact tammylaw07_shown.mono _
   | exact tammyref06_Toks.mono _ _
   | exact tammyref07_Few.mono _ _
   | exact tammyref07_Right.mono _ _
   | exact tammyref07_Same.mono _ _ _
   | exact LeO.none _
   | refine LeO.ite ?_ ?_
   | refine LeO.bind ?_ (fun _ => ?_)
mutual
def tammylaw07_ExprBrackets.j0 : Nat → List (S38) → Int → Bool → Bool → Option (Bool)
 | 0, _, _, _, _ => none
 | k + 1, x0, x1, x5, x22 => if x22 = true then (some x5) else ((expr_Text.f k x0).bind fun t325 => (tammylaw07_ExprBrackets.l0 k x0 x1 x5 t325 0))
def tammylaw07_ExprBrackets.l0 : Nat → List (S38) → Int → Bool → ByteArray → Int → Option (Bool)
 | 0, _, _, _, _, _ => none
 | k + 1, x0, x1, x5, x6, x7 => if x7 < (wrap64 (Int.tmod x1 5)) then (if 1 + x6.size ≤ 9223372036854775807 then (if ((⟨#[40]⟩ : ByteArray) ++ x6).size + 1 ≤ 9223372036854775807 then (tammylaw07_ExprBrackets.l0 k x0 x1 x5 (((⟨#[40]⟩ : ByteArray) ++ x6) ++ (⟨#[41]⟩ : ByteArray)) (wrap64 (x7 + 1))) else (none)) else (none)) else ((tammyref06_Toks.f k x6).bind fun bt326 => (if bt326.2.2 = 0 then ((expr_Read.f k bt326.1 0).bind fun bt331 => (if x5 = true then (if bt331.2.2 = 0 then (if bt331.2.1 = (bt326.1.length : Int) then ((tammyref07_Same.f k x0 bt331.1).bind fun t336 => (if t336 = true then (some true) else (some (bt331.2.2 == 7)))) else (some (bt331.2.2 == 7))) else (some (bt331.2.2 == 7))) else (none))) else (if (x6.size : Int) > 2000 then (some x5) else (none))))
end
def tammylaw07_ExprBrackets.f (k : Nat) (l0 : List (S38)) (a1 : Int) : Option (Bool) := (tammylaw07_shown.f k).bind fun t322 => ((tammyref07_Few.f k l0).bind fun t323 => (if t323 = true then ((tammyref07_Right.f k l0).bind fun t324 => (tammylaw07_ExprBrackets.j0 k l0 a1 t322 (!t324))) else (tammylaw07_ExprBrackets.j0 k l0 a1 t322 true)))
theorem tammylaw07_ExprBrackets.mono_l : ∀ k, (∀ y0 y1 y2 y3, LeO (tammylaw07_ExprBrackets.j0 k y0 y1 y2 y3) (tammylaw07_ExprBrackets.j0 (k + 1) y0 y1 y2 y3)) ∧ (∀ y0 y1 y2 y3 y4, LeO (tammylaw07_ExprBrackets.l0 k y0 y1 y2 y3 y4) (tammylaw07_ExprBrackets.l0 (k + 1) y0 y1 y2 y3 y4))
 | 0 => ⟨fun _ _ _ _ r h => by simp [tammylaw07_ExprBrackets.j0] at h, fun _ _ _ _ _ r h => by simp [tammylaw07_ExprBrackets.l0] at h⟩
 | k + 1 => by
  obtain ⟨ih0, ih1⟩ := tammylaw07_ExprBrackets.mono_l k
  refine ⟨?_, ?_⟩
  ·intro y0 y1 y2 y3
   unfold tammylaw07_ExprBrackets.j0
   repeat' first
   | (with_reducible exact ih0 _ _ _ _)
   | (with_reducible exact ih1 _ _ _ _ _)
   | (with_reducible exact expr_Read.mono _ _ _)
   | (with_reducible exact expr_Text.mono _ _)
   | (with_reducible exact tammylaw07_shown.mono _)
   | (with_reducible exact tammyref06_Toks.mono _ _)
   | (with_reducible exact tammyref07_Few.mono _ _)
   | (with_reducible exact tammyref07_Right.mono _ _)
   | (with_reducible exact tammyref07_Same.mono _ _ _)
   | (with_reducible exact LeO.refl _)
   | (with_reducible exact LeO.none _)
   | (with_reducible refine LeO.ite ?_ ?_)
   | (with_reducible refine LeO.bind ?_ (fun _ => ?_))
   | exact ih0 _ _ _ _
   | exact ih1 _ _ _ _ _
   | exact expr_Read.mono _ _ _
   | exact expr_Text.mono _ _
   | exact tammylaw07_shown.mono _
   | exact tammyref06_Toks.mono _ _
   | exact tammyref07_Few.mono _ _
   | exact tammyref07_Right.mono _ _
   | exact tammyref07_Same.mono _ _ _
   | exact LeO.none _
   | refine LeO.ite ?_ ?_
   | refine LeO.bind ?_ (fun _ => ?_)
  ·intro y0 y1 y2 y3 y4
   unfold tammylaw07_ExprBrackets.l0
   repeat' first
   | (with_reducible exact ih0 _ _ _ _)
   | (with_reducible exact ih1 _ _ _ _ _)
   | (with_reducible exact expr_Read.mono _ _ _)
   | (with_reducible exact expr_Text.mono _ _)
   | (with_reducible exact tammylaw07_shown.mono _)
   | (with_reducible exact tammyref06_Toks.mono _ _)
   | (with_reducible exact tammyref07_Few.mono _ _)
   | (with_reducible exact tammyref07_Right.mono _ _)
   | (with_reducible exact tammyref07_Same.mono _ _ _)
   | (with_reducible exact LeO.refl _)
   | (with_reducible exact LeO.none _)
   | (with_reducible refine LeO.ite ?_ ?_)
   | (with_reducible refine LeO.bind ?_ (fun _ => ?_))
   | exact ih0 _ _ _ _
   | exact ih1 _ _ _ _ _
   | exact expr_Read.mono _ _ _
   | exact expr_Text.mono _ _
   | exact tammylaw07_shown.mono _
   | exact tammyref06_Toks.mono _ _
   | exact tammyref07_Few.mono _ _
   | exact tammyref07_Right.mono _ _
   | exact tammyref07_Same.mono _ _ _
   | exact LeO.none _
   | refine LeO.ite ?_ ?_
   | refine LeO.bind ?_ (fun _ => ?_)
theorem tammylaw07_ExprBrackets.mono : ∀ a0 a1 k, LeO (tammylaw07_ExprBrackets.f k a0 a1) (tammylaw07_ExprBrackets.f (k + 1) a0 a1) := by
 intro a0 a1 k
 obtain ⟨ih0, ih1⟩ := tammylaw07_ExprBrackets.mono_l k
 unfold tammylaw07_ExprBrackets.f
 repeat' first
   | (with_reducible exact ih0 _ _ _ _)
   | (with_reducible exact ih1 _ _ _ _ _)
   | (with_reducible exact expr_Read.mono _ _ _)
   | (with_reducible exact expr_Text.mono _ _)
   | (with_reducible exact tammylaw07_shown.mono _)
   | (with_reducible exact tammyref06_Toks.mono _ _)
   | (with_reducible exact tammyref07_Few.mono _ _)
   | (with_reducible exact tammyref07_Right.mono _ _)
   | (with_reducible exact tammyref07_Same.mono _ _ _)
   | (with_reducible exact LeO.refl _)
   | (with_reducible exact LeO.none _)
   | (with_reducible refine LeO.ite ?_ ?_)
   | (with_reducible refine LeO.bind ?_ (fun _ => ?_))
   | exact ih0 _ _ _ _
   | exact ih1 _ _ _ _ _
   | exact expr_Read.mono _ _ _
   | exact expr_Text.mono _ _
   | exact tammylaw07_shown.mono _
   | exact tammyref06_Toks.mono _ _
   | exact tammyref07_Few.mono _ _
   | exact tammyref07_Right.mono _ _
   | exact tammyref07_Same.mono _ _ _
   | exact LeO.none _
   | refine LeO.ite ?_ ?_
   | refine LeO.bind ?_ (fun _ => ?_)
set_option maxHeartbeats 8000000 in
set_option maxRecDepth 100000 in
theorem tammylaw07_ExprBrackets.calls (k : Nat) (A0 : Option Addr) (c0 : Nat) (l0 : List (S38)) (a1 : Int) (r : Bool) (w : World) (hr0 : Kd.C k38 w A0 l0.length l0) (hc0 : l0.length ≤ c0) (h : tammylaw07_ExprBrackets.f k l0 a1 = some r) :
  Calls Tryz.prog 5 #[.slice A0 l0.length c0, .int .u8 a1] w fun e w' => e = .returned (.bool r) ∧ Below w.heap.size w w' := by
 have HR0 := Aside0.mk hr0
 have HC0 := Aside0.mk hc0
 clear hr0 hc0
 have HB := Aside0.mk (Below.refl w.heap.size w)
 have H : ((tammylaw07_shown.f k).bind fun t322 => ((tammyref07_Few.f k l0).bind fun t323 => (if t323 = true then ((tammyref07_Right.f k l0).bind fun t324 => (tammylaw07_ExprBrackets.j0 k l0 a1 t322 (!t324))) else (tammylaw07_ExprBrackets.j0 k l0 a1 t322 true)))) = some r := h
 clear h
 replace H := Option.bind_eq_some_iff.mp H
 obtain ⟨t322, A30, H⟩ := H
 replace H : ((tammyref07_Few.f k l0).bind fun t323 => (if t323 = true then ((tammyref07_Right.f k l0).bind fun t324 => (tammylaw07_ExprBrackets.j0 k l0 a1 t322 (!t324))) else (tammylaw07_ExprBrackets.j0 k l0 a1 t322 true))) = some r := H
 have A3 := Aside0.mk A30
 clear A30
 have HC4 := Aside0.mk H
 clear H
 go_enter Tryz.func5, Tryz.ntmps5
 go_upto_region 2 with (first | ((with_reducible refine gate_callee (f := 7) rfl ?_); refine goesL_ (some 14) rfl rfl Tryz.func7 (by kernel_rfl) rfl #[] rfl Zz2 ?_; (with_reducible refine (tammylaw07_shown.calls k  t322 _ A3.out).mono ?_); rintro e w5 ⟨rfl, hb⟩; refine ⟨_, rfl, ?_⟩; have n0_ := Aside0.mk (below_step Zz0 hb); clear HB; have HB := n0_; clear n0_; (try clear hb); (try clear hb2); (try clear hk); (try clear hi)))
 (try simp only [Act.put, List.setIfInBounds_toArray, List.set_cons_zero, List.set_cons_succ])
 go_cut [22] (fun v22 wc => ∃ (kq : Nat) (x22_3 : Bool), v22 = .bool x22_3 ∧ Aside0 (tammylaw07_ExprBrackets.j0 kq l0 a1 t322 x22_3 = some r) ∧ Aside0 (kq ≤ k) ∧ Aside0 (Below w.heap.size w wc))
 case first =>
  have H := HC4.out
  clear HC4
  replace H := Option.bind_eq_some_iff.mp H
  obtain ⟨t323, A60, H⟩ := H
  replace H : (if t323 = true then ((tammyref07_Right.f k l0).bind fun t324 => (tammylaw07_ExprBrackets.j0 k l0 a1 t322 (!t324))) else (tammylaw07_ExprBrackets.j0 k l0 a1 t322 true)) = some r := H
  have A6 := Aside0.mk A60
  clear A60
  by_cases c7 : t323 = true
  ·subst c7
   have H1 : ((tammyref07_Right.f k l0).bind fun t324 => (tammylaw07_ExprBrackets.j0 k l0 a1 t322 (!t324))) = some r := by rw [if_pos rfl] at H; exact H
   clear H
   have H := H1
   clear H1
   replace H := Option.bind_eq_some_iff.mp H
   obtain ⟨t324, A80, H⟩ := H
   replace H : (tammylaw07_ExprBrackets.j0 k l0 a1 t322 (!t324)) = some r := H
   have A8 := Aside0.mk A80
   clear A80
   have H' := Aside0.mk H
   clear H
   go_wp2_with (first | ((with_reducible refine gate_callee (f := 8) rfl ?_); refine goesL_ (some 16) rfl rfl Tryz.func8 (by kernel_rfl) rfl #[.slice A0 l0.length c0] rfl Zz2 ?_; (with_reducible refine (tammyref07_Few.calls k _ _ l0 true _ ?side1 ?side2 A6.out).mono ?_); (case side1 => repeat (first | exact (Kd.C_below HR0.out HB.out) | (with_reducible refine Kd.C_alloc ?_ _) | (with_reducible refine Kd.C_drewN ?_ _) | (with_reducible refine Kd.C_drew ?_))); (case side2 => exact HC0.out); rintro e w' ⟨rfl, ⟨nd, rfl⟩⟩; refine ⟨_, rfl, ?_⟩) | (go_at_call 9; (with_reducible refine (tammyref07_Right.calls k _ _ l0 t324 _ ?side1 ?side2 A8.out).mono ?_); (case side1 => repeat (first | exact (Kd.C_below HR0.out Zz0) | (with_reducible refine Kd.C_alloc ?_ _) | (with_reducible refine Kd.C_drewN ?_ _) | (with_reducible refine Kd.C_drew ?_))); (case side2 => exact HC0.out); rintro e w9 ⟨rfl, hb⟩; have n0_ := Aside0.mk (below_step Zz0 hb); clear HB; have HB := n0_; clear n0_; (try clear hb); (try clear hb2); (try clear hk); (try clear hi)))
   go_meet
   case rel => exact ⟨_, (!t324), Zz6, H', ⟨by first | omega | exact Nat.le_refl _⟩, ⟨by repeat (first | (with_reducible first | exact HB.out | apply below_alloc | apply pw_below_drewN | apply below_drew1) | exact HB.out)⟩⟩
  ·replace c7 := Bool.eq_false_iff.mpr c7
   subst c7
   have H1 : (tammylaw07_ExprBrackets.j0 k l0 a1 t322 true) = some r := by rw [if_neg (show ¬ (false = true) by decide)] at H; exact H
   clear H
   have H := H1
   clear H1
   have H' := Aside0.mk H
   clear H
   go_wp2_with (first | ((with_reducible refine gate_callee (f := 8) rfl ?_); refine goesL_ (some 16) rfl rfl Tryz.func8 (by kernel_rfl) rfl #[.slice A0 l0.length c0] rfl Zz2 ?_; (with_reducible refine (tammyref07_Few.calls k _ _ l0 false _ ?side1 ?side2 A6.out).mono ?_); (case side1 => repeat (first | exact (Kd.C_below HR0.out HB.out) | (with_reducible refine Kd.C_alloc ?_ _) | (with_reducible refine Kd.C_drewN ?_ _) | (with_reducible refine Kd.C_drew ?_))); (case side2 => exact HC0.out); rintro e w' ⟨rfl, ⟨nd, rfl⟩⟩; refine ⟨_, rfl, ?_⟩))
   go_meet
   case rel => exact ⟨_, (true), Zz6, H', ⟨by first | omega | exact Nat.le_refl _⟩, ⟨by repeat (first | (with_reducible first | exact HB.out | apply below_alloc | apply pw_below_drewN | apply below_drew1) | exact HB.out)⟩⟩
 case rest =>
  clear HC4
  try clear p2
  try clear c5
  try clear c7
  try clear c8
  obtain ⟨kq, x22_3, rfl, HA, HJ3, HB⟩ := hcut
  cases kq with
  | zero => exact absurd HA.out (by simp [tammylaw07_ExprBrackets.j0])
  | succ kj3 =>
   have H := HA.out
   clear HA
   simp only [tammylaw07_ExprBrackets.j0] at H
   by_cases c10 : x22_3 = true
   ·subst c10
    have H1 : (some t322) = some r := by rw [if_pos rfl] at H; exact H
    clear H
    have H := H1
    clear H1
    obtain rfl := Option.some.inj H
    go_wp2
    go_ret
    exact ⟨by first | rfl | (simp [errW_none, errW_some] <;> rfl) | (simp [*, errW_none, errW_some] <;> rfl), by repeat (first | (with_reducible first | exact HB.out | apply below_alloc | apply pw_below_drewN | apply below_drew1) | exact HB.out)⟩
   ·replace c10 := Bool.eq_false_iff.mpr c10
    subst c10
    have H1 : ((expr_Text.f kj3 l0).bind fun t325 => (tammylaw07_ExprBrackets.l0 kj3 l0 a1 t322 t325 0)) = some r := by rw [if_neg (show ¬ (false = true) by decide)] at H; exact H
    clear H
    have H := H1
    clear H1
    replace H := Option.bind_eq_some_iff.mp H
    obtain ⟨t325, A110, H⟩ := H
    replace H : (tammylaw07_ExprBrackets.l0 kj3 l0 a1 t322 t325 0) = some r := H
    have A11 := Aside0.mk A110
    clear A110
    have H' := Aside0.mk H
    clear H
    go_wp2_with (first | ((with_reducible refine gate_callee (f := 13) rfl ?_); refine goesL_ (some 25) rfl rfl Tryz.func13 (by kernel_rfl) rfl #[.slice A0 l0.length c0] rfl Zz2 ?_; (with_reducible refine (expr_Text.calls kj3 _ _ l0 t325 _ ?side1 ?side2 A11.out).mono ?_); (case side1 => repeat (first | exact (Kd.C_below HR0.out HB.out) | (with_reducible refine Kd.C_alloc ?_ _) | (with_reducible refine Kd.C_drewN ?_ _) | (with_reducible refine Kd.C_drew ?_))); (case side2 => exact HC0.out); rintro e w12 ⟨rfl, hb⟩; refine ⟨_, rfl, ?_⟩; have n0_ := Aside0.mk (below_step Zz0 hb); clear HB; have HB := n0_; clear n0_; (try clear hb); (try clear hb2); (try clear hk); (try clear hi)))
    go_loopg [6, 7] kj3 (fun kq v6 v7 w' => ∃ (x6_2 : ByteArray) (x7_2 : Int), v6 = .string x6_2 ∧ v7 = .int .i64 x7_2 ∧ Aside0 (tammylaw07_ExprBrackets.l0 kq l0 a1 t322 x6_2 x7_2 = some r) ∧ Aside0 (kq ≤ kj3) ∧ Aside0 (Below w.heap.size w w'))
    case atStart => exact ⟨(t325), (0), Zz6, Zz6, H', ⟨Nat.le_refl _⟩, ⟨by repeat (first | (with_reducible first | exact HB.out | apply below_alloc | apply pw_below_drewN | apply below_drew1) | exact HB.out)⟩⟩
    case round =>
     clear H'
     try clear c1
     try clear p2
     try clear c5
     try clear c7
     try clear c8
     try clear c10
     try clear p2
     obtain ⟨x6_2, x7_2, rfl, rfl, HA, HK2, HB⟩ := hrel
     cases gk with
     | zero => exact absurd HA.out (by simp [tammylaw07_ExprBrackets.l0])
     | succ k2 =>
      have H := HA.out
      clear HA
      simp only [tammylaw07_ExprBrackets.l0] at H
      by_cases c13 : x7_2 < (wrap64 (Int.tmod a1 5))
      ·rw [if_pos c13] at H
       have c13b0 := decide_eq_true c13
       clear c13
       by_cases c14 : 1 + x6_2.size ≤ 9223372036854775807
       ·rw [if_pos c14] at H
        have c14b0 := eq_true c14
        have c14b1 := decide_eq_true c14
        try have c14b2 : (9223372036854775807 < 1 + x6_2.size) = False := eq_false (Nat.not_lt.2 c14)
        by_cases c15 : ((⟨#[40]⟩ : ByteArray) ++ x6_2).size + 1 ≤ 9223372036854775807
        ·rw [if_pos c15] at H
         have c15b0 := eq_true c15
         have c15b1 := decide_eq_true c15
         try have c15b2 : (9223372036854775807 < ((⟨#[40]⟩ : ByteArray) ++ x6_2).size + 1) = False := eq_false (Nat.not_lt.2 c15)
         try (have c15b3 := c15b2; simp only [ByteArray.size_append, show (⟨#[40]⟩ : ByteArray).size = 1 from rfl, show (⟨#[41]⟩ : ByteArray).size = 1 from rfl, show (⟨#[44]⟩ : ByteArray).size = 1 from rfl, show (⟨#[124]⟩ : ByteArray).size = 1 from rfl, show (⟨#[38]⟩ : ByteArray).size = 1 from rfl, show (⟨#[126]⟩ : ByteArray).size = 1 from rfl] at c15b3)
         have H' := Aside0.mk H
         clear H
         go_wp2
         go_roundg k2
         case measure => have := HJ3.out; have := HK2.out; omega
         case rel => exact ⟨(((⟨#[40]⟩ : ByteArray) ++ x6_2) ++ (⟨#[41]⟩ : ByteArray)), (wrap64 (x7_2 + 1)), Zz6, Zz6, H', ⟨by have := HJ3.out; have := HK2.out; omega⟩, ⟨by repeat (first | (with_reducible first | exact HB.out | apply below_alloc | apply pw_below_drewN | apply below_drew1) | exact HB.out)⟩⟩
        ·rw [if_neg c15] at H
         exact absurd H (by simp)
       ·rw [if_neg c14] at H
        exact absurd H (by simp)
      ·rw [if_neg c13] at H
       have c13b0 := decide_eq_false c13
       clear c13
       replace H := Option.bind_eq_some_iff.mp H
       obtain ⟨⟨t326, t327, t328⟩, A160, H⟩ := H
       replace H : (if t328 = 0 then ((expr_Read.f k2 t326 0).bind fun bt331 => (if t322 = true then (if bt331.2.2 = 0 then (if bt331.2.1 = (t326.length : Int) then ((tammyref07_Same.f k2 l0 bt331.1).bind fun t336 => (if t336 = true then (some true) else (some (bt331.2.2 == 7)))) else (some (bt331.2.2 == 7))) else (some (bt331.2.2 == 7))) else (none))) else (if (x6_2.size : Int) > 2000 then (some t322) else (none))) = some r := H
       have A16 := Aside0.mk A160
       clear A160
       by_cases c17 : t328 = 0
       ·rw [if_pos c17] at H
        have c17b0 := beq_iff_eq.mpr c17
        have c17b1 := bne_eq_false_iff_eq.mpr c17
        clear c17
        replace H := Option.bind_eq_some_iff.mp H
        obtain ⟨⟨t331, t332, t333⟩, A180, H⟩ := H
        replace H : (if t322 = true then (if t333 = 0 then (if t332 = (t326.length : Int) then ((tammyref07_Same.f k2 l0 t331).bind fun t336 => (if t336 = true then (some true) else (some (t333 == 7)))) else (some (t333 == 7))) else (some (t333 == 7))) else (none)) = some r := H
        have A18 := Aside0.mk A180
        clear A180
        by_cases c19 : t322 = true
        ·subst c19
         have H1 : (if t333 = 0 then (if t332 = (t326.length : Int) then ((tammyref07_Same.f k2 l0 t331).bind fun t336 => (if t336 = true then (some true) else (some (t333 == 7)))) else (some (t333 == 7))) else (some (t333 == 7))) = some r := by rw [if_pos rfl] at H; exact H
         clear H
         have H := H1
         clear H1
         by_cases c20 : t333 = 0
         ·rw [if_pos c20] at H
          have c20b0 := beq_iff_eq.mpr c20
          have c20b1 := bne_eq_false_iff_eq.mpr c20
          clear c20
          by_cases c21 : t332 = (t326.length : Int)
          ·rw [if_pos c21] at H
           have c21b0 := beq_iff_eq.mpr c21
           have c21b1 := bne_eq_false_iff_eq.mpr c21
           clear c21
           replace H := Option.bind_eq_some_iff.mp H
           obtain ⟨t336, A220, H⟩ := H
           replace H : (if t336 = true then (some true) else (some (t333 == 7))) = some r := H
           have A22 := Aside0.mk A220
           clear A220
           by_cases c23 : t336 = true
           ·subst c23
            have H1 : (some true) = some r := by rw [if_pos rfl] at H; exact H
            clear H
            have H := H1
            clear H1
            obtain rfl := Option.some.inj H
            go_wp2_with (first | ((with_reducible refine gate_callee (f := 12) rfl ?_); refine goesL_ (some 38) rfl rfl Tryz.func12 (by kernel_rfl) rfl #[.string x6_2] rfl Zz2 ?_; (with_reducible refine (tammyref06_Toks.calls k2 x6_2 t326 t327 t328 _ A16.out).mono ?_); rintro e w24 ⟨v329, rfl, ho0, hb⟩; refine ⟨_, rfl, ?_⟩; have n0_ := Aside0.mk (Kd.R_lower ho0 (below_size Zz0)); have n1_ := Aside0.mk (below_step Zz0 hb); clear HB; have HO330 := n0_; have HB := n1_; clear n0_ n1_; (try clear hb); (try clear hb2); (try clear hk); (try clear hi); (try clear ho0); obtain ⟨Ao25, co25, eo25⟩ := Kd.R_slice HO330.out; subst eo25) | ((with_reducible refine gate_callee (f := 14) rfl ?_); refine goesL_ (some 52) rfl rfl Tryz.func14 (by kernel_rfl) rfl #[.slice Ao25 t326.length co25, .int .i64 0] rfl Zz2 ?_; (with_reducible refine (expr_Read.calls k2 _ _ t326 0 t331 t332 t333 _ ?side1 ?side2 A18.out).mono ?_); (case side1 => repeat (first | exact (Kd.R_reads' HO330.out).2.2 | (with_reducible refine Kd.C_alloc ?_ _) | (with_reducible refine Kd.C_drewN ?_ _) | (with_reducible refine Kd.C_drew ?_))); (case side2 => exact (Kd.R_reads' HO330.out).2.1); rintro e w26 ⟨v334, rfl, ho0, hb⟩; refine ⟨_, rfl, ?_⟩; have n0_ := Aside0.mk (Kd.R_below (Zz31 HO330.out) hb); have n1_ := Aside0.mk (Kd.R_lower ho0 (below_size Zz0)); have n2_ := Aside0.mk (below_step Zz0 hb); clear HO330; clear HB; have HO330 := n0_; have HO335 := n1_; have HB := n2_; clear n0_ n1_ n2_; (try clear hb); (try clear hb2); (try clear hk); (try clear hi); (try clear ho0); obtain ⟨Ao27, co27, eo27⟩ := Kd.R_slice HO335.out; subst eo27) | (go_at_call 15; (with_reducible refine (tammyref07_Same.calls k2 _ _ l0 _ _ t331 true _ ?side1 ?side2 ?side3 ?side4 A22.out).mono ?_); (case side1 => repeat (first | exact (Kd.C_below HR0.out HB.out) | (with_reducible refine Kd.C_alloc ?_ _) | (with_reducible refine Kd.C_drewN ?_ _) | (with_reducible refine Kd.C_drew ?_))); (case side2 => exact HC0.out); (case side3 => repeat (first | exact (Kd.R_reads' HO335.out).2.2 | (with_reducible refine Kd.C_alloc ?_ _) | (with_reducible refine Kd.C_drewN ?_ _) | (with_reducible refine Kd.C_drew ?_))); (case side4 => exact (Kd.R_reads' HO335.out).2.1); rintro e w' ⟨rfl, ⟨nd, rfl⟩⟩))
            go_ret
            exact ⟨by first | rfl | (simp [errW_none, errW_some] <;> rfl) | (simp [*, errW_none, errW_some] <;> rfl), by repeat (first | (with_reducible first | exact HB.out | apply below_alloc | apply pw_below_drewN | apply below_drew1) | exact HB.out)⟩
           ·replace c23 := Bool.eq_false_iff.mpr c23
            subst c23
            have H1 : (some (t333 == 7)) = some r := by rw [if_neg (show ¬ (false = true) by decide)] at H; exact H
            clear H
            have H := H1
            clear H1
            obtain rfl := Option.some.inj H
            go_wp2_with (first | ((with_reducible refine gate_callee (f := 12) rfl ?_); refine goesL_ (some 38) rfl rfl Tryz.func12 (by kernel_rfl) rfl #[.string x6_2] rfl Zz2 ?_; (with_reducible refine (tammyref06_Toks.calls k2 x6_2 t326 t327 t328 _ A16.out).mono ?_); rintro e w28 ⟨v329, rfl, ho0, hb⟩; refine ⟨_, rfl, ?_⟩; have n0_ := Aside0.mk (Kd.R_lower ho0 (below_size Zz0)); have n1_ := Aside0.mk (below_step Zz0 hb); clear HB; have HO330 := n0_; have HB := n1_; clear n0_ n1_; (try clear hb); (try clear hb2); (try clear hk); (try clear hi); (try clear ho0); obtain ⟨Ao29, co29, eo29⟩ := Kd.R_slice HO330.out; subst eo29) | ((with_reducible refine gate_callee (f := 14) rfl ?_); refine goesL_ (some 52) rfl rfl Tryz.func14 (by kernel_rfl) rfl #[.slice Ao29 t326.length co29, .int .i64 0] rfl Zz2 ?_; (with_reducible refine (expr_Read.calls k2 _ _ t326 0 t331 t332 t333 _ ?side1 ?side2 A18.out).mono ?_); (case side1 => repeat (first | exact (Kd.R_reads' HO330.out).2.2 | (with_reducible refine Kd.C_alloc ?_ _) | (with_reducible refine Kd.C_drewN ?_ _) | (with_reducible refine Kd.C_drew ?_))); (case side2 => exact (Kd.R_reads' HO330.out).2.1); rintro e w30 ⟨v334, rfl, ho0, hb⟩; refine ⟨_, rfl, ?_⟩; have n0_ := Aside0.mk (Kd.R_below (Zz31 HO330.out) hb); have n1_ := Aside0.mk (Kd.R_lower ho0 (below_size Zz0)); have n2_ := Aside0.mk (below_step Zz0 hb); clear HO330; clear HB; have HO330 := n0_; have HO335 := n1_; have HB := n2_; clear n0_ n1_ n2_; (try clear hb); (try clear hb2); (try clear hk); (try clear hi); (try clear ho0); obtain ⟨Ao31, co31, eo31⟩ := Kd.R_slice HO335.out; subst eo31) | (go_at_call 15; (with_reducible refine (tammyref07_Same.calls k2 _ _ l0 _ _ t331 false _ ?side1 ?side2 ?side3 ?side4 A22.out).mono ?_); (case side1 => repeat (first | exact (Kd.C_below HR0.out HB.out) | (with_reducible refine Kd.C_alloc ?_ _) | (with_reducible refine Kd.C_drewN ?_ _) | (with_reducible refine Kd.C_drew ?_))); (case side2 => exact HC0.out); (case side3 => repeat (first | exact (Kd.R_reads' HO335.out).2.2 | (with_reducible refine Kd.C_alloc ?_ _) | (with_reducible refine Kd.C_drewN ?_ _) | (with_reducible refine Kd.C_drew ?_))); (case side4 => exact (Kd.R_reads' HO335.out).2.1); rintro e w' ⟨rfl, ⟨nd, rfl⟩⟩))
            go_ret
            exact ⟨by first | rfl | (simp [errW_none, errW_some] <;> rfl) | (simp [*, errW_none, errW_some] <;> rfl), by repeat (first | (with_reducible first | exact HB.out | apply below_alloc | apply pw_below_drewN | apply below_drew1) | exact HB.out)⟩
          ·rw [if_neg c21] at H
           have c21b0 := beq_eq_false_iff_ne.mpr c21
           have c21b1 := bne_iff_ne.mpr c21
           obtain rfl := Option.some.inj H
           go_wp2_with (first | ((with_reducible refine gate_callee (f := 12) rfl ?_); refine goesL_ (some 38) rfl rfl Tryz.func12 (by kernel_rfl) rfl #[.string x6_2] rfl Zz2 ?_; (with_reducible refine (tammyref06_Toks.calls k2 x6_2 t326 t327 t328 _ A16.out).mono ?_); rintro e w32 ⟨v329, rfl, ho0, hb⟩; refine ⟨_, rfl, ?_⟩; have n0_ := Aside0.mk (Kd.R_lower ho0 (below_size Zz0)); have n1_ := Aside0.mk (below_step Zz0 hb); clear HB; have HO330 := n0_; have HB := n1_; clear n0_ n1_; (try clear hb); (try clear hb2); (try clear hk); (try clear hi); (try clear ho0); obtain ⟨Ao33, co33, eo33⟩ := Kd.R_slice HO330.out; subst eo33) | ((with_reducible refine gate_callee (f := 14) rfl ?_); refine goesL_ (some 52) rfl rfl Tryz.func14 (by kernel_rfl) rfl #[.slice Ao33 t326.length co33, .int .i64 0] rfl Zz2 ?_; (with_reducible refine (expr_Read.calls k2 _ _ t326 0 t331 t332 t333 _ ?side1 ?side2 A18.out).mono ?_); (case side1 => repeat (first | exact (Kd.R_reads' HO330.out).2.2 | (with_reducible refine Kd.C_alloc ?_ _) | (with_reducible refine Kd.C_drewN ?_ _) | (with_reducible refine Kd.C_drew ?_))); (case side2 => exact (Kd.R_reads' HO330.out).2.1); rintro e w34 ⟨v334, rfl, ho0, hb⟩; refine ⟨_, rfl, ?_⟩; have n0_ := Aside0.mk (Kd.R_below (Zz31 HO330.out) hb); have n1_ := Aside0.mk (Kd.R_lower ho0 (below_size Zz0)); have n2_ := Aside0.mk (below_step Zz0 hb); clear HO330; clear HB; have HO330 := n0_; have HO335 := n1_; have HB := n2_; clear n0_ n1_ n2_; (try clear hb); (try clear hb2); (try clear hk); (try clear hi); (try clear ho0)))
           go_ret
           exact ⟨by first | rfl | (simp [errW_none, errW_some] <;> rfl) | (simp [*, errW_none, errW_some] <;> rfl), by repeat (first | (with_reducible first | exact HB.out | apply below_alloc | apply pw_below_drewN | apply below_drew1) | exact HB.out)⟩
         ·rw [if_neg c20] at H
          have c20b0 := beq_eq_false_iff_ne.mpr c20
          have c20b1 := bne_iff_ne.mpr c20
          obtain rfl := Option.some.inj H
          go_wp2_with (first | ((with_reducible refine gate_callee (f := 12) rfl ?_); refine goesL_ (some 38) rfl rfl Tryz.func12 (by kernel_rfl) rfl #[.string x6_2] rfl Zz2 ?_; (with_reducible refine (tammyref06_Toks.calls k2 x6_2 t326 t327 t328 _ A16.out).mono ?_); rintro e w35 ⟨v329, rfl, ho0, hb⟩; refine ⟨_, rfl, ?_⟩; have n0_ := Aside0.mk (Kd.R_lower ho0 (below_size Zz0)); have n1_ := Aside0.mk (below_step Zz0 hb); clear HB; have HO330 := n0_; have HB := n1_; clear n0_ n1_; (try clear hb); (try clear hb2); (try clear hk); (try clear hi); (try clear ho0); obtain ⟨Ao36, co36, eo36⟩ := Kd.R_slice HO330.out; subst eo36) | ((with_reducible refine gate_callee (f := 14) rfl ?_); refine goesL_ (some 52) rfl rfl Tryz.func14 (by kernel_rfl) rfl #[.slice Ao36 t326.length co36, .int .i64 0] rfl Zz2 ?_; (with_reducible refine (expr_Read.calls k2 _ _ t326 0 t331 t332 t333 _ ?side1 ?side2 A18.out).mono ?_); (case side1 => repeat (first | exact (Kd.R_reads' HO330.out).2.2 | (with_reducible refine Kd.C_alloc ?_ _) | (with_reducible refine Kd.C_drewN ?_ _) | (with_reducible refine Kd.C_drew ?_))); (case side2 => exact (Kd.R_reads' HO330.out).2.1); rintro e w37 ⟨v334, rfl, ho0, hb⟩; refine ⟨_, rfl, ?_⟩; have n0_ := Aside0.mk (Kd.R_below (Zz31 HO330.out) hb); have n1_ := Aside0.mk (Kd.R_lower ho0 (below_size Zz0)); have n2_ := Aside0.mk (below_step Zz0 hb); clear HO330; clear HB; have HO330 := n0_; have HO335 := n1_; have HB := n2_; clear n0_ n1_ n2_; (try clear hb); (try clear hb2); (try clear hk); (try clear hi); (try clear ho0)))
          go_ret
          exact ⟨by first | rfl | (simp [errW_none, errW_some] <;> rfl) | (simp [*, errW_none, errW_some] <;> rfl), by repeat (first | (with_reducible first | exact HB.out | apply below_alloc | apply pw_below_drewN | apply below_drew1) | exact HB.out)⟩
        ·replace c19 := Bool.eq_false_iff.mpr c19
         subst c19
         have H1 : (none) = some r := by rw [if_neg (show ¬ (false = true) by decide)] at H; exact H
         clear H
         have H := H1
         clear H1
         exact absurd H (by simp)
       ·rw [if_neg c17] at H
        have c17b0 := beq_eq_false_iff_ne.mpr c17
        have c17b1 := bne_iff_ne.mpr c17
        by_cases c38 : (x6_2.size : Int) > 2000
        ·rw [if_pos c38] at H
         have c38b0 : decide (2000 < (x6_2.size : Int)) = true := decide_eq_true c38
         have c38b1 : decide (2000 < x6_2.size) = true := decide_eq_true (by omega)
         clear c38
         obtain rfl := Option.some.inj H
         go_wp2_with (first | ((with_reducible refine gate_callee (f := 12) rfl ?_); refine goesL_ (some 38) rfl rfl Tryz.func12 (by kernel_rfl) rfl #[.string x6_2] rfl Zz2 ?_; (with_reducible refine (tammyref06_Toks.calls k2 x6_2 t326 t327 t328 _ A16.out).mono ?_); rintro e w39 ⟨v329, rfl, ho0, hb⟩; refine ⟨_, rfl, ?_⟩; have n0_ := Aside0.mk (Kd.R_lower ho0 (below_size Zz0)); have n1_ := Aside0.mk (below_step Zz0 hb); clear HB; have HO330 := n0_; have HB := n1_; clear n0_ n1_; (try clear hb); (try clear hb2); (try clear hk); (try clear hi); (try clear ho0)))
         go_ret
         exact ⟨by first | rfl | (simp [errW_none, errW_some] <;> rfl) | (simp [*, errW_none, errW_some] <;> rfl), by repeat (first | (with_reducible first | exact HB.out | apply below_alloc | apply pw_below_drewN | apply below_drew1) | exact HB.out)⟩
        ·rw [if_neg c38] at H
         exact absurd H (by simp)
end Go.Proofs.YtniaooodlccmcaaGreatDoor.Q

