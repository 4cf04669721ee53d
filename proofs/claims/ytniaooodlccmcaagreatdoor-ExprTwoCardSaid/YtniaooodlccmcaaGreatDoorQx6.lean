import Derived.Test.YtniaooodlccmcaaGreatDoorDz
import Derived.Test.YtniaooodlccmcaaGreatDoorQx0
import Derived.Test.YtniaooodlccmcaaGreatDoorQx5
namespace Go.Proofs.YtniaooodlccmcaaGreatDoor.Q
open Go.RowKit Go.Proofs.YtniaooodlccmcaaGreatDoorW.PrintWords Go.Proofs.YtniaooodlccmcaaGreatDoorW.PrintLast Go.Proofs.YtniaooodlccmcaaGreatDoorW.PrintMore
attribute [local go_sem] max2_int min2_int max_two min_two max_three min_three max_four min_four
set_option linter.unusedVariables false
set_option linter.unusedSimpArgs false
mutual
def tammyref06_token.l0 : Nat → ByteArray → Int → Option (Int × Int)
 | 0, _, _ => none
 | k + 1, x0, x6 => if x6 < (x0.size : Int) then (if 0 ≤ x6 then ((tammyref06_letter.f (bt x0 x6)).bind fun t133 => (if t133 = true then (tammyref06_token.l0 k x0 (wrap64 (x6 + 1))) else ((tammyref06_figure.f (bt x0 x6)).bind fun t134 => (if t134 = true then (tammyref06_token.l0 k x0 (wrap64 (x6 + 1))) else (if (bt x0 x6) = 95 then (tammyref06_token.l0 k x0 (wrap64 (x6 + 1))) else (some (1, x6))))))) else (none)) else (some (1, x6))
def tammyref06_token.j1 : Nat → ByteArray → Int → Int → Bool → Option (Int × Int)
 | 0, _, _, _, _ => none
 | k + 1, x0, x1, x6, x52 => if x52 = true then (tammyref06_token.l1 k x0 x1 x6) else (if x6 < (x0.size : Int) then (if 0 ≤ x6 then (if (bt x0 x6) = 61 then (if 0 ≤ x1 then (if x1 < (x0.size : Int) then (if (bt x0 x1) = 60 then (tammyref06_token.j3 k x0 x1 x6 true) else (tammyref06_token.j3 k x0 x1 x6 ((bt x0 x1) == 58))) else (none)) else (none)) else (tammyref06_token.j3 k x0 x1 x6 false)) else (none)) else (tammyref06_token.j3 k x0 x1 x6 false))
def tammyref06_token.l1 : Nat → ByteArray → Int → Int → Option (Int × Int)
 | 0, _, _, _ => none
 | k + 1, x0, x1, x6 => if x6 < (x0.size : Int) then (if 0 ≤ x6 then (if (bt x0 x6) ≥ 48 then (if (bt x0 x6) ≤ 57 then (tammyref06_token.l1 k x0 x1 (wrap64 (x6 + 1))) else (if 0 ≤ x1 then (if x1 ≤ x6 then (if x6 ≤ (x0.size : Int) then ((tammyref06_Number.f k (x0.extract (x1 : Int).toNat (x6 : Int).toNat)).bind fun bt135 => (if bt135.2 = true then (some (2, x6)) else (some (0, x1)))) else (none)) else (none)) else (none))) else (if 0 ≤ x1 then (if x1 ≤ x6 then (if x6 ≤ (x0.size : Int) then ((tammyref06_Number.f k (x0.extract (x1 : Int).toNat (x6 : Int).toNat)).bind fun bt137 => (if bt137.2 = true then (some (2, x6)) else (some (0, x1)))) else (none)) else (none)) else (none))) else (none)) else (if 0 ≤ x1 then (if x1 ≤ x6 then (if x6 ≤ (x0.size : Int) then ((tammyref06_Number.f k (x0.extract (x1 : Int).toNat (x6 : Int).toNat)).bind fun bt139 => (if bt139.2 = true then (some (2, x6)) else (some (0, x1)))) else (none)) else (none)) else (none))
def tammyref06_token.j3 : Nat → ByteArray → Int → Int → Bool → Option (Int × Int)
 | 0, _, _, _, _ => none
 | k + 1, x0, x1, x6, x104 => if x104 = true then (some (3, wrap64 (x1 + 2))) else (if 0 ≤ x1 then (if x1 < (x0.size : Int) then ((tammyref06_sign.f k (bt x0 x1)).bind fun t141 => (if t141 = true then (some (3, x6)) else (some (0, x1)))) else (none)) else (none))
end
def tammyref06_token.f (k : Nat) (a0 : ByteArray) (a1 : Int) : Option (Int × Int) := if 0 ≤ a1 then (if a1 < (a0.size : Int) then ((tammyref06_letter.f (bt a0 a1)).bind fun t132 => (if t132 = true then (tammyref06_token.l0 k a0 (wrap64 (a1 + 1))) else (if (bt a0 a1) ≥ 48 then (tammyref06_token.j1 k a0 a1 (wrap64 (a1 + 1)) (decide ((bt a0 a1) ≤ 57))) else (tammyref06_token.j1 k a0 a1 (wrap64 (a1 + 1)) false)))) else (none)) else (none)
theorem tammyref06_token.mono_l : ∀ k, (∀ y0 y1, LeO (tammyref06_token.l0 k y0 y1) (tammyref06_token.l0 (k + 1) y0 y1)) ∧ (∀ y0 y1 y2 y3, LeO (tammyref06_token.j1 k y0 y1 y2 y3) (tammyref06_token.j1 (k + 1) y0 y1 y2 y3)) ∧ (∀ y0 y1 y2, LeO (tammyref06_token.l1 k y0 y1 y2) (tammyref06_token.l1 (k + 1) y0 y1 y2)) ∧ (∀ y0 y1 y2 y3, LeO (tammyref06_token.j3 k y0 y1 y2 y3) (tammyref06_token.j3 (k + 1) y0 y1 y2 y3))
 | 0 => ⟨fun _ _ r h => by simp [tammyref06_token.l0] at h, fun _ _ _ _ r h => by simp [tammyref06_token.j1] at h, fun _ _ _ r h => by simp [tammyref06_token.l1] at h, fun _ _ _ _ r h => by simp [tammyref06_token.j3] at h⟩
 | k + 1 => by
  obtain ⟨ih0, ih1, ih2, ih3⟩ := tammyref06_token.mono_l k
  refine ⟨?_, ?_, ?_, ?_⟩
  ·intro y0 y1
   unfold tammyref06_token.l0
   repeat' first
   | (with_reducible exact ih0 _ _)
   | (with_reducible exact ih1 _ _ _ _)
   | (with_reducible exact ih2 _ _ _)
   | (with_reducible exact ih3 _ _ _ _)
   | (with_reducible exact tammyref06_Number.mono _ _)
   | (with_reducible exact tammyref06_sign.mono _ _)
   | (with_reducible exact LeO.refl _)
   | (with_reducible exact LeO.none _)
   | (with_reducible refine LeO.ite ?_ ?_)
   | (with_reducible refine LeO.bind ?_ (fun _ => ?_))
   | exact ih0 _ _
   | exact ih1 _ _ _ _
   | exact ih2 _ _ _
   | exact ih3 _ _ _ _
   | exact tammyref06_Number.mono _ _
   | exact tammyref06_sign.mono _ _
   | exact LeO.none _
   | refine LeO.ite ?_ ?_
   | refine LeO.bind ?_ (fun _ => ?_)
  ·intro y0 y1 y2 y3
   unfold tammyref06_token.j1
   repeat' first
   | (with_reducible exact ih0 _ _)
   | (with_reducible exact ih1 _ _ _ _)
   | (with_reducible exact ih2 _ _ _)
   | (with_reducible exact ih3 _ _ _ _)
   | (with_reducible exact tammyref06_Number.mono _ _)
   | (with_reducible exact tammyref06_sign.mono _ _)
   | (with_reducible exact LeO.refl _)
   | (with_reducible exact LeO.none _)
   | (with_reducible refine LeO.ite ?_ ?_)
   | (with_reducible refine LeO.bind ?_ (fun _ => ?_))
   | exact ih0 _ _
   | exact ih1 _ _ _ _
   | exact ih2 _ _ _
   | exact ih3 _ _ _ _
   | exact tammyref06_Number.mono _ _
   | exact tammyref06_sign.mono _ _
   | exact LeO.none _
   | refine LeO.ite ?_ ?_
   | refine LeO.bind ?_ (fun _ => ?_)
  ·intro y0 y1 y2
   unfold tammyref06_token.l1
   repeat' first
   | (with_reducible exact ih0 _ _)
   | (with_reducible exact ih1 _ _ _ _)
   | (with_reducible exact ih2 _ _ _)
   | (with_reducible exact ih3 _ _ _ _)
   | (with_reducible exact tammyref06_Number.mono _ _)
   | (with_reducible exact tammyref06_sign.mono _ _)
   | (with_reducible exact LeO.refl _)
   | (with_reducible exact LeO.none _)
   | (with_reducible refine LeO.ite ?_ ?_)
   | (with_reducible refine LeO.bind ?_ (fun _ => ?_))
   | exact ih0 _ _
   | exact ih1 _ _ _ _
   | exact ih2 _ _ _
   | exact ih3 _ _ _ _
   | exact tammyref06_Number.mono _ _
   | exact tammyref06_sign.mono _ _
   | exact LeO.none _
   | refine LeO.ite ?_ ?_
   | refine LeO.bind ?_ (fun _ => ?_)
  ·intro y0 y1 y2 y3
   unfold tammyref06_token.j3
   repeat' first
   | (with_reducible exact ih0 _ _)
   | (with_reducible exact ih1 _ _ _ _)
   | (with_reducible exact ih2 _ _ _)
   | (with_reducible exact ih3 _ _ _ _)
   | (with_reducible exact tammyref06_Number.mono _ _)
   | (with_reducible exact tammyref06_sign.mono _ _)
   | (with_reducible exact LeO.refl _)
   | (with_reducible exact LeO.none _)
   | (with_reducible refine LeO.ite ?_ ?_)
   | (with_reducible refine LeO.bind ?_ (fun _ => ?_))
   | exact ih0 _ _
   | exact ih1 _ _ _ _
   | exact ih2 _ _ _
   | exact ih3 _ _ _ _
   | exact tammyref06_Number.mono _ _
   | exact tammyref06_sign.mono _ _
   | exact LeO.none _
   | refine LeO.ite ?_ ?_
   | refine LeO.bind ?_ (fun _ => ?_)
theorem tammyref06_token.mono : ∀ a0 a1 k, LeO (tammyref06_token.f k a0 a1) (tammyref06_token.f (k + 1) a0 a1) := by
 intro a0 a1 k
 obtain ⟨ih0, ih1, ih2, ih3⟩ := tammyref06_token.mono_l k
 unfold tammyref06_token.f
 repeat' first
   | (with_reducible exact ih0 _ _)
   | (with_reducible exact ih1 _ _ _ _)
   | (with_reducible exact ih2 _ _ _)
   | (with_reducible exact ih3 _ _ _ _)
   | (with_reducible exact tammyref06_Number.mono _ _)
   | (with_reducible exact tammyref06_sign.mono _ _)
   | (with_reducible exact LeO.refl _)
   | (with_reducible exact LeO.none _)
   | (with_reducible refine LeO.ite ?_ ?_)
   | (with_reducible refine LeO.bind ?_ (fun _ => ?_))
   | exact ih0 _ _
   | exact ih1 _ _ _ _
   | exact ih2 _ _ _
   | exact ih3 _ _ _ _
   | exact tammyref06_Number.mono _ _
   | exact tammyref06_sign.mono _ _
   | exact LeO.none _
   | refine LeO.ite ?_ ?_
   | refine LeO.bind ?_ (fun _ => ?_)
set_option maxHeartbeats 8000000 in
set_option maxRecDepth 100000 in
theorem tammyref06_token.calls (k : Nat) (a0 : ByteArray) (a1 : Int) (r1 : Int) (r2 : Int) (w : World) (h : tammyref06_token.f k a0 a1 = some (r1, r2)) :
  Calls Tryz.prog 23 #[.string a0, .int .i64 a1] w fun e w' => e = .returned (.tuple #[.int .i64 r1, .int .i64 r2]) ∧ Drawn0 w w' := by
 have H : (if 0 ≤ a1 then (if a1 < (a0.size : Int) then ((tammyref06_letter.f (bt a0 a1)).bind fun t132 => (if t132 = true then (tammyref06_token.l0 k a0 (wrap64 (a1 + 1))) else (if (bt a0 a1) ≥ 48 then (tammyref06_token.j1 k a0 a1 (wrap64 (a1 + 1)) (decide ((bt a0 a1) ≤ 57))) else (tammyref06_token.j1 k a0 a1 (wrap64 (a1 + 1)) false)))) else (none)) else (none)) = some (r1, r2) := h
 clear h
 by_cases c3 : 0 ≤ a1
 ·rw [if_pos c3] at H
  have c3b0 := decide_eq_true c3
  clear c3
  by_cases c4 : a1 < (a0.size : Int)
  ·rw [if_pos c4] at H
   have c4b0 := decide_eq_true c4
   clear c4
   replace H := Option.bind_eq_some_iff.mp H
   obtain ⟨t132, A60, H⟩ := H
   replace H : (if t132 = true then (tammyref06_token.l0 k a0 (wrap64 (a1 + 1))) else (if (bt a0 a1) ≥ 48 then (tammyref06_token.j1 k a0 a1 (wrap64 (a1 + 1)) (decide ((bt a0 a1) ≤ 57))) else (tammyref06_token.j1 k a0 a1 (wrap64 (a1 + 1)) false))) = some (r1, r2) := H
   have A6 := Aside0.mk A60
   clear A60
   by_cases c7 : t132 = true
   ·subst c7
    have H1 : (tammyref06_token.l0 k a0 (wrap64 (a1 + 1))) = some (r1, r2) := by rw [if_pos rfl] at H; exact H
    clear H
    have H := H1
    clear H1
    have H' := Aside0.mk H
    clear H
    have p5 : 0 ≤ (a1 : Int) := of_decide_eq_true Zz1
    have q5 : a1 < (a0.size : Int) := of_decide_eq_true Zz1
    have hx5 := bt_at a0 a1
    replace p5 := eq_true p5
    replace q5 := eq_true q5
    go_enter Tryz.func23, Tryz.ntmps23
    go_wp2_with (first | ((with_reducible refine gate_callee (f := 41) rfl ?_); refine goesL_ (some 16) rfl rfl Tryz.func41 (by kernel_rfl) rfl #[.int .u8 (bt a0 a1)] rfl Zz2 ?_; (with_reducible refine (tammyref06_letter.calls (bt a0 a1) true _ A6.out).mono ?_); rintro e w' ⟨rfl, ⟨nd, rfl⟩⟩; refine ⟨_, rfl, ?_⟩))
    go_loopg [6] k (fun kq v6 w' => ∃ (x6_1 : Int), v6 = .int .i64 x6_1 ∧ Aside0 (tammyref06_token.l0 kq a0 x6_1 = some (r1, r2)) ∧ Aside0 (kq ≤ k) ∧ Drawn0 w w')
    case atStart => exact ⟨(wrap64 (a1 + 1)), Zz6, H', ⟨Nat.le_refl _⟩, by repeat (first | exact Drawn0.refl _ | apply Drawn0.step)⟩
    case round =>
     clear H'
     try clear c2
     try clear p2
     try clear c3
     try clear c3b0
     try clear c4
     try clear c4b0
     try clear p5
     try clear q5
     try clear hx5
     try clear p6
     try clear c7
     try clear p5
     try clear q5
     obtain ⟨x6_1, rfl, HA, HK1, ⟨m1, rfl⟩⟩ := hrel
     cases gk with
     | zero => exact absurd HA.out (by simp [tammyref06_token.l0])
     | succ k1 =>
      have H := HA.out
      clear HA
      simp only [tammyref06_token.l0] at H
      by_cases c8 : x6_1 < (a0.size : Int)
      ·rw [if_pos c8] at H
       have c8b0 := decide_eq_true c8
       clear c8
       by_cases c9 : 0 ≤ x6_1
       ·rw [if_pos c9] at H
        have c9b0 := decide_eq_true c9
        clear c9
        replace H := Option.bind_eq_some_iff.mp H
        obtain ⟨t133, A110, H⟩ := H
        replace H : (if t133 = true then (tammyref06_token.l0 k1 a0 (wrap64 (x6_1 + 1))) else ((tammyref06_figure.f (bt a0 x6_1)).bind fun t134 => (if t134 = true then (tammyref06_token.l0 k1 a0 (wrap64 (x6_1 + 1))) else (if (bt a0 x6_1) = 95 then (tammyref06_token.l0 k1 a0 (wrap64 (x6_1 + 1))) else (some (1, x6_1)))))) = some (r1, r2) := H
        have A11 := Aside0.mk A110
        clear A110
        by_cases c12 : t133 = true
        ·subst c12
         have H1 : (tammyref06_token.l0 k1 a0 (wrap64 (x6_1 + 1))) = some (r1, r2) := by rw [if_pos rfl] at H; exact H
         clear H
         have H := H1
         clear H1
         have H' := Aside0.mk H
         clear H
         have p10 : 0 ≤ (x6_1 : Int) := of_decide_eq_true Zz1
         have q10 : x6_1 < (a0.size : Int) := of_decide_eq_true Zz1
         have hx10 := bt_at a0 x6_1
         replace p10 := eq_true p10
         replace q10 := eq_true q10
         go_wp2_with (first | (go_at_call 41; (with_reducible refine (tammyref06_letter.calls (bt a0 x6_1) true _ A11.out).mono ?_); rintro e w' ⟨rfl, ⟨nd, rfl⟩⟩))
         go_roundg k1
         case measure => have := HK1.out; omega
         case rel => exact ⟨(wrap64 (x6_1 + 1)), Zz6, H', ⟨by have := HK1.out; omega⟩, by repeat (first | exact Drawn0.refl _ | apply Drawn0.step)⟩
        ·replace c12 := Bool.eq_false_iff.mpr c12
         subst c12
         have H1 : ((tammyref06_figure.f (bt a0 x6_1)).bind fun t134 => (if t134 = true then (tammyref06_token.l0 k1 a0 (wrap64 (x6_1 + 1))) else (if (bt a0 x6_1) = 95 then (tammyref06_token.l0 k1 a0 (wrap64 (x6_1 + 1))) else (some (1, x6_1))))) = some (r1, r2) := by rw [if_neg (show ¬ (false = true) by decide)] at H; exact H
         clear H
         have H := H1
         clear H1
         replace H := Option.bind_eq_some_iff.mp H
         obtain ⟨t134, A140, H⟩ := H
         replace H : (if t134 = true then (tammyref06_token.l0 k1 a0 (wrap64 (x6_1 + 1))) else (if (bt a0 x6_1) = 95 then (tammyref06_token.l0 k1 a0 (wrap64 (x6_1 + 1))) else (some (1, x6_1)))) = some (r1, r2) := H
         have A14 := Aside0.mk A140
         clear A140
         by_cases c15 : t134 = true
         ·subst c15
          have H1 : (tammyref06_token.l0 k1 a0 (wrap64 (x6_1 + 1))) = some (r1, r2) := by rw [if_pos rfl] at H; exact H
          clear H
          have H := H1
          clear H1
          have H' := Aside0.mk H
          clear H
          have p10 : 0 ≤ (x6_1 : Int) := of_decide_eq_true Zz1
          have q10 : x6_1 < (a0.size : Int) := of_decide_eq_true Zz1
          have hx10 := bt_at a0 x6_1
          replace p10 := eq_true p10
          replace q10 := eq_true q10
          go_wp2_with (first | (go_at_call 41; (with_reducible refine (tammyref06_letter.calls (bt a0 x6_1) false _ A11.out).mono ?_); rintro e w' ⟨rfl, ⟨nd, rfl⟩⟩; have p13 : 0 ≤ (x6_1 : Int) := of_decide_eq_true Zz1; have q13 : x6_1 < (a0.size : Int) := of_decide_eq_true Zz1; have hx13 := bt_at a0 x6_1; replace p13 := eq_true p13; replace q13 := eq_true q13) | (go_at_call 42; (with_reducible refine (tammyref06_figure.calls (bt a0 x6_1) true _ A14.out).mono ?_); rintro e w' ⟨rfl, ⟨nd, rfl⟩⟩))
          go_roundg k1
          case measure => have := HK1.out; omega
          case rel => exact ⟨(wrap64 (x6_1 + 1)), Zz6, H', ⟨by have := HK1.out; omega⟩, by repeat (first | exact Drawn0.refl _ | apply Drawn0.step)⟩
         ·replace c15 := Bool.eq_false_iff.mpr c15
          subst c15
          have H1 : (if (bt a0 x6_1) = 95 then (tammyref06_token.l0 k1 a0 (wrap64 (x6_1 + 1))) else (some (1, x6_1))) = some (r1, r2) := by rw [if_neg (show ¬ (false = true) by decide)] at H; exact H
          clear H
          have H := H1
          clear H1
          by_cases c17 : (bt a0 x6_1) = 95
          ·rw [if_pos c17] at H
           have c17b0 := beq_iff_eq.mpr c17
           have c17b1 := bne_eq_false_iff_eq.mpr c17
           clear c17
           have H' := Aside0.mk H
           clear H
           have p10 : 0 ≤ (x6_1 : Int) := of_decide_eq_true Zz1
           have q10 : x6_1 < (a0.size : Int) := of_decide_eq_true Zz1
           have hx10 := bt_at a0 x6_1
           replace p10 := eq_true p10
           replace q10 := eq_true q10
           go_wp2_with (first | (go_at_call 41; (with_reducible refine (tammyref06_letter.calls (bt a0 x6_1) false _ A11.out).mono ?_); rintro e w' ⟨rfl, ⟨nd, rfl⟩⟩; have p13 : 0 ≤ (x6_1 : Int) := of_decide_eq_true Zz1; have q13 : x6_1 < (a0.size : Int) := of_decide_eq_true Zz1; have hx13 := bt_at a0 x6_1; replace p13 := eq_true p13; replace q13 := eq_true q13) | (go_at_call 42; (with_reducible refine (tammyref06_figure.calls (bt a0 x6_1) false _ A14.out).mono ?_); rintro e w' ⟨rfl, ⟨nd, rfl⟩⟩; have p16 : 0 ≤ (x6_1 : Int) := of_decide_eq_true Zz1; have q16 : x6_1 < (a0.size : Int) := of_decide_eq_true Zz1; have hx16 := bt_at a0 x6_1; replace p16 := eq_true p16; replace q16 := eq_true q16))
           go_roundg k1
           case measure => have := HK1.out; omega
           case rel => exact ⟨(wrap64 (x6_1 + 1)), Zz6, H', ⟨by have := HK1.out; omega⟩, by repeat (first | exact Drawn0.refl _ | apply Drawn0.step)⟩
          ·rw [if_neg c17] at H
           have c17b0 := beq_eq_false_iff_ne.mpr c17
           have c17b1 := bne_iff_ne.mpr c17
           simp only [Option.some.injEq, Prod.mk.injEq] at H
           obtain ⟨rfl, rfl⟩ := H
           have p10 : 0 ≤ (x6_1 : Int) := of_decide_eq_true Zz1
           have q10 : x6_1 < (a0.size : Int) := of_decide_eq_true Zz1
           have hx10 := bt_at a0 x6_1
           replace p10 := eq_true p10
           replace q10 := eq_true q10
           go_wp2_with (first | (go_at_call 41; (with_reducible refine (tammyref06_letter.calls (bt a0 x6_1) false _ A11.out).mono ?_); rintro e w' ⟨rfl, ⟨nd, rfl⟩⟩; have p13 : 0 ≤ (x6_1 : Int) := of_decide_eq_true Zz1; have q13 : x6_1 < (a0.size : Int) := of_decide_eq_true Zz1; have hx13 := bt_at a0 x6_1; replace p13 := eq_true p13; replace q13 := eq_true q13) | (go_at_call 42; (with_reducible refine (tammyref06_figure.calls (bt a0 x6_1) false _ A14.out).mono ?_); rintro e w' ⟨rfl, ⟨nd, rfl⟩⟩; have p16 : 0 ≤ (x6_1 : Int) := of_decide_eq_true Zz1; have q16 : x6_1 < (a0.size : Int) := of_decide_eq_true Zz1; have hx16 := bt_at a0 x6_1; replace p16 := eq_true p16; replace q16 := eq_true q16))
           go_ret2
           exact ⟨by first | rfl | (simp; done) | (simp [*]; done), by repeat (first | exact Drawn0.refl _ | apply Drawn0.step)⟩
       ·rw [if_neg c9] at H
        exact absurd H (by simp)
      ·rw [if_neg c8] at H
       have c8b0 := decide_eq_false c8
       clear c8
       simp only [Option.some.injEq, Prod.mk.injEq] at H
       obtain ⟨rfl, rfl⟩ := H
       go_wp2
       go_ret2
       exact ⟨by first | rfl | (simp; done) | (simp [*]; done), by repeat (first | exact Drawn0.refl _ | apply Drawn0.step)⟩
   ·replace c7 := Bool.eq_false_iff.mpr c7
    subst c7
    have H1 : (if (bt a0 a1) ≥ 48 then (tammyref06_token.j1 k a0 a1 (wrap64 (a1 + 1)) (decide ((bt a0 a1) ≤ 57))) else (tammyref06_token.j1 k a0 a1 (wrap64 (a1 + 1)) false)) = some (r1, r2) := by rw [if_neg (show ¬ (false = true) by decide)] at H; exact H
    clear H
    have H := H1
    clear H1
    have HC18 := Aside0.mk H
    clear H
    have p5 : 0 ≤ (a1 : Int) := of_decide_eq_true Zz1
    have q5 : a1 < (a0.size : Int) := of_decide_eq_true Zz1
    have hx5 := bt_at a0 a1
    replace p5 := eq_true p5
    replace q5 := eq_true q5
    go_enter Tryz.func23, Tryz.ntmps23
    go_upto_region 7 with (first | ((with_reducible refine gate_callee (f := 41) rfl ?_); refine goesL_ (some 16) rfl rfl Tryz.func41 (by kernel_rfl) rfl #[.int .u8 (bt a0 a1)] rfl Zz2 ?_; (with_reducible refine (tammyref06_letter.calls (bt a0 a1) false _ A6.out).mono ?_); rintro e w' ⟨rfl, ⟨nd, rfl⟩⟩; refine ⟨_, rfl, ?_⟩))
    (try simp only [Act.put, List.setIfInBounds_toArray, List.set_cons_zero, List.set_cons_succ])
    go_cut [52] (fun v52 wc => ∃ (kq : Nat) (x52_17 : Bool), v52 = .bool x52_17 ∧ Aside0 (tammyref06_token.j1 kq a0 a1 (wrap64 (a1 + 1)) x52_17 = some (r1, r2)) ∧ Aside0 (kq ≤ k) ∧ Drawn0 w wc)
    case first =>
     have H := HC18.out
     clear HC18
     by_cases c20 : (bt a0 a1) ≥ 48
     ·rw [if_pos c20] at H
      have c20b0 : decide (48 ≤ (bt a0 a1)) = true := decide_eq_true c20
      clear c20
      (first | rw [c20b0] | (simp only [i64_w, i32_w]; rw [c20b0]) | skip)
      have H' := Aside0.mk H
      clear H
      have p19 : 0 ≤ (a1 : Int) := of_decide_eq_true Zz1
      have q19 : a1 < (a0.size : Int) := of_decide_eq_true Zz1
      have hx19 := bt_at a0 a1
      replace p19 := eq_true p19
      replace q19 := eq_true q19
      have p21 : 0 ≤ (a1 : Int) := of_decide_eq_true Zz1
      have q21 : a1 < (a0.size : Int) := of_decide_eq_true Zz1
      have hx21 := bt_at a0 a1
      replace p21 := eq_true p21
      replace q21 := eq_true q21
      go_wp2
      (try rw [← hji46] at H')
      go_meet
      case rel => exact ⟨_, (decide ((bt a0 a1) ≤ 57)), Zz6, H', ⟨by first | omega | exact Nat.le_refl _⟩, by repeat (first | exact Drawn0.refl _ | apply Drawn0.step)⟩
     ·rw [if_neg c20] at H
      have c20b0 : decide (48 ≤ (bt a0 a1)) = false := decide_eq_false c20
      clear c20
      (first | rw [c20b0] | (simp only [i64_w, i32_w]; rw [c20b0]) | skip)
      have H' := Aside0.mk H
      clear H
      have p19 : 0 ≤ (a1 : Int) := of_decide_eq_true Zz1
      have q19 : a1 < (a0.size : Int) := of_decide_eq_true Zz1
      have hx19 := bt_at a0 a1
      replace p19 := eq_true p19
      replace q19 := eq_true q19
      go_wp2
      (try rw [← hji46] at H')
      go_meet
      case rel => exact ⟨_, (false), Zz6, H', ⟨by first | omega | exact Nat.le_refl _⟩, by repeat (first | exact Drawn0.refl _ | apply Drawn0.step)⟩
    case rest =>
     clear HC18
     try clear c1
     try clear p1
     try clear q1
     try clear hx1
     try clear c2
     try clear p2
     try clear q2
     try clear hx2
     try clear c3
     try clear c3b0
     try clear c4
     try clear c4b0
     try clear p5
     try clear q5
     try clear hx5
     try clear p6
     try clear c7
     try clear c8
     try clear c8b0
     try clear c9
     try clear c9b0
     try clear p10
     try clear q10
     try clear hx10
     try clear c12
     try clear p13
     try clear q13
     try clear hx13
     try clear c15
     try clear p16
     try clear q16
     try clear hx16
     try clear c17
     try clear c17b0
     try clear c17b1
     try clear p19
     try clear q19
     try clear hx19
     try clear c20
     try clear c20b0
     try clear p21
     try clear q21
     try clear hx21
     try clear p10
     try clear p13
     try clear p16
     try clear p19
     try clear p2
     try clear p21
     try clear p5
     try clear p6
     try clear q10
     try clear q13
     try clear q16
     try clear q19
     try clear q21
     try clear q5
     obtain ⟨kq, x52_17, rfl, HA, HJ17, ⟨mc17, rfl⟩⟩ := hcut
     cases kq with
     | zero => exact absurd HA.out (by simp [tammyref06_token.j1])
     | succ kj17 =>
      have H := HA.out
      clear HA
      simp only [tammyref06_token.j1] at H
      by_cases c22 : x52_17 = true
      ·subst c22
       have H1 : (tammyref06_token.l1 kj17 a0 a1 (wrap64 (a1 + 1))) = some (r1, r2) := by rw [if_pos rfl] at H; exact H
       clear H
       have H := H1
       clear H1
       have H' := Aside0.mk H
       clear H
       go_wp2
       go_loopg [6] kj17 (fun kq v6 w' => ∃ (x6_2 : Int), v6 = .int .i64 x6_2 ∧ Aside0 (tammyref06_token.l1 kq a0 a1 x6_2 = some (r1, r2)) ∧ Aside0 (kq ≤ kj17) ∧ Drawn0 w w')
       case atStart => exact ⟨((wrap64 (a1 + 1))), Zz6, H', ⟨Nat.le_refl _⟩, by repeat (first | exact Drawn0.refl _ | apply Drawn0.step)⟩
       case round =>
        clear H'
        try clear c1
        try clear p1
        try clear q1
        try clear hx1
        try clear c2
        try clear p2
        try clear q2
        try clear hx2
        try clear c3
        try clear c3b0
        try clear c4
        try clear c4b0
        try clear p5
        try clear q5
        try clear hx5
        try clear p6
        try clear c7
        try clear c8
        try clear c8b0
        try clear c9
        try clear c9b0
        try clear p10
        try clear q10
        try clear hx10
        try clear c12
        try clear p13
        try clear q13
        try clear hx13
        try clear c15
        try clear p16
        try clear q16
        try clear hx16
        try clear c17
        try clear c17b0
        try clear c17b1
        try clear p19
        try clear q19
        try clear hx19
        try clear c20
        try clear c20b0
        try clear p21
        try clear q21
        try clear hx21
        try clear c22
        try clear p1
        try clear p10
        try clear p13
        try clear p16
        try clear p19
        try clear p2
        try clear p21
        try clear p5
        try clear p6
        try clear q1
        try clear q10
        try clear q13
        try clear q16
        try clear q19
        try clear q2
        try clear q21
        try clear q5
        obtain ⟨x6_2, rfl, HA, HK2, ⟨m2, rfl⟩⟩ := hrel
        cases gk with
        | zero => exact absurd HA.out (by simp [tammyref06_token.l1])
        | succ k2 =>
         have H := HA.out
         clear HA
         simp only [tammyref06_token.l1] at H
         by_cases c23 : x6_2 < (a0.size : Int)
         ·rw [if_pos c23] at H
          have c23b0 := decide_eq_true c23
          clear c23
          by_cases c24 : 0 ≤ x6_2
          ·rw [if_pos c24] at H
           have c24b0 := decide_eq_true c24
           clear c24
           by_cases c26 : (bt a0 x6_2) ≥ 48
           ·rw [if_pos c26] at H
            have c26b0 : decide (48 ≤ (bt a0 x6_2)) = true := decide_eq_true c26
            clear c26
            by_cases c28 : (bt a0 x6_2) ≤ 57
            ·rw [if_pos c28] at H
             have c28b0 := decide_eq_true c28
             clear c28
             have H' := Aside0.mk H
             clear H
             have p25 : 0 ≤ (x6_2 : Int) := of_decide_eq_true Zz1
             have q25 : x6_2 < (a0.size : Int) := of_decide_eq_true Zz1
             have hx25 := bt_at a0 x6_2
             replace p25 := eq_true p25
             replace q25 := eq_true q25
             have p27 : 0 ≤ (x6_2 : Int) := of_decide_eq_true Zz1
             have q27 : x6_2 < (a0.size : Int) := of_decide_eq_true Zz1
             have hx27 := bt_at a0 x6_2
             replace p27 := eq_true p27
             replace q27 := eq_true q27
             go_wp2
             go_roundg k2
             case measure => have := HJ17.out; have := HK2.out; omega
             case rel => exact ⟨(wrap64 (x6_2 + 1)), Zz6, H', ⟨by have := HJ17.out; have := HK2.out; omega⟩, by repeat (first | exact Drawn0.refl _ | apply Drawn0.step)⟩
            ·rw [if_neg c28] at H
             have c28b0 := decide_eq_false c28
             clear c28
             by_cases c29 : 0 ≤ a1
             ·rw [if_pos c29] at H
              have c29b0 := eq_true c29
              have c29b1 := decide_eq_true c29
              clear c29
              by_cases c30 : a1 ≤ x6_2
              ·rw [if_pos c30] at H
               have c30b0 := eq_true c30
               have c30b1 := decide_eq_true c30
               clear c30
               by_cases c31 : x6_2 ≤ (a0.size : Int)
               ·rw [if_pos c31] at H
                have c31b0 := eq_true c31
                have c31b1 := decide_eq_true c31
                clear c31
                replace H := Option.bind_eq_some_iff.mp H
                obtain ⟨⟨t135, t136⟩, A320, H⟩ := H
                replace H : (if t136 = true then (some (2, x6_2)) else (some (0, a1))) = some (r1, r2) := H
                have A32 := Aside0.mk A320
                clear A320
                by_cases c33 : t136 = true
                ·subst c33
                 have H1 : (some (2, x6_2)) = some (r1, r2) := by rw [if_pos rfl] at H; exact H
                 clear H
                 have H := H1
                 clear H1
                 simp only [Option.some.injEq, Prod.mk.injEq] at H
                 obtain ⟨rfl, rfl⟩ := H
                 have p25 : 0 ≤ (x6_2 : Int) := of_decide_eq_true Zz1
                 have q25 : x6_2 < (a0.size : Int) := of_decide_eq_true Zz1
                 have hx25 := bt_at a0 x6_2
                 replace p25 := eq_true p25
                 replace q25 := eq_true q25
                 have p27 : 0 ≤ (x6_2 : Int) := of_decide_eq_true Zz1
                 have q27 : x6_2 < (a0.size : Int) := of_decide_eq_true Zz1
                 have hx27 := bt_at a0 x6_2
                 replace p27 := eq_true p27
                 replace q27 := eq_true q27
                 go_wp2_with (first | ((with_reducible refine gate_callee (f := 43) rfl ?_); refine goesL_ (some 76) rfl rfl Tryz.func43 (by kernel_rfl) rfl #[.string (a0.extract (a1 : Int).toNat (x6_2 : Int).toNat)] rfl Zz2 ?_; (with_reducible refine (tammyref06_Number.calls k2 (a0.extract (a1 : Int).toNat (x6_2 : Int).toNat) t135 true _ A32.out).mono ?_); rintro e w' ⟨rfl, ⟨nd, rfl⟩⟩; refine ⟨_, rfl, ?_⟩))
                 go_ret2
                 exact ⟨by first | rfl | (simp; done) | (simp [*]; done), by repeat (first | exact Drawn0.refl _ | apply Drawn0.step)⟩
                ·replace c33 := Bool.eq_false_iff.mpr c33
                 subst c33
                 have H1 : (some (0, a1)) = some (r1, r2) := by rw [if_neg (show ¬ (false = true) by decide)] at H; exact H
                 clear H
                 have H := H1
                 clear H1
                 simp only [Option.some.injEq, Prod.mk.injEq] at H
                 obtain ⟨rfl, rfl⟩ := H
                 have p25 : 0 ≤ (x6_2 : Int) := of_decide_eq_true Zz1
                 have q25 : x6_2 < (a0.size : Int) := of_decide_eq_true Zz1
                 have hx25 := bt_at a0 x6_2
                 replace p25 := eq_true p25
                 replace q25 := eq_true q25
                 have p27 : 0 ≤ (x6_2 : Int) := of_decide_eq_true Zz1
                 have q27 : x6_2 < (a0.size : Int) := of_decide_eq_true Zz1
                 have hx27 := bt_at a0 x6_2
                 replace p27 := eq_true p27
                 replace q27 := eq_true q27
                 go_wp2_with (first | ((with_reducible refine gate_callee (f := 43) rfl ?_); refine goesL_ (some 76) rfl rfl Tryz.func43 (by kernel_rfl) rfl #[.string (a0.extract (a1 : Int).toNat (x6_2 : Int).toNat)] rfl Zz2 ?_; (with_reducible refine (tammyref06_Number.calls k2 (a0.extract (a1 : Int).toNat (x6_2 : Int).toNat) t135 false _ A32.out).mono ?_); rintro e w' ⟨rfl, ⟨nd, rfl⟩⟩; refine ⟨_, rfl, ?_⟩))
                 go_ret2
                 exact ⟨by first | rfl | (simp; done) | (simp [*]; done), by repeat (first | exact Drawn0.refl _ | apply Drawn0.step)⟩
               ·rw [if_neg c31] at H
                exact absurd H (by simp)
              ·rw [if_neg c30] at H
               exact absurd H (by simp)
             ·rw [if_neg c29] at H
              exact absurd H (by simp)
           ·rw [if_neg c26] at H
            have c26b0 : decide (48 ≤ (bt a0 x6_2)) = false := decide_eq_false c26
            clear c26
            by_cases c34 : 0 ≤ a1
            ·rw [if_pos c34] at H
             have c34b0 := eq_true c34
             have c34b1 := decide_eq_true c34
             clear c34
             by_cases c35 : a1 ≤ x6_2
             ·rw [if_pos c35] at H
              have c35b0 := eq_true c35
              have c35b1 := decide_eq_true c35
              clear c35
              by_cases c36 : x6_2 ≤ (a0.size : Int)
              ·rw [if_pos c36] at H
               have c36b0 := eq_true c36
               have c36b1 := decide_eq_true c36
               clear c36
               replace H := Option.bind_eq_some_iff.mp H
               obtain ⟨⟨t137, t138⟩, A370, H⟩ := H
               replace H : (if t138 = true then (some (2, x6_2)) else (some (0, a1))) = some (r1, r2) := H
               have A37 := Aside0.mk A370
               clear A370
               by_cases c38 : t138 = true
               ·subst c38
                have H1 : (some (2, x6_2)) = some (r1, r2) := by rw [if_pos rfl] at H; exact H
                clear H
                have H := H1
                clear H1
                simp only [Option.some.injEq, Prod.mk.injEq] at H
                obtain ⟨rfl, rfl⟩ := H
                have p25 : 0 ≤ (x6_2 : Int) := of_decide_eq_true Zz1
                have q25 : x6_2 < (a0.size : Int) := of_decide_eq_true Zz1
                have hx25 := bt_at a0 x6_2
                replace p25 := eq_true p25
                replace q25 := eq_true q25
                go_wp2_with (first | ((with_reducible refine gate_callee (f := 43) rfl ?_); refine goesL_ (some 76) rfl rfl Tryz.func43 (by kernel_rfl) rfl #[.string (a0.extract (a1 : Int).toNat (x6_2 : Int).toNat)] rfl Zz2 ?_; (with_reducible refine (tammyref06_Number.calls k2 (a0.extract (a1 : Int).toNat (x6_2 : Int).toNat) t137 true _ A37.out).mono ?_); rintro e w' ⟨rfl, ⟨nd, rfl⟩⟩; refine ⟨_, rfl, ?_⟩))
                go_ret2
                exact ⟨by first | rfl | (simp; done) | (simp [*]; done), by repeat (first | exact Drawn0.refl _ | apply Drawn0.step)⟩
               ·replace c38 := Bool.eq_false_iff.mpr c38
                subst c38
                have H1 : (some (0, a1)) = some (r1, r2) := by rw [if_neg (show ¬ (false = true) by decide)] at H; exact H
                clear H
                have H := H1
                clear H1
                simp only [Option.some.injEq, Prod.mk.injEq] at H
                obtain ⟨rfl, rfl⟩ := H
                have p25 : 0 ≤ (x6_2 : Int) := of_decide_eq_true Zz1
                have q25 : x6_2 < (a0.size : Int) := of_decide_eq_true Zz1
                have hx25 := bt_at a0 x6_2
                replace p25 := eq_true p25
                replace q25 := eq_true q25
                go_wp2_with (first | ((with_reducible refine gate_callee (f := 43) rfl ?_); refine goesL_ (some 76) rfl rfl Tryz.func43 (by kernel_rfl) rfl #[.string (a0.extract (a1 : Int).toNat (x6_2 : Int).toNat)] rfl Zz2 ?_; (with_reducible refine (tammyref06_Number.calls k2 (a0.extract (a1 : Int).toNat (x6_2 : Int).toNat) t137 false _ A37.out).mono ?_); rintro e w' ⟨rfl, ⟨nd, rfl⟩⟩; refine ⟨_, rfl, ?_⟩))
                go_ret2
                exact ⟨by first | rfl | (simp; done) | (simp [*]; done), by repeat (first | exact Drawn0.refl _ | apply Drawn0.step)⟩
              ·rw [if_neg c36] at H
               exact absurd H (by simp)
             ·rw [if_neg c35] at H
              exact absurd H (by simp)
            ·rw [if_neg c34] at H
             exact absurd H (by simp)
          ·rw [if_neg c24] at H
           exact absurd H (by simp)
         ·rw [if_neg c23] at H
          have c23b0 := decide_eq_false c23
          clear c23
          by_cases c39 : 0 ≤ a1
          ·rw [if_pos c39] at H
           have c39b0 := eq_true c39
           have c39b1 := decide_eq_true c39
           clear c39
           by_cases c40 : a1 ≤ x6_2
           ·rw [if_pos c40] at H
            have c40b0 := eq_true c40
            have c40b1 := decide_eq_true c40
            clear c40
            by_cases c41 : x6_2 ≤ (a0.size : Int)
            ·rw [if_pos c41] at H
             have c41b0 := eq_true c41
             have c41b1 := decide_eq_true c41
             clear c41
             replace H := Option.bind_eq_some_iff.mp H
             obtain ⟨⟨t139, t140⟩, A420, H⟩ := H
             replace H : (if t140 = true then (some (2, x6_2)) else (some (0, a1))) = some (r1, r2) := H
             have A42 := Aside0.mk A420
             clear A420
             by_cases c43 : t140 = true
             ·subst c43
              have H1 : (some (2, x6_2)) = some (r1, r2) := by rw [if_pos rfl] at H; exact H
              clear H
              have H := H1
              clear H1
              simp only [Option.some.injEq, Prod.mk.injEq] at H
              obtain ⟨rfl, rfl⟩ := H
              go_wp2_with (first | ((with_reducible refine gate_callee (f := 43) rfl ?_); refine goesL_ (some 76) rfl rfl Tryz.func43 (by kernel_rfl) rfl #[.string (a0.extract (a1 : Int).toNat (x6_2 : Int).toNat)] rfl Zz2 ?_; (with_reducible refine (tammyref06_Number.calls k2 (a0.extract (a1 : Int).toNat (x6_2 : Int).toNat) t139 true _ A42.out).mono ?_); rintro e w' ⟨rfl, ⟨nd, rfl⟩⟩; refine ⟨_, rfl, ?_⟩))
              go_ret2
              exact ⟨by first | rfl | (simp; done) | (simp [*]; done), by repeat (first | exact Drawn0.refl _ | apply Drawn0.step)⟩
             ·replace c43 := Bool.eq_false_iff.mpr c43
              subst c43
              have H1 : (some (0, a1)) = some (r1, r2) := by rw [if_neg (show ¬ (false = true) by decide)] at H; exact H
              clear H
              have H := H1
              clear H1
              simp only [Option.some.injEq, Prod.mk.injEq] at H
              obtain ⟨rfl, rfl⟩ := H
              go_wp2_with (first | ((with_reducible refine gate_callee (f := 43) rfl ?_); refine goesL_ (some 76) rfl rfl Tryz.func43 (by kernel_rfl) rfl #[.string (a0.extract (a1 : Int).toNat (x6_2 : Int).toNat)] rfl Zz2 ?_; (with_reducible refine (tammyref06_Number.calls k2 (a0.extract (a1 : Int).toNat (x6_2 : Int).toNat) t139 false _ A42.out).mono ?_); rintro e w' ⟨rfl, ⟨nd, rfl⟩⟩; refine ⟨_, rfl, ?_⟩))
              go_ret2
              exact ⟨by first | rfl | (simp; done) | (simp [*]; done), by repeat (first | exact Drawn0.refl _ | apply Drawn0.step)⟩
            ·rw [if_neg c41] at H
             exact absurd H (by simp)
           ·rw [if_neg c40] at H
            exact absurd H (by simp)
          ·rw [if_neg c39] at H
           exact absurd H (by simp)
      ·replace c22 := Bool.eq_false_iff.mpr c22
       subst c22
       have H1 : (if (wrap64 (a1 + 1)) < (a0.size : Int) then (if 0 ≤ (wrap64 (a1 + 1)) then (if (bt a0 (wrap64 (a1 + 1))) = 61 then (if 0 ≤ a1 then (if a1 < (a0.size : Int) then (if (bt a0 a1) = 60 then (tammyref06_token.j3 kj17 a0 a1 (wrap64 (a1 + 1)) true) else (tammyref06_token.j3 kj17 a0 a1 (wrap64 (a1 + 1)) ((bt a0 a1) == 58))) else (none)) else (none)) else (tammyref06_token.j3 kj17 a0 a1 (wrap64 (a1 + 1)) false)) else (none)) else (tammyref06_token.j3 kj17 a0 a1 (wrap64 (a1 + 1)) false)) = some (r1, r2) := by rw [if_neg (show ¬ (false = true) by decide)] at H; exact H
       clear H
       have H := H1
       clear H1
       have HC44 := Aside0.mk H
       clear H
       go_upto_region 14 with (fail)
       go_cut [104] (fun v104 wc => ∃ (kq : Nat) (x104_43 : Bool), v104 = .bool x104_43 ∧ Aside0 (tammyref06_token.j3 kq a0 a1 (wrap64 (a1 + 1)) x104_43 = some (r1, r2)) ∧ Aside0 (kq ≤ kj17) ∧ Drawn0 w wc)
       case first =>
        have H := HC44.out
        clear HC44
        by_cases c45 : (wrap64 (a1 + 1)) < (a0.size : Int)
        ·rw [if_pos c45] at H
         have c45b0 := decide_eq_true c45
         clear c45
         (first | rw [c45b0] | (simp only [i64_w, i32_w]; rw [c45b0]) | skip)
         obtain ⟨ji46, hji46⟩ : ∃ j_ : Int, (wrap64 (a1 + 1)) = j_ := ⟨_, rfl⟩
         replace H : (if 0 ≤ (ji46) then (if (bt a0 (ji46)) = 61 then (if 0 ≤ a1 then (if a1 < (a0.size : Int) then (if (bt a0 a1) = 60 then (tammyref06_token.j3 kj17 a0 a1 (ji46) true) else (tammyref06_token.j3 kj17 a0 a1 (ji46) ((bt a0 a1) == 58))) else (none)) else (none)) else (tammyref06_token.j3 kj17 a0 a1 (ji46) false)) else (none)) = some (r1, r2) := by first | (rw [hji46] at H; exact H) | (simp only [hji46] at H ⊢; exact H)
         (try rw [hji46] at c45b0)
         have hji46w : (IntKind.i64.wrap (a1 + 1)) = ji46 := (i64_w _).trans hji46
         by_cases c47 : 0 ≤ (ji46)
         ·rw [if_pos c47] at H
          have c47b0 := decide_eq_true c47
          clear c47
          by_cases c49 : (bt a0 (ji46)) = 61
          ·rw [if_pos c49] at H
           have c49b0 := beq_iff_eq.mpr c49
           have c49b1 := bne_eq_false_iff_eq.mpr c49
           clear c49
           by_cases c50 : 0 ≤ a1
           ·rw [if_pos c50] at H
            have c50b0 := decide_eq_true c50
            clear c50
            by_cases c51 : a1 < (a0.size : Int)
            ·rw [if_pos c51] at H
             have c51b0 := decide_eq_true c51
             clear c51
             by_cases c53 : (bt a0 a1) = 60
             ·rw [if_pos c53] at H
              have c53b0 := beq_iff_eq.mpr c53
              have c53b1 := bne_eq_false_iff_eq.mpr c53
              clear c53
              have H' := Aside0.mk H
              clear H
              have p48 : 0 ≤ ((ji46) : Int) := of_decide_eq_true Zz1
              have q48 : (ji46) < (a0.size : Int) := of_decide_eq_true Zz1
              have hx48 := bt_at a0 (ji46)
              replace p48 := eq_true p48
              replace q48 := eq_true q48
              have p52 : 0 ≤ (a1 : Int) := of_decide_eq_true Zz1
              have q52 : a1 < (a0.size : Int) := of_decide_eq_true Zz1
              have hx52 := bt_at a0 a1
              replace p52 := eq_true p52
              replace q52 := eq_true q52
              go_wp2
              (try rw [← hji46] at H')
              go_meet
              case rel => exact ⟨_, (true), Zz6, H', ⟨by have := HJ17.out; first | omega | exact Nat.le_refl _⟩, by repeat (first | exact Drawn0.refl _ | apply Drawn0.step)⟩
             ·rw [if_neg c53] at H
              have c53b0 := beq_eq_false_iff_ne.mpr c53
              have c53b1 := bne_iff_ne.mpr c53
              have H' := Aside0.mk H
              clear H
              have p48 : 0 ≤ ((ji46) : Int) := of_decide_eq_true Zz1
              have q48 : (ji46) < (a0.size : Int) := of_decide_eq_true Zz1
              have hx48 := bt_at a0 (ji46)
              replace p48 := eq_true p48
              replace q48 := eq_true q48
              have p52 : 0 ≤ (a1 : Int) := of_decide_eq_true Zz1
              have q52 : a1 < (a0.size : Int) := of_decide_eq_true Zz1
              have hx52 := bt_at a0 a1
              replace p52 := eq_true p52
              replace q52 := eq_true q52
              have p54 : 0 ≤ (a1 : Int) := of_decide_eq_true Zz1
              have q54 : a1 < (a0.size : Int) := of_decide_eq_true Zz1
              have hx54 := bt_at a0 a1
              replace p54 := eq_true p54
              replace q54 := eq_true q54
              go_wp2
              (try rw [← hji46] at H')
              go_meet
              case rel => exact ⟨_, (((bt a0 a1) == 58)), Zz6, H', ⟨by have := HJ17.out; first | omega | exact Nat.le_refl _⟩, by repeat (first | exact Drawn0.refl _ | apply Drawn0.step)⟩
            ·rw [if_neg c51] at H
             exact absurd H (by simp)
           ·rw [if_neg c50] at H
            exact absurd H (by simp)
          ·rw [if_neg c49] at H
           have c49b0 := beq_eq_false_iff_ne.mpr c49
           have c49b1 := bne_iff_ne.mpr c49
           have H' := Aside0.mk H
           clear H
           have p48 : 0 ≤ ((ji46) : Int) := of_decide_eq_true Zz1
           have q48 : (ji46) < (a0.size : Int) := of_decide_eq_true Zz1
           have hx48 := bt_at a0 (ji46)
           replace p48 := eq_true p48
           replace q48 := eq_true q48
           go_wp2
           (try rw [← hji46] at H')
           go_meet
           case rel => exact ⟨_, (false), Zz6, H', ⟨by have := HJ17.out; first | omega | exact Nat.le_refl _⟩, by repeat (first | exact Drawn0.refl _ | apply Drawn0.step)⟩
         ·rw [if_neg c47] at H
          exact absurd H (by simp)
        ·rw [if_neg c45] at H
         have c45b0 := decide_eq_false c45
         clear c45
         (first | rw [c45b0] | (simp only [i64_w, i32_w]; rw [c45b0]) | skip)
         have H' := Aside0.mk H
         clear H
         go_wp2
         (try rw [← hji46] at H')
         go_meet
         case rel => exact ⟨_, (false), Zz6, H', ⟨by have := HJ17.out; first | omega | exact Nat.le_refl _⟩, by repeat (first | exact Drawn0.refl _ | apply Drawn0.step)⟩
       case rest =>
        clear HC44
        try clear c1
        try clear p1
        try clear q1
        try clear hx1
        try clear c2
        try clear p2
        try clear q2
        try clear hx2
        try clear c3
        try clear c3b0
        try clear c4
        try clear c4b0
        try clear p4
        try clear q4
        try clear hx4
        try clear c5
        try clear p5
        try clear q5
        try clear hx5
        try clear p6
        try clear c7
        try clear c8
        try clear c8b0
        try clear c9
        try clear c9b0
        try clear p10
        try clear q10
        try clear hx10
        try clear c12
        try clear p13
        try clear q13
        try clear hx13
        try clear c15
        try clear p16
        try clear q16
        try clear hx16
        try clear c17
        try clear c17b0
        try clear c17b1
        try clear p19
        try clear q19
        try clear hx19
        try clear c20
        try clear c20b0
        try clear p21
        try clear q21
        try clear hx21
        try clear c22
        try clear c23
        try clear c23b0
        try clear c24
        try clear c24b0
        try clear p25
        try clear q25
        try clear hx25
        try clear c26
        try clear c26b0
        try clear p27
        try clear q27
        try clear hx27
        try clear c28
        try clear c28b0
        try clear c29
        try clear c29b0
        try clear c29b1
        try clear c30
        try clear c30b0
        try clear c30b1
        try clear c31
        try clear c31b0
        try clear c31b1
        try clear c33
        try clear c34
        try clear c34b0
        try clear c34b1
        try clear c35
        try clear c35b0
        try clear c35b1
        try clear c36
        try clear c36b0
        try clear c36b1
        try clear c38
        try clear c39
        try clear c39b0
        try clear c39b1
        try clear c40
        try clear c40b0
        try clear c40b1
        try clear c41
        try clear c41b0
        try clear c41b1
        try clear c43
        try clear c45
        try clear c45b0
        try clear c47
        try clear c47b0
        try clear p48
        try clear q48
        try clear hx48
        try clear c49
        try clear c49b0
        try clear c49b1
        try clear c50
        try clear c50b0
        try clear c51
        try clear c51b0
        try clear p52
        try clear q52
        try clear hx52
        try clear c53
        try clear c53b0
        try clear c53b1
        try clear p54
        try clear q54
        try clear hx54
        try clear p1
        try clear p10
        try clear p13
        try clear p16
        try clear p19
        try clear p2
        try clear p21
        try clear p25
        try clear p27
        try clear p48
        try clear p5
        try clear p52
        try clear p54
        try clear p6
        try clear q1
        try clear q10
        try clear q13
        try clear q16
        try clear q19
        try clear q2
        try clear q21
        try clear q25
        try clear q27
        try clear q48
        try clear q5
        try clear q52
        try clear q54
        obtain ⟨kq, x104_43, rfl, HA, HJ43, ⟨mc43, rfl⟩⟩ := hcut
        cases kq with
        | zero => exact absurd HA.out (by simp [tammyref06_token.j3])
        | succ kj43 =>
         have H := HA.out
         clear HA
         simp only [tammyref06_token.j3] at H
         by_cases c55 : x104_43 = true
         ·subst c55
          have H1 : (some (3, wrap64 (a1 + 2))) = some (r1, r2) := by rw [if_pos rfl] at H; exact H
          clear H
          have H := H1
          clear H1
          simp only [Option.some.injEq, Prod.mk.injEq] at H
          obtain ⟨rfl, rfl⟩ := H
          go_wp2
          go_ret2
          exact ⟨by first | rfl | (simp; done) | (simp [*]; done), by repeat (first | exact Drawn0.refl _ | apply Drawn0.step)⟩
         ·replace c55 := Bool.eq_false_iff.mpr c55
          subst c55
          have H1 : (if 0 ≤ a1 then (if a1 < (a0.size : Int) then ((tammyref06_sign.f kj43 (bt a0 a1)).bind fun t141 => (if t141 = true then (some (3, (wrap64 (a1 + 1)))) else (some (0, a1)))) else (none)) else (none)) = some (r1, r2) := by rw [if_neg (show ¬ (false = true) by decide)] at H; exact H
          clear H
          have H := H1
          clear H1
          by_cases c56 : 0 ≤ a1
          ·rw [if_pos c56] at H
           have c56b0 := decide_eq_true c56
           clear c56
           by_cases c57 : a1 < (a0.size : Int)
           ·rw [if_pos c57] at H
            have c57b0 := decide_eq_true c57
            clear c57
            replace H := Option.bind_eq_some_iff.mp H
            obtain ⟨t141, A590, H⟩ := H
            replace H : (if t141 = true then (some (3, (wrap64 (a1 + 1)))) else (some (0, a1))) = some (r1, r2) := H
            have A59 := Aside0.mk A590
            clear A590
            by_cases c60 : t141 = true
            ·subst c60
             have H1 : (some (3, (wrap64 (a1 + 1)))) = some (r1, r2) := by rw [if_pos rfl] at H; exact H
             clear H
             have H := H1
             clear H1
             simp only [Option.some.injEq, Prod.mk.injEq] at H
             obtain ⟨rfl, rfl⟩ := H
             have p58 : 0 ≤ (a1 : Int) := of_decide_eq_true Zz1
             have q58 : a1 < (a0.size : Int) := of_decide_eq_true Zz1
             have hx58 := bt_at a0 a1
             replace p58 := eq_true p58
             replace q58 := eq_true q58
             go_wp2_with (first | ((with_reducible refine gate_callee (f := 44) rfl ?_); refine goesL_ (some 110) rfl rfl Tryz.func44 (by kernel_rfl) rfl #[.int .u8 (bt a0 a1)] rfl Zz2 ?_; (with_reducible refine (tammyref06_sign.calls kj43 (bt a0 a1) true _ A59.out).mono ?_); rintro e w' ⟨rfl, ⟨nd, rfl⟩⟩; refine ⟨_, rfl, ?_⟩))
             go_ret2
             exact ⟨by first | rfl | (simp; done) | (simp [*]; done), by repeat (first | exact Drawn0.refl _ | apply Drawn0.step)⟩
            ·replace c60 := Bool.eq_false_iff.mpr c60
             subst c60
             have H1 : (some (0, a1)) = some (r1, r2) := by rw [if_neg (show ¬ (false = true) by decide)] at H; exact H
             clear H
             have H := H1
             clear H1
             simp only [Option.some.injEq, Prod.mk.injEq] at H
             obtain ⟨rfl, rfl⟩ := H
             have p58 : 0 ≤ (a1 : Int) := of_decide_eq_true Zz1
             have q58 : a1 < (a0.size : Int) := of_decide_eq_true Zz1
             have hx58 := bt_at a0 a1
             replace p58 := eq_true p58
             replace q58 := eq_true q58
             go_wp2_with (first | ((with_reducible refine gate_callee (f := 44) rfl ?_); refine goesL_ (some 110) rfl rfl Tryz.func44 (by kernel_rfl) rfl #[.int .u8 (bt a0 a1)] rfl Zz2 ?_; (with_reducible refine (tammyref06_sign.calls kj43 (bt a0 a1) false _ A59.out).mono ?_); rintro e w' ⟨rfl, ⟨nd, rfl⟩⟩; refine ⟨_, rfl, ?_⟩))
             go_ret2
             exact ⟨by first | rfl | (simp; done) | (simp [*]; done), by repeat (first | exact Drawn0.refl _ | apply Drawn0.step)⟩
           ·rw [if_neg c57] at H
            exact absurd H (by simp)
          ·rw [if_neg c56] at H
           exact absurd H (by simp)
  ·rw [if_neg c4] at H
   exact absurd H (by simp)
 ·rw [if_neg c3] at H
  exact absurd H (by simp)
end Go.Proofs.YtniaooodlccmcaaGreatDoor.Q

