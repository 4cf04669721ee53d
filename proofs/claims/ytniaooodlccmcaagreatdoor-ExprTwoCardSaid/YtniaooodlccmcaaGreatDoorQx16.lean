import Derived.Test.YtniaooodlccmcaaGreatDoorDz
import Derived.Test.YtniaooodlccmcaaGreatDoorQx0
import Derived.Test.YtniaooodlccmcaaGreatDoorQx7
import Derived.Test.YtniaooodlccmcaaGreatDoorQx8
import Derived.Test.YtniaooodlccmcaaGreatDoorQx9
import Derived.Test.YtniaooodlccmcaaGreatDoorQx13
import Derived.Test.YtniaooodlccmcaaGreatDoorQx15
namespace Go.Proofs.YtniaooodlccmcaaGreatDoor.Q
open Go.RowKit Go.Proofs.YtniaooodlccmcaaGreatDoorW.PrintWords Go.Proofs.YtniaooodlccmcaaGreatDoorW.PrintLast Go.Proofs.YtniaooodlccmcaaGreatDoorW.PrintMore
attribute [local go_sem] max2_int min2_int max_two min_two max_three min_three max_four min_four
set_option linter.unusedVariables false
set_option linter.unusedSimpArgs false
mutual
def tammylaw07_ExprTwo.j0 : Nat → List (S38) → List (S38) → Bool → Bool → Bool → Option (Bool)
 | 0, _, _, _, _, _ => none
 | k + 1, x0, x1, x2, x7, x36 => if x36 = true then (some x7) else (if x2 = true then (tammylaw07_ExprTwo.j1 k x0 x1 x7 (⟨#[124]⟩ : ByteArray) 4) else (tammylaw07_ExprTwo.j1 k x0 x1 x7 (⟨#[38]⟩ : ByteArray) 5))
def tammylaw07_ExprTwo.j1 : Nat → List (S38) → List (S38) → Bool → ByteArray → Int → Option (Bool)
 | 0, _, _, _, _, _ => none
 | k + 1, x0, x1, x7, x8, x9 => (expr_Text.f k x0).bind fun t342 => (if 1 + t342.size ≤ 9223372036854775807 then (if ((⟨#[40]⟩ : ByteArray) ++ t342).size + 1 ≤ 9223372036854775807 then (if (((⟨#[40]⟩ : ByteArray) ++ t342) ++ (⟨#[41]⟩ : ByteArray)).size + x8.size ≤ 9223372036854775807 then (if ((((⟨#[40]⟩ : ByteArray) ++ t342) ++ (⟨#[41]⟩ : ByteArray)) ++ x8).size + 1 ≤ 9223372036854775807 then ((expr_Text.f k x1).bind fun t343 => (if (((((⟨#[40]⟩ : ByteArray) ++ t342) ++ (⟨#[41]⟩ : ByteArray)) ++ x8) ++ (⟨#[40]⟩ : ByteArray)).size + t343.size ≤ 9223372036854775807 then (if ((((((⟨#[40]⟩ : ByteArray) ++ t342) ++ (⟨#[41]⟩ : ByteArray)) ++ x8) ++ (⟨#[40]⟩ : ByteArray)) ++ t343).size + 1 ≤ 9223372036854775807 then ((tammyref06_Toks.f k (((((((⟨#[40]⟩ : ByteArray) ++ t342) ++ (⟨#[41]⟩ : ByteArray)) ++ x8) ++ (⟨#[40]⟩ : ByteArray)) ++ t343) ++ (⟨#[41]⟩ : ByteArray))).bind fun bt344 => ((expr_Read.f k bt344.1 0).bind fun bt349 => (if bt344.2.2 = 0 then (if bt349.2.2 = 7 then (some x7) else ((some (([] : List (S38)) : List (S38))).bind fun y354 => (if y354.length + x0.length < 4398046511104 then ((some (y354 ++ x0 : List (S38))).bind fun y357 => (if y357.length + x1.length < 4398046511104 then ((some (y357 ++ x1 : List (S38))).bind fun y360 => (if y360.length < 4398046511104 then (if x7 = true then (if bt349.2.2 = 0 then (if bt349.2.1 = (bt344.1.length : Int) then ((tammyref07_Same.f k bt349.1 (y360 ++ [(⟨x9, (⟨#[]⟩ : ByteArray), 2⟩ : S38)])).bind fun t366 => (some t366)) else (none)) else (none)) else (none)) else (none))) else (none))) else (none)))) else (some x7)))) else (none)) else (none))) else (none)) else (none)) else (none)) else (none))
end
def tammylaw07_ExprTwo.f (k : Nat) (l0 : List (S38)) (l1 : List (S38)) (a2 : Bool) : Option (Bool) := (tammylaw07_shown.f k).bind fun t337 => ((tammyref07_Few.f k l0).bind fun t338 => (if t338 = true then ((tammyref07_Few.f k l1).bind fun t339 => (if t339 = true then ((tammyref07_Right.f k l0).bind fun t340 => (if t340 = true then ((tammyref07_Right.f k l1).bind fun t341 => (tammylaw07_ExprTwo.j0 k l0 l1 a2 t337 (!t341))) else (tammylaw07_ExprTwo.j0 k l0 l1 a2 t337 true))) else (tammylaw07_ExprTwo.j0 k l0 l1 a2 t337 true))) else (tammylaw07_ExprTwo.j0 k l0 l1 a2 t337 true)))
theorem tammylaw07_ExprTwo.mono_l : ∀ k, (∀ y0 y1 y2 y3 y4, LeO (tammylaw07_ExprTwo.j0 k y0 y1 y2 y3 y4) (tammylaw07_ExprTwo.j0 (k + 1) y0 y1 y2 y3 y4)) ∧ (∀ y0 y1 y2 y3 y4, LeO (tammylaw07_ExprTwo.j1 k y0 y1 y2 y3 y4) (tammylaw07_ExprTwo.j1 (k + 1) y0 y1 y2 y3 y4))
 | 0 => ⟨fun _ _ _ _ _ r h => by simp [tammylaw07_ExprTwo.j0] at h, fun _ _ _ _ _ r h => by simp [tammylaw07_ExprTwo.j1] at h⟩
 | k + 1 => by
  obtain ⟨ih0, ih1⟩ := tammylaw07_ExprTwo.mono_l k
  refine ⟨?_, ?_⟩
  ·intro y0 y1 y2 y3 y4
   unfold tammylaw07_ExprTwo.j0
   repeat' first
   | (with_reducible exact ih0 _ _ _ _ _)
   | (with_reducible exact ih1 _ _ _ _ _)
   | (with_reducible exact expr_Read.mono _ _ _)
   | (with_reducible exact expr_Text.mono _ _)
   | (with_reducible exact tammylaw07_shown.mono _)
   | (with_reducible exact tammyref06_Toks.mono _ _)
   | (with_reducible exact tammyref07_Few.mono _ _)
   | (with_reducible exact tammyref07_Right.mono _ _)
   | (with_reducible exact tammyref07_Same.mono _ _ _)
   | (with_reducible exact LeO.refl _)
   | (with_reducible exact LeO.none _)
   | (with_reducible refine LeO.ite ?_ ?_)
   | (with_reducible refine LeO.bind ?_ (fun _ => ?_))
   | exact ih0 _ _ _ _ _
   | exact ih1 _ _ _ _ _
   | exact expr_Read.mono _ _ _
   | exact expr_Text.mono _ _
   | exact tammylaw07_shown.mono _
   | exact tammyref06_Toks.mono _ _
   | exact tammyref07_Few.mono _ _
   | exact tammyref07_Right.mono _ _
   | exact tammyref07_Same.mono _ _ _
   | exact LeO.none _
   | refine LeO.ite ?_ ?_
   | refine LeO.bind ?_ (fun _ => ?_)
  ·intro y0 y1 y2 y3 y4
   unfold tammylaw07_ExprTwo.j1
   repeat' first
   | (with_reducible exact ih0 _ _ _ _ _)
   | (with_reducible exact ih1 _ _ _ _ _)
   | (with_reducible exact expr_Read.mono _ _ _)
   | (with_reducible exact expr_Text.mono _ _)
   | (with_reducible exact tammylaw07_shown.mono _)
   | (with_reducible exact tammyref06_Toks.mono _ _)
   | (with_reducible exact tammyref07_Few.mono _ _)
   | (with_reducible exact tammyref07_Right.mono _ _)
   | (with_reducible exact tammyref07_Same.mono _ _ _)
   | (with_reducible exact LeO.refl _)
   | (with_reducible exact LeO.none _)
   | (with_reducible refine LeO.ite ?_ ?_)
   | (with_reducible refine LeO.bind ?_ (fun _ => ?_))
   | exact ih0 _ _ _ _ _
   | exact ih1 _ _ _ _ _
   | exact expr_Read.mono _ _ _
   | exact expr_Text.mono _ _
   | exact tammylaw07_shown.mono _
   | exact tammyref06_Toks.mono _ _
   | exact tammyref07_Few.mono _ _
   | exact tammyref07_Right.mono _ _
   | exact tammyref07_Same.mono _ _ _
   | exact LeO.none _
   | refine LeO.ite ?_ ?_
   | refine LeO.bind ?_ (fun _ => ?_)
theorem tammylaw07_ExprTwo.mono : ∀ a0 a1 a2 k, LeO (tammylaw07_ExprTwo.f k a0 a1 a2) (tammylaw07_ExprTwo.f (k + 1) a0 a1 a2) := by
 intro a0 a1 a2 k
 obtain ⟨ih0, ih1⟩ := tammylaw07_ExprTwo.mono_l k
 unfold tammylaw07_ExprTwo.f
 repeat' first
   | (with_reducible exact ih0 _ _ _ _ _)
   | (with_reducible exact ih1 _ _ _ _ _)
   | (with_reducible exact expr_Read.mono _ _ _)
   | (with_reducible exact expr_Text.mono _ _)
   | (with_reducible exact tammylaw07_shown.mono _)
   | (with_reducible exact tammyref06_Toks.mono _ _)
   | (with_reducible exact tammyref07_Few.mono _ _)
   | (with_reducible exact tammyref07_Right.mono _ _)
   | (with_reducible exact tammyref07_Same.mono _ _ _)
   | (with_reducible exact LeO.refl _)
   | (with_reducible exact LeO.none _)
   | (with_reducible refine LeO.ite ?_ ?_)
   | (with_reducible refine LeO.bind ?_ (fun _ => ?_))
   | exact ih0 _ _ _ _ _
   | exact ih1 _ _ _ _ _
   | exact expr_Read.mono _ _ _
   | exact expr_Text.mono _ _
   | exact tammylaw07_shown.mono _
   | exact tammyref06_Toks.mono _ _
   | exact tammyref07_Few.mono _ _
   | exact tammyref07_Right.mono _ _
   | exact tammyref07_Same.mono _ _ _
   | exact LeO.none _
   | refine LeO.ite ?_ ?_
   | refine LeO.bind ?_ (fun _ => ?_)
set_option maxHeartbeats 8000000 in
set_option maxRecDepth 100000 in
theorem tammylaw07_ExprTwo.calls (k : Nat) (A0 : Option Addr) (c0 : Nat) (l0 : List (S38)) (A1 : Option Addr) (c1 : Nat) (l1 : List (S38)) (a2 : Bool) (r : Bool) (w : World) (hr0 : Kd.C k38 w A0 l0.length l0) (hc0 : l0.length ≤ c0) (hr1 : Kd.C k38 w A1 l1.length l1) (hc1 : l1.length ≤ c1) (h : tammylaw07_ExprTwo.f k l0 l1 a2 = some r) :
  Calls Tryz.prog 6 #[.slice A0 l0.length c0, .slice A1 l1.length c1, .bool a2] w fun e w' => e = .returned (.bool r) ∧ Below w.heap.size w w' := by
 have hu38 := Tryz.underlying38
 have HR0 := Aside0.mk hr0
 have HC0 := Aside0.mk hc0
 clear hr0 hc0
 have HR1 := Aside0.mk hr1
 have HC1 := Aside0.mk hc1
 clear hr1 hc1
 have HB := Aside0.mk (Below.refl w.heap.size w)
 have H : ((tammylaw07_shown.f k).bind fun t337 => ((tammyref07_Few.f k l0).bind fun t338 => (if t338 = true then ((tammyref07_Few.f k l1).bind fun t339 => (if t339 = true then ((tammyref07_Right.f k l0).bind fun t340 => (if t340 = true then ((tammyref07_Right.f k l1).bind fun t341 => (tammylaw07_ExprTwo.j0 k l0 l1 a2 t337 (!t341))) else (tammylaw07_ExprTwo.j0 k l0 l1 a2 t337 true))) else (tammylaw07_ExprTwo.j0 k l0 l1 a2 t337 true))) else (tammylaw07_ExprTwo.j0 k l0 l1 a2 t337 true)))) = some r := h
 clear h
 replace H := Option.bind_eq_some_iff.mp H
 obtain ⟨t337, A40, H⟩ := H
 replace H : ((tammyref07_Few.f k l0).bind fun t338 => (if t338 = true then ((tammyref07_Few.f k l1).bind fun t339 => (if t339 = true then ((tammyref07_Right.f k l0).bind fun t340 => (if t340 = true then ((tammyref07_Right.f k l1).bind fun t341 => (tammylaw07_ExprTwo.j0 k l0 l1 a2 t337 (!t341))) else (tammylaw07_ExprTwo.j0 k l0 l1 a2 t337 true))) else (tammylaw07_ExprTwo.j0 k l0 l1 a2 t337 true))) else (tammylaw07_ExprTwo.j0 k l0 l1 a2 t337 true))) = some r := H
 have A4 := Aside0.mk A40
 clear A40
 have HC5 := Aside0.mk H
 clear H
 go_enter Tryz.func6, Tryz.ntmps6
 go_upto_region 2 with (first | ((with_reducible refine gate_callee (f := 7) rfl ?_); refine goesL_ (some 18) rfl rfl Tryz.func7 (by kernel_rfl) rfl #[] rfl Zz2 ?_; (with_reducible refine (tammylaw07_shown.calls k  t337 _ A4.out).mono ?_); rintro e w6 ⟨rfl, hb⟩; refine ⟨_, rfl, ?_⟩; have n0_ := Aside0.mk (below_step Zz0 hb); clear HB; have HB := n0_; clear n0_; (try clear hb); (try clear hb2); (try clear hk); (try clear hi)))
 (try simp only [Act.put, List.setIfInBounds_toArray, List.set_cons_zero, List.set_cons_succ])
 go_cut [36] (fun v36 wc => ∃ (kq : Nat) (x36_4 : Bool), v36 = .bool x36_4 ∧ Aside0 (tammylaw07_ExprTwo.j0 kq l0 l1 a2 t337 x36_4 = some r) ∧ Aside0 (kq ≤ k) ∧ Aside0 (Below w.heap.size w wc))
 case first =>
  have H := HC5.out
  clear HC5
  replace H := Option.bind_eq_some_iff.mp H
  obtain ⟨t338, A70, H⟩ := H
  replace H : (if t338 = true then ((tammyref07_Few.f k l1).bind fun t339 => (if t339 = true then ((tammyref07_Right.f k l0).bind fun t340 => (if t340 = true then ((tammyref07_Right.f k l1).bind fun t341 => (tammylaw07_ExprTwo.j0 k l0 l1 a2 t337 (!t341))) else (tammylaw07_ExprTwo.j0 k l0 l1 a2 t337 true))) else (tammylaw07_ExprTwo.j0 k l0 l1 a2 t337 true))) else (tammylaw07_ExprTwo.j0 k l0 l1 a2 t337 true)) = some r := H
  have A7 := Aside0.mk A70
  clear A70
  by_cases c8 : t338 = true
  ·subst c8
   have H1 : ((tammyref07_Few.f k l1).bind fun t339 => (if t339 = true then ((tammyref07_Right.f k l0).bind fun t340 => (if t340 = true then ((tammyref07_Right.f k l1).bind fun t341 => (tammylaw07_ExprTwo.j0 k l0 l1 a2 t337 (!t341))) else (tammylaw07_ExprTwo.j0 k l0 l1 a2 t337 true))) else (tammylaw07_ExprTwo.j0 k l0 l1 a2 t337 true))) = some r := by rw [if_pos rfl] at H; exact H
   clear H
   have H := H1
   clear H1
   replace H := Option.bind_eq_some_iff.mp H
   obtain ⟨t339, A90, H⟩ := H
   replace H : (if t339 = true then ((tammyref07_Right.f k l0).bind fun t340 => (if t340 = true then ((tammyref07_Right.f k l1).bind fun t341 => (tammylaw07_ExprTwo.j0 k l0 l1 a2 t337 (!t341))) else (tammylaw07_ExprTwo.j0 k l0 l1 a2 t337 true))) else (tammylaw07_ExprTwo.j0 k l0 l1 a2 t337 true)) = some r := H
   have A9 := Aside0.mk A90
   clear A90
   by_cases c10 : t339 = true
   ·subst c10
    have H1 : ((tammyref07_Right.f k l0).bind fun t340 => (if t340 = true then ((tammyref07_Right.f k l1).bind fun t341 => (tammylaw07_ExprTwo.j0 k l0 l1 a2 t337 (!t341))) else (tammylaw07_ExprTwo.j0 k l0 l1 a2 t337 true))) = some r := by rw [if_pos rfl] at H; exact H
    clear H
    have H := H1
    clear H1
    replace H := Option.bind_eq_some_iff.mp H
    obtain ⟨t340, A110, H⟩ := H
    replace H : (if t340 = true then ((tammyref07_Right.f k l1).bind fun t341 => (tammylaw07_ExprTwo.j0 k l0 l1 a2 t337 (!t341))) else (tammylaw07_ExprTwo.j0 k l0 l1 a2 t337 true)) = some r := H
    have A11 := Aside0.mk A110
    clear A110
    by_cases c12 : t340 = true
    ·subst c12
     have H1 : ((tammyref07_Right.f k l1).bind fun t341 => (tammylaw07_ExprTwo.j0 k l0 l1 a2 t337 (!t341))) = some r := by rw [if_pos rfl] at H; exact H
     clear H
     have H := H1
     clear H1
     replace H := Option.bind_eq_some_iff.mp H
     obtain ⟨t341, A130, H⟩ := H
     replace H : (tammylaw07_ExprTwo.j0 k l0 l1 a2 t337 (!t341)) = some r := H
     have A13 := Aside0.mk A130
     clear A130
     have H' := Aside0.mk H
     clear H
     go_wp2_with (first | ((with_reducible refine gate_callee (f := 8) rfl ?_); refine goesL_ (some 20) rfl rfl Tryz.func8 (by kernel_rfl) rfl #[.slice A0 l0.length c0] rfl Zz2 ?_; (with_reducible refine (tammyref07_Few.calls k _ _ l0 true _ ?side1 ?side2 A7.out).mono ?_); (case side1 => repeat (first | exact (Kd.C_below HR0.out HB.out) | (with_reducible refine Kd.C_alloc ?_ _) | (with_reducible refine Kd.C_drewN ?_ _) | (with_reducible refine Kd.C_drew ?_))); (case side2 => exact HC0.out); rintro e w' ⟨rfl, ⟨nd, rfl⟩⟩; refine ⟨_, rfl, ?_⟩) | (go_at_call 8; (with_reducible refine (tammyref07_Few.calls k _ _ l1 true _ ?side1 ?side2 A9.out).mono ?_); (case side1 => repeat (first | exact (Kd.C_below HR1.out Zz0) | (with_reducible refine Kd.C_alloc ?_ _) | (with_reducible refine Kd.C_drewN ?_ _) | (with_reducible refine Kd.C_drew ?_))); (case side2 => exact HC1.out); rintro e w' ⟨rfl, ⟨nd, rfl⟩⟩) | (go_at_call 9; (with_reducible refine (tammyref07_Right.calls k _ _ l0 true _ ?side1 ?side2 A11.out).mono ?_); (case side1 => repeat (first | exact (Kd.C_below HR0.out Zz0) | (with_reducible refine Kd.C_alloc ?_ _) | (with_reducible refine Kd.C_drewN ?_ _) | (with_reducible refine Kd.C_drew ?_))); (case side2 => exact HC0.out); rintro e w14 ⟨rfl, hb⟩; have n0_ := Aside0.mk (below_step Zz0 hb); clear HB; have HB := n0_; clear n0_; (try clear hb); (try clear hb2); (try clear hk); (try clear hi)) | (go_at_call 9; (with_reducible refine (tammyref07_Right.calls k _ _ l1 t341 _ ?side1 ?side2 A13.out).mono ?_); (case side1 => repeat (first | exact (Kd.C_below HR1.out HB.out) | (with_reducible refine Kd.C_alloc ?_ _) | (with_reducible refine Kd.C_drewN ?_ _) | (with_reducible refine Kd.C_drew ?_))); (case side2 => exact HC1.out); rintro e w15 ⟨rfl, hb⟩; have n0_ := Aside0.mk (below_step Zz0 hb); clear HB; have HB := n0_; clear n0_; (try clear hb); (try clear hb2); (try clear hk); (try clear hi)))
     go_meet
     case rel => exact ⟨_, (!t341), Zz6, H', ⟨by first | omega | exact Nat.le_refl _⟩, ⟨by repeat (first | (with_reducible first | exact HB.out | apply below_alloc | apply pw_below_drewN | apply below_drew1) | exact HB.out)⟩⟩
    ·replace c12 := Bool.eq_false_iff.mpr c12
     subst c12
     have H1 : (tammylaw07_ExprTwo.j0 k l0 l1 a2 t337 true) = some r := by rw [if_neg (show ¬ (false = true) by decide)] at H; exact H
     clear H
     have H := H1
     clear H1
     have H' := Aside0.mk H
     clear H
     go_wp2_with (first | ((with_reducible refine gate_callee (f := 8) rfl ?_); refine goesL_ (some 20) rfl rfl Tryz.func8 (by kernel_rfl) rfl #[.slice A0 l0.length c0] rfl Zz2 ?_; (with_reducible refine (tammyref07_Few.calls k _ _ l0 true _ ?side1 ?side2 A7.out).mono ?_); (case side1 => repeat (first | exact (Kd.C_below HR0.out HB.out) | (with_reducible refine Kd.C_alloc ?_ _) | (with_reducible refine Kd.C_drewN ?_ _) | (with_reducible refine Kd.C_drew ?_))); (case side2 => exact HC0.out); rintro e w' ⟨rfl, ⟨nd, rfl⟩⟩; refine ⟨_, rfl, ?_⟩) | (go_at_call 8; (with_reducible refine (tammyref07_Few.calls k _ _ l1 true _ ?side1 ?side2 A9.out).mono ?_); (case side1 => repeat (first | exact (Kd.C_below HR1.out Zz0) | (with_reducible refine Kd.C_alloc ?_ _) | (with_reducible refine Kd.C_drewN ?_ _) | (with_reducible refine Kd.C_drew ?_))); (case side2 => exact HC1.out); rintro e w' ⟨rfl, ⟨nd, rfl⟩⟩) | (go_at_call 9; (with_reducible refine (tammyref07_Right.calls k _ _ l0 false _ ?side1 ?side2 A11.out).mono ?_); (case side1 => repeat (first | exact (Kd.C_below HR0.out Zz0) | (with_reducible refine Kd.C_alloc ?_ _) | (with_reducible refine Kd.C_drewN ?_ _) | (with_reducible refine Kd.C_drew ?_))); (case side2 => exact HC0.out); rintro e w16 ⟨rfl, hb⟩; have n0_ := Aside0.mk (below_step Zz0 hb); clear HB; have HB := n0_; clear n0_; (try clear hb); (try clear hb2); (try clear hk); (try clear hi)))
     go_meet
     case rel => exact ⟨_, (true), Zz6, H', ⟨by first | omega | exact Nat.le_refl _⟩, ⟨by repeat (first | (with_reducible first | exact HB.out | apply below_alloc | apply pw_below_drewN | apply below_drew1) | exact HB.out)⟩⟩
   ·replace c10 := Bool.eq_false_iff.mpr c10
    subst c10
    have H1 : (tammylaw07_ExprTwo.j0 k l0 l1 a2 t337 true) = some r := by rw [if_neg (show ¬ (false = true) by decide)] at H; exact H
    clear H
    have H := H1
    clear H1
    have H' := Aside0.mk H
    clear H
    go_wp2_with (first | ((with_reducible refine gate_callee (f := 8) rfl ?_); refine goesL_ (some 20) rfl rfl Tryz.func8 (by kernel_rfl) rfl #[.slice A0 l0.length c0] rfl Zz2 ?_; (with_reducible refine (tammyref07_Few.calls k _ _ l0 true _ ?side1 ?side2 A7.out).mono ?_); (case side1 => repeat (first | exact (Kd.C_below HR0.out HB.out) | (with_reducible refine Kd.C_alloc ?_ _) | (with_reducible refine Kd.C_drewN ?_ _) | (with_reducible refine Kd.C_drew ?_))); (case side2 => exact HC0.out); rintro e w' ⟨rfl, ⟨nd, rfl⟩⟩; refine ⟨_, rfl, ?_⟩) | (go_at_call 8; (with_reducible refine (tammyref07_Few.calls k _ _ l1 false _ ?side1 ?side2 A9.out).mono ?_); (case side1 => repeat (first | exact (Kd.C_below HR1.out Zz0) | (with_reducible refine Kd.C_alloc ?_ _) | (with_reducible refine Kd.C_drewN ?_ _) | (with_reducible refine Kd.C_drew ?_))); (case side2 => exact HC1.out); rintro e w' ⟨rfl, ⟨nd, rfl⟩⟩))
    go_meet
    case rel => exact ⟨_, (true), Zz6, H', ⟨by first | omega | exact Nat.le_refl _⟩, ⟨by repeat (first | (with_reducible first | exact HB.out | apply below_alloc | apply pw_below_drewN | apply below_drew1) | exact HB.out)⟩⟩
  ·replace c8 := Bool.eq_false_iff.mpr c8
   subst c8
   have H1 : (tammylaw07_ExprTwo.j0 k l0 l1 a2 t337 true) = some r := by rw [if_neg (show ¬ (false = true) by decide)] at H; exact H
   clear H
   have H := H1
   clear H1
   have H' := Aside0.mk H
   clear H
   go_wp2_with (first | ((with_reducible refine gate_callee (f := 8) rfl ?_); refine goesL_ (some 20) rfl rfl Tryz.func8 (by kernel_rfl) rfl #[.slice A0 l0.length c0] rfl Zz2 ?_; (with_reducible refine (tammyref07_Few.calls k _ _ l0 false _ ?side1 ?side2 A7.out).mono ?_); (case side1 => repeat (first | exact (Kd.C_below HR0.out HB.out) | (with_reducible refine Kd.C_alloc ?_ _) | (with_reducible refine Kd.C_drewN ?_ _) | (with_reducible refine Kd.C_drew ?_))); (case side2 => exact HC0.out); rintro e w' ⟨rfl, ⟨nd, rfl⟩⟩; refine ⟨_, rfl, ?_⟩))
   go_meet
   case rel => exact ⟨_, (true), Zz6, H', ⟨by first | omega | exact Nat.le_refl _⟩, ⟨by repeat (first | (with_reducible first | exact HB.out | apply below_alloc | apply pw_below_drewN | apply below_drew1) | exact HB.out)⟩⟩
 case rest =>
  clear HC5
  try clear c1
  try clear p2
  try clear c6
  try clear c7
  try clear c8
  try clear c10
  try clear c12
  obtain ⟨kq, x36_4, rfl, HA, HJ4, HB⟩ := hcut
  cases kq with
  | zero => exact absurd HA.out (by simp [tammylaw07_ExprTwo.j0])
  | succ kj4 =>
   have H := HA.out
   clear HA
   simp only [tammylaw07_ExprTwo.j0] at H
   by_cases c17 : x36_4 = true
   ·subst c17
    have H1 : (some t337) = some r := by rw [if_pos rfl] at H; exact H
    clear H
    have H := H1
    clear H1
    obtain rfl := Option.some.inj H
    go_wp2
    go_ret
    exact ⟨by first | rfl | (simp [errW_none, errW_some] <;> rfl) | (simp [*, errW_none, errW_some] <;> rfl), by repeat (first | (with_reducible first | exact HB.out | apply below_alloc | apply pw_below_drewN | apply below_drew1) | exact HB.out)⟩
   ·replace c17 := Bool.eq_false_iff.mpr c17
    subst c17
    have H1 : (if a2 = true then (tammylaw07_ExprTwo.j1 kj4 l0 l1 t337 (⟨#[124]⟩ : ByteArray) 4) else (tammylaw07_ExprTwo.j1 kj4 l0 l1 t337 (⟨#[38]⟩ : ByteArray) 5)) = some r := by rw [if_neg (show ¬ (false = true) by decide)] at H; exact H
    clear H
    have H := H1
    clear H1
    have HC18 := Aside0.mk H
    clear H
    go_upto_if 38 with (fail)
    go_cut [8, 9] (fun v8 v9 wc => ∃ (kq : Nat) (x8_17 : ByteArray) (x9_17 : Int), v8 = .string x8_17 ∧ v9 = .int .i64 x9_17 ∧ Aside0 (tammylaw07_ExprTwo.j1 kq l0 l1 t337 x8_17 x9_17 = some r) ∧ Aside0 (kq ≤ kj4) ∧ Aside0 (Below w.heap.size w wc))
    case first =>
     have H := HC18.out
     clear HC18
     by_cases c19 : a2 = true
     ·subst c19
      have H1 : (tammylaw07_ExprTwo.j1 kj4 l0 l1 t337 (⟨#[124]⟩ : ByteArray) 4) = some r := by rw [if_pos rfl] at H; exact H
      clear H
      have H := H1
      clear H1
      have H' := Aside0.mk H
      clear H
      go_wp2
      go_meet
      case rel => exact ⟨_, ((⟨#[124]⟩ : ByteArray)), (4), Zz6, Zz6, H', ⟨by have := HJ4.out; first | omega | exact Nat.le_refl _⟩, ⟨by repeat (first | (with_reducible first | exact HB.out | apply below_alloc | apply pw_below_drewN | apply below_drew1) | exact HB.out)⟩⟩
     ·replace c19 := Bool.eq_false_iff.mpr c19
      subst c19
      have H1 : (tammylaw07_ExprTwo.j1 kj4 l0 l1 t337 (⟨#[38]⟩ : ByteArray) 5) = some r := by rw [if_neg (show ¬ (false = true) by decide)] at H; exact H
      clear H
      have H := H1
      clear H1
      have H' := Aside0.mk H
      clear H
      go_wp2
      go_meet
      case rel => exact ⟨_, ((⟨#[38]⟩ : ByteArray)), (5), Zz6, Zz6, H', ⟨by have := HJ4.out; first | omega | exact Nat.le_refl _⟩, ⟨by repeat (first | (with_reducible first | exact HB.out | apply below_alloc | apply pw_below_drewN | apply below_drew1) | exact HB.out)⟩⟩
    case rest =>
     clear HC18
     try clear c1
     try clear p2
     try clear c6
     try clear c7
     try clear c8
     try clear c10
     try clear c12
     try clear c17
     try clear c19
     try clear p2
     obtain ⟨kq, x8_17, x9_17, rfl, rfl, HA, HJ17, HB⟩ := hcut
     cases kq with
     | zero => exact absurd HA.out (by simp [tammylaw07_ExprTwo.j1])
     | succ kj17 =>
      have H := HA.out
      clear HA
      simp only [tammylaw07_ExprTwo.j1] at H
      replace H := Option.bind_eq_some_iff.mp H
      obtain ⟨t342, A200, H⟩ := H
      replace H : (if 1 + t342.size ≤ 9223372036854775807 then (if ((⟨#[40]⟩ : ByteArray) ++ t342).size + 1 ≤ 9223372036854775807 then (if (((⟨#[40]⟩ : ByteArray) ++ t342) ++ (⟨#[41]⟩ : ByteArray)).size + x8_17.size ≤ 9223372036854775807 then (if ((((⟨#[40]⟩ : ByteArray) ++ t342) ++ (⟨#[41]⟩ : ByteArray)) ++ x8_17).size + 1 ≤ 9223372036854775807 then ((expr_Text.f kj17 l1).bind fun t343 => (if (((((⟨#[40]⟩ : ByteArray) ++ t342) ++ (⟨#[41]⟩ : ByteArray)) ++ x8_17) ++ (⟨#[40]⟩ : ByteArray)).size + t343.size ≤ 9223372036854775807 then (if ((((((⟨#[40]⟩ : ByteArray) ++ t342) ++ (⟨#[41]⟩ : ByteArray)) ++ x8_17) ++ (⟨#[40]⟩ : ByteArray)) ++ t343).size + 1 ≤ 9223372036854775807 then ((tammyref06_Toks.f kj17 (((((((⟨#[40]⟩ : ByteArray) ++ t342) ++ (⟨#[41]⟩ : ByteArray)) ++ x8_17) ++ (⟨#[40]⟩ : ByteArray)) ++ t343) ++ (⟨#[41]⟩ : ByteArray))).bind fun bt344 => ((expr_Read.f kj17 bt344.1 0).bind fun bt349 => (if bt344.2.2 = 0 then (if bt349.2.2 = 7 then (some t337) else ((some (([] : List (S38)) : List (S38))).bind fun y354 => (if y354.length + l0.length < 4398046511104 then ((some (y354 ++ l0 : List (S38))).bind fun y357 => (if y357.length + l1.length < 4398046511104 then ((some (y357 ++ l1 : List (S38))).bind fun y360 => (if y360.length < 4398046511104 then (if t337 = true then (if bt349.2.2 = 0 then (if bt349.2.1 = (bt344.1.length : Int) then ((tammyref07_Same.f kj17 bt349.1 (y360 ++ [(⟨x9_17, (⟨#[]⟩ : ByteArray), 2⟩ : S38)])).bind fun t366 => (some t366)) else (none)) else (none)) else (none)) else (none))) else (none))) else (none)))) else (some t337)))) else (none)) else (none))) else (none)) else (none)) else (none)) else (none)) = some r := H
      have A20 := Aside0.mk A200
      clear A200
      by_cases c21 : 1 + t342.size ≤ 9223372036854775807
      ·rw [if_pos c21] at H
       have c21b0 := eq_true c21
       have c21b1 := decide_eq_true c21
       try have c21b2 : (9223372036854775807 < 1 + t342.size) = False := eq_false (Nat.not_lt.2 c21)
       by_cases c22 : ((⟨#[40]⟩ : ByteArray) ++ t342).size + 1 ≤ 9223372036854775807
       ·rw [if_pos c22] at H
        have c22b0 := eq_true c22
        have c22b1 := decide_eq_true c22
        try have c22b2 : (9223372036854775807 < ((⟨#[40]⟩ : ByteArray) ++ t342).size + 1) = False := eq_false (Nat.not_lt.2 c22)
        try (have c22b3 := c22b2; simp only [ByteArray.size_append, show (⟨#[40]⟩ : ByteArray).size = 1 from rfl, show (⟨#[41]⟩ : ByteArray).size = 1 from rfl, show (⟨#[44]⟩ : ByteArray).size = 1 from rfl, show (⟨#[124]⟩ : ByteArray).size = 1 from rfl, show (⟨#[38]⟩ : ByteArray).size = 1 from rfl, show (⟨#[126]⟩ : ByteArray).size = 1 from rfl] at c22b3)
        by_cases c23 : (((⟨#[40]⟩ : ByteArray) ++ t342) ++ (⟨#[41]⟩ : ByteArray)).size + x8_17.size ≤ 9223372036854775807
        ·rw [if_pos c23] at H
         have c23b0 := eq_true c23
         have c23b1 := decide_eq_true c23
         try have c23b2 : (9223372036854775807 < (((⟨#[40]⟩ : ByteArray) ++ t342) ++ (⟨#[41]⟩ : ByteArray)).size + x8_17.size) = False := eq_false (Nat.not_lt.2 c23)
         try (have c23b3 := c23b2; simp only [ByteArray.size_append, show (⟨#[40]⟩ : ByteArray).size = 1 from rfl, show (⟨#[41]⟩ : ByteArray).size = 1 from rfl, show (⟨#[44]⟩ : ByteArray).size = 1 from rfl, show (⟨#[124]⟩ : ByteArray).size = 1 from rfl, show (⟨#[38]⟩ : ByteArray).size = 1 from rfl, show (⟨#[126]⟩ : ByteArray).size = 1 from rfl] at c23b3)
         by_cases c24 : ((((⟨#[40]⟩ : ByteArray) ++ t342) ++ (⟨#[41]⟩ : ByteArray)) ++ x8_17).size + 1 ≤ 9223372036854775807
         ·rw [if_pos c24] at H
          have c24b0 := eq_true c24
          have c24b1 := decide_eq_true c24
          try have c24b2 : (9223372036854775807 < ((((⟨#[40]⟩ : ByteArray) ++ t342) ++ (⟨#[41]⟩ : ByteArray)) ++ x8_17).size + 1) = False := eq_false (Nat.not_lt.2 c24)
          try (have c24b3 := c24b2; simp only [ByteArray.size_append, show (⟨#[40]⟩ : ByteArray).size = 1 from rfl, show (⟨#[41]⟩ : ByteArray).size = 1 from rfl, show (⟨#[44]⟩ : ByteArray).size = 1 from rfl, show (⟨#[124]⟩ : ByteArray).size = 1 from rfl, show (⟨#[38]⟩ : ByteArray).size = 1 from rfl, show (⟨#[126]⟩ : ByteArray).size = 1 from rfl] at c24b3)
          replace H := Option.bind_eq_some_iff.mp H
          obtain ⟨t343, A250, H⟩ := H
          replace H : (if (((((⟨#[40]⟩ : ByteArray) ++ t342) ++ (⟨#[41]⟩ : ByteArray)) ++ x8_17) ++ (⟨#[40]⟩ : ByteArray)).size + t343.size ≤ 9223372036854775807 then (if ((((((⟨#[40]⟩ : ByteArray) ++ t342) ++ (⟨#[41]⟩ : ByteArray)) ++ x8_17) ++ (⟨#[40]⟩ : ByteArray)) ++ t343).size + 1 ≤ 9223372036854775807 then ((tammyref06_Toks.f kj17 (((((((⟨#[40]⟩ : ByteArray) ++ t342) ++ (⟨#[41]⟩ : ByteArray)) ++ x8_17) ++ (⟨#[40]⟩ : ByteArray)) ++ t343) ++ (⟨#[41]⟩ : ByteArray))).bind fun bt344 => ((expr_Read.f kj17 bt344.1 0).bind fun bt349 => (if bt344.2.2 = 0 then (if bt349.2.2 = 7 then (some t337) else ((some (([] : List (S38)) : List (S38))).bind fun y354 => (if y354.length + l0.length < 4398046511104 then ((some (y354 ++ l0 : List (S38))).bind fun y357 => (if y357.length + l1.length < 4398046511104 then ((some (y357 ++ l1 : List (S38))).bind fun y360 => (if y360.length < 4398046511104 then (if t337 = true then (if bt349.2.2 = 0 then (if bt349.2.1 = (bt344.1.length : Int) then ((tammyref07_Same.f kj17 bt349.1 (y360 ++ [(⟨x9_17, (⟨#[]⟩ : ByteArray), 2⟩ : S38)])).bind fun t366 => (some t366)) else (none)) else (none)) else (none)) else (none))) else (none))) else (none)))) else (some t337)))) else (none)) else (none)) = some r := H
          have A25 := Aside0.mk A250
          clear A250
          by_cases c26 : (((((⟨#[40]⟩ : ByteArray) ++ t342) ++ (⟨#[41]⟩ : ByteArray)) ++ x8_17) ++ (⟨#[40]⟩ : ByteArray)).size + t343.size ≤ 9223372036854775807
          ·rw [if_pos c26] at H
           have c26b0 := eq_true c26
           have c26b1 := decide_eq_true c26
           try have c26b2 : (9223372036854775807 < (((((⟨#[40]⟩ : ByteArray) ++ t342) ++ (⟨#[41]⟩ : ByteArray)) ++ x8_17) ++ (⟨#[40]⟩ : ByteArray)).size + t343.size) = False := eq_false (Nat.not_lt.2 c26)
           try (have c26b3 := c26b2; simp only [ByteArray.size_append, show (⟨#[40]⟩ : ByteArray).size = 1 from rfl, show (⟨#[41]⟩ : ByteArray).size = 1 from rfl, show (⟨#[44]⟩ : ByteArray).size = 1 from rfl, show (⟨#[124]⟩ : ByteArray).size = 1 from rfl, show (⟨#[38]⟩ : ByteArray).size = 1 from rfl, show (⟨#[126]⟩ : ByteArray).size = 1 from rfl] at c26b3)
           by_cases c27 : ((((((⟨#[40]⟩ : ByteArray) ++ t342) ++ (⟨#[41]⟩ : ByteArray)) ++ x8_17) ++ (⟨#[40]⟩ : ByteArray)) ++ t343).size + 1 ≤ 9223372036854775807
           ·rw [if_pos c27] at H
            have c27b0 := eq_true c27
            have c27b1 := decide_eq_true c27
            try have c27b2 : (9223372036854775807 < ((((((⟨#[40]⟩ : ByteArray) ++ t342) ++ (⟨#[41]⟩ : ByteArray)) ++ x8_17) ++ (⟨#[40]⟩ : ByteArray)) ++ t343).size + 1) = False := eq_false (Nat.not_lt.2 c27)
            try (have c27b3 := c27b2; simp only [ByteArray.size_append, show (⟨#[40]⟩ : ByteArray).size = 1 from rfl, show (⟨#[41]⟩ : ByteArray).size = 1 from rfl, show (⟨#[44]⟩ : ByteArray).size = 1 from rfl, show (⟨#[124]⟩ : ByteArray).size = 1 from rfl, show (⟨#[38]⟩ : ByteArray).size = 1 from rfl, show (⟨#[126]⟩ : ByteArray).size = 1 from rfl] at c27b3)
            replace H := Option.bind_eq_some_iff.mp H
            obtain ⟨⟨t344, t345, t346⟩, A280, H⟩ := H
            replace H : ((expr_Read.f kj17 t344 0).bind fun bt349 => (if t346 = 0 then (if bt349.2.2 = 7 then (some t337) else ((some (([] : List (S38)) : List (S38))).bind fun y354 => (if y354.length + l0.length < 4398046511104 then ((some (y354 ++ l0 : List (S38))).bind fun y357 => (if y357.length + l1.length < 4398046511104 then ((some (y357 ++ l1 : List (S38))).bind fun y360 => (if y360.length < 4398046511104 then (if t337 = true then (if bt349.2.2 = 0 then (if bt349.2.1 = (t344.length : Int) then ((tammyref07_Same.f kj17 bt349.1 (y360 ++ [(⟨x9_17, (⟨#[]⟩ : ByteArray), 2⟩ : S38)])).bind fun t366 => (some t366)) else (none)) else (none)) else (none)) else (none))) else (none))) else (none)))) else (some t337))) = some r := H
            have A28 := Aside0.mk A280
            clear A280
            replace H := Option.bind_eq_some_iff.mp H
            obtain ⟨⟨t349, t350, t351⟩, A290, H⟩ := H
            replace H : (if t346 = 0 then (if t351 = 7 then (some t337) else ((some (([] : List (S38)) : List (S38))).bind fun y354 => (if y354.length + l0.length < 4398046511104 then ((some (y354 ++ l0 : List (S38))).bind fun y357 => (if y357.length + l1.length < 4398046511104 then ((some (y357 ++ l1 : List (S38))).bind fun y360 => (if y360.length < 4398046511104 then (if t337 = true then (if t351 = 0 then (if t350 = (t344.length : Int) then ((tammyref07_Same.f kj17 t349 (y360 ++ [(⟨x9_17, (⟨#[]⟩ : ByteArray), 2⟩ : S38)])).bind fun t366 => (some t366)) else (none)) else (none)) else (none)) else (none))) else (none))) else (none)))) else (some t337)) = some r := H
            have A29 := Aside0.mk A290
            clear A290
            by_cases c30 : t346 = 0
            ·rw [if_pos c30] at H
             have c30b0 := beq_iff_eq.mpr c30
             have c30b1 := bne_eq_false_iff_eq.mpr c30
             clear c30
             by_cases c31 : t351 = 7
             ·rw [if_pos c31] at H
              have c31b0 := beq_iff_eq.mpr c31
              have c31b1 := bne_eq_false_iff_eq.mpr c31
              clear c31
              obtain rfl := Option.some.inj H
              go_wp2_with (first | ((with_reducible refine gate_callee (f := 13) rfl ?_); refine goesL_ (some 40) rfl rfl Tryz.func13 (by kernel_rfl) rfl #[.slice A0 l0.length c0] rfl Zz2 ?_; (with_reducible refine (expr_Text.calls kj17 _ _ l0 t342 _ ?side1 ?side2 A20.out).mono ?_); (case side1 => repeat (first | exact (Kd.C_below HR0.out HB.out) | (with_reducible refine Kd.C_alloc ?_ _) | (with_reducible refine Kd.C_drewN ?_ _) | (with_reducible refine Kd.C_drew ?_))); (case side2 => exact HC0.out); rintro e w32 ⟨rfl, hb⟩; refine ⟨_, rfl, ?_⟩; have n0_ := Aside0.mk (below_step Zz0 hb); clear HB; have HB := n0_; clear n0_; (try clear hb); (try clear hb2); (try clear hk); (try clear hi)) | ((with_reducible refine gate_callee (f := 13) rfl ?_); refine goesL_ (some 47) rfl rfl Tryz.func13 (by kernel_rfl) rfl #[.slice A1 l1.length c1] rfl Zz2 ?_; (with_reducible refine (expr_Text.calls kj17 _ _ l1 t343 _ ?side1 ?side2 A25.out).mono ?_); (case side1 => repeat (first | exact (Kd.C_below HR1.out HB.out) | (with_reducible refine Kd.C_alloc ?_ _) | (with_reducible refine Kd.C_drewN ?_ _) | (with_reducible refine Kd.C_drew ?_))); (case side2 => exact HC1.out); rintro e w33 ⟨rfl, hb⟩; refine ⟨_, rfl, ?_⟩; have n0_ := Aside0.mk (below_step Zz0 hb); clear HB; have HB := n0_; clear n0_; (try clear hb); (try clear hb2); (try clear hk); (try clear hi)) | ((with_reducible refine gate_callee (f := 12) rfl ?_); refine goesL_ (some 52) rfl rfl Tryz.func12 (by kernel_rfl) rfl #[.string (((((((⟨#[40]⟩ : ByteArray) ++ t342) ++ (⟨#[41]⟩ : ByteArray)) ++ x8_17) ++ (⟨#[40]⟩ : ByteArray)) ++ t343) ++ (⟨#[41]⟩ : ByteArray))] rfl Zz2 ?_; (with_reducible refine (tammyref06_Toks.calls kj17 (((((((⟨#[40]⟩ : ByteArray) ++ t342) ++ (⟨#[41]⟩ : ByteArray)) ++ x8_17) ++ (⟨#[40]⟩ : ByteArray)) ++ t343) ++ (⟨#[41]⟩ : ByteArray)) t344 t345 t346 _ A28.out).mono ?_); rintro e w34 ⟨v347, rfl, ho0, hb⟩; refine ⟨_, rfl, ?_⟩; have n0_ := Aside0.mk (Kd.R_lower ho0 (below_size Zz0)); have n1_ := Aside0.mk (below_step Zz0 hb); clear HB; have HO348 := n0_; have HB := n1_; clear n0_ n1_; (try clear hb); (try clear hb2); (try clear hk); (try clear hi); (try clear ho0); obtain ⟨Ao35, co35, eo35⟩ := Kd.R_slice HO348.out; subst eo35) | ((with_reducible refine gate_callee (f := 14) rfl ?_); refine goesL_ (some 58) rfl rfl Tryz.func14 (by kernel_rfl) rfl #[.slice Ao35 t344.length co35, .int .i64 0] rfl Zz2 ?_; (with_reducible refine (expr_Read.calls kj17 _ _ t344 0 t349 t350 t351 _ ?side1 ?side2 A29.out).mono ?_); (case side1 => repeat (first | exact (Kd.R_reads' HO348.out).2.2 | (with_reducible refine Kd.C_alloc ?_ _) | (with_reducible refine Kd.C_drewN ?_ _) | (with_reducible refine Kd.C_drew ?_))); (case side2 => exact (Kd.R_reads' HO348.out).2.1); rintro e w36 ⟨v352, rfl, ho0, hb⟩; refine ⟨_, rfl, ?_⟩; have n0_ := Aside0.mk (Kd.R_below (Zz31 HO348.out) hb); have n1_ := Aside0.mk (Kd.R_lower ho0 (below_size Zz0)); have n2_ := Aside0.mk (below_step Zz0 hb); clear HO348; clear HB; have HO348 := n0_; have HO353 := n1_; have HB := n2_; clear n0_ n1_ n2_; (try clear hb); (try clear hb2); (try clear hk); (try clear hi); (try clear ho0)))
              go_ret
              exact ⟨by first | rfl | (simp [errW_none, errW_some] <;> rfl) | (simp [*, errW_none, errW_some] <;> rfl), by repeat (first | (with_reducible first | exact HB.out | apply below_alloc | apply pw_below_drewN | apply below_drew1) | exact HB.out)⟩
             ·rw [if_neg c31] at H
              have c31b0 := beq_eq_false_iff_ne.mpr c31
              have c31b1 := bne_iff_ne.mpr c31
              obtain ⟨y354, hy354⟩ : ∃ y_ : List (S38), y_ = (([] : List (S38))) := ⟨_, rfl⟩
              replace H : (if y354.length + l0.length < 4398046511104 then ((some (y354 ++ l0 : List (S38))).bind fun y357 => (if y357.length + l1.length < 4398046511104 then ((some (y357 ++ l1 : List (S38))).bind fun y360 => (if y360.length < 4398046511104 then (if t337 = true then (if t351 = 0 then (if t350 = (t344.length : Int) then ((tammyref07_Same.f kj17 t349 (y360 ++ [(⟨x9_17, (⟨#[]⟩ : ByteArray), 2⟩ : S38)])).bind fun t366 => (some t366)) else (none)) else (none)) else (none)) else (none))) else (none))) else (none)) = some r := by first | (rw [hy354]; with_reducible exact H) | (have H2_ := (Option.bind_some _ _).symm.trans H; rw [hy354]; with_reducible exact H2_) | (have H2_ := (Option.bind_some _ _).symm.trans H; with_reducible exact H2_) | with_reducible exact H | (rw [hy354]; exact H) | exact H
              have Ny354 := Aside0.mk hy354
              clear hy354
              by_cases c37 : y354.length + l0.length < 4398046511104
              ·rw [if_pos c37] at H
               have LMc37 := Aside0.mk c37
               clear c37
               obtain ⟨y357, hy357⟩ : ∃ y_ : List (S38), y_ = (y354 ++ l0) := ⟨_, rfl⟩
               replace H : (if y357.length + l1.length < 4398046511104 then ((some (y357 ++ l1 : List (S38))).bind fun y360 => (if y360.length < 4398046511104 then (if t337 = true then (if t351 = 0 then (if t350 = (t344.length : Int) then ((tammyref07_Same.f kj17 t349 (y360 ++ [(⟨x9_17, (⟨#[]⟩ : ByteArray), 2⟩ : S38)])).bind fun t366 => (some t366)) else (none)) else (none)) else (none)) else (none))) else (none)) = some r := by first | (rw [hy357]; with_reducible exact H) | (have H2_ := (Option.bind_some _ _).symm.trans H; rw [hy357]; with_reducible exact H2_) | (have H2_ := (Option.bind_some _ _).symm.trans H; with_reducible exact H2_) | with_reducible exact H | (rw [hy357]; exact H) | exact H
               have Ny357 := Aside0.mk hy357
               clear hy357
               by_cases c38 : y357.length + l1.length < 4398046511104
               ·rw [if_pos c38] at H
                have LMc38 := Aside0.mk c38
                clear c38
                obtain ⟨y360, hy360⟩ : ∃ y_ : List (S38), y_ = (y357 ++ l1) := ⟨_, rfl⟩
                replace H : (if y360.length < 4398046511104 then (if t337 = true then (if t351 = 0 then (if t350 = (t344.length : Int) then ((tammyref07_Same.f kj17 t349 (y360 ++ [(⟨x9_17, (⟨#[]⟩ : ByteArray), 2⟩ : S38)])).bind fun t366 => (some t366)) else (none)) else (none)) else (none)) else (none)) = some r := by first | (rw [hy360]; with_reducible exact H) | (have H2_ := (Option.bind_some _ _).symm.trans H; rw [hy360]; with_reducible exact H2_) | (have H2_ := (Option.bind_some _ _).symm.trans H; with_reducible exact H2_) | with_reducible exact H | (rw [hy360]; exact H) | exact H
                have Ny360 := Aside0.mk hy360
                clear hy360
                by_cases c39 : y360.length < 4398046511104
                ·rw [if_pos c39] at H
                 have LMc39 := Aside0.mk c39
                 clear c39
                 obtain ⟨y363, hy363⟩ : ∃ y_ : List (S38), y_ = (y360 ++ [(⟨x9_17, (⟨#[]⟩ : ByteArray), 2⟩ : S38)]) := ⟨_, rfl⟩
                 replace H : (if t337 = true then (if t351 = 0 then (if t350 = (t344.length : Int) then ((tammyref07_Same.f kj17 t349 y363).bind fun t366 => (some t366)) else (none)) else (none)) else (none)) = some r := by first | (rw [hy363]; with_reducible exact H) | (have H2_ := (Option.bind_some _ _).symm.trans H; rw [hy363]; with_reducible exact H2_) | (have H2_ := (Option.bind_some _ _).symm.trans H; with_reducible exact H2_) | with_reducible exact H | (rw [hy363]; exact H) | exact H
                 have Ny363 := Aside0.mk hy363
                 clear hy363
                 by_cases c40 : t337 = true
                 ·subst c40
                  have H1 : (if t351 = 0 then (if t350 = (t344.length : Int) then ((tammyref07_Same.f kj17 t349 y363).bind fun t366 => (some t366)) else (none)) else (none)) = some r := by rw [if_pos rfl] at H; exact H
                  clear H
                  have H := H1
                  clear H1
                  by_cases c41 : t351 = 0
                  ·rw [if_pos c41] at H
                   have c41b0 := beq_iff_eq.mpr c41
                   have c41b1 := bne_eq_false_iff_eq.mpr c41
                   clear c41
                   by_cases c42 : t350 = (t344.length : Int)
                   ·rw [if_pos c42] at H
                    have c42b0 := beq_iff_eq.mpr c42
                    have c42b1 := bne_eq_false_iff_eq.mpr c42
                    clear c42
                    replace H := Option.bind_eq_some_iff.mp H
                    obtain ⟨t366, A430, H⟩ := H
                    replace H : (some t366) = some r := H
                    have A43 := Aside0.mk A430
                    clear A430
                    obtain rfl := Option.some.inj H
                    go_wp2_with (first | ((with_reducible refine gate_callee (f := 13) rfl ?_); refine goesL_ (some 40) rfl rfl Tryz.func13 (by kernel_rfl) rfl #[.slice A0 l0.length c0] rfl Zz2 ?_; (with_reducible refine (expr_Text.calls kj17 _ _ l0 t342 _ ?side1 ?side2 A20.out).mono ?_); (case side1 => repeat (first | exact (Kd.C_below HR0.out HB.out) | (with_reducible refine Kd.C_alloc ?_ _) | (with_reducible refine Kd.C_drewN ?_ _) | (with_reducible refine Kd.C_drew ?_))); (case side2 => exact HC0.out); rintro e w44 ⟨rfl, hb⟩; refine ⟨_, rfl, ?_⟩; have n0_ := Aside0.mk (below_step Zz0 hb); clear HB; have HB := n0_; clear n0_; (try clear hb); (try clear hb2); (try clear hk); (try clear hi)) | ((with_reducible refine gate_callee (f := 13) rfl ?_); refine goesL_ (some 47) rfl rfl Tryz.func13 (by kernel_rfl) rfl #[.slice A1 l1.length c1] rfl Zz2 ?_; (with_reducible refine (expr_Text.calls kj17 _ _ l1 t343 _ ?side1 ?side2 A25.out).mono ?_); (case side1 => repeat (first | exact (Kd.C_below HR1.out HB.out) | (with_reducible refine Kd.C_alloc ?_ _) | (with_reducible refine Kd.C_drewN ?_ _) | (with_reducible refine Kd.C_drew ?_))); (case side2 => exact HC1.out); rintro e w45 ⟨rfl, hb⟩; refine ⟨_, rfl, ?_⟩; have n0_ := Aside0.mk (below_step Zz0 hb); clear HB; have HB := n0_; clear n0_; (try clear hb); (try clear hb2); (try clear hk); (try clear hi)) | ((with_reducible refine gate_callee (f := 12) rfl ?_); refine goesL_ (some 52) rfl rfl Tryz.func12 (by kernel_rfl) rfl #[.string (((((((⟨#[40]⟩ : ByteArray) ++ t342) ++ (⟨#[41]⟩ : ByteArray)) ++ x8_17) ++ (⟨#[40]⟩ : ByteArray)) ++ t343) ++ (⟨#[41]⟩ : ByteArray))] rfl Zz2 ?_; (with_reducible refine (tammyref06_Toks.calls kj17 (((((((⟨#[40]⟩ : ByteArray) ++ t342) ++ (⟨#[41]⟩ : ByteArray)) ++ x8_17) ++ (⟨#[40]⟩ : ByteArray)) ++ t343) ++ (⟨#[41]⟩ : ByteArray)) t344 t345 t346 _ A28.out).mono ?_); rintro e w46 ⟨v347, rfl, ho0, hb⟩; refine ⟨_, rfl, ?_⟩; have n0_ := Aside0.mk (Kd.R_lower ho0 (below_size Zz0)); have n1_ := Aside0.mk (below_step Zz0 hb); clear HB; have HO348 := n0_; have HB := n1_; clear n0_ n1_; (try clear hb); (try clear hb2); (try clear hk); (try clear hi); (try clear ho0); obtain ⟨Ao47, co47, eo47⟩ := Kd.R_slice HO348.out; subst eo47) | ((with_reducible refine gate_callee (f := 14) rfl ?_); refine goesL_ (some 58) rfl rfl Tryz.func14 (by kernel_rfl) rfl #[.slice Ao47 t344.length co47, .int .i64 0] rfl Zz2 ?_; (with_reducible refine (expr_Read.calls kj17 _ _ t344 0 t349 t350 t351 _ ?side1 ?side2 A29.out).mono ?_); (case side1 => repeat (first | exact (Kd.R_reads' HO348.out).2.2 | (with_reducible refine Kd.C_alloc ?_ _) | (with_reducible refine Kd.C_drewN ?_ _) | (with_reducible refine Kd.C_drew ?_))); (case side2 => exact (Kd.R_reads' HO348.out).2.1); rintro e w48 ⟨v352, rfl, ho0, hb⟩; refine ⟨_, rfl, ?_⟩; have n0_ := Aside0.mk (Kd.R_below (Zz31 HO348.out) hb); have n1_ := Aside0.mk (Kd.R_lower ho0 (below_size Zz0)); have n2_ := Aside0.mk (below_step Zz0 hb); clear HO348; clear HB; have HO348 := n0_; have HO353 := n1_; have HB := n2_; clear n0_ n1_ n2_; (try clear hb); (try clear hb2); (try clear hk); (try clear hi); (try clear ho0)) | ((with_reducible refine gate_dst (N := 69) rfl ?_); (try (refine gate_guard (by rfl) ?_; dsimp only)); refine Kd.R_lit k38 _ 38 ?hg (N := 69) ?hd (xs := ([] : List (S38))) (inner := []) (ok := fun _ => True) (okp := fun _ => True) ?hr ?hp (fun _ hk => hk) trivial (Below.refl _ _) (Nat.le_refl _) (by simp) ?_; (case hd => rfl); (case hg => rfl); (case hr => first | (go_simp; done) | (go_simp; rfl)); (case hp => exact (Reps.none _ _)); intro v355 w49 ho50 hb hg_ hnew_; clear hg_ hnew_; (first | rw [← Ny354.out] at ho50 | (simp only [Int.reduceToNat] at ho50; rw [← Ny354.out] at ho50)); have n0_ := Aside0.mk (Kd.R_below (Zz31 HO348.out) hb); have n1_ := Aside0.mk (Kd.R_elder' (Zz31 HO353.out) (Kd.R_base ho50) hb); have n2_ := Aside0.mk (Kd.R_lower (Kd.R_new' ho50 (Kd.R_lt (Zz31 HO353.out))) (below_size Zz0)); have n3_ := Aside0.mk (below_step Zz0 hb); clear HO348; clear HO353; clear HB; have HO348 := n0_; have HO353 := n1_; have HO356 := n2_; have HB := n3_; clear n0_ n1_ n2_ n3_; clear hb ho50) | ((with_reducible refine gate_builtin (b := .append) (xs := #[.tmp 69, .tmp 70]) rfl ?_); (try (refine gate_guard (by rfl) ?_; dsimp only)); at_builtin; refine Kd.R_append_rows k38 (w0 := w) w.heap.size rfl (.tmp 69) (.tmp 70) 22 38 (.agg #[(.int .i64 0), (.string ⟨#[]⟩), (.int .i64 0)]) 32 rfl Tryz.underlying22 info38 rfl (by decide) (by omega) v355 y354 l0 _ _ _ (fun k_ => some k_ ≠ (v352 : Value).ownBlock) (fun _ => False) rfl rfl ?aO ?aR (fun _ _ h => h) (fun _ h => h.elim) ?aF ?aB ?aS ?aL ?_; (case aR => repeat (first | exact (Kd.C_below HR0.out HB.out) | (with_reducible refine Kd.C_alloc ?_ _) | (with_reducible refine Kd.C_drewN ?_ _) | (with_reducible refine Kd.C_drew ?_))); (case aB => exact Zz0); (case aF => exact (fun k_ hk => Kd.fresh' (Kd.R_lt (Zz31 HO353.out)) k_ hk)); (case aO => exact (by (with_reducible repeat (first | apply Kd.R_alloc | apply Kd.R_drewN | apply Kd.R_drew)); exact Kd.R_mono HO356.out (fun _ hk => hk.2))); (case aS => exact (below_size Zz0)); (case aL => have := LMc37.out; omega); intro v358 w51 ho hb hg hat; rw [← Ny357.out] at ho; have n0_ := Aside0.mk (Kd.R_over' (Zz31 HO348.out) (Kd.R_typed (Zz31 HO356.out)) (by decide) hg); have n1_ := Aside0.mk (Kd.R_after (ok := (fun _ => True)) (Zz31 HO353.out) hg hat); have n2_ := Aside0.mk (hb); have n3_ := Aside0.mk (ho); clear HO348; clear HO353; clear HB; clear HO356; have HO348 := n0_; have HO353 := n1_; have HB := n2_; have HO359 := n3_; clear n0_ n1_ n2_ n3_; clear ho hb hg hat) | ((with_reducible refine gate_builtin (b := .append) (xs := #[.tmp 71, .tmp 72]) rfl ?_); (try (refine gate_guard (by rfl) ?_; dsimp only)); at_builtin; refine Kd.R_append_rows k38 (w0 := w) w.heap.size rfl (.tmp 71) (.tmp 72) 22 38 (.agg #[(.int .i64 0), (.string ⟨#[]⟩), (.int .i64 0)]) 32 rfl Tryz.underlying22 info38 rfl (by decide) (by omega) v358 y357 l1 _ _ _ (fun k_ => some k_ ≠ (v352 : Value).ownBlock) (fun _ => False) rfl rfl ?aO ?aR (fun _ _ h => h) (fun _ h => h.elim) ?aF ?aB ?aS ?aL ?_; (case aR => repeat (first | exact (Kd.C_below HR1.out HB.out) | (with_reducible refine Kd.C_alloc ?_ _) | (with_reducible refine Kd.C_drewN ?_ _) | (with_reducible refine Kd.C_drew ?_))); (case aB => exact Zz0); (case aF => exact (fun k_ hk => Kd.fresh' (Kd.R_lt (Zz31 HO353.out)) k_ hk)); (case aO => exact (Zz31 HO359.out)); (case aS => exact (below_size Zz0)); (case aL => have := LMc38.out; omega); intro v361 w52 ho hb hg hat; rw [← Ny360.out] at ho; have n0_ := Aside0.mk (Kd.R_over' (Zz31 HO348.out) (Kd.R_typed (Zz31 HO359.out)) (by decide) hg); have n1_ := Aside0.mk (Kd.R_after (ok := (fun _ => True)) (Zz31 HO353.out) hg hat); have n2_ := Aside0.mk (hb); have n3_ := Aside0.mk (ho); clear HO348; clear HO353; clear HB; clear HO359; have HO348 := n0_; have HO353 := n1_; have HB := n2_; have HO362 := n3_; clear n0_ n1_ n2_ n3_; clear ho hb hg hat) | ((with_reducible refine gate_builtin (b := .append) (xs := #[.tmp 73, .tmp 76]) rfl ?_); (try (refine gate_guard (by rfl) ?_; dsimp only)); at_builtin; refine Kd.R_append k38 (w0 := w) w.heap.size rfl (.tmp 73) (.tmp 76) 22 38 (.agg #[(.int .i64 0), (.string ⟨#[]⟩), (.int .i64 0)]) 32 rfl Tryz.underlying22 info38 rfl (by decide) (by omega) v361 y360 (⟨x9_17, (⟨#[]⟩ : ByteArray), 2⟩ : S38) [.int .i64 x9_17, .string (⟨#[]⟩ : ByteArray), .int .i64 2] (fun k_ => some k_ ≠ (v352 : Value).ownBlock) (fun _ => False) rfl rfl ?aP (fun _ hk => hk.elim) ?aF ?aO ?aB ?aS ?aL ?_; (case aP => exact k38_mkM _ _ _ (⟨x9_17, (⟨#[]⟩ : ByteArray), 2⟩ : S38)); (case aB => exact Zz0); (case aF => exact (fun k_ hk => Kd.fresh' (Kd.R_lt (Zz31 HO353.out)) k_ hk)); (case aO => exact (Zz31 HO362.out)); (case aS => exact (below_size Zz0)); (case aL => have := LMc39.out; omega); intro v364 w53 ho hb hg hat; rw [← Ny363.out] at ho; have n0_ := Aside0.mk (Kd.R_over' (Zz31 HO348.out) (Kd.R_typed (Zz31 HO362.out)) (by decide) hg); have n1_ := Aside0.mk (Kd.R_after (ok := (fun _ => True)) (Zz31 HO353.out) hg hat); have n2_ := Aside0.mk (hb); have n3_ := Aside0.mk (ho); clear HO348; clear HO353; clear HB; clear HO362; have HO348 := n0_; have HO353 := n1_; have HB := n2_; have HO365 := n3_; clear n0_ n1_ n2_ n3_; clear ho hb hg hat; obtain ⟨Ao54, co54, eo54⟩ := Kd.R_slice HO353.out; subst eo54; obtain ⟨Ao55, co55, eo55⟩ := Kd.R_slice HO365.out; subst eo55) | (go_at_call 15; (with_reducible refine (tammyref07_Same.calls kj17 _ _ t349 _ _ y363 t366 _ ?side1 ?side2 ?side3 ?side4 A43.out).mono ?_); (case side1 => repeat (first | exact (Kd.R_reads' HO353.out).2.2 | (with_reducible refine Kd.C_alloc ?_ _) | (with_reducible refine Kd.C_drewN ?_ _) | (with_reducible refine Kd.C_drew ?_))); (case side2 => exact (Kd.R_reads' HO353.out).2.1); (case side3 => repeat (first | exact (Kd.R_reads' HO365.out).2.2 | (with_reducible refine Kd.C_alloc ?_ _) | (with_reducible refine Kd.C_drewN ?_ _) | (with_reducible refine Kd.C_drew ?_))); (case side4 => exact (Kd.R_reads' HO365.out).2.1); rintro e w' ⟨rfl, ⟨nd, rfl⟩⟩))
                    go_ret
                    exact ⟨by first | rfl | (simp [errW_none, errW_some] <;> rfl) | (simp [*, errW_none, errW_some] <;> rfl), by repeat (first | (with_reducible first | exact HB.out | apply below_alloc | apply pw_below_drewN | apply below_drew1) | exact HB.out)⟩
                   ·rw [if_neg c42] at H
                    exact absurd H (by simp)
                  ·rw [if_neg c41] at H
                   exact absurd H (by simp)
                 ·replace c40 := Bool.eq_false_iff.mpr c40
                  subst c40
                  have H1 : (none) = some r := by rw [if_neg (show ¬ (false = true) by decide)] at H; exact H
                  clear H
                  have H := H1
                  clear H1
                  exact absurd H (by simp)
                ·rw [if_neg c39] at H
                 exact absurd H (by simp)
               ·rw [if_neg c38] at H
                exact absurd H (by simp)
              ·rw [if_neg c37] at H
               exact absurd H (by simp)
            ·rw [if_neg c30] at H
             have c30b0 := beq_eq_false_iff_ne.mpr c30
             have c30b1 := bne_iff_ne.mpr c30
             obtain rfl := Option.some.inj H
             go_wp2_with (first | ((with_reducible refine gate_callee (f := 13) rfl ?_); refine goesL_ (some 40) rfl rfl Tryz.func13 (by kernel_rfl) rfl #[.slice A0 l0.length c0] rfl Zz2 ?_; (with_reducible refine (expr_Text.calls kj17 _ _ l0 t342 _ ?side1 ?side2 A20.out).mono ?_); (case side1 => repeat (first | exact (Kd.C_below HR0.out HB.out) | (with_reducible refine Kd.C_alloc ?_ _) | (with_reducible refine Kd.C_drewN ?_ _) | (with_reducible refine Kd.C_drew ?_))); (case side2 => exact HC0.out); rintro e w56 ⟨rfl, hb⟩; refine ⟨_, rfl, ?_⟩; have n0_ := Aside0.mk (below_step Zz0 hb); clear HB; have HB := n0_; clear n0_; (try clear hb); (try clear hb2); (try clear hk); (try clear hi)) | ((with_reducible refine gate_callee (f := 13) rfl ?_); refine goesL_ (some 47) rfl rfl Tryz.func13 (by kernel_rfl) rfl #[.slice A1 l1.length c1] rfl Zz2 ?_; (with_reducible refine (expr_Text.calls kj17 _ _ l1 t343 _ ?side1 ?side2 A25.out).mono ?_); (case side1 => repeat (first | exact (Kd.C_below HR1.out HB.out) | (with_reducible refine Kd.C_alloc ?_ _) | (with_reducible refine Kd.C_drewN ?_ _) | (with_reducible refine Kd.C_drew ?_))); (case side2 => exact HC1.out); rintro e w57 ⟨rfl, hb⟩; refine ⟨_, rfl, ?_⟩; have n0_ := Aside0.mk (below_step Zz0 hb); clear HB; have HB := n0_; clear n0_; (try clear hb); (try clear hb2); (try clear hk); (try clear hi)) | ((with_reducible refine gate_callee (f := 12) rfl ?_); refine goesL_ (some 52) rfl rfl Tryz.func12 (by kernel_rfl) rfl #[.string (((((((⟨#[40]⟩ : ByteArray) ++ t342) ++ (⟨#[41]⟩ : ByteArray)) ++ x8_17) ++ (⟨#[40]⟩ : ByteArray)) ++ t343) ++ (⟨#[41]⟩ : ByteArray))] rfl Zz2 ?_; (with_reducible refine (tammyref06_Toks.calls kj17 (((((((⟨#[40]⟩ : ByteArray) ++ t342) ++ (⟨#[41]⟩ : ByteArray)) ++ x8_17) ++ (⟨#[40]⟩ : ByteArray)) ++ t343) ++ (⟨#[41]⟩ : ByteArray)) t344 t345 t346 _ A28.out).mono ?_); rintro e w58 ⟨v347, rfl, ho0, hb⟩; refine ⟨_, rfl, ?_⟩; have n0_ := Aside0.mk (Kd.R_lower ho0 (below_size Zz0)); have n1_ := Aside0.mk (below_step Zz0 hb); clear HB; have HO348 := n0_; have HB := n1_; clear n0_ n1_; (try clear hb); (try clear hb2); (try clear hk); (try clear hi); (try clear ho0); obtain ⟨Ao59, co59, eo59⟩ := Kd.R_slice HO348.out; subst eo59) | ((with_reducible refine gate_callee (f := 14) rfl ?_); refine goesL_ (some 58) rfl rfl Tryz.func14 (by kernel_rfl) rfl #[.slice Ao59 t344.length co59, .int .i64 0] rfl Zz2 ?_; (with_reducible refine (expr_Read.calls kj17 _ _ t344 0 t349 t350 t351 _ ?side1 ?side2 A29.out).mono ?_); (case side1 => repeat (first | exact (Kd.R_reads' HO348.out).2.2 | (with_reducible refine Kd.C_alloc ?_ _) | (with_reducible refine Kd.C_drewN ?_ _) | (with_reducible refine Kd.C_drew ?_))); (case side2 => exact (Kd.R_reads' HO348.out).2.1); rintro e w60 ⟨v352, rfl, ho0, hb⟩; refine ⟨_, rfl, ?_⟩; have n0_ := Aside0.mk (Kd.R_below (Zz31 HO348.out) hb); have n1_ := Aside0.mk (Kd.R_lower ho0 (below_size Zz0)); have n2_ := Aside0.mk (below_step Zz0 hb); clear HO348; clear HB; have HO348 := n0_; have HO353 := n1_; have HB := n2_; clear n0_ n1_ n2_; (try clear hb); (try clear hb2); (try clear hk); (try clear hi); (try clear ho0)))
             go_ret
             exact ⟨by first | rfl | (simp [errW_none, errW_some] <;> rfl) | (simp [*, errW_none, errW_some] <;> rfl), by repeat (first | (with_reducible first | exact HB.out | apply below_alloc | apply pw_below_drewN | apply below_drew1) | exact HB.out)⟩
           ·rw [if_neg c27] at H
            exact absurd H (by simp)
          ·rw [if_neg c26] at H
           exact absurd H (by simp)
         ·rw [if_neg c24] at H
          exact absurd H (by simp)
        ·rw [if_neg c23] at H
         exact absurd H (by simp)
       ·rw [if_neg c22] at H
        exact absurd H (by simp)
      ·rw [if_neg c21] at H
       exact absurd H (by simp)
end Go.Proofs.YtniaooodlccmcaaGreatDoor.Q

