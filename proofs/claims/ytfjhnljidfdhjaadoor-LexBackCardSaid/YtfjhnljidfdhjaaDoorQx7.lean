-- Written by a program of the prover's (a print of the translation, with contracts of its own); nothing in it is trusted: Lean checks it.
import Derived.Test.YtfjhnljidfdhjaaDoorQx0
import Derived.Test.YtfjhnljidfdhjaaDoorQx3
namespace Go.Proofs.YtfjhnljidfdhjaaDoor.Q
open Go.RowKit Go.Proofs.YtfjhnljidfdhjaaDoorW.PrintWords Go.Proofs.YtfjhnljidfdhjaaDoorW.PrintLast Go.Proofs.YtfjhnljidfdhjaaDoorW.PrintMore
attribute [local go_sem] max2_int min2_int max_two min_two max_three min_three max_four min_four   -- for this text's walks alone
set_option linter.unusedVariables false
set_option linter.unusedSimpArgs false

/-! ### tammylaw06_LexBack: function 4 -/
mutual
def tammylaw06_LexBack.l0 : Nat → ByteArray → Bool → List (S32) → Int → Int → Option (Bool)
  | 0, _, _, _, _, _ => none
  | k + 1, x0, x3, x4, x7, x8 => if x8 < (x4.length : Int) then (if 0 ≤ x8 then (if ((rd_T32 x4 x8).f2) < x7 then (tammylaw06_LexBack.j1 k x0 x3 x4 x7 x8 true ((rd_T32 x4 x8).f0) ((rd_T32 x4 x8).f1) ((rd_T32 x4 x8).f2)) else (if ((rd_T32 x4 x8).f1).toList = ([] : List UInt8) then (tammylaw06_LexBack.j1 k x0 x3 x4 x7 x8 true ((rd_T32 x4 x8).f0) ((rd_T32 x4 x8).f1) ((rd_T32 x4 x8).f2)) else (if (wrap64 (((rd_T32 x4 x8).f2) + (((rd_T32 x4 x8).f1).size : Int))) > (x0.size : Int) then (tammylaw06_LexBack.j1 k x0 x3 x4 x7 x8 true ((rd_T32 x4 x8).f0) ((rd_T32 x4 x8).f1) ((rd_T32 x4 x8).f2)) else (if 0 ≤ ((rd_T32 x4 x8).f2) then (if ((rd_T32 x4 x8).f2) ≤ (wrap64 (((rd_T32 x4 x8).f2) + (((rd_T32 x4 x8).f1).size : Int))) then (if (wrap64 (((rd_T32 x4 x8).f2) + (((rd_T32 x4 x8).f1).size : Int))) ≤ (x0.size : Int) then (tammylaw06_LexBack.j1 k x0 x3 x4 x7 x8 ((x0.extract (((rd_T32 x4 x8).f2) : Int).toNat ((wrap64 (((rd_T32 x4 x8).f2) + (((rd_T32 x4 x8).f1).size : Int))) : Int).toNat).toList != ((rd_T32 x4 x8).f1).toList) ((rd_T32 x4 x8).f0) ((rd_T32 x4 x8).f1) ((rd_T32 x4 x8).f2)) else (none)) else (none)) else (none))))) else (none)) else ((lex_Text.f k x4).bind fun t178 => ((lex_Toks.f k t178).bind fun bt179 => (if bt179.2.2 = 0 then (tammylaw06_LexBack.j3 k x3 x4 bt179.1 ((bt179.1.length : Int) != (x4.length : Int))) else (tammylaw06_LexBack.j3 k x3 x4 bt179.1 true))))
def tammylaw06_LexBack.j1 : Nat → ByteArray → Bool → List (S32) → Int → Int → Bool → Int → ByteArray → Int → Option (Bool)
  | 0, _, _, _, _, _, _, _, _, _ => none
  | k + 1, x0, x3, x4, x7, x8, x92, x178000, x178001, x178002 => if x92 = true then (some false) else (tammylaw06_LexBack.l1 k x0 x3 x4 x8 x7 x178000 x178001 x178002)
def tammylaw06_LexBack.l1 : Nat → ByteArray → Bool → List (S32) → Int → Int → Int → ByteArray → Int → Option (Bool)
  | 0, _, _, _, _, _, _, _, _ => none
  | k + 1, x0, x3, x4, x8, x10, x178000, x178001, x178002 => if x10 < x178002 then (if 0 ≤ x10 then (if x10 < (x0.size : Int) then (if (bt x0 x10) = 32 then (tammylaw06_LexBack.l1 k x0 x3 x4 x8 (wrap64 (x10 + 1)) x178000 x178001 x178002) else (if (bt x0 x10) = 9 then (tammylaw06_LexBack.l1 k x0 x3 x4 x8 (wrap64 (x10 + 1)) x178000 x178001 x178002) else (if (bt x0 x10) = 10 then (tammylaw06_LexBack.l1 k x0 x3 x4 x8 (wrap64 (x10 + 1)) x178000 x178001 x178002) else (some false)))) else (none)) else (none)) else (tammylaw06_LexBack.l0 k x0 x3 x4 (wrap64 (x178002 + (x178001.size : Int))) (wrap64 (x8 + 1)))
def tammylaw06_LexBack.j3 : Nat → Bool → List (S32) → List (S32) → Bool → Option (Bool)
  | 0, _, _, _, _ => none
  | k + 1, x3, x4, x11, x137 => if x137 = true then (some false) else (tammylaw06_LexBack.l2 k x3 x4 x11 0)
def tammylaw06_LexBack.l2 : Nat → Bool → List (S32) → List (S32) → Int → Option (Bool)
  | 0, _, _, _, _ => none
  | k + 1, x3, x4, x11, x14 => if x14 < (x4.length : Int) then (if 0 ≤ x14 then (if x14 < (x11.length : Int) then (if ((rd_T32 x11 x14).f0) = ((rd_T32 x4 x14).f0) then (if ((rd_T32 x11 x14).f1).toList = ((rd_T32 x4 x14).f1).toList then (tammylaw06_LexBack.l2 k x3 x4 x11 (wrap64 (x14 + 1))) else (some false)) else (some false)) else (none)) else (none)) else (some x3)
end
def tammylaw06_LexBack.f (k : Nat) (a0 : ByteArray) : Option (Bool) := (tammylaw06_shown.f k).bind fun t170 => (if (a0.size : Int) > 1000 then (some t170) else ((lex_Toks.f k a0).bind fun bt171 => (if bt171.2.2 = 0 then (tammylaw06_LexBack.l0 k a0 t170 bt171.1 0 0) else (if t170 = true then (if bt171.2.2 = 2 then (if (bt171.1.length : Int) = 0 then (if bt171.2.1 ≥ 0 then (some (decide (bt171.2.1 < (a0.size : Int)))) else (some false)) else (some false)) else (some false)) else (some false)))))
theorem tammylaw06_LexBack.mono_l : ∀ k, (∀ y0 y1 y2 y3 y4, LeO (tammylaw06_LexBack.l0 k y0 y1 y2 y3 y4) (tammylaw06_LexBack.l0 (k + 1) y0 y1 y2 y3 y4)) ∧ (∀ y0 y1 y2 y3 y4 y5 y6 y7 y8, LeO (tammylaw06_LexBack.j1 k y0 y1 y2 y3 y4 y5 y6 y7 y8) (tammylaw06_LexBack.j1 (k + 1) y0 y1 y2 y3 y4 y5 y6 y7 y8)) ∧ (∀ y0 y1 y2 y3 y4 y5 y6 y7, LeO (tammylaw06_LexBack.l1 k y0 y1 y2 y3 y4 y5 y6 y7) (tammylaw06_LexBack.l1 (k + 1) y0 y1 y2 y3 y4 y5 y6 y7)) ∧ (∀ y0 y1 y2 y3, LeO (tammylaw06_LexBack.j3 k y0 y1 y2 y3) (tammylaw06_LexBack.j3 (k + 1) y0 y1 y2 y3)) ∧ (∀ y0 y1 y2 y3, LeO (tammylaw06_LexBack.l2 k y0 y1 y2 y3) (tammylaw06_LexBack.l2 (k + 1) y0 y1 y2 y3))
  | 0 => ⟨fun _ _ _ _ _ r h => by simp [tammylaw06_LexBack.l0] at h, fun _ _ _ _ _ _ _ _ _ r h => by simp [tammylaw06_LexBack.j1] at h, fun _ _ _ _ _ _ _ _ r h => by simp [tammylaw06_LexBack.l1] at h, fun _ _ _ _ r h => by simp [tammylaw06_LexBack.j3] at h, fun _ _ _ _ r h => by simp [tammylaw06_LexBack.l2] at h⟩
  | k + 1 => by
    obtain ⟨ih0, ih1, ih2, ih3, ih4⟩ := tammylaw06_LexBack.mono_l k
    refine ⟨?_, ?_, ?_, ?_, ?_⟩
    · intro y0 y1 y2 y3 y4
      unfold tammylaw06_LexBack.l0
      repeat' first
      | (with_reducible exact ih0 _ _ _ _ _)
      | (with_reducible exact ih1 _ _ _ _ _ _ _ _ _)
      | (with_reducible exact ih2 _ _ _ _ _ _ _ _)
      | (with_reducible exact ih3 _ _ _ _)
      | (with_reducible exact ih4 _ _ _ _)
      | (with_reducible exact lex_Text.mono _ _)
      | (with_reducible exact lex_Toks.mono _ _)
      | (with_reducible exact tammylaw06_shown.mono _)
      | (with_reducible exact LeO.refl _)
      | (with_reducible exact LeO.none _)
      | (with_reducible refine LeO.ite ?_ ?_)
      | (with_reducible refine LeO.bind ?_ (fun _ => ?_))
      | exact ih0 _ _ _ _ _
      | exact ih1 _ _ _ _ _ _ _ _ _
      | exact ih2 _ _ _ _ _ _ _ _
      | exact ih3 _ _ _ _
      | exact ih4 _ _ _ _
      | exact lex_Text.mono _ _
      | exact lex_Toks.mono _ _
      | exact tammylaw06_shown.mono _
      | exact LeO.none _
      | refine LeO.ite ?_ ?_
      | refine LeO.bind ?_ (fun _ => ?_)
    · intro y0 y1 y2 y3 y4 y5 y6 y7 y8
      unfold tammylaw06_LexBack.j1
      repeat' first
      | (with_reducible exact ih0 _ _ _ _ _)
      | (with_reducible exact ih1 _ _ _ _ _ _ _ _ _)
      | (with_reducible exact ih2 _ _ _ _ _ _ _ _)
      | (with_reducible exact ih3 _ _ _ _)
      | (with_reducible exact ih4 _ _ _ _)
      | (with_reducible exact lex_Text.mono _ _)
      | (with_reducible exact lex_Toks.mono _ _)
      | (with_reducible exact tammylaw06_shown.mono _)
      | (with_reducible exact LeO.refl _)
      | (with_reducible exact LeO.none _)
      | (with_reducible refine LeO.ite ?_ ?_)
      | (with_reducible refine LeO.bind ?_ (fun _ => ?_))
      | exact ih0 _ _ _ _ _
      | exact ih1 _ _ _ _ _ _ _ _ _
      | exact ih2 _ _ _ _ _ _ _ _
      | exact ih3 _ _ _ _
      | exact ih4 _ _ _ _
      | exact lex_Text.mono _ _
      | exact lex_Toks.mono _ _
      | exact tammylaw06_shown.mono _
      | exact LeO.none _
      | refine LeO.ite ?_ ?_
      | refine LeO.bind ?_ (fun _ => ?_)
    · intro y0 y1 y2 y3 y4 y5 y6 y7
      unfold tammylaw06_LexBack.l1
      repeat' first
      | (with_reducible exact ih0 _ _ _ _ _)
      | (with_reducible exact ih1 _ _ _ _ _ _ _ _ _)
      | (with_reducible exact ih2 _ _ _ _ _ _ _ _)
      | (with_reducible exact ih3 _ _ _ _)
      | (with_reducible exact ih4 _ _ _ _)
      | (with_reducible exact lex_Text.mono _ _)
      | (with_reducible exact lex_Toks.mono _ _)
      | (with_reducible exact tammylaw06_shown.mono _)
      | (with_reducible exact LeO.refl _)
      | (with_reducible exact LeO.none _)
      | (with_reducible refine LeO.ite ?_ ?_)
      | (with_reducible refine LeO.bind ?_ (fun _ => ?_))
      | exact ih0 _ _ _ _ _
      | exact ih1 _ _ _ _ _ _ _ _ _
      | exact ih2 _ _ _ _ _ _ _ _
      | exact ih3 _ _ _ _
      | exact ih4 _ _ _ _
      | exact lex_Text.mono _ _
      | exact lex_Toks.mono _ _
      | exact tammylaw06_shown.mono _
      | exact LeO.none _
      | refine LeO.ite ?_ ?_
      | refine LeO.bind ?_ (fun _ => ?_)
    · intro y0 y1 y2 y3
      unfold tammylaw06_LexBack.j3
      repeat' first
      | (with_reducible exact ih0 _ _ _ _ _)
      | (with_reducible exact ih1 _ _ _ _ _ _ _ _ _)
      | (with_reducible exact ih2 _ _ _ _ _ _ _ _)
      | (with_reducible exact ih3 _ _ _ _)
      | (with_reducible exact ih4 _ _ _ _)
      | (with_reducible exact lex_Text.mono _ _)
      | (with_reducible exact lex_Toks.mono _ _)
      | (with_reducible exact tammylaw06_shown.mono _)
      | (with_reducible exact LeO.refl _)
      | (with_reducible exact LeO.none _)
      | (with_reducible refine LeO.ite ?_ ?_)
      | (with_reducible refine LeO.bind ?_ (fun _ => ?_))
      | exact ih0 _ _ _ _ _
      | exact ih1 _ _ _ _ _ _ _ _ _
      | exact ih2 _ _ _ _ _ _ _ _
      | exact ih3 _ _ _ _
      | exact ih4 _ _ _ _
      | exact lex_Text.mono _ _
      | exact lex_Toks.mono _ _
      | exact tammylaw06_shown.mono _
      | exact LeO.none _
      | refine LeO.ite ?_ ?_
      | refine LeO.bind ?_ (fun _ => ?_)
    · intro y0 y1 y2 y3
      unfold tammylaw06_LexBack.l2
      repeat' first
      | (with_reducible exact ih0 _ _ _ _ _)
      | (with_reducible exact ih1 _ _ _ _ _ _ _ _ _)
      | (with_reducible exact ih2 _ _ _ _ _ _ _ _)
      | (with_reducible exact ih3 _ _ _ _)
      | (with_reducible exact ih4 _ _ _ _)
      | (with_reducible exact lex_Text.mono _ _)
      | (with_reducible exact lex_Toks.mono _ _)
      | (with_reducible exact tammylaw06_shown.mono _)
      | (with_reducible exact LeO.refl _)
      | (with_reducible exact LeO.none _)
      | (with_reducible refine LeO.ite ?_ ?_)
      | (with_reducible refine LeO.bind ?_ (fun _ => ?_))
      | exact ih0 _ _ _ _ _
      | exact ih1 _ _ _ _ _ _ _ _ _
      | exact ih2 _ _ _ _ _ _ _ _
      | exact ih3 _ _ _ _
      | exact ih4 _ _ _ _
      | exact lex_Text.mono _ _
      | exact lex_Toks.mono _ _
      | exact tammylaw06_shown.mono _
      | exact LeO.none _
      | refine LeO.ite ?_ ?_
      | refine LeO.bind ?_ (fun _ => ?_)
theorem tammylaw06_LexBack.mono : ∀ a0 k, LeO (tammylaw06_LexBack.f k a0) (tammylaw06_LexBack.f (k + 1) a0) := by
  intro a0 k
  obtain ⟨ih0, ih1, ih2, ih3, ih4⟩ := tammylaw06_LexBack.mono_l k
  unfold tammylaw06_LexBack.f
  repeat' first
      | (with_reducible exact ih0 _ _ _ _ _)
      | (with_reducible exact ih1 _ _ _ _ _ _ _ _ _)
      | (with_reducible exact ih2 _ _ _ _ _ _ _ _)
      | (with_reducible exact ih3 _ _ _ _)
      | (with_reducible exact ih4 _ _ _ _)
      | (with_reducible exact lex_Text.mono _ _)
      | (with_reducible exact lex_Toks.mono _ _)
      | (with_reducible exact tammylaw06_shown.mono _)
      | (with_reducible exact LeO.refl _)
      | (with_reducible exact LeO.none _)
      | (with_reducible refine LeO.ite ?_ ?_)
      | (with_reducible refine LeO.bind ?_ (fun _ => ?_))
      | exact ih0 _ _ _ _ _
      | exact ih1 _ _ _ _ _ _ _ _ _
      | exact ih2 _ _ _ _ _ _ _ _
      | exact ih3 _ _ _ _
      | exact ih4 _ _ _ _
      | exact lex_Text.mono _ _
      | exact lex_Toks.mono _ _
      | exact tammylaw06_shown.mono _
      | exact LeO.none _
      | refine LeO.ite ?_ ?_
      | refine LeO.bind ?_ (fun _ => ?_)
set_option maxHeartbeats 8000000 in
set_option maxRecDepth 100000 in
theorem tammylaw06_LexBack.calls (k : Nat) (a0 : ByteArray) (r : Bool) (w : World) (h : tammylaw06_LexBack.f k a0 = some r) :
    Calls Tryd.prog 4 #[.string a0] w fun e w' => e = .returned (.bool r) ∧ Below w.heap.size w w' := by
  have hu32 := Tryd.underlying32
  have HB := Aside0.mk (Below.refl w.heap.size w)
  have H : ((tammylaw06_shown.f k).bind fun t170 => (if (a0.size : Int) > 1000 then (some t170) else ((lex_Toks.f k a0).bind fun bt171 => (if bt171.2.2 = 0 then (tammylaw06_LexBack.l0 k a0 t170 bt171.1 0 0) else (if t170 = true then (if bt171.2.2 = 2 then (if (bt171.1.length : Int) = 0 then (if bt171.2.1 ≥ 0 then (some (decide (bt171.2.1 < (a0.size : Int)))) else (some false)) else (some false)) else (some false)) else (some false)))))) = some r := h
  clear h
  replace H := Option.bind_eq_some_iff.mp H
  obtain ⟨t170, A20, H⟩ := H
  replace H : (if (a0.size : Int) > 1000 then (some t170) else ((lex_Toks.f k a0).bind fun bt171 => (if bt171.2.2 = 0 then (tammylaw06_LexBack.l0 k a0 t170 bt171.1 0 0) else (if t170 = true then (if bt171.2.2 = 2 then (if (bt171.1.length : Int) = 0 then (if bt171.2.1 ≥ 0 then (some (decide (bt171.2.1 < (a0.size : Int)))) else (some false)) else (some false)) else (some false)) else (some false))))) = some r := H
  have A2 := Aside0.mk A20
  clear A20
  by_cases c3 : (a0.size : Int) > 1000
  · rw [if_pos c3] at H
    have c3b0 : decide (1000 < (a0.size : Int)) = true := decide_eq_true c3
    have c3b1 : decide (1000 < a0.size) = true := decide_eq_true (by omega)
    clear c3
    obtain rfl := Option.some.inj H
    go_enter Tryd.func4, Tryd.ntmps4
    go_wp2_with (first | (go_at_call 10; (with_reducible refine (tammylaw06_shown.calls k  t170 _ A2.out).mono ?_); rintro e w4 ⟨rfl, hb⟩; have n0_ := Aside0.mk (below_step (by repeat (first | (with_reducible first | exact HB.out | apply below_alloc | apply pw_below_drewN | apply below_drew1) | exact HB.out)) hb); clear HB; have HB := n0_; clear n0_; (try clear hb); (try clear hb2); (try clear hk); (try clear hi)))
    repeat (go_quiet (first | (go_at_call 10; (with_reducible refine (tammylaw06_shown.calls k  t170 _ A2.out).mono ?_); rintro e w4 ⟨rfl, hb⟩; have n0_ := Aside0.mk (below_step (by repeat (first | (with_reducible first | exact HB.out | apply below_alloc | apply pw_below_drewN | apply below_drew1) | exact HB.out)) hb); clear HB; have HB := n0_; clear n0_; (try clear hb); (try clear hb2); (try clear hk); (try clear hi))); try go_wp2_with (first | (go_at_call 10; (with_reducible refine (tammylaw06_shown.calls k  t170 _ A2.out).mono ?_); rintro e w4 ⟨rfl, hb⟩; have n0_ := Aside0.mk (below_step (by repeat (first | (with_reducible first | exact HB.out | apply below_alloc | apply pw_below_drewN | apply below_drew1) | exact HB.out)) hb); clear HB; have HB := n0_; clear n0_; (try clear hb); (try clear hb2); (try clear hk); (try clear hi))))
    go_ret
    exact ⟨by first | rfl | (simp [errW_none, errW_some] <;> rfl) | (simp [*, errW_none, errW_some] <;> rfl), by repeat (first | (with_reducible first | exact HB.out | apply below_alloc | apply pw_below_drewN | apply below_drew1) | exact HB.out)⟩
  · rw [if_neg c3] at H
    have c3b0 : decide (1000 < (a0.size : Int)) = false := decide_eq_false c3
    have c3b1 : decide (1000 < a0.size) = false := decide_eq_false (by omega)
    clear c3
    replace H := Option.bind_eq_some_iff.mp H
    obtain ⟨⟨t171, t172, t173⟩, A50, H⟩ := H
    replace H : (if t173 = 0 then (tammylaw06_LexBack.l0 k a0 t170 t171 0 0) else (if t170 = true then (if t173 = 2 then (if (t171.length : Int) = 0 then (if t172 ≥ 0 then (some (decide (t172 < (a0.size : Int)))) else (some false)) else (some false)) else (some false)) else (some false))) = some r := H
    have A5 := Aside0.mk A50
    clear A50
    by_cases c6 : t173 = 0
    · rw [if_pos c6] at H
      have c6b0 : (t173 == 0) = true := beq_iff_eq.mpr c6
      have c6b1 : (t173 != 0) = false := bne_eq_false_iff_eq.mpr c6
      clear c6
      have H' := Aside0.mk H
      clear H
      go_enter Tryd.func4, Tryd.ntmps4
      go_wp2_with (first | (go_at_call 10; (with_reducible refine (tammylaw06_shown.calls k  t170 _ A2.out).mono ?_); rintro e w7 ⟨rfl, hb⟩; have n0_ := Aside0.mk (below_step (by repeat (first | (with_reducible first | exact HB.out | apply below_alloc | apply pw_below_drewN | apply below_drew1) | exact HB.out)) hb); clear HB; have HB := n0_; clear n0_; (try clear hb); (try clear hb2); (try clear hk); (try clear hi)) | (go_at_call 11; (with_reducible refine (lex_Toks.calls k a0 t171 t172 t173 _ A5.out).mono ?_); rintro e w8 ⟨v174, rfl, ho0, hb⟩; have n0_ := Aside0.mk (Kd.R_lower ho0 (below_size (by repeat (first | (with_reducible first | exact HB.out | apply below_alloc | apply pw_below_drewN | apply below_drew1) | exact HB.out)))); have n1_ := Aside0.mk (below_step (by repeat (first | (with_reducible first | exact HB.out | apply below_alloc | apply pw_below_drewN | apply below_drew1) | exact HB.out)) hb); clear HB; have HO175 := n0_; have HB := n1_; clear n0_ n1_; (try clear hb); (try clear hb2); (try clear hk); (try clear hi); (try clear ho0)))
      repeat (go_quiet (first | (go_at_call 10; (with_reducible refine (tammylaw06_shown.calls k  t170 _ A2.out).mono ?_); rintro e w7 ⟨rfl, hb⟩; have n0_ := Aside0.mk (below_step (by repeat (first | (with_reducible first | exact HB.out | apply below_alloc | apply pw_below_drewN | apply below_drew1) | exact HB.out)) hb); clear HB; have HB := n0_; clear n0_; (try clear hb); (try clear hb2); (try clear hk); (try clear hi)) | (go_at_call 11; (with_reducible refine (lex_Toks.calls k a0 t171 t172 t173 _ A5.out).mono ?_); rintro e w8 ⟨v174, rfl, ho0, hb⟩; have n0_ := Aside0.mk (Kd.R_lower ho0 (below_size (by repeat (first | (with_reducible first | exact HB.out | apply below_alloc | apply pw_below_drewN | apply below_drew1) | exact HB.out)))); have n1_ := Aside0.mk (below_step (by repeat (first | (with_reducible first | exact HB.out | apply below_alloc | apply pw_below_drewN | apply below_drew1) | exact HB.out)) hb); clear HB; have HO175 := n0_; have HB := n1_; clear n0_ n1_; (try clear hb); (try clear hb2); (try clear hk); (try clear hi); (try clear ho0))); try go_wp2_with (first | (go_at_call 10; (with_reducible refine (tammylaw06_shown.calls k  t170 _ A2.out).mono ?_); rintro e w7 ⟨rfl, hb⟩; have n0_ := Aside0.mk (below_step (by repeat (first | (with_reducible first | exact HB.out | apply below_alloc | apply pw_below_drewN | apply below_drew1) | exact HB.out)) hb); clear HB; have HB := n0_; clear n0_; (try clear hb); (try clear hb2); (try clear hk); (try clear hi)) | (go_at_call 11; (with_reducible refine (lex_Toks.calls k a0 t171 t172 t173 _ A5.out).mono ?_); rintro e w8 ⟨v174, rfl, ho0, hb⟩; have n0_ := Aside0.mk (Kd.R_lower ho0 (below_size (by repeat (first | (with_reducible first | exact HB.out | apply below_alloc | apply pw_below_drewN | apply below_drew1) | exact HB.out)))); have n1_ := Aside0.mk (below_step (by repeat (first | (with_reducible first | exact HB.out | apply below_alloc | apply pw_below_drewN | apply below_drew1) | exact HB.out)) hb); clear HB; have HO175 := n0_; have HB := n1_; clear n0_ n1_; (try clear hb); (try clear hb2); (try clear hk); (try clear hi); (try clear ho0))))
      go_loopg [7, 8] k (fun kq v7 v8 w' => ∃ (x7_1 : Int) (x8_1 : Int), v7 = .int .i64 x7_1 ∧ v8 = .int .i64 x8_1 ∧ Aside0 (tammylaw06_LexBack.l0 kq a0 t170 t171 x7_1 x8_1 = some r) ∧ Aside0 (kq ≤ k) ∧ Aside0 (Kd.R k32 32 w' w.heap.size (fun _ => True) v174 t171) ∧ Aside0 (Below w.heap.size w w'))
      case atStart => exact ⟨(0), (0), (by first | rfl | (simp; done) | (simp [*]; done)), (by first | rfl | (simp; done) | (simp [*]; done)), H', ⟨Nat.le_refl _⟩, ⟨by (with_reducible repeat (first | apply Kd.R_alloc | apply Kd.R_drewN | apply Kd.R_drew)); exact HO175.out⟩, ⟨by repeat (first | (with_reducible first | exact HB.out | apply below_alloc | apply pw_below_drewN | apply below_drew1) | exact HB.out)⟩⟩
      case round =>
        clear H'
        try clear p2
        try clear c3
        try clear c3b0
        try clear c3b1
        try clear c4
        try clear c6
        try clear c6b0
        try clear c6b1
        obtain ⟨x7_1, x8_1, rfl, rfl, HA, HK1, HO_4, HB⟩ := hrel
        cases gk with
        | zero => exact absurd HA.out (by simp [tammylaw06_LexBack.l0])
        | succ k1 =>
          have H := HA.out
          clear HA
          simp only [tammylaw06_LexBack.l0] at H
          by_cases c9 : x8_1 < (t171.length : Int)
          · rw [if_pos c9] at H
            have c9b0 : decide (x8_1 < (t171.length : Int)) = true := decide_eq_true c9
            clear c9
            by_cases c10 : 0 ≤ x8_1
            · rw [if_pos c10] at H
              have c10b0 : decide (0 ≤ x8_1) = true := decide_eq_true c10
              clear c10
              have HC11 := Aside0.mk H
              clear H
              obtain ⟨Ao12, co12, eo12⟩ := Kd.R_slice HO_4.out
              subst eo12
              have p176 : 0 ≤ (x8_1 : Int) := of_decide_eq_true (by first | (with_reducible assumption) | assumption)
              have q176 : x8_1 < (t171.length : Int) := of_decide_eq_true (by first | (with_reducible assumption) | assumption)
              obtain ⟨ad176, e176, hx176_0, hx176_1, hx176_2⟩ := at_T32 (Kd.R_reads' HO_4.out).2.2 x8_1 p176 q176
              cases e176
              replace p176 := eq_true p176
              replace q176 := eq_true q176
              go_upto_region 12 with (first | ((with_reducible refine gate_dst (N := 9) rfl ?_); (try (refine gate_guard (by rfl) ?_; dsimp only)); refine box_event ?hg (N := 9) ?hd (cs := #[.int .i64 0, .string (⟨#[]⟩ : ByteArray), .int .i64 0]) (t := 32) ?hr ?_; (case hd => rfl); (case hg => rfl); (case hr => first | (go_simp; done) | (go_simp; rfl)); intro gb177 hg w13 hbox hb; have n0_ := Aside0.mk (Kd.R_below (Kd.R_elderB (by (with_reducible repeat (first | apply Kd.R_alloc | apply Kd.R_drewN | apply Kd.R_drew)); exact HO_4.out) gb177 (Nat.le_of_eq hg.symm)) hb); have n1_ := Aside0.mk (below_step (by repeat (first | (with_reducible first | exact HB.out | apply below_alloc | apply pw_below_drewN | apply below_drew1) | exact HB.out)) hb); have n2_ := Aside0.mk (hbox); have n3_ := Aside0.mk ((by rw [hg]; exact (below_size (by repeat (first | (with_reducible first | exact HB.out | apply below_alloc | apply pw_below_drewN | apply below_drew1) | exact HB.out))) : w.heap.size ≤ gb177)); have n4_ := Aside0.mk ((by rw [hg]; exact (below_size (by repeat (first | (with_reducible first | exact HB.out | apply below_alloc | apply pw_below_drewN | apply below_drew1) | exact HB.out))) : w.heap.size ≤ gb177)); clear HO_4; clear HB; have HO_4 := n0_; have HB := n1_; have BK177 := n2_; have GW177 := n3_; have GE177 := n4_; clear n0_ n1_ n2_ n3_ n4_; clear hb hbox hg; have hcz14_0 : w13.cell? ⟨gb177, 0, none⟩ = some (.int .i64 0) := (blk_cell BK177.out 0).trans rfl; have hcz14_1 : w13.cell? ⟨gb177, 1, none⟩ = some (.string (⟨#[]⟩ : ByteArray)) := (blk_cell BK177.out 1).trans rfl; have hcz14_2 : w13.cell? ⟨gb177, 2, none⟩ = some (.int .i64 0) := (blk_cell BK177.out 2).trans rfl; have hfz14_0 := blk_frozen BK177.out 0; have hfz14_1 := blk_frozen BK177.out 1; have hfz14_2 := blk_frozen BK177.out 2))
              repeat (go_quiet (first | ((with_reducible refine gate_dst (N := 9) rfl ?_); (try (refine gate_guard (by rfl) ?_; dsimp only)); refine box_event ?hg (N := 9) ?hd (cs := #[.int .i64 0, .string (⟨#[]⟩ : ByteArray), .int .i64 0]) (t := 32) ?hr ?_; (case hd => rfl); (case hg => rfl); (case hr => first | (go_simp; done) | (go_simp; rfl)); intro gb177 hg w13 hbox hb; have n0_ := Aside0.mk (Kd.R_below (Kd.R_elderB (by (with_reducible repeat (first | apply Kd.R_alloc | apply Kd.R_drewN | apply Kd.R_drew)); exact HO_4.out) gb177 (Nat.le_of_eq hg.symm)) hb); have n1_ := Aside0.mk (below_step (by repeat (first | (with_reducible first | exact HB.out | apply below_alloc | apply pw_below_drewN | apply below_drew1) | exact HB.out)) hb); have n2_ := Aside0.mk (hbox); have n3_ := Aside0.mk ((by rw [hg]; exact (below_size (by repeat (first | (with_reducible first | exact HB.out | apply below_alloc | apply pw_below_drewN | apply below_drew1) | exact HB.out))) : w.heap.size ≤ gb177)); have n4_ := Aside0.mk ((by rw [hg]; exact (below_size (by repeat (first | (with_reducible first | exact HB.out | apply below_alloc | apply pw_below_drewN | apply below_drew1) | exact HB.out))) : w.heap.size ≤ gb177)); clear HO_4; clear HB; have HO_4 := n0_; have HB := n1_; have BK177 := n2_; have GW177 := n3_; have GE177 := n4_; clear n0_ n1_ n2_ n3_ n4_; clear hb hbox hg; have hcz14_0 : w13.cell? ⟨gb177, 0, none⟩ = some (.int .i64 0) := (blk_cell BK177.out 0).trans rfl; have hcz14_1 : w13.cell? ⟨gb177, 1, none⟩ = some (.string (⟨#[]⟩ : ByteArray)) := (blk_cell BK177.out 1).trans rfl; have hcz14_2 : w13.cell? ⟨gb177, 2, none⟩ = some (.int .i64 0) := (blk_cell BK177.out 2).trans rfl; have hfz14_0 := blk_frozen BK177.out 0; have hfz14_1 := blk_frozen BK177.out 1; have hfz14_2 := blk_frozen BK177.out 2)); go_upto_region 12 with (first | ((with_reducible refine gate_dst (N := 9) rfl ?_); (try (refine gate_guard (by rfl) ?_; dsimp only)); refine box_event ?hg (N := 9) ?hd (cs := #[.int .i64 0, .string (⟨#[]⟩ : ByteArray), .int .i64 0]) (t := 32) ?hr ?_; (case hd => rfl); (case hg => rfl); (case hr => first | (go_simp; done) | (go_simp; rfl)); intro gb177 hg w13 hbox hb; have n0_ := Aside0.mk (Kd.R_below (Kd.R_elderB (by (with_reducible repeat (first | apply Kd.R_alloc | apply Kd.R_drewN | apply Kd.R_drew)); exact HO_4.out) gb177 (Nat.le_of_eq hg.symm)) hb); have n1_ := Aside0.mk (below_step (by repeat (first | (with_reducible first | exact HB.out | apply below_alloc | apply pw_below_drewN | apply below_drew1) | exact HB.out)) hb); have n2_ := Aside0.mk (hbox); have n3_ := Aside0.mk ((by rw [hg]; exact (below_size (by repeat (first | (with_reducible first | exact HB.out | apply below_alloc | apply pw_below_drewN | apply below_drew1) | exact HB.out))) : w.heap.size ≤ gb177)); have n4_ := Aside0.mk ((by rw [hg]; exact (below_size (by repeat (first | (with_reducible first | exact HB.out | apply below_alloc | apply pw_below_drewN | apply below_drew1) | exact HB.out))) : w.heap.size ≤ gb177)); clear HO_4; clear HB; have HO_4 := n0_; have HB := n1_; have BK177 := n2_; have GW177 := n3_; have GE177 := n4_; clear n0_ n1_ n2_ n3_ n4_; clear hb hbox hg; have hcz14_0 : w13.cell? ⟨gb177, 0, none⟩ = some (.int .i64 0) := (blk_cell BK177.out 0).trans rfl; have hcz14_1 : w13.cell? ⟨gb177, 1, none⟩ = some (.string (⟨#[]⟩ : ByteArray)) := (blk_cell BK177.out 1).trans rfl; have hcz14_2 : w13.cell? ⟨gb177, 2, none⟩ = some (.int .i64 0) := (blk_cell BK177.out 2).trans rfl; have hfz14_0 := blk_frozen BK177.out 0; have hfz14_1 := blk_frozen BK177.out 1; have hfz14_2 := blk_frozen BK177.out 2)))
              (try simp only [Act.put, List.setIfInBounds_toArray, List.set_cons_zero, List.set_cons_succ])
              go_cut [92] (fun v92 wc => ∃ (kq : Nat) (x92_10 : Bool), v92 = .bool x92_10 ∧ Aside0 (tammylaw06_LexBack.j1 kq a0 t170 t171 x7_1 x8_1 x92_10 ((rd_T32 t171 x8_1).f0) ((rd_T32 t171 x8_1).f1) ((rd_T32 t171 x8_1).f2) = some r) ∧ Aside0 (kq ≤ k1) ∧ Aside0 (Kd.R k32 32 wc w.heap.size (fun k_ => k_ ≠ gb177) (.slice (some ad176) t171.length co12) t171) ∧ Aside0 (wc.heap[gb177]? = some (.cells #[.int .i64 ((rd_T32 t171 x8_1).f0), .string ((rd_T32 t171 x8_1).f1), .int .i64 ((rd_T32 t171 x8_1).f2)] 32 (0, 0))) ∧ Aside0 (Below w.heap.size w wc))
              case first =>
                have H := HC11.out
                clear HC11
                by_cases c15 : ((rd_T32 t171 x8_1).f2) < x7_1
                · rw [if_pos c15] at H
                  have c15b0 : decide (((rd_T32 t171 x8_1).f2) < x7_1) = true := decide_eq_true c15
                  clear c15
                  (first | rw [c15b0] | (simp only [i64_w, i32_w]; rw [c15b0]) | skip)
                  have H' := Aside0.mk H
                  clear H
                  have hcz16_0 : w13.cell? ⟨gb177, 0, none⟩ = some (.int .i64 0) := (blk_cell BK177.out 0).trans rfl
                  have hcz16_1 : w13.cell? ⟨gb177, 1, none⟩ = some (.string (⟨#[]⟩ : ByteArray)) := (blk_cell BK177.out 1).trans rfl
                  have hcz16_2 : w13.cell? ⟨gb177, 2, none⟩ = some (.int .i64 0) := (blk_cell BK177.out 2).trans rfl
                  have hfz16_0 := blk_frozen BK177.out 0
                  have hfz16_1 := blk_frozen BK177.out 1
                  have hfz16_2 := blk_frozen BK177.out 2
                  go_wp2
                  repeat (go_quiet (fail); try go_wp2)
                  go_meet
                  case rel => exact ⟨_, (true), (by first | rfl | (simp; done) | (simp [*]; done)), H', ⟨by have := HK1.out; first | omega | exact Nat.le_refl _⟩, ⟨by (with_reducible repeat (first | apply Kd.R_alloc | apply Kd.R_drewN | apply Kd.R_drew)); exact Kd.R_mono (Kd.R_far (p := ⟨gb177, 2, none⟩) (Kd.R_far (p := ⟨gb177, 1, none⟩) (Kd.R_far (p := ⟨gb177, 0, none⟩) (Kd.R_mono HO_4.out (fun k_ hk => (⟨hk, hk.2⟩ : _ ∧ k_ ≠ gb177))) (fun _ hk => hk.2) (.int .i64 ((rd_T32 t171 x8_1).f0))) (fun _ hk => hk.2) (.string ((rd_T32 t171 x8_1).f1))) (fun _ hk => hk.2) (.int .i64 ((rd_T32 t171 x8_1).f2))) (fun _ hk => hk.1.2)⟩, ⟨by (with_reducible repeat (first | refine blk_drewN ?_ _ | refine blk_drew ?_ | refine blk_alloc ?_ _)); refine blk_put (cs := #[.int .i64 ((rd_T32 t171 x8_1).f0), .string ((rd_T32 t171 x8_1).f1), .int .i64 0]) ?_ 2 _ rfl; (with_reducible repeat (first | refine blk_drewN ?_ _ | refine blk_drew ?_ | refine blk_alloc ?_ _)); refine blk_put (cs := #[.int .i64 ((rd_T32 t171 x8_1).f0), .string (⟨#[]⟩ : ByteArray), .int .i64 0]) ?_ 1 _ rfl; (with_reducible repeat (first | refine blk_drewN ?_ _ | refine blk_drew ?_ | refine blk_alloc ?_ _)); refine blk_put (cs := #[.int .i64 0, .string (⟨#[]⟩ : ByteArray), .int .i64 0]) ?_ 0 _ rfl; (with_reducible repeat (first | refine blk_drewN ?_ _ | refine blk_drew ?_ | refine blk_alloc ?_ _)); exact BK177.out⟩, ⟨by repeat (first | (with_reducible first | exact HB.out | apply below_alloc | apply pw_below_drewN | apply below_drew1 | refine below_set ?_ GE177.out) | exact HB.out)⟩⟩
                · rw [if_neg c15] at H
                  have c15b0 : decide (((rd_T32 t171 x8_1).f2) < x7_1) = false := decide_eq_false c15
                  clear c15
                  (first | rw [c15b0] | (simp only [i64_w, i32_w]; rw [c15b0]) | skip)
                  by_cases c17 : ((rd_T32 t171 x8_1).f1).toList = ([] : List UInt8)
                  · rw [if_pos c17] at H
                    have c17b0 : (((rd_T32 t171 x8_1).f1).toList == ([] : List UInt8)) = true := beq_iff_eq.mpr c17
                    have c17b1 : (((rd_T32 t171 x8_1).f1).toList != ([] : List UInt8)) = false := bne_eq_false_iff_eq.mpr c17
                    clear c17
                    have H' := Aside0.mk H
                    clear H
                    have hcz18_0 : w13.cell? ⟨gb177, 0, none⟩ = some (.int .i64 0) := (blk_cell BK177.out 0).trans rfl
                    have hcz18_1 : w13.cell? ⟨gb177, 1, none⟩ = some (.string (⟨#[]⟩ : ByteArray)) := (blk_cell BK177.out 1).trans rfl
                    have hcz18_2 : w13.cell? ⟨gb177, 2, none⟩ = some (.int .i64 0) := (blk_cell BK177.out 2).trans rfl
                    have hfz18_0 := blk_frozen BK177.out 0
                    have hfz18_1 := blk_frozen BK177.out 1
                    have hfz18_2 := blk_frozen BK177.out 2
                    go_wp2
                    repeat (go_quiet (fail); try go_wp2)
                    go_meet
                    case rel => exact ⟨_, (true), (by first | rfl | (simp; done) | (simp [*]; done)), H', ⟨by have := HK1.out; first | omega | exact Nat.le_refl _⟩, ⟨by (with_reducible repeat (first | apply Kd.R_alloc | apply Kd.R_drewN | apply Kd.R_drew)); exact Kd.R_mono (Kd.R_far (p := ⟨gb177, 2, none⟩) (Kd.R_far (p := ⟨gb177, 1, none⟩) (Kd.R_far (p := ⟨gb177, 0, none⟩) (Kd.R_mono HO_4.out (fun k_ hk => (⟨hk, hk.2⟩ : _ ∧ k_ ≠ gb177))) (fun _ hk => hk.2) (.int .i64 ((rd_T32 t171 x8_1).f0))) (fun _ hk => hk.2) (.string ((rd_T32 t171 x8_1).f1))) (fun _ hk => hk.2) (.int .i64 ((rd_T32 t171 x8_1).f2))) (fun _ hk => hk.1.2)⟩, ⟨by (with_reducible repeat (first | refine blk_drewN ?_ _ | refine blk_drew ?_ | refine blk_alloc ?_ _)); refine blk_put (cs := #[.int .i64 ((rd_T32 t171 x8_1).f0), .string ((rd_T32 t171 x8_1).f1), .int .i64 0]) ?_ 2 _ rfl; (with_reducible repeat (first | refine blk_drewN ?_ _ | refine blk_drew ?_ | refine blk_alloc ?_ _)); refine blk_put (cs := #[.int .i64 ((rd_T32 t171 x8_1).f0), .string (⟨#[]⟩ : ByteArray), .int .i64 0]) ?_ 1 _ rfl; (with_reducible repeat (first | refine blk_drewN ?_ _ | refine blk_drew ?_ | refine blk_alloc ?_ _)); refine blk_put (cs := #[.int .i64 0, .string (⟨#[]⟩ : ByteArray), .int .i64 0]) ?_ 0 _ rfl; (with_reducible repeat (first | refine blk_drewN ?_ _ | refine blk_drew ?_ | refine blk_alloc ?_ _)); exact BK177.out⟩, ⟨by repeat (first | (with_reducible first | exact HB.out | apply below_alloc | apply pw_below_drewN | apply below_drew1 | refine below_set ?_ GE177.out) | exact HB.out)⟩⟩
                  · rw [if_neg c17] at H
                    have c17b0 : (((rd_T32 t171 x8_1).f1).toList == ([] : List UInt8)) = false := beq_eq_false_iff_ne.mpr c17
                    have c17b1 : (((rd_T32 t171 x8_1).f1).toList != ([] : List UInt8)) = true := bne_iff_ne.mpr c17
                    by_cases c19 : (wrap64 (((rd_T32 t171 x8_1).f2) + (((rd_T32 t171 x8_1).f1).size : Int))) > (a0.size : Int)
                    · rw [if_pos c19] at H
                      have c19b0 : decide ((a0.size : Int) < (wrap64 (((rd_T32 t171 x8_1).f2) + (((rd_T32 t171 x8_1).f1).size : Int)))) = true := decide_eq_true c19
                      clear c19
                      have H' := Aside0.mk H
                      clear H
                      have hcz20_0 : w13.cell? ⟨gb177, 0, none⟩ = some (.int .i64 0) := (blk_cell BK177.out 0).trans rfl
                      have hcz20_1 : w13.cell? ⟨gb177, 1, none⟩ = some (.string (⟨#[]⟩ : ByteArray)) := (blk_cell BK177.out 1).trans rfl
                      have hcz20_2 : w13.cell? ⟨gb177, 2, none⟩ = some (.int .i64 0) := (blk_cell BK177.out 2).trans rfl
                      have hfz20_0 := blk_frozen BK177.out 0
                      have hfz20_1 := blk_frozen BK177.out 1
                      have hfz20_2 := blk_frozen BK177.out 2
                      go_wp2
                      repeat (go_quiet (fail); try go_wp2)
                      go_meet
                      case rel => exact ⟨_, (true), (by first | rfl | (simp; done) | (simp [*]; done)), H', ⟨by have := HK1.out; first | omega | exact Nat.le_refl _⟩, ⟨by (with_reducible repeat (first | apply Kd.R_alloc | apply Kd.R_drewN | apply Kd.R_drew)); exact Kd.R_mono (Kd.R_far (p := ⟨gb177, 2, none⟩) (Kd.R_far (p := ⟨gb177, 1, none⟩) (Kd.R_far (p := ⟨gb177, 0, none⟩) (Kd.R_mono HO_4.out (fun k_ hk => (⟨hk, hk.2⟩ : _ ∧ k_ ≠ gb177))) (fun _ hk => hk.2) (.int .i64 ((rd_T32 t171 x8_1).f0))) (fun _ hk => hk.2) (.string ((rd_T32 t171 x8_1).f1))) (fun _ hk => hk.2) (.int .i64 ((rd_T32 t171 x8_1).f2))) (fun _ hk => hk.1.2)⟩, ⟨by (with_reducible repeat (first | refine blk_drewN ?_ _ | refine blk_drew ?_ | refine blk_alloc ?_ _)); refine blk_put (cs := #[.int .i64 ((rd_T32 t171 x8_1).f0), .string ((rd_T32 t171 x8_1).f1), .int .i64 0]) ?_ 2 _ rfl; (with_reducible repeat (first | refine blk_drewN ?_ _ | refine blk_drew ?_ | refine blk_alloc ?_ _)); refine blk_put (cs := #[.int .i64 ((rd_T32 t171 x8_1).f0), .string (⟨#[]⟩ : ByteArray), .int .i64 0]) ?_ 1 _ rfl; (with_reducible repeat (first | refine blk_drewN ?_ _ | refine blk_drew ?_ | refine blk_alloc ?_ _)); refine blk_put (cs := #[.int .i64 0, .string (⟨#[]⟩ : ByteArray), .int .i64 0]) ?_ 0 _ rfl; (with_reducible repeat (first | refine blk_drewN ?_ _ | refine blk_drew ?_ | refine blk_alloc ?_ _)); exact BK177.out⟩, ⟨by repeat (first | (with_reducible first | exact HB.out | apply below_alloc | apply pw_below_drewN | apply below_drew1 | refine below_set ?_ GE177.out) | exact HB.out)⟩⟩
                    · rw [if_neg c19] at H
                      have c19b0 : decide ((a0.size : Int) < (wrap64 (((rd_T32 t171 x8_1).f2) + (((rd_T32 t171 x8_1).f1).size : Int)))) = false := decide_eq_false c19
                      clear c19
                      by_cases c21 : 0 ≤ ((rd_T32 t171 x8_1).f2)
                      · rw [if_pos c21] at H
                        have c21b0 := eq_true c21
                        have c21b1 : decide (0 ≤ ((rd_T32 t171 x8_1).f2)) = true := decide_eq_true c21
                        clear c21
                        by_cases c22 : ((rd_T32 t171 x8_1).f2) ≤ (wrap64 (((rd_T32 t171 x8_1).f2) + (((rd_T32 t171 x8_1).f1).size : Int)))
                        · rw [if_pos c22] at H
                          have c22b0 := eq_true c22
                          have c22b1 : decide (((rd_T32 t171 x8_1).f2) ≤ (wrap64 (((rd_T32 t171 x8_1).f2) + (((rd_T32 t171 x8_1).f1).size : Int)))) = true := decide_eq_true c22
                          by_cases c23 : (wrap64 (((rd_T32 t171 x8_1).f2) + (((rd_T32 t171 x8_1).f1).size : Int))) ≤ (a0.size : Int)
                          · rw [if_pos c23] at H
                            have c23b0 := eq_true c23
                            have c23b1 : decide ((wrap64 (((rd_T32 t171 x8_1).f2) + (((rd_T32 t171 x8_1).f1).size : Int))) ≤ (a0.size : Int)) = true := decide_eq_true c23
                            have H' := Aside0.mk H
                            clear H
                            have hcz24_0 : w13.cell? ⟨gb177, 0, none⟩ = some (.int .i64 0) := (blk_cell BK177.out 0).trans rfl
                            have hcz24_1 : w13.cell? ⟨gb177, 1, none⟩ = some (.string (⟨#[]⟩ : ByteArray)) := (blk_cell BK177.out 1).trans rfl
                            have hcz24_2 : w13.cell? ⟨gb177, 2, none⟩ = some (.int .i64 0) := (blk_cell BK177.out 2).trans rfl
                            have hfz24_0 := blk_frozen BK177.out 0
                            have hfz24_1 := blk_frozen BK177.out 1
                            have hfz24_2 := blk_frozen BK177.out 2
                            go_wp2
                            repeat (go_quiet (fail); try go_wp2)
                            go_meet
                            case rel => exact ⟨_, (((a0.extract (((rd_T32 t171 x8_1).f2) : Int).toNat ((wrap64 (((rd_T32 t171 x8_1).f2) + (((rd_T32 t171 x8_1).f1).size : Int))) : Int).toNat).toList != ((rd_T32 t171 x8_1).f1).toList)), (by first | rfl | (simp; done) | (simp [*]; done)), H', ⟨by have := HK1.out; first | omega | exact Nat.le_refl _⟩, ⟨by (with_reducible repeat (first | apply Kd.R_alloc | apply Kd.R_drewN | apply Kd.R_drew)); exact Kd.R_mono (Kd.R_far (p := ⟨gb177, 2, none⟩) (Kd.R_far (p := ⟨gb177, 1, none⟩) (Kd.R_far (p := ⟨gb177, 0, none⟩) (Kd.R_mono HO_4.out (fun k_ hk => (⟨hk, hk.2⟩ : _ ∧ k_ ≠ gb177))) (fun _ hk => hk.2) (.int .i64 ((rd_T32 t171 x8_1).f0))) (fun _ hk => hk.2) (.string ((rd_T32 t171 x8_1).f1))) (fun _ hk => hk.2) (.int .i64 ((rd_T32 t171 x8_1).f2))) (fun _ hk => hk.1.2)⟩, ⟨by (with_reducible repeat (first | refine blk_drewN ?_ _ | refine blk_drew ?_ | refine blk_alloc ?_ _)); refine blk_put (cs := #[.int .i64 ((rd_T32 t171 x8_1).f0), .string ((rd_T32 t171 x8_1).f1), .int .i64 0]) ?_ 2 _ rfl; (with_reducible repeat (first | refine blk_drewN ?_ _ | refine blk_drew ?_ | refine blk_alloc ?_ _)); refine blk_put (cs := #[.int .i64 ((rd_T32 t171 x8_1).f0), .string (⟨#[]⟩ : ByteArray), .int .i64 0]) ?_ 1 _ rfl; (with_reducible repeat (first | refine blk_drewN ?_ _ | refine blk_drew ?_ | refine blk_alloc ?_ _)); refine blk_put (cs := #[.int .i64 0, .string (⟨#[]⟩ : ByteArray), .int .i64 0]) ?_ 0 _ rfl; (with_reducible repeat (first | refine blk_drewN ?_ _ | refine blk_drew ?_ | refine blk_alloc ?_ _)); exact BK177.out⟩, ⟨by repeat (first | (with_reducible first | exact HB.out | apply below_alloc | apply pw_below_drewN | apply below_drew1 | refine below_set ?_ GE177.out) | exact HB.out)⟩⟩
                          · rw [if_neg c23] at H
                            exact absurd H (by simp)
                        · rw [if_neg c22] at H
                          exact absurd H (by simp)
                      · rw [if_neg c21] at H
                        exact absurd H (by simp)
              case rest =>
                clear HC11
                try clear c1
                try clear p1
                try clear q1
                try clear hx1
                try clear c2
                try clear p2
                try clear c3
                try clear c3b0
                try clear c3b1
                try clear c4
                try clear c6
                try clear c6b0
                try clear c6b1
                try clear p6
                try clear c9
                try clear c9b0
                try clear c10
                try clear c10b0
                try clear c15
                try clear c15b0
                try clear c17
                try clear c17b0
                try clear c17b1
                try clear p17
                try clear q17
                try clear hx17
                try clear c19
                try clear c19b0
                try clear c21
                try clear c21b0
                try clear c21b1
                try clear c22
                try clear c22b0
                try clear c22b1
                try clear c23
                try clear c23b0
                try clear c23b1
                try clear hcz14_0
                try clear hcz14_1
                try clear hcz14_2
                try clear hcz16_0
                try clear hcz16_1
                try clear hcz16_2
                try clear hcz18_0
                try clear hcz18_1
                try clear hcz18_2
                try clear hcz20_0
                try clear hcz20_1
                try clear hcz20_2
                try clear hcz24_0
                try clear hcz24_1
                try clear hcz24_2
                try clear hfz14_0
                try clear hfz14_1
                try clear hfz14_2
                try clear hfz16_0
                try clear hfz16_1
                try clear hfz16_2
                try clear hfz18_0
                try clear hfz18_1
                try clear hfz18_2
                try clear hfz20_0
                try clear hfz20_1
                try clear hfz20_2
                try clear hfz24_0
                try clear hfz24_1
                try clear hfz24_2
                try clear hx176_0
                try clear hx176_1
                try clear hx176_2
                try clear p176
                try clear p2
                try clear q176
                obtain ⟨kq, x92_10, rfl, HA, HJ10, HO_4, BK177, HB⟩ := hcut
                cases kq with
                | zero => exact absurd HA.out (by simp [tammylaw06_LexBack.j1])
                | succ kj10 =>
                  have H := HA.out
                  clear HA
                  simp only [tammylaw06_LexBack.j1] at H
                  by_cases c25 : x92_10 = true
                  · subst c25
                    have H1 : (some false) = some r := by rw [if_pos rfl] at H; exact H
                    clear H
                    have H := H1
                    clear H1
                    obtain rfl := Option.some.inj H
                    go_wp2
                    repeat (go_quiet (fail); try go_wp2)
                    go_ret
                    exact ⟨by first | rfl | (simp [errW_none, errW_some] <;> rfl) | (simp [*, errW_none, errW_some] <;> rfl), by repeat (first | (with_reducible first | exact HB.out | apply below_alloc | apply pw_below_drewN | apply below_drew1 | refine below_set ?_ GE177.out) | exact HB.out)⟩
                  · replace c25 := Bool.eq_false_iff.mpr c25
                    subst c25
                    have H1 : (tammylaw06_LexBack.l1 kj10 a0 t170 t171 x8_1 x7_1 ((rd_T32 t171 x8_1).f0) ((rd_T32 t171 x8_1).f1) ((rd_T32 t171 x8_1).f2)) = some r := by rw [if_neg (show ¬ (false = true) by decide)] at H; exact H
                    clear H
                    have H := H1
                    clear H1
                    have H' := Aside0.mk H
                    clear H
                    go_wp2
                    repeat (go_quiet (fail); try go_wp2)
                    go_loopg [10] kj10 (fun kq v10 w' => ∃ (x10_3 : Int), v10 = .int .i64 x10_3 ∧ Aside0 (tammylaw06_LexBack.l1 kq a0 t170 t171 x8_1 x10_3 ((rd_T32 t171 x8_1).f0) ((rd_T32 t171 x8_1).f1) ((rd_T32 t171 x8_1).f2) = some r) ∧ Aside0 (kq ≤ kj10) ∧ Aside0 (Kd.R k32 32 w' w.heap.size (fun k_ => k_ ≠ gb177) (.slice (some ad176) t171.length co12) t171) ∧ Aside0 (w'.heap[gb177]? = some (.cells #[.int .i64 ((rd_T32 t171 x8_1).f0), .string ((rd_T32 t171 x8_1).f1), .int .i64 ((rd_T32 t171 x8_1).f2)] 32 (0, 0))) ∧ Aside0 (Below w.heap.size w w'))
                    case atStart => exact ⟨(x7_1), (by first | rfl | (simp; done) | (simp [*]; done)), H', ⟨Nat.le_refl _⟩, ⟨by (with_reducible repeat (first | apply Kd.R_alloc | apply Kd.R_drewN | apply Kd.R_drew)); exact HO_4.out⟩, ⟨by (with_reducible repeat (first | refine blk_drewN ?_ _ | refine blk_drew ?_ | refine blk_alloc ?_ _)); exact BK177.out⟩, ⟨by repeat (first | (with_reducible first | exact HB.out | apply below_alloc | apply pw_below_drewN | apply below_drew1 | refine below_set ?_ GE177.out) | exact HB.out)⟩⟩
                    case round =>
                      clear H'
                      try clear c1
                      try clear p1
                      try clear q1
                      try clear hx1
                      try clear c2
                      try clear p2
                      try clear c3
                      try clear c3b0
                      try clear c3b1
                      try clear c4
                      try clear c6
                      try clear c6b0
                      try clear c6b1
                      try clear p6
                      try clear c9
                      try clear c9b0
                      try clear c10
                      try clear c10b0
                      try clear c15
                      try clear c15b0
                      try clear c17
                      try clear c17b0
                      try clear c17b1
                      try clear p17
                      try clear q17
                      try clear hx17
                      try clear c19
                      try clear c19b0
                      try clear c21
                      try clear c21b0
                      try clear c21b1
                      try clear c22
                      try clear c22b0
                      try clear c22b1
                      try clear c23
                      try clear c23b0
                      try clear c23b1
                      try clear c25
                      try clear hcz14_0
                      try clear hcz14_1
                      try clear hcz14_2
                      try clear hcz16_0
                      try clear hcz16_1
                      try clear hcz16_2
                      try clear hcz18_0
                      try clear hcz18_1
                      try clear hcz18_2
                      try clear hcz20_0
                      try clear hcz20_1
                      try clear hcz20_2
                      try clear hcz24_0
                      try clear hcz24_1
                      try clear hcz24_2
                      try clear hfz14_0
                      try clear hfz14_1
                      try clear hfz14_2
                      try clear hfz16_0
                      try clear hfz16_1
                      try clear hfz16_2
                      try clear hfz18_0
                      try clear hfz18_1
                      try clear hfz18_2
                      try clear hfz20_0
                      try clear hfz20_1
                      try clear hfz20_2
                      try clear hfz24_0
                      try clear hfz24_1
                      try clear hfz24_2
                      try clear hx176_0
                      try clear hx176_1
                      try clear hx176_2
                      try clear p1
                      try clear p17
                      try clear p176
                      try clear p2
                      try clear p6
                      try clear q1
                      try clear q17
                      try clear q176
                      obtain ⟨x10_3, rfl, HA, HK3, HO_4, BK177, HB⟩ := hrel
                      cases gk with
                      | zero => exact absurd HA.out (by simp [tammylaw06_LexBack.l1])
                      | succ k3 =>
                        have H := HA.out
                        clear HA
                        simp only [tammylaw06_LexBack.l1] at H
                        by_cases c26 : x10_3 < ((rd_T32 t171 x8_1).f2)
                        · rw [if_pos c26] at H
                          have c26b0 : decide (x10_3 < ((rd_T32 t171 x8_1).f2)) = true := decide_eq_true c26
                          clear c26
                          by_cases c27 : 0 ≤ x10_3
                          · rw [if_pos c27] at H
                            have c27b0 : decide (0 ≤ x10_3) = true := decide_eq_true c27
                            clear c27
                            by_cases c28 : x10_3 < (a0.size : Int)
                            · rw [if_pos c28] at H
                              have c28b0 : decide (x10_3 < (a0.size : Int)) = true := decide_eq_true c28
                              clear c28
                              by_cases c30 : (bt a0 x10_3) = 32
                              · rw [if_pos c30] at H
                                have c30b0 : ((bt a0 x10_3) == 32) = true := beq_iff_eq.mpr c30
                                have c30b1 : ((bt a0 x10_3) != 32) = false := bne_eq_false_iff_eq.mpr c30
                                clear c30
                                have H' := Aside0.mk H
                                clear H
                                have hcz31_0 : wr.cell? ⟨gb177, 0, none⟩ = some (.int .i64 ((rd_T32 t171 x8_1).f0)) := (blk_cell BK177.out 0).trans rfl
                                have hcz31_1 : wr.cell? ⟨gb177, 1, none⟩ = some (.string ((rd_T32 t171 x8_1).f1)) := (blk_cell BK177.out 1).trans rfl
                                have hcz31_2 : wr.cell? ⟨gb177, 2, none⟩ = some (.int .i64 ((rd_T32 t171 x8_1).f2)) := (blk_cell BK177.out 2).trans rfl
                                have hfz31_0 := blk_frozen BK177.out 0
                                have hfz31_1 := blk_frozen BK177.out 1
                                have hfz31_2 := blk_frozen BK177.out 2
                                have p29 : 0 ≤ (x10_3 : Int) := of_decide_eq_true (by first | (with_reducible assumption) | assumption)
                                have q29 : x10_3 < (a0.size : Int) := of_decide_eq_true (by first | (with_reducible assumption) | assumption)
                                have hx29 := bt_at a0 x10_3
                                replace p29 := eq_true p29
                                replace q29 := eq_true q29
                                go_wp2
                                repeat (go_quiet (fail); try go_wp2)
                                go_roundg k3
                                case measure => have := HK1.out; have := HJ10.out; have := HK3.out; omega
                                case rel => exact ⟨(wrap64 (x10_3 + 1)), (by first | rfl | (simp; done) | (simp [*]; done)), H', ⟨by have := HK1.out; have := HJ10.out; have := HK3.out; omega⟩, ⟨by (with_reducible repeat (first | apply Kd.R_alloc | apply Kd.R_drewN | apply Kd.R_drew)); exact HO_4.out⟩, ⟨by (with_reducible repeat (first | refine blk_drewN ?_ _ | refine blk_drew ?_ | refine blk_alloc ?_ _)); exact BK177.out⟩, ⟨by repeat (first | (with_reducible first | exact HB.out | apply below_alloc | apply pw_below_drewN | apply below_drew1 | refine below_set ?_ GE177.out) | exact HB.out)⟩⟩
                              · rw [if_neg c30] at H
                                have c30b0 : ((bt a0 x10_3) == 32) = false := beq_eq_false_iff_ne.mpr c30
                                have c30b1 : ((bt a0 x10_3) != 32) = true := bne_iff_ne.mpr c30
                                by_cases c33 : (bt a0 x10_3) = 9
                                · rw [if_pos c33] at H
                                  have c33b0 : ((bt a0 x10_3) == 9) = true := beq_iff_eq.mpr c33
                                  have c33b1 : ((bt a0 x10_3) != 9) = false := bne_eq_false_iff_eq.mpr c33
                                  clear c33
                                  have H' := Aside0.mk H
                                  clear H
                                  have hcz34_0 : wr.cell? ⟨gb177, 0, none⟩ = some (.int .i64 ((rd_T32 t171 x8_1).f0)) := (blk_cell BK177.out 0).trans rfl
                                  have hcz34_1 : wr.cell? ⟨gb177, 1, none⟩ = some (.string ((rd_T32 t171 x8_1).f1)) := (blk_cell BK177.out 1).trans rfl
                                  have hcz34_2 : wr.cell? ⟨gb177, 2, none⟩ = some (.int .i64 ((rd_T32 t171 x8_1).f2)) := (blk_cell BK177.out 2).trans rfl
                                  have hfz34_0 := blk_frozen BK177.out 0
                                  have hfz34_1 := blk_frozen BK177.out 1
                                  have hfz34_2 := blk_frozen BK177.out 2
                                  have p29 : 0 ≤ (x10_3 : Int) := of_decide_eq_true (by first | (with_reducible assumption) | assumption)
                                  have q29 : x10_3 < (a0.size : Int) := of_decide_eq_true (by first | (with_reducible assumption) | assumption)
                                  have hx29 := bt_at a0 x10_3
                                  replace p29 := eq_true p29
                                  replace q29 := eq_true q29
                                  have p32 : 0 ≤ (x10_3 : Int) := of_decide_eq_true (by first | (with_reducible assumption) | assumption)
                                  have q32 : x10_3 < (a0.size : Int) := of_decide_eq_true (by first | (with_reducible assumption) | assumption)
                                  have hx32 := bt_at a0 x10_3
                                  replace p32 := eq_true p32
                                  replace q32 := eq_true q32
                                  go_wp2
                                  repeat (go_quiet (fail); try go_wp2)
                                  go_roundg k3
                                  case measure => have := HK1.out; have := HJ10.out; have := HK3.out; omega
                                  case rel => exact ⟨(wrap64 (x10_3 + 1)), (by first | rfl | (simp; done) | (simp [*]; done)), H', ⟨by have := HK1.out; have := HJ10.out; have := HK3.out; omega⟩, ⟨by (with_reducible repeat (first | apply Kd.R_alloc | apply Kd.R_drewN | apply Kd.R_drew)); exact HO_4.out⟩, ⟨by (with_reducible repeat (first | refine blk_drewN ?_ _ | refine blk_drew ?_ | refine blk_alloc ?_ _)); exact BK177.out⟩, ⟨by repeat (first | (with_reducible first | exact HB.out | apply below_alloc | apply pw_below_drewN | apply below_drew1 | refine below_set ?_ GE177.out) | exact HB.out)⟩⟩
                                · rw [if_neg c33] at H
                                  have c33b0 : ((bt a0 x10_3) == 9) = false := beq_eq_false_iff_ne.mpr c33
                                  have c33b1 : ((bt a0 x10_3) != 9) = true := bne_iff_ne.mpr c33
                                  by_cases c36 : (bt a0 x10_3) = 10
                                  · rw [if_pos c36] at H
                                    have c36b0 : ((bt a0 x10_3) == 10) = true := beq_iff_eq.mpr c36
                                    have c36b1 : ((bt a0 x10_3) != 10) = false := bne_eq_false_iff_eq.mpr c36
                                    clear c36
                                    have H' := Aside0.mk H
                                    clear H
                                    have hcz37_0 : wr.cell? ⟨gb177, 0, none⟩ = some (.int .i64 ((rd_T32 t171 x8_1).f0)) := (blk_cell BK177.out 0).trans rfl
                                    have hcz37_1 : wr.cell? ⟨gb177, 1, none⟩ = some (.string ((rd_T32 t171 x8_1).f1)) := (blk_cell BK177.out 1).trans rfl
                                    have hcz37_2 : wr.cell? ⟨gb177, 2, none⟩ = some (.int .i64 ((rd_T32 t171 x8_1).f2)) := (blk_cell BK177.out 2).trans rfl
                                    have hfz37_0 := blk_frozen BK177.out 0
                                    have hfz37_1 := blk_frozen BK177.out 1
                                    have hfz37_2 := blk_frozen BK177.out 2
                                    have p29 : 0 ≤ (x10_3 : Int) := of_decide_eq_true (by first | (with_reducible assumption) | assumption)
                                    have q29 : x10_3 < (a0.size : Int) := of_decide_eq_true (by first | (with_reducible assumption) | assumption)
                                    have hx29 := bt_at a0 x10_3
                                    replace p29 := eq_true p29
                                    replace q29 := eq_true q29
                                    have p32 : 0 ≤ (x10_3 : Int) := of_decide_eq_true (by first | (with_reducible assumption) | assumption)
                                    have q32 : x10_3 < (a0.size : Int) := of_decide_eq_true (by first | (with_reducible assumption) | assumption)
                                    have hx32 := bt_at a0 x10_3
                                    replace p32 := eq_true p32
                                    replace q32 := eq_true q32
                                    have p35 : 0 ≤ (x10_3 : Int) := of_decide_eq_true (by first | (with_reducible assumption) | assumption)
                                    have q35 : x10_3 < (a0.size : Int) := of_decide_eq_true (by first | (with_reducible assumption) | assumption)
                                    have hx35 := bt_at a0 x10_3
                                    replace p35 := eq_true p35
                                    replace q35 := eq_true q35
                                    go_wp2
                                    repeat (go_quiet (fail); try go_wp2)
                                    go_roundg k3
                                    case measure => have := HK1.out; have := HJ10.out; have := HK3.out; omega
                                    case rel => exact ⟨(wrap64 (x10_3 + 1)), (by first | rfl | (simp; done) | (simp [*]; done)), H', ⟨by have := HK1.out; have := HJ10.out; have := HK3.out; omega⟩, ⟨by (with_reducible repeat (first | apply Kd.R_alloc | apply Kd.R_drewN | apply Kd.R_drew)); exact HO_4.out⟩, ⟨by (with_reducible repeat (first | refine blk_drewN ?_ _ | refine blk_drew ?_ | refine blk_alloc ?_ _)); exact BK177.out⟩, ⟨by repeat (first | (with_reducible first | exact HB.out | apply below_alloc | apply pw_below_drewN | apply below_drew1 | refine below_set ?_ GE177.out) | exact HB.out)⟩⟩
                                  · rw [if_neg c36] at H
                                    have c36b0 : ((bt a0 x10_3) == 10) = false := beq_eq_false_iff_ne.mpr c36
                                    have c36b1 : ((bt a0 x10_3) != 10) = true := bne_iff_ne.mpr c36
                                    obtain rfl := Option.some.inj H
                                    have hcz38_0 : wr.cell? ⟨gb177, 0, none⟩ = some (.int .i64 ((rd_T32 t171 x8_1).f0)) := (blk_cell BK177.out 0).trans rfl
                                    have hcz38_1 : wr.cell? ⟨gb177, 1, none⟩ = some (.string ((rd_T32 t171 x8_1).f1)) := (blk_cell BK177.out 1).trans rfl
                                    have hcz38_2 : wr.cell? ⟨gb177, 2, none⟩ = some (.int .i64 ((rd_T32 t171 x8_1).f2)) := (blk_cell BK177.out 2).trans rfl
                                    have hfz38_0 := blk_frozen BK177.out 0
                                    have hfz38_1 := blk_frozen BK177.out 1
                                    have hfz38_2 := blk_frozen BK177.out 2
                                    have p29 : 0 ≤ (x10_3 : Int) := of_decide_eq_true (by first | (with_reducible assumption) | assumption)
                                    have q29 : x10_3 < (a0.size : Int) := of_decide_eq_true (by first | (with_reducible assumption) | assumption)
                                    have hx29 := bt_at a0 x10_3
                                    replace p29 := eq_true p29
                                    replace q29 := eq_true q29
                                    have p32 : 0 ≤ (x10_3 : Int) := of_decide_eq_true (by first | (with_reducible assumption) | assumption)
                                    have q32 : x10_3 < (a0.size : Int) := of_decide_eq_true (by first | (with_reducible assumption) | assumption)
                                    have hx32 := bt_at a0 x10_3
                                    replace p32 := eq_true p32
                                    replace q32 := eq_true q32
                                    have p35 : 0 ≤ (x10_3 : Int) := of_decide_eq_true (by first | (with_reducible assumption) | assumption)
                                    have q35 : x10_3 < (a0.size : Int) := of_decide_eq_true (by first | (with_reducible assumption) | assumption)
                                    have hx35 := bt_at a0 x10_3
                                    replace p35 := eq_true p35
                                    replace q35 := eq_true q35
                                    go_wp2
                                    repeat (go_quiet (fail); try go_wp2)
                                    go_ret
                                    exact ⟨by first | rfl | (simp [errW_none, errW_some] <;> rfl) | (simp [*, errW_none, errW_some] <;> rfl), by repeat (first | (with_reducible first | exact HB.out | apply below_alloc | apply pw_below_drewN | apply below_drew1 | refine below_set ?_ GE177.out) | exact HB.out)⟩
                            · rw [if_neg c28] at H
                              exact absurd H (by simp)
                          · rw [if_neg c27] at H
                            exact absurd H (by simp)
                        · rw [if_neg c26] at H
                          have c26b0 : decide (x10_3 < ((rd_T32 t171 x8_1).f2)) = false := decide_eq_false c26
                          clear c26
                          have H' := Aside0.mk H
                          clear H
                          have hcz39_0 : wr.cell? ⟨gb177, 0, none⟩ = some (.int .i64 ((rd_T32 t171 x8_1).f0)) := (blk_cell BK177.out 0).trans rfl
                          have hcz39_1 : wr.cell? ⟨gb177, 1, none⟩ = some (.string ((rd_T32 t171 x8_1).f1)) := (blk_cell BK177.out 1).trans rfl
                          have hcz39_2 : wr.cell? ⟨gb177, 2, none⟩ = some (.int .i64 ((rd_T32 t171 x8_1).f2)) := (blk_cell BK177.out 2).trans rfl
                          have hfz39_0 := blk_frozen BK177.out 0
                          have hfz39_1 := blk_frozen BK177.out 1
                          have hfz39_2 := blk_frozen BK177.out 2
                          go_wp2
                          repeat (go_quiet (fail); try go_wp2)
                          go_roundg k3
                          case measure => have := HK1.out; have := HJ10.out; have := HK3.out; omega
                          case rel => exact ⟨(wrap64 (((rd_T32 t171 x8_1).f2) + (((rd_T32 t171 x8_1).f1).size : Int))), (wrap64 (x8_1 + 1)), (by first | rfl | (simp; done) | (simp [*]; done)), (by first | rfl | (simp; done) | (simp [*]; done)), H', ⟨by have := HK1.out; have := HJ10.out; have := HK3.out; omega⟩, ⟨by (with_reducible repeat (first | apply Kd.R_alloc | apply Kd.R_drewN | apply Kd.R_drew)); exact Kd.R_mono HO_4.out (fun _ hk => trivial)⟩, ⟨by repeat (first | (with_reducible first | exact HB.out | apply below_alloc | apply pw_below_drewN | apply below_drew1 | refine below_set ?_ GE177.out) | exact HB.out)⟩⟩
            · rw [if_neg c10] at H
              exact absurd H (by simp)
          · rw [if_neg c9] at H
            have c9b0 : decide (x8_1 < (t171.length : Int)) = false := decide_eq_false c9
            clear c9
            replace H := Option.bind_eq_some_iff.mp H
            obtain ⟨t178, A400, H⟩ := H
            replace H : ((lex_Toks.f k1 t178).bind fun bt179 => (if bt179.2.2 = 0 then (tammylaw06_LexBack.j3 k1 t170 t171 bt179.1 ((bt179.1.length : Int) != (t171.length : Int))) else (tammylaw06_LexBack.j3 k1 t170 t171 bt179.1 true))) = some r := H
            have A40 := Aside0.mk A400
            clear A400
            replace H := Option.bind_eq_some_iff.mp H
            obtain ⟨⟨t179, t180, t181⟩, A410, H⟩ := H
            replace H : (if t181 = 0 then (tammylaw06_LexBack.j3 k1 t170 t171 t179 ((t179.length : Int) != (t171.length : Int))) else (tammylaw06_LexBack.j3 k1 t170 t171 t179 true)) = some r := H
            have A41 := Aside0.mk A410
            clear A410
            have HC42 := Aside0.mk H
            clear H
            obtain ⟨Ao43, co43, eo43⟩ := Kd.R_slice HO_4.out
            subst eo43
            go_upto_region 21 with (first | (go_at_call 14; (with_reducible refine (lex_Text.calls k1 _ _ t171 t178 _ ?side1 ?side2 A40.out).mono ?_); (case side1 => repeat (first | exact (Kd.R_reads' HO_4.out).2.2 | (with_reducible refine Kd.C_alloc ?_ _) | (with_reducible refine Kd.C_drewN ?_ _) | (with_reducible refine Kd.C_drew ?_))); (case side2 => exact (Kd.R_reads' HO_4.out).2.1); rintro e w44 ⟨rfl, hb⟩; have n0_ := Aside0.mk (Kd.R_below (by (with_reducible repeat (first | apply Kd.R_alloc | apply Kd.R_drewN | apply Kd.R_drew)); exact HO_4.out) hb); have n1_ := Aside0.mk (below_step (by repeat (first | (with_reducible first | exact HB.out | apply below_alloc | apply pw_below_drewN | apply below_drew1) | exact HB.out)) hb); clear HO_4; clear HB; have HO_4 := n0_; have HB := n1_; clear n0_ n1_; (try clear hb); (try clear hb2); (try clear hk); (try clear hi)) | (go_at_call 11; (with_reducible refine (lex_Toks.calls k1 t178 t179 t180 t181 _ A41.out).mono ?_); rintro e w45 ⟨v182, rfl, ho0, hb⟩; have n0_ := Aside0.mk (Kd.R_elder' (by (with_reducible repeat (first | apply Kd.R_alloc | apply Kd.R_drewN | apply Kd.R_drew)); exact HO_4.out) (Kd.R_base ho0) hb); have n1_ := Aside0.mk (Kd.R_lower (Kd.R_new' ho0 (Kd.R_lt (by (with_reducible repeat (first | apply Kd.R_alloc | apply Kd.R_drewN | apply Kd.R_drew)); exact HO_4.out))) (below_size (by repeat (first | (with_reducible first | exact HB.out | apply below_alloc | apply pw_below_drewN | apply below_drew1) | exact HB.out)))); have n2_ := Aside0.mk (below_step (by repeat (first | (with_reducible first | exact HB.out | apply below_alloc | apply pw_below_drewN | apply below_drew1) | exact HB.out)) hb); clear HO_4; clear HB; have HO_4 := n0_; have HO183 := n1_; have HB := n2_; clear n0_ n1_ n2_; (try clear hb); (try clear hb2); (try clear hk); (try clear hi); (try clear ho0)))
            repeat (go_quiet (first | (go_at_call 14; (with_reducible refine (lex_Text.calls k1 _ _ t171 t178 _ ?side1 ?side2 A40.out).mono ?_); (case side1 => repeat (first | exact (Kd.R_reads' HO_4.out).2.2 | (with_reducible refine Kd.C_alloc ?_ _) | (with_reducible refine Kd.C_drewN ?_ _) | (with_reducible refine Kd.C_drew ?_))); (case side2 => exact (Kd.R_reads' HO_4.out).2.1); rintro e w44 ⟨rfl, hb⟩; have n0_ := Aside0.mk (Kd.R_below (by (with_reducible repeat (first | apply Kd.R_alloc | apply Kd.R_drewN | apply Kd.R_drew)); exact HO_4.out) hb); have n1_ := Aside0.mk (below_step (by repeat (first | (with_reducible first | exact HB.out | apply below_alloc | apply pw_below_drewN | apply below_drew1) | exact HB.out)) hb); clear HO_4; clear HB; have HO_4 := n0_; have HB := n1_; clear n0_ n1_; (try clear hb); (try clear hb2); (try clear hk); (try clear hi)) | (go_at_call 11; (with_reducible refine (lex_Toks.calls k1 t178 t179 t180 t181 _ A41.out).mono ?_); rintro e w45 ⟨v182, rfl, ho0, hb⟩; have n0_ := Aside0.mk (Kd.R_elder' (by (with_reducible repeat (first | apply Kd.R_alloc | apply Kd.R_drewN | apply Kd.R_drew)); exact HO_4.out) (Kd.R_base ho0) hb); have n1_ := Aside0.mk (Kd.R_lower (Kd.R_new' ho0 (Kd.R_lt (by (with_reducible repeat (first | apply Kd.R_alloc | apply Kd.R_drewN | apply Kd.R_drew)); exact HO_4.out))) (below_size (by repeat (first | (with_reducible first | exact HB.out | apply below_alloc | apply pw_below_drewN | apply below_drew1) | exact HB.out)))); have n2_ := Aside0.mk (below_step (by repeat (first | (with_reducible first | exact HB.out | apply below_alloc | apply pw_below_drewN | apply below_drew1) | exact HB.out)) hb); clear HO_4; clear HB; have HO_4 := n0_; have HO183 := n1_; have HB := n2_; clear n0_ n1_ n2_; (try clear hb); (try clear hb2); (try clear hk); (try clear hi); (try clear ho0))); go_upto_region 21 with (first | (go_at_call 14; (with_reducible refine (lex_Text.calls k1 _ _ t171 t178 _ ?side1 ?side2 A40.out).mono ?_); (case side1 => repeat (first | exact (Kd.R_reads' HO_4.out).2.2 | (with_reducible refine Kd.C_alloc ?_ _) | (with_reducible refine Kd.C_drewN ?_ _) | (with_reducible refine Kd.C_drew ?_))); (case side2 => exact (Kd.R_reads' HO_4.out).2.1); rintro e w44 ⟨rfl, hb⟩; have n0_ := Aside0.mk (Kd.R_below (by (with_reducible repeat (first | apply Kd.R_alloc | apply Kd.R_drewN | apply Kd.R_drew)); exact HO_4.out) hb); have n1_ := Aside0.mk (below_step (by repeat (first | (with_reducible first | exact HB.out | apply below_alloc | apply pw_below_drewN | apply below_drew1) | exact HB.out)) hb); clear HO_4; clear HB; have HO_4 := n0_; have HB := n1_; clear n0_ n1_; (try clear hb); (try clear hb2); (try clear hk); (try clear hi)) | (go_at_call 11; (with_reducible refine (lex_Toks.calls k1 t178 t179 t180 t181 _ A41.out).mono ?_); rintro e w45 ⟨v182, rfl, ho0, hb⟩; have n0_ := Aside0.mk (Kd.R_elder' (by (with_reducible repeat (first | apply Kd.R_alloc | apply Kd.R_drewN | apply Kd.R_drew)); exact HO_4.out) (Kd.R_base ho0) hb); have n1_ := Aside0.mk (Kd.R_lower (Kd.R_new' ho0 (Kd.R_lt (by (with_reducible repeat (first | apply Kd.R_alloc | apply Kd.R_drewN | apply Kd.R_drew)); exact HO_4.out))) (below_size (by repeat (first | (with_reducible first | exact HB.out | apply below_alloc | apply pw_below_drewN | apply below_drew1) | exact HB.out)))); have n2_ := Aside0.mk (below_step (by repeat (first | (with_reducible first | exact HB.out | apply below_alloc | apply pw_below_drewN | apply below_drew1) | exact HB.out)) hb); clear HO_4; clear HB; have HO_4 := n0_; have HO183 := n1_; have HB := n2_; clear n0_ n1_ n2_; (try clear hb); (try clear hb2); (try clear hk); (try clear hi); (try clear ho0))))
            (try simp only [Act.put, List.setIfInBounds_toArray, List.set_cons_zero, List.set_cons_succ])
            go_cut [137] (fun v137 wc => ∃ (kq : Nat) (x137_41 : Bool), v137 = .bool x137_41 ∧ Aside0 (tammylaw06_LexBack.j3 kq t170 t171 t179 x137_41 = some r) ∧ Aside0 (kq ≤ k1) ∧ Aside0 (Kd.R k32 32 wc w.heap.size (fun k_ => some k_ ≠ (v182 : Value).ownBlock) (.slice Ao43 t171.length co43) t171) ∧ Aside0 (Kd.R k32 32 wc w.heap.size (fun k_ => some k_ ≠ ((.slice Ao43 t171.length co43) : Value).ownBlock) v182 t179) ∧ Aside0 (Below w.heap.size w wc))
            case first =>
              have H := HC42.out
              clear HC42
              by_cases c46 : t181 = 0
              · rw [if_pos c46] at H
                have c46b0 : (t181 == 0) = true := beq_iff_eq.mpr c46
                have c46b1 : (t181 != 0) = false := bne_eq_false_iff_eq.mpr c46
                clear c46
                (first | rw [c46b0] | (simp only [i64_w, i32_w]; rw [c46b0]) | skip)
                have H' := Aside0.mk H
                clear H
                obtain ⟨Ao47, co47, eo47⟩ := Kd.R_slice HO183.out
                subst eo47
                go_wp2
                repeat (go_quiet (fail); try go_wp2)
                go_meet
                case rel => exact ⟨_, (((t179.length : Int) != (t171.length : Int))), (by first | rfl | (simp; done) | (simp [*]; done)), H', ⟨by have := HK1.out; first | omega | exact Nat.le_refl _⟩, ⟨by (with_reducible repeat (first | apply Kd.R_alloc | apply Kd.R_drewN | apply Kd.R_drew)); exact Kd.R_mono HO_4.out (fun _ hk => hk.2)⟩, ⟨by (with_reducible repeat (first | apply Kd.R_alloc | apply Kd.R_drewN | apply Kd.R_drew)); exact Kd.R_mono HO183.out (fun _ hk => hk.2)⟩, ⟨by repeat (first | (with_reducible first | exact HB.out | apply below_alloc | apply pw_below_drewN | apply below_drew1) | exact HB.out)⟩⟩
              · rw [if_neg c46] at H
                have c46b0 : (t181 == 0) = false := beq_eq_false_iff_ne.mpr c46
                have c46b1 : (t181 != 0) = true := bne_iff_ne.mpr c46
                (first | rw [c46b0] | (simp only [i64_w, i32_w]; rw [c46b0]) | skip)
                have H' := Aside0.mk H
                clear H
                go_wp2
                repeat (go_quiet (fail); try go_wp2)
                go_meet
                case rel => exact ⟨_, (true), (by first | rfl | (simp; done) | (simp [*]; done)), H', ⟨by have := HK1.out; first | omega | exact Nat.le_refl _⟩, ⟨by (with_reducible repeat (first | apply Kd.R_alloc | apply Kd.R_drewN | apply Kd.R_drew)); exact Kd.R_mono HO_4.out (fun _ hk => hk.2)⟩, ⟨by (with_reducible repeat (first | apply Kd.R_alloc | apply Kd.R_drewN | apply Kd.R_drew)); exact Kd.R_mono HO183.out (fun _ hk => hk.2)⟩, ⟨by repeat (first | (with_reducible first | exact HB.out | apply below_alloc | apply pw_below_drewN | apply below_drew1) | exact HB.out)⟩⟩
            case rest =>
              clear HC42
              try clear c1
              try clear p1
              try clear q1
              try clear hx1
              try clear c2
              try clear p2
              try clear q2
              try clear hx2
              try clear c3
              try clear c3b0
              try clear c3b1
              try clear p3
              try clear q3
              try clear hx3
              try clear c4
              try clear c6
              try clear c6b0
              try clear c6b1
              try clear p6
              try clear c9
              try clear c9b0
              try clear c10
              try clear c10b0
              try clear c15
              try clear c15b0
              try clear c17
              try clear c17b0
              try clear c17b1
              try clear p17
              try clear q17
              try clear hx17
              try clear c19
              try clear c19b0
              try clear c21
              try clear c21b0
              try clear c21b1
              try clear c22
              try clear c22b0
              try clear c22b1
              try clear c23
              try clear c23b0
              try clear c23b1
              try clear c25
              try clear c26
              try clear c26b0
              try clear c27
              try clear c27b0
              try clear c28
              try clear c28b0
              try clear p29
              try clear q29
              try clear hx29
              try clear c30
              try clear c30b0
              try clear c30b1
              try clear p32
              try clear q32
              try clear hx32
              try clear c33
              try clear c33b0
              try clear c33b1
              try clear p35
              try clear q35
              try clear hx35
              try clear c36
              try clear c36b0
              try clear c36b1
              try clear c46
              try clear c46b0
              try clear c46b1
              try clear hcz14_0
              try clear hcz14_1
              try clear hcz14_2
              try clear hcz16_0
              try clear hcz16_1
              try clear hcz16_2
              try clear hcz18_0
              try clear hcz18_1
              try clear hcz18_2
              try clear hcz20_0
              try clear hcz20_1
              try clear hcz20_2
              try clear hcz24_0
              try clear hcz24_1
              try clear hcz24_2
              try clear hcz31_0
              try clear hcz31_1
              try clear hcz31_2
              try clear hcz34_0
              try clear hcz34_1
              try clear hcz34_2
              try clear hcz37_0
              try clear hcz37_1
              try clear hcz37_2
              try clear hcz38_0
              try clear hcz38_1
              try clear hcz38_2
              try clear hcz39_0
              try clear hcz39_1
              try clear hcz39_2
              try clear hfz14_0
              try clear hfz14_1
              try clear hfz14_2
              try clear hfz16_0
              try clear hfz16_1
              try clear hfz16_2
              try clear hfz18_0
              try clear hfz18_1
              try clear hfz18_2
              try clear hfz20_0
              try clear hfz20_1
              try clear hfz20_2
              try clear hfz24_0
              try clear hfz24_1
              try clear hfz24_2
              try clear hfz31_0
              try clear hfz31_1
              try clear hfz31_2
              try clear hfz34_0
              try clear hfz34_1
              try clear hfz34_2
              try clear hfz37_0
              try clear hfz37_1
              try clear hfz37_2
              try clear hfz38_0
              try clear hfz38_1
              try clear hfz38_2
              try clear hfz39_0
              try clear hfz39_1
              try clear hfz39_2
              try clear hx176_0
              try clear hx176_1
              try clear hx176_2
              try clear p1
              try clear p17
              try clear p176
              try clear p2
              try clear p29
              try clear p32
              try clear p35
              try clear p6
              try clear q1
              try clear q17
              try clear q176
              try clear q29
              try clear q32
              try clear q35
              obtain ⟨kq, x137_41, rfl, HA, HJ41, HO_4, HO_11, HB⟩ := hcut
              cases kq with
              | zero => exact absurd HA.out (by simp [tammylaw06_LexBack.j3])
              | succ kj41 =>
                have H := HA.out
                clear HA
                simp only [tammylaw06_LexBack.j3] at H
                by_cases c48 : x137_41 = true
                · subst c48
                  have H1 : (some false) = some r := by rw [if_pos rfl] at H; exact H
                  clear H
                  have H := H1
                  clear H1
                  obtain rfl := Option.some.inj H
                  go_wp2
                  repeat (go_quiet (fail); try go_wp2)
                  go_ret
                  exact ⟨by first | rfl | (simp [errW_none, errW_some] <;> rfl) | (simp [*, errW_none, errW_some] <;> rfl), by repeat (first | (with_reducible first | exact HB.out | apply below_alloc | apply pw_below_drewN | apply below_drew1) | exact HB.out)⟩
                · replace c48 := Bool.eq_false_iff.mpr c48
                  subst c48
                  have H1 : (tammylaw06_LexBack.l2 kj41 t170 t171 t179 0) = some r := by rw [if_neg (show ¬ (false = true) by decide)] at H; exact H
                  clear H
                  have H := H1
                  clear H1
                  have H' := Aside0.mk H
                  clear H
                  go_wp2
                  repeat (go_quiet (fail); try go_wp2)
                  go_loopg [14] kj41 (fun kq v14 w' => ∃ (x14_3 : Int), v14 = .int .i64 x14_3 ∧ Aside0 (tammylaw06_LexBack.l2 kq t170 t171 t179 x14_3 = some r) ∧ Aside0 (kq ≤ kj41) ∧ Aside0 (Kd.R k32 32 w' w.heap.size (fun k_ => some k_ ≠ (v182 : Value).ownBlock) (.slice Ao43 t171.length co43) t171) ∧ Aside0 (Kd.R k32 32 w' w.heap.size (fun k_ => some k_ ≠ ((.slice Ao43 t171.length co43) : Value).ownBlock) v182 t179) ∧ Aside0 (Below w.heap.size w w'))
                  case atStart => exact ⟨(0), (by first | rfl | (simp; done) | (simp [*]; done)), H', ⟨Nat.le_refl _⟩, ⟨by (with_reducible repeat (first | apply Kd.R_alloc | apply Kd.R_drewN | apply Kd.R_drew)); exact HO_4.out⟩, ⟨by (with_reducible repeat (first | apply Kd.R_alloc | apply Kd.R_drewN | apply Kd.R_drew)); exact HO_11.out⟩, ⟨by repeat (first | (with_reducible first | exact HB.out | apply below_alloc | apply pw_below_drewN | apply below_drew1) | exact HB.out)⟩⟩
                  case round =>
                    clear H'
                    try clear c1
                    try clear p1
                    try clear q1
                    try clear hx1
                    try clear c2
                    try clear p2
                    try clear q2
                    try clear hx2
                    try clear c3
                    try clear c3b0
                    try clear c3b1
                    try clear p3
                    try clear q3
                    try clear hx3
                    try clear c4
                    try clear c6
                    try clear c6b0
                    try clear c6b1
                    try clear p6
                    try clear c9
                    try clear c9b0
                    try clear c10
                    try clear c10b0
                    try clear c15
                    try clear c15b0
                    try clear c17
                    try clear c17b0
                    try clear c17b1
                    try clear p17
                    try clear q17
                    try clear hx17
                    try clear c19
                    try clear c19b0
                    try clear c21
                    try clear c21b0
                    try clear c21b1
                    try clear c22
                    try clear c22b0
                    try clear c22b1
                    try clear c23
                    try clear c23b0
                    try clear c23b1
                    try clear c25
                    try clear c26
                    try clear c26b0
                    try clear c27
                    try clear c27b0
                    try clear c28
                    try clear c28b0
                    try clear p29
                    try clear q29
                    try clear hx29
                    try clear c30
                    try clear c30b0
                    try clear c30b1
                    try clear p32
                    try clear q32
                    try clear hx32
                    try clear c33
                    try clear c33b0
                    try clear c33b1
                    try clear p35
                    try clear q35
                    try clear hx35
                    try clear c36
                    try clear c36b0
                    try clear c36b1
                    try clear c46
                    try clear c46b0
                    try clear c46b1
                    try clear c48
                    try clear hcz14_0
                    try clear hcz14_1
                    try clear hcz14_2
                    try clear hcz16_0
                    try clear hcz16_1
                    try clear hcz16_2
                    try clear hcz18_0
                    try clear hcz18_1
                    try clear hcz18_2
                    try clear hcz20_0
                    try clear hcz20_1
                    try clear hcz20_2
                    try clear hcz24_0
                    try clear hcz24_1
                    try clear hcz24_2
                    try clear hcz31_0
                    try clear hcz31_1
                    try clear hcz31_2
                    try clear hcz34_0
                    try clear hcz34_1
                    try clear hcz34_2
                    try clear hcz37_0
                    try clear hcz37_1
                    try clear hcz37_2
                    try clear hcz38_0
                    try clear hcz38_1
                    try clear hcz38_2
                    try clear hcz39_0
                    try clear hcz39_1
                    try clear hcz39_2
                    try clear hfz14_0
                    try clear hfz14_1
                    try clear hfz14_2
                    try clear hfz16_0
                    try clear hfz16_1
                    try clear hfz16_2
                    try clear hfz18_0
                    try clear hfz18_1
                    try clear hfz18_2
                    try clear hfz20_0
                    try clear hfz20_1
                    try clear hfz20_2
                    try clear hfz24_0
                    try clear hfz24_1
                    try clear hfz24_2
                    try clear hfz31_0
                    try clear hfz31_1
                    try clear hfz31_2
                    try clear hfz34_0
                    try clear hfz34_1
                    try clear hfz34_2
                    try clear hfz37_0
                    try clear hfz37_1
                    try clear hfz37_2
                    try clear hfz38_0
                    try clear hfz38_1
                    try clear hfz38_2
                    try clear hfz39_0
                    try clear hfz39_1
                    try clear hfz39_2
                    try clear hx176_0
                    try clear hx176_1
                    try clear hx176_2
                    try clear p1
                    try clear p17
                    try clear p176
                    try clear p2
                    try clear p29
                    try clear p3
                    try clear p32
                    try clear p35
                    try clear p6
                    try clear q1
                    try clear q17
                    try clear q176
                    try clear q2
                    try clear q29
                    try clear q3
                    try clear q32
                    try clear q35
                    obtain ⟨x14_3, rfl, HA, HK3, HO_4, HO_11, HB⟩ := hrel
                    cases gk with
                    | zero => exact absurd HA.out (by simp [tammylaw06_LexBack.l2])
                    | succ k3 =>
                      have H := HA.out
                      clear HA
                      simp only [tammylaw06_LexBack.l2] at H
                      by_cases c49 : x14_3 < (t171.length : Int)
                      · rw [if_pos c49] at H
                        have c49b0 : decide (x14_3 < (t171.length : Int)) = true := decide_eq_true c49
                        clear c49
                        by_cases c50 : 0 ≤ x14_3
                        · rw [if_pos c50] at H
                          have c50b0 : decide (0 ≤ x14_3) = true := decide_eq_true c50
                          clear c50
                          by_cases c51 : x14_3 < (t179.length : Int)
                          · rw [if_pos c51] at H
                            have c51b0 : decide (x14_3 < (t179.length : Int)) = true := decide_eq_true c51
                            clear c51
                            by_cases c52 : ((rd_T32 t179 x14_3).f0) = ((rd_T32 t171 x14_3).f0)
                            · rw [if_pos c52] at H
                              have c52b0 : (((rd_T32 t179 x14_3).f0) == ((rd_T32 t171 x14_3).f0)) = true := beq_iff_eq.mpr c52
                              have c52b1 : (((rd_T32 t179 x14_3).f0) != ((rd_T32 t171 x14_3).f0)) = false := bne_eq_false_iff_eq.mpr c52
                              clear c52
                              by_cases c53 : ((rd_T32 t179 x14_3).f1).toList = ((rd_T32 t171 x14_3).f1).toList
                              · rw [if_pos c53] at H
                                have c53b0 : (((rd_T32 t179 x14_3).f1).toList == ((rd_T32 t171 x14_3).f1).toList) = true := beq_iff_eq.mpr c53
                                have c53b1 : (((rd_T32 t179 x14_3).f1).toList != ((rd_T32 t171 x14_3).f1).toList) = false := bne_eq_false_iff_eq.mpr c53
                                clear c53
                                have H' := Aside0.mk H
                                clear H
                                obtain ⟨Ao54, co54, eo54⟩ := Kd.R_slice HO_11.out
                                subst eo54
                                have p184 : 0 ≤ (x14_3 : Int) := of_decide_eq_true (by first | (with_reducible assumption) | assumption)
                                have q184 : x14_3 < (t179.length : Int) := of_decide_eq_true (by first | (with_reducible assumption) | assumption)
                                obtain ⟨ad184, e184, hx184_0, hx184_1, hx184_2⟩ := at_T32 (Kd.R_reads' HO_11.out).2.2 x14_3 p184 q184
                                cases e184
                                replace p184 := eq_true p184
                                replace q184 := eq_true q184
                                have p185 : 0 ≤ (x14_3 : Int) := of_decide_eq_true (by first | (with_reducible assumption) | assumption)
                                have q185 : x14_3 < (t171.length : Int) := of_decide_eq_true (by first | (with_reducible assumption) | assumption)
                                obtain ⟨ad185, e185, hx185_0, hx185_1, hx185_2⟩ := at_T32 (Kd.R_reads' HO_4.out).2.2 x14_3 p185 q185
                                cases e185
                                replace p185 := eq_true p185
                                replace q185 := eq_true q185
                                have p186 : 0 ≤ (x14_3 : Int) := of_decide_eq_true (by first | (with_reducible assumption) | assumption)
                                have q186 : x14_3 < (t179.length : Int) := of_decide_eq_true (by first | (with_reducible assumption) | assumption)
                                obtain ⟨ad186, e186, hx186_0, hx186_1, hx186_2⟩ := at_T32 (Kd.R_reads' HO_11.out).2.2 x14_3 p186 q186
                                obtain rfl : ad184 = ad186 := (by injection e186)
                                replace p186 := eq_true p186
                                replace q186 := eq_true q186
                                have p187 : 0 ≤ (x14_3 : Int) := of_decide_eq_true (by first | (with_reducible assumption) | assumption)
                                have q187 : x14_3 < (t171.length : Int) := of_decide_eq_true (by first | (with_reducible assumption) | assumption)
                                obtain ⟨ad187, e187, hx187_0, hx187_1, hx187_2⟩ := at_T32 (Kd.R_reads' HO_4.out).2.2 x14_3 p187 q187
                                obtain rfl : ad185 = ad187 := (by injection e187)
                                replace p187 := eq_true p187
                                replace q187 := eq_true q187
                                go_wp2
                                repeat (go_quiet (fail); try go_wp2)
                                go_roundg k3
                                case measure => have := HK1.out; have := HJ41.out; have := HK3.out; omega
                                case rel => exact ⟨(wrap64 (x14_3 + 1)), (by first | rfl | (simp; done) | (simp [*]; done)), H', ⟨by have := HK1.out; have := HJ41.out; have := HK3.out; omega⟩, ⟨by (with_reducible repeat (first | apply Kd.R_alloc | apply Kd.R_drewN | apply Kd.R_drew)); exact HO_4.out⟩, ⟨by (with_reducible repeat (first | apply Kd.R_alloc | apply Kd.R_drewN | apply Kd.R_drew)); exact HO_11.out⟩, ⟨by repeat (first | (with_reducible first | exact HB.out | apply below_alloc | apply pw_below_drewN | apply below_drew1) | exact HB.out)⟩⟩
                              · rw [if_neg c53] at H
                                have c53b0 : (((rd_T32 t179 x14_3).f1).toList == ((rd_T32 t171 x14_3).f1).toList) = false := beq_eq_false_iff_ne.mpr c53
                                have c53b1 : (((rd_T32 t179 x14_3).f1).toList != ((rd_T32 t171 x14_3).f1).toList) = true := bne_iff_ne.mpr c53
                                obtain rfl := Option.some.inj H
                                obtain ⟨Ao55, co55, eo55⟩ := Kd.R_slice HO_11.out
                                subst eo55
                                have p184 : 0 ≤ (x14_3 : Int) := of_decide_eq_true (by first | (with_reducible assumption) | assumption)
                                have q184 : x14_3 < (t179.length : Int) := of_decide_eq_true (by first | (with_reducible assumption) | assumption)
                                obtain ⟨ad184, e184, hx184_0, hx184_1, hx184_2⟩ := at_T32 (Kd.R_reads' HO_11.out).2.2 x14_3 p184 q184
                                cases e184
                                replace p184 := eq_true p184
                                replace q184 := eq_true q184
                                have p185 : 0 ≤ (x14_3 : Int) := of_decide_eq_true (by first | (with_reducible assumption) | assumption)
                                have q185 : x14_3 < (t171.length : Int) := of_decide_eq_true (by first | (with_reducible assumption) | assumption)
                                obtain ⟨ad185, e185, hx185_0, hx185_1, hx185_2⟩ := at_T32 (Kd.R_reads' HO_4.out).2.2 x14_3 p185 q185
                                cases e185
                                replace p185 := eq_true p185
                                replace q185 := eq_true q185
                                have p186 : 0 ≤ (x14_3 : Int) := of_decide_eq_true (by first | (with_reducible assumption) | assumption)
                                have q186 : x14_3 < (t179.length : Int) := of_decide_eq_true (by first | (with_reducible assumption) | assumption)
                                obtain ⟨ad186, e186, hx186_0, hx186_1, hx186_2⟩ := at_T32 (Kd.R_reads' HO_11.out).2.2 x14_3 p186 q186
                                obtain rfl : ad184 = ad186 := (by injection e186)
                                replace p186 := eq_true p186
                                replace q186 := eq_true q186
                                have p187 : 0 ≤ (x14_3 : Int) := of_decide_eq_true (by first | (with_reducible assumption) | assumption)
                                have q187 : x14_3 < (t171.length : Int) := of_decide_eq_true (by first | (with_reducible assumption) | assumption)
                                obtain ⟨ad187, e187, hx187_0, hx187_1, hx187_2⟩ := at_T32 (Kd.R_reads' HO_4.out).2.2 x14_3 p187 q187
                                obtain rfl : ad185 = ad187 := (by injection e187)
                                replace p187 := eq_true p187
                                replace q187 := eq_true q187
                                go_wp2
                                repeat (go_quiet (fail); try go_wp2)
                                go_ret
                                exact ⟨by first | rfl | (simp [errW_none, errW_some] <;> rfl) | (simp [*, errW_none, errW_some] <;> rfl), by repeat (first | (with_reducible first | exact HB.out | apply below_alloc | apply pw_below_drewN | apply below_drew1) | exact HB.out)⟩
                            · rw [if_neg c52] at H
                              have c52b0 : (((rd_T32 t179 x14_3).f0) == ((rd_T32 t171 x14_3).f0)) = false := beq_eq_false_iff_ne.mpr c52
                              have c52b1 : (((rd_T32 t179 x14_3).f0) != ((rd_T32 t171 x14_3).f0)) = true := bne_iff_ne.mpr c52
                              obtain rfl := Option.some.inj H
                              obtain ⟨Ao56, co56, eo56⟩ := Kd.R_slice HO_11.out
                              subst eo56
                              have p184 : 0 ≤ (x14_3 : Int) := of_decide_eq_true (by first | (with_reducible assumption) | assumption)
                              have q184 : x14_3 < (t179.length : Int) := of_decide_eq_true (by first | (with_reducible assumption) | assumption)
                              obtain ⟨ad184, e184, hx184_0, hx184_1, hx184_2⟩ := at_T32 (Kd.R_reads' HO_11.out).2.2 x14_3 p184 q184
                              cases e184
                              replace p184 := eq_true p184
                              replace q184 := eq_true q184
                              have p185 : 0 ≤ (x14_3 : Int) := of_decide_eq_true (by first | (with_reducible assumption) | assumption)
                              have q185 : x14_3 < (t171.length : Int) := of_decide_eq_true (by first | (with_reducible assumption) | assumption)
                              obtain ⟨ad185, e185, hx185_0, hx185_1, hx185_2⟩ := at_T32 (Kd.R_reads' HO_4.out).2.2 x14_3 p185 q185
                              cases e185
                              replace p185 := eq_true p185
                              replace q185 := eq_true q185
                              go_wp2
                              repeat (go_quiet (fail); try go_wp2)
                              go_ret
                              exact ⟨by first | rfl | (simp [errW_none, errW_some] <;> rfl) | (simp [*, errW_none, errW_some] <;> rfl), by repeat (first | (with_reducible first | exact HB.out | apply below_alloc | apply pw_below_drewN | apply below_drew1) | exact HB.out)⟩
                          · rw [if_neg c51] at H
                            exact absurd H (by simp)
                        · rw [if_neg c50] at H
                          exact absurd H (by simp)
                      · rw [if_neg c49] at H
                        have c49b0 : decide (x14_3 < (t171.length : Int)) = false := decide_eq_false c49
                        clear c49
                        obtain rfl := Option.some.inj H
                        go_wp2
                        repeat (go_quiet (fail); try go_wp2)
                        go_ret
                        exact ⟨by first | rfl | (simp [errW_none, errW_some] <;> rfl) | (simp [*, errW_none, errW_some] <;> rfl), by repeat (first | (with_reducible first | exact HB.out | apply below_alloc | apply pw_below_drewN | apply below_drew1) | exact HB.out)⟩
    · rw [if_neg c6] at H
      have c6b0 : (t173 == 0) = false := beq_eq_false_iff_ne.mpr c6
      have c6b1 : (t173 != 0) = true := bne_iff_ne.mpr c6
      by_cases c57 : t170 = true
      · subst c57
        have H1 : (if t173 = 2 then (if (t171.length : Int) = 0 then (if t172 ≥ 0 then (some (decide (t172 < (a0.size : Int)))) else (some false)) else (some false)) else (some false)) = some r := by rw [if_pos rfl] at H; exact H
        clear H
        have H := H1
        clear H1
        by_cases c58 : t173 = 2
        · rw [if_pos c58] at H
          have c58b0 : (t173 == 2) = true := beq_iff_eq.mpr c58
          have c58b1 : (t173 != 2) = false := bne_eq_false_iff_eq.mpr c58
          clear c58
          by_cases c59 : (t171.length : Int) = 0
          · rw [if_pos c59] at H
            have c59b0 : ((t171.length : Int) == 0) = true := beq_iff_eq.mpr c59
            have c59b1 : ((t171.length : Int) != 0) = false := bne_eq_false_iff_eq.mpr c59
            clear c59
            by_cases c60 : t172 ≥ 0
            · rw [if_pos c60] at H
              have c60b0 : decide (0 ≤ t172) = true := decide_eq_true c60
              clear c60
              obtain rfl := Option.some.inj H
              go_enter Tryd.func4, Tryd.ntmps4
              go_wp2_with (first | (go_at_call 10; (with_reducible refine (tammylaw06_shown.calls k  true _ A2.out).mono ?_); rintro e w61 ⟨rfl, hb⟩; have n0_ := Aside0.mk (below_step (by repeat (first | (with_reducible first | exact HB.out | apply below_alloc | apply pw_below_drewN | apply below_drew1) | exact HB.out)) hb); clear HB; have HB := n0_; clear n0_; (try clear hb); (try clear hb2); (try clear hk); (try clear hi)) | (go_at_call 11; (with_reducible refine (lex_Toks.calls k a0 t171 t172 t173 _ A5.out).mono ?_); rintro e w62 ⟨v174, rfl, ho0, hb⟩; have n0_ := Aside0.mk (Kd.R_lower ho0 (below_size (by repeat (first | (with_reducible first | exact HB.out | apply below_alloc | apply pw_below_drewN | apply below_drew1) | exact HB.out)))); have n1_ := Aside0.mk (below_step (by repeat (first | (with_reducible first | exact HB.out | apply below_alloc | apply pw_below_drewN | apply below_drew1) | exact HB.out)) hb); clear HB; have HO175 := n0_; have HB := n1_; clear n0_ n1_; (try clear hb); (try clear hb2); (try clear hk); (try clear hi); (try clear ho0); obtain ⟨Ao63, co63, eo63⟩ := Kd.R_slice HO175.out; subst eo63))
              repeat (go_quiet (first | (go_at_call 10; (with_reducible refine (tammylaw06_shown.calls k  true _ A2.out).mono ?_); rintro e w61 ⟨rfl, hb⟩; have n0_ := Aside0.mk (below_step (by repeat (first | (with_reducible first | exact HB.out | apply below_alloc | apply pw_below_drewN | apply below_drew1) | exact HB.out)) hb); clear HB; have HB := n0_; clear n0_; (try clear hb); (try clear hb2); (try clear hk); (try clear hi)) | (go_at_call 11; (with_reducible refine (lex_Toks.calls k a0 t171 t172 t173 _ A5.out).mono ?_); rintro e w62 ⟨v174, rfl, ho0, hb⟩; have n0_ := Aside0.mk (Kd.R_lower ho0 (below_size (by repeat (first | (with_reducible first | exact HB.out | apply below_alloc | apply pw_below_drewN | apply below_drew1) | exact HB.out)))); have n1_ := Aside0.mk (below_step (by repeat (first | (with_reducible first | exact HB.out | apply below_alloc | apply pw_below_drewN | apply below_drew1) | exact HB.out)) hb); clear HB; have HO175 := n0_; have HB := n1_; clear n0_ n1_; (try clear hb); (try clear hb2); (try clear hk); (try clear hi); (try clear ho0); obtain ⟨Ao63, co63, eo63⟩ := Kd.R_slice HO175.out; subst eo63)); try go_wp2_with (first | (go_at_call 10; (with_reducible refine (tammylaw06_shown.calls k  true _ A2.out).mono ?_); rintro e w61 ⟨rfl, hb⟩; have n0_ := Aside0.mk (below_step (by repeat (first | (with_reducible first | exact HB.out | apply below_alloc | apply pw_below_drewN | apply below_drew1) | exact HB.out)) hb); clear HB; have HB := n0_; clear n0_; (try clear hb); (try clear hb2); (try clear hk); (try clear hi)) | (go_at_call 11; (with_reducible refine (lex_Toks.calls k a0 t171 t172 t173 _ A5.out).mono ?_); rintro e w62 ⟨v174, rfl, ho0, hb⟩; have n0_ := Aside0.mk (Kd.R_lower ho0 (below_size (by repeat (first | (with_reducible first | exact HB.out | apply below_alloc | apply pw_below_drewN | apply below_drew1) | exact HB.out)))); have n1_ := Aside0.mk (below_step (by repeat (first | (with_reducible first | exact HB.out | apply below_alloc | apply pw_below_drewN | apply below_drew1) | exact HB.out)) hb); clear HB; have HO175 := n0_; have HB := n1_; clear n0_ n1_; (try clear hb); (try clear hb2); (try clear hk); (try clear hi); (try clear ho0); obtain ⟨Ao63, co63, eo63⟩ := Kd.R_slice HO175.out; subst eo63)))
              go_ret
              exact ⟨by first | rfl | (simp [errW_none, errW_some] <;> rfl) | (simp [*, errW_none, errW_some] <;> rfl), by repeat (first | (with_reducible first | exact HB.out | apply below_alloc | apply pw_below_drewN | apply below_drew1) | exact HB.out)⟩
            · rw [if_neg c60] at H
              have c60b0 : decide (0 ≤ t172) = false := decide_eq_false c60
              clear c60
              obtain rfl := Option.some.inj H
              go_enter Tryd.func4, Tryd.ntmps4
              go_wp2_with (first | (go_at_call 10; (with_reducible refine (tammylaw06_shown.calls k  true _ A2.out).mono ?_); rintro e w64 ⟨rfl, hb⟩; have n0_ := Aside0.mk (below_step (by repeat (first | (with_reducible first | exact HB.out | apply below_alloc | apply pw_below_drewN | apply below_drew1) | exact HB.out)) hb); clear HB; have HB := n0_; clear n0_; (try clear hb); (try clear hb2); (try clear hk); (try clear hi)) | (go_at_call 11; (with_reducible refine (lex_Toks.calls k a0 t171 t172 t173 _ A5.out).mono ?_); rintro e w65 ⟨v174, rfl, ho0, hb⟩; have n0_ := Aside0.mk (Kd.R_lower ho0 (below_size (by repeat (first | (with_reducible first | exact HB.out | apply below_alloc | apply pw_below_drewN | apply below_drew1) | exact HB.out)))); have n1_ := Aside0.mk (below_step (by repeat (first | (with_reducible first | exact HB.out | apply below_alloc | apply pw_below_drewN | apply below_drew1) | exact HB.out)) hb); clear HB; have HO175 := n0_; have HB := n1_; clear n0_ n1_; (try clear hb); (try clear hb2); (try clear hk); (try clear hi); (try clear ho0); obtain ⟨Ao66, co66, eo66⟩ := Kd.R_slice HO175.out; subst eo66))
              repeat (go_quiet (first | (go_at_call 10; (with_reducible refine (tammylaw06_shown.calls k  true _ A2.out).mono ?_); rintro e w64 ⟨rfl, hb⟩; have n0_ := Aside0.mk (below_step (by repeat (first | (with_reducible first | exact HB.out | apply below_alloc | apply pw_below_drewN | apply below_drew1) | exact HB.out)) hb); clear HB; have HB := n0_; clear n0_; (try clear hb); (try clear hb2); (try clear hk); (try clear hi)) | (go_at_call 11; (with_reducible refine (lex_Toks.calls k a0 t171 t172 t173 _ A5.out).mono ?_); rintro e w65 ⟨v174, rfl, ho0, hb⟩; have n0_ := Aside0.mk (Kd.R_lower ho0 (below_size (by repeat (first | (with_reducible first | exact HB.out | apply below_alloc | apply pw_below_drewN | apply below_drew1) | exact HB.out)))); have n1_ := Aside0.mk (below_step (by repeat (first | (with_reducible first | exact HB.out | apply below_alloc | apply pw_below_drewN | apply below_drew1) | exact HB.out)) hb); clear HB; have HO175 := n0_; have HB := n1_; clear n0_ n1_; (try clear hb); (try clear hb2); (try clear hk); (try clear hi); (try clear ho0); obtain ⟨Ao66, co66, eo66⟩ := Kd.R_slice HO175.out; subst eo66)); try go_wp2_with (first | (go_at_call 10; (with_reducible refine (tammylaw06_shown.calls k  true _ A2.out).mono ?_); rintro e w64 ⟨rfl, hb⟩; have n0_ := Aside0.mk (below_step (by repeat (first | (with_reducible first | exact HB.out | apply below_alloc | apply pw_below_drewN | apply below_drew1) | exact HB.out)) hb); clear HB; have HB := n0_; clear n0_; (try clear hb); (try clear hb2); (try clear hk); (try clear hi)) | (go_at_call 11; (with_reducible refine (lex_Toks.calls k a0 t171 t172 t173 _ A5.out).mono ?_); rintro e w65 ⟨v174, rfl, ho0, hb⟩; have n0_ := Aside0.mk (Kd.R_lower ho0 (below_size (by repeat (first | (with_reducible first | exact HB.out | apply below_alloc | apply pw_below_drewN | apply below_drew1) | exact HB.out)))); have n1_ := Aside0.mk (below_step (by repeat (first | (with_reducible first | exact HB.out | apply below_alloc | apply pw_below_drewN | apply below_drew1) | exact HB.out)) hb); clear HB; have HO175 := n0_; have HB := n1_; clear n0_ n1_; (try clear hb); (try clear hb2); (try clear hk); (try clear hi); (try clear ho0); obtain ⟨Ao66, co66, eo66⟩ := Kd.R_slice HO175.out; subst eo66)))
              go_ret
              exact ⟨by first | rfl | (simp [errW_none, errW_some] <;> rfl) | (simp [*, errW_none, errW_some] <;> rfl), by repeat (first | (with_reducible first | exact HB.out | apply below_alloc | apply pw_below_drewN | apply below_drew1) | exact HB.out)⟩
          · rw [if_neg c59] at H
            have c59b0 : ((t171.length : Int) == 0) = false := beq_eq_false_iff_ne.mpr c59
            have c59b1 : ((t171.length : Int) != 0) = true := bne_iff_ne.mpr c59
            have c59b2 : ¬ (t171 = []) := fun h_ => c59 (by rw [h_]; rfl)
            obtain rfl := Option.some.inj H
            go_enter Tryd.func4, Tryd.ntmps4
            go_wp2_with (first | (go_at_call 10; (with_reducible refine (tammylaw06_shown.calls k  true _ A2.out).mono ?_); rintro e w67 ⟨rfl, hb⟩; have n0_ := Aside0.mk (below_step (by repeat (first | (with_reducible first | exact HB.out | apply below_alloc | apply pw_below_drewN | apply below_drew1) | exact HB.out)) hb); clear HB; have HB := n0_; clear n0_; (try clear hb); (try clear hb2); (try clear hk); (try clear hi)) | (go_at_call 11; (with_reducible refine (lex_Toks.calls k a0 t171 t172 t173 _ A5.out).mono ?_); rintro e w68 ⟨v174, rfl, ho0, hb⟩; have n0_ := Aside0.mk (Kd.R_lower ho0 (below_size (by repeat (first | (with_reducible first | exact HB.out | apply below_alloc | apply pw_below_drewN | apply below_drew1) | exact HB.out)))); have n1_ := Aside0.mk (below_step (by repeat (first | (with_reducible first | exact HB.out | apply below_alloc | apply pw_below_drewN | apply below_drew1) | exact HB.out)) hb); clear HB; have HO175 := n0_; have HB := n1_; clear n0_ n1_; (try clear hb); (try clear hb2); (try clear hk); (try clear hi); (try clear ho0); obtain ⟨Ao69, co69, eo69⟩ := Kd.R_slice HO175.out; subst eo69))
            repeat (go_quiet (first | (go_at_call 10; (with_reducible refine (tammylaw06_shown.calls k  true _ A2.out).mono ?_); rintro e w67 ⟨rfl, hb⟩; have n0_ := Aside0.mk (below_step (by repeat (first | (with_reducible first | exact HB.out | apply below_alloc | apply pw_below_drewN | apply below_drew1) | exact HB.out)) hb); clear HB; have HB := n0_; clear n0_; (try clear hb); (try clear hb2); (try clear hk); (try clear hi)) | (go_at_call 11; (with_reducible refine (lex_Toks.calls k a0 t171 t172 t173 _ A5.out).mono ?_); rintro e w68 ⟨v174, rfl, ho0, hb⟩; have n0_ := Aside0.mk (Kd.R_lower ho0 (below_size (by repeat (first | (with_reducible first | exact HB.out | apply below_alloc | apply pw_below_drewN | apply below_drew1) | exact HB.out)))); have n1_ := Aside0.mk (below_step (by repeat (first | (with_reducible first | exact HB.out | apply below_alloc | apply pw_below_drewN | apply below_drew1) | exact HB.out)) hb); clear HB; have HO175 := n0_; have HB := n1_; clear n0_ n1_; (try clear hb); (try clear hb2); (try clear hk); (try clear hi); (try clear ho0); obtain ⟨Ao69, co69, eo69⟩ := Kd.R_slice HO175.out; subst eo69)); try go_wp2_with (first | (go_at_call 10; (with_reducible refine (tammylaw06_shown.calls k  true _ A2.out).mono ?_); rintro e w67 ⟨rfl, hb⟩; have n0_ := Aside0.mk (below_step (by repeat (first | (with_reducible first | exact HB.out | apply below_alloc | apply pw_below_drewN | apply below_drew1) | exact HB.out)) hb); clear HB; have HB := n0_; clear n0_; (try clear hb); (try clear hb2); (try clear hk); (try clear hi)) | (go_at_call 11; (with_reducible refine (lex_Toks.calls k a0 t171 t172 t173 _ A5.out).mono ?_); rintro e w68 ⟨v174, rfl, ho0, hb⟩; have n0_ := Aside0.mk (Kd.R_lower ho0 (below_size (by repeat (first | (with_reducible first | exact HB.out | apply below_alloc | apply pw_below_drewN | apply below_drew1) | exact HB.out)))); have n1_ := Aside0.mk (below_step (by repeat (first | (with_reducible first | exact HB.out | apply below_alloc | apply pw_below_drewN | apply below_drew1) | exact HB.out)) hb); clear HB; have HO175 := n0_; have HB := n1_; clear n0_ n1_; (try clear hb); (try clear hb2); (try clear hk); (try clear hi); (try clear ho0); obtain ⟨Ao69, co69, eo69⟩ := Kd.R_slice HO175.out; subst eo69)))
            go_ret
            exact ⟨by first | rfl | (simp [errW_none, errW_some] <;> rfl) | (simp [*, errW_none, errW_some] <;> rfl), by repeat (first | (with_reducible first | exact HB.out | apply below_alloc | apply pw_below_drewN | apply below_drew1) | exact HB.out)⟩
        · rw [if_neg c58] at H
          have c58b0 : (t173 == 2) = false := beq_eq_false_iff_ne.mpr c58
          have c58b1 : (t173 != 2) = true := bne_iff_ne.mpr c58
          obtain rfl := Option.some.inj H
          go_enter Tryd.func4, Tryd.ntmps4
          go_wp2_with (first | (go_at_call 10; (with_reducible refine (tammylaw06_shown.calls k  true _ A2.out).mono ?_); rintro e w70 ⟨rfl, hb⟩; have n0_ := Aside0.mk (below_step (by repeat (first | (with_reducible first | exact HB.out | apply below_alloc | apply pw_below_drewN | apply below_drew1) | exact HB.out)) hb); clear HB; have HB := n0_; clear n0_; (try clear hb); (try clear hb2); (try clear hk); (try clear hi)) | (go_at_call 11; (with_reducible refine (lex_Toks.calls k a0 t171 t172 t173 _ A5.out).mono ?_); rintro e w71 ⟨v174, rfl, ho0, hb⟩; have n0_ := Aside0.mk (Kd.R_lower ho0 (below_size (by repeat (first | (with_reducible first | exact HB.out | apply below_alloc | apply pw_below_drewN | apply below_drew1) | exact HB.out)))); have n1_ := Aside0.mk (below_step (by repeat (first | (with_reducible first | exact HB.out | apply below_alloc | apply pw_below_drewN | apply below_drew1) | exact HB.out)) hb); clear HB; have HO175 := n0_; have HB := n1_; clear n0_ n1_; (try clear hb); (try clear hb2); (try clear hk); (try clear hi); (try clear ho0)))
          repeat (go_quiet (first | (go_at_call 10; (with_reducible refine (tammylaw06_shown.calls k  true _ A2.out).mono ?_); rintro e w70 ⟨rfl, hb⟩; have n0_ := Aside0.mk (below_step (by repeat (first | (with_reducible first | exact HB.out | apply below_alloc | apply pw_below_drewN | apply below_drew1) | exact HB.out)) hb); clear HB; have HB := n0_; clear n0_; (try clear hb); (try clear hb2); (try clear hk); (try clear hi)) | (go_at_call 11; (with_reducible refine (lex_Toks.calls k a0 t171 t172 t173 _ A5.out).mono ?_); rintro e w71 ⟨v174, rfl, ho0, hb⟩; have n0_ := Aside0.mk (Kd.R_lower ho0 (below_size (by repeat (first | (with_reducible first | exact HB.out | apply below_alloc | apply pw_below_drewN | apply below_drew1) | exact HB.out)))); have n1_ := Aside0.mk (below_step (by repeat (first | (with_reducible first | exact HB.out | apply below_alloc | apply pw_below_drewN | apply below_drew1) | exact HB.out)) hb); clear HB; have HO175 := n0_; have HB := n1_; clear n0_ n1_; (try clear hb); (try clear hb2); (try clear hk); (try clear hi); (try clear ho0))); try go_wp2_with (first | (go_at_call 10; (with_reducible refine (tammylaw06_shown.calls k  true _ A2.out).mono ?_); rintro e w70 ⟨rfl, hb⟩; have n0_ := Aside0.mk (below_step (by repeat (first | (with_reducible first | exact HB.out | apply below_alloc | apply pw_below_drewN | apply below_drew1) | exact HB.out)) hb); clear HB; have HB := n0_; clear n0_; (try clear hb); (try clear hb2); (try clear hk); (try clear hi)) | (go_at_call 11; (with_reducible refine (lex_Toks.calls k a0 t171 t172 t173 _ A5.out).mono ?_); rintro e w71 ⟨v174, rfl, ho0, hb⟩; have n0_ := Aside0.mk (Kd.R_lower ho0 (below_size (by repeat (first | (with_reducible first | exact HB.out | apply below_alloc | apply pw_below_drewN | apply below_drew1) | exact HB.out)))); have n1_ := Aside0.mk (below_step (by repeat (first | (with_reducible first | exact HB.out | apply below_alloc | apply pw_below_drewN | apply below_drew1) | exact HB.out)) hb); clear HB; have HO175 := n0_; have HB := n1_; clear n0_ n1_; (try clear hb); (try clear hb2); (try clear hk); (try clear hi); (try clear ho0))))
          go_ret
          exact ⟨by first | rfl | (simp [errW_none, errW_some] <;> rfl) | (simp [*, errW_none, errW_some] <;> rfl), by repeat (first | (with_reducible first | exact HB.out | apply below_alloc | apply pw_below_drewN | apply below_drew1) | exact HB.out)⟩
      · replace c57 := Bool.eq_false_iff.mpr c57
        subst c57
        have H1 : (some false) = some r := by rw [if_neg (show ¬ (false = true) by decide)] at H; exact H
        clear H
        have H := H1
        clear H1
        obtain rfl := Option.some.inj H
        go_enter Tryd.func4, Tryd.ntmps4
        go_wp2_with (first | (go_at_call 10; (with_reducible refine (tammylaw06_shown.calls k  false _ A2.out).mono ?_); rintro e w72 ⟨rfl, hb⟩; have n0_ := Aside0.mk (below_step (by repeat (first | (with_reducible first | exact HB.out | apply below_alloc | apply pw_below_drewN | apply below_drew1) | exact HB.out)) hb); clear HB; have HB := n0_; clear n0_; (try clear hb); (try clear hb2); (try clear hk); (try clear hi)) | (go_at_call 11; (with_reducible refine (lex_Toks.calls k a0 t171 t172 t173 _ A5.out).mono ?_); rintro e w73 ⟨v174, rfl, ho0, hb⟩; have n0_ := Aside0.mk (Kd.R_lower ho0 (below_size (by repeat (first | (with_reducible first | exact HB.out | apply below_alloc | apply pw_below_drewN | apply below_drew1) | exact HB.out)))); have n1_ := Aside0.mk (below_step (by repeat (first | (with_reducible first | exact HB.out | apply below_alloc | apply pw_below_drewN | apply below_drew1) | exact HB.out)) hb); clear HB; have HO175 := n0_; have HB := n1_; clear n0_ n1_; (try clear hb); (try clear hb2); (try clear hk); (try clear hi); (try clear ho0)))
        repeat (go_quiet (first | (go_at_call 10; (with_reducible refine (tammylaw06_shown.calls k  false _ A2.out).mono ?_); rintro e w72 ⟨rfl, hb⟩; have n0_ := Aside0.mk (below_step (by repeat (first | (with_reducible first | exact HB.out | apply below_alloc | apply pw_below_drewN | apply below_drew1) | exact HB.out)) hb); clear HB; have HB := n0_; clear n0_; (try clear hb); (try clear hb2); (try clear hk); (try clear hi)) | (go_at_call 11; (with_reducible refine (lex_Toks.calls k a0 t171 t172 t173 _ A5.out).mono ?_); rintro e w73 ⟨v174, rfl, ho0, hb⟩; have n0_ := Aside0.mk (Kd.R_lower ho0 (below_size (by repeat (first | (with_reducible first | exact HB.out | apply below_alloc | apply pw_below_drewN | apply below_drew1) | exact HB.out)))); have n1_ := Aside0.mk (below_step (by repeat (first | (with_reducible first | exact HB.out | apply below_alloc | apply pw_below_drewN | apply below_drew1) | exact HB.out)) hb); clear HB; have HO175 := n0_; have HB := n1_; clear n0_ n1_; (try clear hb); (try clear hb2); (try clear hk); (try clear hi); (try clear ho0))); try go_wp2_with (first | (go_at_call 10; (with_reducible refine (tammylaw06_shown.calls k  false _ A2.out).mono ?_); rintro e w72 ⟨rfl, hb⟩; have n0_ := Aside0.mk (below_step (by repeat (first | (with_reducible first | exact HB.out | apply below_alloc | apply pw_below_drewN | apply below_drew1) | exact HB.out)) hb); clear HB; have HB := n0_; clear n0_; (try clear hb); (try clear hb2); (try clear hk); (try clear hi)) | (go_at_call 11; (with_reducible refine (lex_Toks.calls k a0 t171 t172 t173 _ A5.out).mono ?_); rintro e w73 ⟨v174, rfl, ho0, hb⟩; have n0_ := Aside0.mk (Kd.R_lower ho0 (below_size (by repeat (first | (with_reducible first | exact HB.out | apply below_alloc | apply pw_below_drewN | apply below_drew1) | exact HB.out)))); have n1_ := Aside0.mk (below_step (by repeat (first | (with_reducible first | exact HB.out | apply below_alloc | apply pw_below_drewN | apply below_drew1) | exact HB.out)) hb); clear HB; have HO175 := n0_; have HB := n1_; clear n0_ n1_; (try clear hb); (try clear hb2); (try clear hk); (try clear hi); (try clear ho0))))
        go_ret
        exact ⟨by first | rfl | (simp [errW_none, errW_some] <;> rfl) | (simp [*, errW_none, errW_some] <;> rfl), by repeat (first | (with_reducible first | exact HB.out | apply below_alloc | apply pw_below_drewN | apply below_drew1) | exact HB.out)⟩

/-- THE ONE PURE STATEMENT of tammylaw06_LexBack: yours. -/
def tammylaw06_LexBack.Pure : Prop := ∀ (a0 : ByteArray), a0.size ≤ 140737488351232 → ∃ k, tammylaw06_LexBack.f k a0 = some true
theorem tammylaw06_LexBack.walk (P : tammylaw06_LexBack.Pure) (a0 : ByteArray) (w : World) (w0 : a0.size ≤ 140737488351232) :
    Calls Tryd.prog 4 #[.string a0] w fun e w' => e = .returned (.bool true) ∧ Below w.heap.size w w' := by
  obtain ⟨k, h⟩ := P a0 w0
  refine (tammylaw06_LexBack.calls k a0 true w h).mono ?_
  rintro e w' ⟨rfl, hd⟩
  exact ⟨rfl, hd⟩

end Go.Proofs.YtfjhnljidfdhjaaDoor.Q
