-- Written by a program of the prover's (a print of the translation, with contracts of its own); nothing in it is trusted: Lean checks it.
import Derived.Test.YtfjhnljidfdhjaaDoorQx0
import Derived.Test.YtfjhnljidfdhjaaDoorQx1
import Derived.Test.YtfjhnljidfdhjaaDoorQx2
namespace Go.Proofs.YtfjhnljidfdhjaaDoor.Q
open Go.RowKit Go.Proofs.YtfjhnljidfdhjaaDoorW.PrintWords Go.Proofs.YtfjhnljidfdhjaaDoorW.PrintLast Go.Proofs.YtfjhnljidfdhjaaDoorW.PrintMore
attribute [local go_sem] max2_int min2_int max_two min_two max_three min_three max_four min_four   -- for this text's walks alone
set_option linter.unusedVariables false
set_option linter.unusedSimpArgs false

attribute [local go_sem high] eqA32
/-! ### lex_Toks: function 11 -/
def lex_Toks.l0 : Nat → ByteArray → List (S32) → Int → Bool → Option ((List (S32)) × Int × Int)
  | 0, _, _, _, _ => none
  | k + 1, x0, x5, x6, x7 => if 0 ≤ x6 then (if x6 ≤ (x0.size : Int) then ((lex_far.f k (x0.extract (x6 : Int).toNat x0.size) (Value.func (Fn.func 21) #[.string (⟨#[32, 9, 10]⟩ : ByteArray)] #[])).bind fun t119 => (if (wrap64 (x6 + t119)) = (x0.size : Int) then (if x7 = true then (some (([] : List (S32)), wrap64 (x6 + t119), 2)) else (some (x5, 0, 0))) else (if 0 ≤ (wrap64 (x6 + t119)) then (if (wrap64 (x6 + t119)) ≤ (x0.size : Int) then ((lex_token.f k (x0.extract ((wrap64 (x6 + t119)) : Int).toNat x0.size)).bind fun bt120 => (if bt120.2.toList = ([] : List UInt8) then (some (([] : List (S32)), wrap64 (x6 + t119), 2)) else (if x5.length < 4398046511104 then (lex_Toks.l0 k x0 (x5 ++ [(⟨bt120.1, bt120.2, wrap64 (x6 + t119)⟩ : S32)]) (wrap64 ((wrap64 (x6 + t119)) + (bt120.2.size : Int))) x7) else (none)))) else (none)) else (none)))) else (none)) else (none)
def lex_Toks.f (k : Nat) (a0 : ByteArray) : Option ((List (S32)) × Int × Int) := if (a0.size : Int) > 2000 then (some (([] : List (S32)), 0, 7)) else (lex_Toks.l0 k a0 ([] : List (S32)) 0 false)
theorem lex_Toks.mono_l : ∀ k, (∀ y0 y1 y2 y3, LeO (lex_Toks.l0 k y0 y1 y2 y3) (lex_Toks.l0 (k + 1) y0 y1 y2 y3))
  | 0 => fun _ _ _ _ r h => by simp [lex_Toks.l0] at h
  | k + 1 => by
    have ih0 := lex_Toks.mono_l k
    · intro y0 y1 y2 y3
      unfold lex_Toks.l0
      repeat' first
      | (with_reducible exact ih0 _ _ _ _)
      | (with_reducible exact lex_far.mono _ _ _)
      | (with_reducible exact lex_token.mono _ _)
      | (with_reducible exact LeO.refl _)
      | (with_reducible exact LeO.none _)
      | (with_reducible refine LeO.ite ?_ ?_)
      | (with_reducible refine LeO.bind ?_ (fun _ => ?_))
      | exact ih0 _ _ _ _
      | exact lex_far.mono _ _ _
      | exact lex_token.mono _ _
      | exact LeO.none _
      | refine LeO.ite ?_ ?_
      | refine LeO.bind ?_ (fun _ => ?_)
theorem lex_Toks.mono : ∀ a0 k, LeO (lex_Toks.f k a0) (lex_Toks.f (k + 1) a0) := by
  intro a0 k
  have ih0 := lex_Toks.mono_l k
  unfold lex_Toks.f
  repeat' first
      | (with_reducible exact ih0 _ _ _ _)
      | (with_reducible exact lex_far.mono _ _ _)
      | (with_reducible exact lex_token.mono _ _)
      | (with_reducible exact LeO.refl _)
      | (with_reducible exact LeO.none _)
      | (with_reducible refine LeO.ite ?_ ?_)
      | (with_reducible refine LeO.bind ?_ (fun _ => ?_))
      | exact ih0 _ _ _ _
      | exact lex_far.mono _ _ _
      | exact lex_token.mono _ _
      | exact LeO.none _
      | refine LeO.ite ?_ ?_
      | refine LeO.bind ?_ (fun _ => ?_)
set_option maxHeartbeats 8000000 in
set_option maxRecDepth 100000 in
theorem lex_Toks.calls (k : Nat) (a0 : ByteArray) (r1 : List (S32)) (r2 : Int) (r3 : Int) (w : World) (h : lex_Toks.f k a0 = some (r1, r2, r3)) :
    Calls Tryd.prog 11 #[.string a0] w fun e w' => ∃ v0_ : Value, e = .returned (.tuple #[v0_, .int .i64 r2, .int .i64 r3]) ∧ Kd.R k32 32 w' w.heap.size (fun _ => True) v0_ r1 ∧ Below w.heap.size w w' := by
  have hu32 := Tryd.underlying32
  have HB := Aside0.mk (Below.refl w.heap.size w)
  have H : (if (a0.size : Int) > 2000 then (some (([] : List (S32)), 0, 7)) else (lex_Toks.l0 k a0 ([] : List (S32)) 0 false)) = some (r1, r2, r3) := h
  clear h
  by_cases c2 : (a0.size : Int) > 2000
  · rw [if_pos c2] at H
    have c2b0 : decide (2000 < (a0.size : Int)) = true := decide_eq_true c2
    have c2b1 : decide (2000 < a0.size) = true := decide_eq_true (by omega)
    clear c2
    simp only [Option.some.injEq, Prod.mk.injEq] at H
    obtain ⟨rfl, rfl, rfl⟩ := H
    go_enter Tryd.func11, Tryd.ntmps11
    go_wp2
    all_goals (try (go_step3; go_wp2; try (go_step3; go_wp2)))
    try rw [Exit.noGoto_ret]
    go_ret3
    exact ⟨_, by first | rfl | (simp [errW_none, errW_some] <;> rfl) | (simp [*, errW_none, errW_some] <;> rfl), by first | exact Kd.R_nil _ _ _ _ _ | exact Kd.N_nil _ _ _ _ _ | exact Kd.V_nil _ _ _ _ _ | exact Kd.Q_nil _ _ _ _ _ | exact Kd.S_nil _ _ _ _ _, by repeat (first | (with_reducible first | exact HB.out | apply below_alloc | apply pw_below_drewN | apply below_drew1) | exact HB.out)⟩
  · rw [if_neg c2] at H
    have c2b0 : decide (2000 < (a0.size : Int)) = false := decide_eq_false c2
    have c2b1 : decide (2000 < a0.size) = false := decide_eq_false (by omega)
    clear c2
    have H' := Aside0.mk H
    clear H
    go_enter Tryd.func11, Tryd.ntmps11
    go_wp2
    all_goals (try (go_step3; go_wp2; try (go_step3; go_wp2)))
    go_loopg [5, 6, 7] k (fun kq v5 v6 v7 w' => ∃ (x5_1 : List (S32)) (x6_1 : Int) (x7_1 : Bool), v6 = .int .i64 x6_1 ∧ v7 = .bool x7_1 ∧ Aside0 (lex_Toks.l0 kq a0 x5_1 x6_1 x7_1 = some (r1, r2, r3)) ∧ Aside0 (kq ≤ k) ∧ Aside0 (Kd.R k32 32 w' w.heap.size (fun _ => True) v5 x5_1) ∧ Aside0 (Below w.heap.size w w'))
    case atStart => exact ⟨(([] : List (S32))), (0), (false), (by first | rfl | (simp; done) | (simp [*]; done)), (by first | rfl | (simp; done) | (simp [*]; done)), H', ⟨Nat.le_refl _⟩, ⟨by first | exact Kd.R_nil _ _ _ _ _ | exact Kd.N_nil _ _ _ _ _ | exact Kd.V_nil _ _ _ _ _ | exact Kd.Q_nil _ _ _ _ _ | exact Kd.S_nil _ _ _ _ _⟩, ⟨by repeat (first | (with_reducible first | exact HB.out | apply below_alloc | apply pw_below_drewN | apply below_drew1) | exact HB.out)⟩⟩
    case round =>
      clear H'
      try clear c1
      try clear c2
      try clear c2b0
      try clear c2b1
      try clear p2
      obtain ⟨x5_1, x6_1, x7_1, rfl, rfl, HA, HK1, HO_5, HB⟩ := hrel
      cases gk with
      | zero => exact absurd HA.out (by simp [lex_Toks.l0])
      | succ k1 =>
        have H := HA.out
        clear HA
        simp only [lex_Toks.l0] at H
        by_cases c3 : 0 ≤ x6_1
        · rw [if_pos c3] at H
          have c3b0 := eq_true c3
          have c3b1 : decide (0 ≤ x6_1) = true := decide_eq_true c3
          clear c3
          by_cases c4 : x6_1 ≤ (a0.size : Int)
          · rw [if_pos c4] at H
            have c4b0 := eq_true c4
            have c4b1 : decide (x6_1 ≤ (a0.size : Int)) = true := decide_eq_true c4
            clear c4
            replace H := Option.bind_eq_some_iff.mp H
            obtain ⟨t119, A50, H⟩ := H
            replace H : (if (wrap64 (x6_1 + t119)) = (a0.size : Int) then (if x7_1 = true then (some (([] : List (S32)), wrap64 (x6_1 + t119), 2)) else (some (x5_1, 0, 0))) else (if 0 ≤ (wrap64 (x6_1 + t119)) then (if (wrap64 (x6_1 + t119)) ≤ (a0.size : Int) then ((lex_token.f k1 (a0.extract ((wrap64 (x6_1 + t119)) : Int).toNat a0.size)).bind fun bt120 => (if bt120.2.toList = ([] : List UInt8) then (some (([] : List (S32)), wrap64 (x6_1 + t119), 2)) else (if x5_1.length < 4398046511104 then (lex_Toks.l0 k1 a0 (x5_1 ++ [(⟨bt120.1, bt120.2, wrap64 (x6_1 + t119)⟩ : S32)]) (wrap64 ((wrap64 (x6_1 + t119)) + (bt120.2.size : Int))) x7_1) else (none)))) else (none)) else (none))) = some (r1, r2, r3) := H
            have A5 := Aside0.mk A50
            clear A50
            by_cases c6 : (wrap64 (x6_1 + t119)) = (a0.size : Int)
            · rw [if_pos c6] at H
              have c6b0 : ((wrap64 (x6_1 + t119)) == (a0.size : Int)) = true := beq_iff_eq.mpr c6
              have c6b1 : ((wrap64 (x6_1 + t119)) != (a0.size : Int)) = false := bne_eq_false_iff_eq.mpr c6
              clear c6
              by_cases c7 : x7_1 = true
              · subst c7
                have H1 : (some (([] : List (S32)), wrap64 (x6_1 + t119), 2)) = some (r1, r2, r3) := by rw [if_pos rfl] at H; exact H
                clear H
                have H := H1
                clear H1
                simp only [Option.some.injEq, Prod.mk.injEq] at H
                obtain ⟨rfl, rfl, rfl⟩ := H
                go_wp2_with (first | ((with_reducible refine gate_callee (f := 20) rfl ?_); refine goesL_ (some 18) rfl rfl Tryd.func20 (by kernel_rfl) rfl #[.string (a0.extract (x6_1 : Int).toNat a0.size), (Value.func (Fn.func 21) #[.string (⟨#[32, 9, 10]⟩ : ByteArray)] #[])] rfl (by (try simp only [List.map_toArray, List.map_cons, List.map_nil]); first | done | rfl | (simp only [List.length_drop, List.length_take]; rfl)) ?_; (with_reducible refine (lex_far.calls k1 (a0.extract (x6_1 : Int).toNat a0.size) (Value.func (Fn.func 21) #[.string (⟨#[32, 9, 10]⟩ : ByteArray)] #[]) t119 _ A5.out).mono ?_); rintro e w' ⟨rfl, ⟨nd, rfl⟩⟩; refine ⟨_, rfl, ?_⟩))
                all_goals (try (go_step3; go_wp2_with (first | ((with_reducible refine gate_callee (f := 20) rfl ?_); refine goesL_ (some 18) rfl rfl Tryd.func20 (by kernel_rfl) rfl #[.string (a0.extract (x6_1 : Int).toNat a0.size), (Value.func (Fn.func 21) #[.string (⟨#[32, 9, 10]⟩ : ByteArray)] #[])] rfl (by (try simp only [List.map_toArray, List.map_cons, List.map_nil]); first | done | rfl | (simp only [List.length_drop, List.length_take]; rfl)) ?_; (with_reducible refine (lex_far.calls k1 (a0.extract (x6_1 : Int).toNat a0.size) (Value.func (Fn.func 21) #[.string (⟨#[32, 9, 10]⟩ : ByteArray)] #[]) t119 _ A5.out).mono ?_); rintro e w' ⟨rfl, ⟨nd, rfl⟩⟩; refine ⟨_, rfl, ?_⟩)); try (go_step3; go_wp2_with (first | ((with_reducible refine gate_callee (f := 20) rfl ?_); refine goesL_ (some 18) rfl rfl Tryd.func20 (by kernel_rfl) rfl #[.string (a0.extract (x6_1 : Int).toNat a0.size), (Value.func (Fn.func 21) #[.string (⟨#[32, 9, 10]⟩ : ByteArray)] #[])] rfl (by (try simp only [List.map_toArray, List.map_cons, List.map_nil]); first | done | rfl | (simp only [List.length_drop, List.length_take]; rfl)) ?_; (with_reducible refine (lex_far.calls k1 (a0.extract (x6_1 : Int).toNat a0.size) (Value.func (Fn.func 21) #[.string (⟨#[32, 9, 10]⟩ : ByteArray)] #[]) t119 _ A5.out).mono ?_); rintro e w' ⟨rfl, ⟨nd, rfl⟩⟩; refine ⟨_, rfl, ?_⟩)))))
                try rw [Exit.noGoto_ret]
                go_ret3
                exact ⟨_, by first | rfl | (simp [errW_none, errW_some] <;> rfl) | (simp [*, errW_none, errW_some] <;> rfl), by first | exact Kd.R_nil _ _ _ _ _ | exact Kd.N_nil _ _ _ _ _ | exact Kd.V_nil _ _ _ _ _ | exact Kd.Q_nil _ _ _ _ _ | exact Kd.S_nil _ _ _ _ _, by repeat (first | (with_reducible first | exact HB.out | apply below_alloc | apply pw_below_drewN | apply below_drew1) | exact HB.out)⟩
              · replace c7 := Bool.eq_false_iff.mpr c7
                subst c7
                have H1 : (some (x5_1, 0, 0)) = some (r1, r2, r3) := by rw [if_neg (show ¬ (false = true) by decide)] at H; exact H
                clear H
                have H := H1
                clear H1
                simp only [Option.some.injEq, Prod.mk.injEq] at H
                obtain ⟨rfl, rfl, rfl⟩ := H
                go_wp2_with (first | ((with_reducible refine gate_callee (f := 20) rfl ?_); refine goesL_ (some 18) rfl rfl Tryd.func20 (by kernel_rfl) rfl #[.string (a0.extract (x6_1 : Int).toNat a0.size), (Value.func (Fn.func 21) #[.string (⟨#[32, 9, 10]⟩ : ByteArray)] #[])] rfl (by (try simp only [List.map_toArray, List.map_cons, List.map_nil]); first | done | rfl | (simp only [List.length_drop, List.length_take]; rfl)) ?_; (with_reducible refine (lex_far.calls k1 (a0.extract (x6_1 : Int).toNat a0.size) (Value.func (Fn.func 21) #[.string (⟨#[32, 9, 10]⟩ : ByteArray)] #[]) t119 _ A5.out).mono ?_); rintro e w' ⟨rfl, ⟨nd, rfl⟩⟩; refine ⟨_, rfl, ?_⟩))
                all_goals (try (go_step3; go_wp2_with (first | ((with_reducible refine gate_callee (f := 20) rfl ?_); refine goesL_ (some 18) rfl rfl Tryd.func20 (by kernel_rfl) rfl #[.string (a0.extract (x6_1 : Int).toNat a0.size), (Value.func (Fn.func 21) #[.string (⟨#[32, 9, 10]⟩ : ByteArray)] #[])] rfl (by (try simp only [List.map_toArray, List.map_cons, List.map_nil]); first | done | rfl | (simp only [List.length_drop, List.length_take]; rfl)) ?_; (with_reducible refine (lex_far.calls k1 (a0.extract (x6_1 : Int).toNat a0.size) (Value.func (Fn.func 21) #[.string (⟨#[32, 9, 10]⟩ : ByteArray)] #[]) t119 _ A5.out).mono ?_); rintro e w' ⟨rfl, ⟨nd, rfl⟩⟩; refine ⟨_, rfl, ?_⟩)); try (go_step3; go_wp2_with (first | ((with_reducible refine gate_callee (f := 20) rfl ?_); refine goesL_ (some 18) rfl rfl Tryd.func20 (by kernel_rfl) rfl #[.string (a0.extract (x6_1 : Int).toNat a0.size), (Value.func (Fn.func 21) #[.string (⟨#[32, 9, 10]⟩ : ByteArray)] #[])] rfl (by (try simp only [List.map_toArray, List.map_cons, List.map_nil]); first | done | rfl | (simp only [List.length_drop, List.length_take]; rfl)) ?_; (with_reducible refine (lex_far.calls k1 (a0.extract (x6_1 : Int).toNat a0.size) (Value.func (Fn.func 21) #[.string (⟨#[32, 9, 10]⟩ : ByteArray)] #[]) t119 _ A5.out).mono ?_); rintro e w' ⟨rfl, ⟨nd, rfl⟩⟩; refine ⟨_, rfl, ?_⟩)))))
                try rw [Exit.noGoto_ret]
                go_ret3
                exact ⟨_, by first | rfl | (simp [errW_none, errW_some] <;> rfl) | (simp [*, errW_none, errW_some] <;> rfl), by (with_reducible repeat (first | apply Kd.R_alloc | apply Kd.R_drewN | apply Kd.R_drew)); exact HO_5.out, by repeat (first | (with_reducible first | exact HB.out | apply below_alloc | apply pw_below_drewN | apply below_drew1) | exact HB.out)⟩
            · rw [if_neg c6] at H
              have c6b0 : ((wrap64 (x6_1 + t119)) == (a0.size : Int)) = false := beq_eq_false_iff_ne.mpr c6
              have c6b1 : ((wrap64 (x6_1 + t119)) != (a0.size : Int)) = true := bne_iff_ne.mpr c6
              obtain ⟨ji8, hji8⟩ : ∃ j_ : Int, (wrap64 (x6_1 + t119)) = j_ := ⟨_, rfl⟩
              replace H : (if 0 ≤ (ji8) then (if (ji8) ≤ (a0.size : Int) then ((lex_token.f k1 (a0.extract ((ji8) : Int).toNat a0.size)).bind fun bt120 => (if bt120.2.toList = ([] : List UInt8) then (some (([] : List (S32)), ji8, 2)) else (if x5_1.length < 4398046511104 then (lex_Toks.l0 k1 a0 (x5_1 ++ [(⟨bt120.1, bt120.2, ji8⟩ : S32)]) (wrap64 ((ji8) + (bt120.2.size : Int))) x7_1) else (none)))) else (none)) else (none)) = some (r1, r2, r3) := by first | (rw [hji8] at H; exact H) | (simp only [hji8] at H ⊢; exact H)
              (try rw [hji8] at c6b0)
              (try rw [hji8] at c6b1)
              (try rw [hji8] at A5)
              have hji8w : (IntKind.i64.wrap (x6_1 + t119)) = ji8 := (i64_w _).trans hji8
              by_cases c9 : 0 ≤ (ji8)
              · rw [if_pos c9] at H
                have c9b0 := eq_true c9
                have c9b1 : decide (0 ≤ (ji8)) = true := decide_eq_true c9
                clear c9
                by_cases c10 : (ji8) ≤ (a0.size : Int)
                · rw [if_pos c10] at H
                  have c10b0 := eq_true c10
                  have c10b1 : decide ((ji8) ≤ (a0.size : Int)) = true := decide_eq_true c10
                  clear c10
                  replace H := Option.bind_eq_some_iff.mp H
                  obtain ⟨⟨t120, t121⟩, A110, H⟩ := H
                  replace H : (if t121.toList = ([] : List UInt8) then (some (([] : List (S32)), ji8, 2)) else (if x5_1.length < 4398046511104 then (lex_Toks.l0 k1 a0 (x5_1 ++ [(⟨t120, t121, ji8⟩ : S32)]) (wrap64 ((ji8) + (t121.size : Int))) x7_1) else (none))) = some (r1, r2, r3) := H
                  have A11 := Aside0.mk A110
                  clear A110
                  by_cases c12 : t121.toList = ([] : List UInt8)
                  · rw [if_pos c12] at H
                    have c12b0 : (t121.toList == ([] : List UInt8)) = true := beq_iff_eq.mpr c12
                    have c12b1 : (t121.toList != ([] : List UInt8)) = false := bne_eq_false_iff_eq.mpr c12
                    clear c12
                    simp only [Option.some.injEq, Prod.mk.injEq] at H
                    obtain ⟨rfl, rfl, rfl⟩ := H
                    go_wp2_with (first | ((with_reducible refine gate_callee (f := 20) rfl ?_); refine goesL_ (some 18) rfl rfl Tryd.func20 (by kernel_rfl) rfl #[.string (a0.extract (x6_1 : Int).toNat a0.size), (Value.func (Fn.func 21) #[.string (⟨#[32, 9, 10]⟩ : ByteArray)] #[])] rfl (by (try simp only [List.map_toArray, List.map_cons, List.map_nil]); first | done | rfl | (simp only [List.length_drop, List.length_take]; rfl)) ?_; (with_reducible refine (lex_far.calls k1 (a0.extract (x6_1 : Int).toNat a0.size) (Value.func (Fn.func 21) #[.string (⟨#[32, 9, 10]⟩ : ByteArray)] #[]) t119 _ A5.out).mono ?_); rintro e w' ⟨rfl, ⟨nd, rfl⟩⟩; refine ⟨_, rfl, ?_⟩) | ((with_reducible refine gate_callee (f := 22) rfl ?_); refine goesL_ (some 28) rfl rfl Tryd.func22 (by kernel_rfl) rfl #[.string (a0.extract ((ji8) : Int).toNat a0.size)] rfl (by (try simp only [List.map_toArray, List.map_cons, List.map_nil]); first | done | (simp only [hji8]; rfl) | rfl | (simp only [List.length_drop, List.length_take]; rfl)) ?_; (with_reducible refine (lex_token.calls k1 (a0.extract ((ji8) : Int).toNat a0.size) t120 t121 _ A11.out).mono ?_); rintro e w13 ⟨rfl, hb⟩; refine ⟨_, rfl, ?_⟩; have n0_ := Aside0.mk (Kd.R_below (by (with_reducible repeat (first | apply Kd.R_alloc | apply Kd.R_drewN | apply Kd.R_drew)); exact HO_5.out) hb); have n1_ := Aside0.mk (below_step (by repeat (first | (with_reducible first | exact HB.out | apply below_alloc | apply pw_below_drewN | apply below_drew1) | exact HB.out)) hb); clear HO_5; clear HB; have HO_5 := n0_; have HB := n1_; clear n0_ n1_; (try clear hb); (try clear hb2); (try clear hk); (try clear hi)))
                    all_goals (try (go_step3; go_wp2_with (first | ((with_reducible refine gate_callee (f := 20) rfl ?_); refine goesL_ (some 18) rfl rfl Tryd.func20 (by kernel_rfl) rfl #[.string (a0.extract (x6_1 : Int).toNat a0.size), (Value.func (Fn.func 21) #[.string (⟨#[32, 9, 10]⟩ : ByteArray)] #[])] rfl (by (try simp only [List.map_toArray, List.map_cons, List.map_nil]); first | done | rfl | (simp only [List.length_drop, List.length_take]; rfl)) ?_; (with_reducible refine (lex_far.calls k1 (a0.extract (x6_1 : Int).toNat a0.size) (Value.func (Fn.func 21) #[.string (⟨#[32, 9, 10]⟩ : ByteArray)] #[]) t119 _ A5.out).mono ?_); rintro e w' ⟨rfl, ⟨nd, rfl⟩⟩; refine ⟨_, rfl, ?_⟩) | ((with_reducible refine gate_callee (f := 22) rfl ?_); refine goesL_ (some 28) rfl rfl Tryd.func22 (by kernel_rfl) rfl #[.string (a0.extract ((ji8) : Int).toNat a0.size)] rfl (by (try simp only [List.map_toArray, List.map_cons, List.map_nil]); first | done | (simp only [hji8]; rfl) | rfl | (simp only [List.length_drop, List.length_take]; rfl)) ?_; (with_reducible refine (lex_token.calls k1 (a0.extract ((ji8) : Int).toNat a0.size) t120 t121 _ A11.out).mono ?_); rintro e w13 ⟨rfl, hb⟩; refine ⟨_, rfl, ?_⟩; have n0_ := Aside0.mk (Kd.R_below (by (with_reducible repeat (first | apply Kd.R_alloc | apply Kd.R_drewN | apply Kd.R_drew)); exact HO_5.out) hb); have n1_ := Aside0.mk (below_step (by repeat (first | (with_reducible first | exact HB.out | apply below_alloc | apply pw_below_drewN | apply below_drew1) | exact HB.out)) hb); clear HO_5; clear HB; have HO_5 := n0_; have HB := n1_; clear n0_ n1_; (try clear hb); (try clear hb2); (try clear hk); (try clear hi))); try (go_step3; go_wp2_with (first | ((with_reducible refine gate_callee (f := 20) rfl ?_); refine goesL_ (some 18) rfl rfl Tryd.func20 (by kernel_rfl) rfl #[.string (a0.extract (x6_1 : Int).toNat a0.size), (Value.func (Fn.func 21) #[.string (⟨#[32, 9, 10]⟩ : ByteArray)] #[])] rfl (by (try simp only [List.map_toArray, List.map_cons, List.map_nil]); first | done | rfl | (simp only [List.length_drop, List.length_take]; rfl)) ?_; (with_reducible refine (lex_far.calls k1 (a0.extract (x6_1 : Int).toNat a0.size) (Value.func (Fn.func 21) #[.string (⟨#[32, 9, 10]⟩ : ByteArray)] #[]) t119 _ A5.out).mono ?_); rintro e w' ⟨rfl, ⟨nd, rfl⟩⟩; refine ⟨_, rfl, ?_⟩) | ((with_reducible refine gate_callee (f := 22) rfl ?_); refine goesL_ (some 28) rfl rfl Tryd.func22 (by kernel_rfl) rfl #[.string (a0.extract ((ji8) : Int).toNat a0.size)] rfl (by (try simp only [List.map_toArray, List.map_cons, List.map_nil]); first | done | (simp only [hji8]; rfl) | rfl | (simp only [List.length_drop, List.length_take]; rfl)) ?_; (with_reducible refine (lex_token.calls k1 (a0.extract ((ji8) : Int).toNat a0.size) t120 t121 _ A11.out).mono ?_); rintro e w13 ⟨rfl, hb⟩; refine ⟨_, rfl, ?_⟩; have n0_ := Aside0.mk (Kd.R_below (by (with_reducible repeat (first | apply Kd.R_alloc | apply Kd.R_drewN | apply Kd.R_drew)); exact HO_5.out) hb); have n1_ := Aside0.mk (below_step (by repeat (first | (with_reducible first | exact HB.out | apply below_alloc | apply pw_below_drewN | apply below_drew1) | exact HB.out)) hb); clear HO_5; clear HB; have HO_5 := n0_; have HB := n1_; clear n0_ n1_; (try clear hb); (try clear hb2); (try clear hk); (try clear hi))))))
                    try rw [Exit.noGoto_ret]
                    go_ret3
                    exact ⟨_, by first | rfl | (simp [errW_none, errW_some] <;> rfl) | (simp only [← hji8]; first | rfl | (simp [errW_none, errW_some] <;> rfl)) | (simp [*, errW_none, errW_some] <;> rfl), by first | exact Kd.R_nil _ _ _ _ _ | exact Kd.N_nil _ _ _ _ _ | exact Kd.V_nil _ _ _ _ _ | exact Kd.Q_nil _ _ _ _ _ | exact Kd.S_nil _ _ _ _ _, by repeat (first | (with_reducible first | exact HB.out | apply below_alloc | apply pw_below_drewN | apply below_drew1) | exact HB.out)⟩
                  · rw [if_neg c12] at H
                    have c12b0 : (t121.toList == ([] : List UInt8)) = false := beq_eq_false_iff_ne.mpr c12
                    have c12b1 : (t121.toList != ([] : List UInt8)) = true := bne_iff_ne.mpr c12
                    by_cases c14 : x5_1.length < 4398046511104
                    · rw [if_pos c14] at H
                      have LMc14 := Aside0.mk c14
                      clear c14
                      obtain ⟨y122, hy122⟩ : ∃ y_ : List (S32), y_ = (x5_1 ++ [(⟨t120, t121, ji8⟩ : S32)]) := ⟨_, rfl⟩
                      replace H : (lex_Toks.l0 k1 a0 y122 (wrap64 ((ji8) + (t121.size : Int))) x7_1) = some (r1, r2, r3) := by first | (rw [hy122]; with_reducible exact H) | (have H2_ := (Option.bind_some _ _).symm.trans H; rw [hy122]; with_reducible exact H2_) | (have H2_ := (Option.bind_some _ _).symm.trans H; with_reducible exact H2_) | with_reducible exact H | (rw [hy122]; exact H) | exact H
                      have Ny122 := Aside0.mk hy122
                      clear hy122
                      have H' := Aside0.mk H
                      clear H
                      go_wp2_with (first | ((with_reducible refine gate_callee (f := 20) rfl ?_); refine goesL_ (some 18) rfl rfl Tryd.func20 (by kernel_rfl) rfl #[.string (a0.extract (x6_1 : Int).toNat a0.size), (Value.func (Fn.func 21) #[.string (⟨#[32, 9, 10]⟩ : ByteArray)] #[])] rfl (by (try simp only [List.map_toArray, List.map_cons, List.map_nil]); first | done | rfl | (simp only [List.length_drop, List.length_take]; rfl)) ?_; (with_reducible refine (lex_far.calls k1 (a0.extract (x6_1 : Int).toNat a0.size) (Value.func (Fn.func 21) #[.string (⟨#[32, 9, 10]⟩ : ByteArray)] #[]) t119 _ A5.out).mono ?_); rintro e w' ⟨rfl, ⟨nd, rfl⟩⟩; refine ⟨_, rfl, ?_⟩) | ((with_reducible refine gate_callee (f := 22) rfl ?_); refine goesL_ (some 28) rfl rfl Tryd.func22 (by kernel_rfl) rfl #[.string (a0.extract ((ji8) : Int).toNat a0.size)] rfl (by (try simp only [List.map_toArray, List.map_cons, List.map_nil]); first | done | (simp only [hji8]; rfl) | rfl | (simp only [List.length_drop, List.length_take]; rfl)) ?_; (with_reducible refine (lex_token.calls k1 (a0.extract ((ji8) : Int).toNat a0.size) t120 t121 _ A11.out).mono ?_); rintro e w15 ⟨rfl, hb⟩; refine ⟨_, rfl, ?_⟩; have n0_ := Aside0.mk (Kd.R_below (by (with_reducible repeat (first | apply Kd.R_alloc | apply Kd.R_drewN | apply Kd.R_drew)); exact HO_5.out) hb); have n1_ := Aside0.mk (below_step (by repeat (first | (with_reducible first | exact HB.out | apply below_alloc | apply pw_below_drewN | apply below_drew1) | exact HB.out)) hb); clear HO_5; clear HB; have HO_5 := n0_; have HB := n1_; clear n0_ n1_; (try clear hb); (try clear hb2); (try clear hk); (try clear hi)) | ((with_reducible refine gate_builtin (b := .append) (xs := #[.tmp 33, .tmp 38]) rfl ?_); at_builtin; refine Kd.R_append k32 (w0 := w) w.heap.size rfl (.tmp 33) (.tmp 38) 23 32 (.agg #[(.int .i64 0), (.string ⟨#[]⟩), (.int .i64 0)]) 32 rfl Tryd.underlying23 info32 rfl (by decide) (by omega) u5 x5_1 (⟨t120, t121, ji8⟩ : S32) [.int .i64 t120, .string t121, .int .i64 ji8] (fun _ => True) (fun _ => False) rfl rfl ?aP (fun _ hk => hk.elim) ?aF ?aO ?aB ?aS ?aL ?_; (case aP => exact k32_mkM _ _ _ (⟨t120, t121, ji8⟩ : S32)); (case aB => exact (by repeat (first | (with_reducible first | exact HB.out | apply below_alloc | apply pw_below_drewN | apply below_drew1) | exact HB.out))); (case aF => exact (fun _ _ => trivial)); (case aO => exact (by (with_reducible repeat (first | apply Kd.R_alloc | apply Kd.R_drewN | apply Kd.R_drew)); exact HO_5.out)); (case aS => exact (below_size (by repeat (first | (with_reducible first | exact HB.out | apply below_alloc | apply pw_below_drewN | apply below_drew1) | exact HB.out)))); (case aL => have := LMc14.out; omega); intro v123 w16 ho hb hg hat; rw [← Ny122.out] at ho; have n0_ := Aside0.mk (hb); have n1_ := Aside0.mk (ho); clear HB; clear HO_5; have HB := n0_; have HO124 := n1_; clear n0_ n1_; clear ho hb hg hat))
                      all_goals (try (go_step3; go_wp2_with (first | ((with_reducible refine gate_callee (f := 20) rfl ?_); refine goesL_ (some 18) rfl rfl Tryd.func20 (by kernel_rfl) rfl #[.string (a0.extract (x6_1 : Int).toNat a0.size), (Value.func (Fn.func 21) #[.string (⟨#[32, 9, 10]⟩ : ByteArray)] #[])] rfl (by (try simp only [List.map_toArray, List.map_cons, List.map_nil]); first | done | rfl | (simp only [List.length_drop, List.length_take]; rfl)) ?_; (with_reducible refine (lex_far.calls k1 (a0.extract (x6_1 : Int).toNat a0.size) (Value.func (Fn.func 21) #[.string (⟨#[32, 9, 10]⟩ : ByteArray)] #[]) t119 _ A5.out).mono ?_); rintro e w' ⟨rfl, ⟨nd, rfl⟩⟩; refine ⟨_, rfl, ?_⟩) | ((with_reducible refine gate_callee (f := 22) rfl ?_); refine goesL_ (some 28) rfl rfl Tryd.func22 (by kernel_rfl) rfl #[.string (a0.extract ((ji8) : Int).toNat a0.size)] rfl (by (try simp only [List.map_toArray, List.map_cons, List.map_nil]); first | done | (simp only [hji8]; rfl) | rfl | (simp only [List.length_drop, List.length_take]; rfl)) ?_; (with_reducible refine (lex_token.calls k1 (a0.extract ((ji8) : Int).toNat a0.size) t120 t121 _ A11.out).mono ?_); rintro e w15 ⟨rfl, hb⟩; refine ⟨_, rfl, ?_⟩; have n0_ := Aside0.mk (Kd.R_below (by (with_reducible repeat (first | apply Kd.R_alloc | apply Kd.R_drewN | apply Kd.R_drew)); exact HO_5.out) hb); have n1_ := Aside0.mk (below_step (by repeat (first | (with_reducible first | exact HB.out | apply below_alloc | apply pw_below_drewN | apply below_drew1) | exact HB.out)) hb); clear HO_5; clear HB; have HO_5 := n0_; have HB := n1_; clear n0_ n1_; (try clear hb); (try clear hb2); (try clear hk); (try clear hi)) | ((with_reducible refine gate_builtin (b := .append) (xs := #[.tmp 33, .tmp 38]) rfl ?_); at_builtin; refine Kd.R_append k32 (w0 := w) w.heap.size rfl (.tmp 33) (.tmp 38) 23 32 (.agg #[(.int .i64 0), (.string ⟨#[]⟩), (.int .i64 0)]) 32 rfl Tryd.underlying23 info32 rfl (by decide) (by omega) u5 x5_1 (⟨t120, t121, ji8⟩ : S32) [.int .i64 t120, .string t121, .int .i64 ji8] (fun _ => True) (fun _ => False) rfl rfl ?aP (fun _ hk => hk.elim) ?aF ?aO ?aB ?aS ?aL ?_; (case aP => exact k32_mkM _ _ _ (⟨t120, t121, ji8⟩ : S32)); (case aB => exact (by repeat (first | (with_reducible first | exact HB.out | apply below_alloc | apply pw_below_drewN | apply below_drew1) | exact HB.out))); (case aF => exact (fun _ _ => trivial)); (case aO => exact (by (with_reducible repeat (first | apply Kd.R_alloc | apply Kd.R_drewN | apply Kd.R_drew)); exact HO_5.out)); (case aS => exact (below_size (by repeat (first | (with_reducible first | exact HB.out | apply below_alloc | apply pw_below_drewN | apply below_drew1) | exact HB.out)))); (case aL => have := LMc14.out; omega); intro v123 w16 ho hb hg hat; rw [← Ny122.out] at ho; have n0_ := Aside0.mk (hb); have n1_ := Aside0.mk (ho); clear HB; clear HO_5; have HB := n0_; have HO124 := n1_; clear n0_ n1_; clear ho hb hg hat)); try (go_step3; go_wp2_with (first | ((with_reducible refine gate_callee (f := 20) rfl ?_); refine goesL_ (some 18) rfl rfl Tryd.func20 (by kernel_rfl) rfl #[.string (a0.extract (x6_1 : Int).toNat a0.size), (Value.func (Fn.func 21) #[.string (⟨#[32, 9, 10]⟩ : ByteArray)] #[])] rfl (by (try simp only [List.map_toArray, List.map_cons, List.map_nil]); first | done | rfl | (simp only [List.length_drop, List.length_take]; rfl)) ?_; (with_reducible refine (lex_far.calls k1 (a0.extract (x6_1 : Int).toNat a0.size) (Value.func (Fn.func 21) #[.string (⟨#[32, 9, 10]⟩ : ByteArray)] #[]) t119 _ A5.out).mono ?_); rintro e w' ⟨rfl, ⟨nd, rfl⟩⟩; refine ⟨_, rfl, ?_⟩) | ((with_reducible refine gate_callee (f := 22) rfl ?_); refine goesL_ (some 28) rfl rfl Tryd.func22 (by kernel_rfl) rfl #[.string (a0.extract ((ji8) : Int).toNat a0.size)] rfl (by (try simp only [List.map_toArray, List.map_cons, List.map_nil]); first | done | (simp only [hji8]; rfl) | rfl | (simp only [List.length_drop, List.length_take]; rfl)) ?_; (with_reducible refine (lex_token.calls k1 (a0.extract ((ji8) : Int).toNat a0.size) t120 t121 _ A11.out).mono ?_); rintro e w15 ⟨rfl, hb⟩; refine ⟨_, rfl, ?_⟩; have n0_ := Aside0.mk (Kd.R_below (by (with_reducible repeat (first | apply Kd.R_alloc | apply Kd.R_drewN | apply Kd.R_drew)); exact HO_5.out) hb); have n1_ := Aside0.mk (below_step (by repeat (first | (with_reducible first | exact HB.out | apply below_alloc | apply pw_below_drewN | apply below_drew1) | exact HB.out)) hb); clear HO_5; clear HB; have HO_5 := n0_; have HB := n1_; clear n0_ n1_; (try clear hb); (try clear hb2); (try clear hk); (try clear hi)) | ((with_reducible refine gate_builtin (b := .append) (xs := #[.tmp 33, .tmp 38]) rfl ?_); at_builtin; refine Kd.R_append k32 (w0 := w) w.heap.size rfl (.tmp 33) (.tmp 38) 23 32 (.agg #[(.int .i64 0), (.string ⟨#[]⟩), (.int .i64 0)]) 32 rfl Tryd.underlying23 info32 rfl (by decide) (by omega) u5 x5_1 (⟨t120, t121, ji8⟩ : S32) [.int .i64 t120, .string t121, .int .i64 ji8] (fun _ => True) (fun _ => False) rfl rfl ?aP (fun _ hk => hk.elim) ?aF ?aO ?aB ?aS ?aL ?_; (case aP => exact k32_mkM _ _ _ (⟨t120, t121, ji8⟩ : S32)); (case aB => exact (by repeat (first | (with_reducible first | exact HB.out | apply below_alloc | apply pw_below_drewN | apply below_drew1) | exact HB.out))); (case aF => exact (fun _ _ => trivial)); (case aO => exact (by (with_reducible repeat (first | apply Kd.R_alloc | apply Kd.R_drewN | apply Kd.R_drew)); exact HO_5.out)); (case aS => exact (below_size (by repeat (first | (with_reducible first | exact HB.out | apply below_alloc | apply pw_below_drewN | apply below_drew1) | exact HB.out)))); (case aL => have := LMc14.out; omega); intro v123 w16 ho hb hg hat; rw [← Ny122.out] at ho; have n0_ := Aside0.mk (hb); have n1_ := Aside0.mk (ho); clear HB; clear HO_5; have HB := n0_; have HO124 := n1_; clear n0_ n1_; clear ho hb hg hat)))))
                      go_roundg k1
                      case measure => have := HK1.out; omega
                      case rel => exact ⟨(y122), (wrap64 ((ji8) + (t121.size : Int))), (x7_1), (by first | rfl | (simp; done) | (simp only [← hji8] <;> (first | rfl | simp)) | (simp [*]; done)), (by first | rfl | (simp; done) | (simp [*]; done)), H', ⟨by have := HK1.out; omega⟩, ⟨by (with_reducible repeat (first | apply Kd.R_alloc | apply Kd.R_drewN | apply Kd.R_drew)); exact HO124.out⟩, ⟨by repeat (first | (with_reducible first | exact HB.out | apply below_alloc | apply pw_below_drewN | apply below_drew1) | exact HB.out)⟩⟩
                    · rw [if_neg c14] at H
                      exact absurd H (by simp)
                · rw [if_neg c10] at H
                  exact absurd H (by simp)
              · rw [if_neg c9] at H
                exact absurd H (by simp)
          · rw [if_neg c4] at H
            exact absurd H (by simp)
        · rw [if_neg c3] at H
          exact absurd H (by simp)

/-! ### strings_Join: function 24 -/
theorem spot_none {w : World} {ad : Addr} {v : Value} (h : w.cell? ad = some v) : ad = ⟨ad.block, ad.off, none⟩ := by
  cases ad with
  | mk b o s =>
    cases s with
    | none => rfl
    | some x =>
      simp only [World.cell?] at h
      split at h
      · simp at h
      · cases h
theorem add_none (b o j : Nat) : (⟨b, o, none⟩ : Addr).add j = ⟨b, o + j, none⟩ := by
  unfold Addr.add
  by_cases h : j = 0
  · subst h; rfl
  · rw [if_neg h]
theorem C_strs {w : World} {A : Option Addr} {xs : List ByteArray} (h : Kd.C Kd.string w A xs.length xs) (h0 : 0 < xs.length) :
    ∃ b o, A = some ⟨b, o, none⟩ ∧ ∀ (j : Nat) x, xs[j]? = some x → w.cell? ⟨b, o + j, none⟩ = some (.string x) := by
  obtain ⟨ad, rfl, hc⟩ := h.2.2 h0
  have hk : ∀ (j : Nat) x, xs[j]? = some x → w.cell? (ad.add j) = some (.string x) := by
    intro j x hx
    obtain ⟨c, _, hK, hcell⟩ := hc j x hx
    have hc1 : c = [.string x] := hK
    have h2 := hcell 0 (.string x) (by rw [hc1]; rfl)
    have h3 : j * Kd.string.sz + 0 = j := by show j * 1 + 0 = j; omega
    rwa [h3] at h2
  have h1 := spot_none (hk 0 _ (List.getElem?_eq_getElem h0))
  have h2 : ad.add 0 = ad := rfl
  rw [h2] at h1
  refine ⟨ad.block, ad.off, by rw [← h1], fun j x hx => ?_⟩
  rw [← add_none, ← h1]
  exact hk j x hx
def strings_Join.f (l0 : List ByteArray) (a1 : ByteArray) : Option ByteArray :=
  if l0.length ≤ 140737488355328 ∧ (Lib.join (l0.map (·.data.toList)) a1.data.toList).length ≤ 140737488355328 then some ⟨(Lib.join (l0.map (·.data.toList)) a1.data.toList).toArray⟩ else none
theorem strings_Join.calls (A0 : Option Addr) (c0 : Nat) (l0 : List ByteArray) (a1 : ByteArray) (r : ByteArray) (w : World) (hr0 : Kd.C Kd.string w A0 l0.length l0) (hc0 : l0.length ≤ c0) (h : strings_Join.f l0 a1 = some r) :
    Calls Tryd.prog 24 #[.slice A0 l0.length c0, .string a1] w fun e w' => e = .returned (.string r) ∧ Below w.heap.size w w' := by
  unfold strings_Join.f at h
  split at h
  · rename_i hs
    obtain ⟨hN, hlen⟩ := hs
    obtain rfl := Option.some.inj h
    rcases Nat.eq_zero_or_pos l0.length with h0 | h0
    · obtain rfl : l0 = [] := List.eq_nil_of_length_eq_zero h0
      refine (Tryd.strings_Join_none A0 c0 a1 w).mono ?_
      rintro e w' ⟨rfl, rfl⟩
      exact ⟨by simp [Lib.join], Below.refl _ _⟩
    · obtain ⟨b, o, rfl, hc⟩ := C_strs hr0 h0
      refine (Tryd.strings_Join b o c0 l0 a1 w (fun j x hx => hc j x hx) ?_ hN hc0 hlen).mono (fun e w' hw => hw)
      have hx : l0[0]? = some (l0[0]) := List.getElem?_eq_getElem h0
      exact World.block_lt_of_cell? w ⟨b, o + 0, none⟩ (hc 0 _ hx)
  · cases h

/-! ### lex_Text: function 14 -/
def lex_Text.l0 : Nat → List ByteArray → List (S32) → Int → Int → Option (ByteArray)
  | 0, _, _, _, _ => none
  | k + 1, x3, x6, x7, x8 => if x8 < x7 then (if 0 ≤ x8 then (if x8 < (x6.length : Int) then (if x3.length < 8796093022208 then (lex_Text.l0 k (x3 ++ [(rd_T32 x6 x8).f1]) x6 x7 (wrap64 (x8 + 1))) else (none)) else (none)) else (none)) else ((strings_Join.f x3 (⟨#[32]⟩ : ByteArray)).bind fun t130 => (some t130))
def lex_Text.f (k : Nat) (l0 : List (S32)) : Option (ByteArray) := lex_Text.l0 k ([] : List ByteArray) l0 (l0.length : Int) 0
theorem lex_Text.mono_l : ∀ k, (∀ y0 y1 y2 y3, LeO (lex_Text.l0 k y0 y1 y2 y3) (lex_Text.l0 (k + 1) y0 y1 y2 y3))
  | 0 => fun _ _ _ _ r h => by simp [lex_Text.l0] at h
  | k + 1 => by
    have ih0 := lex_Text.mono_l k
    · intro y0 y1 y2 y3
      unfold lex_Text.l0
      repeat' first
      | (with_reducible exact ih0 _ _ _ _)
      | (with_reducible exact LeO.refl _)
      | (with_reducible exact LeO.none _)
      | (with_reducible refine LeO.ite ?_ ?_)
      | (with_reducible refine LeO.bind ?_ (fun _ => ?_))
      | exact ih0 _ _ _ _
      | exact LeO.none _
      | refine LeO.ite ?_ ?_
      | refine LeO.bind ?_ (fun _ => ?_)
theorem lex_Text.mono : ∀ a0 k, LeO (lex_Text.f k a0) (lex_Text.f (k + 1) a0) := by
  intro a0 k
  have ih0 := lex_Text.mono_l k
  unfold lex_Text.f
  repeat' first
      | (with_reducible exact ih0 _ _ _ _)
      | (with_reducible exact LeO.refl _)
      | (with_reducible exact LeO.none _)
      | (with_reducible refine LeO.ite ?_ ?_)
      | (with_reducible refine LeO.bind ?_ (fun _ => ?_))
      | exact ih0 _ _ _ _
      | exact LeO.none _
      | refine LeO.ite ?_ ?_
      | refine LeO.bind ?_ (fun _ => ?_)
set_option maxHeartbeats 8000000 in
set_option maxRecDepth 100000 in
theorem lex_Text.calls (k : Nat) (A0 : Option Addr) (c0 : Nat) (l0 : List (S32)) (r : ByteArray) (w : World) (hr0 : Kd.C k32 w A0 l0.length l0) (hc0 : l0.length ≤ c0) (h : lex_Text.f k l0 = some r) :
    Calls Tryd.prog 14 #[.slice A0 l0.length c0] w fun e w' => e = .returned (.string r) ∧ Below w.heap.size w w' := by
  have hu32 := Tryd.underlying32
  have HR0 := Aside0.mk hr0
  have HC0 := Aside0.mk hc0
  clear hr0 hc0
  have HB := Aside0.mk (Below.refl w.heap.size w)
  have H : (lex_Text.l0 k ([] : List ByteArray) l0 (l0.length : Int) 0) = some r := h
  clear h
  have H' := Aside0.mk H
  clear H
  go_enter Tryd.func14, Tryd.ntmps14
  go_wp2
  go_loopg [3, 8] k (fun kq v3 v8 w' => ∃ (x3_1 : List ByteArray) (x8_1 : Int), v8 = .int .i64 x8_1 ∧ Aside0 (lex_Text.l0 kq x3_1 l0 (l0.length : Int) x8_1 = some r) ∧ Aside0 (kq ≤ k) ∧ Aside0 (Kd.R Kd.string 9 w' w.heap.size (fun _ => True) v3 x3_1) ∧ Aside0 (Below w.heap.size w w'))
  case atStart => exact ⟨(([] : List ByteArray)), (0), (by first | rfl | (simp; done) | (simp [*]; done)), H', ⟨Nat.le_refl _⟩, ⟨by first | exact Kd.R_nil _ _ _ _ _ | exact Kd.N_nil _ _ _ _ _ | exact Kd.V_nil _ _ _ _ _ | exact Kd.Q_nil _ _ _ _ _ | exact Kd.S_nil _ _ _ _ _⟩, ⟨by repeat (first | (with_reducible first | exact HB.out | apply below_alloc | apply pw_below_drewN | apply below_drew1) | exact HB.out)⟩⟩
  case round =>
    clear H'
    try clear c1
    obtain ⟨x3_1, x8_1, rfl, HA, HK1, HO_3, HB⟩ := hrel
    cases gk with
    | zero => exact absurd HA.out (by simp [lex_Text.l0])
    | succ k1 =>
      have H := HA.out
      clear HA
      simp only [lex_Text.l0] at H
      by_cases c2 : x8_1 < (l0.length : Int)
      · rw [if_pos c2] at H
        have c2b0 : decide (x8_1 < (l0.length : Int)) = true := decide_eq_true c2
        clear c2
        by_cases c3 : 0 ≤ x8_1
        · rw [if_pos c3] at H
          have c3b0 : decide (0 ≤ x8_1) = true := decide_eq_true c3
          clear c3
          by_cases c4 : x8_1 < (l0.length : Int)
          · rw [if_pos c4] at H
            have c4b0 : decide (x8_1 < (l0.length : Int)) = true := decide_eq_true c4
            clear c4
            by_cases c5 : x3_1.length < 8796093022208
            · rw [if_pos c5] at H
              have LMc5 := Aside0.mk c5
              clear c5
              obtain ⟨y127, hy127⟩ : ∃ y_ : List ByteArray, y_ = (x3_1 ++ [(rd_T32 l0 x8_1).f1]) := ⟨_, rfl⟩
              replace H : (lex_Text.l0 k1 y127 l0 (l0.length : Int) (wrap64 (x8_1 + 1))) = some r := by first | (rw [hy127]; with_reducible exact H) | (have H2_ := (Option.bind_some _ _).symm.trans H; rw [hy127]; with_reducible exact H2_) | (have H2_ := (Option.bind_some _ _).symm.trans H; with_reducible exact H2_) | with_reducible exact H | (rw [hy127]; exact H) | exact H
              have Ny127 := Aside0.mk hy127
              clear hy127
              have H' := Aside0.mk H
              clear H
              have p125 : 0 ≤ (x8_1 : Int) := of_decide_eq_true (by first | (with_reducible assumption) | assumption)
              have q125 : x8_1 < (l0.length : Int) := of_decide_eq_true (by first | (with_reducible assumption) | assumption)
              obtain ⟨ad125, e125, hx125_0, hx125_1, hx125_2⟩ := at_T32 HR0.out x8_1 p125 q125
              cases e125
              replace hx125_0 := (HB.out.cell (World.block_lt_of_cell? w _ hx125_0)).trans hx125_0
              replace hx125_1 := (HB.out.cell (World.block_lt_of_cell? w _ hx125_1)).trans hx125_1
              replace hx125_2 := (HB.out.cell (World.block_lt_of_cell? w _ hx125_2)).trans hx125_2
              replace p125 := eq_true p125
              replace q125 := eq_true q125
              go_wp2_with (first | ((with_reducible refine gate_dst (N := 5) rfl ?_); refine box_event ?hg (N := 5) ?hd (cs := #[.int .i64 0, .string (⟨#[]⟩ : ByteArray), .int .i64 0]) (t := 32) ?hr ?_; (case hd => rfl); (case hg => rfl); (case hr => first | (go_simp; done) | (go_simp; rfl)); intro gb126 hg w6 hbox hb; have n0_ := Aside0.mk (Kd.R_below (by (with_reducible repeat (first | apply Kd.R_alloc | apply Kd.R_drewN | apply Kd.R_drew)); exact HO_3.out) hb); have n1_ := Aside0.mk (below_step (by repeat (first | (with_reducible first | exact HB.out | apply below_alloc | apply pw_below_drewN | apply below_drew1) | exact HB.out)) hb); have n2_ := Aside0.mk (hbox); have n3_ := Aside0.mk ((by rw [hg]; exact (below_size (by repeat (first | (with_reducible first | exact HB.out | apply below_alloc | apply pw_below_drewN | apply below_drew1) | exact HB.out))) : w.heap.size ≤ gb126)); have n4_ := Aside0.mk ((by rw [hg]; exact (below_size (by repeat (first | (with_reducible first | exact HB.out | apply below_alloc | apply pw_below_drewN | apply below_drew1) | exact HB.out))) : w.heap.size ≤ gb126)); clear HO_3; clear HB; have HO_3 := n0_; have HB := n1_; have BK126 := n2_; have GW126 := n3_; have GE126 := n4_; clear n0_ n1_ n2_ n3_ n4_; clear hb hbox hg; have hcz7_0 : w6.cell? ⟨gb126, 0, none⟩ = some (.int .i64 0) := (blk_cell BK126.out 0).trans rfl; have hcz7_1 : w6.cell? ⟨gb126, 1, none⟩ = some (.string (⟨#[]⟩ : ByteArray)) := (blk_cell BK126.out 1).trans rfl; have hcz7_2 : w6.cell? ⟨gb126, 2, none⟩ = some (.int .i64 0) := (blk_cell BK126.out 2).trans rfl; have hfz7_0 := blk_frozen BK126.out 0; have hfz7_1 := blk_frozen BK126.out 1; have hfz7_2 := blk_frozen BK126.out 2) | ((with_reducible refine gate_builtin (b := .append) (xs := #[.tmp 12, .tmp 15]) rfl ?_); at_builtin; refine Kd.R_append Kd.string (w0 := w) w.heap.size rfl (.tmp 12) (.tmp 15) 50 9 (.string ⟨#[]⟩) 16 rfl Tryd.underlying50 info9 rfl (by decide) (by omega) u3 x3_1 ((rd_T32 l0 x8_1).f1) [.string ((rd_T32 l0 x8_1).f1)] (fun _ => True) (fun _ => False) rfl (by first | (go_simp; done) | (go_simp; rfl)) ?aP (fun _ hk => hk.elim) ?aF ?aO ?aB ?aS ?aL ?_; (case aP => exact rfl); (case aB => exact (by repeat (first | (with_reducible first | exact HB.out | apply below_alloc | apply pw_below_drewN | apply below_drew1 | refine below_set ?_ GE126.out) | exact HB.out))); (case aF => exact (fun _ _ => trivial)); (case aO => exact (by (with_reducible repeat (first | apply Kd.R_alloc | apply Kd.R_drewN | apply Kd.R_drew)); exact Kd.R_mono (Kd.R_far (p := ⟨gb126, 2, none⟩) (Kd.R_far (p := ⟨gb126, 1, none⟩) (Kd.R_far (p := ⟨gb126, 0, none⟩) (Kd.R_types HO_3.out BK126.out (by decide)) (fun _ hk => hk.2) (.int .i64 ((rd_T32 l0 x8_1).f0))) (fun _ hk => hk.2) (.string ((rd_T32 l0 x8_1).f1))) (fun _ hk => hk.2) (.int .i64 ((rd_T32 l0 x8_1).f2))) (fun _ hk => trivial))); (case aS => exact (below_size (by repeat (first | (with_reducible first | exact HB.out | apply below_alloc | apply pw_below_drewN | apply below_drew1 | refine below_set ?_ GE126.out) | exact HB.out)))); (case aL => have := LMc5.out; omega); intro v128 w8 ho hb hg hat; rw [← Ny127.out] at ho; have n0_ := Aside0.mk (blk_grown (g := gb126) (o := .cells #[.int .i64 ((rd_T32 l0 x8_1).f0), .string ((rd_T32 l0 x8_1).f1), .int .i64 ((rd_T32 l0 x8_1).f2)] 32 (0, 0)) (by (with_reducible repeat (first | refine blk_drewN ?_ _ | refine blk_drew ?_ | refine blk_alloc ?_ _)); refine blk_put (cs := #[.int .i64 ((rd_T32 l0 x8_1).f0), .string ((rd_T32 l0 x8_1).f1), .int .i64 0]) ?_ 2 _ rfl; (with_reducible repeat (first | refine blk_drewN ?_ _ | refine blk_drew ?_ | refine blk_alloc ?_ _)); refine blk_put (cs := #[.int .i64 ((rd_T32 l0 x8_1).f0), .string (⟨#[]⟩ : ByteArray), .int .i64 0]) ?_ 1 _ rfl; (with_reducible repeat (first | refine blk_drewN ?_ _ | refine blk_drew ?_ | refine blk_alloc ?_ _)); refine blk_put (cs := #[.int .i64 0, .string (⟨#[]⟩ : ByteArray), .int .i64 0]) ?_ 0 _ rfl; (with_reducible repeat (first | refine blk_drewN ?_ _ | refine blk_drew ?_ | refine blk_alloc ?_ _)); exact BK126.out) hg (Kd.R_ne HO_3.out BK126.out (by decide))); have n1_ := Aside0.mk (hb); have n2_ := Aside0.mk (ho); clear BK126; clear HB; clear HO_3; have BK126 := n0_; have HB := n1_; have HO129 := n2_; clear n0_ n1_ n2_; clear ho hb hg hat))
              go_roundg k1
              case measure => have := HK1.out; omega
              case rel => exact ⟨(y127), (wrap64 (x8_1 + 1)), (by first | rfl | (simp; done) | (simp [*]; done)), H', ⟨by have := HK1.out; omega⟩, ⟨by (with_reducible repeat (first | apply Kd.R_alloc | apply Kd.R_drewN | apply Kd.R_drew)); exact HO129.out⟩, ⟨by repeat (first | (with_reducible first | exact HB.out | apply below_alloc | apply pw_below_drewN | apply below_drew1 | refine below_set ?_ GE126.out) | exact HB.out)⟩⟩
            · rw [if_neg c5] at H
              exact absurd H (by simp)
          · rw [if_neg c4] at H
            exact absurd H (by simp)
        · rw [if_neg c3] at H
          exact absurd H (by simp)
      · rw [if_neg c2] at H
        have c2b0 : decide (x8_1 < (l0.length : Int)) = false := decide_eq_false c2
        clear c2
        replace H := Option.bind_eq_some_iff.mp H
        obtain ⟨t130, A90, H⟩ := H
        replace H : (some t130) = some r := H
        have A9 := Aside0.mk A90
        clear A90
        obtain rfl := Option.some.inj H
        obtain ⟨Ao10, co10, eo10⟩ := Kd.R_slice HO_3.out
        subst eo10
        go_wp2_with (first | ((with_reducible refine gate_callee (f := 24) rfl ?_); refine goesL_ (some 19) rfl rfl Tryd.func24 (by kernel_rfl) rfl #[.slice Ao10 x3_1.length co10, .string (⟨#[32]⟩ : ByteArray)] rfl (by (try simp only [List.map_toArray, List.map_cons, List.map_nil]); first | done | rfl | (simp only [List.length_drop, List.length_take]; rfl)) ?_; (with_reducible refine (strings_Join.calls _ _ x3_1 (⟨#[32]⟩ : ByteArray) t130 _ ?side1 ?side2 A9.out).mono ?_); (case side1 => repeat (first | exact (Kd.R_reads' HO_3.out).2.2 | (with_reducible refine Kd.C_alloc ?_ _) | (with_reducible refine Kd.C_drewN ?_ _) | (with_reducible refine Kd.C_drew ?_))); (case side2 => exact (Kd.R_reads' HO_3.out).2.1); rintro e w11 ⟨rfl, hb⟩; refine ⟨_, rfl, ?_⟩; have n0_ := Aside0.mk (Kd.R_below (by (with_reducible repeat (first | apply Kd.R_alloc | apply Kd.R_drewN | apply Kd.R_drew)); exact HO_3.out) hb); have n1_ := Aside0.mk (below_step (by repeat (first | (with_reducible first | exact HB.out | apply below_alloc | apply pw_below_drewN | apply below_drew1) | exact HB.out)) hb); clear HO_3; clear HB; have HO_3 := n0_; have HB := n1_; clear n0_ n1_; (try clear hb); (try clear hb2); (try clear hk); (try clear hi)))
        go_ret
        exact ⟨by first | rfl | (simp [errW_none, errW_some] <;> rfl) | (simp [*, errW_none, errW_some] <;> rfl), by repeat (first | (with_reducible first | exact HB.out | apply below_alloc | apply pw_below_drewN | apply below_drew1) | exact HB.out)⟩

/-! ### tammylaw06_shown: function 10 -/
def tammylaw06_shown.f (k : Nat)  : Option (Bool) := (lex_Toks.f k (⟨#[88, 60, 61, 99]⟩ : ByteArray)).bind fun bt131 => ((lex_Number.f k (⟨#[49, 48]⟩ : ByteArray)).bind fun bt136 => (if bt131.2.2 = 0 then (if bt131.2.1 = 0 then (if (bt131.1.length : Int) = 3 then (if 1 < (bt131.1.length : Int) then (if (((rd_T32 bt131.1 1).f0) == 3 && ((((rd_T32 bt131.1 1).f1).toList) == ([60, 61] : List UInt8) && (((rd_T32 bt131.1 1).f2) == 1))) = true then (if 2 < (bt131.1.length : Int) then (if ((rd_T32 bt131.1 2).f2) = 3 then ((lex_Text.f k bt131.1).bind fun t140 => (if t140.toList = ([88, 32, 60, 61, 32, 99] : List UInt8) then (if bt136.2 = true then (some (bt136.1 == 10)) else (some false)) else (some false))) else (some false)) else (none)) else (some false)) else (none)) else (some false)) else (some false)) else (some false)))
theorem tammylaw06_shown.mono : ∀ k, LeO (tammylaw06_shown.f k ) (tammylaw06_shown.f (k + 1) ) := by
  intro  k
  unfold tammylaw06_shown.f
  repeat' first
      | (with_reducible exact lex_Number.mono _ _)
      | (with_reducible exact lex_Text.mono _ _)
      | (with_reducible exact lex_Toks.mono _ _)
      | (with_reducible exact LeO.refl _)
      | (with_reducible exact LeO.none _)
      | (with_reducible refine LeO.ite ?_ ?_)
      | (with_reducible refine LeO.bind ?_ (fun _ => ?_))
      | exact lex_Number.mono _ _
      | exact lex_Text.mono _ _
      | exact lex_Toks.mono _ _
      | exact LeO.none _
      | refine LeO.ite ?_ ?_
      | refine LeO.bind ?_ (fun _ => ?_)
set_option maxHeartbeats 8000000 in
set_option maxRecDepth 100000 in
theorem tammylaw06_shown.calls (k : Nat)  (r : Bool) (w : World) (h : tammylaw06_shown.f k  = some r) :
    Calls Tryd.prog 10 #[] w fun e w' => e = .returned (.bool r) ∧ Below w.heap.size w w' := by
  have hu32 := Tryd.underlying32
  have HB := Aside0.mk (Below.refl w.heap.size w)
  have H : ((lex_Toks.f k (⟨#[88, 60, 61, 99]⟩ : ByteArray)).bind fun bt131 => ((lex_Number.f k (⟨#[49, 48]⟩ : ByteArray)).bind fun bt136 => (if bt131.2.2 = 0 then (if bt131.2.1 = 0 then (if (bt131.1.length : Int) = 3 then (if 1 < (bt131.1.length : Int) then (if (((rd_T32 bt131.1 1).f0) == 3 && ((((rd_T32 bt131.1 1).f1).toList) == ([60, 61] : List UInt8) && (((rd_T32 bt131.1 1).f2) == 1))) = true then (if 2 < (bt131.1.length : Int) then (if ((rd_T32 bt131.1 2).f2) = 3 then ((lex_Text.f k bt131.1).bind fun t140 => (if t140.toList = ([88, 32, 60, 61, 32, 99] : List UInt8) then (if bt136.2 = true then (some (bt136.1 == 10)) else (some false)) else (some false))) else (some false)) else (none)) else (some false)) else (none)) else (some false)) else (some false)) else (some false)))) = some r := h
  clear h
  replace H := Option.bind_eq_some_iff.mp H
  obtain ⟨⟨t131, t132, t133⟩, A10, H⟩ := H
  replace H : ((lex_Number.f k (⟨#[49, 48]⟩ : ByteArray)).bind fun bt136 => (if t133 = 0 then (if t132 = 0 then (if (t131.length : Int) = 3 then (if 1 < (t131.length : Int) then (if (((rd_T32 t131 1).f0) == 3 && ((((rd_T32 t131 1).f1).toList) == ([60, 61] : List UInt8) && (((rd_T32 t131 1).f2) == 1))) = true then (if 2 < (t131.length : Int) then (if ((rd_T32 t131 2).f2) = 3 then ((lex_Text.f k t131).bind fun t140 => (if t140.toList = ([88, 32, 60, 61, 32, 99] : List UInt8) then (if bt136.2 = true then (some (bt136.1 == 10)) else (some false)) else (some false))) else (some false)) else (none)) else (some false)) else (none)) else (some false)) else (some false)) else (some false))) = some r := H
  have A1 := Aside0.mk A10
  clear A10
  replace H := Option.bind_eq_some_iff.mp H
  obtain ⟨⟨t136, t137⟩, A20, H⟩ := H
  replace H : (if t133 = 0 then (if t132 = 0 then (if (t131.length : Int) = 3 then (if 1 < (t131.length : Int) then (if (((rd_T32 t131 1).f0) == 3 && ((((rd_T32 t131 1).f1).toList) == ([60, 61] : List UInt8) && (((rd_T32 t131 1).f2) == 1))) = true then (if 2 < (t131.length : Int) then (if ((rd_T32 t131 2).f2) = 3 then ((lex_Text.f k t131).bind fun t140 => (if t140.toList = ([88, 32, 60, 61, 32, 99] : List UInt8) then (if t137 = true then (some (t136 == 10)) else (some false)) else (some false))) else (some false)) else (none)) else (some false)) else (none)) else (some false)) else (some false)) else (some false)) = some r := H
  have A2 := Aside0.mk A20
  clear A20
  by_cases c3 : t133 = 0
  · rw [if_pos c3] at H
    have c3b0 : (t133 == 0) = true := beq_iff_eq.mpr c3
    have c3b1 : (t133 != 0) = false := bne_eq_false_iff_eq.mpr c3
    clear c3
    by_cases c4 : t132 = 0
    · rw [if_pos c4] at H
      have c4b0 : (t132 == 0) = true := beq_iff_eq.mpr c4
      have c4b1 : (t132 != 0) = false := bne_eq_false_iff_eq.mpr c4
      clear c4
      by_cases c5 : (t131.length : Int) = 3
      · rw [if_pos c5] at H
        have c5b0 : ((t131.length : Int) == 3) = true := beq_iff_eq.mpr c5
        have c5b1 : ((t131.length : Int) != 3) = false := bne_eq_false_iff_eq.mpr c5
        clear c5
        by_cases c6 : 1 < (t131.length : Int)
        · rw [if_pos c6] at H
          have c6b0 : decide (1 < (t131.length : Int)) = true := decide_eq_true c6
          have c6b1 : decide (1 < t131.length) = true := decide_eq_true (by omega)
          clear c6
          by_cases c7 : (((rd_T32 t131 1).f0) == 3 && ((((rd_T32 t131 1).f1).toList) == ([60, 61] : List UInt8) && (((rd_T32 t131 1).f2) == 1))) = true
          · rw [if_pos c7] at H
            have c7b0 : (((rd_T32 t131 1).f0) == 3 && ((((rd_T32 t131 1).f1).toList) == ([60, 61] : List UInt8) && (((rd_T32 t131 1).f2) == 1))) = true := c7
            (try (have c7b1 : decide (((rd_T32 t131 1).f0) = 3 && ((((rd_T32 t131 1).f1).toList) == ([60, 61] : List UInt8) && (((rd_T32 t131 1).f2) == 1))) = true := by simpa using c7))
            (try (have c7b2 : (((rd_T32 t131 1).f0) == 3 && ((((rd_T32 t131 1).f1).toList) == ([60, 61] : List UInt8) && (((rd_T32 t131 1).f2) == 1))) = true := by simpa using c7))
            clear c7
            by_cases c8 : 2 < (t131.length : Int)
            · rw [if_pos c8] at H
              have c8b0 : decide (2 < (t131.length : Int)) = true := decide_eq_true c8
              have c8b1 : decide (2 < t131.length) = true := decide_eq_true (by omega)
              clear c8
              by_cases c9 : ((rd_T32 t131 2).f2) = 3
              · rw [if_pos c9] at H
                have c9b0 : (((rd_T32 t131 2).f2) == 3) = true := beq_iff_eq.mpr c9
                have c9b1 : (((rd_T32 t131 2).f2) != 3) = false := bne_eq_false_iff_eq.mpr c9
                clear c9
                replace H := Option.bind_eq_some_iff.mp H
                obtain ⟨t140, A100, H⟩ := H
                replace H : (if t140.toList = ([88, 32, 60, 61, 32, 99] : List UInt8) then (if t137 = true then (some (t136 == 10)) else (some false)) else (some false)) = some r := H
                have A10 := Aside0.mk A100
                clear A100
                by_cases c11 : t140.toList = ([88, 32, 60, 61, 32, 99] : List UInt8)
                · rw [if_pos c11] at H
                  have c11b0 : (t140.toList == ([88, 32, 60, 61, 32, 99] : List UInt8)) = true := beq_iff_eq.mpr c11
                  have c11b1 : (t140.toList != ([88, 32, 60, 61, 32, 99] : List UInt8)) = false := bne_eq_false_iff_eq.mpr c11
                  clear c11
                  by_cases c12 : t137 = true
                  · subst c12
                    have H1 : (some (t136 == 10)) = some r := by rw [if_pos rfl] at H; exact H
                    clear H
                    have H := H1
                    clear H1
                    obtain rfl := Option.some.inj H
                    go_enter Tryd.func10, Tryd.ntmps10
                    go_wp2_with (first | ((with_reducible refine gate_callee (f := 11) rfl ?_); refine goesL_ (some 7) rfl rfl Tryd.func11 (by kernel_rfl) rfl #[.string (⟨#[88, 60, 61, 99]⟩ : ByteArray)] rfl (by (try simp only [List.map_toArray, List.map_cons, List.map_nil]); first | done | rfl | (simp only [List.length_drop, List.length_take]; rfl)) ?_; (with_reducible refine (lex_Toks.calls k (⟨#[88, 60, 61, 99]⟩ : ByteArray) t131 t132 t133 _ A1.out).mono ?_); rintro e w13 ⟨v134, rfl, ho0, hb⟩; refine ⟨_, rfl, ?_⟩; have n0_ := Aside0.mk (Kd.R_lower ho0 (below_size (by repeat (first | (with_reducible first | exact HB.out | apply below_alloc | apply pw_below_drewN | apply below_drew1) | exact HB.out)))); have n1_ := Aside0.mk (below_step (by repeat (first | (with_reducible first | exact HB.out | apply below_alloc | apply pw_below_drewN | apply below_drew1) | exact HB.out)) hb); clear HB; have HO135 := n0_; have HB := n1_; clear n0_ n1_; (try clear hb); (try clear hb2); (try clear hk); (try clear hi); (try clear ho0)) | ((with_reducible refine gate_callee (f := 15) rfl ?_); refine goesL_ (some 12) rfl rfl Tryd.func15 (by kernel_rfl) rfl #[.string (⟨#[49, 48]⟩ : ByteArray)] rfl (by (try simp only [List.map_toArray, List.map_cons, List.map_nil]); first | done | rfl | (simp only [List.length_drop, List.length_take]; rfl)) ?_; (with_reducible refine (lex_Number.calls k (⟨#[49, 48]⟩ : ByteArray) t136 true _ A2.out).mono ?_); rintro e w14 ⟨rfl, hb⟩; refine ⟨_, rfl, ?_⟩; have n0_ := Aside0.mk (Kd.R_below (by (with_reducible repeat (first | apply Kd.R_alloc | apply Kd.R_drewN | apply Kd.R_drew)); exact HO135.out) hb); have n1_ := Aside0.mk (below_step (by repeat (first | (with_reducible first | exact HB.out | apply below_alloc | apply pw_below_drewN | apply below_drew1) | exact HB.out)) hb); clear HO135; clear HB; have HO135 := n0_; have HB := n1_; clear n0_ n1_; (try clear hb); (try clear hb2); (try clear hk); (try clear hi); obtain ⟨Ao15, co15, eo15⟩ := Kd.R_slice HO135.out; subst eo15; have p138 : 0 ≤ (1 : Int) := (by omega); have q138 : 1 < (t131.length : Int) := of_decide_eq_true (by first | (with_reducible assumption) | assumption); obtain ⟨ad138, e138, hx138_0, hx138_1, hx138_2⟩ := at_T32 (Kd.R_reads' HO135.out).2.2 1 p138 q138; cases e138; (try simp only [show (1 : Int).toNat = 1 from rfl, Nat.reduceMul, Nat.reduceEqDiff, Go.Addr.add, ↓reduceIte] at hx138_0); (try simp only [show (1 : Int).toNat = 1 from rfl, Nat.reduceMul, Nat.reduceEqDiff, Go.Addr.add, ↓reduceIte] at hx138_1); (try simp only [show (1 : Int).toNat = 1 from rfl, Nat.reduceMul, Nat.reduceEqDiff, Go.Addr.add, ↓reduceIte] at hx138_2); have qi138 : (1 < t131.length) = True := eq_true (by omega); (try rw [show ((1 : Int)).toNat = 1 from rfl] at hx138_0); (try rw [show 1 * 3 = 3 from rfl] at hx138_0); (try rw [show ((1 : Int)).toNat = 1 from rfl] at hx138_1); (try rw [show 1 * 3 = 3 from rfl] at hx138_1); (try rw [show ((1 : Int)).toNat = 1 from rfl] at hx138_2); (try rw [show 1 * 3 = 3 from rfl] at hx138_2); replace p138 := eq_true p138; replace q138 := eq_true q138; have p139 : 0 ≤ (2 : Int) := (by omega); have q139 : 2 < (t131.length : Int) := of_decide_eq_true (by first | (with_reducible assumption) | assumption); obtain ⟨ad139, e139, hx139_0, hx139_1, hx139_2⟩ := at_T32 (Kd.R_reads' HO135.out).2.2 2 p139 q139; obtain rfl : ad138 = ad139 := (by injection e139); (try simp only [show (2 : Int).toNat = 2 from rfl, Nat.reduceMul, Nat.reduceEqDiff, Go.Addr.add, ↓reduceIte] at hx139_0); (try simp only [show (2 : Int).toNat = 2 from rfl, Nat.reduceMul, Nat.reduceEqDiff, Go.Addr.add, ↓reduceIte] at hx139_1); (try simp only [show (2 : Int).toNat = 2 from rfl, Nat.reduceMul, Nat.reduceEqDiff, Go.Addr.add, ↓reduceIte] at hx139_2); have qi139 : (2 < t131.length) = True := eq_true (by omega); (try rw [show ((2 : Int)).toNat = 2 from rfl] at hx139_0); (try rw [show 2 * 3 = 6 from rfl] at hx139_0); (try rw [show ((2 : Int)).toNat = 2 from rfl] at hx139_1); (try rw [show 2 * 3 = 6 from rfl] at hx139_1); (try rw [show ((2 : Int)).toNat = 2 from rfl] at hx139_2); (try rw [show 2 * 3 = 6 from rfl] at hx139_2); replace p139 := eq_true p139; replace q139 := eq_true q139) | (go_at_call 14; (with_reducible refine (lex_Text.calls k _ _ t131 t140 _ ?side1 ?side2 A10.out).mono ?_); (case side1 => repeat (first | exact (Kd.R_reads' HO135.out).2.2 | (with_reducible refine Kd.C_alloc ?_ _) | (with_reducible refine Kd.C_drewN ?_ _) | (with_reducible refine Kd.C_drew ?_))); (case side2 => exact (Kd.R_reads' HO135.out).2.1); rintro e w16 ⟨rfl, hb⟩; have n0_ := Aside0.mk (Kd.R_below (by (with_reducible repeat (first | apply Kd.R_alloc | apply Kd.R_drewN | apply Kd.R_drew)); exact HO135.out) hb); have n1_ := Aside0.mk (below_step (by repeat (first | (with_reducible first | exact HB.out | apply below_alloc | apply pw_below_drewN | apply below_drew1) | exact HB.out)) hb); clear HO135; clear HB; have HO135 := n0_; have HB := n1_; clear n0_ n1_; (try clear hb); (try clear hb2); (try clear hk); (try clear hi)))
                    go_ret
                    exact ⟨by first | rfl | (simp [errW_none, errW_some] <;> rfl) | (simp [*, errW_none, errW_some] <;> rfl), by repeat (first | (with_reducible first | exact HB.out | apply below_alloc | apply pw_below_drewN | apply below_drew1) | exact HB.out)⟩
                  · replace c12 := Bool.eq_false_iff.mpr c12
                    subst c12
                    have H1 : (some false) = some r := by rw [if_neg (show ¬ (false = true) by decide)] at H; exact H
                    clear H
                    have H := H1
                    clear H1
                    obtain rfl := Option.some.inj H
                    go_enter Tryd.func10, Tryd.ntmps10
                    go_wp2_with (first | ((with_reducible refine gate_callee (f := 11) rfl ?_); refine goesL_ (some 7) rfl rfl Tryd.func11 (by kernel_rfl) rfl #[.string (⟨#[88, 60, 61, 99]⟩ : ByteArray)] rfl (by (try simp only [List.map_toArray, List.map_cons, List.map_nil]); first | done | rfl | (simp only [List.length_drop, List.length_take]; rfl)) ?_; (with_reducible refine (lex_Toks.calls k (⟨#[88, 60, 61, 99]⟩ : ByteArray) t131 t132 t133 _ A1.out).mono ?_); rintro e w17 ⟨v134, rfl, ho0, hb⟩; refine ⟨_, rfl, ?_⟩; have n0_ := Aside0.mk (Kd.R_lower ho0 (below_size (by repeat (first | (with_reducible first | exact HB.out | apply below_alloc | apply pw_below_drewN | apply below_drew1) | exact HB.out)))); have n1_ := Aside0.mk (below_step (by repeat (first | (with_reducible first | exact HB.out | apply below_alloc | apply pw_below_drewN | apply below_drew1) | exact HB.out)) hb); clear HB; have HO135 := n0_; have HB := n1_; clear n0_ n1_; (try clear hb); (try clear hb2); (try clear hk); (try clear hi); (try clear ho0)) | ((with_reducible refine gate_callee (f := 15) rfl ?_); refine goesL_ (some 12) rfl rfl Tryd.func15 (by kernel_rfl) rfl #[.string (⟨#[49, 48]⟩ : ByteArray)] rfl (by (try simp only [List.map_toArray, List.map_cons, List.map_nil]); first | done | rfl | (simp only [List.length_drop, List.length_take]; rfl)) ?_; (with_reducible refine (lex_Number.calls k (⟨#[49, 48]⟩ : ByteArray) t136 false _ A2.out).mono ?_); rintro e w18 ⟨rfl, hb⟩; refine ⟨_, rfl, ?_⟩; have n0_ := Aside0.mk (Kd.R_below (by (with_reducible repeat (first | apply Kd.R_alloc | apply Kd.R_drewN | apply Kd.R_drew)); exact HO135.out) hb); have n1_ := Aside0.mk (below_step (by repeat (first | (with_reducible first | exact HB.out | apply below_alloc | apply pw_below_drewN | apply below_drew1) | exact HB.out)) hb); clear HO135; clear HB; have HO135 := n0_; have HB := n1_; clear n0_ n1_; (try clear hb); (try clear hb2); (try clear hk); (try clear hi); obtain ⟨Ao19, co19, eo19⟩ := Kd.R_slice HO135.out; subst eo19; have p138 : 0 ≤ (1 : Int) := (by omega); have q138 : 1 < (t131.length : Int) := of_decide_eq_true (by first | (with_reducible assumption) | assumption); obtain ⟨ad138, e138, hx138_0, hx138_1, hx138_2⟩ := at_T32 (Kd.R_reads' HO135.out).2.2 1 p138 q138; cases e138; (try simp only [show (1 : Int).toNat = 1 from rfl, Nat.reduceMul, Nat.reduceEqDiff, Go.Addr.add, ↓reduceIte] at hx138_0); (try simp only [show (1 : Int).toNat = 1 from rfl, Nat.reduceMul, Nat.reduceEqDiff, Go.Addr.add, ↓reduceIte] at hx138_1); (try simp only [show (1 : Int).toNat = 1 from rfl, Nat.reduceMul, Nat.reduceEqDiff, Go.Addr.add, ↓reduceIte] at hx138_2); have qi138 : (1 < t131.length) = True := eq_true (by omega); (try rw [show ((1 : Int)).toNat = 1 from rfl] at hx138_0); (try rw [show 1 * 3 = 3 from rfl] at hx138_0); (try rw [show ((1 : Int)).toNat = 1 from rfl] at hx138_1); (try rw [show 1 * 3 = 3 from rfl] at hx138_1); (try rw [show ((1 : Int)).toNat = 1 from rfl] at hx138_2); (try rw [show 1 * 3 = 3 from rfl] at hx138_2); replace p138 := eq_true p138; replace q138 := eq_true q138; have p139 : 0 ≤ (2 : Int) := (by omega); have q139 : 2 < (t131.length : Int) := of_decide_eq_true (by first | (with_reducible assumption) | assumption); obtain ⟨ad139, e139, hx139_0, hx139_1, hx139_2⟩ := at_T32 (Kd.R_reads' HO135.out).2.2 2 p139 q139; obtain rfl : ad138 = ad139 := (by injection e139); (try simp only [show (2 : Int).toNat = 2 from rfl, Nat.reduceMul, Nat.reduceEqDiff, Go.Addr.add, ↓reduceIte] at hx139_0); (try simp only [show (2 : Int).toNat = 2 from rfl, Nat.reduceMul, Nat.reduceEqDiff, Go.Addr.add, ↓reduceIte] at hx139_1); (try simp only [show (2 : Int).toNat = 2 from rfl, Nat.reduceMul, Nat.reduceEqDiff, Go.Addr.add, ↓reduceIte] at hx139_2); have qi139 : (2 < t131.length) = True := eq_true (by omega); (try rw [show ((2 : Int)).toNat = 2 from rfl] at hx139_0); (try rw [show 2 * 3 = 6 from rfl] at hx139_0); (try rw [show ((2 : Int)).toNat = 2 from rfl] at hx139_1); (try rw [show 2 * 3 = 6 from rfl] at hx139_1); (try rw [show ((2 : Int)).toNat = 2 from rfl] at hx139_2); (try rw [show 2 * 3 = 6 from rfl] at hx139_2); replace p139 := eq_true p139; replace q139 := eq_true q139) | (go_at_call 14; (with_reducible refine (lex_Text.calls k _ _ t131 t140 _ ?side1 ?side2 A10.out).mono ?_); (case side1 => repeat (first | exact (Kd.R_reads' HO135.out).2.2 | (with_reducible refine Kd.C_alloc ?_ _) | (with_reducible refine Kd.C_drewN ?_ _) | (with_reducible refine Kd.C_drew ?_))); (case side2 => exact (Kd.R_reads' HO135.out).2.1); rintro e w20 ⟨rfl, hb⟩; have n0_ := Aside0.mk (Kd.R_below (by (with_reducible repeat (first | apply Kd.R_alloc | apply Kd.R_drewN | apply Kd.R_drew)); exact HO135.out) hb); have n1_ := Aside0.mk (below_step (by repeat (first | (with_reducible first | exact HB.out | apply below_alloc | apply pw_below_drewN | apply below_drew1) | exact HB.out)) hb); clear HO135; clear HB; have HO135 := n0_; have HB := n1_; clear n0_ n1_; (try clear hb); (try clear hb2); (try clear hk); (try clear hi)))
                    go_ret
                    exact ⟨by first | rfl | (simp [errW_none, errW_some] <;> rfl) | (simp [*, errW_none, errW_some] <;> rfl), by repeat (first | (with_reducible first | exact HB.out | apply below_alloc | apply pw_below_drewN | apply below_drew1) | exact HB.out)⟩
                · rw [if_neg c11] at H
                  have c11b0 : (t140.toList == ([88, 32, 60, 61, 32, 99] : List UInt8)) = false := beq_eq_false_iff_ne.mpr c11
                  have c11b1 : (t140.toList != ([88, 32, 60, 61, 32, 99] : List UInt8)) = true := bne_iff_ne.mpr c11
                  obtain rfl := Option.some.inj H
                  go_enter Tryd.func10, Tryd.ntmps10
                  go_wp2_with (first | ((with_reducible refine gate_callee (f := 11) rfl ?_); refine goesL_ (some 7) rfl rfl Tryd.func11 (by kernel_rfl) rfl #[.string (⟨#[88, 60, 61, 99]⟩ : ByteArray)] rfl (by (try simp only [List.map_toArray, List.map_cons, List.map_nil]); first | done | rfl | (simp only [List.length_drop, List.length_take]; rfl)) ?_; (with_reducible refine (lex_Toks.calls k (⟨#[88, 60, 61, 99]⟩ : ByteArray) t131 t132 t133 _ A1.out).mono ?_); rintro e w21 ⟨v134, rfl, ho0, hb⟩; refine ⟨_, rfl, ?_⟩; have n0_ := Aside0.mk (Kd.R_lower ho0 (below_size (by repeat (first | (with_reducible first | exact HB.out | apply below_alloc | apply pw_below_drewN | apply below_drew1) | exact HB.out)))); have n1_ := Aside0.mk (below_step (by repeat (first | (with_reducible first | exact HB.out | apply below_alloc | apply pw_below_drewN | apply below_drew1) | exact HB.out)) hb); clear HB; have HO135 := n0_; have HB := n1_; clear n0_ n1_; (try clear hb); (try clear hb2); (try clear hk); (try clear hi); (try clear ho0)) | ((with_reducible refine gate_callee (f := 15) rfl ?_); refine goesL_ (some 12) rfl rfl Tryd.func15 (by kernel_rfl) rfl #[.string (⟨#[49, 48]⟩ : ByteArray)] rfl (by (try simp only [List.map_toArray, List.map_cons, List.map_nil]); first | done | rfl | (simp only [List.length_drop, List.length_take]; rfl)) ?_; (with_reducible refine (lex_Number.calls k (⟨#[49, 48]⟩ : ByteArray) t136 t137 _ A2.out).mono ?_); rintro e w22 ⟨rfl, hb⟩; refine ⟨_, rfl, ?_⟩; have n0_ := Aside0.mk (Kd.R_below (by (with_reducible repeat (first | apply Kd.R_alloc | apply Kd.R_drewN | apply Kd.R_drew)); exact HO135.out) hb); have n1_ := Aside0.mk (below_step (by repeat (first | (with_reducible first | exact HB.out | apply below_alloc | apply pw_below_drewN | apply below_drew1) | exact HB.out)) hb); clear HO135; clear HB; have HO135 := n0_; have HB := n1_; clear n0_ n1_; (try clear hb); (try clear hb2); (try clear hk); (try clear hi); obtain ⟨Ao23, co23, eo23⟩ := Kd.R_slice HO135.out; subst eo23; have p138 : 0 ≤ (1 : Int) := (by omega); have q138 : 1 < (t131.length : Int) := of_decide_eq_true (by first | (with_reducible assumption) | assumption); obtain ⟨ad138, e138, hx138_0, hx138_1, hx138_2⟩ := at_T32 (Kd.R_reads' HO135.out).2.2 1 p138 q138; cases e138; (try simp only [show (1 : Int).toNat = 1 from rfl, Nat.reduceMul, Nat.reduceEqDiff, Go.Addr.add, ↓reduceIte] at hx138_0); (try simp only [show (1 : Int).toNat = 1 from rfl, Nat.reduceMul, Nat.reduceEqDiff, Go.Addr.add, ↓reduceIte] at hx138_1); (try simp only [show (1 : Int).toNat = 1 from rfl, Nat.reduceMul, Nat.reduceEqDiff, Go.Addr.add, ↓reduceIte] at hx138_2); have qi138 : (1 < t131.length) = True := eq_true (by omega); (try rw [show ((1 : Int)).toNat = 1 from rfl] at hx138_0); (try rw [show 1 * 3 = 3 from rfl] at hx138_0); (try rw [show ((1 : Int)).toNat = 1 from rfl] at hx138_1); (try rw [show 1 * 3 = 3 from rfl] at hx138_1); (try rw [show ((1 : Int)).toNat = 1 from rfl] at hx138_2); (try rw [show 1 * 3 = 3 from rfl] at hx138_2); replace p138 := eq_true p138; replace q138 := eq_true q138; have p139 : 0 ≤ (2 : Int) := (by omega); have q139 : 2 < (t131.length : Int) := of_decide_eq_true (by first | (with_reducible assumption) | assumption); obtain ⟨ad139, e139, hx139_0, hx139_1, hx139_2⟩ := at_T32 (Kd.R_reads' HO135.out).2.2 2 p139 q139; obtain rfl : ad138 = ad139 := (by injection e139); (try simp only [show (2 : Int).toNat = 2 from rfl, Nat.reduceMul, Nat.reduceEqDiff, Go.Addr.add, ↓reduceIte] at hx139_0); (try simp only [show (2 : Int).toNat = 2 from rfl, Nat.reduceMul, Nat.reduceEqDiff, Go.Addr.add, ↓reduceIte] at hx139_1); (try simp only [show (2 : Int).toNat = 2 from rfl, Nat.reduceMul, Nat.reduceEqDiff, Go.Addr.add, ↓reduceIte] at hx139_2); have qi139 : (2 < t131.length) = True := eq_true (by omega); (try rw [show ((2 : Int)).toNat = 2 from rfl] at hx139_0); (try rw [show 2 * 3 = 6 from rfl] at hx139_0); (try rw [show ((2 : Int)).toNat = 2 from rfl] at hx139_1); (try rw [show 2 * 3 = 6 from rfl] at hx139_1); (try rw [show ((2 : Int)).toNat = 2 from rfl] at hx139_2); (try rw [show 2 * 3 = 6 from rfl] at hx139_2); replace p139 := eq_true p139; replace q139 := eq_true q139) | (go_at_call 14; (with_reducible refine (lex_Text.calls k _ _ t131 t140 _ ?side1 ?side2 A10.out).mono ?_); (case side1 => repeat (first | exact (Kd.R_reads' HO135.out).2.2 | (with_reducible refine Kd.C_alloc ?_ _) | (with_reducible refine Kd.C_drewN ?_ _) | (with_reducible refine Kd.C_drew ?_))); (case side2 => exact (Kd.R_reads' HO135.out).2.1); rintro e w24 ⟨rfl, hb⟩; have n0_ := Aside0.mk (Kd.R_below (by (with_reducible repeat (first | apply Kd.R_alloc | apply Kd.R_drewN | apply Kd.R_drew)); exact HO135.out) hb); have n1_ := Aside0.mk (below_step (by repeat (first | (with_reducible first | exact HB.out | apply below_alloc | apply pw_below_drewN | apply below_drew1) | exact HB.out)) hb); clear HO135; clear HB; have HO135 := n0_; have HB := n1_; clear n0_ n1_; (try clear hb); (try clear hb2); (try clear hk); (try clear hi)))
                  go_ret
                  exact ⟨by first | rfl | (simp [errW_none, errW_some] <;> rfl) | (simp [*, errW_none, errW_some] <;> rfl), by repeat (first | (with_reducible first | exact HB.out | apply below_alloc | apply pw_below_drewN | apply below_drew1) | exact HB.out)⟩
              · rw [if_neg c9] at H
                have c9b0 : (((rd_T32 t131 2).f2) == 3) = false := beq_eq_false_iff_ne.mpr c9
                have c9b1 : (((rd_T32 t131 2).f2) != 3) = true := bne_iff_ne.mpr c9
                obtain rfl := Option.some.inj H
                go_enter Tryd.func10, Tryd.ntmps10
                go_wp2_with (first | ((with_reducible refine gate_callee (f := 11) rfl ?_); refine goesL_ (some 7) rfl rfl Tryd.func11 (by kernel_rfl) rfl #[.string (⟨#[88, 60, 61, 99]⟩ : ByteArray)] rfl (by (try simp only [List.map_toArray, List.map_cons, List.map_nil]); first | done | rfl | (simp only [List.length_drop, List.length_take]; rfl)) ?_; (with_reducible refine (lex_Toks.calls k (⟨#[88, 60, 61, 99]⟩ : ByteArray) t131 t132 t133 _ A1.out).mono ?_); rintro e w25 ⟨v134, rfl, ho0, hb⟩; refine ⟨_, rfl, ?_⟩; have n0_ := Aside0.mk (Kd.R_lower ho0 (below_size (by repeat (first | (with_reducible first | exact HB.out | apply below_alloc | apply pw_below_drewN | apply below_drew1) | exact HB.out)))); have n1_ := Aside0.mk (below_step (by repeat (first | (with_reducible first | exact HB.out | apply below_alloc | apply pw_below_drewN | apply below_drew1) | exact HB.out)) hb); clear HB; have HO135 := n0_; have HB := n1_; clear n0_ n1_; (try clear hb); (try clear hb2); (try clear hk); (try clear hi); (try clear ho0)) | ((with_reducible refine gate_callee (f := 15) rfl ?_); refine goesL_ (some 12) rfl rfl Tryd.func15 (by kernel_rfl) rfl #[.string (⟨#[49, 48]⟩ : ByteArray)] rfl (by (try simp only [List.map_toArray, List.map_cons, List.map_nil]); first | done | rfl | (simp only [List.length_drop, List.length_take]; rfl)) ?_; (with_reducible refine (lex_Number.calls k (⟨#[49, 48]⟩ : ByteArray) t136 t137 _ A2.out).mono ?_); rintro e w26 ⟨rfl, hb⟩; refine ⟨_, rfl, ?_⟩; have n0_ := Aside0.mk (Kd.R_below (by (with_reducible repeat (first | apply Kd.R_alloc | apply Kd.R_drewN | apply Kd.R_drew)); exact HO135.out) hb); have n1_ := Aside0.mk (below_step (by repeat (first | (with_reducible first | exact HB.out | apply below_alloc | apply pw_below_drewN | apply below_drew1) | exact HB.out)) hb); clear HO135; clear HB; have HO135 := n0_; have HB := n1_; clear n0_ n1_; (try clear hb); (try clear hb2); (try clear hk); (try clear hi); obtain ⟨Ao27, co27, eo27⟩ := Kd.R_slice HO135.out; subst eo27; have p138 : 0 ≤ (1 : Int) := (by omega); have q138 : 1 < (t131.length : Int) := of_decide_eq_true (by first | (with_reducible assumption) | assumption); obtain ⟨ad138, e138, hx138_0, hx138_1, hx138_2⟩ := at_T32 (Kd.R_reads' HO135.out).2.2 1 p138 q138; cases e138; (try simp only [show (1 : Int).toNat = 1 from rfl, Nat.reduceMul, Nat.reduceEqDiff, Go.Addr.add, ↓reduceIte] at hx138_0); (try simp only [show (1 : Int).toNat = 1 from rfl, Nat.reduceMul, Nat.reduceEqDiff, Go.Addr.add, ↓reduceIte] at hx138_1); (try simp only [show (1 : Int).toNat = 1 from rfl, Nat.reduceMul, Nat.reduceEqDiff, Go.Addr.add, ↓reduceIte] at hx138_2); have qi138 : (1 < t131.length) = True := eq_true (by omega); (try rw [show ((1 : Int)).toNat = 1 from rfl] at hx138_0); (try rw [show 1 * 3 = 3 from rfl] at hx138_0); (try rw [show ((1 : Int)).toNat = 1 from rfl] at hx138_1); (try rw [show 1 * 3 = 3 from rfl] at hx138_1); (try rw [show ((1 : Int)).toNat = 1 from rfl] at hx138_2); (try rw [show 1 * 3 = 3 from rfl] at hx138_2); replace p138 := eq_true p138; replace q138 := eq_true q138; have p139 : 0 ≤ (2 : Int) := (by omega); have q139 : 2 < (t131.length : Int) := of_decide_eq_true (by first | (with_reducible assumption) | assumption); obtain ⟨ad139, e139, hx139_0, hx139_1, hx139_2⟩ := at_T32 (Kd.R_reads' HO135.out).2.2 2 p139 q139; obtain rfl : ad138 = ad139 := (by injection e139); (try simp only [show (2 : Int).toNat = 2 from rfl, Nat.reduceMul, Nat.reduceEqDiff, Go.Addr.add, ↓reduceIte] at hx139_0); (try simp only [show (2 : Int).toNat = 2 from rfl, Nat.reduceMul, Nat.reduceEqDiff, Go.Addr.add, ↓reduceIte] at hx139_1); (try simp only [show (2 : Int).toNat = 2 from rfl, Nat.reduceMul, Nat.reduceEqDiff, Go.Addr.add, ↓reduceIte] at hx139_2); have qi139 : (2 < t131.length) = True := eq_true (by omega); (try rw [show ((2 : Int)).toNat = 2 from rfl] at hx139_0); (try rw [show 2 * 3 = 6 from rfl] at hx139_0); (try rw [show ((2 : Int)).toNat = 2 from rfl] at hx139_1); (try rw [show 2 * 3 = 6 from rfl] at hx139_1); (try rw [show ((2 : Int)).toNat = 2 from rfl] at hx139_2); (try rw [show 2 * 3 = 6 from rfl] at hx139_2); replace p139 := eq_true p139; replace q139 := eq_true q139))
                go_ret
                exact ⟨by first | rfl | (simp [errW_none, errW_some] <;> rfl) | (simp [*, errW_none, errW_some] <;> rfl), by repeat (first | (with_reducible first | exact HB.out | apply below_alloc | apply pw_below_drewN | apply below_drew1) | exact HB.out)⟩
            · rw [if_neg c8] at H
              exact absurd H (by simp)
          · rw [if_neg c7] at H
            have c7b0 : (((rd_T32 t131 1).f0) == 3 && ((((rd_T32 t131 1).f1).toList) == ([60, 61] : List UInt8) && (((rd_T32 t131 1).f2) == 1))) = false := by simpa using c7
            (try (have c7b1 : decide (((rd_T32 t131 1).f0) = 3 && ((((rd_T32 t131 1).f1).toList) == ([60, 61] : List UInt8) && (((rd_T32 t131 1).f2) == 1))) = false := by simpa using c7))
            (try (have c7b2 : (((rd_T32 t131 1).f0) == 3 && ((((rd_T32 t131 1).f1).toList) == ([60, 61] : List UInt8) && (((rd_T32 t131 1).f2) == 1))) = false := by simpa using c7))
            (try (have c7b3 : ¬ (((rd_T32 t131 1).f0) = 3 && ((((rd_T32 t131 1).f1).toList) == ([60, 61] : List UInt8) && (((rd_T32 t131 1).f2) == 1))) := by simpa using c7))
            clear c7
            obtain rfl := Option.some.inj H
            go_enter Tryd.func10, Tryd.ntmps10
            go_wp2_with (first | ((with_reducible refine gate_callee (f := 11) rfl ?_); refine goesL_ (some 7) rfl rfl Tryd.func11 (by kernel_rfl) rfl #[.string (⟨#[88, 60, 61, 99]⟩ : ByteArray)] rfl (by (try simp only [List.map_toArray, List.map_cons, List.map_nil]); first | done | rfl | (simp only [List.length_drop, List.length_take]; rfl)) ?_; (with_reducible refine (lex_Toks.calls k (⟨#[88, 60, 61, 99]⟩ : ByteArray) t131 t132 t133 _ A1.out).mono ?_); rintro e w28 ⟨v134, rfl, ho0, hb⟩; refine ⟨_, rfl, ?_⟩; have n0_ := Aside0.mk (Kd.R_lower ho0 (below_size (by repeat (first | (with_reducible first | exact HB.out | apply below_alloc | apply pw_below_drewN | apply below_drew1) | exact HB.out)))); have n1_ := Aside0.mk (below_step (by repeat (first | (with_reducible first | exact HB.out | apply below_alloc | apply pw_below_drewN | apply below_drew1) | exact HB.out)) hb); clear HB; have HO135 := n0_; have HB := n1_; clear n0_ n1_; (try clear hb); (try clear hb2); (try clear hk); (try clear hi); (try clear ho0)) | ((with_reducible refine gate_callee (f := 15) rfl ?_); refine goesL_ (some 12) rfl rfl Tryd.func15 (by kernel_rfl) rfl #[.string (⟨#[49, 48]⟩ : ByteArray)] rfl (by (try simp only [List.map_toArray, List.map_cons, List.map_nil]); first | done | rfl | (simp only [List.length_drop, List.length_take]; rfl)) ?_; (with_reducible refine (lex_Number.calls k (⟨#[49, 48]⟩ : ByteArray) t136 t137 _ A2.out).mono ?_); rintro e w29 ⟨rfl, hb⟩; refine ⟨_, rfl, ?_⟩; have n0_ := Aside0.mk (Kd.R_below (by (with_reducible repeat (first | apply Kd.R_alloc | apply Kd.R_drewN | apply Kd.R_drew)); exact HO135.out) hb); have n1_ := Aside0.mk (below_step (by repeat (first | (with_reducible first | exact HB.out | apply below_alloc | apply pw_below_drewN | apply below_drew1) | exact HB.out)) hb); clear HO135; clear HB; have HO135 := n0_; have HB := n1_; clear n0_ n1_; (try clear hb); (try clear hb2); (try clear hk); (try clear hi); obtain ⟨Ao30, co30, eo30⟩ := Kd.R_slice HO135.out; subst eo30; have p138 : 0 ≤ (1 : Int) := (by omega); have q138 : 1 < (t131.length : Int) := of_decide_eq_true (by first | (with_reducible assumption) | assumption); obtain ⟨ad138, e138, hx138_0, hx138_1, hx138_2⟩ := at_T32 (Kd.R_reads' HO135.out).2.2 1 p138 q138; cases e138; (try simp only [show (1 : Int).toNat = 1 from rfl, Nat.reduceMul, Nat.reduceEqDiff, Go.Addr.add, ↓reduceIte] at hx138_0); (try simp only [show (1 : Int).toNat = 1 from rfl, Nat.reduceMul, Nat.reduceEqDiff, Go.Addr.add, ↓reduceIte] at hx138_1); (try simp only [show (1 : Int).toNat = 1 from rfl, Nat.reduceMul, Nat.reduceEqDiff, Go.Addr.add, ↓reduceIte] at hx138_2); have qi138 : (1 < t131.length) = True := eq_true (by omega); (try rw [show ((1 : Int)).toNat = 1 from rfl] at hx138_0); (try rw [show 1 * 3 = 3 from rfl] at hx138_0); (try rw [show ((1 : Int)).toNat = 1 from rfl] at hx138_1); (try rw [show 1 * 3 = 3 from rfl] at hx138_1); (try rw [show ((1 : Int)).toNat = 1 from rfl] at hx138_2); (try rw [show 1 * 3 = 3 from rfl] at hx138_2); replace p138 := eq_true p138; replace q138 := eq_true q138))
            go_ret
            exact ⟨by first | rfl | (simp [errW_none, errW_some] <;> rfl) | (simp [*, errW_none, errW_some] <;> rfl), by repeat (first | (with_reducible first | exact HB.out | apply below_alloc | apply pw_below_drewN | apply below_drew1) | exact HB.out)⟩
        · rw [if_neg c6] at H
          exact absurd H (by simp)
      · rw [if_neg c5] at H
        have c5b0 : ((t131.length : Int) == 3) = false := beq_eq_false_iff_ne.mpr c5
        have c5b1 : ((t131.length : Int) != 3) = true := bne_iff_ne.mpr c5
        obtain rfl := Option.some.inj H
        go_enter Tryd.func10, Tryd.ntmps10
        go_wp2_with (first | ((with_reducible refine gate_callee (f := 11) rfl ?_); refine goesL_ (some 7) rfl rfl Tryd.func11 (by kernel_rfl) rfl #[.string (⟨#[88, 60, 61, 99]⟩ : ByteArray)] rfl (by (try simp only [List.map_toArray, List.map_cons, List.map_nil]); first | done | rfl | (simp only [List.length_drop, List.length_take]; rfl)) ?_; (with_reducible refine (lex_Toks.calls k (⟨#[88, 60, 61, 99]⟩ : ByteArray) t131 t132 t133 _ A1.out).mono ?_); rintro e w31 ⟨v134, rfl, ho0, hb⟩; refine ⟨_, rfl, ?_⟩; have n0_ := Aside0.mk (Kd.R_lower ho0 (below_size (by repeat (first | (with_reducible first | exact HB.out | apply below_alloc | apply pw_below_drewN | apply below_drew1) | exact HB.out)))); have n1_ := Aside0.mk (below_step (by repeat (first | (with_reducible first | exact HB.out | apply below_alloc | apply pw_below_drewN | apply below_drew1) | exact HB.out)) hb); clear HB; have HO135 := n0_; have HB := n1_; clear n0_ n1_; (try clear hb); (try clear hb2); (try clear hk); (try clear hi); (try clear ho0)) | ((with_reducible refine gate_callee (f := 15) rfl ?_); refine goesL_ (some 12) rfl rfl Tryd.func15 (by kernel_rfl) rfl #[.string (⟨#[49, 48]⟩ : ByteArray)] rfl (by (try simp only [List.map_toArray, List.map_cons, List.map_nil]); first | done | rfl | (simp only [List.length_drop, List.length_take]; rfl)) ?_; (with_reducible refine (lex_Number.calls k (⟨#[49, 48]⟩ : ByteArray) t136 t137 _ A2.out).mono ?_); rintro e w32 ⟨rfl, hb⟩; refine ⟨_, rfl, ?_⟩; have n0_ := Aside0.mk (Kd.R_below (by (with_reducible repeat (first | apply Kd.R_alloc | apply Kd.R_drewN | apply Kd.R_drew)); exact HO135.out) hb); have n1_ := Aside0.mk (below_step (by repeat (first | (with_reducible first | exact HB.out | apply below_alloc | apply pw_below_drewN | apply below_drew1) | exact HB.out)) hb); clear HO135; clear HB; have HO135 := n0_; have HB := n1_; clear n0_ n1_; (try clear hb); (try clear hb2); (try clear hk); (try clear hi); obtain ⟨Ao33, co33, eo33⟩ := Kd.R_slice HO135.out; subst eo33))
        go_ret
        exact ⟨by first | rfl | (simp [errW_none, errW_some] <;> rfl) | (simp [*, errW_none, errW_some] <;> rfl), by repeat (first | (with_reducible first | exact HB.out | apply below_alloc | apply pw_below_drewN | apply below_drew1) | exact HB.out)⟩
    · rw [if_neg c4] at H
      have c4b0 : (t132 == 0) = false := beq_eq_false_iff_ne.mpr c4
      have c4b1 : (t132 != 0) = true := bne_iff_ne.mpr c4
      obtain rfl := Option.some.inj H
      go_enter Tryd.func10, Tryd.ntmps10
      go_wp2_with (first | ((with_reducible refine gate_callee (f := 11) rfl ?_); refine goesL_ (some 7) rfl rfl Tryd.func11 (by kernel_rfl) rfl #[.string (⟨#[88, 60, 61, 99]⟩ : ByteArray)] rfl (by (try simp only [List.map_toArray, List.map_cons, List.map_nil]); first | done | rfl | (simp only [List.length_drop, List.length_take]; rfl)) ?_; (with_reducible refine (lex_Toks.calls k (⟨#[88, 60, 61, 99]⟩ : ByteArray) t131 t132 t133 _ A1.out).mono ?_); rintro e w34 ⟨v134, rfl, ho0, hb⟩; refine ⟨_, rfl, ?_⟩; have n0_ := Aside0.mk (Kd.R_lower ho0 (below_size (by repeat (first | (with_reducible first | exact HB.out | apply below_alloc | apply pw_below_drewN | apply below_drew1) | exact HB.out)))); have n1_ := Aside0.mk (below_step (by repeat (first | (with_reducible first | exact HB.out | apply below_alloc | apply pw_below_drewN | apply below_drew1) | exact HB.out)) hb); clear HB; have HO135 := n0_; have HB := n1_; clear n0_ n1_; (try clear hb); (try clear hb2); (try clear hk); (try clear hi); (try clear ho0)) | ((with_reducible refine gate_callee (f := 15) rfl ?_); refine goesL_ (some 12) rfl rfl Tryd.func15 (by kernel_rfl) rfl #[.string (⟨#[49, 48]⟩ : ByteArray)] rfl (by (try simp only [List.map_toArray, List.map_cons, List.map_nil]); first | done | rfl | (simp only [List.length_drop, List.length_take]; rfl)) ?_; (with_reducible refine (lex_Number.calls k (⟨#[49, 48]⟩ : ByteArray) t136 t137 _ A2.out).mono ?_); rintro e w35 ⟨rfl, hb⟩; refine ⟨_, rfl, ?_⟩; have n0_ := Aside0.mk (Kd.R_below (by (with_reducible repeat (first | apply Kd.R_alloc | apply Kd.R_drewN | apply Kd.R_drew)); exact HO135.out) hb); have n1_ := Aside0.mk (below_step (by repeat (first | (with_reducible first | exact HB.out | apply below_alloc | apply pw_below_drewN | apply below_drew1) | exact HB.out)) hb); clear HO135; clear HB; have HO135 := n0_; have HB := n1_; clear n0_ n1_; (try clear hb); (try clear hb2); (try clear hk); (try clear hi)))
      go_ret
      exact ⟨by first | rfl | (simp [errW_none, errW_some] <;> rfl) | (simp [*, errW_none, errW_some] <;> rfl), by repeat (first | (with_reducible first | exact HB.out | apply below_alloc | apply pw_below_drewN | apply below_drew1) | exact HB.out)⟩
  · rw [if_neg c3] at H
    have c3b0 : (t133 == 0) = false := beq_eq_false_iff_ne.mpr c3
    have c3b1 : (t133 != 0) = true := bne_iff_ne.mpr c3
    obtain rfl := Option.some.inj H
    go_enter Tryd.func10, Tryd.ntmps10
    go_wp2_with (first | ((with_reducible refine gate_callee (f := 11) rfl ?_); refine goesL_ (some 7) rfl rfl Tryd.func11 (by kernel_rfl) rfl #[.string (⟨#[88, 60, 61, 99]⟩ : ByteArray)] rfl (by (try simp only [List.map_toArray, List.map_cons, List.map_nil]); first | done | rfl | (simp only [List.length_drop, List.length_take]; rfl)) ?_; (with_reducible refine (lex_Toks.calls k (⟨#[88, 60, 61, 99]⟩ : ByteArray) t131 t132 t133 _ A1.out).mono ?_); rintro e w36 ⟨v134, rfl, ho0, hb⟩; refine ⟨_, rfl, ?_⟩; have n0_ := Aside0.mk (Kd.R_lower ho0 (below_size (by repeat (first | (with_reducible first | exact HB.out | apply below_alloc | apply pw_below_drewN | apply below_drew1) | exact HB.out)))); have n1_ := Aside0.mk (below_step (by repeat (first | (with_reducible first | exact HB.out | apply below_alloc | apply pw_below_drewN | apply below_drew1) | exact HB.out)) hb); clear HB; have HO135 := n0_; have HB := n1_; clear n0_ n1_; (try clear hb); (try clear hb2); (try clear hk); (try clear hi); (try clear ho0)) | ((with_reducible refine gate_callee (f := 15) rfl ?_); refine goesL_ (some 12) rfl rfl Tryd.func15 (by kernel_rfl) rfl #[.string (⟨#[49, 48]⟩ : ByteArray)] rfl (by (try simp only [List.map_toArray, List.map_cons, List.map_nil]); first | done | rfl | (simp only [List.length_drop, List.length_take]; rfl)) ?_; (with_reducible refine (lex_Number.calls k (⟨#[49, 48]⟩ : ByteArray) t136 t137 _ A2.out).mono ?_); rintro e w37 ⟨rfl, hb⟩; refine ⟨_, rfl, ?_⟩; have n0_ := Aside0.mk (Kd.R_below (by (with_reducible repeat (first | apply Kd.R_alloc | apply Kd.R_drewN | apply Kd.R_drew)); exact HO135.out) hb); have n1_ := Aside0.mk (below_step (by repeat (first | (with_reducible first | exact HB.out | apply below_alloc | apply pw_below_drewN | apply below_drew1) | exact HB.out)) hb); clear HO135; clear HB; have HO135 := n0_; have HB := n1_; clear n0_ n1_; (try clear hb); (try clear hb2); (try clear hk); (try clear hi)))
    go_ret
    exact ⟨by first | rfl | (simp [errW_none, errW_some] <;> rfl) | (simp [*, errW_none, errW_some] <;> rfl), by repeat (first | (with_reducible first | exact HB.out | apply below_alloc | apply pw_below_drewN | apply below_drew1) | exact HB.out)⟩

/-! ### tammyref06_Number: function 17 -/
mutual
def tammyref06_Number.j0 : Nat → ByteArray → Bool → Option (Int × Bool)
  | 0, _, _ => none
  | k + 1, x0, x23 => if x23 = true then (some (0, false)) else (tammyref06_Number.l0 k x0 0 0)
def tammyref06_Number.l0 : Nat → ByteArray → Int → Int → Option (Int × Bool)
  | 0, _, _, _ => none
  | k + 1, x0, x4, x5 => if x5 < (x0.size : Int) then (if 0 ≤ x5 then (if (bt x0 x5) < 48 then (some (0, false)) else (if (bt x0 x5) > 57 then (some (0, false)) else (tammyref06_Number.l0 k x0 (wrap64 ((wrap64 (x4 * 10)) + (((bt x0 x5) - 48) % 256))) (wrap64 (x5 + 1))))) else (none)) else (some (x4, true))
end
def tammyref06_Number.f (k : Nat) (a0 : ByteArray) : Option (Int × Bool) := if (a0.size : Int) = 0 then (tammyref06_Number.j0 k a0 true) else (if (a0.size : Int) > 9 then (tammyref06_Number.j0 k a0 true) else (if 0 < (a0.size : Int) then (if (bt a0 0) = 48 then (tammyref06_Number.j0 k a0 (decide ((a0.size : Int) > 1))) else (tammyref06_Number.j0 k a0 false)) else (none)))
theorem tammyref06_Number.mono_l : ∀ k, (∀ y0 y1, LeO (tammyref06_Number.j0 k y0 y1) (tammyref06_Number.j0 (k + 1) y0 y1)) ∧ (∀ y0 y1 y2, LeO (tammyref06_Number.l0 k y0 y1 y2) (tammyref06_Number.l0 (k + 1) y0 y1 y2))
  | 0 => ⟨fun _ _ r h => by simp [tammyref06_Number.j0] at h, fun _ _ _ r h => by simp [tammyref06_Number.l0] at h⟩
  | k + 1 => by
    obtain ⟨ih0, ih1⟩ := tammyref06_Number.mono_l k
    refine ⟨?_, ?_⟩
    · intro y0 y1
      unfold tammyref06_Number.j0
      repeat' first
      | (with_reducible exact ih0 _ _)
      | (with_reducible exact ih1 _ _ _)
      | (with_reducible exact LeO.refl _)
      | (with_reducible exact LeO.none _)
      | (with_reducible refine LeO.ite ?_ ?_)
      | (with_reducible refine LeO.bind ?_ (fun _ => ?_))
      | exact ih0 _ _
      | exact ih1 _ _ _
      | exact LeO.none _
      | refine LeO.ite ?_ ?_
      | refine LeO.bind ?_ (fun _ => ?_)
    · intro y0 y1 y2
      unfold tammyref06_Number.l0
      repeat' first
      | (with_reducible exact ih0 _ _)
      | (with_reducible exact ih1 _ _ _)
      | (with_reducible exact LeO.refl _)
      | (with_reducible exact LeO.none _)
      | (with_reducible refine LeO.ite ?_ ?_)
      | (with_reducible refine LeO.bind ?_ (fun _ => ?_))
      | exact ih0 _ _
      | exact ih1 _ _ _
      | exact LeO.none _
      | refine LeO.ite ?_ ?_
      | refine LeO.bind ?_ (fun _ => ?_)
theorem tammyref06_Number.mono : ∀ a0 k, LeO (tammyref06_Number.f k a0) (tammyref06_Number.f (k + 1) a0) := by
  intro a0 k
  obtain ⟨ih0, ih1⟩ := tammyref06_Number.mono_l k
  unfold tammyref06_Number.f
  repeat' first
      | (with_reducible exact ih0 _ _)
      | (with_reducible exact ih1 _ _ _)
      | (with_reducible exact LeO.refl _)
      | (with_reducible exact LeO.none _)
      | (with_reducible refine LeO.ite ?_ ?_)
      | (with_reducible refine LeO.bind ?_ (fun _ => ?_))
      | exact ih0 _ _
      | exact ih1 _ _ _
      | exact LeO.none _
      | refine LeO.ite ?_ ?_
      | refine LeO.bind ?_ (fun _ => ?_)
set_option maxHeartbeats 8000000 in
set_option maxRecDepth 100000 in
theorem tammyref06_Number.calls (k : Nat) (a0 : ByteArray) (r1 : Int) (r2 : Bool) (w : World) (h : tammyref06_Number.f k a0 = some (r1, r2)) :
    Calls Tryd.prog 17 #[.string a0] w fun e w' => e = .returned (.tuple #[.int .i64 r1, .bool r2]) ∧ Drawn0 w w' := by
  have H : (if (a0.size : Int) = 0 then (tammyref06_Number.j0 k a0 true) else (if (a0.size : Int) > 9 then (tammyref06_Number.j0 k a0 true) else (if 0 < (a0.size : Int) then (if (bt a0 0) = 48 then (tammyref06_Number.j0 k a0 (decide ((a0.size : Int) > 1))) else (tammyref06_Number.j0 k a0 false)) else (none)))) = some (r1, r2) := h
  clear h
  have HC2 := Aside0.mk H
  clear H
  go_enter Tryd.func17, Tryd.ntmps17
  go_upto_region 1 with (fail)
  go_cut [23] (fun v23 wc => ∃ (kq : Nat) (x23_1 : Bool), v23 = .bool x23_1 ∧ Aside0 (tammyref06_Number.j0 kq a0 x23_1 = some (r1, r2)) ∧ Aside0 (kq ≤ k) ∧ Drawn0 w wc)
  case first =>
    have H := HC2.out
    clear HC2
    by_cases c3 : (a0.size : Int) = 0
    · rw [if_pos c3] at H
      have c3b0 : ((a0.size : Int) == 0) = true := beq_iff_eq.mpr c3
      have c3b1 : ((a0.size : Int) != 0) = false := bne_eq_false_iff_eq.mpr c3
      clear c3
      (first | rw [c3b0] | (simp only [i64_w, i32_w]; rw [c3b0]) | skip)
      have H' := Aside0.mk H
      clear H
      go_wp2
      go_meet
      case rel => exact ⟨_, (true), (by first | rfl | (simp; done) | (simp [*]; done)), H', ⟨by first | omega | exact Nat.le_refl _⟩, by repeat (first | exact Drawn0.refl _ | apply Drawn0.step)⟩
    · rw [if_neg c3] at H
      have c3b0 : ((a0.size : Int) == 0) = false := beq_eq_false_iff_ne.mpr c3
      have c3b1 : ((a0.size : Int) != 0) = true := bne_iff_ne.mpr c3
      (first | rw [c3b0] | (simp only [i64_w, i32_w]; rw [c3b0]) | skip)
      by_cases c4 : (a0.size : Int) > 9
      · rw [if_pos c4] at H
        have c4b0 : decide (9 < (a0.size : Int)) = true := decide_eq_true c4
        have c4b1 : decide (9 < a0.size) = true := decide_eq_true (by omega)
        clear c4
        have H' := Aside0.mk H
        clear H
        go_wp2
        go_meet
        case rel => exact ⟨_, (true), (by first | rfl | (simp; done) | (simp [*]; done)), H', ⟨by first | omega | exact Nat.le_refl _⟩, by repeat (first | exact Drawn0.refl _ | apply Drawn0.step)⟩
      · rw [if_neg c4] at H
        have c4b0 : decide (9 < (a0.size : Int)) = false := decide_eq_false c4
        have c4b1 : decide (9 < a0.size) = false := decide_eq_false (by omega)
        clear c4
        by_cases c5 : 0 < (a0.size : Int)
        · rw [if_pos c5] at H
          have c5b0 : decide (0 < (a0.size : Int)) = true := decide_eq_true c5
          have c5b1 : decide (0 < a0.size) = true := decide_eq_true (by omega)
          clear c5
          by_cases c7 : (bt a0 0) = 48
          · rw [if_pos c7] at H
            have c7b0 : ((bt a0 0) == 48) = true := beq_iff_eq.mpr c7
            have c7b1 : ((bt a0 0) != 48) = false := bne_eq_false_iff_eq.mpr c7
            clear c7
            have H' := Aside0.mk H
            clear H
            have p6 : 0 ≤ (0 : Int) := (by omega)
            have q6 : 0 < a0.size := (by have : (0 : Int) < (a0.size : Int) := of_decide_eq_true (by first | (with_reducible assumption) | assumption); omega)
            have hx6 : ∀ h : 0 < a0.size, ((a0[0]'h).toNat : Int) = bt a0 0 := bt_at a0 0
            clear p6
            have qi6 : (0 < (a0.size : Int)) = True := eq_true (of_decide_eq_true (by first | (with_reducible assumption) | assumption))
            replace q6 := eq_true q6
            go_wp2
            go_meet
            case rel => exact ⟨_, (decide ((a0.size : Int) > 1)), (by first | rfl | (simp; done) | (simp [*]; done)), H', ⟨by first | omega | exact Nat.le_refl _⟩, by repeat (first | exact Drawn0.refl _ | apply Drawn0.step)⟩
          · rw [if_neg c7] at H
            have c7b0 : ((bt a0 0) == 48) = false := beq_eq_false_iff_ne.mpr c7
            have c7b1 : ((bt a0 0) != 48) = true := bne_iff_ne.mpr c7
            have H' := Aside0.mk H
            clear H
            have p6 : 0 ≤ (0 : Int) := (by omega)
            have q6 : 0 < a0.size := (by have : (0 : Int) < (a0.size : Int) := of_decide_eq_true (by first | (with_reducible assumption) | assumption); omega)
            have hx6 : ∀ h : 0 < a0.size, ((a0[0]'h).toNat : Int) = bt a0 0 := bt_at a0 0
            clear p6
            have qi6 : (0 < (a0.size : Int)) = True := eq_true (of_decide_eq_true (by first | (with_reducible assumption) | assumption))
            replace q6 := eq_true q6
            go_wp2
            go_meet
            case rel => exact ⟨_, (false), (by first | rfl | (simp; done) | (simp [*]; done)), H', ⟨by first | omega | exact Nat.le_refl _⟩, by repeat (first | exact Drawn0.refl _ | apply Drawn0.step)⟩
        · rw [if_neg c5] at H
          exact absurd H (by simp)
  case rest =>
    clear HC2
    try clear c1
    try clear p2
    try clear c3
    try clear c3b0
    try clear c3b1
    try clear c4
    try clear c4b0
    try clear c4b1
    try clear c5
    try clear c5b0
    try clear c5b1
    try clear p6
    try clear q6
    try clear hx6
    try clear qi6
    try clear c7
    try clear c7b0
    try clear c7b1
    try clear p6
    try clear q6
    obtain ⟨kq, x23_1, rfl, HA, HJ1, ⟨mc1, rfl⟩⟩ := hcut
    cases kq with
    | zero => exact absurd HA.out (by simp [tammyref06_Number.j0])
    | succ kj1 =>
      have H := HA.out
      clear HA
      simp only [tammyref06_Number.j0] at H
      by_cases c8 : x23_1 = true
      · subst c8
        have H1 : (some (0, false)) = some (r1, r2) := by rw [if_pos rfl] at H; exact H
        clear H
        have H := H1
        clear H1
        simp only [Option.some.injEq, Prod.mk.injEq] at H
        obtain ⟨rfl, rfl⟩ := H
        go_wp2
        go_ret2
        exact ⟨by first | rfl | (simp; done) | (simp [*]; done), by repeat (first | exact Drawn0.refl _ | apply Drawn0.step)⟩
      · replace c8 := Bool.eq_false_iff.mpr c8
        subst c8
        have H1 : (tammyref06_Number.l0 kj1 a0 0 0) = some (r1, r2) := by rw [if_neg (show ¬ (false = true) by decide)] at H; exact H
        clear H
        have H := H1
        clear H1
        have H' := Aside0.mk H
        clear H
        go_wp2
        go_loopg [4, 5] kj1 (fun kq v4 v5 w' => ∃ (x4_2 : Int) (x5_2 : Int), v4 = .int .i64 x4_2 ∧ v5 = .int .i64 x5_2 ∧ Aside0 (tammyref06_Number.l0 kq a0 x4_2 x5_2 = some (r1, r2)) ∧ Aside0 (kq ≤ kj1) ∧ Drawn0 w w')
        case atStart => exact ⟨(0), (0), (by first | rfl | (simp; done) | (simp [*]; done)), (by first | rfl | (simp; done) | (simp [*]; done)), H', ⟨Nat.le_refl _⟩, by repeat (first | exact Drawn0.refl _ | apply Drawn0.step)⟩
        case round =>
          clear H'
          try clear c1
          try clear p2
          try clear c3
          try clear c3b0
          try clear c3b1
          try clear c4
          try clear c4b0
          try clear c4b1
          try clear c5
          try clear c5b0
          try clear c5b1
          try clear p6
          try clear q6
          try clear hx6
          try clear qi6
          try clear c7
          try clear c7b0
          try clear c7b1
          try clear c8
          try clear p2
          try clear p6
          try clear q6
          obtain ⟨x4_2, x5_2, rfl, rfl, HA, HK2, ⟨m2, rfl⟩⟩ := hrel
          cases gk with
          | zero => exact absurd HA.out (by simp [tammyref06_Number.l0])
          | succ k2 =>
            have H := HA.out
            clear HA
            simp only [tammyref06_Number.l0] at H
            by_cases c9 : x5_2 < (a0.size : Int)
            · rw [if_pos c9] at H
              have c9b0 : decide (x5_2 < (a0.size : Int)) = true := decide_eq_true c9
              clear c9
              by_cases c10 : 0 ≤ x5_2
              · rw [if_pos c10] at H
                have c10b0 : decide (0 ≤ x5_2) = true := decide_eq_true c10
                clear c10
                by_cases c12 : (bt a0 x5_2) < 48
                · rw [if_pos c12] at H
                  have c12b0 : decide ((bt a0 x5_2) < 48) = true := decide_eq_true c12
                  clear c12
                  simp only [Option.some.injEq, Prod.mk.injEq] at H
                  obtain ⟨rfl, rfl⟩ := H
                  have p11 : 0 ≤ (x5_2 : Int) := of_decide_eq_true (by first | (with_reducible assumption) | assumption)
                  have q11 : x5_2 < (a0.size : Int) := of_decide_eq_true (by first | (with_reducible assumption) | assumption)
                  have hx11 := bt_at a0 x5_2
                  replace p11 := eq_true p11
                  replace q11 := eq_true q11
                  go_wp2
                  go_ret2
                  exact ⟨by first | rfl | (simp; done) | (simp [*]; done), by repeat (first | exact Drawn0.refl _ | apply Drawn0.step)⟩
                · rw [if_neg c12] at H
                  have c12b0 : decide ((bt a0 x5_2) < 48) = false := decide_eq_false c12
                  clear c12
                  by_cases c14 : (bt a0 x5_2) > 57
                  · rw [if_pos c14] at H
                    have c14b0 : decide (57 < (bt a0 x5_2)) = true := decide_eq_true c14
                    clear c14
                    simp only [Option.some.injEq, Prod.mk.injEq] at H
                    obtain ⟨rfl, rfl⟩ := H
                    have p11 : 0 ≤ (x5_2 : Int) := of_decide_eq_true (by first | (with_reducible assumption) | assumption)
                    have q11 : x5_2 < (a0.size : Int) := of_decide_eq_true (by first | (with_reducible assumption) | assumption)
                    have hx11 := bt_at a0 x5_2
                    replace p11 := eq_true p11
                    replace q11 := eq_true q11
                    have p13 : 0 ≤ (x5_2 : Int) := of_decide_eq_true (by first | (with_reducible assumption) | assumption)
                    have q13 : x5_2 < (a0.size : Int) := of_decide_eq_true (by first | (with_reducible assumption) | assumption)
                    have hx13 := bt_at a0 x5_2
                    replace p13 := eq_true p13
                    replace q13 := eq_true q13
                    go_wp2
                    go_ret2
                    exact ⟨by first | rfl | (simp; done) | (simp [*]; done), by repeat (first | exact Drawn0.refl _ | apply Drawn0.step)⟩
                  · rw [if_neg c14] at H
                    have c14b0 : decide (57 < (bt a0 x5_2)) = false := decide_eq_false c14
                    clear c14
                    have H' := Aside0.mk H
                    clear H
                    have p11 : 0 ≤ (x5_2 : Int) := of_decide_eq_true (by first | (with_reducible assumption) | assumption)
                    have q11 : x5_2 < (a0.size : Int) := of_decide_eq_true (by first | (with_reducible assumption) | assumption)
                    have hx11 := bt_at a0 x5_2
                    replace p11 := eq_true p11
                    replace q11 := eq_true q11
                    have p13 : 0 ≤ (x5_2 : Int) := of_decide_eq_true (by first | (with_reducible assumption) | assumption)
                    have q13 : x5_2 < (a0.size : Int) := of_decide_eq_true (by first | (with_reducible assumption) | assumption)
                    have hx13 := bt_at a0 x5_2
                    replace p13 := eq_true p13
                    replace q13 := eq_true q13
                    have p15 : 0 ≤ (x5_2 : Int) := of_decide_eq_true (by first | (with_reducible assumption) | assumption)
                    have q15 : x5_2 < (a0.size : Int) := of_decide_eq_true (by first | (with_reducible assumption) | assumption)
                    have hx15 := bt_at a0 x5_2
                    replace p15 := eq_true p15
                    replace q15 := eq_true q15
                    go_wp2
                    go_roundg k2
                    case measure => have := HJ1.out; have := HK2.out; omega
                    case rel => exact ⟨(wrap64 ((wrap64 (x4_2 * 10)) + (((bt a0 x5_2) - 48) % 256))), (wrap64 (x5_2 + 1)), (by first | rfl | (simp; done) | (simp [*]; done)), (by first | rfl | (simp; done) | (simp [*]; done)), H', ⟨by have := HJ1.out; have := HK2.out; omega⟩, by repeat (first | exact Drawn0.refl _ | apply Drawn0.step)⟩
              · rw [if_neg c10] at H
                exact absurd H (by simp)
            · rw [if_neg c9] at H
              have c9b0 : decide (x5_2 < (a0.size : Int)) = false := decide_eq_false c9
              clear c9
              simp only [Option.some.injEq, Prod.mk.injEq] at H
              obtain ⟨rfl, rfl⟩ := H
              go_wp2
              go_ret2
              exact ⟨by first | rfl | (simp; done) | (simp [*]; done), by repeat (first | exact Drawn0.refl _ | apply Drawn0.step)⟩

/-! ### tammyref06_letter: function 29 -/
def tammyref06_letter.f (a0 : Int) : Option (Bool) := if a0 ≥ 97 then (if a0 ≤ 122 then (some true) else (if a0 ≥ 65 then (some (decide (a0 ≤ 90))) else (some false))) else (if a0 ≥ 65 then (some (decide (a0 ≤ 90))) else (some false))
set_option maxHeartbeats 8000000 in
set_option maxRecDepth 100000 in
theorem tammyref06_letter.calls (a0 : Int) (r : Bool) (w : World) (h : tammyref06_letter.f a0 = some r) :
    Calls Tryd.prog 29 #[.int .u8 a0] w fun e w' => e = .returned (.bool r) ∧ Drawn0 w w' := by
  have H : (if a0 ≥ 97 then (if a0 ≤ 122 then (some true) else (if a0 ≥ 65 then (some (decide (a0 ≤ 90))) else (some false))) else (if a0 ≥ 65 then (some (decide (a0 ≤ 90))) else (some false))) = some r := h
  clear h
  by_cases c2 : a0 ≥ 97
  · rw [if_pos c2] at H
    have c2b0 : decide (97 ≤ a0) = true := decide_eq_true c2
    clear c2
    by_cases c3 : a0 ≤ 122
    · rw [if_pos c3] at H
      have c3b0 : decide (a0 ≤ 122) = true := decide_eq_true c3
      clear c3
      obtain rfl := Option.some.inj H
      go_enter Tryd.func29, Tryd.ntmps29
      go_wp2
      go_ret
      exact ⟨by first | rfl | (simp; done) | (simp [*]; done), by repeat (first | exact Drawn0.refl _ | apply Drawn0.step)⟩
    · rw [if_neg c3] at H
      have c3b0 : decide (a0 ≤ 122) = false := decide_eq_false c3
      clear c3
      by_cases c4 : a0 ≥ 65
      · rw [if_pos c4] at H
        have c4b0 : decide (65 ≤ a0) = true := decide_eq_true c4
        clear c4
        obtain rfl := Option.some.inj H
        go_enter Tryd.func29, Tryd.ntmps29
        go_wp2
        go_ret
        exact ⟨by first | rfl | (simp; done) | (simp [*]; done), by repeat (first | exact Drawn0.refl _ | apply Drawn0.step)⟩
      · rw [if_neg c4] at H
        have c4b0 : decide (65 ≤ a0) = false := decide_eq_false c4
        clear c4
        obtain rfl := Option.some.inj H
        go_enter Tryd.func29, Tryd.ntmps29
        go_wp2
        go_ret
        exact ⟨by first | rfl | (simp; done) | (simp [*]; done), by repeat (first | exact Drawn0.refl _ | apply Drawn0.step)⟩
  · rw [if_neg c2] at H
    have c2b0 : decide (97 ≤ a0) = false := decide_eq_false c2
    clear c2
    by_cases c5 : a0 ≥ 65
    · rw [if_pos c5] at H
      have c5b0 : decide (65 ≤ a0) = true := decide_eq_true c5
      clear c5
      obtain rfl := Option.some.inj H
      go_enter Tryd.func29, Tryd.ntmps29
      go_wp2
      go_ret
      exact ⟨by first | rfl | (simp; done) | (simp [*]; done), by repeat (first | exact Drawn0.refl _ | apply Drawn0.step)⟩
    · rw [if_neg c5] at H
      have c5b0 : decide (65 ≤ a0) = false := decide_eq_false c5
      clear c5
      obtain rfl := Option.some.inj H
      go_enter Tryd.func29, Tryd.ntmps29
      go_wp2
      go_ret
      exact ⟨by first | rfl | (simp; done) | (simp [*]; done), by repeat (first | exact Drawn0.refl _ | apply Drawn0.step)⟩

end Go.Proofs.YtfjhnljidfdhjaaDoor.Q
