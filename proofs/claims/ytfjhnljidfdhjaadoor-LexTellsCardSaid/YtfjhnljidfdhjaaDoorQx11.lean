-- Written by a program of the prover's (a print of the translation, with contracts of its own); nothing in it is trusted: Lean checks it.
import Derived.Test.YtfjhnljidfdhjaaDoorQx0
import Derived.Test.YtfjhnljidfdhjaaDoorQx3
namespace Go.Proofs.YtfjhnljidfdhjaaDoor.Q
open Go.RowKit Go.Proofs.YtfjhnljidfdhjaaDoorW.PrintWords Go.Proofs.YtfjhnljidfdhjaaDoorW.PrintLast Go.Proofs.YtfjhnljidfdhjaaDoorW.PrintMore
attribute [local go_sem] max2_int min2_int max_two min_two max_three min_three max_four min_four   -- for this text's walks alone
set_option linter.unusedVariables false
set_option linter.unusedSimpArgs false

/-! ### tammylaw06_LexBlanks: function 8 -/
mutual
def tammylaw06_LexBlanks.l0 : Nat → ByteArray → Int → Bool → ByteArray → Int → Option (Bool)
  | 0, _, _, _, _, _ => none
  | k + 1, x0, x1, x5, x6, x7 => if x7 < (wrap64 (Int.tmod x1 9)) then (if 0 ≤ (Int.tmod x7 3) then (if (Int.tmod x7 3) < 3 then ((some (([bt (⟨#[32, 9, 10]⟩ : ByteArray) (Int.tmod x7 3)] : List Int) : List Int)).bind fun y235 => (if x6.size + (strOfNums y235).size ≤ 9223372036854775807 then (tammylaw06_LexBlanks.l0 k x0 x1 x5 (x6 ++ (strOfNums y235)) (wrap64 (x7 + 1))) else (none))) else (none)) else (none)) else ((lex_Toks.f k x0).bind fun bt238 => (if x6.size + x0.size ≤ 9223372036854775807 then (if (x6 ++ x0).size + x6.size ≤ 9223372036854775807 then ((lex_Toks.f k ((x6 ++ x0) ++ x6)).bind fun bt243 => ((lex_Toks.f k x6).bind fun bt248 => (if bt238.2.2 = bt243.2.2 then (if (bt238.1.length : Int) = (bt243.1.length : Int) then (if bt248.2.2 = 0 then (if (bt248.1.length : Int) = 0 then (if bt238.2.2 = 0 then (tammylaw06_LexBlanks.j1 k x5 x6 bt238.1 bt243.1 false) else (tammylaw06_LexBlanks.j1 k x5 x6 bt238.1 bt243.1 (bt243.2.1 != (wrap64 (bt238.2.1 + (x6.size : Int)))))) else (tammylaw06_LexBlanks.j1 k x5 x6 bt238.1 bt243.1 true)) else (tammylaw06_LexBlanks.j1 k x5 x6 bt238.1 bt243.1 true)) else (tammylaw06_LexBlanks.j1 k x5 x6 bt238.1 bt243.1 true)) else (tammylaw06_LexBlanks.j1 k x5 x6 bt238.1 bt243.1 true)))) else (none)) else (none)))
def tammylaw06_LexBlanks.j1 : Nat → Bool → ByteArray → List (S32) → List (S32) → Bool → Option (Bool)
  | 0, _, _, _, _, _ => none
  | k + 1, x5, x6, x8, x11, x89 => if x89 = true then (some false) else (tammylaw06_LexBlanks.l1 k x5 x6 x8 x11 0)
def tammylaw06_LexBlanks.l1 : Nat → Bool → ByteArray → List (S32) → List (S32) → Int → Option (Bool)
  | 0, _, _, _, _, _ => none
  | k + 1, x5, x6, x8, x11, x17 => if x17 < (x8.length : Int) then (if 0 ≤ x17 then (if x17 < (x11.length : Int) then (if ((rd_T32 x8 x17).f1).toList = ((rd_T32 x11 x17).f1).toList then (if ((rd_T32 x8 x17).f0) = ((rd_T32 x11 x17).f0) then (if ((rd_T32 x11 x17).f2) = (wrap64 (((rd_T32 x8 x17).f2) + (x6.size : Int))) then (tammylaw06_LexBlanks.l1 k x5 x6 x8 x11 (wrap64 (x17 + 1))) else (some false)) else (some false)) else (some false)) else (none)) else (none)) else (some x5)
end
def tammylaw06_LexBlanks.f (k : Nat) (a0 : ByteArray) (a1 : Int) : Option (Bool) := (tammylaw06_shown.f k).bind fun t234 => (if (a0.size : Int) > 500 then (some t234) else (tammylaw06_LexBlanks.l0 k a0 a1 t234 (⟨#[]⟩ : ByteArray) 0))
theorem tammylaw06_LexBlanks.mono_l : ∀ k, (∀ y0 y1 y2 y3 y4, LeO (tammylaw06_LexBlanks.l0 k y0 y1 y2 y3 y4) (tammylaw06_LexBlanks.l0 (k + 1) y0 y1 y2 y3 y4)) ∧ (∀ y0 y1 y2 y3 y4, LeO (tammylaw06_LexBlanks.j1 k y0 y1 y2 y3 y4) (tammylaw06_LexBlanks.j1 (k + 1) y0 y1 y2 y3 y4)) ∧ (∀ y0 y1 y2 y3 y4, LeO (tammylaw06_LexBlanks.l1 k y0 y1 y2 y3 y4) (tammylaw06_LexBlanks.l1 (k + 1) y0 y1 y2 y3 y4))
  | 0 => ⟨fun _ _ _ _ _ r h => by simp [tammylaw06_LexBlanks.l0] at h, fun _ _ _ _ _ r h => by simp [tammylaw06_LexBlanks.j1] at h, fun _ _ _ _ _ r h => by simp [tammylaw06_LexBlanks.l1] at h⟩
  | k + 1 => by
    obtain ⟨ih0, ih1, ih2⟩ := tammylaw06_LexBlanks.mono_l k
    refine ⟨?_, ?_, ?_⟩
    · intro y0 y1 y2 y3 y4
      unfold tammylaw06_LexBlanks.l0
      repeat' first
      | (with_reducible exact ih0 _ _ _ _ _)
      | (with_reducible exact ih1 _ _ _ _ _)
      | (with_reducible exact ih2 _ _ _ _ _)
      | (with_reducible exact lex_Toks.mono _ _)
      | (with_reducible exact tammylaw06_shown.mono _)
      | (with_reducible exact LeO.refl _)
      | (with_reducible exact LeO.none _)
      | (with_reducible refine LeO.ite ?_ ?_)
      | (with_reducible refine LeO.bind ?_ (fun _ => ?_))
      | exact ih0 _ _ _ _ _
      | exact ih1 _ _ _ _ _
      | exact ih2 _ _ _ _ _
      | exact lex_Toks.mono _ _
      | exact tammylaw06_shown.mono _
      | exact LeO.none _
      | refine LeO.ite ?_ ?_
      | refine LeO.bind ?_ (fun _ => ?_)
    · intro y0 y1 y2 y3 y4
      unfold tammylaw06_LexBlanks.j1
      repeat' first
      | (with_reducible exact ih0 _ _ _ _ _)
      | (with_reducible exact ih1 _ _ _ _ _)
      | (with_reducible exact ih2 _ _ _ _ _)
      | (with_reducible exact lex_Toks.mono _ _)
      | (with_reducible exact tammylaw06_shown.mono _)
      | (with_reducible exact LeO.refl _)
      | (with_reducible exact LeO.none _)
      | (with_reducible refine LeO.ite ?_ ?_)
      | (with_reducible refine LeO.bind ?_ (fun _ => ?_))
      | exact ih0 _ _ _ _ _
      | exact ih1 _ _ _ _ _
      | exact ih2 _ _ _ _ _
      | exact lex_Toks.mono _ _
      | exact tammylaw06_shown.mono _
      | exact LeO.none _
      | refine LeO.ite ?_ ?_
      | refine LeO.bind ?_ (fun _ => ?_)
    · intro y0 y1 y2 y3 y4
      unfold tammylaw06_LexBlanks.l1
      repeat' first
      | (with_reducible exact ih0 _ _ _ _ _)
      | (with_reducible exact ih1 _ _ _ _ _)
      | (with_reducible exact ih2 _ _ _ _ _)
      | (with_reducible exact lex_Toks.mono _ _)
      | (with_reducible exact tammylaw06_shown.mono _)
      | (with_reducible exact LeO.refl _)
      | (with_reducible exact LeO.none _)
      | (with_reducible refine LeO.ite ?_ ?_)
      | (with_reducible refine LeO.bind ?_ (fun _ => ?_))
      | exact ih0 _ _ _ _ _
      | exact ih1 _ _ _ _ _
      | exact ih2 _ _ _ _ _
      | exact lex_Toks.mono _ _
      | exact tammylaw06_shown.mono _
      | exact LeO.none _
      | refine LeO.ite ?_ ?_
      | refine LeO.bind ?_ (fun _ => ?_)
theorem tammylaw06_LexBlanks.mono : ∀ a0 a1 k, LeO (tammylaw06_LexBlanks.f k a0 a1) (tammylaw06_LexBlanks.f (k + 1) a0 a1) := by
  intro a0 a1 k
  obtain ⟨ih0, ih1, ih2⟩ := tammylaw06_LexBlanks.mono_l k
  unfold tammylaw06_LexBlanks.f
  repeat' first
      | (with_reducible exact ih0 _ _ _ _ _)
      | (with_reducible exact ih1 _ _ _ _ _)
      | (with_reducible exact ih2 _ _ _ _ _)
      | (with_reducible exact lex_Toks.mono _ _)
      | (with_reducible exact tammylaw06_shown.mono _)
      | (with_reducible exact LeO.refl _)
      | (with_reducible exact LeO.none _)
      | (with_reducible refine LeO.ite ?_ ?_)
      | (with_reducible refine LeO.bind ?_ (fun _ => ?_))
      | exact ih0 _ _ _ _ _
      | exact ih1 _ _ _ _ _
      | exact ih2 _ _ _ _ _
      | exact lex_Toks.mono _ _
      | exact tammylaw06_shown.mono _
      | exact LeO.none _
      | refine LeO.ite ?_ ?_
      | refine LeO.bind ?_ (fun _ => ?_)
set_option maxHeartbeats 8000000 in
set_option maxRecDepth 100000 in
theorem tammylaw06_LexBlanks.calls (k : Nat) (a0 : ByteArray) (a1 : Int) (r : Bool) (w : World) (h : tammylaw06_LexBlanks.f k a0 a1 = some r) :
    Calls Tryd.prog 8 #[.string a0, .int .u8 a1] w fun e w' => e = .returned (.bool r) ∧ Below w.heap.size w w' := by
  have HB := Aside0.mk (Below.refl w.heap.size w)
  have H : ((tammylaw06_shown.f k).bind fun t234 => (if (a0.size : Int) > 500 then (some t234) else (tammylaw06_LexBlanks.l0 k a0 a1 t234 (⟨#[]⟩ : ByteArray) 0))) = some r := h
  clear h
  replace H := Option.bind_eq_some_iff.mp H
  obtain ⟨t234, A30, H⟩ := H
  replace H : (if (a0.size : Int) > 500 then (some t234) else (tammylaw06_LexBlanks.l0 k a0 a1 t234 (⟨#[]⟩ : ByteArray) 0)) = some r := H
  have A3 := Aside0.mk A30
  clear A30
  by_cases c4 : (a0.size : Int) > 500
  · rw [if_pos c4] at H
    have c4b0 : decide (500 < (a0.size : Int)) = true := decide_eq_true c4
    have c4b1 : decide (500 < a0.size) = true := decide_eq_true (by omega)
    clear c4
    obtain rfl := Option.some.inj H
    go_enter Tryd.func8, Tryd.ntmps8
    go_wp2_with (first | (go_at_call 10; (with_reducible refine (tammylaw06_shown.calls k  t234 _ A3.out).mono ?_); rintro e w5 ⟨rfl, hb⟩; have n0_ := Aside0.mk (below_step (by repeat (first | (with_reducible first | exact HB.out | apply below_alloc | apply pw_below_drewN | apply below_drew1) | exact HB.out)) hb); clear HB; have HB := n0_; clear n0_; (try clear hb); (try clear hb2); (try clear hk); (try clear hi)))
    repeat (go_quiet (first | (go_at_call 10; (with_reducible refine (tammylaw06_shown.calls k  t234 _ A3.out).mono ?_); rintro e w5 ⟨rfl, hb⟩; have n0_ := Aside0.mk (below_step (by repeat (first | (with_reducible first | exact HB.out | apply below_alloc | apply pw_below_drewN | apply below_drew1) | exact HB.out)) hb); clear HB; have HB := n0_; clear n0_; (try clear hb); (try clear hb2); (try clear hk); (try clear hi))); try go_wp2_with (first | (go_at_call 10; (with_reducible refine (tammylaw06_shown.calls k  t234 _ A3.out).mono ?_); rintro e w5 ⟨rfl, hb⟩; have n0_ := Aside0.mk (below_step (by repeat (first | (with_reducible first | exact HB.out | apply below_alloc | apply pw_below_drewN | apply below_drew1) | exact HB.out)) hb); clear HB; have HB := n0_; clear n0_; (try clear hb); (try clear hb2); (try clear hk); (try clear hi))))
    go_ret
    exact ⟨by first | rfl | (simp [errW_none, errW_some] <;> rfl) | (simp [*, errW_none, errW_some] <;> rfl), by repeat (first | (with_reducible first | exact HB.out | apply below_alloc | apply pw_below_drewN | apply below_drew1) | exact HB.out)⟩
  · rw [if_neg c4] at H
    have c4b0 : decide (500 < (a0.size : Int)) = false := decide_eq_false c4
    have c4b1 : decide (500 < a0.size) = false := decide_eq_false (by omega)
    clear c4
    have H' := Aside0.mk H
    clear H
    go_enter Tryd.func8, Tryd.ntmps8
    go_wp2_with (first | (go_at_call 10; (with_reducible refine (tammylaw06_shown.calls k  t234 _ A3.out).mono ?_); rintro e w6 ⟨rfl, hb⟩; have n0_ := Aside0.mk (below_step (by repeat (first | (with_reducible first | exact HB.out | apply below_alloc | apply pw_below_drewN | apply below_drew1) | exact HB.out)) hb); clear HB; have HB := n0_; clear n0_; (try clear hb); (try clear hb2); (try clear hk); (try clear hi)))
    repeat (go_quiet (first | (go_at_call 10; (with_reducible refine (tammylaw06_shown.calls k  t234 _ A3.out).mono ?_); rintro e w6 ⟨rfl, hb⟩; have n0_ := Aside0.mk (below_step (by repeat (first | (with_reducible first | exact HB.out | apply below_alloc | apply pw_below_drewN | apply below_drew1) | exact HB.out)) hb); clear HB; have HB := n0_; clear n0_; (try clear hb); (try clear hb2); (try clear hk); (try clear hi))); try go_wp2_with (first | (go_at_call 10; (with_reducible refine (tammylaw06_shown.calls k  t234 _ A3.out).mono ?_); rintro e w6 ⟨rfl, hb⟩; have n0_ := Aside0.mk (below_step (by repeat (first | (with_reducible first | exact HB.out | apply below_alloc | apply pw_below_drewN | apply below_drew1) | exact HB.out)) hb); clear HB; have HB := n0_; clear n0_; (try clear hb); (try clear hb2); (try clear hk); (try clear hi))))
    go_loopg [6, 7] k (fun kq v6 v7 w' => ∃ (x6_1 : ByteArray) (x7_1 : Int), v6 = .string x6_1 ∧ v7 = .int .i64 x7_1 ∧ Aside0 (tammylaw06_LexBlanks.l0 kq a0 a1 t234 x6_1 x7_1 = some r) ∧ Aside0 (kq ≤ k) ∧ Aside0 (Below w.heap.size w w'))
    case atStart => exact ⟨((⟨#[]⟩ : ByteArray)), (0), (by first | rfl | (simp; done) | (simp [*]; done)), (by first | rfl | (simp; done) | (simp [*]; done)), H', ⟨Nat.le_refl _⟩, ⟨by repeat (first | (with_reducible first | exact HB.out | apply below_alloc | apply pw_below_drewN | apply below_drew1) | exact HB.out)⟩⟩
    case round =>
      clear H'
      try clear p2
      try clear c4
      try clear c4b0
      try clear c4b1
      obtain ⟨x6_1, x7_1, rfl, rfl, HA, HK1, HB⟩ := hrel
      cases gk with
      | zero => exact absurd HA.out (by simp [tammylaw06_LexBlanks.l0])
      | succ k1 =>
        have H := HA.out
        clear HA
        simp only [tammylaw06_LexBlanks.l0] at H
        by_cases c7 : x7_1 < (wrap64 (Int.tmod a1 9))
        · rw [if_pos c7] at H
          have c7b0 : decide (x7_1 < (wrap64 (Int.tmod a1 9))) = true := decide_eq_true c7
          clear c7
          obtain ⟨ji8, hji8⟩ : ∃ j_ : Int, (Int.tmod x7_1 3) = j_ := ⟨_, rfl⟩
          replace H : (if 0 ≤ (ji8) then (if (ji8) < 3 then ((some (([bt (⟨#[32, 9, 10]⟩ : ByteArray) (ji8)] : List Int) : List Int)).bind fun y235 => (if x6_1.size + (strOfNums y235).size ≤ 9223372036854775807 then (tammylaw06_LexBlanks.l0 k1 a0 a1 t234 (x6_1 ++ (strOfNums y235)) (wrap64 (x7_1 + 1))) else (none))) else (none)) else (none)) = some r := by first | (rw [hji8] at H; exact H) | (simp only [hji8] at H ⊢; exact H)
          by_cases c9 : 0 ≤ (ji8)
          · rw [if_pos c9] at H
            have c9b0 : decide (0 ≤ (ji8)) = true := decide_eq_true c9
            clear c9
            by_cases c10 : (ji8) < 3
            · rw [if_pos c10] at H
              have c10b0 : decide ((ji8) < 3) = true := decide_eq_true c10
              clear c10
              obtain ⟨y235, hy235⟩ : ∃ y_ : List Int, y_ = (([bt (⟨#[32, 9, 10]⟩ : ByteArray) (ji8)] : List Int)) := ⟨_, rfl⟩
              replace H : (if x6_1.size + (strOfNums y235).size ≤ 9223372036854775807 then (tammylaw06_LexBlanks.l0 k1 a0 a1 t234 (x6_1 ++ (strOfNums y235)) (wrap64 (x7_1 + 1))) else (none)) = some r := by first | (rw [hy235]; with_reducible exact H) | (have H2_ := (Option.bind_some _ _).symm.trans H; rw [hy235]; with_reducible exact H2_) | (have H2_ := (Option.bind_some _ _).symm.trans H; with_reducible exact H2_) | with_reducible exact H | (rw [hy235]; exact H) | exact H
              have Ny235 := Aside0.mk hy235
              clear hy235
              by_cases c12 : x6_1.size + (strOfNums y235).size ≤ 9223372036854775807
              · rw [if_pos c12] at H
                have c12b0 := eq_true c12
                have c12b1 : decide (x6_1.size + (strOfNums y235).size ≤ 9223372036854775807) = true := decide_eq_true c12
                try have c12b2 : (9223372036854775807 < x6_1.size + (strOfNums y235).size) = False := eq_false (Nat.not_lt.2 c12)
                have H' := Aside0.mk H
                clear H
                have p11 : 0 ≤ ((ji8) : Int) := of_decide_eq_true (by first | (with_reducible assumption) | assumption)
                have q11 : (ji8) < (3 : Int) := of_decide_eq_true (by first | (with_reducible assumption) | assumption)
                have hx11 := bt_at (⟨#[32, 9, 10]⟩ : ByteArray) (ji8)
                replace p11 := eq_true p11
                replace q11 := eq_true q11
                go_wp2_with (first | ((with_reducible refine gate_dst (N := 34) rfl ?_); (try (refine gate_guard (by rfl) ?_; dsimp only)); refine Kd.R_lit (Kd.int .u8) _ 5 ?hg (N := 34) ?hd (xs := ([bt (⟨#[32, 9, 10]⟩ : ByteArray) (ji8)] : List Int)) (inner := [.int .u8 (bt (⟨#[32, 9, 10]⟩ : ByteArray) (ji8))]) (ok := fun _ => True) (okp := fun _ => True) ?hr ?hp (fun _ hk => hk) trivial (Below.refl _ _) (Nat.le_refl _) (by simp) ?_; (case hd => rfl); (case hg => rfl); (case hr => first | (go_simp; done) | (go_simp; rfl)); (case hp => exact (Reps.one (show Kd.M (Kd.int .u8) _ _ _ (bt (⟨#[32, 9, 10]⟩ : ByteArray) (ji8)) [.int .u8 (bt (⟨#[32, 9, 10]⟩ : ByteArray) (ji8))] from rfl) (Reps.none _ _))); intro v236 w13 ho14 hb hg_ hnew_; clear hg_ hnew_; (first | rw [← Ny235.out] at ho14 | (simp only [Int.reduceToNat] at ho14; rw [← Ny235.out] at ho14)); have n0_ := Aside0.mk (Kd.R_lower ho14 (below_size (by repeat (first | (with_reducible first | exact HB.out | apply below_alloc | apply pw_below_drewN | apply below_drew1) | exact HB.out)))); have n1_ := Aside0.mk (below_step (by repeat (first | (with_reducible first | exact HB.out | apply below_alloc | apply pw_below_drewN | apply below_drew1) | exact HB.out)) hb); clear HB; have HO237 := n0_; have HB := n1_; clear n0_ n1_; clear hb ho14; have hcv15 := own_string (P := Tryd.prog) Tryd.underlying36 Tryd.underlying5 Tryd.underlying9 (Kd.own_of_R HO237.out)))
                repeat (go_quiet (first | ((with_reducible refine gate_dst (N := 34) rfl ?_); (try (refine gate_guard (by rfl) ?_; dsimp only)); refine Kd.R_lit (Kd.int .u8) _ 5 ?hg (N := 34) ?hd (xs := ([bt (⟨#[32, 9, 10]⟩ : ByteArray) (ji8)] : List Int)) (inner := [.int .u8 (bt (⟨#[32, 9, 10]⟩ : ByteArray) (ji8))]) (ok := fun _ => True) (okp := fun _ => True) ?hr ?hp (fun _ hk => hk) trivial (Below.refl _ _) (Nat.le_refl _) (by simp) ?_; (case hd => rfl); (case hg => rfl); (case hr => first | (go_simp; done) | (go_simp; rfl)); (case hp => exact (Reps.one (show Kd.M (Kd.int .u8) _ _ _ (bt (⟨#[32, 9, 10]⟩ : ByteArray) (ji8)) [.int .u8 (bt (⟨#[32, 9, 10]⟩ : ByteArray) (ji8))] from rfl) (Reps.none _ _))); intro v236 w13 ho14 hb hg_ hnew_; clear hg_ hnew_; (first | rw [← Ny235.out] at ho14 | (simp only [Int.reduceToNat] at ho14; rw [← Ny235.out] at ho14)); have n0_ := Aside0.mk (Kd.R_lower ho14 (below_size (by repeat (first | (with_reducible first | exact HB.out | apply below_alloc | apply pw_below_drewN | apply below_drew1) | exact HB.out)))); have n1_ := Aside0.mk (below_step (by repeat (first | (with_reducible first | exact HB.out | apply below_alloc | apply pw_below_drewN | apply below_drew1) | exact HB.out)) hb); clear HB; have HO237 := n0_; have HB := n1_; clear n0_ n1_; clear hb ho14; have hcv15 := own_string (P := Tryd.prog) Tryd.underlying36 Tryd.underlying5 Tryd.underlying9 (Kd.own_of_R HO237.out))); try go_wp2_with (first | ((with_reducible refine gate_dst (N := 34) rfl ?_); (try (refine gate_guard (by rfl) ?_; dsimp only)); refine Kd.R_lit (Kd.int .u8) _ 5 ?hg (N := 34) ?hd (xs := ([bt (⟨#[32, 9, 10]⟩ : ByteArray) (ji8)] : List Int)) (inner := [.int .u8 (bt (⟨#[32, 9, 10]⟩ : ByteArray) (ji8))]) (ok := fun _ => True) (okp := fun _ => True) ?hr ?hp (fun _ hk => hk) trivial (Below.refl _ _) (Nat.le_refl _) (by simp) ?_; (case hd => rfl); (case hg => rfl); (case hr => first | (go_simp; done) | (go_simp; rfl)); (case hp => exact (Reps.one (show Kd.M (Kd.int .u8) _ _ _ (bt (⟨#[32, 9, 10]⟩ : ByteArray) (ji8)) [.int .u8 (bt (⟨#[32, 9, 10]⟩ : ByteArray) (ji8))] from rfl) (Reps.none _ _))); intro v236 w13 ho14 hb hg_ hnew_; clear hg_ hnew_; (first | rw [← Ny235.out] at ho14 | (simp only [Int.reduceToNat] at ho14; rw [← Ny235.out] at ho14)); have n0_ := Aside0.mk (Kd.R_lower ho14 (below_size (by repeat (first | (with_reducible first | exact HB.out | apply below_alloc | apply pw_below_drewN | apply below_drew1) | exact HB.out)))); have n1_ := Aside0.mk (below_step (by repeat (first | (with_reducible first | exact HB.out | apply below_alloc | apply pw_below_drewN | apply below_drew1) | exact HB.out)) hb); clear HB; have HO237 := n0_; have HB := n1_; clear n0_ n1_; clear hb ho14; have hcv15 := own_string (P := Tryd.prog) Tryd.underlying36 Tryd.underlying5 Tryd.underlying9 (Kd.own_of_R HO237.out))))
                go_roundg k1
                case measure => have := HK1.out; omega
                case rel => exact ⟨(x6_1 ++ (strOfNums y235)), (wrap64 (x7_1 + 1)), (by first | rfl | (simp; done) | (simp [*]; done)), (by first | rfl | (simp; done) | (simp [*]; done)), H', ⟨by have := HK1.out; omega⟩, ⟨by repeat (first | (with_reducible first | exact HB.out | apply below_alloc | apply pw_below_drewN | apply below_drew1) | exact HB.out)⟩⟩
              · rw [if_neg c12] at H
                exact absurd H (by simp)
            · rw [if_neg c10] at H
              exact absurd H (by simp)
          · rw [if_neg c9] at H
            exact absurd H (by simp)
        · rw [if_neg c7] at H
          have c7b0 : decide (x7_1 < (wrap64 (Int.tmod a1 9))) = false := decide_eq_false c7
          clear c7
          replace H := Option.bind_eq_some_iff.mp H
          obtain ⟨⟨t238, t239, t240⟩, A160, H⟩ := H
          replace H : (if x6_1.size + a0.size ≤ 9223372036854775807 then (if (x6_1 ++ a0).size + x6_1.size ≤ 9223372036854775807 then ((lex_Toks.f k1 ((x6_1 ++ a0) ++ x6_1)).bind fun bt243 => ((lex_Toks.f k1 x6_1).bind fun bt248 => (if t240 = bt243.2.2 then (if (t238.length : Int) = (bt243.1.length : Int) then (if bt248.2.2 = 0 then (if (bt248.1.length : Int) = 0 then (if t240 = 0 then (tammylaw06_LexBlanks.j1 k1 t234 x6_1 t238 bt243.1 false) else (tammylaw06_LexBlanks.j1 k1 t234 x6_1 t238 bt243.1 (bt243.2.1 != (wrap64 (t239 + (x6_1.size : Int)))))) else (tammylaw06_LexBlanks.j1 k1 t234 x6_1 t238 bt243.1 true)) else (tammylaw06_LexBlanks.j1 k1 t234 x6_1 t238 bt243.1 true)) else (tammylaw06_LexBlanks.j1 k1 t234 x6_1 t238 bt243.1 true)) else (tammylaw06_LexBlanks.j1 k1 t234 x6_1 t238 bt243.1 true)))) else (none)) else (none)) = some r := H
          have A16 := Aside0.mk A160
          clear A160
          by_cases c17 : x6_1.size + a0.size ≤ 9223372036854775807
          · rw [if_pos c17] at H
            have c17b0 := eq_true c17
            have c17b1 : decide (x6_1.size + a0.size ≤ 9223372036854775807) = true := decide_eq_true c17
            try have c17b2 : (9223372036854775807 < x6_1.size + a0.size) = False := eq_false (Nat.not_lt.2 c17)
            by_cases c18 : (x6_1 ++ a0).size + x6_1.size ≤ 9223372036854775807
            · rw [if_pos c18] at H
              have c18b0 := eq_true c18
              have c18b1 : decide ((x6_1 ++ a0).size + x6_1.size ≤ 9223372036854775807) = true := decide_eq_true c18
              try have c18b2 : (9223372036854775807 < (x6_1 ++ a0).size + x6_1.size) = False := eq_false (Nat.not_lt.2 c18)
              replace H := Option.bind_eq_some_iff.mp H
              obtain ⟨⟨t243, t244, t245⟩, A190, H⟩ := H
              replace H : ((lex_Toks.f k1 x6_1).bind fun bt248 => (if t240 = t245 then (if (t238.length : Int) = (t243.length : Int) then (if bt248.2.2 = 0 then (if (bt248.1.length : Int) = 0 then (if t240 = 0 then (tammylaw06_LexBlanks.j1 k1 t234 x6_1 t238 t243 false) else (tammylaw06_LexBlanks.j1 k1 t234 x6_1 t238 t243 (t244 != (wrap64 (t239 + (x6_1.size : Int)))))) else (tammylaw06_LexBlanks.j1 k1 t234 x6_1 t238 t243 true)) else (tammylaw06_LexBlanks.j1 k1 t234 x6_1 t238 t243 true)) else (tammylaw06_LexBlanks.j1 k1 t234 x6_1 t238 t243 true)) else (tammylaw06_LexBlanks.j1 k1 t234 x6_1 t238 t243 true))) = some r := H
              have A19 := Aside0.mk A190
              clear A190
              replace H := Option.bind_eq_some_iff.mp H
              obtain ⟨⟨t248, t249, t250⟩, A200, H⟩ := H
              replace H : (if t240 = t245 then (if (t238.length : Int) = (t243.length : Int) then (if t250 = 0 then (if (t248.length : Int) = 0 then (if t240 = 0 then (tammylaw06_LexBlanks.j1 k1 t234 x6_1 t238 t243 false) else (tammylaw06_LexBlanks.j1 k1 t234 x6_1 t238 t243 (t244 != (wrap64 (t239 + (x6_1.size : Int)))))) else (tammylaw06_LexBlanks.j1 k1 t234 x6_1 t238 t243 true)) else (tammylaw06_LexBlanks.j1 k1 t234 x6_1 t238 t243 true)) else (tammylaw06_LexBlanks.j1 k1 t234 x6_1 t238 t243 true)) else (tammylaw06_LexBlanks.j1 k1 t234 x6_1 t238 t243 true)) = some r := H
              have A20 := Aside0.mk A200
              clear A200
              have HC21 := Aside0.mk H
              clear H
              go_upto_region 12 with (first | (go_at_call 11; (with_reducible refine (lex_Toks.calls k1 a0 t238 t239 t240 _ A16.out).mono ?_); rintro e w22 ⟨v241, rfl, ho0, hb⟩; have n0_ := Aside0.mk (Kd.R_lower ho0 (below_size (by repeat (first | (with_reducible first | exact HB.out | apply below_alloc | apply pw_below_drewN | apply below_drew1) | exact HB.out)))); have n1_ := Aside0.mk (below_step (by repeat (first | (with_reducible first | exact HB.out | apply below_alloc | apply pw_below_drewN | apply below_drew1) | exact HB.out)) hb); clear HB; have HO242 := n0_; have HB := n1_; clear n0_ n1_; (try clear hb); (try clear hb2); (try clear hk); (try clear hi); (try clear ho0)) | (go_at_call 11; (with_reducible refine (lex_Toks.calls k1 ((x6_1 ++ a0) ++ x6_1) t243 t244 t245 _ A19.out).mono ?_); rintro e w23 ⟨v246, rfl, ho0, hb⟩; have n0_ := Aside0.mk (Kd.R_elder' (by (with_reducible repeat (first | apply Kd.R_alloc | apply Kd.R_drewN | apply Kd.R_drew)); exact HO242.out) (Kd.R_base ho0) hb); have n1_ := Aside0.mk (Kd.R_lower (Kd.R_new' ho0 (Kd.R_lt (by (with_reducible repeat (first | apply Kd.R_alloc | apply Kd.R_drewN | apply Kd.R_drew)); exact HO242.out))) (below_size (by repeat (first | (with_reducible first | exact HB.out | apply below_alloc | apply pw_below_drewN | apply below_drew1) | exact HB.out)))); have n2_ := Aside0.mk (below_step (by repeat (first | (with_reducible first | exact HB.out | apply below_alloc | apply pw_below_drewN | apply below_drew1) | exact HB.out)) hb); clear HO242; clear HB; have HO242 := n0_; have HO247 := n1_; have HB := n2_; clear n0_ n1_ n2_; (try clear hb); (try clear hb2); (try clear hk); (try clear hi); (try clear ho0)) | (go_at_call 11; (with_reducible refine (lex_Toks.calls k1 x6_1 t248 t249 t250 _ A20.out).mono ?_); rintro e w24 ⟨v251, rfl, ho0, hb⟩; have n0_ := Aside0.mk (Kd.R_elder' (by (with_reducible repeat (first | apply Kd.R_alloc | apply Kd.R_drewN | apply Kd.R_drew)); exact HO242.out) (Kd.R_base ho0) hb); have n1_ := Aside0.mk (Kd.R_elder' (by (with_reducible repeat (first | apply Kd.R_alloc | apply Kd.R_drewN | apply Kd.R_drew)); exact HO247.out) (Kd.R_base ho0) hb); have n2_ := Aside0.mk (Kd.R_lower (Kd.R_new' (Kd.R_new' ho0 (Kd.R_lt (by (with_reducible repeat (first | apply Kd.R_alloc | apply Kd.R_drewN | apply Kd.R_drew)); exact HO242.out))) (Kd.R_lt (by (with_reducible repeat (first | apply Kd.R_alloc | apply Kd.R_drewN | apply Kd.R_drew)); exact HO247.out))) (below_size (by repeat (first | (with_reducible first | exact HB.out | apply below_alloc | apply pw_below_drewN | apply below_drew1) | exact HB.out)))); have n3_ := Aside0.mk (below_step (by repeat (first | (with_reducible first | exact HB.out | apply below_alloc | apply pw_below_drewN | apply below_drew1) | exact HB.out)) hb); clear HO242; clear HO247; clear HB; have HO242 := n0_; have HO247 := n1_; have HO252 := n2_; have HB := n3_; clear n0_ n1_ n2_ n3_; (try clear hb); (try clear hb2); (try clear hk); (try clear hi); (try clear ho0)))
              repeat (go_quiet (first | (go_at_call 11; (with_reducible refine (lex_Toks.calls k1 a0 t238 t239 t240 _ A16.out).mono ?_); rintro e w22 ⟨v241, rfl, ho0, hb⟩; have n0_ := Aside0.mk (Kd.R_lower ho0 (below_size (by repeat (first | (with_reducible first | exact HB.out | apply below_alloc | apply pw_below_drewN | apply below_drew1) | exact HB.out)))); have n1_ := Aside0.mk (below_step (by repeat (first | (with_reducible first | exact HB.out | apply below_alloc | apply pw_below_drewN | apply below_drew1) | exact HB.out)) hb); clear HB; have HO242 := n0_; have HB := n1_; clear n0_ n1_; (try clear hb); (try clear hb2); (try clear hk); (try clear hi); (try clear ho0)) | (go_at_call 11; (with_reducible refine (lex_Toks.calls k1 ((x6_1 ++ a0) ++ x6_1) t243 t244 t245 _ A19.out).mono ?_); rintro e w23 ⟨v246, rfl, ho0, hb⟩; have n0_ := Aside0.mk (Kd.R_elder' (by (with_reducible repeat (first | apply Kd.R_alloc | apply Kd.R_drewN | apply Kd.R_drew)); exact HO242.out) (Kd.R_base ho0) hb); have n1_ := Aside0.mk (Kd.R_lower (Kd.R_new' ho0 (Kd.R_lt (by (with_reducible repeat (first | apply Kd.R_alloc | apply Kd.R_drewN | apply Kd.R_drew)); exact HO242.out))) (below_size (by repeat (first | (with_reducible first | exact HB.out | apply below_alloc | apply pw_below_drewN | apply below_drew1) | exact HB.out)))); have n2_ := Aside0.mk (below_step (by repeat (first | (with_reducible first | exact HB.out | apply below_alloc | apply pw_below_drewN | apply below_drew1) | exact HB.out)) hb); clear HO242; clear HB; have HO242 := n0_; have HO247 := n1_; have HB := n2_; clear n0_ n1_ n2_; (try clear hb); (try clear hb2); (try clear hk); (try clear hi); (try clear ho0)) | (go_at_call 11; (with_reducible refine (lex_Toks.calls k1 x6_1 t248 t249 t250 _ A20.out).mono ?_); rintro e w24 ⟨v251, rfl, ho0, hb⟩; have n0_ := Aside0.mk (Kd.R_elder' (by (with_reducible repeat (first | apply Kd.R_alloc | apply Kd.R_drewN | apply Kd.R_drew)); exact HO242.out) (Kd.R_base ho0) hb); have n1_ := Aside0.mk (Kd.R_elder' (by (with_reducible repeat (first | apply Kd.R_alloc | apply Kd.R_drewN | apply Kd.R_drew)); exact HO247.out) (Kd.R_base ho0) hb); have n2_ := Aside0.mk (Kd.R_lower (Kd.R_new' (Kd.R_new' ho0 (Kd.R_lt (by (with_reducible repeat (first | apply Kd.R_alloc | apply Kd.R_drewN | apply Kd.R_drew)); exact HO242.out))) (Kd.R_lt (by (with_reducible repeat (first | apply Kd.R_alloc | apply Kd.R_drewN | apply Kd.R_drew)); exact HO247.out))) (below_size (by repeat (first | (with_reducible first | exact HB.out | apply below_alloc | apply pw_below_drewN | apply below_drew1) | exact HB.out)))); have n3_ := Aside0.mk (below_step (by repeat (first | (with_reducible first | exact HB.out | apply below_alloc | apply pw_below_drewN | apply below_drew1) | exact HB.out)) hb); clear HO242; clear HO247; clear HB; have HO242 := n0_; have HO247 := n1_; have HO252 := n2_; have HB := n3_; clear n0_ n1_ n2_ n3_; (try clear hb); (try clear hb2); (try clear hk); (try clear hi); (try clear ho0))); go_upto_region 12 with (first | (go_at_call 11; (with_reducible refine (lex_Toks.calls k1 a0 t238 t239 t240 _ A16.out).mono ?_); rintro e w22 ⟨v241, rfl, ho0, hb⟩; have n0_ := Aside0.mk (Kd.R_lower ho0 (below_size (by repeat (first | (with_reducible first | exact HB.out | apply below_alloc | apply pw_below_drewN | apply below_drew1) | exact HB.out)))); have n1_ := Aside0.mk (below_step (by repeat (first | (with_reducible first | exact HB.out | apply below_alloc | apply pw_below_drewN | apply below_drew1) | exact HB.out)) hb); clear HB; have HO242 := n0_; have HB := n1_; clear n0_ n1_; (try clear hb); (try clear hb2); (try clear hk); (try clear hi); (try clear ho0)) | (go_at_call 11; (with_reducible refine (lex_Toks.calls k1 ((x6_1 ++ a0) ++ x6_1) t243 t244 t245 _ A19.out).mono ?_); rintro e w23 ⟨v246, rfl, ho0, hb⟩; have n0_ := Aside0.mk (Kd.R_elder' (by (with_reducible repeat (first | apply Kd.R_alloc | apply Kd.R_drewN | apply Kd.R_drew)); exact HO242.out) (Kd.R_base ho0) hb); have n1_ := Aside0.mk (Kd.R_lower (Kd.R_new' ho0 (Kd.R_lt (by (with_reducible repeat (first | apply Kd.R_alloc | apply Kd.R_drewN | apply Kd.R_drew)); exact HO242.out))) (below_size (by repeat (first | (with_reducible first | exact HB.out | apply below_alloc | apply pw_below_drewN | apply below_drew1) | exact HB.out)))); have n2_ := Aside0.mk (below_step (by repeat (first | (with_reducible first | exact HB.out | apply below_alloc | apply pw_below_drewN | apply below_drew1) | exact HB.out)) hb); clear HO242; clear HB; have HO242 := n0_; have HO247 := n1_; have HB := n2_; clear n0_ n1_ n2_; (try clear hb); (try clear hb2); (try clear hk); (try clear hi); (try clear ho0)) | (go_at_call 11; (with_reducible refine (lex_Toks.calls k1 x6_1 t248 t249 t250 _ A20.out).mono ?_); rintro e w24 ⟨v251, rfl, ho0, hb⟩; have n0_ := Aside0.mk (Kd.R_elder' (by (with_reducible repeat (first | apply Kd.R_alloc | apply Kd.R_drewN | apply Kd.R_drew)); exact HO242.out) (Kd.R_base ho0) hb); have n1_ := Aside0.mk (Kd.R_elder' (by (with_reducible repeat (first | apply Kd.R_alloc | apply Kd.R_drewN | apply Kd.R_drew)); exact HO247.out) (Kd.R_base ho0) hb); have n2_ := Aside0.mk (Kd.R_lower (Kd.R_new' (Kd.R_new' ho0 (Kd.R_lt (by (with_reducible repeat (first | apply Kd.R_alloc | apply Kd.R_drewN | apply Kd.R_drew)); exact HO242.out))) (Kd.R_lt (by (with_reducible repeat (first | apply Kd.R_alloc | apply Kd.R_drewN | apply Kd.R_drew)); exact HO247.out))) (below_size (by repeat (first | (with_reducible first | exact HB.out | apply below_alloc | apply pw_below_drewN | apply below_drew1) | exact HB.out)))); have n3_ := Aside0.mk (below_step (by repeat (first | (with_reducible first | exact HB.out | apply below_alloc | apply pw_below_drewN | apply below_drew1) | exact HB.out)) hb); clear HO242; clear HO247; clear HB; have HO242 := n0_; have HO247 := n1_; have HO252 := n2_; have HB := n3_; clear n0_ n1_ n2_ n3_; (try clear hb); (try clear hb2); (try clear hk); (try clear hi); (try clear ho0))))
              (try simp only [Act.put, List.setIfInBounds_toArray, List.set_cons_zero, List.set_cons_succ])
              go_cut [89] (fun v89 wc => ∃ (kq : Nat) (x89_20 : Bool), v89 = .bool x89_20 ∧ Aside0 (tammylaw06_LexBlanks.j1 kq t234 x6_1 t238 t243 x89_20 = some r) ∧ Aside0 (kq ≤ k1) ∧ Aside0 (Kd.R k32 32 wc w.heap.size (fun k_ => some k_ ≠ (v246 : Value).ownBlock) v241 t238) ∧ Aside0 (Kd.R k32 32 wc w.heap.size (fun k_ => some k_ ≠ (v241 : Value).ownBlock) v246 t243) ∧ Aside0 (Below w.heap.size w wc))
              case first =>
                have H := HC21.out
                clear HC21
                by_cases c25 : t240 = t245
                · rw [if_pos c25] at H
                  have c25b0 : (t240 == t245) = true := beq_iff_eq.mpr c25
                  have c25b1 : (t240 != t245) = false := bne_eq_false_iff_eq.mpr c25
                  clear c25
                  (first | rw [c25b0] | (simp only [i64_w, i32_w]; rw [c25b0]) | skip)
                  by_cases c26 : (t238.length : Int) = (t243.length : Int)
                  · rw [if_pos c26] at H
                    have c26b0 : ((t238.length : Int) == (t243.length : Int)) = true := beq_iff_eq.mpr c26
                    have c26b1 : ((t238.length : Int) != (t243.length : Int)) = false := bne_eq_false_iff_eq.mpr c26
                    have c26b2 : (t238.length == t243.length) = true := by first | simpa using c26 | (simp at c26 ⊢; omega)
                    clear c26
                    by_cases c27 : t250 = 0
                    · rw [if_pos c27] at H
                      have c27b0 : (t250 == 0) = true := beq_iff_eq.mpr c27
                      have c27b1 : (t250 != 0) = false := bne_eq_false_iff_eq.mpr c27
                      clear c27
                      by_cases c28 : (t248.length : Int) = 0
                      · rw [if_pos c28] at H
                        have c28b0 : ((t248.length : Int) == 0) = true := beq_iff_eq.mpr c28
                        have c28b1 : ((t248.length : Int) != 0) = false := bne_eq_false_iff_eq.mpr c28
                        clear c28
                        by_cases c29 : t240 = 0
                        · rw [if_pos c29] at H
                          have c29b0 : (t240 == 0) = true := beq_iff_eq.mpr c29
                          have c29b1 : (t240 != 0) = false := bne_eq_false_iff_eq.mpr c29
                          clear c29
                          have H' := Aside0.mk H
                          clear H
                          obtain ⟨Ao30, co30, eo30⟩ := Kd.R_slice HO242.out
                          subst eo30
                          obtain ⟨Ao31, co31, eo31⟩ := Kd.R_slice HO247.out
                          subst eo31
                          obtain ⟨Ao32, co32, eo32⟩ := Kd.R_slice HO252.out
                          subst eo32
                          go_wp2
                          repeat (go_quiet (fail); try go_wp2)
                          go_meet
                          case rel => exact ⟨_, (false), (by first | rfl | (simp; done) | (simp [*]; done)), H', ⟨by have := HK1.out; first | omega | exact Nat.le_refl _⟩, ⟨by (with_reducible repeat (first | apply Kd.R_alloc | apply Kd.R_drewN | apply Kd.R_drew)); exact Kd.R_mono HO242.out (fun _ hk => hk.1.2)⟩, ⟨by (with_reducible repeat (first | apply Kd.R_alloc | apply Kd.R_drewN | apply Kd.R_drew)); exact Kd.R_mono HO247.out (fun _ hk => hk.1.2)⟩, ⟨by repeat (first | (with_reducible first | exact HB.out | apply below_alloc | apply pw_below_drewN | apply below_drew1) | exact HB.out)⟩⟩
                        · rw [if_neg c29] at H
                          have c29b0 : (t240 == 0) = false := beq_eq_false_iff_ne.mpr c29
                          have c29b1 : (t240 != 0) = true := bne_iff_ne.mpr c29
                          have H' := Aside0.mk H
                          clear H
                          obtain ⟨Ao33, co33, eo33⟩ := Kd.R_slice HO242.out
                          subst eo33
                          obtain ⟨Ao34, co34, eo34⟩ := Kd.R_slice HO247.out
                          subst eo34
                          obtain ⟨Ao35, co35, eo35⟩ := Kd.R_slice HO252.out
                          subst eo35
                          go_wp2
                          repeat (go_quiet (fail); try go_wp2)
                          go_meet
                          case rel => exact ⟨_, ((t244 != (wrap64 (t239 + (x6_1.size : Int))))), (by first | rfl | (simp; done) | (simp [*]; done)), H', ⟨by have := HK1.out; first | omega | exact Nat.le_refl _⟩, ⟨by (with_reducible repeat (first | apply Kd.R_alloc | apply Kd.R_drewN | apply Kd.R_drew)); exact Kd.R_mono HO242.out (fun _ hk => hk.1.2)⟩, ⟨by (with_reducible repeat (first | apply Kd.R_alloc | apply Kd.R_drewN | apply Kd.R_drew)); exact Kd.R_mono HO247.out (fun _ hk => hk.1.2)⟩, ⟨by repeat (first | (with_reducible first | exact HB.out | apply below_alloc | apply pw_below_drewN | apply below_drew1) | exact HB.out)⟩⟩
                      · rw [if_neg c28] at H
                        have c28b0 : ((t248.length : Int) == 0) = false := beq_eq_false_iff_ne.mpr c28
                        have c28b1 : ((t248.length : Int) != 0) = true := bne_iff_ne.mpr c28
                        have c28b2 : ¬ (t248 = []) := fun h_ => c28 (by rw [h_]; rfl)
                        have H' := Aside0.mk H
                        clear H
                        obtain ⟨Ao36, co36, eo36⟩ := Kd.R_slice HO242.out
                        subst eo36
                        obtain ⟨Ao37, co37, eo37⟩ := Kd.R_slice HO247.out
                        subst eo37
                        obtain ⟨Ao38, co38, eo38⟩ := Kd.R_slice HO252.out
                        subst eo38
                        go_wp2
                        repeat (go_quiet (fail); try go_wp2)
                        go_meet
                        case rel => exact ⟨_, (true), (by first | rfl | (simp; done) | (simp [*]; done)), H', ⟨by have := HK1.out; first | omega | exact Nat.le_refl _⟩, ⟨by (with_reducible repeat (first | apply Kd.R_alloc | apply Kd.R_drewN | apply Kd.R_drew)); exact Kd.R_mono HO242.out (fun _ hk => hk.1.2)⟩, ⟨by (with_reducible repeat (first | apply Kd.R_alloc | apply Kd.R_drewN | apply Kd.R_drew)); exact Kd.R_mono HO247.out (fun _ hk => hk.1.2)⟩, ⟨by repeat (first | (with_reducible first | exact HB.out | apply below_alloc | apply pw_below_drewN | apply below_drew1) | exact HB.out)⟩⟩
                    · rw [if_neg c27] at H
                      have c27b0 : (t250 == 0) = false := beq_eq_false_iff_ne.mpr c27
                      have c27b1 : (t250 != 0) = true := bne_iff_ne.mpr c27
                      have H' := Aside0.mk H
                      clear H
                      obtain ⟨Ao39, co39, eo39⟩ := Kd.R_slice HO242.out
                      subst eo39
                      obtain ⟨Ao40, co40, eo40⟩ := Kd.R_slice HO247.out
                      subst eo40
                      go_wp2
                      repeat (go_quiet (fail); try go_wp2)
                      go_meet
                      case rel => exact ⟨_, (true), (by first | rfl | (simp; done) | (simp [*]; done)), H', ⟨by have := HK1.out; first | omega | exact Nat.le_refl _⟩, ⟨by (with_reducible repeat (first | apply Kd.R_alloc | apply Kd.R_drewN | apply Kd.R_drew)); exact Kd.R_mono HO242.out (fun _ hk => hk.1.2)⟩, ⟨by (with_reducible repeat (first | apply Kd.R_alloc | apply Kd.R_drewN | apply Kd.R_drew)); exact Kd.R_mono HO247.out (fun _ hk => hk.1.2)⟩, ⟨by repeat (first | (with_reducible first | exact HB.out | apply below_alloc | apply pw_below_drewN | apply below_drew1) | exact HB.out)⟩⟩
                  · rw [if_neg c26] at H
                    have c26b0 : ((t238.length : Int) == (t243.length : Int)) = false := beq_eq_false_iff_ne.mpr c26
                    have c26b1 : ((t238.length : Int) != (t243.length : Int)) = true := bne_iff_ne.mpr c26
                    have c26b2 : (t238.length == t243.length) = false := by first | simpa using c26 | (simp at c26 ⊢; omega)
                    have H' := Aside0.mk H
                    clear H
                    obtain ⟨Ao41, co41, eo41⟩ := Kd.R_slice HO242.out
                    subst eo41
                    obtain ⟨Ao42, co42, eo42⟩ := Kd.R_slice HO247.out
                    subst eo42
                    go_wp2
                    repeat (go_quiet (fail); try go_wp2)
                    go_meet
                    case rel => exact ⟨_, (true), (by first | rfl | (simp; done) | (simp [*]; done)), H', ⟨by have := HK1.out; first | omega | exact Nat.le_refl _⟩, ⟨by (with_reducible repeat (first | apply Kd.R_alloc | apply Kd.R_drewN | apply Kd.R_drew)); exact Kd.R_mono HO242.out (fun _ hk => hk.1.2)⟩, ⟨by (with_reducible repeat (first | apply Kd.R_alloc | apply Kd.R_drewN | apply Kd.R_drew)); exact Kd.R_mono HO247.out (fun _ hk => hk.1.2)⟩, ⟨by repeat (first | (with_reducible first | exact HB.out | apply below_alloc | apply pw_below_drewN | apply below_drew1) | exact HB.out)⟩⟩
                · rw [if_neg c25] at H
                  have c25b0 : (t240 == t245) = false := beq_eq_false_iff_ne.mpr c25
                  have c25b1 : (t240 != t245) = true := bne_iff_ne.mpr c25
                  (first | rw [c25b0] | (simp only [i64_w, i32_w]; rw [c25b0]) | skip)
                  have H' := Aside0.mk H
                  clear H
                  go_wp2
                  repeat (go_quiet (fail); try go_wp2)
                  go_meet
                  case rel => exact ⟨_, (true), (by first | rfl | (simp; done) | (simp [*]; done)), H', ⟨by have := HK1.out; first | omega | exact Nat.le_refl _⟩, ⟨by (with_reducible repeat (first | apply Kd.R_alloc | apply Kd.R_drewN | apply Kd.R_drew)); exact Kd.R_mono HO242.out (fun _ hk => hk.1.2)⟩, ⟨by (with_reducible repeat (first | apply Kd.R_alloc | apply Kd.R_drewN | apply Kd.R_drew)); exact Kd.R_mono HO247.out (fun _ hk => hk.1.2)⟩, ⟨by repeat (first | (with_reducible first | exact HB.out | apply below_alloc | apply pw_below_drewN | apply below_drew1) | exact HB.out)⟩⟩
              case rest =>
                clear HC21
                try clear c1
                try clear p1
                try clear q1
                try clear hx1
                try clear hcv1
                try clear c2
                try clear p2
                try clear c4
                try clear c4b0
                try clear c4b1
                try clear p6
                try clear c7
                try clear c7b0
                try clear c8
                try clear c9
                try clear c9b0
                try clear c10
                try clear c10b0
                try clear p11
                try clear q11
                try clear hx11
                try clear c12
                try clear c12b0
                try clear c12b1
                try clear c12b2
                try clear hcv15
                try clear c17
                try clear c17b0
                try clear c17b1
                try clear c17b2
                try clear c18
                try clear c18b0
                try clear c18b1
                try clear c18b2
                try clear c25
                try clear c25b0
                try clear c25b1
                try clear c26
                try clear c26b0
                try clear c26b1
                try clear c26b2
                try clear c27
                try clear c27b0
                try clear c27b1
                try clear c28
                try clear c28b0
                try clear c28b1
                try clear c28b2
                try clear c29
                try clear c29b0
                try clear c29b1
                try clear p11
                try clear p2
                try clear q11
                obtain ⟨kq, x89_20, rfl, HA, HJ20, HO_8, HO_11, HB⟩ := hcut
                cases kq with
                | zero => exact absurd HA.out (by simp [tammylaw06_LexBlanks.j1])
                | succ kj20 =>
                  have H := HA.out
                  clear HA
                  simp only [tammylaw06_LexBlanks.j1] at H
                  by_cases c43 : x89_20 = true
                  · subst c43
                    have H1 : (some false) = some r := by rw [if_pos rfl] at H; exact H
                    clear H
                    have H := H1
                    clear H1
                    obtain rfl := Option.some.inj H
                    go_wp2
                    repeat (go_quiet (fail); try go_wp2)
                    go_ret
                    exact ⟨by first | rfl | (simp [errW_none, errW_some] <;> rfl) | (simp [*, errW_none, errW_some] <;> rfl), by repeat (first | (with_reducible first | exact HB.out | apply below_alloc | apply pw_below_drewN | apply below_drew1) | exact HB.out)⟩
                  · replace c43 := Bool.eq_false_iff.mpr c43
                    subst c43
                    have H1 : (tammylaw06_LexBlanks.l1 kj20 t234 x6_1 t238 t243 0) = some r := by rw [if_neg (show ¬ (false = true) by decide)] at H; exact H
                    clear H
                    have H := H1
                    clear H1
                    have H' := Aside0.mk H
                    clear H
                    go_wp2
                    repeat (go_quiet (fail); try go_wp2)
                    go_loopg [17] kj20 (fun kq v17 w' => ∃ (x17_3 : Int), v17 = .int .i64 x17_3 ∧ Aside0 (tammylaw06_LexBlanks.l1 kq t234 x6_1 t238 t243 x17_3 = some r) ∧ Aside0 (kq ≤ kj20) ∧ Aside0 (Kd.R k32 32 w' w.heap.size (fun k_ => some k_ ≠ (v246 : Value).ownBlock) v241 t238) ∧ Aside0 (Kd.R k32 32 w' w.heap.size (fun k_ => some k_ ≠ (v241 : Value).ownBlock) v246 t243) ∧ Aside0 (Below w.heap.size w w'))
                    case atStart => exact ⟨(0), (by first | rfl | (simp; done) | (simp [*]; done)), H', ⟨Nat.le_refl _⟩, ⟨by (with_reducible repeat (first | apply Kd.R_alloc | apply Kd.R_drewN | apply Kd.R_drew)); exact HO_8.out⟩, ⟨by (with_reducible repeat (first | apply Kd.R_alloc | apply Kd.R_drewN | apply Kd.R_drew)); exact HO_11.out⟩, ⟨by repeat (first | (with_reducible first | exact HB.out | apply below_alloc | apply pw_below_drewN | apply below_drew1) | exact HB.out)⟩⟩
                    case round =>
                      clear H'
                      try clear c1
                      try clear p1
                      try clear q1
                      try clear hx1
                      try clear hcv1
                      try clear c2
                      try clear p2
                      try clear c4
                      try clear c4b0
                      try clear c4b1
                      try clear p6
                      try clear c7
                      try clear c7b0
                      try clear c8
                      try clear c9
                      try clear c9b0
                      try clear c10
                      try clear c10b0
                      try clear p11
                      try clear q11
                      try clear hx11
                      try clear c12
                      try clear c12b0
                      try clear c12b1
                      try clear c12b2
                      try clear hcv15
                      try clear c17
                      try clear c17b0
                      try clear c17b1
                      try clear c17b2
                      try clear c18
                      try clear c18b0
                      try clear c18b1
                      try clear c18b2
                      try clear c25
                      try clear c25b0
                      try clear c25b1
                      try clear c26
                      try clear c26b0
                      try clear c26b1
                      try clear c26b2
                      try clear c27
                      try clear c27b0
                      try clear c27b1
                      try clear c28
                      try clear c28b0
                      try clear c28b1
                      try clear c28b2
                      try clear c29
                      try clear c29b0
                      try clear c29b1
                      try clear c43
                      try clear p1
                      try clear p11
                      try clear p2
                      try clear p6
                      try clear q1
                      try clear q11
                      obtain ⟨x17_3, rfl, HA, HK3, HO_8, HO_11, HB⟩ := hrel
                      cases gk with
                      | zero => exact absurd HA.out (by simp [tammylaw06_LexBlanks.l1])
                      | succ k3 =>
                        have H := HA.out
                        clear HA
                        simp only [tammylaw06_LexBlanks.l1] at H
                        by_cases c44 : x17_3 < (t238.length : Int)
                        · rw [if_pos c44] at H
                          have c44b0 : decide (x17_3 < (t238.length : Int)) = true := decide_eq_true c44
                          clear c44
                          by_cases c45 : 0 ≤ x17_3
                          · rw [if_pos c45] at H
                            have c45b0 : decide (0 ≤ x17_3) = true := decide_eq_true c45
                            clear c45
                            by_cases c46 : x17_3 < (t243.length : Int)
                            · rw [if_pos c46] at H
                              have c46b0 : decide (x17_3 < (t243.length : Int)) = true := decide_eq_true c46
                              clear c46
                              by_cases c47 : ((rd_T32 t238 x17_3).f1).toList = ((rd_T32 t243 x17_3).f1).toList
                              · rw [if_pos c47] at H
                                have c47b0 : (((rd_T32 t238 x17_3).f1).toList == ((rd_T32 t243 x17_3).f1).toList) = true := beq_iff_eq.mpr c47
                                have c47b1 : (((rd_T32 t238 x17_3).f1).toList != ((rd_T32 t243 x17_3).f1).toList) = false := bne_eq_false_iff_eq.mpr c47
                                clear c47
                                by_cases c48 : ((rd_T32 t238 x17_3).f0) = ((rd_T32 t243 x17_3).f0)
                                · rw [if_pos c48] at H
                                  have c48b0 : (((rd_T32 t238 x17_3).f0) == ((rd_T32 t243 x17_3).f0)) = true := beq_iff_eq.mpr c48
                                  have c48b1 : (((rd_T32 t238 x17_3).f0) != ((rd_T32 t243 x17_3).f0)) = false := bne_eq_false_iff_eq.mpr c48
                                  clear c48
                                  by_cases c49 : ((rd_T32 t243 x17_3).f2) = (wrap64 (((rd_T32 t238 x17_3).f2) + (x6_1.size : Int)))
                                  · rw [if_pos c49] at H
                                    have c49b0 : (((rd_T32 t243 x17_3).f2) == (wrap64 (((rd_T32 t238 x17_3).f2) + (x6_1.size : Int)))) = true := beq_iff_eq.mpr c49
                                    have c49b1 : (((rd_T32 t243 x17_3).f2) != (wrap64 (((rd_T32 t238 x17_3).f2) + (x6_1.size : Int)))) = false := bne_eq_false_iff_eq.mpr c49
                                    clear c49
                                    have H' := Aside0.mk H
                                    clear H
                                    obtain ⟨Ao50, co50, eo50⟩ := Kd.R_slice HO_8.out
                                    subst eo50
                                    have p253 : 0 ≤ (x17_3 : Int) := of_decide_eq_true (by first | (with_reducible assumption) | assumption)
                                    have q253 : x17_3 < (t238.length : Int) := of_decide_eq_true (by first | (with_reducible assumption) | assumption)
                                    obtain ⟨ad253, e253, hx253_0, hx253_1, hx253_2⟩ := at_T32 (Kd.R_reads' HO_8.out).2.2 x17_3 p253 q253
                                    cases e253
                                    replace p253 := eq_true p253
                                    replace q253 := eq_true q253
                                    obtain ⟨Ao51, co51, eo51⟩ := Kd.R_slice HO_11.out
                                    subst eo51
                                    have p254 : 0 ≤ (x17_3 : Int) := of_decide_eq_true (by first | (with_reducible assumption) | assumption)
                                    have q254 : x17_3 < (t243.length : Int) := of_decide_eq_true (by first | (with_reducible assumption) | assumption)
                                    obtain ⟨ad254, e254, hx254_0, hx254_1, hx254_2⟩ := at_T32 (Kd.R_reads' HO_11.out).2.2 x17_3 p254 q254
                                    cases e254
                                    replace p254 := eq_true p254
                                    replace q254 := eq_true q254
                                    have p255 : 0 ≤ (x17_3 : Int) := of_decide_eq_true (by first | (with_reducible assumption) | assumption)
                                    have q255 : x17_3 < (t238.length : Int) := of_decide_eq_true (by first | (with_reducible assumption) | assumption)
                                    obtain ⟨ad255, e255, hx255_0, hx255_1, hx255_2⟩ := at_T32 (Kd.R_reads' HO_8.out).2.2 x17_3 p255 q255
                                    obtain rfl : ad253 = ad255 := (by injection e255)
                                    replace p255 := eq_true p255
                                    replace q255 := eq_true q255
                                    have p256 : 0 ≤ (x17_3 : Int) := of_decide_eq_true (by first | (with_reducible assumption) | assumption)
                                    have q256 : x17_3 < (t243.length : Int) := of_decide_eq_true (by first | (with_reducible assumption) | assumption)
                                    obtain ⟨ad256, e256, hx256_0, hx256_1, hx256_2⟩ := at_T32 (Kd.R_reads' HO_11.out).2.2 x17_3 p256 q256
                                    obtain rfl : ad254 = ad256 := (by injection e256)
                                    replace p256 := eq_true p256
                                    replace q256 := eq_true q256
                                    have p257 : 0 ≤ (x17_3 : Int) := of_decide_eq_true (by first | (with_reducible assumption) | assumption)
                                    have q257 : x17_3 < (t243.length : Int) := of_decide_eq_true (by first | (with_reducible assumption) | assumption)
                                    obtain ⟨ad257, e257, hx257_0, hx257_1, hx257_2⟩ := at_T32 (Kd.R_reads' HO_11.out).2.2 x17_3 p257 q257
                                    obtain rfl : ad254 = ad257 := (by injection e257)
                                    replace p257 := eq_true p257
                                    replace q257 := eq_true q257
                                    have p258 : 0 ≤ (x17_3 : Int) := of_decide_eq_true (by first | (with_reducible assumption) | assumption)
                                    have q258 : x17_3 < (t238.length : Int) := of_decide_eq_true (by first | (with_reducible assumption) | assumption)
                                    obtain ⟨ad258, e258, hx258_0, hx258_1, hx258_2⟩ := at_T32 (Kd.R_reads' HO_8.out).2.2 x17_3 p258 q258
                                    obtain rfl : ad253 = ad258 := (by injection e258)
                                    replace p258 := eq_true p258
                                    replace q258 := eq_true q258
                                    go_wp2
                                    repeat (go_quiet (fail); try go_wp2)
                                    go_roundg k3
                                    case measure => have := HK1.out; have := HJ20.out; have := HK3.out; omega
                                    case rel => exact ⟨(wrap64 (x17_3 + 1)), (by first | rfl | (simp; done) | (simp [*]; done)), H', ⟨by have := HK1.out; have := HJ20.out; have := HK3.out; omega⟩, ⟨by (with_reducible repeat (first | apply Kd.R_alloc | apply Kd.R_drewN | apply Kd.R_drew)); exact HO_8.out⟩, ⟨by (with_reducible repeat (first | apply Kd.R_alloc | apply Kd.R_drewN | apply Kd.R_drew)); exact HO_11.out⟩, ⟨by repeat (first | (with_reducible first | exact HB.out | apply below_alloc | apply pw_below_drewN | apply below_drew1) | exact HB.out)⟩⟩
                                  · rw [if_neg c49] at H
                                    have c49b0 : (((rd_T32 t243 x17_3).f2) == (wrap64 (((rd_T32 t238 x17_3).f2) + (x6_1.size : Int)))) = false := beq_eq_false_iff_ne.mpr c49
                                    have c49b1 : (((rd_T32 t243 x17_3).f2) != (wrap64 (((rd_T32 t238 x17_3).f2) + (x6_1.size : Int)))) = true := bne_iff_ne.mpr c49
                                    obtain rfl := Option.some.inj H
                                    obtain ⟨Ao52, co52, eo52⟩ := Kd.R_slice HO_8.out
                                    subst eo52
                                    have p253 : 0 ≤ (x17_3 : Int) := of_decide_eq_true (by first | (with_reducible assumption) | assumption)
                                    have q253 : x17_3 < (t238.length : Int) := of_decide_eq_true (by first | (with_reducible assumption) | assumption)
                                    obtain ⟨ad253, e253, hx253_0, hx253_1, hx253_2⟩ := at_T32 (Kd.R_reads' HO_8.out).2.2 x17_3 p253 q253
                                    cases e253
                                    replace p253 := eq_true p253
                                    replace q253 := eq_true q253
                                    obtain ⟨Ao53, co53, eo53⟩ := Kd.R_slice HO_11.out
                                    subst eo53
                                    have p254 : 0 ≤ (x17_3 : Int) := of_decide_eq_true (by first | (with_reducible assumption) | assumption)
                                    have q254 : x17_3 < (t243.length : Int) := of_decide_eq_true (by first | (with_reducible assumption) | assumption)
                                    obtain ⟨ad254, e254, hx254_0, hx254_1, hx254_2⟩ := at_T32 (Kd.R_reads' HO_11.out).2.2 x17_3 p254 q254
                                    cases e254
                                    replace p254 := eq_true p254
                                    replace q254 := eq_true q254
                                    have p255 : 0 ≤ (x17_3 : Int) := of_decide_eq_true (by first | (with_reducible assumption) | assumption)
                                    have q255 : x17_3 < (t238.length : Int) := of_decide_eq_true (by first | (with_reducible assumption) | assumption)
                                    obtain ⟨ad255, e255, hx255_0, hx255_1, hx255_2⟩ := at_T32 (Kd.R_reads' HO_8.out).2.2 x17_3 p255 q255
                                    obtain rfl : ad253 = ad255 := (by injection e255)
                                    replace p255 := eq_true p255
                                    replace q255 := eq_true q255
                                    have p256 : 0 ≤ (x17_3 : Int) := of_decide_eq_true (by first | (with_reducible assumption) | assumption)
                                    have q256 : x17_3 < (t243.length : Int) := of_decide_eq_true (by first | (with_reducible assumption) | assumption)
                                    obtain ⟨ad256, e256, hx256_0, hx256_1, hx256_2⟩ := at_T32 (Kd.R_reads' HO_11.out).2.2 x17_3 p256 q256
                                    obtain rfl : ad254 = ad256 := (by injection e256)
                                    replace p256 := eq_true p256
                                    replace q256 := eq_true q256
                                    have p257 : 0 ≤ (x17_3 : Int) := of_decide_eq_true (by first | (with_reducible assumption) | assumption)
                                    have q257 : x17_3 < (t243.length : Int) := of_decide_eq_true (by first | (with_reducible assumption) | assumption)
                                    obtain ⟨ad257, e257, hx257_0, hx257_1, hx257_2⟩ := at_T32 (Kd.R_reads' HO_11.out).2.2 x17_3 p257 q257
                                    obtain rfl : ad254 = ad257 := (by injection e257)
                                    replace p257 := eq_true p257
                                    replace q257 := eq_true q257
                                    have p258 : 0 ≤ (x17_3 : Int) := of_decide_eq_true (by first | (with_reducible assumption) | assumption)
                                    have q258 : x17_3 < (t238.length : Int) := of_decide_eq_true (by first | (with_reducible assumption) | assumption)
                                    obtain ⟨ad258, e258, hx258_0, hx258_1, hx258_2⟩ := at_T32 (Kd.R_reads' HO_8.out).2.2 x17_3 p258 q258
                                    obtain rfl : ad253 = ad258 := (by injection e258)
                                    replace p258 := eq_true p258
                                    replace q258 := eq_true q258
                                    go_wp2
                                    repeat (go_quiet (fail); try go_wp2)
                                    go_ret
                                    exact ⟨by first | rfl | (simp [errW_none, errW_some] <;> rfl) | (simp [*, errW_none, errW_some] <;> rfl), by repeat (first | (with_reducible first | exact HB.out | apply below_alloc | apply pw_below_drewN | apply below_drew1) | exact HB.out)⟩
                                · rw [if_neg c48] at H
                                  have c48b0 : (((rd_T32 t238 x17_3).f0) == ((rd_T32 t243 x17_3).f0)) = false := beq_eq_false_iff_ne.mpr c48
                                  have c48b1 : (((rd_T32 t238 x17_3).f0) != ((rd_T32 t243 x17_3).f0)) = true := bne_iff_ne.mpr c48
                                  obtain rfl := Option.some.inj H
                                  obtain ⟨Ao54, co54, eo54⟩ := Kd.R_slice HO_8.out
                                  subst eo54
                                  have p253 : 0 ≤ (x17_3 : Int) := of_decide_eq_true (by first | (with_reducible assumption) | assumption)
                                  have q253 : x17_3 < (t238.length : Int) := of_decide_eq_true (by first | (with_reducible assumption) | assumption)
                                  obtain ⟨ad253, e253, hx253_0, hx253_1, hx253_2⟩ := at_T32 (Kd.R_reads' HO_8.out).2.2 x17_3 p253 q253
                                  cases e253
                                  replace p253 := eq_true p253
                                  replace q253 := eq_true q253
                                  obtain ⟨Ao55, co55, eo55⟩ := Kd.R_slice HO_11.out
                                  subst eo55
                                  have p254 : 0 ≤ (x17_3 : Int) := of_decide_eq_true (by first | (with_reducible assumption) | assumption)
                                  have q254 : x17_3 < (t243.length : Int) := of_decide_eq_true (by first | (with_reducible assumption) | assumption)
                                  obtain ⟨ad254, e254, hx254_0, hx254_1, hx254_2⟩ := at_T32 (Kd.R_reads' HO_11.out).2.2 x17_3 p254 q254
                                  cases e254
                                  replace p254 := eq_true p254
                                  replace q254 := eq_true q254
                                  have p255 : 0 ≤ (x17_3 : Int) := of_decide_eq_true (by first | (with_reducible assumption) | assumption)
                                  have q255 : x17_3 < (t238.length : Int) := of_decide_eq_true (by first | (with_reducible assumption) | assumption)
                                  obtain ⟨ad255, e255, hx255_0, hx255_1, hx255_2⟩ := at_T32 (Kd.R_reads' HO_8.out).2.2 x17_3 p255 q255
                                  obtain rfl : ad253 = ad255 := (by injection e255)
                                  replace p255 := eq_true p255
                                  replace q255 := eq_true q255
                                  have p256 : 0 ≤ (x17_3 : Int) := of_decide_eq_true (by first | (with_reducible assumption) | assumption)
                                  have q256 : x17_3 < (t243.length : Int) := of_decide_eq_true (by first | (with_reducible assumption) | assumption)
                                  obtain ⟨ad256, e256, hx256_0, hx256_1, hx256_2⟩ := at_T32 (Kd.R_reads' HO_11.out).2.2 x17_3 p256 q256
                                  obtain rfl : ad254 = ad256 := (by injection e256)
                                  replace p256 := eq_true p256
                                  replace q256 := eq_true q256
                                  go_wp2
                                  repeat (go_quiet (fail); try go_wp2)
                                  go_ret
                                  exact ⟨by first | rfl | (simp [errW_none, errW_some] <;> rfl) | (simp [*, errW_none, errW_some] <;> rfl), by repeat (first | (with_reducible first | exact HB.out | apply below_alloc | apply pw_below_drewN | apply below_drew1) | exact HB.out)⟩
                              · rw [if_neg c47] at H
                                have c47b0 : (((rd_T32 t238 x17_3).f1).toList == ((rd_T32 t243 x17_3).f1).toList) = false := beq_eq_false_iff_ne.mpr c47
                                have c47b1 : (((rd_T32 t238 x17_3).f1).toList != ((rd_T32 t243 x17_3).f1).toList) = true := bne_iff_ne.mpr c47
                                obtain rfl := Option.some.inj H
                                obtain ⟨Ao56, co56, eo56⟩ := Kd.R_slice HO_8.out
                                subst eo56
                                have p253 : 0 ≤ (x17_3 : Int) := of_decide_eq_true (by first | (with_reducible assumption) | assumption)
                                have q253 : x17_3 < (t238.length : Int) := of_decide_eq_true (by first | (with_reducible assumption) | assumption)
                                obtain ⟨ad253, e253, hx253_0, hx253_1, hx253_2⟩ := at_T32 (Kd.R_reads' HO_8.out).2.2 x17_3 p253 q253
                                cases e253
                                replace p253 := eq_true p253
                                replace q253 := eq_true q253
                                obtain ⟨Ao57, co57, eo57⟩ := Kd.R_slice HO_11.out
                                subst eo57
                                have p254 : 0 ≤ (x17_3 : Int) := of_decide_eq_true (by first | (with_reducible assumption) | assumption)
                                have q254 : x17_3 < (t243.length : Int) := of_decide_eq_true (by first | (with_reducible assumption) | assumption)
                                obtain ⟨ad254, e254, hx254_0, hx254_1, hx254_2⟩ := at_T32 (Kd.R_reads' HO_11.out).2.2 x17_3 p254 q254
                                cases e254
                                replace p254 := eq_true p254
                                replace q254 := eq_true q254
                                go_wp2
                                repeat (go_quiet (fail); try go_wp2)
                                go_ret
                                exact ⟨by first | rfl | (simp [errW_none, errW_some] <;> rfl) | (simp [*, errW_none, errW_some] <;> rfl), by repeat (first | (with_reducible first | exact HB.out | apply below_alloc | apply pw_below_drewN | apply below_drew1) | exact HB.out)⟩
                            · rw [if_neg c46] at H
                              exact absurd H (by simp)
                          · rw [if_neg c45] at H
                            exact absurd H (by simp)
                        · rw [if_neg c44] at H
                          have c44b0 : decide (x17_3 < (t238.length : Int)) = false := decide_eq_false c44
                          clear c44
                          obtain rfl := Option.some.inj H
                          obtain ⟨Ao58, co58, eo58⟩ := Kd.R_slice HO_8.out
                          subst eo58
                          go_wp2
                          repeat (go_quiet (fail); try go_wp2)
                          go_ret
                          exact ⟨by first | rfl | (simp [errW_none, errW_some] <;> rfl) | (simp [*, errW_none, errW_some] <;> rfl), by repeat (first | (with_reducible first | exact HB.out | apply below_alloc | apply pw_below_drewN | apply below_drew1) | exact HB.out)⟩
            · rw [if_neg c18] at H
              exact absurd H (by simp)
          · rw [if_neg c17] at H
            exact absurd H (by simp)

/-- THE ONE PURE STATEMENT of tammylaw06_LexBlanks: yours. -/
def tammylaw06_LexBlanks.Pure : Prop := ∀ (a0 : ByteArray) (a1 : Int), a0.size ≤ 140737488351232 → (Lit.int .u8 a1).wf = true → ∃ k, tammylaw06_LexBlanks.f k a0 a1 = some true
theorem tammylaw06_LexBlanks.walk (P : tammylaw06_LexBlanks.Pure) (a0 : ByteArray) (a1 : Int) (w : World) (w0 : a0.size ≤ 140737488351232) (w1 : (Lit.int .u8 a1).wf = true) :
    Calls Tryd.prog 8 #[.string a0, .int .u8 a1] w fun e w' => e = .returned (.bool true) ∧ Below w.heap.size w w' := by
  obtain ⟨k, h⟩ := P a0 a1 w0 w1
  refine (tammylaw06_LexBlanks.calls k a0 a1 true w h).mono ?_
  rintro e w' ⟨rfl, hd⟩
  exact ⟨rfl, hd⟩

/-! ### tammyref06_Few: function 16 -/
def tammyref06_Few.l0 : Nat → List (S32) → Int → Int → Option (Bool)
  | 0, _, _, _ => none
  | k + 1, x0, x3, x4 => if x4 < (x0.length : Int) then (if 0 ≤ x4 then (if (wrap64 ((wrap64 (x3 + 1)) + (((rd_T32 x0 x4).f1).size : Int))) > 2500 then (some false) else (tammyref06_Few.l0 k x0 (wrap64 ((wrap64 (x3 + 1)) + (((rd_T32 x0 x4).f1).size : Int))) (wrap64 (x4 + 1)))) else (none)) else (some true)
def tammyref06_Few.f (k : Nat) (l0 : List (S32)) : Option (Bool) := tammyref06_Few.l0 k l0 0 0
theorem tammyref06_Few.mono_l : ∀ k, (∀ y0 y1 y2, LeO (tammyref06_Few.l0 k y0 y1 y2) (tammyref06_Few.l0 (k + 1) y0 y1 y2))
  | 0 => fun _ _ _ r h => by simp [tammyref06_Few.l0] at h
  | k + 1 => by
    have ih0 := tammyref06_Few.mono_l k
    · intro y0 y1 y2
      unfold tammyref06_Few.l0
      repeat' first
      | (with_reducible exact ih0 _ _ _)
      | (with_reducible exact LeO.refl _)
      | (with_reducible exact LeO.none _)
      | (with_reducible refine LeO.ite ?_ ?_)
      | (with_reducible refine LeO.bind ?_ (fun _ => ?_))
      | exact ih0 _ _ _
      | exact LeO.none _
      | refine LeO.ite ?_ ?_
      | refine LeO.bind ?_ (fun _ => ?_)
theorem tammyref06_Few.mono : ∀ a0 k, LeO (tammyref06_Few.f k a0) (tammyref06_Few.f (k + 1) a0) := by
  intro a0 k
  have ih0 := tammyref06_Few.mono_l k
  unfold tammyref06_Few.f
  repeat' first
      | (with_reducible exact ih0 _ _ _)
      | (with_reducible exact LeO.refl _)
      | (with_reducible exact LeO.none _)
      | (with_reducible refine LeO.ite ?_ ?_)
      | (with_reducible refine LeO.bind ?_ (fun _ => ?_))
      | exact ih0 _ _ _
      | exact LeO.none _
      | refine LeO.ite ?_ ?_
      | refine LeO.bind ?_ (fun _ => ?_)
set_option maxHeartbeats 8000000 in
set_option maxRecDepth 100000 in
theorem tammyref06_Few.calls (k : Nat) (A0 : Option Addr) (c0 : Nat) (l0 : List (S32)) (r : Bool) (w : World) (hr0 : Kd.C k32 w A0 l0.length l0) (hc0 : l0.length ≤ c0) (h : tammyref06_Few.f k l0 = some r) :
    Calls Tryd.prog 16 #[.slice A0 l0.length c0] w fun e w' => e = .returned (.bool r) ∧ Drawn0 w w' := by
  have HR0 := Aside0.mk hr0
  have HC0 := Aside0.mk hc0
  clear hr0 hc0
  have H : (tammyref06_Few.l0 k l0 0 0) = some r := h
  clear h
  have H' := Aside0.mk H
  clear H
  go_enter Tryd.func16, Tryd.ntmps16
  go_wp2
  go_loopg [3, 4] k (fun kq v3 v4 w' => ∃ (x3_1 : Int) (x4_1 : Int), v3 = .int .i64 x3_1 ∧ v4 = .int .i64 x4_1 ∧ Aside0 (tammyref06_Few.l0 kq l0 x3_1 x4_1 = some r) ∧ Aside0 (kq ≤ k) ∧ Drawn0 w w')
  case atStart => exact ⟨(0), (0), (by first | rfl | (simp; done) | (simp [*]; done)), (by first | rfl | (simp; done) | (simp [*]; done)), H', ⟨Nat.le_refl _⟩, by repeat (first | exact Drawn0.refl _ | apply Drawn0.step)⟩
  case round =>
    clear H'
    try clear c1
    obtain ⟨x3_1, x4_1, rfl, rfl, HA, HK1, ⟨m1, rfl⟩⟩ := hrel
    cases gk with
    | zero => exact absurd HA.out (by simp [tammyref06_Few.l0])
    | succ k1 =>
      have H := HA.out
      clear HA
      simp only [tammyref06_Few.l0] at H
      by_cases c2 : x4_1 < (l0.length : Int)
      · rw [if_pos c2] at H
        have c2b0 : decide (x4_1 < (l0.length : Int)) = true := decide_eq_true c2
        clear c2
        by_cases c3 : 0 ≤ x4_1
        · rw [if_pos c3] at H
          have c3b0 : decide (0 ≤ x4_1) = true := decide_eq_true c3
          clear c3
          by_cases c4 : (wrap64 ((wrap64 (x3_1 + 1)) + (((rd_T32 l0 x4_1).f1).size : Int))) > 2500
          · rw [if_pos c4] at H
            have c4b0 : decide (2500 < (wrap64 ((wrap64 (x3_1 + 1)) + (((rd_T32 l0 x4_1).f1).size : Int)))) = true := decide_eq_true c4
            clear c4
            obtain rfl := Option.some.inj H
            have p259 : 0 ≤ (x4_1 : Int) := of_decide_eq_true (by first | (with_reducible assumption) | assumption)
            have q259 : x4_1 < (l0.length : Int) := of_decide_eq_true (by first | (with_reducible assumption) | assumption)
            obtain ⟨ad259, e259, hx259_0, hx259_1, hx259_2⟩ := at_T32 HR0.out x4_1 p259 q259
            cases e259
            replace p259 := eq_true p259
            replace q259 := eq_true q259
            go_wp2
            go_ret
            exact ⟨by first | rfl | (simp; done) | (simp [*]; done), by repeat (first | exact Drawn0.refl _ | apply Drawn0.step)⟩
          · rw [if_neg c4] at H
            have c4b0 : decide (2500 < (wrap64 ((wrap64 (x3_1 + 1)) + (((rd_T32 l0 x4_1).f1).size : Int)))) = false := decide_eq_false c4
            clear c4
            have H' := Aside0.mk H
            clear H
            have p259 : 0 ≤ (x4_1 : Int) := of_decide_eq_true (by first | (with_reducible assumption) | assumption)
            have q259 : x4_1 < (l0.length : Int) := of_decide_eq_true (by first | (with_reducible assumption) | assumption)
            obtain ⟨ad259, e259, hx259_0, hx259_1, hx259_2⟩ := at_T32 HR0.out x4_1 p259 q259
            cases e259
            replace p259 := eq_true p259
            replace q259 := eq_true q259
            go_wp2
            go_roundg k1
            case measure => have := HK1.out; omega
            case rel => exact ⟨(wrap64 ((wrap64 (x3_1 + 1)) + (((rd_T32 l0 x4_1).f1).size : Int))), (wrap64 (x4_1 + 1)), (by first | rfl | (simp; done) | (simp [*]; done)), (by first | rfl | (simp; done) | (simp [*]; done)), H', ⟨by have := HK1.out; omega⟩, by repeat (first | exact Drawn0.refl _ | apply Drawn0.step)⟩
        · rw [if_neg c3] at H
          exact absurd H (by simp)
      · rw [if_neg c2] at H
        have c2b0 : decide (x4_1 < (l0.length : Int)) = false := decide_eq_false c2
        clear c2
        obtain rfl := Option.some.inj H
        go_wp2
        go_ret
        exact ⟨by first | rfl | (simp; done) | (simp [*]; done), by repeat (first | exact Drawn0.refl _ | apply Drawn0.step)⟩

end Go.Proofs.YtfjhnljidfdhjaaDoor.Q
