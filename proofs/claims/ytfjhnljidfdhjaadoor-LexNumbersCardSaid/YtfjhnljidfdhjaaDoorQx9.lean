-- Written by a program of the prover's (a print of the translation, with contracts of its own); nothing in it is trusted: Lean checks it.
import Derived.Test.YtfjhnljidfdhjaaDoorQx0
import Derived.Test.YtfjhnljidfdhjaaDoorQx2
import Derived.Test.YtfjhnljidfdhjaaDoorQx3
namespace Go.Proofs.YtfjhnljidfdhjaaDoor.Q
open Go.RowKit Go.Proofs.YtfjhnljidfdhjaaDoorW.PrintWords Go.Proofs.YtfjhnljidfdhjaaDoorW.PrintLast Go.Proofs.YtfjhnljidfdhjaaDoorW.PrintMore
attribute [local go_sem] max2_int min2_int max_two min_two max_three min_three max_four min_four   -- for this text's walks alone
set_option linter.unusedVariables false
set_option linter.unusedSimpArgs false

/-! ### tammylaw06_LexNumbers: function 6 -/
mutual
def tammylaw06_LexNumbers.l0 : Nat → ByteArray → Bool → Int → ByteArray → Int → Option (Bool)
  | 0, _, _, _, _, _ => none
  | k + 1, x1, x5, x6, x7, x8 => if x8 > 0 then ((some (([(wrap64 (48 + (Int.tmod x8 10))) % 256] : List Int) : List Int)).bind fun y215 => (if (strOfNums y215).size + x7.size ≤ 9223372036854775807 then (tammylaw06_LexNumbers.l0 k x1 x5 x6 ((strOfNums y215) ++ x7) (wrap64 (Int.tdiv x8 10))) else (none))) else (if x6 = 0 then (tammylaw06_LexNumbers.j1 k x1 x5 x6 (⟨#[48]⟩ : ByteArray)) else (tammylaw06_LexNumbers.j1 k x1 x5 x6 x7))
def tammylaw06_LexNumbers.j1 : Nat → ByteArray → Bool → Int → ByteArray → Option (Bool)
  | 0, _, _, _, _ => none
  | k + 1, x1, x5, x6, x7 => (lex_Number.f k x7).bind fun bt218 => (if 1 + x7.size ≤ 9223372036854775807 then ((lex_Number.f k ((⟨#[48]⟩ : ByteArray) ++ x7)).bind fun bt220 => (if x7.size + 10 ≤ 9223372036854775807 then ((lex_Number.f k (x7 ++ (⟨#[48, 48, 48, 48, 48, 48, 48, 48, 48, 48]⟩ : ByteArray))).bind fun bt222 => ((lex_Number.f k x1).bind fun bt224 => (if x5 = true then (if bt218.2 = true then (if bt218.1 = x6 then (if bt220.2 = true then (some false) else (if bt222.2 = true then (some false) else (if bt224.2 = true then (if (x1.size : Int) ≤ 9 then (some (decide ((x1.size : Int) > 0))) else (some false)) else (if bt224.1 = 0 then (some true) else (some false))))) else (some false)) else (some false)) else (some false)))) else (none))) else (none))
end
def tammylaw06_LexNumbers.f (k : Nat) (a0 : Int) (a1 : ByteArray) : Option (Bool) := (tammylaw06_shown.f k).bind fun t214 => (if (a1.size : Int) > 50 then (some t214) else (tammylaw06_LexNumbers.l0 k a1 t214 (wrap64 (Int.tmod a0 1000000000)) (⟨#[]⟩ : ByteArray) (wrap64 (Int.tmod a0 1000000000))))
theorem tammylaw06_LexNumbers.mono_l : ∀ k, (∀ y0 y1 y2 y3 y4, LeO (tammylaw06_LexNumbers.l0 k y0 y1 y2 y3 y4) (tammylaw06_LexNumbers.l0 (k + 1) y0 y1 y2 y3 y4)) ∧ (∀ y0 y1 y2 y3, LeO (tammylaw06_LexNumbers.j1 k y0 y1 y2 y3) (tammylaw06_LexNumbers.j1 (k + 1) y0 y1 y2 y3))
  | 0 => ⟨fun _ _ _ _ _ r h => by simp [tammylaw06_LexNumbers.l0] at h, fun _ _ _ _ r h => by simp [tammylaw06_LexNumbers.j1] at h⟩
  | k + 1 => by
    obtain ⟨ih0, ih1⟩ := tammylaw06_LexNumbers.mono_l k
    refine ⟨?_, ?_⟩
    · intro y0 y1 y2 y3 y4
      unfold tammylaw06_LexNumbers.l0
      repeat' first
      | (with_reducible exact ih0 _ _ _ _ _)
      | (with_reducible exact ih1 _ _ _ _)
      | (with_reducible exact lex_Number.mono _ _)
      | (with_reducible exact tammylaw06_shown.mono _)
      | (with_reducible exact LeO.refl _)
      | (with_reducible exact LeO.none _)
      | (with_reducible refine LeO.ite ?_ ?_)
      | (with_reducible refine LeO.bind ?_ (fun _ => ?_))
      | exact ih0 _ _ _ _ _
      | exact ih1 _ _ _ _
      | exact lex_Number.mono _ _
      | exact tammylaw06_shown.mono _
      | exact LeO.none _
      | refine LeO.ite ?_ ?_
      | refine LeO.bind ?_ (fun _ => ?_)
    · intro y0 y1 y2 y3
      unfold tammylaw06_LexNumbers.j1
      repeat' first
      | (with_reducible exact ih0 _ _ _ _ _)
      | (with_reducible exact ih1 _ _ _ _)
      | (with_reducible exact lex_Number.mono _ _)
      | (with_reducible exact tammylaw06_shown.mono _)
      | (with_reducible exact LeO.refl _)
      | (with_reducible exact LeO.none _)
      | (with_reducible refine LeO.ite ?_ ?_)
      | (with_reducible refine LeO.bind ?_ (fun _ => ?_))
      | exact ih0 _ _ _ _ _
      | exact ih1 _ _ _ _
      | exact lex_Number.mono _ _
      | exact tammylaw06_shown.mono _
      | exact LeO.none _
      | refine LeO.ite ?_ ?_
      | refine LeO.bind ?_ (fun _ => ?_)
theorem tammylaw06_LexNumbers.mono : ∀ a0 a1 k, LeO (tammylaw06_LexNumbers.f k a0 a1) (tammylaw06_LexNumbers.f (k + 1) a0 a1) := by
  intro a0 a1 k
  obtain ⟨ih0, ih1⟩ := tammylaw06_LexNumbers.mono_l k
  unfold tammylaw06_LexNumbers.f
  repeat' first
      | (with_reducible exact ih0 _ _ _ _ _)
      | (with_reducible exact ih1 _ _ _ _)
      | (with_reducible exact lex_Number.mono _ _)
      | (with_reducible exact tammylaw06_shown.mono _)
      | (with_reducible exact LeO.refl _)
      | (with_reducible exact LeO.none _)
      | (with_reducible refine LeO.ite ?_ ?_)
      | (with_reducible refine LeO.bind ?_ (fun _ => ?_))
      | exact ih0 _ _ _ _ _
      | exact ih1 _ _ _ _
      | exact lex_Number.mono _ _
      | exact tammylaw06_shown.mono _
      | exact LeO.none _
      | refine LeO.ite ?_ ?_
      | refine LeO.bind ?_ (fun _ => ?_)
set_option maxHeartbeats 8000000 in
set_option maxRecDepth 100000 in
theorem tammylaw06_LexNumbers.calls (k : Nat) (a0 : Int) (a1 : ByteArray) (r : Bool) (w : World) (h : tammylaw06_LexNumbers.f k a0 a1 = some r) :
    Calls Tryd.prog 6 #[.int .u32 a0, .string a1] w fun e w' => e = .returned (.bool r) ∧ Below w.heap.size w w' := by
  have HB := Aside0.mk (Below.refl w.heap.size w)
  have H : ((tammylaw06_shown.f k).bind fun t214 => (if (a1.size : Int) > 50 then (some t214) else (tammylaw06_LexNumbers.l0 k a1 t214 (wrap64 (Int.tmod a0 1000000000)) (⟨#[]⟩ : ByteArray) (wrap64 (Int.tmod a0 1000000000))))) = some r := h
  clear h
  replace H := Option.bind_eq_some_iff.mp H
  obtain ⟨t214, A30, H⟩ := H
  replace H : (if (a1.size : Int) > 50 then (some t214) else (tammylaw06_LexNumbers.l0 k a1 t214 (wrap64 (Int.tmod a0 1000000000)) (⟨#[]⟩ : ByteArray) (wrap64 (Int.tmod a0 1000000000)))) = some r := H
  have A3 := Aside0.mk A30
  clear A30
  by_cases c4 : (a1.size : Int) > 50
  · rw [if_pos c4] at H
    have c4b0 : decide (50 < (a1.size : Int)) = true := decide_eq_true c4
    have c4b1 : decide (50 < a1.size) = true := decide_eq_true (by omega)
    clear c4
    obtain rfl := Option.some.inj H
    go_enter Tryd.func6, Tryd.ntmps6
    go_wp2_with (first | ((with_reducible refine gate_callee (f := 10) rfl ?_); refine goesL_ (some 17) rfl rfl Tryd.func10 (by kernel_rfl) rfl #[] rfl (by (try simp only [List.map_toArray, List.map_cons, List.map_nil]); first | done | rfl | (simp only [List.length_drop, List.length_take]; rfl)) ?_; (with_reducible refine (tammylaw06_shown.calls k  t214 _ A3.out).mono ?_); rintro e w5 ⟨rfl, hb⟩; refine ⟨_, rfl, ?_⟩; have n0_ := Aside0.mk (below_step (by repeat (first | (with_reducible first | exact HB.out | apply below_alloc | apply pw_below_drewN | apply below_drew1) | exact HB.out)) hb); clear HB; have HB := n0_; clear n0_; (try clear hb); (try clear hb2); (try clear hk); (try clear hi)))
    go_ret
    exact ⟨by first | rfl | (simp [errW_none, errW_some] <;> rfl) | (simp [*, errW_none, errW_some] <;> rfl), by repeat (first | (with_reducible first | exact HB.out | apply below_alloc | apply pw_below_drewN | apply below_drew1) | exact HB.out)⟩
  · rw [if_neg c4] at H
    have c4b0 : decide (50 < (a1.size : Int)) = false := decide_eq_false c4
    have c4b1 : decide (50 < a1.size) = false := decide_eq_false (by omega)
    clear c4
    have H' := Aside0.mk H
    clear H
    go_enter Tryd.func6, Tryd.ntmps6
    go_wp2_with (first | ((with_reducible refine gate_callee (f := 10) rfl ?_); refine goesL_ (some 17) rfl rfl Tryd.func10 (by kernel_rfl) rfl #[] rfl (by (try simp only [List.map_toArray, List.map_cons, List.map_nil]); first | done | rfl | (simp only [List.length_drop, List.length_take]; rfl)) ?_; (with_reducible refine (tammylaw06_shown.calls k  t214 _ A3.out).mono ?_); rintro e w6 ⟨rfl, hb⟩; refine ⟨_, rfl, ?_⟩; have n0_ := Aside0.mk (below_step (by repeat (first | (with_reducible first | exact HB.out | apply below_alloc | apply pw_below_drewN | apply below_drew1) | exact HB.out)) hb); clear HB; have HB := n0_; clear n0_; (try clear hb); (try clear hb2); (try clear hk); (try clear hi)))
    go_loopg [7, 8] k (fun kq v7 v8 w' => ∃ (x7_1 : ByteArray) (x8_1 : Int), v7 = .string x7_1 ∧ v8 = .int .i64 x8_1 ∧ Aside0 (tammylaw06_LexNumbers.l0 kq a1 t214 (wrap64 (Int.tmod a0 1000000000)) x7_1 x8_1 = some r) ∧ Aside0 (kq ≤ k) ∧ Aside0 (Below w.heap.size w w'))
    case atStart => exact ⟨((⟨#[]⟩ : ByteArray)), (wrap64 (Int.tmod a0 1000000000)), (by first | rfl | (simp; done) | (simp [*]; done)), (by first | rfl | (simp; done) | (simp [*]; done)), H', ⟨Nat.le_refl _⟩, ⟨by repeat (first | (with_reducible first | exact HB.out | apply below_alloc | apply pw_below_drewN | apply below_drew1) | exact HB.out)⟩⟩
    case round =>
      clear H'
      try clear c1
      try clear p2
      try clear c4
      try clear c4b0
      try clear c4b1
      try clear c6
      try clear p6
      obtain ⟨x7_1, x8_1, rfl, rfl, HA, HK1, HB⟩ := hrel
      cases gk with
      | zero => exact absurd HA.out (by simp [tammylaw06_LexNumbers.l0])
      | succ k1 =>
        have H := HA.out
        clear HA
        simp only [tammylaw06_LexNumbers.l0] at H
        by_cases c7 : x8_1 > 0
        · rw [if_pos c7] at H
          have c7b0 : decide (0 < x8_1) = true := decide_eq_true c7
          clear c7
          obtain ⟨y215, hy215⟩ : ∃ y_ : List Int, y_ = (([(wrap64 (48 + (Int.tmod x8_1 10))) % 256] : List Int)) := ⟨_, rfl⟩
          replace H : (if (strOfNums y215).size + x7_1.size ≤ 9223372036854775807 then (tammylaw06_LexNumbers.l0 k1 a1 t214 (wrap64 (Int.tmod a0 1000000000)) ((strOfNums y215) ++ x7_1) (wrap64 (Int.tdiv x8_1 10))) else (none)) = some r := by first | (rw [hy215]; with_reducible exact H) | (have H2_ := (Option.bind_some _ _).symm.trans H; rw [hy215]; with_reducible exact H2_) | (have H2_ := (Option.bind_some _ _).symm.trans H; with_reducible exact H2_) | with_reducible exact H | (rw [hy215]; exact H) | exact H
          have Ny215 := Aside0.mk hy215
          clear hy215
          by_cases c8 : (strOfNums y215).size + x7_1.size ≤ 9223372036854775807
          · rw [if_pos c8] at H
            have c8b0 := eq_true c8
            have c8b1 : decide ((strOfNums y215).size + x7_1.size ≤ 9223372036854775807) = true := decide_eq_true c8
            try have c8b2 : (9223372036854775807 < (strOfNums y215).size + x7_1.size) = False := eq_false (Nat.not_lt.2 c8)
            have H' := Aside0.mk H
            clear H
            go_wp2_with (first | ((with_reducible refine gate_dst (N := 34) rfl ?_); (try (refine gate_guard (by rfl) ?_; dsimp only)); refine Kd.R_lit (Kd.int .u8) _ 5 ?hg (N := 34) ?hd (xs := ([(wrap64 (48 + (Int.tmod x8_1 10))) % 256] : List Int)) (inner := [.int .u8 ((wrap64 (48 + (Int.tmod x8_1 10))) % 256)]) (ok := fun _ => True) (okp := fun _ => True) ?hr ?hp (fun _ hk => hk) trivial (Below.refl _ _) (Nat.le_refl _) (by simp) ?_; (case hd => rfl); (case hg => rfl); (case hr => first | (go_simp; done) | (go_simp; rfl)); (case hp => exact (Reps.one (show Kd.M (Kd.int .u8) _ _ _ ((wrap64 (48 + (Int.tmod x8_1 10))) % 256) [.int .u8 ((wrap64 (48 + (Int.tmod x8_1 10))) % 256)] from rfl) (Reps.none _ _))); intro v216 w9 ho10 hb hg_ hnew_; clear hg_ hnew_; (first | rw [← Ny215.out] at ho10 | (simp only [Int.reduceToNat] at ho10; rw [← Ny215.out] at ho10)); have n0_ := Aside0.mk (Kd.R_lower ho10 (below_size (by repeat (first | (with_reducible first | exact HB.out | apply below_alloc | apply pw_below_drewN | apply below_drew1) | exact HB.out)))); have n1_ := Aside0.mk (below_step (by repeat (first | (with_reducible first | exact HB.out | apply below_alloc | apply pw_below_drewN | apply below_drew1) | exact HB.out)) hb); clear HB; have HO217 := n0_; have HB := n1_; clear n0_ n1_; clear hb ho10; have hcv11 := own_string (P := Tryd.prog) Tryd.underlying36 Tryd.underlying5 Tryd.underlying9 (Kd.own_of_R HO217.out)))
            go_roundg k1
            case measure => have := HK1.out; omega
            case rel => exact ⟨((strOfNums y215) ++ x7_1), (wrap64 (Int.tdiv x8_1 10)), (by first | rfl | (simp; done) | (simp [*]; done)), (by first | rfl | (simp; done) | (simp [*]; done)), H', ⟨by have := HK1.out; omega⟩, ⟨by repeat (first | (with_reducible first | exact HB.out | apply below_alloc | apply pw_below_drewN | apply below_drew1) | exact HB.out)⟩⟩
          · rw [if_neg c8] at H
            exact absurd H (by simp)
        · rw [if_neg c7] at H
          have c7b0 : decide (0 < x8_1) = false := decide_eq_false c7
          clear c7
          have HC12 := Aside0.mk H
          clear H
          go_upto_if 39 with (fail)
          go_cut [7] (fun v7 wc => ∃ (kq : Nat) (x7_11 : ByteArray), v7 = .string x7_11 ∧ Aside0 (tammylaw06_LexNumbers.j1 kq a1 t214 (wrap64 (Int.tmod a0 1000000000)) x7_11 = some r) ∧ Aside0 (kq ≤ k1) ∧ Aside0 (Below w.heap.size w wc))
          case first =>
            have H := HC12.out
            clear HC12
            by_cases c13 : (wrap64 (Int.tmod a0 1000000000)) = 0
            · rw [if_pos c13] at H
              have c13b0 : ((wrap64 (Int.tmod a0 1000000000)) == 0) = true := beq_iff_eq.mpr c13
              have c13b1 : ((wrap64 (Int.tmod a0 1000000000)) != 0) = false := bne_eq_false_iff_eq.mpr c13
              clear c13
              (first | rw [c13b0] | (simp only [i64_w, i32_w]; rw [c13b0]) | skip)
              have H' := Aside0.mk H
              clear H
              go_wp2
              go_meet
              case rel => exact ⟨_, ((⟨#[48]⟩ : ByteArray)), (by first | rfl | (simp; done) | (simp [*]; done)), H', ⟨by have := HK1.out; first | omega | exact Nat.le_refl _⟩, ⟨by repeat (first | (with_reducible first | exact HB.out | apply below_alloc | apply pw_below_drewN | apply below_drew1) | exact HB.out)⟩⟩
            · rw [if_neg c13] at H
              have c13b0 : ((wrap64 (Int.tmod a0 1000000000)) == 0) = false := beq_eq_false_iff_ne.mpr c13
              have c13b1 : ((wrap64 (Int.tmod a0 1000000000)) != 0) = true := bne_iff_ne.mpr c13
              (first | rw [c13b0] | (simp only [i64_w, i32_w]; rw [c13b0]) | skip)
              have H' := Aside0.mk H
              clear H
              go_wp2
              go_meet
              case rel => exact ⟨_, (x7_1), (by first | rfl | (simp; done) | (simp [*]; done)), H', ⟨by have := HK1.out; first | omega | exact Nat.le_refl _⟩, ⟨by repeat (first | (with_reducible first | exact HB.out | apply below_alloc | apply pw_below_drewN | apply below_drew1) | exact HB.out)⟩⟩
          case rest =>
            clear HC12
            try clear c1
            try clear hcv1
            try clear p2
            try clear c4
            try clear c4b0
            try clear c4b1
            try clear c6
            try clear p6
            try clear c7
            try clear c7b0
            try clear c8
            try clear c8b0
            try clear c8b1
            try clear c8b2
            try clear c10
            try clear hcv11
            try clear c13
            try clear c13b0
            try clear c13b1
            try clear p2
            try clear p6
            obtain ⟨kq, x7_11, rfl, HA, HJ11, HB⟩ := hcut
            cases kq with
            | zero => exact absurd HA.out (by simp [tammylaw06_LexNumbers.j1])
            | succ kj11 =>
              have H := HA.out
              clear HA
              simp only [tammylaw06_LexNumbers.j1] at H
              replace H := Option.bind_eq_some_iff.mp H
              obtain ⟨⟨t218, t219⟩, A140, H⟩ := H
              replace H : (if 1 + x7_11.size ≤ 9223372036854775807 then ((lex_Number.f kj11 ((⟨#[48]⟩ : ByteArray) ++ x7_11)).bind fun bt220 => (if x7_11.size + 10 ≤ 9223372036854775807 then ((lex_Number.f kj11 (x7_11 ++ (⟨#[48, 48, 48, 48, 48, 48, 48, 48, 48, 48]⟩ : ByteArray))).bind fun bt222 => ((lex_Number.f kj11 a1).bind fun bt224 => (if t214 = true then (if t219 = true then (if t218 = (wrap64 (Int.tmod a0 1000000000)) then (if bt220.2 = true then (some false) else (if bt222.2 = true then (some false) else (if bt224.2 = true then (if (a1.size : Int) ≤ 9 then (some (decide ((a1.size : Int) > 0))) else (some false)) else (if bt224.1 = 0 then (some true) else (some false))))) else (some false)) else (some false)) else (some false)))) else (none))) else (none)) = some r := H
              have A14 := Aside0.mk A140
              clear A140
              by_cases c15 : 1 + x7_11.size ≤ 9223372036854775807
              · rw [if_pos c15] at H
                have c15b0 := eq_true c15
                have c15b1 : decide (1 + x7_11.size ≤ 9223372036854775807) = true := decide_eq_true c15
                try have c15b2 : (9223372036854775807 < 1 + x7_11.size) = False := eq_false (Nat.not_lt.2 c15)
                replace H := Option.bind_eq_some_iff.mp H
                obtain ⟨⟨t220, t221⟩, A160, H⟩ := H
                replace H : (if x7_11.size + 10 ≤ 9223372036854775807 then ((lex_Number.f kj11 (x7_11 ++ (⟨#[48, 48, 48, 48, 48, 48, 48, 48, 48, 48]⟩ : ByteArray))).bind fun bt222 => ((lex_Number.f kj11 a1).bind fun bt224 => (if t214 = true then (if t219 = true then (if t218 = (wrap64 (Int.tmod a0 1000000000)) then (if t221 = true then (some false) else (if bt222.2 = true then (some false) else (if bt224.2 = true then (if (a1.size : Int) ≤ 9 then (some (decide ((a1.size : Int) > 0))) else (some false)) else (if bt224.1 = 0 then (some true) else (some false))))) else (some false)) else (some false)) else (some false)))) else (none)) = some r := H
                have A16 := Aside0.mk A160
                clear A160
                by_cases c17 : x7_11.size + 10 ≤ 9223372036854775807
                · rw [if_pos c17] at H
                  have c17b0 := eq_true c17
                  have c17b1 : decide (x7_11.size + 10 ≤ 9223372036854775807) = true := decide_eq_true c17
                  try have c17b2 : (9223372036854775807 < x7_11.size + 10) = False := eq_false (Nat.not_lt.2 c17)
                  replace H := Option.bind_eq_some_iff.mp H
                  obtain ⟨⟨t222, t223⟩, A180, H⟩ := H
                  replace H : ((lex_Number.f kj11 a1).bind fun bt224 => (if t214 = true then (if t219 = true then (if t218 = (wrap64 (Int.tmod a0 1000000000)) then (if t221 = true then (some false) else (if t223 = true then (some false) else (if bt224.2 = true then (if (a1.size : Int) ≤ 9 then (some (decide ((a1.size : Int) > 0))) else (some false)) else (if bt224.1 = 0 then (some true) else (some false))))) else (some false)) else (some false)) else (some false))) = some r := H
                  have A18 := Aside0.mk A180
                  clear A180
                  replace H := Option.bind_eq_some_iff.mp H
                  obtain ⟨⟨t224, t225⟩, A190, H⟩ := H
                  replace H : (if t214 = true then (if t219 = true then (if t218 = (wrap64 (Int.tmod a0 1000000000)) then (if t221 = true then (some false) else (if t223 = true then (some false) else (if t225 = true then (if (a1.size : Int) ≤ 9 then (some (decide ((a1.size : Int) > 0))) else (some false)) else (if t224 = 0 then (some true) else (some false))))) else (some false)) else (some false)) else (some false)) = some r := H
                  have A19 := Aside0.mk A190
                  clear A190
                  by_cases c20 : t214 = true
                  · subst c20
                    have H1 : (if t219 = true then (if t218 = (wrap64 (Int.tmod a0 1000000000)) then (if t221 = true then (some false) else (if t223 = true then (some false) else (if t225 = true then (if (a1.size : Int) ≤ 9 then (some (decide ((a1.size : Int) > 0))) else (some false)) else (if t224 = 0 then (some true) else (some false))))) else (some false)) else (some false)) = some r := by rw [if_pos rfl] at H; exact H
                    clear H
                    have H := H1
                    clear H1
                    by_cases c21 : t219 = true
                    · subst c21
                      have H1 : (if t218 = (wrap64 (Int.tmod a0 1000000000)) then (if t221 = true then (some false) else (if t223 = true then (some false) else (if t225 = true then (if (a1.size : Int) ≤ 9 then (some (decide ((a1.size : Int) > 0))) else (some false)) else (if t224 = 0 then (some true) else (some false))))) else (some false)) = some r := by rw [if_pos rfl] at H; exact H
                      clear H
                      have H := H1
                      clear H1
                      by_cases c22 : t218 = (wrap64 (Int.tmod a0 1000000000))
                      · rw [if_pos c22] at H
                        have c22b0 : (t218 == (wrap64 (Int.tmod a0 1000000000))) = true := beq_iff_eq.mpr c22
                        have c22b1 : (t218 != (wrap64 (Int.tmod a0 1000000000))) = false := bne_eq_false_iff_eq.mpr c22
                        clear c22
                        by_cases c23 : t221 = true
                        · subst c23
                          have H1 : (some false) = some r := by rw [if_pos rfl] at H; exact H
                          clear H
                          have H := H1
                          clear H1
                          obtain rfl := Option.some.inj H
                          go_wp2_with (first | ((with_reducible refine gate_callee (f := 15) rfl ?_); refine goesL_ (some 42) rfl rfl Tryd.func15 (by kernel_rfl) rfl #[.string x7_11] rfl (by (try simp only [List.map_toArray, List.map_cons, List.map_nil]); first | done | rfl | (simp only [List.length_drop, List.length_take]; rfl)) ?_; (with_reducible refine (lex_Number.calls kj11 x7_11 t218 true _ A14.out).mono ?_); rintro e w24 ⟨rfl, hb⟩; refine ⟨_, rfl, ?_⟩; have n0_ := Aside0.mk (below_step (by repeat (first | (with_reducible first | exact HB.out | apply below_alloc | apply pw_below_drewN | apply below_drew1) | exact HB.out)) hb); clear HB; have HB := n0_; clear n0_; (try clear hb); (try clear hb2); (try clear hk); (try clear hi)) | ((with_reducible refine gate_callee (f := 15) rfl ?_); refine goesL_ (some 48) rfl rfl Tryd.func15 (by kernel_rfl) rfl #[.string ((⟨#[48]⟩ : ByteArray) ++ x7_11)] rfl (by (try simp only [List.map_toArray, List.map_cons, List.map_nil]); first | done | rfl | (simp only [List.length_drop, List.length_take]; rfl)) ?_; (with_reducible refine (lex_Number.calls kj11 ((⟨#[48]⟩ : ByteArray) ++ x7_11) t220 true _ A16.out).mono ?_); rintro e w25 ⟨rfl, hb⟩; refine ⟨_, rfl, ?_⟩; have n0_ := Aside0.mk (below_step (by repeat (first | (with_reducible first | exact HB.out | apply below_alloc | apply pw_below_drewN | apply below_drew1) | exact HB.out)) hb); clear HB; have HB := n0_; clear n0_; (try clear hb); (try clear hb2); (try clear hk); (try clear hi)) | ((with_reducible refine gate_callee (f := 15) rfl ?_); refine goesL_ (some 54) rfl rfl Tryd.func15 (by kernel_rfl) rfl #[.string (x7_11 ++ (⟨#[48, 48, 48, 48, 48, 48, 48, 48, 48, 48]⟩ : ByteArray))] rfl (by (try simp only [List.map_toArray, List.map_cons, List.map_nil]); first | done | rfl | (simp only [List.length_drop, List.length_take]; rfl)) ?_; (with_reducible refine (lex_Number.calls kj11 (x7_11 ++ (⟨#[48, 48, 48, 48, 48, 48, 48, 48, 48, 48]⟩ : ByteArray)) t222 t223 _ A18.out).mono ?_); rintro e w26 ⟨rfl, hb⟩; refine ⟨_, rfl, ?_⟩; have n0_ := Aside0.mk (below_step (by repeat (first | (with_reducible first | exact HB.out | apply below_alloc | apply pw_below_drewN | apply below_drew1) | exact HB.out)) hb); clear HB; have HB := n0_; clear n0_; (try clear hb); (try clear hb2); (try clear hk); (try clear hi)) | ((with_reducible refine gate_callee (f := 15) rfl ?_); refine goesL_ (some 59) rfl rfl Tryd.func15 (by kernel_rfl) rfl #[.string a1] rfl (by (try simp only [List.map_toArray, List.map_cons, List.map_nil]); first | done | rfl | (simp only [List.length_drop, List.length_take]; rfl)) ?_; (with_reducible refine (lex_Number.calls kj11 a1 t224 t225 _ A19.out).mono ?_); rintro e w27 ⟨rfl, hb⟩; refine ⟨_, rfl, ?_⟩; have n0_ := Aside0.mk (below_step (by repeat (first | (with_reducible first | exact HB.out | apply below_alloc | apply pw_below_drewN | apply below_drew1) | exact HB.out)) hb); clear HB; have HB := n0_; clear n0_; (try clear hb); (try clear hb2); (try clear hk); (try clear hi)))
                          go_ret
                          exact ⟨by first | rfl | (simp [errW_none, errW_some] <;> rfl) | (simp [*, errW_none, errW_some] <;> rfl), by repeat (first | (with_reducible first | exact HB.out | apply below_alloc | apply pw_below_drewN | apply below_drew1) | exact HB.out)⟩
                        · replace c23 := Bool.eq_false_iff.mpr c23
                          subst c23
                          have H1 : (if t223 = true then (some false) else (if t225 = true then (if (a1.size : Int) ≤ 9 then (some (decide ((a1.size : Int) > 0))) else (some false)) else (if t224 = 0 then (some true) else (some false)))) = some r := by rw [if_neg (show ¬ (false = true) by decide)] at H; exact H
                          clear H
                          have H := H1
                          clear H1
                          by_cases c28 : t223 = true
                          · subst c28
                            have H1 : (some false) = some r := by rw [if_pos rfl] at H; exact H
                            clear H
                            have H := H1
                            clear H1
                            obtain rfl := Option.some.inj H
                            go_wp2_with (first | ((with_reducible refine gate_callee (f := 15) rfl ?_); refine goesL_ (some 42) rfl rfl Tryd.func15 (by kernel_rfl) rfl #[.string x7_11] rfl (by (try simp only [List.map_toArray, List.map_cons, List.map_nil]); first | done | rfl | (simp only [List.length_drop, List.length_take]; rfl)) ?_; (with_reducible refine (lex_Number.calls kj11 x7_11 t218 true _ A14.out).mono ?_); rintro e w29 ⟨rfl, hb⟩; refine ⟨_, rfl, ?_⟩; have n0_ := Aside0.mk (below_step (by repeat (first | (with_reducible first | exact HB.out | apply below_alloc | apply pw_below_drewN | apply below_drew1) | exact HB.out)) hb); clear HB; have HB := n0_; clear n0_; (try clear hb); (try clear hb2); (try clear hk); (try clear hi)) | ((with_reducible refine gate_callee (f := 15) rfl ?_); refine goesL_ (some 48) rfl rfl Tryd.func15 (by kernel_rfl) rfl #[.string ((⟨#[48]⟩ : ByteArray) ++ x7_11)] rfl (by (try simp only [List.map_toArray, List.map_cons, List.map_nil]); first | done | rfl | (simp only [List.length_drop, List.length_take]; rfl)) ?_; (with_reducible refine (lex_Number.calls kj11 ((⟨#[48]⟩ : ByteArray) ++ x7_11) t220 false _ A16.out).mono ?_); rintro e w30 ⟨rfl, hb⟩; refine ⟨_, rfl, ?_⟩; have n0_ := Aside0.mk (below_step (by repeat (first | (with_reducible first | exact HB.out | apply below_alloc | apply pw_below_drewN | apply below_drew1) | exact HB.out)) hb); clear HB; have HB := n0_; clear n0_; (try clear hb); (try clear hb2); (try clear hk); (try clear hi)) | ((with_reducible refine gate_callee (f := 15) rfl ?_); refine goesL_ (some 54) rfl rfl Tryd.func15 (by kernel_rfl) rfl #[.string (x7_11 ++ (⟨#[48, 48, 48, 48, 48, 48, 48, 48, 48, 48]⟩ : ByteArray))] rfl (by (try simp only [List.map_toArray, List.map_cons, List.map_nil]); first | done | rfl | (simp only [List.length_drop, List.length_take]; rfl)) ?_; (with_reducible refine (lex_Number.calls kj11 (x7_11 ++ (⟨#[48, 48, 48, 48, 48, 48, 48, 48, 48, 48]⟩ : ByteArray)) t222 true _ A18.out).mono ?_); rintro e w31 ⟨rfl, hb⟩; refine ⟨_, rfl, ?_⟩; have n0_ := Aside0.mk (below_step (by repeat (first | (with_reducible first | exact HB.out | apply below_alloc | apply pw_below_drewN | apply below_drew1) | exact HB.out)) hb); clear HB; have HB := n0_; clear n0_; (try clear hb); (try clear hb2); (try clear hk); (try clear hi)) | ((with_reducible refine gate_callee (f := 15) rfl ?_); refine goesL_ (some 59) rfl rfl Tryd.func15 (by kernel_rfl) rfl #[.string a1] rfl (by (try simp only [List.map_toArray, List.map_cons, List.map_nil]); first | done | rfl | (simp only [List.length_drop, List.length_take]; rfl)) ?_; (with_reducible refine (lex_Number.calls kj11 a1 t224 t225 _ A19.out).mono ?_); rintro e w32 ⟨rfl, hb⟩; refine ⟨_, rfl, ?_⟩; have n0_ := Aside0.mk (below_step (by repeat (first | (with_reducible first | exact HB.out | apply below_alloc | apply pw_below_drewN | apply below_drew1) | exact HB.out)) hb); clear HB; have HB := n0_; clear n0_; (try clear hb); (try clear hb2); (try clear hk); (try clear hi)))
                            go_ret
                            exact ⟨by first | rfl | (simp [errW_none, errW_some] <;> rfl) | (simp [*, errW_none, errW_some] <;> rfl), by repeat (first | (with_reducible first | exact HB.out | apply below_alloc | apply pw_below_drewN | apply below_drew1) | exact HB.out)⟩
                          · replace c28 := Bool.eq_false_iff.mpr c28
                            subst c28
                            have H1 : (if t225 = true then (if (a1.size : Int) ≤ 9 then (some (decide ((a1.size : Int) > 0))) else (some false)) else (if t224 = 0 then (some true) else (some false))) = some r := by rw [if_neg (show ¬ (false = true) by decide)] at H; exact H
                            clear H
                            have H := H1
                            clear H1
                            by_cases c33 : t225 = true
                            · subst c33
                              have H1 : (if (a1.size : Int) ≤ 9 then (some (decide ((a1.size : Int) > 0))) else (some false)) = some r := by rw [if_pos rfl] at H; exact H
                              clear H
                              have H := H1
                              clear H1
                              by_cases c34 : (a1.size : Int) ≤ 9
                              · rw [if_pos c34] at H
                                have c34b0 : decide ((a1.size : Int) ≤ 9) = true := decide_eq_true c34
                                have c34b1 : decide (a1.size ≤ 9) = true := decide_eq_true (by omega)
                                clear c34
                                obtain rfl := Option.some.inj H
                                go_wp2_with (first | ((with_reducible refine gate_callee (f := 15) rfl ?_); refine goesL_ (some 42) rfl rfl Tryd.func15 (by kernel_rfl) rfl #[.string x7_11] rfl (by (try simp only [List.map_toArray, List.map_cons, List.map_nil]); first | done | rfl | (simp only [List.length_drop, List.length_take]; rfl)) ?_; (with_reducible refine (lex_Number.calls kj11 x7_11 t218 true _ A14.out).mono ?_); rintro e w35 ⟨rfl, hb⟩; refine ⟨_, rfl, ?_⟩; have n0_ := Aside0.mk (below_step (by repeat (first | (with_reducible first | exact HB.out | apply below_alloc | apply pw_below_drewN | apply below_drew1) | exact HB.out)) hb); clear HB; have HB := n0_; clear n0_; (try clear hb); (try clear hb2); (try clear hk); (try clear hi)) | ((with_reducible refine gate_callee (f := 15) rfl ?_); refine goesL_ (some 48) rfl rfl Tryd.func15 (by kernel_rfl) rfl #[.string ((⟨#[48]⟩ : ByteArray) ++ x7_11)] rfl (by (try simp only [List.map_toArray, List.map_cons, List.map_nil]); first | done | rfl | (simp only [List.length_drop, List.length_take]; rfl)) ?_; (with_reducible refine (lex_Number.calls kj11 ((⟨#[48]⟩ : ByteArray) ++ x7_11) t220 false _ A16.out).mono ?_); rintro e w36 ⟨rfl, hb⟩; refine ⟨_, rfl, ?_⟩; have n0_ := Aside0.mk (below_step (by repeat (first | (with_reducible first | exact HB.out | apply below_alloc | apply pw_below_drewN | apply below_drew1) | exact HB.out)) hb); clear HB; have HB := n0_; clear n0_; (try clear hb); (try clear hb2); (try clear hk); (try clear hi)) | ((with_reducible refine gate_callee (f := 15) rfl ?_); refine goesL_ (some 54) rfl rfl Tryd.func15 (by kernel_rfl) rfl #[.string (x7_11 ++ (⟨#[48, 48, 48, 48, 48, 48, 48, 48, 48, 48]⟩ : ByteArray))] rfl (by (try simp only [List.map_toArray, List.map_cons, List.map_nil]); first | done | rfl | (simp only [List.length_drop, List.length_take]; rfl)) ?_; (with_reducible refine (lex_Number.calls kj11 (x7_11 ++ (⟨#[48, 48, 48, 48, 48, 48, 48, 48, 48, 48]⟩ : ByteArray)) t222 false _ A18.out).mono ?_); rintro e w37 ⟨rfl, hb⟩; refine ⟨_, rfl, ?_⟩; have n0_ := Aside0.mk (below_step (by repeat (first | (with_reducible first | exact HB.out | apply below_alloc | apply pw_below_drewN | apply below_drew1) | exact HB.out)) hb); clear HB; have HB := n0_; clear n0_; (try clear hb); (try clear hb2); (try clear hk); (try clear hi)) | ((with_reducible refine gate_callee (f := 15) rfl ?_); refine goesL_ (some 59) rfl rfl Tryd.func15 (by kernel_rfl) rfl #[.string a1] rfl (by (try simp only [List.map_toArray, List.map_cons, List.map_nil]); first | done | rfl | (simp only [List.length_drop, List.length_take]; rfl)) ?_; (with_reducible refine (lex_Number.calls kj11 a1 t224 true _ A19.out).mono ?_); rintro e w38 ⟨rfl, hb⟩; refine ⟨_, rfl, ?_⟩; have n0_ := Aside0.mk (below_step (by repeat (first | (with_reducible first | exact HB.out | apply below_alloc | apply pw_below_drewN | apply below_drew1) | exact HB.out)) hb); clear HB; have HB := n0_; clear n0_; (try clear hb); (try clear hb2); (try clear hk); (try clear hi)))
                                go_ret
                                exact ⟨by first | rfl | (simp [errW_none, errW_some] <;> rfl) | (simp [*, errW_none, errW_some] <;> rfl), by repeat (first | (with_reducible first | exact HB.out | apply below_alloc | apply pw_below_drewN | apply below_drew1) | exact HB.out)⟩
                              · rw [if_neg c34] at H
                                have c34b0 : decide ((a1.size : Int) ≤ 9) = false := decide_eq_false c34
                                have c34b1 : decide (a1.size ≤ 9) = false := decide_eq_false (by omega)
                                clear c34
                                obtain rfl := Option.some.inj H
                                go_wp2_with (first | ((with_reducible refine gate_callee (f := 15) rfl ?_); refine goesL_ (some 42) rfl rfl Tryd.func15 (by kernel_rfl) rfl #[.string x7_11] rfl (by (try simp only [List.map_toArray, List.map_cons, List.map_nil]); first | done | rfl | (simp only [List.length_drop, List.length_take]; rfl)) ?_; (with_reducible refine (lex_Number.calls kj11 x7_11 t218 true _ A14.out).mono ?_); rintro e w39 ⟨rfl, hb⟩; refine ⟨_, rfl, ?_⟩; have n0_ := Aside0.mk (below_step (by repeat (first | (with_reducible first | exact HB.out | apply below_alloc | apply pw_below_drewN | apply below_drew1) | exact HB.out)) hb); clear HB; have HB := n0_; clear n0_; (try clear hb); (try clear hb2); (try clear hk); (try clear hi)) | ((with_reducible refine gate_callee (f := 15) rfl ?_); refine goesL_ (some 48) rfl rfl Tryd.func15 (by kernel_rfl) rfl #[.string ((⟨#[48]⟩ : ByteArray) ++ x7_11)] rfl (by (try simp only [List.map_toArray, List.map_cons, List.map_nil]); first | done | rfl | (simp only [List.length_drop, List.length_take]; rfl)) ?_; (with_reducible refine (lex_Number.calls kj11 ((⟨#[48]⟩ : ByteArray) ++ x7_11) t220 false _ A16.out).mono ?_); rintro e w40 ⟨rfl, hb⟩; refine ⟨_, rfl, ?_⟩; have n0_ := Aside0.mk (below_step (by repeat (first | (with_reducible first | exact HB.out | apply below_alloc | apply pw_below_drewN | apply below_drew1) | exact HB.out)) hb); clear HB; have HB := n0_; clear n0_; (try clear hb); (try clear hb2); (try clear hk); (try clear hi)) | ((with_reducible refine gate_callee (f := 15) rfl ?_); refine goesL_ (some 54) rfl rfl Tryd.func15 (by kernel_rfl) rfl #[.string (x7_11 ++ (⟨#[48, 48, 48, 48, 48, 48, 48, 48, 48, 48]⟩ : ByteArray))] rfl (by (try simp only [List.map_toArray, List.map_cons, List.map_nil]); first | done | rfl | (simp only [List.length_drop, List.length_take]; rfl)) ?_; (with_reducible refine (lex_Number.calls kj11 (x7_11 ++ (⟨#[48, 48, 48, 48, 48, 48, 48, 48, 48, 48]⟩ : ByteArray)) t222 false _ A18.out).mono ?_); rintro e w41 ⟨rfl, hb⟩; refine ⟨_, rfl, ?_⟩; have n0_ := Aside0.mk (below_step (by repeat (first | (with_reducible first | exact HB.out | apply below_alloc | apply pw_below_drewN | apply below_drew1) | exact HB.out)) hb); clear HB; have HB := n0_; clear n0_; (try clear hb); (try clear hb2); (try clear hk); (try clear hi)) | ((with_reducible refine gate_callee (f := 15) rfl ?_); refine goesL_ (some 59) rfl rfl Tryd.func15 (by kernel_rfl) rfl #[.string a1] rfl (by (try simp only [List.map_toArray, List.map_cons, List.map_nil]); first | done | rfl | (simp only [List.length_drop, List.length_take]; rfl)) ?_; (with_reducible refine (lex_Number.calls kj11 a1 t224 true _ A19.out).mono ?_); rintro e w42 ⟨rfl, hb⟩; refine ⟨_, rfl, ?_⟩; have n0_ := Aside0.mk (below_step (by repeat (first | (with_reducible first | exact HB.out | apply below_alloc | apply pw_below_drewN | apply below_drew1) | exact HB.out)) hb); clear HB; have HB := n0_; clear n0_; (try clear hb); (try clear hb2); (try clear hk); (try clear hi)))
                                go_ret
                                exact ⟨by first | rfl | (simp [errW_none, errW_some] <;> rfl) | (simp [*, errW_none, errW_some] <;> rfl), by repeat (first | (with_reducible first | exact HB.out | apply below_alloc | apply pw_below_drewN | apply below_drew1) | exact HB.out)⟩
                            · replace c33 := Bool.eq_false_iff.mpr c33
                              subst c33
                              have H1 : (if t224 = 0 then (some true) else (some false)) = some r := by rw [if_neg (show ¬ (false = true) by decide)] at H; exact H
                              clear H
                              have H := H1
                              clear H1
                              by_cases c43 : t224 = 0
                              · rw [if_pos c43] at H
                                have c43b0 : (t224 == 0) = true := beq_iff_eq.mpr c43
                                have c43b1 : (t224 != 0) = false := bne_eq_false_iff_eq.mpr c43
                                clear c43
                                obtain rfl := Option.some.inj H
                                go_wp2_with (first | ((with_reducible refine gate_callee (f := 15) rfl ?_); refine goesL_ (some 42) rfl rfl Tryd.func15 (by kernel_rfl) rfl #[.string x7_11] rfl (by (try simp only [List.map_toArray, List.map_cons, List.map_nil]); first | done | rfl | (simp only [List.length_drop, List.length_take]; rfl)) ?_; (with_reducible refine (lex_Number.calls kj11 x7_11 t218 true _ A14.out).mono ?_); rintro e w44 ⟨rfl, hb⟩; refine ⟨_, rfl, ?_⟩; have n0_ := Aside0.mk (below_step (by repeat (first | (with_reducible first | exact HB.out | apply below_alloc | apply pw_below_drewN | apply below_drew1) | exact HB.out)) hb); clear HB; have HB := n0_; clear n0_; (try clear hb); (try clear hb2); (try clear hk); (try clear hi)) | ((with_reducible refine gate_callee (f := 15) rfl ?_); refine goesL_ (some 48) rfl rfl Tryd.func15 (by kernel_rfl) rfl #[.string ((⟨#[48]⟩ : ByteArray) ++ x7_11)] rfl (by (try simp only [List.map_toArray, List.map_cons, List.map_nil]); first | done | rfl | (simp only [List.length_drop, List.length_take]; rfl)) ?_; (with_reducible refine (lex_Number.calls kj11 ((⟨#[48]⟩ : ByteArray) ++ x7_11) t220 false _ A16.out).mono ?_); rintro e w45 ⟨rfl, hb⟩; refine ⟨_, rfl, ?_⟩; have n0_ := Aside0.mk (below_step (by repeat (first | (with_reducible first | exact HB.out | apply below_alloc | apply pw_below_drewN | apply below_drew1) | exact HB.out)) hb); clear HB; have HB := n0_; clear n0_; (try clear hb); (try clear hb2); (try clear hk); (try clear hi)) | ((with_reducible refine gate_callee (f := 15) rfl ?_); refine goesL_ (some 54) rfl rfl Tryd.func15 (by kernel_rfl) rfl #[.string (x7_11 ++ (⟨#[48, 48, 48, 48, 48, 48, 48, 48, 48, 48]⟩ : ByteArray))] rfl (by (try simp only [List.map_toArray, List.map_cons, List.map_nil]); first | done | rfl | (simp only [List.length_drop, List.length_take]; rfl)) ?_; (with_reducible refine (lex_Number.calls kj11 (x7_11 ++ (⟨#[48, 48, 48, 48, 48, 48, 48, 48, 48, 48]⟩ : ByteArray)) t222 false _ A18.out).mono ?_); rintro e w46 ⟨rfl, hb⟩; refine ⟨_, rfl, ?_⟩; have n0_ := Aside0.mk (below_step (by repeat (first | (with_reducible first | exact HB.out | apply below_alloc | apply pw_below_drewN | apply below_drew1) | exact HB.out)) hb); clear HB; have HB := n0_; clear n0_; (try clear hb); (try clear hb2); (try clear hk); (try clear hi)) | ((with_reducible refine gate_callee (f := 15) rfl ?_); refine goesL_ (some 59) rfl rfl Tryd.func15 (by kernel_rfl) rfl #[.string a1] rfl (by (try simp only [List.map_toArray, List.map_cons, List.map_nil]); first | done | rfl | (simp only [List.length_drop, List.length_take]; rfl)) ?_; (with_reducible refine (lex_Number.calls kj11 a1 t224 false _ A19.out).mono ?_); rintro e w47 ⟨rfl, hb⟩; refine ⟨_, rfl, ?_⟩; have n0_ := Aside0.mk (below_step (by repeat (first | (with_reducible first | exact HB.out | apply below_alloc | apply pw_below_drewN | apply below_drew1) | exact HB.out)) hb); clear HB; have HB := n0_; clear n0_; (try clear hb); (try clear hb2); (try clear hk); (try clear hi)))
                                go_ret
                                exact ⟨by first | rfl | (simp [errW_none, errW_some] <;> rfl) | (simp [*, errW_none, errW_some] <;> rfl), by repeat (first | (with_reducible first | exact HB.out | apply below_alloc | apply pw_below_drewN | apply below_drew1) | exact HB.out)⟩
                              · rw [if_neg c43] at H
                                have c43b0 : (t224 == 0) = false := beq_eq_false_iff_ne.mpr c43
                                have c43b1 : (t224 != 0) = true := bne_iff_ne.mpr c43
                                obtain rfl := Option.some.inj H
                                go_wp2_with (first | ((with_reducible refine gate_callee (f := 15) rfl ?_); refine goesL_ (some 42) rfl rfl Tryd.func15 (by kernel_rfl) rfl #[.string x7_11] rfl (by (try simp only [List.map_toArray, List.map_cons, List.map_nil]); first | done | rfl | (simp only [List.length_drop, List.length_take]; rfl)) ?_; (with_reducible refine (lex_Number.calls kj11 x7_11 t218 true _ A14.out).mono ?_); rintro e w48 ⟨rfl, hb⟩; refine ⟨_, rfl, ?_⟩; have n0_ := Aside0.mk (below_step (by repeat (first | (with_reducible first | exact HB.out | apply below_alloc | apply pw_below_drewN | apply below_drew1) | exact HB.out)) hb); clear HB; have HB := n0_; clear n0_; (try clear hb); (try clear hb2); (try clear hk); (try clear hi)) | ((with_reducible refine gate_callee (f := 15) rfl ?_); refine goesL_ (some 48) rfl rfl Tryd.func15 (by kernel_rfl) rfl #[.string ((⟨#[48]⟩ : ByteArray) ++ x7_11)] rfl (by (try simp only [List.map_toArray, List.map_cons, List.map_nil]); first | done | rfl | (simp only [List.length_drop, List.length_take]; rfl)) ?_; (with_reducible refine (lex_Number.calls kj11 ((⟨#[48]⟩ : ByteArray) ++ x7_11) t220 false _ A16.out).mono ?_); rintro e w49 ⟨rfl, hb⟩; refine ⟨_, rfl, ?_⟩; have n0_ := Aside0.mk (below_step (by repeat (first | (with_reducible first | exact HB.out | apply below_alloc | apply pw_below_drewN | apply below_drew1) | exact HB.out)) hb); clear HB; have HB := n0_; clear n0_; (try clear hb); (try clear hb2); (try clear hk); (try clear hi)) | ((with_reducible refine gate_callee (f := 15) rfl ?_); refine goesL_ (some 54) rfl rfl Tryd.func15 (by kernel_rfl) rfl #[.string (x7_11 ++ (⟨#[48, 48, 48, 48, 48, 48, 48, 48, 48, 48]⟩ : ByteArray))] rfl (by (try simp only [List.map_toArray, List.map_cons, List.map_nil]); first | done | rfl | (simp only [List.length_drop, List.length_take]; rfl)) ?_; (with_reducible refine (lex_Number.calls kj11 (x7_11 ++ (⟨#[48, 48, 48, 48, 48, 48, 48, 48, 48, 48]⟩ : ByteArray)) t222 false _ A18.out).mono ?_); rintro e w50 ⟨rfl, hb⟩; refine ⟨_, rfl, ?_⟩; have n0_ := Aside0.mk (below_step (by repeat (first | (with_reducible first | exact HB.out | apply below_alloc | apply pw_below_drewN | apply below_drew1) | exact HB.out)) hb); clear HB; have HB := n0_; clear n0_; (try clear hb); (try clear hb2); (try clear hk); (try clear hi)) | ((with_reducible refine gate_callee (f := 15) rfl ?_); refine goesL_ (some 59) rfl rfl Tryd.func15 (by kernel_rfl) rfl #[.string a1] rfl (by (try simp only [List.map_toArray, List.map_cons, List.map_nil]); first | done | rfl | (simp only [List.length_drop, List.length_take]; rfl)) ?_; (with_reducible refine (lex_Number.calls kj11 a1 t224 false _ A19.out).mono ?_); rintro e w51 ⟨rfl, hb⟩; refine ⟨_, rfl, ?_⟩; have n0_ := Aside0.mk (below_step (by repeat (first | (with_reducible first | exact HB.out | apply below_alloc | apply pw_below_drewN | apply below_drew1) | exact HB.out)) hb); clear HB; have HB := n0_; clear n0_; (try clear hb); (try clear hb2); (try clear hk); (try clear hi)))
                                go_ret
                                exact ⟨by first | rfl | (simp [errW_none, errW_some] <;> rfl) | (simp [*, errW_none, errW_some] <;> rfl), by repeat (first | (with_reducible first | exact HB.out | apply below_alloc | apply pw_below_drewN | apply below_drew1) | exact HB.out)⟩
                      · rw [if_neg c22] at H
                        have c22b0 : (t218 == (wrap64 (Int.tmod a0 1000000000))) = false := beq_eq_false_iff_ne.mpr c22
                        have c22b1 : (t218 != (wrap64 (Int.tmod a0 1000000000))) = true := bne_iff_ne.mpr c22
                        obtain rfl := Option.some.inj H
                        go_wp2_with (first | ((with_reducible refine gate_callee (f := 15) rfl ?_); refine goesL_ (some 42) rfl rfl Tryd.func15 (by kernel_rfl) rfl #[.string x7_11] rfl (by (try simp only [List.map_toArray, List.map_cons, List.map_nil]); first | done | rfl | (simp only [List.length_drop, List.length_take]; rfl)) ?_; (with_reducible refine (lex_Number.calls kj11 x7_11 t218 true _ A14.out).mono ?_); rintro e w52 ⟨rfl, hb⟩; refine ⟨_, rfl, ?_⟩; have n0_ := Aside0.mk (below_step (by repeat (first | (with_reducible first | exact HB.out | apply below_alloc | apply pw_below_drewN | apply below_drew1) | exact HB.out)) hb); clear HB; have HB := n0_; clear n0_; (try clear hb); (try clear hb2); (try clear hk); (try clear hi)) | ((with_reducible refine gate_callee (f := 15) rfl ?_); refine goesL_ (some 48) rfl rfl Tryd.func15 (by kernel_rfl) rfl #[.string ((⟨#[48]⟩ : ByteArray) ++ x7_11)] rfl (by (try simp only [List.map_toArray, List.map_cons, List.map_nil]); first | done | rfl | (simp only [List.length_drop, List.length_take]; rfl)) ?_; (with_reducible refine (lex_Number.calls kj11 ((⟨#[48]⟩ : ByteArray) ++ x7_11) t220 t221 _ A16.out).mono ?_); rintro e w53 ⟨rfl, hb⟩; refine ⟨_, rfl, ?_⟩; have n0_ := Aside0.mk (below_step (by repeat (first | (with_reducible first | exact HB.out | apply below_alloc | apply pw_below_drewN | apply below_drew1) | exact HB.out)) hb); clear HB; have HB := n0_; clear n0_; (try clear hb); (try clear hb2); (try clear hk); (try clear hi)) | ((with_reducible refine gate_callee (f := 15) rfl ?_); refine goesL_ (some 54) rfl rfl Tryd.func15 (by kernel_rfl) rfl #[.string (x7_11 ++ (⟨#[48, 48, 48, 48, 48, 48, 48, 48, 48, 48]⟩ : ByteArray))] rfl (by (try simp only [List.map_toArray, List.map_cons, List.map_nil]); first | done | rfl | (simp only [List.length_drop, List.length_take]; rfl)) ?_; (with_reducible refine (lex_Number.calls kj11 (x7_11 ++ (⟨#[48, 48, 48, 48, 48, 48, 48, 48, 48, 48]⟩ : ByteArray)) t222 t223 _ A18.out).mono ?_); rintro e w54 ⟨rfl, hb⟩; refine ⟨_, rfl, ?_⟩; have n0_ := Aside0.mk (below_step (by repeat (first | (with_reducible first | exact HB.out | apply below_alloc | apply pw_below_drewN | apply below_drew1) | exact HB.out)) hb); clear HB; have HB := n0_; clear n0_; (try clear hb); (try clear hb2); (try clear hk); (try clear hi)) | ((with_reducible refine gate_callee (f := 15) rfl ?_); refine goesL_ (some 59) rfl rfl Tryd.func15 (by kernel_rfl) rfl #[.string a1] rfl (by (try simp only [List.map_toArray, List.map_cons, List.map_nil]); first | done | rfl | (simp only [List.length_drop, List.length_take]; rfl)) ?_; (with_reducible refine (lex_Number.calls kj11 a1 t224 t225 _ A19.out).mono ?_); rintro e w55 ⟨rfl, hb⟩; refine ⟨_, rfl, ?_⟩; have n0_ := Aside0.mk (below_step (by repeat (first | (with_reducible first | exact HB.out | apply below_alloc | apply pw_below_drewN | apply below_drew1) | exact HB.out)) hb); clear HB; have HB := n0_; clear n0_; (try clear hb); (try clear hb2); (try clear hk); (try clear hi)))
                        go_ret
                        exact ⟨by first | rfl | (simp [errW_none, errW_some] <;> rfl) | (simp [*, errW_none, errW_some] <;> rfl), by repeat (first | (with_reducible first | exact HB.out | apply below_alloc | apply pw_below_drewN | apply below_drew1) | exact HB.out)⟩
                    · replace c21 := Bool.eq_false_iff.mpr c21
                      subst c21
                      have H1 : (some false) = some r := by rw [if_neg (show ¬ (false = true) by decide)] at H; exact H
                      clear H
                      have H := H1
                      clear H1
                      obtain rfl := Option.some.inj H
                      go_wp2_with (first | ((with_reducible refine gate_callee (f := 15) rfl ?_); refine goesL_ (some 42) rfl rfl Tryd.func15 (by kernel_rfl) rfl #[.string x7_11] rfl (by (try simp only [List.map_toArray, List.map_cons, List.map_nil]); first | done | rfl | (simp only [List.length_drop, List.length_take]; rfl)) ?_; (with_reducible refine (lex_Number.calls kj11 x7_11 t218 false _ A14.out).mono ?_); rintro e w56 ⟨rfl, hb⟩; refine ⟨_, rfl, ?_⟩; have n0_ := Aside0.mk (below_step (by repeat (first | (with_reducible first | exact HB.out | apply below_alloc | apply pw_below_drewN | apply below_drew1) | exact HB.out)) hb); clear HB; have HB := n0_; clear n0_; (try clear hb); (try clear hb2); (try clear hk); (try clear hi)) | ((with_reducible refine gate_callee (f := 15) rfl ?_); refine goesL_ (some 48) rfl rfl Tryd.func15 (by kernel_rfl) rfl #[.string ((⟨#[48]⟩ : ByteArray) ++ x7_11)] rfl (by (try simp only [List.map_toArray, List.map_cons, List.map_nil]); first | done | rfl | (simp only [List.length_drop, List.length_take]; rfl)) ?_; (with_reducible refine (lex_Number.calls kj11 ((⟨#[48]⟩ : ByteArray) ++ x7_11) t220 t221 _ A16.out).mono ?_); rintro e w57 ⟨rfl, hb⟩; refine ⟨_, rfl, ?_⟩; have n0_ := Aside0.mk (below_step (by repeat (first | (with_reducible first | exact HB.out | apply below_alloc | apply pw_below_drewN | apply below_drew1) | exact HB.out)) hb); clear HB; have HB := n0_; clear n0_; (try clear hb); (try clear hb2); (try clear hk); (try clear hi)) | ((with_reducible refine gate_callee (f := 15) rfl ?_); refine goesL_ (some 54) rfl rfl Tryd.func15 (by kernel_rfl) rfl #[.string (x7_11 ++ (⟨#[48, 48, 48, 48, 48, 48, 48, 48, 48, 48]⟩ : ByteArray))] rfl (by (try simp only [List.map_toArray, List.map_cons, List.map_nil]); first | done | rfl | (simp only [List.length_drop, List.length_take]; rfl)) ?_; (with_reducible refine (lex_Number.calls kj11 (x7_11 ++ (⟨#[48, 48, 48, 48, 48, 48, 48, 48, 48, 48]⟩ : ByteArray)) t222 t223 _ A18.out).mono ?_); rintro e w58 ⟨rfl, hb⟩; refine ⟨_, rfl, ?_⟩; have n0_ := Aside0.mk (below_step (by repeat (first | (with_reducible first | exact HB.out | apply below_alloc | apply pw_below_drewN | apply below_drew1) | exact HB.out)) hb); clear HB; have HB := n0_; clear n0_; (try clear hb); (try clear hb2); (try clear hk); (try clear hi)) | ((with_reducible refine gate_callee (f := 15) rfl ?_); refine goesL_ (some 59) rfl rfl Tryd.func15 (by kernel_rfl) rfl #[.string a1] rfl (by (try simp only [List.map_toArray, List.map_cons, List.map_nil]); first | done | rfl | (simp only [List.length_drop, List.length_take]; rfl)) ?_; (with_reducible refine (lex_Number.calls kj11 a1 t224 t225 _ A19.out).mono ?_); rintro e w59 ⟨rfl, hb⟩; refine ⟨_, rfl, ?_⟩; have n0_ := Aside0.mk (below_step (by repeat (first | (with_reducible first | exact HB.out | apply below_alloc | apply pw_below_drewN | apply below_drew1) | exact HB.out)) hb); clear HB; have HB := n0_; clear n0_; (try clear hb); (try clear hb2); (try clear hk); (try clear hi)))
                      go_ret
                      exact ⟨by first | rfl | (simp [errW_none, errW_some] <;> rfl) | (simp [*, errW_none, errW_some] <;> rfl), by repeat (first | (with_reducible first | exact HB.out | apply below_alloc | apply pw_below_drewN | apply below_drew1) | exact HB.out)⟩
                  · replace c20 := Bool.eq_false_iff.mpr c20
                    subst c20
                    have H1 : (some false) = some r := by rw [if_neg (show ¬ (false = true) by decide)] at H; exact H
                    clear H
                    have H := H1
                    clear H1
                    obtain rfl := Option.some.inj H
                    go_wp2_with (first | ((with_reducible refine gate_callee (f := 15) rfl ?_); refine goesL_ (some 42) rfl rfl Tryd.func15 (by kernel_rfl) rfl #[.string x7_11] rfl (by (try simp only [List.map_toArray, List.map_cons, List.map_nil]); first | done | rfl | (simp only [List.length_drop, List.length_take]; rfl)) ?_; (with_reducible refine (lex_Number.calls kj11 x7_11 t218 t219 _ A14.out).mono ?_); rintro e w60 ⟨rfl, hb⟩; refine ⟨_, rfl, ?_⟩; have n0_ := Aside0.mk (below_step (by repeat (first | (with_reducible first | exact HB.out | apply below_alloc | apply pw_below_drewN | apply below_drew1) | exact HB.out)) hb); clear HB; have HB := n0_; clear n0_; (try clear hb); (try clear hb2); (try clear hk); (try clear hi)) | ((with_reducible refine gate_callee (f := 15) rfl ?_); refine goesL_ (some 48) rfl rfl Tryd.func15 (by kernel_rfl) rfl #[.string ((⟨#[48]⟩ : ByteArray) ++ x7_11)] rfl (by (try simp only [List.map_toArray, List.map_cons, List.map_nil]); first | done | rfl | (simp only [List.length_drop, List.length_take]; rfl)) ?_; (with_reducible refine (lex_Number.calls kj11 ((⟨#[48]⟩ : ByteArray) ++ x7_11) t220 t221 _ A16.out).mono ?_); rintro e w61 ⟨rfl, hb⟩; refine ⟨_, rfl, ?_⟩; have n0_ := Aside0.mk (below_step (by repeat (first | (with_reducible first | exact HB.out | apply below_alloc | apply pw_below_drewN | apply below_drew1) | exact HB.out)) hb); clear HB; have HB := n0_; clear n0_; (try clear hb); (try clear hb2); (try clear hk); (try clear hi)) | ((with_reducible refine gate_callee (f := 15) rfl ?_); refine goesL_ (some 54) rfl rfl Tryd.func15 (by kernel_rfl) rfl #[.string (x7_11 ++ (⟨#[48, 48, 48, 48, 48, 48, 48, 48, 48, 48]⟩ : ByteArray))] rfl (by (try simp only [List.map_toArray, List.map_cons, List.map_nil]); first | done | rfl | (simp only [List.length_drop, List.length_take]; rfl)) ?_; (with_reducible refine (lex_Number.calls kj11 (x7_11 ++ (⟨#[48, 48, 48, 48, 48, 48, 48, 48, 48, 48]⟩ : ByteArray)) t222 t223 _ A18.out).mono ?_); rintro e w62 ⟨rfl, hb⟩; refine ⟨_, rfl, ?_⟩; have n0_ := Aside0.mk (below_step (by repeat (first | (with_reducible first | exact HB.out | apply below_alloc | apply pw_below_drewN | apply below_drew1) | exact HB.out)) hb); clear HB; have HB := n0_; clear n0_; (try clear hb); (try clear hb2); (try clear hk); (try clear hi)) | ((with_reducible refine gate_callee (f := 15) rfl ?_); refine goesL_ (some 59) rfl rfl Tryd.func15 (by kernel_rfl) rfl #[.string a1] rfl (by (try simp only [List.map_toArray, List.map_cons, List.map_nil]); first | done | rfl | (simp only [List.length_drop, List.length_take]; rfl)) ?_; (with_reducible refine (lex_Number.calls kj11 a1 t224 t225 _ A19.out).mono ?_); rintro e w63 ⟨rfl, hb⟩; refine ⟨_, rfl, ?_⟩; have n0_ := Aside0.mk (below_step (by repeat (first | (with_reducible first | exact HB.out | apply below_alloc | apply pw_below_drewN | apply below_drew1) | exact HB.out)) hb); clear HB; have HB := n0_; clear n0_; (try clear hb); (try clear hb2); (try clear hk); (try clear hi)))
                    go_ret
                    exact ⟨by first | rfl | (simp [errW_none, errW_some] <;> rfl) | (simp [*, errW_none, errW_some] <;> rfl), by repeat (first | (with_reducible first | exact HB.out | apply below_alloc | apply pw_below_drewN | apply below_drew1) | exact HB.out)⟩
                · rw [if_neg c17] at H
                  exact absurd H (by simp)
              · rw [if_neg c15] at H
                exact absurd H (by simp)

/-- THE ONE PURE STATEMENT of tammylaw06_LexNumbers: yours. -/
def tammylaw06_LexNumbers.Pure : Prop := ∀ (a0 : Int) (a1 : ByteArray), (Lit.int .u32 a0).wf = true → a1.size ≤ 140737488351232 → ∃ k, tammylaw06_LexNumbers.f k a0 a1 = some true
theorem tammylaw06_LexNumbers.walk (P : tammylaw06_LexNumbers.Pure) (a0 : Int) (a1 : ByteArray) (w : World) (w0 : (Lit.int .u32 a0).wf = true) (w1 : a1.size ≤ 140737488351232) :
    Calls Tryd.prog 6 #[.int .u32 a0, .string a1] w fun e w' => e = .returned (.bool true) ∧ Below w.heap.size w w' := by
  obtain ⟨k, h⟩ := P a0 a1 w0 w1
  refine (tammylaw06_LexNumbers.calls k a0 a1 true w h).mono ?_
  rintro e w' ⟨rfl, hd⟩
  exact ⟨rfl, hd⟩

end Go.Proofs.YtfjhnljidfdhjaaDoor.Q
