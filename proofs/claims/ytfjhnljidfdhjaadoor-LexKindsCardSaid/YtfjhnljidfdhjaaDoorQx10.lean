-- Written by a program of the prover's (a print of the translation, with contracts of its own); nothing in it is trusted: Lean checks it.
import Derived.Test.YtfjhnljidfdhjaaDoorQx0
import Derived.Test.YtfjhnljidfdhjaaDoorQx3
namespace Go.Proofs.YtfjhnljidfdhjaaDoor.Q
open Go.RowKit Go.Proofs.YtfjhnljidfdhjaaDoorW.PrintWords Go.Proofs.YtfjhnljidfdhjaaDoorW.PrintLast Go.Proofs.YtfjhnljidfdhjaaDoorW.PrintMore
attribute [local go_sem] max2_int min2_int max_two min_two max_three min_three max_four min_four   -- for this text's walks alone
set_option linter.unusedVariables false
set_option linter.unusedSimpArgs false

/-! ### tammylaw06_LexKinds: function 7 -/
mutual
def tammylaw06_LexKinds.l0 : Nat → ByteArray → Bool → List (S32) → Int → Option (Bool)
  | 0, _, _, _, _ => none
  | k + 1, x0, x3, x4, x7 => if x7 < (x4.length : Int) then (if 0 ≤ x7 then (if ((rd_T32 x4 x7).f1).toList = ([] : List UInt8) then (tammylaw06_LexKinds.j1 k x0 x3 x4 x7 true ((rd_T32 x4 x7).f0) ((rd_T32 x4 x7).f1) ((rd_T32 x4 x7).f2)) else (if ((rd_T32 x4 x7).f2) < 0 then (tammylaw06_LexKinds.j1 k x0 x3 x4 x7 true ((rd_T32 x4 x7).f0) ((rd_T32 x4 x7).f1) ((rd_T32 x4 x7).f2)) else (tammylaw06_LexKinds.j1 k x0 x3 x4 x7 (decide ((wrap64 (((rd_T32 x4 x7).f2) + (((rd_T32 x4 x7).f1).size : Int))) > (x0.size : Int))) ((rd_T32 x4 x7).f0) ((rd_T32 x4 x7).f1) ((rd_T32 x4 x7).f2)))) else (none)) else (some x3)
def tammylaw06_LexKinds.j1 : Nat → ByteArray → Bool → List (S32) → Int → Bool → Int → ByteArray → Int → Option (Bool)
  | 0, _, _, _, _, _, _, _, _ => none
  | k + 1, x0, x3, x4, x7, x53, x234000, x234001, x234002 => if x53 = true then (some false) else (if 0 < (x234001.size : Int) then (if (bt x234001 0) ≥ 48 then (tammylaw06_LexKinds.j2 k x0 x3 x4 x7 (bt x234001 0) (decide ((bt x234001 0) ≤ 57)) x234000 x234001 x234002) else (tammylaw06_LexKinds.j2 k x0 x3 x4 x7 (bt x234001 0) false x234000 x234001 x234002)) else (none))
def tammylaw06_LexKinds.j2 : Nat → ByteArray → Bool → List (S32) → Int → Int → Bool → Int → ByteArray → Int → Option (Bool)
  | 0, _, _, _, _, _, _, _, _, _ => none
  | k + 1, x0, x3, x4, x7, x9, x10, x234000, x234001, x234002 => if x9 ≥ 97 then (if x9 ≤ 122 then (tammylaw06_LexKinds.j3 k x0 x3 x4 x7 x10 true x234000 x234001 x234002) else (if x9 ≥ 65 then (tammylaw06_LexKinds.j3 k x0 x3 x4 x7 x10 (decide (x9 ≤ 90)) x234000 x234001 x234002) else (tammylaw06_LexKinds.j3 k x0 x3 x4 x7 x10 false x234000 x234001 x234002))) else (if x9 ≥ 65 then (tammylaw06_LexKinds.j3 k x0 x3 x4 x7 x10 (decide (x9 ≤ 90)) x234000 x234001 x234002) else (tammylaw06_LexKinds.j3 k x0 x3 x4 x7 x10 false x234000 x234001 x234002))
def tammylaw06_LexKinds.j3 : Nat → ByteArray → Bool → List (S32) → Int → Bool → Bool → Int → ByteArray → Int → Option (Bool)
  | 0, _, _, _, _, _, _, _, _, _ => none
  | k + 1, x0, x3, x4, x7, x10, x11, x234000, x234001, x234002 => if ((x234000 == 2) != x10) = true then (tammylaw06_LexKinds.j4 k x0 x3 x4 x7 x10 x11 true x234000 x234001 x234002) else (if ((x234000 == 1) != x11) = true then (tammylaw06_LexKinds.j4 k x0 x3 x4 x7 x10 x11 true x234000 x234001 x234002) else (if x234000 = 3 then (tammylaw06_LexKinds.j4 k x0 x3 x4 x7 x10 x11 (decide ((x234001.size : Int) > 2)) x234000 x234001 x234002) else (tammylaw06_LexKinds.j4 k x0 x3 x4 x7 x10 x11 false x234000 x234001 x234002)))
def tammylaw06_LexKinds.j4 : Nat → ByteArray → Bool → List (S32) → Int → Bool → Bool → Bool → Int → ByteArray → Int → Option (Bool)
  | 0, _, _, _, _, _, _, _, _, _, _ => none
  | k + 1, x0, x3, x4, x7, x10, x11, x99, x234000, x234001, x234002 => if x99 = true then (some false) else (if (wrap64 (x234002 + (x234001.size : Int))) < (x0.size : Int) then (if 0 ≤ (wrap64 (x234002 + (x234001.size : Int))) then (if (bt x0 (wrap64 (x234002 + (x234001.size : Int)))) ≥ 48 then (if x10 = true then (if (bt x0 (wrap64 (x234002 + (x234001.size : Int)))) ≤ 57 then (some false) else (if x11 = true then (if (bt x0 (wrap64 (x234002 + (x234001.size : Int)))) = 95 then (some false) else (if (bt x0 (wrap64 (x234002 + (x234001.size : Int)))) ≥ 97 then (if (bt x0 (wrap64 (x234002 + (x234001.size : Int)))) ≤ 122 then (some false) else (if (bt x0 (wrap64 (x234002 + (x234001.size : Int)))) ≥ 65 then (if (bt x0 (wrap64 (x234002 + (x234001.size : Int)))) ≤ 90 then (some false) else (tammylaw06_LexKinds.l0 k x0 x3 x4 (wrap64 (x7 + 1)))) else (tammylaw06_LexKinds.l0 k x0 x3 x4 (wrap64 (x7 + 1))))) else (if (bt x0 (wrap64 (x234002 + (x234001.size : Int)))) ≥ 65 then (if (bt x0 (wrap64 (x234002 + (x234001.size : Int)))) ≤ 90 then (some false) else (tammylaw06_LexKinds.l0 k x0 x3 x4 (wrap64 (x7 + 1)))) else (tammylaw06_LexKinds.l0 k x0 x3 x4 (wrap64 (x7 + 1)))))) else (tammylaw06_LexKinds.l0 k x0 x3 x4 (wrap64 (x7 + 1))))) else (if x11 = true then (if (bt x0 (wrap64 (x234002 + (x234001.size : Int)))) ≤ 57 then (some false) else (if (bt x0 (wrap64 (x234002 + (x234001.size : Int)))) = 95 then (some false) else (if (bt x0 (wrap64 (x234002 + (x234001.size : Int)))) ≥ 97 then (if (bt x0 (wrap64 (x234002 + (x234001.size : Int)))) ≤ 122 then (some false) else (if (bt x0 (wrap64 (x234002 + (x234001.size : Int)))) ≥ 65 then (if (bt x0 (wrap64 (x234002 + (x234001.size : Int)))) ≤ 90 then (some false) else (tammylaw06_LexKinds.l0 k x0 x3 x4 (wrap64 (x7 + 1)))) else (tammylaw06_LexKinds.l0 k x0 x3 x4 (wrap64 (x7 + 1))))) else (if (bt x0 (wrap64 (x234002 + (x234001.size : Int)))) ≥ 65 then (if (bt x0 (wrap64 (x234002 + (x234001.size : Int)))) ≤ 90 then (some false) else (tammylaw06_LexKinds.l0 k x0 x3 x4 (wrap64 (x7 + 1)))) else (tammylaw06_LexKinds.l0 k x0 x3 x4 (wrap64 (x7 + 1))))))) else (tammylaw06_LexKinds.l0 k x0 x3 x4 (wrap64 (x7 + 1))))) else (if x10 = true then (if x11 = true then (if (bt x0 (wrap64 (x234002 + (x234001.size : Int)))) = 95 then (some false) else (if (bt x0 (wrap64 (x234002 + (x234001.size : Int)))) ≥ 97 then (if (bt x0 (wrap64 (x234002 + (x234001.size : Int)))) ≤ 122 then (some false) else (if (bt x0 (wrap64 (x234002 + (x234001.size : Int)))) ≥ 65 then (if (bt x0 (wrap64 (x234002 + (x234001.size : Int)))) ≤ 90 then (some false) else (tammylaw06_LexKinds.l0 k x0 x3 x4 (wrap64 (x7 + 1)))) else (tammylaw06_LexKinds.l0 k x0 x3 x4 (wrap64 (x7 + 1))))) else (if (bt x0 (wrap64 (x234002 + (x234001.size : Int)))) ≥ 65 then (if (bt x0 (wrap64 (x234002 + (x234001.size : Int)))) ≤ 90 then (some false) else (tammylaw06_LexKinds.l0 k x0 x3 x4 (wrap64 (x7 + 1)))) else (tammylaw06_LexKinds.l0 k x0 x3 x4 (wrap64 (x7 + 1)))))) else (tammylaw06_LexKinds.l0 k x0 x3 x4 (wrap64 (x7 + 1)))) else (if x11 = true then (if (bt x0 (wrap64 (x234002 + (x234001.size : Int)))) = 95 then (some false) else (if (bt x0 (wrap64 (x234002 + (x234001.size : Int)))) ≥ 97 then (if (bt x0 (wrap64 (x234002 + (x234001.size : Int)))) ≤ 122 then (some false) else (if (bt x0 (wrap64 (x234002 + (x234001.size : Int)))) ≥ 65 then (if (bt x0 (wrap64 (x234002 + (x234001.size : Int)))) ≤ 90 then (some false) else (tammylaw06_LexKinds.l0 k x0 x3 x4 (wrap64 (x7 + 1)))) else (tammylaw06_LexKinds.l0 k x0 x3 x4 (wrap64 (x7 + 1))))) else (if (bt x0 (wrap64 (x234002 + (x234001.size : Int)))) ≥ 65 then (if (bt x0 (wrap64 (x234002 + (x234001.size : Int)))) ≤ 90 then (some false) else (tammylaw06_LexKinds.l0 k x0 x3 x4 (wrap64 (x7 + 1)))) else (tammylaw06_LexKinds.l0 k x0 x3 x4 (wrap64 (x7 + 1)))))) else (tammylaw06_LexKinds.l0 k x0 x3 x4 (wrap64 (x7 + 1)))))) else (none)) else (tammylaw06_LexKinds.l0 k x0 x3 x4 (wrap64 (x7 + 1))))
end
def tammylaw06_LexKinds.f (k : Nat) (a0 : ByteArray) : Option (Bool) := (tammylaw06_shown.f k).bind fun t226 => (if (a0.size : Int) > 1000 then (some t226) else ((lex_Toks.f k a0).bind fun bt227 => (tammylaw06_LexKinds.l0 k a0 t226 bt227.1 0)))
theorem tammylaw06_LexKinds.mono_l : ∀ k, (∀ y0 y1 y2 y3, LeO (tammylaw06_LexKinds.l0 k y0 y1 y2 y3) (tammylaw06_LexKinds.l0 (k + 1) y0 y1 y2 y3)) ∧ (∀ y0 y1 y2 y3 y4 y5 y6 y7, LeO (tammylaw06_LexKinds.j1 k y0 y1 y2 y3 y4 y5 y6 y7) (tammylaw06_LexKinds.j1 (k + 1) y0 y1 y2 y3 y4 y5 y6 y7)) ∧ (∀ y0 y1 y2 y3 y4 y5 y6 y7 y8, LeO (tammylaw06_LexKinds.j2 k y0 y1 y2 y3 y4 y5 y6 y7 y8) (tammylaw06_LexKinds.j2 (k + 1) y0 y1 y2 y3 y4 y5 y6 y7 y8)) ∧ (∀ y0 y1 y2 y3 y4 y5 y6 y7 y8, LeO (tammylaw06_LexKinds.j3 k y0 y1 y2 y3 y4 y5 y6 y7 y8) (tammylaw06_LexKinds.j3 (k + 1) y0 y1 y2 y3 y4 y5 y6 y7 y8)) ∧ (∀ y0 y1 y2 y3 y4 y5 y6 y7 y8 y9, LeO (tammylaw06_LexKinds.j4 k y0 y1 y2 y3 y4 y5 y6 y7 y8 y9) (tammylaw06_LexKinds.j4 (k + 1) y0 y1 y2 y3 y4 y5 y6 y7 y8 y9))
  | 0 => ⟨fun _ _ _ _ r h => by simp [tammylaw06_LexKinds.l0] at h, fun _ _ _ _ _ _ _ _ r h => by simp [tammylaw06_LexKinds.j1] at h, fun _ _ _ _ _ _ _ _ _ r h => by simp [tammylaw06_LexKinds.j2] at h, fun _ _ _ _ _ _ _ _ _ r h => by simp [tammylaw06_LexKinds.j3] at h, fun _ _ _ _ _ _ _ _ _ _ r h => by simp [tammylaw06_LexKinds.j4] at h⟩
  | k + 1 => by
    obtain ⟨ih0, ih1, ih2, ih3, ih4⟩ := tammylaw06_LexKinds.mono_l k
    refine ⟨?_, ?_, ?_, ?_, ?_⟩
    · intro y0 y1 y2 y3
      unfold tammylaw06_LexKinds.l0
      repeat' first
      | (with_reducible exact ih0 _ _ _ _)
      | (with_reducible exact ih1 _ _ _ _ _ _ _ _)
      | (with_reducible exact ih2 _ _ _ _ _ _ _ _ _)
      | (with_reducible exact ih3 _ _ _ _ _ _ _ _ _)
      | (with_reducible exact ih4 _ _ _ _ _ _ _ _ _ _)
      | (with_reducible exact lex_Toks.mono _ _)
      | (with_reducible exact tammylaw06_shown.mono _)
      | (with_reducible exact LeO.refl _)
      | (with_reducible exact LeO.none _)
      | (with_reducible refine LeO.ite ?_ ?_)
      | (with_reducible refine LeO.bind ?_ (fun _ => ?_))
      | exact ih0 _ _ _ _
      | exact ih1 _ _ _ _ _ _ _ _
      | exact ih2 _ _ _ _ _ _ _ _ _
      | exact ih3 _ _ _ _ _ _ _ _ _
      | exact ih4 _ _ _ _ _ _ _ _ _ _
      | exact lex_Toks.mono _ _
      | exact tammylaw06_shown.mono _
      | exact LeO.none _
      | refine LeO.ite ?_ ?_
      | refine LeO.bind ?_ (fun _ => ?_)
    · intro y0 y1 y2 y3 y4 y5 y6 y7
      unfold tammylaw06_LexKinds.j1
      repeat' first
      | (with_reducible exact ih0 _ _ _ _)
      | (with_reducible exact ih1 _ _ _ _ _ _ _ _)
      | (with_reducible exact ih2 _ _ _ _ _ _ _ _ _)
      | (with_reducible exact ih3 _ _ _ _ _ _ _ _ _)
      | (with_reducible exact ih4 _ _ _ _ _ _ _ _ _ _)
      | (with_reducible exact lex_Toks.mono _ _)
      | (with_reducible exact tammylaw06_shown.mono _)
      | (with_reducible exact LeO.refl _)
      | (with_reducible exact LeO.none _)
      | (with_reducible refine LeO.ite ?_ ?_)
      | (with_reducible refine LeO.bind ?_ (fun _ => ?_))
      | exact ih0 _ _ _ _
      | exact ih1 _ _ _ _ _ _ _ _
      | exact ih2 _ _ _ _ _ _ _ _ _
      | exact ih3 _ _ _ _ _ _ _ _ _
      | exact ih4 _ _ _ _ _ _ _ _ _ _
      | exact lex_Toks.mono _ _
      | exact tammylaw06_shown.mono _
      | exact LeO.none _
      | refine LeO.ite ?_ ?_
      | refine LeO.bind ?_ (fun _ => ?_)
    · intro y0 y1 y2 y3 y4 y5 y6 y7 y8
      unfold tammylaw06_LexKinds.j2
      repeat' first
      | (with_reducible exact ih0 _ _ _ _)
      | (with_reducible exact ih1 _ _ _ _ _ _ _ _)
      | (with_reducible exact ih2 _ _ _ _ _ _ _ _ _)
      | (with_reducible exact ih3 _ _ _ _ _ _ _ _ _)
      | (with_reducible exact ih4 _ _ _ _ _ _ _ _ _ _)
      | (with_reducible exact lex_Toks.mono _ _)
      | (with_reducible exact tammylaw06_shown.mono _)
      | (with_reducible exact LeO.refl _)
      | (with_reducible exact LeO.none _)
      | (with_reducible refine LeO.ite ?_ ?_)
      | (with_reducible refine LeO.bind ?_ (fun _ => ?_))
      | exact ih0 _ _ _ _
      | exact ih1 _ _ _ _ _ _ _ _
      | exact ih2 _ _ _ _ _ _ _ _ _
      | exact ih3 _ _ _ _ _ _ _ _ _
      | exact ih4 _ _ _ _ _ _ _ _ _ _
      | exact lex_Toks.mono _ _
      | exact tammylaw06_shown.mono _
      | exact LeO.none _
      | refine LeO.ite ?_ ?_
      | refine LeO.bind ?_ (fun _ => ?_)
    · intro y0 y1 y2 y3 y4 y5 y6 y7 y8
      unfold tammylaw06_LexKinds.j3
      repeat' first
      | (with_reducible exact ih0 _ _ _ _)
      | (with_reducible exact ih1 _ _ _ _ _ _ _ _)
      | (with_reducible exact ih2 _ _ _ _ _ _ _ _ _)
      | (with_reducible exact ih3 _ _ _ _ _ _ _ _ _)
      | (with_reducible exact ih4 _ _ _ _ _ _ _ _ _ _)
      | (with_reducible exact lex_Toks.mono _ _)
      | (with_reducible exact tammylaw06_shown.mono _)
      | (with_reducible exact LeO.refl _)
      | (with_reducible exact LeO.none _)
      | (with_reducible refine LeO.ite ?_ ?_)
      | (with_reducible refine LeO.bind ?_ (fun _ => ?_))
      | exact ih0 _ _ _ _
      | exact ih1 _ _ _ _ _ _ _ _
      | exact ih2 _ _ _ _ _ _ _ _ _
      | exact ih3 _ _ _ _ _ _ _ _ _
      | exact ih4 _ _ _ _ _ _ _ _ _ _
      | exact lex_Toks.mono _ _
      | exact tammylaw06_shown.mono _
      | exact LeO.none _
      | refine LeO.ite ?_ ?_
      | refine LeO.bind ?_ (fun _ => ?_)
    · intro y0 y1 y2 y3 y4 y5 y6 y7 y8 y9
      unfold tammylaw06_LexKinds.j4
      repeat' first
      | (with_reducible exact ih0 _ _ _ _)
      | (with_reducible exact ih1 _ _ _ _ _ _ _ _)
      | (with_reducible exact ih2 _ _ _ _ _ _ _ _ _)
      | (with_reducible exact ih3 _ _ _ _ _ _ _ _ _)
      | (with_reducible exact ih4 _ _ _ _ _ _ _ _ _ _)
      | (with_reducible exact lex_Toks.mono _ _)
      | (with_reducible exact tammylaw06_shown.mono _)
      | (with_reducible exact LeO.refl _)
      | (with_reducible exact LeO.none _)
      | (with_reducible refine LeO.ite ?_ ?_)
      | (with_reducible refine LeO.bind ?_ (fun _ => ?_))
      | exact ih0 _ _ _ _
      | exact ih1 _ _ _ _ _ _ _ _
      | exact ih2 _ _ _ _ _ _ _ _ _
      | exact ih3 _ _ _ _ _ _ _ _ _
      | exact ih4 _ _ _ _ _ _ _ _ _ _
      | exact lex_Toks.mono _ _
      | exact tammylaw06_shown.mono _
      | exact LeO.none _
      | refine LeO.ite ?_ ?_
      | refine LeO.bind ?_ (fun _ => ?_)
theorem tammylaw06_LexKinds.mono : ∀ a0 k, LeO (tammylaw06_LexKinds.f k a0) (tammylaw06_LexKinds.f (k + 1) a0) := by
  intro a0 k
  obtain ⟨ih0, ih1, ih2, ih3, ih4⟩ := tammylaw06_LexKinds.mono_l k
  unfold tammylaw06_LexKinds.f
  repeat' first
      | (with_reducible exact ih0 _ _ _ _)
      | (with_reducible exact ih1 _ _ _ _ _ _ _ _)
      | (with_reducible exact ih2 _ _ _ _ _ _ _ _ _)
      | (with_reducible exact ih3 _ _ _ _ _ _ _ _ _)
      | (with_reducible exact ih4 _ _ _ _ _ _ _ _ _ _)
      | (with_reducible exact lex_Toks.mono _ _)
      | (with_reducible exact tammylaw06_shown.mono _)
      | (with_reducible exact LeO.refl _)
      | (with_reducible exact LeO.none _)
      | (with_reducible refine LeO.ite ?_ ?_)
      | (with_reducible refine LeO.bind ?_ (fun _ => ?_))
      | exact ih0 _ _ _ _
      | exact ih1 _ _ _ _ _ _ _ _
      | exact ih2 _ _ _ _ _ _ _ _ _
      | exact ih3 _ _ _ _ _ _ _ _ _
      | exact ih4 _ _ _ _ _ _ _ _ _ _
      | exact lex_Toks.mono _ _
      | exact tammylaw06_shown.mono _
      | exact LeO.none _
      | refine LeO.ite ?_ ?_
      | refine LeO.bind ?_ (fun _ => ?_)
set_option maxHeartbeats 8000000 in
set_option maxRecDepth 100000 in
theorem tammylaw06_LexKinds.calls (k : Nat) (a0 : ByteArray) (r : Bool) (w : World) (h : tammylaw06_LexKinds.f k a0 = some r) :
    Calls Tryd.prog 7 #[.string a0] w fun e w' => e = .returned (.bool r) ∧ Below w.heap.size w w' := by
  have hu32 := Tryd.underlying32
  have HB := Aside0.mk (Below.refl w.heap.size w)
  have H : ((tammylaw06_shown.f k).bind fun t226 => (if (a0.size : Int) > 1000 then (some t226) else ((lex_Toks.f k a0).bind fun bt227 => (tammylaw06_LexKinds.l0 k a0 t226 bt227.1 0)))) = some r := h
  clear h
  replace H := Option.bind_eq_some_iff.mp H
  obtain ⟨t226, A20, H⟩ := H
  replace H : (if (a0.size : Int) > 1000 then (some t226) else ((lex_Toks.f k a0).bind fun bt227 => (tammylaw06_LexKinds.l0 k a0 t226 bt227.1 0))) = some r := H
  have A2 := Aside0.mk A20
  clear A20
  by_cases c3 : (a0.size : Int) > 1000
  · rw [if_pos c3] at H
    have c3b0 : decide (1000 < (a0.size : Int)) = true := decide_eq_true c3
    have c3b1 : decide (1000 < a0.size) = true := decide_eq_true (by omega)
    clear c3
    as_aux_lemma =>
      obtain rfl := Option.some.inj H
      go_enter Tryd.func7, Tryd.ntmps7
      go_wp2_with (first | ((with_reducible refine gate_callee (f := 10) rfl ?_); refine goesL_ (some 14) rfl rfl Tryd.func10 (by kernel_rfl) rfl #[] rfl (by (try simp only [List.map_toArray, List.map_cons, List.map_nil]); first | done | rfl | (simp only [List.length_drop, List.length_take]; rfl)) ?_; (with_reducible refine (tammylaw06_shown.calls k  t226 _ A2.out).mono ?_); rintro e w4 ⟨rfl, hb⟩; refine ⟨_, rfl, ?_⟩; have n0_ := Aside0.mk (below_step (by repeat (first | (with_reducible first | exact HB.out | apply below_alloc | apply pw_below_drewN | apply below_drew1) | exact HB.out)) hb); clear HB; have HB := n0_; clear n0_; (try clear hb); (try clear hb2); (try clear hk); (try clear hi)))
      go_ret
      exact ⟨by first | rfl | (simp [errW_none, errW_some] <;> rfl) | (simp [*, errW_none, errW_some] <;> rfl), by repeat (first | (with_reducible first | exact HB.out | apply below_alloc | apply pw_below_drewN | apply below_drew1) | exact HB.out)⟩
  · rw [if_neg c3] at H
    have c3b0 : decide (1000 < (a0.size : Int)) = false := decide_eq_false c3
    have c3b1 : decide (1000 < a0.size) = false := decide_eq_false (by omega)
    clear c3
    replace H := Option.bind_eq_some_iff.mp H
    obtain ⟨⟨t227, t228, t229⟩, A50, H⟩ := H
    replace H : (tammylaw06_LexKinds.l0 k a0 t226 t227 0) = some r := H
    have A5 := Aside0.mk A50
    clear A50
    have H' := Aside0.mk H
    clear H
    go_enter Tryd.func7, Tryd.ntmps7
    go_wp2_with (first | ((with_reducible refine gate_callee (f := 10) rfl ?_); refine goesL_ (some 14) rfl rfl Tryd.func10 (by kernel_rfl) rfl #[] rfl (by (try simp only [List.map_toArray, List.map_cons, List.map_nil]); first | done | rfl | (simp only [List.length_drop, List.length_take]; rfl)) ?_; (with_reducible refine (tammylaw06_shown.calls k  t226 _ A2.out).mono ?_); rintro e w6 ⟨rfl, hb⟩; refine ⟨_, rfl, ?_⟩; have n0_ := Aside0.mk (below_step (by repeat (first | (with_reducible first | exact HB.out | apply below_alloc | apply pw_below_drewN | apply below_drew1) | exact HB.out)) hb); clear HB; have HB := n0_; clear n0_; (try clear hb); (try clear hb2); (try clear hk); (try clear hi)) | ((with_reducible refine gate_callee (f := 11) rfl ?_); refine goesL_ (some 21) rfl rfl Tryd.func11 (by kernel_rfl) rfl #[.string a0] rfl (by (try simp only [List.map_toArray, List.map_cons, List.map_nil]); first | done | rfl | (simp only [List.length_drop, List.length_take]; rfl)) ?_; (with_reducible refine (lex_Toks.calls k a0 t227 t228 t229 _ A5.out).mono ?_); rintro e w7 ⟨v230, rfl, ho0, hb⟩; refine ⟨_, rfl, ?_⟩; have n0_ := Aside0.mk (Kd.R_lower ho0 (below_size (by repeat (first | (with_reducible first | exact HB.out | apply below_alloc | apply pw_below_drewN | apply below_drew1) | exact HB.out)))); have n1_ := Aside0.mk (below_step (by repeat (first | (with_reducible first | exact HB.out | apply below_alloc | apply pw_below_drewN | apply below_drew1) | exact HB.out)) hb); clear HB; have HO231 := n0_; have HB := n1_; clear n0_ n1_; (try clear hb); (try clear hb2); (try clear hk); (try clear hi); (try clear ho0)))
    go_loopg [7] k (fun kq v7 w' => ∃ (x7_1 : Int), v7 = .int .i64 x7_1 ∧ Aside0 (tammylaw06_LexKinds.l0 kq a0 t226 t227 x7_1 = some r) ∧ Aside0 (kq ≤ k) ∧ Aside0 (Kd.R k32 32 w' w.heap.size (fun _ => True) v230 t227) ∧ Aside0 (Below w.heap.size w w'))
    case atStart => exact ⟨(0), (by first | rfl | (simp; done) | (simp [*]; done)), H', ⟨Nat.le_refl _⟩, ⟨by (with_reducible repeat (first | apply Kd.R_alloc | apply Kd.R_drewN | apply Kd.R_drew)); exact HO231.out⟩, ⟨by repeat (first | (with_reducible first | exact HB.out | apply below_alloc | apply pw_below_drewN | apply below_drew1) | exact HB.out)⟩⟩
    case round =>
      clear H'
      try clear c1
      try clear p2
      try clear c3
      try clear c3b0
      try clear c3b1
      try clear c7
      obtain ⟨x7_1, rfl, HA, HK1, HO_4, HB⟩ := hrel
      cases gk with
      | zero => exact absurd HA.out (by simp [tammylaw06_LexKinds.l0])
      | succ k1 =>
        have H := HA.out
        clear HA
        simp only [tammylaw06_LexKinds.l0] at H
        by_cases c8 : x7_1 < (t227.length : Int)
        · rw [if_pos c8] at H
          have c8b0 : decide (x7_1 < (t227.length : Int)) = true := decide_eq_true c8
          clear c8
          by_cases c9 : 0 ≤ x7_1
          · rw [if_pos c9] at H
            have c9b0 : decide (0 ≤ x7_1) = true := decide_eq_true c9
            clear c9
            have HC10 := Aside0.mk H
            clear H
            obtain ⟨Ao11, co11, eo11⟩ := Kd.R_slice HO_4.out
            subst eo11
            have p232 : 0 ≤ (x7_1 : Int) := of_decide_eq_true (by first | (with_reducible assumption) | assumption)
            have q232 : x7_1 < (t227.length : Int) := of_decide_eq_true (by first | (with_reducible assumption) | assumption)
            obtain ⟨ad232, e232, hx232_0, hx232_1, hx232_2⟩ := at_T32 (Kd.R_reads' HO_4.out).2.2 x7_1 p232 q232
            cases e232
            replace p232 := eq_true p232
            replace q232 := eq_true q232
            go_upto_region 9 with (first | ((with_reducible refine gate_dst (N := 8) rfl ?_); (try (refine gate_guard (by rfl) ?_; dsimp only)); refine box_event ?hg (N := 8) ?hd (cs := #[.int .i64 0, .string (⟨#[]⟩ : ByteArray), .int .i64 0]) (t := 32) ?hr ?_; (case hd => rfl); (case hg => rfl); (case hr => first | (go_simp; done) | (go_simp; rfl)); intro gb233 hg w12 hbox hb; have n0_ := Aside0.mk (Kd.R_below (Kd.R_elderB (by (with_reducible repeat (first | apply Kd.R_alloc | apply Kd.R_drewN | apply Kd.R_drew)); exact HO_4.out) gb233 (Nat.le_of_eq hg.symm)) hb); have n1_ := Aside0.mk (below_step (by repeat (first | (with_reducible first | exact HB.out | apply below_alloc | apply pw_below_drewN | apply below_drew1) | exact HB.out)) hb); have n2_ := Aside0.mk (hbox); have n3_ := Aside0.mk ((by rw [hg]; exact (below_size (by repeat (first | (with_reducible first | exact HB.out | apply below_alloc | apply pw_below_drewN | apply below_drew1) | exact HB.out))) : w.heap.size ≤ gb233)); have n4_ := Aside0.mk ((by rw [hg]; exact (below_size (by repeat (first | (with_reducible first | exact HB.out | apply below_alloc | apply pw_below_drewN | apply below_drew1) | exact HB.out))) : w.heap.size ≤ gb233)); clear HO_4; clear HB; have HO_4 := n0_; have HB := n1_; have BK233 := n2_; have GW233 := n3_; have GE233 := n4_; clear n0_ n1_ n2_ n3_ n4_; clear hb hbox hg; have hcz13_0 : w12.cell? ⟨gb233, 0, none⟩ = some (.int .i64 0) := (blk_cell BK233.out 0).trans rfl; have hcz13_1 : w12.cell? ⟨gb233, 1, none⟩ = some (.string (⟨#[]⟩ : ByteArray)) := (blk_cell BK233.out 1).trans rfl; have hcz13_2 : w12.cell? ⟨gb233, 2, none⟩ = some (.int .i64 0) := (blk_cell BK233.out 2).trans rfl; have hfz13_0 := blk_frozen BK233.out 0; have hfz13_1 := blk_frozen BK233.out 1; have hfz13_2 := blk_frozen BK233.out 2))
            (try simp only [Act.put, List.setIfInBounds_toArray, List.set_cons_zero, List.set_cons_succ])
            go_cut [53] (fun v53 wc => ∃ (kq : Nat) (x53_9 : Bool), v53 = .bool x53_9 ∧ Aside0 (tammylaw06_LexKinds.j1 kq a0 t226 t227 x7_1 x53_9 ((rd_T32 t227 x7_1).f0) ((rd_T32 t227 x7_1).f1) ((rd_T32 t227 x7_1).f2) = some r) ∧ Aside0 (kq ≤ k1) ∧ Aside0 (Kd.R k32 32 wc w.heap.size (fun k_ => k_ ≠ gb233) (.slice (some ad232) t227.length co11) t227) ∧ Aside0 (wc.heap[gb233]? = some (.cells #[.int .i64 ((rd_T32 t227 x7_1).f0), .string ((rd_T32 t227 x7_1).f1), .int .i64 ((rd_T32 t227 x7_1).f2)] 32 (0, 0))) ∧ Aside0 (Below w.heap.size w wc))
            case first =>
              have H := HC10.out
              clear HC10
              by_cases c14 : ((rd_T32 t227 x7_1).f1).toList = ([] : List UInt8)
              · rw [if_pos c14] at H
                have c14b0 : (((rd_T32 t227 x7_1).f1).toList == ([] : List UInt8)) = true := beq_iff_eq.mpr c14
                have c14b1 : (((rd_T32 t227 x7_1).f1).toList != ([] : List UInt8)) = false := bne_eq_false_iff_eq.mpr c14
                clear c14
                (first | rw [c14b0] | (simp only [i64_w, i32_w]; rw [c14b0]) | skip)
                as_aux_lemma =>
                  have H' := Aside0.mk H
                  clear H
                  have hcz15_0 : w12.cell? ⟨gb233, 0, none⟩ = some (.int .i64 0) := (blk_cell BK233.out 0).trans rfl
                  have hcz15_1 : w12.cell? ⟨gb233, 1, none⟩ = some (.string (⟨#[]⟩ : ByteArray)) := (blk_cell BK233.out 1).trans rfl
                  have hcz15_2 : w12.cell? ⟨gb233, 2, none⟩ = some (.int .i64 0) := (blk_cell BK233.out 2).trans rfl
                  have hfz15_0 := blk_frozen BK233.out 0
                  have hfz15_1 := blk_frozen BK233.out 1
                  have hfz15_2 := blk_frozen BK233.out 2
                  go_wp2
                  go_meet
                  case rel => exact ⟨_, (true), (by first | rfl | (simp; done) | (simp [*]; done)), H', ⟨by have := HK1.out; first | omega | exact Nat.le_refl _⟩, ⟨by (with_reducible repeat (first | apply Kd.R_alloc | apply Kd.R_drewN | apply Kd.R_drew)); exact Kd.R_mono (Kd.R_far (p := ⟨gb233, 2, none⟩) (Kd.R_far (p := ⟨gb233, 1, none⟩) (Kd.R_far (p := ⟨gb233, 0, none⟩) (Kd.R_mono HO_4.out (fun k_ hk => (⟨hk, hk.2⟩ : _ ∧ k_ ≠ gb233))) (fun _ hk => hk.2) (.int .i64 ((rd_T32 t227 x7_1).f0))) (fun _ hk => hk.2) (.string ((rd_T32 t227 x7_1).f1))) (fun _ hk => hk.2) (.int .i64 ((rd_T32 t227 x7_1).f2))) (fun _ hk => hk.1.2)⟩, ⟨by (with_reducible repeat (first | refine blk_drewN ?_ _ | refine blk_drew ?_ | refine blk_alloc ?_ _)); refine blk_put (cs := #[.int .i64 ((rd_T32 t227 x7_1).f0), .string ((rd_T32 t227 x7_1).f1), .int .i64 0]) ?_ 2 _ rfl; (with_reducible repeat (first | refine blk_drewN ?_ _ | refine blk_drew ?_ | refine blk_alloc ?_ _)); refine blk_put (cs := #[.int .i64 ((rd_T32 t227 x7_1).f0), .string (⟨#[]⟩ : ByteArray), .int .i64 0]) ?_ 1 _ rfl; (with_reducible repeat (first | refine blk_drewN ?_ _ | refine blk_drew ?_ | refine blk_alloc ?_ _)); refine blk_put (cs := #[.int .i64 0, .string (⟨#[]⟩ : ByteArray), .int .i64 0]) ?_ 0 _ rfl; (with_reducible repeat (first | refine blk_drewN ?_ _ | refine blk_drew ?_ | refine blk_alloc ?_ _)); exact BK233.out⟩, ⟨by repeat (first | (with_reducible first | exact HB.out | apply below_alloc | apply pw_below_drewN | apply below_drew1 | refine below_set ?_ GE233.out) | exact HB.out)⟩⟩
              · rw [if_neg c14] at H
                have c14b0 : (((rd_T32 t227 x7_1).f1).toList == ([] : List UInt8)) = false := beq_eq_false_iff_ne.mpr c14
                have c14b1 : (((rd_T32 t227 x7_1).f1).toList != ([] : List UInt8)) = true := bne_iff_ne.mpr c14
                (first | rw [c14b0] | (simp only [i64_w, i32_w]; rw [c14b0]) | skip)
                by_cases c16 : ((rd_T32 t227 x7_1).f2) < 0
                · rw [if_pos c16] at H
                  have c16b0 : decide (((rd_T32 t227 x7_1).f2) < 0) = true := decide_eq_true c16
                  clear c16
                  as_aux_lemma =>
                    have H' := Aside0.mk H
                    clear H
                    have hcz17_0 : w12.cell? ⟨gb233, 0, none⟩ = some (.int .i64 0) := (blk_cell BK233.out 0).trans rfl
                    have hcz17_1 : w12.cell? ⟨gb233, 1, none⟩ = some (.string (⟨#[]⟩ : ByteArray)) := (blk_cell BK233.out 1).trans rfl
                    have hcz17_2 : w12.cell? ⟨gb233, 2, none⟩ = some (.int .i64 0) := (blk_cell BK233.out 2).trans rfl
                    have hfz17_0 := blk_frozen BK233.out 0
                    have hfz17_1 := blk_frozen BK233.out 1
                    have hfz17_2 := blk_frozen BK233.out 2
                    go_wp2
                    go_meet
                    case rel => exact ⟨_, (true), (by first | rfl | (simp; done) | (simp [*]; done)), H', ⟨by have := HK1.out; first | omega | exact Nat.le_refl _⟩, ⟨by (with_reducible repeat (first | apply Kd.R_alloc | apply Kd.R_drewN | apply Kd.R_drew)); exact Kd.R_mono (Kd.R_far (p := ⟨gb233, 2, none⟩) (Kd.R_far (p := ⟨gb233, 1, none⟩) (Kd.R_far (p := ⟨gb233, 0, none⟩) (Kd.R_mono HO_4.out (fun k_ hk => (⟨hk, hk.2⟩ : _ ∧ k_ ≠ gb233))) (fun _ hk => hk.2) (.int .i64 ((rd_T32 t227 x7_1).f0))) (fun _ hk => hk.2) (.string ((rd_T32 t227 x7_1).f1))) (fun _ hk => hk.2) (.int .i64 ((rd_T32 t227 x7_1).f2))) (fun _ hk => hk.1.2)⟩, ⟨by (with_reducible repeat (first | refine blk_drewN ?_ _ | refine blk_drew ?_ | refine blk_alloc ?_ _)); refine blk_put (cs := #[.int .i64 ((rd_T32 t227 x7_1).f0), .string ((rd_T32 t227 x7_1).f1), .int .i64 0]) ?_ 2 _ rfl; (with_reducible repeat (first | refine blk_drewN ?_ _ | refine blk_drew ?_ | refine blk_alloc ?_ _)); refine blk_put (cs := #[.int .i64 ((rd_T32 t227 x7_1).f0), .string (⟨#[]⟩ : ByteArray), .int .i64 0]) ?_ 1 _ rfl; (with_reducible repeat (first | refine blk_drewN ?_ _ | refine blk_drew ?_ | refine blk_alloc ?_ _)); refine blk_put (cs := #[.int .i64 0, .string (⟨#[]⟩ : ByteArray), .int .i64 0]) ?_ 0 _ rfl; (with_reducible repeat (first | refine blk_drewN ?_ _ | refine blk_drew ?_ | refine blk_alloc ?_ _)); exact BK233.out⟩, ⟨by repeat (first | (with_reducible first | exact HB.out | apply below_alloc | apply pw_below_drewN | apply below_drew1 | refine below_set ?_ GE233.out) | exact HB.out)⟩⟩
                · rw [if_neg c16] at H
                  have c16b0 : decide (((rd_T32 t227 x7_1).f2) < 0) = false := decide_eq_false c16
                  clear c16
                  as_aux_lemma =>
                    have H' := Aside0.mk H
                    clear H
                    have hcz18_0 : w12.cell? ⟨gb233, 0, none⟩ = some (.int .i64 0) := (blk_cell BK233.out 0).trans rfl
                    have hcz18_1 : w12.cell? ⟨gb233, 1, none⟩ = some (.string (⟨#[]⟩ : ByteArray)) := (blk_cell BK233.out 1).trans rfl
                    have hcz18_2 : w12.cell? ⟨gb233, 2, none⟩ = some (.int .i64 0) := (blk_cell BK233.out 2).trans rfl
                    have hfz18_0 := blk_frozen BK233.out 0
                    have hfz18_1 := blk_frozen BK233.out 1
                    have hfz18_2 := blk_frozen BK233.out 2
                    go_wp2
                    go_meet
                    case rel => exact ⟨_, (decide ((wrap64 (((rd_T32 t227 x7_1).f2) + (((rd_T32 t227 x7_1).f1).size : Int))) > (a0.size : Int))), (by first | rfl | (simp; done) | (simp [*]; done)), H', ⟨by have := HK1.out; first | omega | exact Nat.le_refl _⟩, ⟨by (with_reducible repeat (first | apply Kd.R_alloc | apply Kd.R_drewN | apply Kd.R_drew)); exact Kd.R_mono (Kd.R_far (p := ⟨gb233, 2, none⟩) (Kd.R_far (p := ⟨gb233, 1, none⟩) (Kd.R_far (p := ⟨gb233, 0, none⟩) (Kd.R_mono HO_4.out (fun k_ hk => (⟨hk, hk.2⟩ : _ ∧ k_ ≠ gb233))) (fun _ hk => hk.2) (.int .i64 ((rd_T32 t227 x7_1).f0))) (fun _ hk => hk.2) (.string ((rd_T32 t227 x7_1).f1))) (fun _ hk => hk.2) (.int .i64 ((rd_T32 t227 x7_1).f2))) (fun _ hk => hk.1.2)⟩, ⟨by (with_reducible repeat (first | refine blk_drewN ?_ _ | refine blk_drew ?_ | refine blk_alloc ?_ _)); refine blk_put (cs := #[.int .i64 ((rd_T32 t227 x7_1).f0), .string ((rd_T32 t227 x7_1).f1), .int .i64 0]) ?_ 2 _ rfl; (with_reducible repeat (first | refine blk_drewN ?_ _ | refine blk_drew ?_ | refine blk_alloc ?_ _)); refine blk_put (cs := #[.int .i64 ((rd_T32 t227 x7_1).f0), .string (⟨#[]⟩ : ByteArray), .int .i64 0]) ?_ 1 _ rfl; (with_reducible repeat (first | refine blk_drewN ?_ _ | refine blk_drew ?_ | refine blk_alloc ?_ _)); refine blk_put (cs := #[.int .i64 0, .string (⟨#[]⟩ : ByteArray), .int .i64 0]) ?_ 0 _ rfl; (with_reducible repeat (first | refine blk_drewN ?_ _ | refine blk_drew ?_ | refine blk_alloc ?_ _)); exact BK233.out⟩, ⟨by repeat (first | (with_reducible first | exact HB.out | apply below_alloc | apply pw_below_drewN | apply below_drew1 | refine below_set ?_ GE233.out) | exact HB.out)⟩⟩
            case rest =>
              clear HC10
              try clear c1
              try clear p2
              try clear q2
              try clear hx2
              try clear c3
              try clear c3b0
              try clear c3b1
              try clear p6
              try clear c7
              try clear c8
              try clear c8b0
              try clear c9
              try clear c9b0
              try clear c10
              try clear c11
              try clear c14
              try clear c14b0
              try clear c14b1
              try clear c16
              try clear c16b0
              try clear hcz13_0
              try clear hcz13_1
              try clear hcz13_2
              try clear hcz15_0
              try clear hcz15_1
              try clear hcz15_2
              try clear hcz17_0
              try clear hcz17_1
              try clear hcz17_2
              try clear hcz18_0
              try clear hcz18_1
              try clear hcz18_2
              try clear hfz13_0
              try clear hfz13_1
              try clear hfz13_2
              try clear hfz15_0
              try clear hfz15_1
              try clear hfz15_2
              try clear hfz17_0
              try clear hfz17_1
              try clear hfz17_2
              try clear hfz18_0
              try clear hfz18_1
              try clear hfz18_2
              try clear hx232_0
              try clear hx232_1
              try clear hx232_2
              try clear p2
              try clear p232
              try clear q232
              obtain ⟨kq, x53_9, rfl, HA, HJ9, HO_4, BK233, HB⟩ := hcut
              cases kq with
              | zero => exact absurd HA.out (by simp [tammylaw06_LexKinds.j1])
              | succ kj9 =>
                have H := HA.out
                clear HA
                simp only [tammylaw06_LexKinds.j1] at H
                by_cases c19 : x53_9 = true
                · subst c19
                  have H1 : (some false) = some r := by rw [if_pos rfl] at H; exact H
                  clear H
                  have H := H1
                  clear H1
                  as_aux_lemma =>
                    obtain rfl := Option.some.inj H
                    go_wp2
                    go_ret
                    exact ⟨by first | rfl | (simp [errW_none, errW_some] <;> rfl) | (simp [*, errW_none, errW_some] <;> rfl), by repeat (first | (with_reducible first | exact HB.out | apply below_alloc | apply pw_below_drewN | apply below_drew1 | refine below_set ?_ GE233.out) | exact HB.out)⟩
                · replace c19 := Bool.eq_false_iff.mpr c19
                  subst c19
                  have H1 : (if 0 < (((rd_T32 t227 x7_1).f1).size : Int) then (if (bt ((rd_T32 t227 x7_1).f1) 0) ≥ 48 then (tammylaw06_LexKinds.j2 kj9 a0 t226 t227 x7_1 (bt ((rd_T32 t227 x7_1).f1) 0) (decide ((bt ((rd_T32 t227 x7_1).f1) 0) ≤ 57)) ((rd_T32 t227 x7_1).f0) ((rd_T32 t227 x7_1).f1) ((rd_T32 t227 x7_1).f2)) else (tammylaw06_LexKinds.j2 kj9 a0 t226 t227 x7_1 (bt ((rd_T32 t227 x7_1).f1) 0) false ((rd_T32 t227 x7_1).f0) ((rd_T32 t227 x7_1).f1) ((rd_T32 t227 x7_1).f2))) else (none)) = some r := by rw [if_neg (show ¬ (false = true) by decide)] at H; exact H
                  clear H
                  have H := H1
                  clear H1
                  by_cases c20 : 0 < (((rd_T32 t227 x7_1).f1).size : Int)
                  · rw [if_pos c20] at H
                    have c20b0 : decide (0 < (((rd_T32 t227 x7_1).f1).size : Int)) = true := decide_eq_true c20
                    have c20b1 : decide (0 < ((rd_T32 t227 x7_1).f1).size) = true := decide_eq_true (by omega)
                    clear c20
                    have HC22 := Aside0.mk H
                    clear H
                    have hcz23_0 : wc.cell? ⟨gb233, 0, none⟩ = some (.int .i64 ((rd_T32 t227 x7_1).f0)) := (blk_cell BK233.out 0).trans rfl
                    have hcz23_1 : wc.cell? ⟨gb233, 1, none⟩ = some (.string ((rd_T32 t227 x7_1).f1)) := (blk_cell BK233.out 1).trans rfl
                    have hcz23_2 : wc.cell? ⟨gb233, 2, none⟩ = some (.int .i64 ((rd_T32 t227 x7_1).f2)) := (blk_cell BK233.out 2).trans rfl
                    have hfz23_0 := blk_frozen BK233.out 0
                    have hfz23_1 := blk_frozen BK233.out 1
                    have hfz23_2 := blk_frozen BK233.out 2
                    have p21 : 0 ≤ (0 : Int) := (by omega)
                    have q21 : 0 < ((rd_T32 t227 x7_1).f1).size := (by have : (0 : Int) < (((rd_T32 t227 x7_1).f1).size : Int) := of_decide_eq_true (by first | (with_reducible assumption) | assumption); omega)
                    have hx21 : ∀ h : 0 < ((rd_T32 t227 x7_1).f1).size, ((((rd_T32 t227 x7_1).f1)[0]'h).toNat : Int) = bt ((rd_T32 t227 x7_1).f1) 0 := bt_at ((rd_T32 t227 x7_1).f1) 0
                    clear p21
                    have qi21 : (0 < (((rd_T32 t227 x7_1).f1).size : Int)) = True := eq_true (of_decide_eq_true (by first | (with_reducible assumption) | assumption))
                    replace q21 := eq_true q21
                    go_upto_region 12 with (fail)
                    go_cut [10] (fun v10 wc => ∃ (kq : Nat) (x10_21 : Bool), v10 = .bool x10_21 ∧ Aside0 (tammylaw06_LexKinds.j2 kq a0 t226 t227 x7_1 (bt ((rd_T32 t227 x7_1).f1) 0) x10_21 ((rd_T32 t227 x7_1).f0) ((rd_T32 t227 x7_1).f1) ((rd_T32 t227 x7_1).f2) = some r) ∧ Aside0 (kq ≤ kj9) ∧ Aside0 (Kd.R k32 32 wc w.heap.size (fun k_ => k_ ≠ gb233) (.slice (some ad232) t227.length co11) t227) ∧ Aside0 (wc.heap[gb233]? = some (.cells #[.int .i64 ((rd_T32 t227 x7_1).f0), .string ((rd_T32 t227 x7_1).f1), .int .i64 ((rd_T32 t227 x7_1).f2)] 32 (0, 0))) ∧ Aside0 (Below w.heap.size w wc))
                    case first =>
                      have H := HC22.out
                      clear HC22
                      by_cases c24 : (bt ((rd_T32 t227 x7_1).f1) 0) ≥ 48
                      · rw [if_pos c24] at H
                        have c24b0 : decide (48 ≤ (bt ((rd_T32 t227 x7_1).f1) 0)) = true := decide_eq_true c24
                        clear c24
                        (first | rw [c24b0] | (simp only [i64_w, i32_w]; rw [c24b0]) | skip)
                        as_aux_lemma =>
                          have H' := Aside0.mk H
                          clear H
                          go_wp2
                          go_meet
                          case rel => exact ⟨_, (decide ((bt ((rd_T32 t227 x7_1).f1) 0) ≤ 57)), (by first | rfl | (simp; done) | (simp [*]; done)), H', ⟨by have := HK1.out; have := HJ9.out; first | omega | exact Nat.le_refl _⟩, ⟨by (with_reducible repeat (first | apply Kd.R_alloc | apply Kd.R_drewN | apply Kd.R_drew)); exact HO_4.out⟩, ⟨by (with_reducible repeat (first | refine blk_drewN ?_ _ | refine blk_drew ?_ | refine blk_alloc ?_ _)); exact BK233.out⟩, ⟨by repeat (first | (with_reducible first | exact HB.out | apply below_alloc | apply pw_below_drewN | apply below_drew1 | refine below_set ?_ GE233.out) | exact HB.out)⟩⟩
                      · rw [if_neg c24] at H
                        have c24b0 : decide (48 ≤ (bt ((rd_T32 t227 x7_1).f1) 0)) = false := decide_eq_false c24
                        clear c24
                        (first | rw [c24b0] | (simp only [i64_w, i32_w]; rw [c24b0]) | skip)
                        as_aux_lemma =>
                          have H' := Aside0.mk H
                          clear H
                          go_wp2
                          go_meet
                          case rel => exact ⟨_, (false), (by first | rfl | (simp; done) | (simp [*]; done)), H', ⟨by have := HK1.out; have := HJ9.out; first | omega | exact Nat.le_refl _⟩, ⟨by (with_reducible repeat (first | apply Kd.R_alloc | apply Kd.R_drewN | apply Kd.R_drew)); exact HO_4.out⟩, ⟨by (with_reducible repeat (first | refine blk_drewN ?_ _ | refine blk_drew ?_ | refine blk_alloc ?_ _)); exact BK233.out⟩, ⟨by repeat (first | (with_reducible first | exact HB.out | apply below_alloc | apply pw_below_drewN | apply below_drew1 | refine below_set ?_ GE233.out) | exact HB.out)⟩⟩
                    case rest =>
                      clear HC22
                      try clear c1
                      try clear c2
                      try clear p2
                      try clear q2
                      try clear hx2
                      try clear qi2
                      try clear c3
                      try clear c3b0
                      try clear c3b1
                      try clear p6
                      try clear c7
                      try clear c8
                      try clear c8b0
                      try clear c9
                      try clear c9b0
                      try clear c10
                      try clear c11
                      try clear c14
                      try clear c14b0
                      try clear c14b1
                      try clear c16
                      try clear c16b0
                      try clear c19
                      try clear c20
                      try clear c20b0
                      try clear c20b1
                      try clear p21
                      try clear q21
                      try clear hx21
                      try clear qi21
                      try clear p23
                      try clear q23
                      try clear hx23
                      try clear c24
                      try clear c24b0
                      try clear hcz13_0
                      try clear hcz13_1
                      try clear hcz13_2
                      try clear hcz15_0
                      try clear hcz15_1
                      try clear hcz15_2
                      try clear hcz17_0
                      try clear hcz17_1
                      try clear hcz17_2
                      try clear hcz18_0
                      try clear hcz18_1
                      try clear hcz18_2
                      try clear hcz23_0
                      try clear hcz23_1
                      try clear hcz23_2
                      try clear hfz13_0
                      try clear hfz13_1
                      try clear hfz13_2
                      try clear hfz15_0
                      try clear hfz15_1
                      try clear hfz15_2
                      try clear hfz17_0
                      try clear hfz17_1
                      try clear hfz17_2
                      try clear hfz18_0
                      try clear hfz18_1
                      try clear hfz18_2
                      try clear hfz23_0
                      try clear hfz23_1
                      try clear hfz23_2
                      try clear hx232_0
                      try clear hx232_1
                      try clear hx232_2
                      try clear p2
                      try clear p21
                      try clear p232
                      try clear p6
                      try clear q2
                      try clear q21
                      try clear q232
                      obtain ⟨kq, x10_21, rfl, HA, HJ21, HO_4, BK233, HB⟩ := hcut
                      cases kq with
                      | zero => exact absurd HA.out (by simp [tammylaw06_LexKinds.j2])
                      | succ kj21 =>
                        have H := HA.out
                        clear HA
                        simp only [tammylaw06_LexKinds.j2] at H
                        have HC25 := Aside0.mk H
                        clear H
                        go_upto_region 13 with (fail)
                        go_cut [11] (fun v11 wc => ∃ (kq : Nat) (x11_24 : Bool), v11 = .bool x11_24 ∧ Aside0 (tammylaw06_LexKinds.j3 kq a0 t226 t227 x7_1 x10_21 x11_24 ((rd_T32 t227 x7_1).f0) ((rd_T32 t227 x7_1).f1) ((rd_T32 t227 x7_1).f2) = some r) ∧ Aside0 (kq ≤ kj21) ∧ Aside0 (Kd.R k32 32 wc w.heap.size (fun k_ => k_ ≠ gb233) (.slice (some ad232) t227.length co11) t227) ∧ Aside0 (wc.heap[gb233]? = some (.cells #[.int .i64 ((rd_T32 t227 x7_1).f0), .string ((rd_T32 t227 x7_1).f1), .int .i64 ((rd_T32 t227 x7_1).f2)] 32 (0, 0))) ∧ Aside0 (Below w.heap.size w wc))
                        case first =>
                          have H := HC25.out
                          clear HC25
                          by_cases c26 : (bt ((rd_T32 t227 x7_1).f1) 0) ≥ 97
                          · rw [if_pos c26] at H
                            have c26b0 : decide (97 ≤ (bt ((rd_T32 t227 x7_1).f1) 0)) = true := decide_eq_true c26
                            clear c26
                            (first | rw [c26b0] | (simp only [i64_w, i32_w]; rw [c26b0]) | skip)
                            by_cases c27 : (bt ((rd_T32 t227 x7_1).f1) 0) ≤ 122
                            · rw [if_pos c27] at H
                              have c27b0 : decide ((bt ((rd_T32 t227 x7_1).f1) 0) ≤ 122) = true := decide_eq_true c27
                              clear c27
                              as_aux_lemma =>
                                have H' := Aside0.mk H
                                clear H
                                go_wp2
                                go_meet
                                case rel => exact ⟨_, (true), (by first | rfl | (simp; done) | (simp [*]; done)), H', ⟨by have := HK1.out; have := HJ9.out; have := HJ21.out; first | omega | exact Nat.le_refl _⟩, ⟨by (with_reducible repeat (first | apply Kd.R_alloc | apply Kd.R_drewN | apply Kd.R_drew)); exact HO_4.out⟩, ⟨by (with_reducible repeat (first | refine blk_drewN ?_ _ | refine blk_drew ?_ | refine blk_alloc ?_ _)); exact BK233.out⟩, ⟨by repeat (first | (with_reducible first | exact HB.out | apply below_alloc | apply pw_below_drewN | apply below_drew1 | refine below_set ?_ GE233.out) | exact HB.out)⟩⟩
                            · rw [if_neg c27] at H
                              have c27b0 : decide ((bt ((rd_T32 t227 x7_1).f1) 0) ≤ 122) = false := decide_eq_false c27
                              clear c27
                              by_cases c28 : (bt ((rd_T32 t227 x7_1).f1) 0) ≥ 65
                              · rw [if_pos c28] at H
                                have c28b0 : decide (65 ≤ (bt ((rd_T32 t227 x7_1).f1) 0)) = true := decide_eq_true c28
                                clear c28
                                as_aux_lemma =>
                                  have H' := Aside0.mk H
                                  clear H
                                  go_wp2
                                  go_meet
                                  case rel => exact ⟨_, (decide ((bt ((rd_T32 t227 x7_1).f1) 0) ≤ 90)), (by first | rfl | (simp; done) | (simp [*]; done)), H', ⟨by have := HK1.out; have := HJ9.out; have := HJ21.out; first | omega | exact Nat.le_refl _⟩, ⟨by (with_reducible repeat (first | apply Kd.R_alloc | apply Kd.R_drewN | apply Kd.R_drew)); exact HO_4.out⟩, ⟨by (with_reducible repeat (first | refine blk_drewN ?_ _ | refine blk_drew ?_ | refine blk_alloc ?_ _)); exact BK233.out⟩, ⟨by repeat (first | (with_reducible first | exact HB.out | apply below_alloc | apply pw_below_drewN | apply below_drew1 | refine below_set ?_ GE233.out) | exact HB.out)⟩⟩
                              · rw [if_neg c28] at H
                                have c28b0 : decide (65 ≤ (bt ((rd_T32 t227 x7_1).f1) 0)) = false := decide_eq_false c28
                                clear c28
                                as_aux_lemma =>
                                  have H' := Aside0.mk H
                                  clear H
                                  go_wp2
                                  go_meet
                                  case rel => exact ⟨_, (false), (by first | rfl | (simp; done) | (simp [*]; done)), H', ⟨by have := HK1.out; have := HJ9.out; have := HJ21.out; first | omega | exact Nat.le_refl _⟩, ⟨by (with_reducible repeat (first | apply Kd.R_alloc | apply Kd.R_drewN | apply Kd.R_drew)); exact HO_4.out⟩, ⟨by (with_reducible repeat (first | refine blk_drewN ?_ _ | refine blk_drew ?_ | refine blk_alloc ?_ _)); exact BK233.out⟩, ⟨by repeat (first | (with_reducible first | exact HB.out | apply below_alloc | apply pw_below_drewN | apply below_drew1 | refine below_set ?_ GE233.out) | exact HB.out)⟩⟩
                          · rw [if_neg c26] at H
                            have c26b0 : decide (97 ≤ (bt ((rd_T32 t227 x7_1).f1) 0)) = false := decide_eq_false c26
                            clear c26
                            (first | rw [c26b0] | (simp only [i64_w, i32_w]; rw [c26b0]) | skip)
                            by_cases c29 : (bt ((rd_T32 t227 x7_1).f1) 0) ≥ 65
                            · rw [if_pos c29] at H
                              have c29b0 : decide (65 ≤ (bt ((rd_T32 t227 x7_1).f1) 0)) = true := decide_eq_true c29
                              clear c29
                              as_aux_lemma =>
                                have H' := Aside0.mk H
                                clear H
                                go_wp2
                                go_meet
                                case rel => exact ⟨_, (decide ((bt ((rd_T32 t227 x7_1).f1) 0) ≤ 90)), (by first | rfl | (simp; done) | (simp [*]; done)), H', ⟨by have := HK1.out; have := HJ9.out; have := HJ21.out; first | omega | exact Nat.le_refl _⟩, ⟨by (with_reducible repeat (first | apply Kd.R_alloc | apply Kd.R_drewN | apply Kd.R_drew)); exact HO_4.out⟩, ⟨by (with_reducible repeat (first | refine blk_drewN ?_ _ | refine blk_drew ?_ | refine blk_alloc ?_ _)); exact BK233.out⟩, ⟨by repeat (first | (with_reducible first | exact HB.out | apply below_alloc | apply pw_below_drewN | apply below_drew1 | refine below_set ?_ GE233.out) | exact HB.out)⟩⟩
                            · rw [if_neg c29] at H
                              have c29b0 : decide (65 ≤ (bt ((rd_T32 t227 x7_1).f1) 0)) = false := decide_eq_false c29
                              clear c29
                              as_aux_lemma =>
                                have H' := Aside0.mk H
                                clear H
                                go_wp2
                                go_meet
                                case rel => exact ⟨_, (false), (by first | rfl | (simp; done) | (simp [*]; done)), H', ⟨by have := HK1.out; have := HJ9.out; have := HJ21.out; first | omega | exact Nat.le_refl _⟩, ⟨by (with_reducible repeat (first | apply Kd.R_alloc | apply Kd.R_drewN | apply Kd.R_drew)); exact HO_4.out⟩, ⟨by (with_reducible repeat (first | refine blk_drewN ?_ _ | refine blk_drew ?_ | refine blk_alloc ?_ _)); exact BK233.out⟩, ⟨by repeat (first | (with_reducible first | exact HB.out | apply below_alloc | apply pw_below_drewN | apply below_drew1 | refine below_set ?_ GE233.out) | exact HB.out)⟩⟩
                        case rest =>
                          clear HC25
                          try clear c1
                          try clear c2
                          try clear p2
                          try clear q2
                          try clear hx2
                          try clear qi2
                          try clear c3
                          try clear c3b0
                          try clear c3b1
                          try clear p6
                          try clear c7
                          try clear c8
                          try clear c8b0
                          try clear c9
                          try clear c9b0
                          try clear c10
                          try clear c11
                          try clear c14
                          try clear c14b0
                          try clear c14b1
                          try clear c16
                          try clear c16b0
                          try clear c19
                          try clear c20
                          try clear c20b0
                          try clear c20b1
                          try clear p21
                          try clear q21
                          try clear hx21
                          try clear qi21
                          try clear p23
                          try clear q23
                          try clear hx23
                          try clear c24
                          try clear c24b0
                          try clear c26
                          try clear c26b0
                          try clear c27
                          try clear c27b0
                          try clear c28
                          try clear c28b0
                          try clear c29
                          try clear c29b0
                          try clear hcz13_0
                          try clear hcz13_1
                          try clear hcz13_2
                          try clear hcz15_0
                          try clear hcz15_1
                          try clear hcz15_2
                          try clear hcz17_0
                          try clear hcz17_1
                          try clear hcz17_2
                          try clear hcz18_0
                          try clear hcz18_1
                          try clear hcz18_2
                          try clear hcz23_0
                          try clear hcz23_1
                          try clear hcz23_2
                          try clear hfz13_0
                          try clear hfz13_1
                          try clear hfz13_2
                          try clear hfz15_0
                          try clear hfz15_1
                          try clear hfz15_2
                          try clear hfz17_0
                          try clear hfz17_1
                          try clear hfz17_2
                          try clear hfz18_0
                          try clear hfz18_1
                          try clear hfz18_2
                          try clear hfz23_0
                          try clear hfz23_1
                          try clear hfz23_2
                          try clear hx232_0
                          try clear hx232_1
                          try clear hx232_2
                          try clear p2
                          try clear p21
                          try clear p23
                          try clear p232
                          try clear p6
                          try clear q2
                          try clear q21
                          try clear q23
                          try clear q232
                          obtain ⟨kq, x11_24, rfl, HA, HJ24, HO_4, BK233, HB⟩ := hcut
                          cases kq with
                          | zero => exact absurd HA.out (by simp [tammylaw06_LexKinds.j3])
                          | succ kj24 =>
                            have H := HA.out
                            clear HA
                            simp only [tammylaw06_LexKinds.j3] at H
                            have HC30 := Aside0.mk H
                            clear H
                            go_upto_region 14 with (fail)
                            go_cut [99] (fun v99 wc => ∃ (kq : Nat) (x99_29 : Bool), v99 = .bool x99_29 ∧ Aside0 (tammylaw06_LexKinds.j4 kq a0 t226 t227 x7_1 x10_21 x11_24 x99_29 ((rd_T32 t227 x7_1).f0) ((rd_T32 t227 x7_1).f1) ((rd_T32 t227 x7_1).f2) = some r) ∧ Aside0 (kq ≤ kj24) ∧ Aside0 (Kd.R k32 32 wc w.heap.size (fun k_ => k_ ≠ gb233) (.slice (some ad232) t227.length co11) t227) ∧ Aside0 (wc.heap[gb233]? = some (.cells #[.int .i64 ((rd_T32 t227 x7_1).f0), .string ((rd_T32 t227 x7_1).f1), .int .i64 ((rd_T32 t227 x7_1).f2)] 32 (0, 0))) ∧ Aside0 (Below w.heap.size w wc))
                            case first =>
                              have H := HC30.out
                              clear HC30
                              by_cases c31 : ((((rd_T32 t227 x7_1).f0) == 2) != x10_21) = true
                              · rw [if_pos c31] at H
                                have c31b0 : ((((rd_T32 t227 x7_1).f0) == 2) != x10_21) = true := c31
                                (try (have c31b1 : decide ((((rd_T32 t227 x7_1).f0) == 2) = x10_21) = false := by simpa using c31))
                                (try (have c31b2 : ((((rd_T32 t227 x7_1).f0) == 2) == x10_21) = false := by simpa using c31))
                                (try (have c31b3 : ¬ ((((rd_T32 t227 x7_1).f0) == 2) = x10_21) := by simpa using c31))
                                clear c31
                                (first | rw [c31b0] | (simp only [i64_w, i32_w]; rw [c31b0]) | skip)
                                as_aux_lemma =>
                                  have H' := Aside0.mk H
                                  clear H
                                  have hcz32_0 : wc.cell? ⟨gb233, 0, none⟩ = some (.int .i64 ((rd_T32 t227 x7_1).f0)) := (blk_cell BK233.out 0).trans rfl
                                  have hcz32_1 : wc.cell? ⟨gb233, 1, none⟩ = some (.string ((rd_T32 t227 x7_1).f1)) := (blk_cell BK233.out 1).trans rfl
                                  have hcz32_2 : wc.cell? ⟨gb233, 2, none⟩ = some (.int .i64 ((rd_T32 t227 x7_1).f2)) := (blk_cell BK233.out 2).trans rfl
                                  have hfz32_0 := blk_frozen BK233.out 0
                                  have hfz32_1 := blk_frozen BK233.out 1
                                  have hfz32_2 := blk_frozen BK233.out 2
                                  go_wp2
                                  go_meet
                                  case rel => exact ⟨_, (true), (by first | rfl | (simp; done) | (simp [*]; done)), H', ⟨by have := HK1.out; have := HJ9.out; have := HJ21.out; have := HJ24.out; first | omega | exact Nat.le_refl _⟩, ⟨by (with_reducible repeat (first | apply Kd.R_alloc | apply Kd.R_drewN | apply Kd.R_drew)); exact HO_4.out⟩, ⟨by (with_reducible repeat (first | refine blk_drewN ?_ _ | refine blk_drew ?_ | refine blk_alloc ?_ _)); exact BK233.out⟩, ⟨by repeat (first | (with_reducible first | exact HB.out | apply below_alloc | apply pw_below_drewN | apply below_drew1 | refine below_set ?_ GE233.out) | exact HB.out)⟩⟩
                              · rw [if_neg c31] at H
                                have c31b0 : ((((rd_T32 t227 x7_1).f0) == 2) != x10_21) = false := by simpa using c31
                                (try (have c31b1 : decide ((((rd_T32 t227 x7_1).f0) == 2) = x10_21) = true := by simpa using c31))
                                (try (have c31b2 : ((((rd_T32 t227 x7_1).f0) == 2) == x10_21) = true := by simpa using c31))
                                clear c31
                                (first | rw [c31b0] | (simp only [i64_w, i32_w]; rw [c31b0]) | skip)
                                by_cases c33 : ((((rd_T32 t227 x7_1).f0) == 1) != x11_24) = true
                                · rw [if_pos c33] at H
                                  have c33b0 : ((((rd_T32 t227 x7_1).f0) == 1) != x11_24) = true := c33
                                  (try (have c33b1 : decide ((((rd_T32 t227 x7_1).f0) == 1) = x11_24) = false := by simpa using c33))
                                  (try (have c33b2 : ((((rd_T32 t227 x7_1).f0) == 1) == x11_24) = false := by simpa using c33))
                                  (try (have c33b3 : ¬ ((((rd_T32 t227 x7_1).f0) == 1) = x11_24) := by simpa using c33))
                                  clear c33
                                  as_aux_lemma =>
                                    have H' := Aside0.mk H
                                    clear H
                                    have hcz34_0 : wc.cell? ⟨gb233, 0, none⟩ = some (.int .i64 ((rd_T32 t227 x7_1).f0)) := (blk_cell BK233.out 0).trans rfl
                                    have hcz34_1 : wc.cell? ⟨gb233, 1, none⟩ = some (.string ((rd_T32 t227 x7_1).f1)) := (blk_cell BK233.out 1).trans rfl
                                    have hcz34_2 : wc.cell? ⟨gb233, 2, none⟩ = some (.int .i64 ((rd_T32 t227 x7_1).f2)) := (blk_cell BK233.out 2).trans rfl
                                    have hfz34_0 := blk_frozen BK233.out 0
                                    have hfz34_1 := blk_frozen BK233.out 1
                                    have hfz34_2 := blk_frozen BK233.out 2
                                    go_wp2
                                    go_meet
                                    case rel => exact ⟨_, (true), (by first | rfl | (simp; done) | (simp [*]; done)), H', ⟨by have := HK1.out; have := HJ9.out; have := HJ21.out; have := HJ24.out; first | omega | exact Nat.le_refl _⟩, ⟨by (with_reducible repeat (first | apply Kd.R_alloc | apply Kd.R_drewN | apply Kd.R_drew)); exact HO_4.out⟩, ⟨by (with_reducible repeat (first | refine blk_drewN ?_ _ | refine blk_drew ?_ | refine blk_alloc ?_ _)); exact BK233.out⟩, ⟨by repeat (first | (with_reducible first | exact HB.out | apply below_alloc | apply pw_below_drewN | apply below_drew1 | refine below_set ?_ GE233.out) | exact HB.out)⟩⟩
                                · rw [if_neg c33] at H
                                  have c33b0 : ((((rd_T32 t227 x7_1).f0) == 1) != x11_24) = false := by simpa using c33
                                  (try (have c33b1 : decide ((((rd_T32 t227 x7_1).f0) == 1) = x11_24) = true := by simpa using c33))
                                  (try (have c33b2 : ((((rd_T32 t227 x7_1).f0) == 1) == x11_24) = true := by simpa using c33))
                                  clear c33
                                  by_cases c35 : ((rd_T32 t227 x7_1).f0) = 3
                                  · rw [if_pos c35] at H
                                    have c35b0 : (((rd_T32 t227 x7_1).f0) == 3) = true := beq_iff_eq.mpr c35
                                    have c35b1 : (((rd_T32 t227 x7_1).f0) != 3) = false := bne_eq_false_iff_eq.mpr c35
                                    clear c35
                                    as_aux_lemma =>
                                      have H' := Aside0.mk H
                                      clear H
                                      have hcz36_0 : wc.cell? ⟨gb233, 0, none⟩ = some (.int .i64 ((rd_T32 t227 x7_1).f0)) := (blk_cell BK233.out 0).trans rfl
                                      have hcz36_1 : wc.cell? ⟨gb233, 1, none⟩ = some (.string ((rd_T32 t227 x7_1).f1)) := (blk_cell BK233.out 1).trans rfl
                                      have hcz36_2 : wc.cell? ⟨gb233, 2, none⟩ = some (.int .i64 ((rd_T32 t227 x7_1).f2)) := (blk_cell BK233.out 2).trans rfl
                                      have hfz36_0 := blk_frozen BK233.out 0
                                      have hfz36_1 := blk_frozen BK233.out 1
                                      have hfz36_2 := blk_frozen BK233.out 2
                                      go_wp2
                                      go_meet
                                      case rel => exact ⟨_, (decide ((((rd_T32 t227 x7_1).f1).size : Int) > 2)), (by first | rfl | (simp; done) | (simp [*]; done)), H', ⟨by have := HK1.out; have := HJ9.out; have := HJ21.out; have := HJ24.out; first | omega | exact Nat.le_refl _⟩, ⟨by (with_reducible repeat (first | apply Kd.R_alloc | apply Kd.R_drewN | apply Kd.R_drew)); exact HO_4.out⟩, ⟨by (with_reducible repeat (first | refine blk_drewN ?_ _ | refine blk_drew ?_ | refine blk_alloc ?_ _)); exact BK233.out⟩, ⟨by repeat (first | (with_reducible first | exact HB.out | apply below_alloc | apply pw_below_drewN | apply below_drew1 | refine below_set ?_ GE233.out) | exact HB.out)⟩⟩
                                  · rw [if_neg c35] at H
                                    have c35b0 : (((rd_T32 t227 x7_1).f0) == 3) = false := beq_eq_false_iff_ne.mpr c35
                                    have c35b1 : (((rd_T32 t227 x7_1).f0) != 3) = true := bne_iff_ne.mpr c35
                                    as_aux_lemma =>
                                      have H' := Aside0.mk H
                                      clear H
                                      have hcz37_0 : wc.cell? ⟨gb233, 0, none⟩ = some (.int .i64 ((rd_T32 t227 x7_1).f0)) := (blk_cell BK233.out 0).trans rfl
                                      have hcz37_1 : wc.cell? ⟨gb233, 1, none⟩ = some (.string ((rd_T32 t227 x7_1).f1)) := (blk_cell BK233.out 1).trans rfl
                                      have hcz37_2 : wc.cell? ⟨gb233, 2, none⟩ = some (.int .i64 ((rd_T32 t227 x7_1).f2)) := (blk_cell BK233.out 2).trans rfl
                                      have hfz37_0 := blk_frozen BK233.out 0
                                      have hfz37_1 := blk_frozen BK233.out 1
                                      have hfz37_2 := blk_frozen BK233.out 2
                                      go_wp2
                                      go_meet
                                      case rel => exact ⟨_, (false), (by first | rfl | (simp; done) | (simp [*]; done)), H', ⟨by have := HK1.out; have := HJ9.out; have := HJ21.out; have := HJ24.out; first | omega | exact Nat.le_refl _⟩, ⟨by (with_reducible repeat (first | apply Kd.R_alloc | apply Kd.R_drewN | apply Kd.R_drew)); exact HO_4.out⟩, ⟨by (with_reducible repeat (first | refine blk_drewN ?_ _ | refine blk_drew ?_ | refine blk_alloc ?_ _)); exact BK233.out⟩, ⟨by repeat (first | (with_reducible first | exact HB.out | apply below_alloc | apply pw_below_drewN | apply below_drew1 | refine below_set ?_ GE233.out) | exact HB.out)⟩⟩
                            case rest =>
                              clear HC30
                              try clear c1
                              try clear c2
                              try clear p2
                              try clear q2
                              try clear hx2
                              try clear qi2
                              try clear c3
                              try clear c3b0
                              try clear c3b1
                              try clear p6
                              try clear c7
                              try clear c8
                              try clear c8b0
                              try clear c9
                              try clear c9b0
                              try clear c10
                              try clear c11
                              try clear c14
                              try clear c14b0
                              try clear c14b1
                              try clear c16
                              try clear c16b0
                              try clear c19
                              try clear c20
                              try clear c20b0
                              try clear c20b1
                              try clear p21
                              try clear q21
                              try clear hx21
                              try clear qi21
                              try clear p23
                              try clear q23
                              try clear hx23
                              try clear c24
                              try clear c24b0
                              try clear c26
                              try clear c26b0
                              try clear c27
                              try clear c27b0
                              try clear c28
                              try clear c28b0
                              try clear c29
                              try clear c29b0
                              try clear c31
                              try clear c31b0
                              try clear c31b1
                              try clear c31b2
                              try clear c33
                              try clear c33b0
                              try clear c33b1
                              try clear c33b2
                              try clear c35
                              try clear c35b0
                              try clear c35b1
                              try clear hcz13_0
                              try clear hcz13_1
                              try clear hcz13_2
                              try clear hcz15_0
                              try clear hcz15_1
                              try clear hcz15_2
                              try clear hcz17_0
                              try clear hcz17_1
                              try clear hcz17_2
                              try clear hcz18_0
                              try clear hcz18_1
                              try clear hcz18_2
                              try clear hcz23_0
                              try clear hcz23_1
                              try clear hcz23_2
                              try clear hcz32_0
                              try clear hcz32_1
                              try clear hcz32_2
                              try clear hcz34_0
                              try clear hcz34_1
                              try clear hcz34_2
                              try clear hcz36_0
                              try clear hcz36_1
                              try clear hcz36_2
                              try clear hcz37_0
                              try clear hcz37_1
                              try clear hcz37_2
                              try clear hfz13_0
                              try clear hfz13_1
                              try clear hfz13_2
                              try clear hfz15_0
                              try clear hfz15_1
                              try clear hfz15_2
                              try clear hfz17_0
                              try clear hfz17_1
                              try clear hfz17_2
                              try clear hfz18_0
                              try clear hfz18_1
                              try clear hfz18_2
                              try clear hfz23_0
                              try clear hfz23_1
                              try clear hfz23_2
                              try clear hfz32_0
                              try clear hfz32_1
                              try clear hfz32_2
                              try clear hfz34_0
                              try clear hfz34_1
                              try clear hfz34_2
                              try clear hfz36_0
                              try clear hfz36_1
                              try clear hfz36_2
                              try clear hfz37_0
                              try clear hfz37_1
                              try clear hfz37_2
                              try clear hx232_0
                              try clear hx232_1
                              try clear hx232_2
                              try clear p2
                              try clear p21
                              try clear p23
                              try clear p232
                              try clear p6
                              try clear q2
                              try clear q21
                              try clear q23
                              try clear q232
                              obtain ⟨kq, x99_29, rfl, HA, HJ29, HO_4, BK233, HB⟩ := hcut
                              cases kq with
                              | zero => exact absurd HA.out (by simp [tammylaw06_LexKinds.j4])
                              | succ kj29 =>
                                have H := HA.out
                                clear HA
                                simp only [tammylaw06_LexKinds.j4] at H
                                by_cases c38 : x99_29 = true
                                · subst c38
                                  have H1 : (some false) = some r := by rw [if_pos rfl] at H; exact H
                                  clear H
                                  have H := H1
                                  clear H1
                                  as_aux_lemma =>
                                    obtain rfl := Option.some.inj H
                                    go_wp2
                                    go_ret
                                    exact ⟨by first | rfl | (simp [errW_none, errW_some] <;> rfl) | (simp [*, errW_none, errW_some] <;> rfl), by repeat (first | (with_reducible first | exact HB.out | apply below_alloc | apply pw_below_drewN | apply below_drew1 | refine below_set ?_ GE233.out) | exact HB.out)⟩
                                · replace c38 := Bool.eq_false_iff.mpr c38
                                  subst c38
                                  have H1 : (if (wrap64 (((rd_T32 t227 x7_1).f2) + (((rd_T32 t227 x7_1).f1).size : Int))) < (a0.size : Int) then (if 0 ≤ (wrap64 (((rd_T32 t227 x7_1).f2) + (((rd_T32 t227 x7_1).f1).size : Int))) then (if (bt a0 (wrap64 (((rd_T32 t227 x7_1).f2) + (((rd_T32 t227 x7_1).f1).size : Int)))) ≥ 48 then (if x10_21 = true then (if (bt a0 (wrap64 (((rd_T32 t227 x7_1).f2) + (((rd_T32 t227 x7_1).f1).size : Int)))) ≤ 57 then (some false) else (if x11_24 = true then (if (bt a0 (wrap64 (((rd_T32 t227 x7_1).f2) + (((rd_T32 t227 x7_1).f1).size : Int)))) = 95 then (some false) else (if (bt a0 (wrap64 (((rd_T32 t227 x7_1).f2) + (((rd_T32 t227 x7_1).f1).size : Int)))) ≥ 97 then (if (bt a0 (wrap64 (((rd_T32 t227 x7_1).f2) + (((rd_T32 t227 x7_1).f1).size : Int)))) ≤ 122 then (some false) else (if (bt a0 (wrap64 (((rd_T32 t227 x7_1).f2) + (((rd_T32 t227 x7_1).f1).size : Int)))) ≥ 65 then (if (bt a0 (wrap64 (((rd_T32 t227 x7_1).f2) + (((rd_T32 t227 x7_1).f1).size : Int)))) ≤ 90 then (some false) else (tammylaw06_LexKinds.l0 kj29 a0 t226 t227 (wrap64 (x7_1 + 1)))) else (tammylaw06_LexKinds.l0 kj29 a0 t226 t227 (wrap64 (x7_1 + 1))))) else (if (bt a0 (wrap64 (((rd_T32 t227 x7_1).f2) + (((rd_T32 t227 x7_1).f1).size : Int)))) ≥ 65 then (if (bt a0 (wrap64 (((rd_T32 t227 x7_1).f2) + (((rd_T32 t227 x7_1).f1).size : Int)))) ≤ 90 then (some false) else (tammylaw06_LexKinds.l0 kj29 a0 t226 t227 (wrap64 (x7_1 + 1)))) else (tammylaw06_LexKinds.l0 kj29 a0 t226 t227 (wrap64 (x7_1 + 1)))))) else (tammylaw06_LexKinds.l0 kj29 a0 t226 t227 (wrap64 (x7_1 + 1))))) else (if x11_24 = true then (if (bt a0 (wrap64 (((rd_T32 t227 x7_1).f2) + (((rd_T32 t227 x7_1).f1).size : Int)))) ≤ 57 then (some false) else (if (bt a0 (wrap64 (((rd_T32 t227 x7_1).f2) + (((rd_T32 t227 x7_1).f1).size : Int)))) = 95 then (some false) else (if (bt a0 (wrap64 (((rd_T32 t227 x7_1).f2) + (((rd_T32 t227 x7_1).f1).size : Int)))) ≥ 97 then (if (bt a0 (wrap64 (((rd_T32 t227 x7_1).f2) + (((rd_T32 t227 x7_1).f1).size : Int)))) ≤ 122 then (some false) else (if (bt a0 (wrap64 (((rd_T32 t227 x7_1).f2) + (((rd_T32 t227 x7_1).f1).size : Int)))) ≥ 65 then (if (bt a0 (wrap64 (((rd_T32 t227 x7_1).f2) + (((rd_T32 t227 x7_1).f1).size : Int)))) ≤ 90 then (some false) else (tammylaw06_LexKinds.l0 kj29 a0 t226 t227 (wrap64 (x7_1 + 1)))) else (tammylaw06_LexKinds.l0 kj29 a0 t226 t227 (wrap64 (x7_1 + 1))))) else (if (bt a0 (wrap64 (((rd_T32 t227 x7_1).f2) + (((rd_T32 t227 x7_1).f1).size : Int)))) ≥ 65 then (if (bt a0 (wrap64 (((rd_T32 t227 x7_1).f2) + (((rd_T32 t227 x7_1).f1).size : Int)))) ≤ 90 then (some false) else (tammylaw06_LexKinds.l0 kj29 a0 t226 t227 (wrap64 (x7_1 + 1)))) else (tammylaw06_LexKinds.l0 kj29 a0 t226 t227 (wrap64 (x7_1 + 1))))))) else (tammylaw06_LexKinds.l0 kj29 a0 t226 t227 (wrap64 (x7_1 + 1))))) else (if x10_21 = true then (if x11_24 = true then (if (bt a0 (wrap64 (((rd_T32 t227 x7_1).f2) + (((rd_T32 t227 x7_1).f1).size : Int)))) = 95 then (some false) else (if (bt a0 (wrap64 (((rd_T32 t227 x7_1).f2) + (((rd_T32 t227 x7_1).f1).size : Int)))) ≥ 97 then (if (bt a0 (wrap64 (((rd_T32 t227 x7_1).f2) + (((rd_T32 t227 x7_1).f1).size : Int)))) ≤ 122 then (some false) else (if (bt a0 (wrap64 (((rd_T32 t227 x7_1).f2) + (((rd_T32 t227 x7_1).f1).size : Int)))) ≥ 65 then (if (bt a0 (wrap64 (((rd_T32 t227 x7_1).f2) + (((rd_T32 t227 x7_1).f1).size : Int)))) ≤ 90 then (some false) else (tammylaw06_LexKinds.l0 kj29 a0 t226 t227 (wrap64 (x7_1 + 1)))) else (tammylaw06_LexKinds.l0 kj29 a0 t226 t227 (wrap64 (x7_1 + 1))))) else (if (bt a0 (wrap64 (((rd_T32 t227 x7_1).f2) + (((rd_T32 t227 x7_1).f1).size : Int)))) ≥ 65 then (if (bt a0 (wrap64 (((rd_T32 t227 x7_1).f2) + (((rd_T32 t227 x7_1).f1).size : Int)))) ≤ 90 then (some false) else (tammylaw06_LexKinds.l0 kj29 a0 t226 t227 (wrap64 (x7_1 + 1)))) else (tammylaw06_LexKinds.l0 kj29 a0 t226 t227 (wrap64 (x7_1 + 1)))))) else (tammylaw06_LexKinds.l0 kj29 a0 t226 t227 (wrap64 (x7_1 + 1)))) else (if x11_24 = true then (if (bt a0 (wrap64 (((rd_T32 t227 x7_1).f2) + (((rd_T32 t227 x7_1).f1).size : Int)))) = 95 then (some false) else (if (bt a0 (wrap64 (((rd_T32 t227 x7_1).f2) + (((rd_T32 t227 x7_1).f1).size : Int)))) ≥ 97 then (if (bt a0 (wrap64 (((rd_T32 t227 x7_1).f2) + (((rd_T32 t227 x7_1).f1).size : Int)))) ≤ 122 then (some false) else (if (bt a0 (wrap64 (((rd_T32 t227 x7_1).f2) + (((rd_T32 t227 x7_1).f1).size : Int)))) ≥ 65 then (if (bt a0 (wrap64 (((rd_T32 t227 x7_1).f2) + (((rd_T32 t227 x7_1).f1).size : Int)))) ≤ 90 then (some false) else (tammylaw06_LexKinds.l0 kj29 a0 t226 t227 (wrap64 (x7_1 + 1)))) else (tammylaw06_LexKinds.l0 kj29 a0 t226 t227 (wrap64 (x7_1 + 1))))) else (if (bt a0 (wrap64 (((rd_T32 t227 x7_1).f2) + (((rd_T32 t227 x7_1).f1).size : Int)))) ≥ 65 then (if (bt a0 (wrap64 (((rd_T32 t227 x7_1).f2) + (((rd_T32 t227 x7_1).f1).size : Int)))) ≤ 90 then (some false) else (tammylaw06_LexKinds.l0 kj29 a0 t226 t227 (wrap64 (x7_1 + 1)))) else (tammylaw06_LexKinds.l0 kj29 a0 t226 t227 (wrap64 (x7_1 + 1)))))) else (tammylaw06_LexKinds.l0 kj29 a0 t226 t227 (wrap64 (x7_1 + 1)))))) else (none)) else (tammylaw06_LexKinds.l0 kj29 a0 t226 t227 (wrap64 (x7_1 + 1)))) = some r := by rw [if_neg (show ¬ (false = true) by decide)] at H; exact H
                                  clear H
                                  have H := H1
                                  clear H1
                                  by_cases c39 : (wrap64 (((rd_T32 t227 x7_1).f2) + (((rd_T32 t227 x7_1).f1).size : Int))) < (a0.size : Int)
                                  · rw [if_pos c39] at H
                                    have c39b0 : decide ((wrap64 (((rd_T32 t227 x7_1).f2) + (((rd_T32 t227 x7_1).f1).size : Int))) < (a0.size : Int)) = true := decide_eq_true c39
                                    clear c39
                                    obtain ⟨ji40, hji40⟩ : ∃ j_ : Int, (wrap64 (((rd_T32 t227 x7_1).f2) + (((rd_T32 t227 x7_1).f1).size : Int))) = j_ := ⟨_, rfl⟩
                                    replace H : (if 0 ≤ (ji40) then (if (bt a0 (ji40)) ≥ 48 then (if x10_21 = true then (if (bt a0 (ji40)) ≤ 57 then (some false) else (if x11_24 = true then (if (bt a0 (ji40)) = 95 then (some false) else (if (bt a0 (ji40)) ≥ 97 then (if (bt a0 (ji40)) ≤ 122 then (some false) else (if (bt a0 (ji40)) ≥ 65 then (if (bt a0 (ji40)) ≤ 90 then (some false) else (tammylaw06_LexKinds.l0 kj29 a0 t226 t227 (wrap64 (x7_1 + 1)))) else (tammylaw06_LexKinds.l0 kj29 a0 t226 t227 (wrap64 (x7_1 + 1))))) else (if (bt a0 (ji40)) ≥ 65 then (if (bt a0 (ji40)) ≤ 90 then (some false) else (tammylaw06_LexKinds.l0 kj29 a0 t226 t227 (wrap64 (x7_1 + 1)))) else (tammylaw06_LexKinds.l0 kj29 a0 t226 t227 (wrap64 (x7_1 + 1)))))) else (tammylaw06_LexKinds.l0 kj29 a0 t226 t227 (wrap64 (x7_1 + 1))))) else (if x11_24 = true then (if (bt a0 (ji40)) ≤ 57 then (some false) else (if (bt a0 (ji40)) = 95 then (some false) else (if (bt a0 (ji40)) ≥ 97 then (if (bt a0 (ji40)) ≤ 122 then (some false) else (if (bt a0 (ji40)) ≥ 65 then (if (bt a0 (ji40)) ≤ 90 then (some false) else (tammylaw06_LexKinds.l0 kj29 a0 t226 t227 (wrap64 (x7_1 + 1)))) else (tammylaw06_LexKinds.l0 kj29 a0 t226 t227 (wrap64 (x7_1 + 1))))) else (if (bt a0 (ji40)) ≥ 65 then (if (bt a0 (ji40)) ≤ 90 then (some false) else (tammylaw06_LexKinds.l0 kj29 a0 t226 t227 (wrap64 (x7_1 + 1)))) else (tammylaw06_LexKinds.l0 kj29 a0 t226 t227 (wrap64 (x7_1 + 1))))))) else (tammylaw06_LexKinds.l0 kj29 a0 t226 t227 (wrap64 (x7_1 + 1))))) else (if x10_21 = true then (if x11_24 = true then (if (bt a0 (ji40)) = 95 then (some false) else (if (bt a0 (ji40)) ≥ 97 then (if (bt a0 (ji40)) ≤ 122 then (some false) else (if (bt a0 (ji40)) ≥ 65 then (if (bt a0 (ji40)) ≤ 90 then (some false) else (tammylaw06_LexKinds.l0 kj29 a0 t226 t227 (wrap64 (x7_1 + 1)))) else (tammylaw06_LexKinds.l0 kj29 a0 t226 t227 (wrap64 (x7_1 + 1))))) else (if (bt a0 (ji40)) ≥ 65 then (if (bt a0 (ji40)) ≤ 90 then (some false) else (tammylaw06_LexKinds.l0 kj29 a0 t226 t227 (wrap64 (x7_1 + 1)))) else (tammylaw06_LexKinds.l0 kj29 a0 t226 t227 (wrap64 (x7_1 + 1)))))) else (tammylaw06_LexKinds.l0 kj29 a0 t226 t227 (wrap64 (x7_1 + 1)))) else (if x11_24 = true then (if (bt a0 (ji40)) = 95 then (some false) else (if (bt a0 (ji40)) ≥ 97 then (if (bt a0 (ji40)) ≤ 122 then (some false) else (if (bt a0 (ji40)) ≥ 65 then (if (bt a0 (ji40)) ≤ 90 then (some false) else (tammylaw06_LexKinds.l0 kj29 a0 t226 t227 (wrap64 (x7_1 + 1)))) else (tammylaw06_LexKinds.l0 kj29 a0 t226 t227 (wrap64 (x7_1 + 1))))) else (if (bt a0 (ji40)) ≥ 65 then (if (bt a0 (ji40)) ≤ 90 then (some false) else (tammylaw06_LexKinds.l0 kj29 a0 t226 t227 (wrap64 (x7_1 + 1)))) else (tammylaw06_LexKinds.l0 kj29 a0 t226 t227 (wrap64 (x7_1 + 1)))))) else (tammylaw06_LexKinds.l0 kj29 a0 t226 t227 (wrap64 (x7_1 + 1)))))) else (none)) = some r := by first | (rw [hji40] at H; exact H) | (simp only [hji40] at H ⊢; exact H)
                                    (try rw [hji40] at c39b0)
                                    have hji40w : (IntKind.i64.wrap (((rd_T32 t227 x7_1).f2) + (((rd_T32 t227 x7_1).f1).size : Int))) = ji40 := (i64_w _).trans hji40
                                    by_cases c41 : 0 ≤ (ji40)
                                    · rw [if_pos c41] at H
                                      have c41b0 : decide (0 ≤ (ji40)) = true := decide_eq_true c41
                                      clear c41
                                      by_cases c43 : (bt a0 (ji40)) ≥ 48
                                      · rw [if_pos c43] at H
                                        have c43b0 : decide (48 ≤ (bt a0 (ji40))) = true := decide_eq_true c43
                                        clear c43
                                        by_cases c44 : x10_21 = true
                                        · subst c44
                                          have H1 : (if (bt a0 (ji40)) ≤ 57 then (some false) else (if x11_24 = true then (if (bt a0 (ji40)) = 95 then (some false) else (if (bt a0 (ji40)) ≥ 97 then (if (bt a0 (ji40)) ≤ 122 then (some false) else (if (bt a0 (ji40)) ≥ 65 then (if (bt a0 (ji40)) ≤ 90 then (some false) else (tammylaw06_LexKinds.l0 kj29 a0 t226 t227 (wrap64 (x7_1 + 1)))) else (tammylaw06_LexKinds.l0 kj29 a0 t226 t227 (wrap64 (x7_1 + 1))))) else (if (bt a0 (ji40)) ≥ 65 then (if (bt a0 (ji40)) ≤ 90 then (some false) else (tammylaw06_LexKinds.l0 kj29 a0 t226 t227 (wrap64 (x7_1 + 1)))) else (tammylaw06_LexKinds.l0 kj29 a0 t226 t227 (wrap64 (x7_1 + 1)))))) else (tammylaw06_LexKinds.l0 kj29 a0 t226 t227 (wrap64 (x7_1 + 1))))) = some r := by rw [if_pos rfl] at H; exact H
                                          clear H
                                          have H := H1
                                          clear H1
                                          by_cases c45 : (bt a0 (ji40)) ≤ 57
                                          · rw [if_pos c45] at H
                                            have c45b0 : decide ((bt a0 (ji40)) ≤ 57) = true := decide_eq_true c45
                                            clear c45
                                            as_aux_lemma =>
                                              obtain rfl := Option.some.inj H
                                              have hcz46_0 : wc.cell? ⟨gb233, 0, none⟩ = some (.int .i64 ((rd_T32 t227 x7_1).f0)) := (blk_cell BK233.out 0).trans rfl
                                              have hcz46_1 : wc.cell? ⟨gb233, 1, none⟩ = some (.string ((rd_T32 t227 x7_1).f1)) := (blk_cell BK233.out 1).trans rfl
                                              have hcz46_2 : wc.cell? ⟨gb233, 2, none⟩ = some (.int .i64 ((rd_T32 t227 x7_1).f2)) := (blk_cell BK233.out 2).trans rfl
                                              have hfz46_0 := blk_frozen BK233.out 0
                                              have hfz46_1 := blk_frozen BK233.out 1
                                              have hfz46_2 := blk_frozen BK233.out 2
                                              have p42 : 0 ≤ ((ji40) : Int) := of_decide_eq_true (by first | (with_reducible assumption) | assumption)
                                              have q42 : (ji40) < (a0.size : Int) := of_decide_eq_true (by first | (with_reducible assumption) | assumption)
                                              have hx42 := bt_at a0 (ji40)
                                              replace p42 := eq_true p42
                                              replace q42 := eq_true q42
                                              go_wp2
                                              go_ret
                                              exact ⟨by first | rfl | (simp [errW_none, errW_some] <;> rfl) | (simp only [← hji40]; first | rfl | (simp [errW_none, errW_some] <;> rfl)) | (simp [*, errW_none, errW_some] <;> rfl), by repeat (first | (with_reducible first | exact HB.out | apply below_alloc | apply pw_below_drewN | apply below_drew1 | refine below_set ?_ GE233.out) | exact HB.out)⟩
                                          · rw [if_neg c45] at H
                                            have c45b0 : decide ((bt a0 (ji40)) ≤ 57) = false := decide_eq_false c45
                                            clear c45
                                            by_cases c47 : x11_24 = true
                                            · subst c47
                                              have H1 : (if (bt a0 (ji40)) = 95 then (some false) else (if (bt a0 (ji40)) ≥ 97 then (if (bt a0 (ji40)) ≤ 122 then (some false) else (if (bt a0 (ji40)) ≥ 65 then (if (bt a0 (ji40)) ≤ 90 then (some false) else (tammylaw06_LexKinds.l0 kj29 a0 t226 t227 (wrap64 (x7_1 + 1)))) else (tammylaw06_LexKinds.l0 kj29 a0 t226 t227 (wrap64 (x7_1 + 1))))) else (if (bt a0 (ji40)) ≥ 65 then (if (bt a0 (ji40)) ≤ 90 then (some false) else (tammylaw06_LexKinds.l0 kj29 a0 t226 t227 (wrap64 (x7_1 + 1)))) else (tammylaw06_LexKinds.l0 kj29 a0 t226 t227 (wrap64 (x7_1 + 1)))))) = some r := by rw [if_pos rfl] at H; exact H
                                              clear H
                                              have H := H1
                                              clear H1
                                              by_cases c48 : (bt a0 (ji40)) = 95
                                              · rw [if_pos c48] at H
                                                have c48b0 : ((bt a0 (ji40)) == 95) = true := beq_iff_eq.mpr c48
                                                have c48b1 : ((bt a0 (ji40)) != 95) = false := bne_eq_false_iff_eq.mpr c48
                                                clear c48
                                                as_aux_lemma =>
                                                  obtain rfl := Option.some.inj H
                                                  have hcz49_0 : wc.cell? ⟨gb233, 0, none⟩ = some (.int .i64 ((rd_T32 t227 x7_1).f0)) := (blk_cell BK233.out 0).trans rfl
                                                  have hcz49_1 : wc.cell? ⟨gb233, 1, none⟩ = some (.string ((rd_T32 t227 x7_1).f1)) := (blk_cell BK233.out 1).trans rfl
                                                  have hcz49_2 : wc.cell? ⟨gb233, 2, none⟩ = some (.int .i64 ((rd_T32 t227 x7_1).f2)) := (blk_cell BK233.out 2).trans rfl
                                                  have hfz49_0 := blk_frozen BK233.out 0
                                                  have hfz49_1 := blk_frozen BK233.out 1
                                                  have hfz49_2 := blk_frozen BK233.out 2
                                                  have p42 : 0 ≤ ((ji40) : Int) := of_decide_eq_true (by first | (with_reducible assumption) | assumption)
                                                  have q42 : (ji40) < (a0.size : Int) := of_decide_eq_true (by first | (with_reducible assumption) | assumption)
                                                  have hx42 := bt_at a0 (ji40)
                                                  replace p42 := eq_true p42
                                                  replace q42 := eq_true q42
                                                  go_wp2
                                                  go_ret
                                                  exact ⟨by first | rfl | (simp [errW_none, errW_some] <;> rfl) | (simp only [← hji40]; first | rfl | (simp [errW_none, errW_some] <;> rfl)) | (simp [*, errW_none, errW_some] <;> rfl), by repeat (first | (with_reducible first | exact HB.out | apply below_alloc | apply pw_below_drewN | apply below_drew1 | refine below_set ?_ GE233.out) | exact HB.out)⟩
                                              · rw [if_neg c48] at H
                                                have c48b0 : ((bt a0 (ji40)) == 95) = false := beq_eq_false_iff_ne.mpr c48
                                                have c48b1 : ((bt a0 (ji40)) != 95) = true := bne_iff_ne.mpr c48
                                                by_cases c50 : (bt a0 (ji40)) ≥ 97
                                                · rw [if_pos c50] at H
                                                  have c50b0 : decide (97 ≤ (bt a0 (ji40))) = true := decide_eq_true c50
                                                  clear c50
                                                  by_cases c51 : (bt a0 (ji40)) ≤ 122
                                                  · rw [if_pos c51] at H
                                                    have c51b0 : decide ((bt a0 (ji40)) ≤ 122) = true := decide_eq_true c51
                                                    clear c51
                                                    as_aux_lemma =>
                                                      obtain rfl := Option.some.inj H
                                                      have hcz52_0 : wc.cell? ⟨gb233, 0, none⟩ = some (.int .i64 ((rd_T32 t227 x7_1).f0)) := (blk_cell BK233.out 0).trans rfl
                                                      have hcz52_1 : wc.cell? ⟨gb233, 1, none⟩ = some (.string ((rd_T32 t227 x7_1).f1)) := (blk_cell BK233.out 1).trans rfl
                                                      have hcz52_2 : wc.cell? ⟨gb233, 2, none⟩ = some (.int .i64 ((rd_T32 t227 x7_1).f2)) := (blk_cell BK233.out 2).trans rfl
                                                      have hfz52_0 := blk_frozen BK233.out 0
                                                      have hfz52_1 := blk_frozen BK233.out 1
                                                      have hfz52_2 := blk_frozen BK233.out 2
                                                      have p42 : 0 ≤ ((ji40) : Int) := of_decide_eq_true (by first | (with_reducible assumption) | assumption)
                                                      have q42 : (ji40) < (a0.size : Int) := of_decide_eq_true (by first | (with_reducible assumption) | assumption)
                                                      have hx42 := bt_at a0 (ji40)
                                                      replace p42 := eq_true p42
                                                      replace q42 := eq_true q42
                                                      go_wp2
                                                      go_ret
                                                      exact ⟨by first | rfl | (simp [errW_none, errW_some] <;> rfl) | (simp only [← hji40]; first | rfl | (simp [errW_none, errW_some] <;> rfl)) | (simp [*, errW_none, errW_some] <;> rfl), by repeat (first | (with_reducible first | exact HB.out | apply below_alloc | apply pw_below_drewN | apply below_drew1 | refine below_set ?_ GE233.out) | exact HB.out)⟩
                                                  · rw [if_neg c51] at H
                                                    have c51b0 : decide ((bt a0 (ji40)) ≤ 122) = false := decide_eq_false c51
                                                    clear c51
                                                    by_cases c53 : (bt a0 (ji40)) ≥ 65
                                                    · rw [if_pos c53] at H
                                                      have c53b0 : decide (65 ≤ (bt a0 (ji40))) = true := decide_eq_true c53
                                                      clear c53
                                                      by_cases c54 : (bt a0 (ji40)) ≤ 90
                                                      · rw [if_pos c54] at H
                                                        have c54b0 : decide ((bt a0 (ji40)) ≤ 90) = true := decide_eq_true c54
                                                        clear c54
                                                        as_aux_lemma =>
                                                          obtain rfl := Option.some.inj H
                                                          have hcz55_0 : wc.cell? ⟨gb233, 0, none⟩ = some (.int .i64 ((rd_T32 t227 x7_1).f0)) := (blk_cell BK233.out 0).trans rfl
                                                          have hcz55_1 : wc.cell? ⟨gb233, 1, none⟩ = some (.string ((rd_T32 t227 x7_1).f1)) := (blk_cell BK233.out 1).trans rfl
                                                          have hcz55_2 : wc.cell? ⟨gb233, 2, none⟩ = some (.int .i64 ((rd_T32 t227 x7_1).f2)) := (blk_cell BK233.out 2).trans rfl
                                                          have hfz55_0 := blk_frozen BK233.out 0
                                                          have hfz55_1 := blk_frozen BK233.out 1
                                                          have hfz55_2 := blk_frozen BK233.out 2
                                                          have p42 : 0 ≤ ((ji40) : Int) := of_decide_eq_true (by first | (with_reducible assumption) | assumption)
                                                          have q42 : (ji40) < (a0.size : Int) := of_decide_eq_true (by first | (with_reducible assumption) | assumption)
                                                          have hx42 := bt_at a0 (ji40)
                                                          replace p42 := eq_true p42
                                                          replace q42 := eq_true q42
                                                          go_wp2
                                                          go_ret
                                                          exact ⟨by first | rfl | (simp [errW_none, errW_some] <;> rfl) | (simp only [← hji40]; first | rfl | (simp [errW_none, errW_some] <;> rfl)) | (simp [*, errW_none, errW_some] <;> rfl), by repeat (first | (with_reducible first | exact HB.out | apply below_alloc | apply pw_below_drewN | apply below_drew1 | refine below_set ?_ GE233.out) | exact HB.out)⟩
                                                      · rw [if_neg c54] at H
                                                        have c54b0 : decide ((bt a0 (ji40)) ≤ 90) = false := decide_eq_false c54
                                                        clear c54
                                                        as_aux_lemma =>
                                                          have H' := Aside0.mk H
                                                          clear H
                                                          have hcz56_0 : wc.cell? ⟨gb233, 0, none⟩ = some (.int .i64 ((rd_T32 t227 x7_1).f0)) := (blk_cell BK233.out 0).trans rfl
                                                          have hcz56_1 : wc.cell? ⟨gb233, 1, none⟩ = some (.string ((rd_T32 t227 x7_1).f1)) := (blk_cell BK233.out 1).trans rfl
                                                          have hcz56_2 : wc.cell? ⟨gb233, 2, none⟩ = some (.int .i64 ((rd_T32 t227 x7_1).f2)) := (blk_cell BK233.out 2).trans rfl
                                                          have hfz56_0 := blk_frozen BK233.out 0
                                                          have hfz56_1 := blk_frozen BK233.out 1
                                                          have hfz56_2 := blk_frozen BK233.out 2
                                                          have p42 : 0 ≤ ((ji40) : Int) := of_decide_eq_true (by first | (with_reducible assumption) | assumption)
                                                          have q42 : (ji40) < (a0.size : Int) := of_decide_eq_true (by first | (with_reducible assumption) | assumption)
                                                          have hx42 := bt_at a0 (ji40)
                                                          replace p42 := eq_true p42
                                                          replace q42 := eq_true q42
                                                          go_wp2
                                                          go_roundg kj29
                                                          case measure => have := HK1.out; have := HJ9.out; have := HJ21.out; have := HJ24.out; have := HJ29.out; omega
                                                          case rel => exact ⟨(wrap64 (x7_1 + 1)), (by first | rfl | (simp; done) | (simp [*]; done)), H', ⟨by have := HK1.out; have := HJ9.out; have := HJ21.out; have := HJ24.out; have := HJ29.out; omega⟩, ⟨by (with_reducible repeat (first | apply Kd.R_alloc | apply Kd.R_drewN | apply Kd.R_drew)); exact Kd.R_mono HO_4.out (fun _ hk => trivial)⟩, ⟨by repeat (first | (with_reducible first | exact HB.out | apply below_alloc | apply pw_below_drewN | apply below_drew1 | refine below_set ?_ GE233.out) | exact HB.out)⟩⟩
                                                    · rw [if_neg c53] at H
                                                      have c53b0 : decide (65 ≤ (bt a0 (ji40))) = false := decide_eq_false c53
                                                      clear c53
                                                      as_aux_lemma =>
                                                        have H' := Aside0.mk H
                                                        clear H
                                                        have hcz57_0 : wc.cell? ⟨gb233, 0, none⟩ = some (.int .i64 ((rd_T32 t227 x7_1).f0)) := (blk_cell BK233.out 0).trans rfl
                                                        have hcz57_1 : wc.cell? ⟨gb233, 1, none⟩ = some (.string ((rd_T32 t227 x7_1).f1)) := (blk_cell BK233.out 1).trans rfl
                                                        have hcz57_2 : wc.cell? ⟨gb233, 2, none⟩ = some (.int .i64 ((rd_T32 t227 x7_1).f2)) := (blk_cell BK233.out 2).trans rfl
                                                        have hfz57_0 := blk_frozen BK233.out 0
                                                        have hfz57_1 := blk_frozen BK233.out 1
                                                        have hfz57_2 := blk_frozen BK233.out 2
                                                        have p42 : 0 ≤ ((ji40) : Int) := of_decide_eq_true (by first | (with_reducible assumption) | assumption)
                                                        have q42 : (ji40) < (a0.size : Int) := of_decide_eq_true (by first | (with_reducible assumption) | assumption)
                                                        have hx42 := bt_at a0 (ji40)
                                                        replace p42 := eq_true p42
                                                        replace q42 := eq_true q42
                                                        go_wp2
                                                        go_roundg kj29
                                                        case measure => have := HK1.out; have := HJ9.out; have := HJ21.out; have := HJ24.out; have := HJ29.out; omega
                                                        case rel => exact ⟨(wrap64 (x7_1 + 1)), (by first | rfl | (simp; done) | (simp [*]; done)), H', ⟨by have := HK1.out; have := HJ9.out; have := HJ21.out; have := HJ24.out; have := HJ29.out; omega⟩, ⟨by (with_reducible repeat (first | apply Kd.R_alloc | apply Kd.R_drewN | apply Kd.R_drew)); exact Kd.R_mono HO_4.out (fun _ hk => trivial)⟩, ⟨by repeat (first | (with_reducible first | exact HB.out | apply below_alloc | apply pw_below_drewN | apply below_drew1 | refine below_set ?_ GE233.out) | exact HB.out)⟩⟩
                                                · rw [if_neg c50] at H
                                                  have c50b0 : decide (97 ≤ (bt a0 (ji40))) = false := decide_eq_false c50
                                                  clear c50
                                                  by_cases c58 : (bt a0 (ji40)) ≥ 65
                                                  · rw [if_pos c58] at H
                                                    have c58b0 : decide (65 ≤ (bt a0 (ji40))) = true := decide_eq_true c58
                                                    clear c58
                                                    by_cases c59 : (bt a0 (ji40)) ≤ 90
                                                    · rw [if_pos c59] at H
                                                      have c59b0 : decide ((bt a0 (ji40)) ≤ 90) = true := decide_eq_true c59
                                                      clear c59
                                                      as_aux_lemma =>
                                                        obtain rfl := Option.some.inj H
                                                        have hcz60_0 : wc.cell? ⟨gb233, 0, none⟩ = some (.int .i64 ((rd_T32 t227 x7_1).f0)) := (blk_cell BK233.out 0).trans rfl
                                                        have hcz60_1 : wc.cell? ⟨gb233, 1, none⟩ = some (.string ((rd_T32 t227 x7_1).f1)) := (blk_cell BK233.out 1).trans rfl
                                                        have hcz60_2 : wc.cell? ⟨gb233, 2, none⟩ = some (.int .i64 ((rd_T32 t227 x7_1).f2)) := (blk_cell BK233.out 2).trans rfl
                                                        have hfz60_0 := blk_frozen BK233.out 0
                                                        have hfz60_1 := blk_frozen BK233.out 1
                                                        have hfz60_2 := blk_frozen BK233.out 2
                                                        have p42 : 0 ≤ ((ji40) : Int) := of_decide_eq_true (by first | (with_reducible assumption) | assumption)
                                                        have q42 : (ji40) < (a0.size : Int) := of_decide_eq_true (by first | (with_reducible assumption) | assumption)
                                                        have hx42 := bt_at a0 (ji40)
                                                        replace p42 := eq_true p42
                                                        replace q42 := eq_true q42
                                                        go_wp2
                                                        go_ret
                                                        exact ⟨by first | rfl | (simp [errW_none, errW_some] <;> rfl) | (simp only [← hji40]; first | rfl | (simp [errW_none, errW_some] <;> rfl)) | (simp [*, errW_none, errW_some] <;> rfl), by repeat (first | (with_reducible first | exact HB.out | apply below_alloc | apply pw_below_drewN | apply below_drew1 | refine below_set ?_ GE233.out) | exact HB.out)⟩
                                                    · rw [if_neg c59] at H
                                                      have c59b0 : decide ((bt a0 (ji40)) ≤ 90) = false := decide_eq_false c59
                                                      clear c59
                                                      as_aux_lemma =>
                                                        have H' := Aside0.mk H
                                                        clear H
                                                        have hcz61_0 : wc.cell? ⟨gb233, 0, none⟩ = some (.int .i64 ((rd_T32 t227 x7_1).f0)) := (blk_cell BK233.out 0).trans rfl
                                                        have hcz61_1 : wc.cell? ⟨gb233, 1, none⟩ = some (.string ((rd_T32 t227 x7_1).f1)) := (blk_cell BK233.out 1).trans rfl
                                                        have hcz61_2 : wc.cell? ⟨gb233, 2, none⟩ = some (.int .i64 ((rd_T32 t227 x7_1).f2)) := (blk_cell BK233.out 2).trans rfl
                                                        have hfz61_0 := blk_frozen BK233.out 0
                                                        have hfz61_1 := blk_frozen BK233.out 1
                                                        have hfz61_2 := blk_frozen BK233.out 2
                                                        have p42 : 0 ≤ ((ji40) : Int) := of_decide_eq_true (by first | (with_reducible assumption) | assumption)
                                                        have q42 : (ji40) < (a0.size : Int) := of_decide_eq_true (by first | (with_reducible assumption) | assumption)
                                                        have hx42 := bt_at a0 (ji40)
                                                        replace p42 := eq_true p42
                                                        replace q42 := eq_true q42
                                                        go_wp2
                                                        go_roundg kj29
                                                        case measure => have := HK1.out; have := HJ9.out; have := HJ21.out; have := HJ24.out; have := HJ29.out; omega
                                                        case rel => exact ⟨(wrap64 (x7_1 + 1)), (by first | rfl | (simp; done) | (simp [*]; done)), H', ⟨by have := HK1.out; have := HJ9.out; have := HJ21.out; have := HJ24.out; have := HJ29.out; omega⟩, ⟨by (with_reducible repeat (first | apply Kd.R_alloc | apply Kd.R_drewN | apply Kd.R_drew)); exact Kd.R_mono HO_4.out (fun _ hk => trivial)⟩, ⟨by repeat (first | (with_reducible first | exact HB.out | apply below_alloc | apply pw_below_drewN | apply below_drew1 | refine below_set ?_ GE233.out) | exact HB.out)⟩⟩
                                                  · rw [if_neg c58] at H
                                                    have c58b0 : decide (65 ≤ (bt a0 (ji40))) = false := decide_eq_false c58
                                                    clear c58
                                                    as_aux_lemma =>
                                                      have H' := Aside0.mk H
                                                      clear H
                                                      have hcz62_0 : wc.cell? ⟨gb233, 0, none⟩ = some (.int .i64 ((rd_T32 t227 x7_1).f0)) := (blk_cell BK233.out 0).trans rfl
                                                      have hcz62_1 : wc.cell? ⟨gb233, 1, none⟩ = some (.string ((rd_T32 t227 x7_1).f1)) := (blk_cell BK233.out 1).trans rfl
                                                      have hcz62_2 : wc.cell? ⟨gb233, 2, none⟩ = some (.int .i64 ((rd_T32 t227 x7_1).f2)) := (blk_cell BK233.out 2).trans rfl
                                                      have hfz62_0 := blk_frozen BK233.out 0
                                                      have hfz62_1 := blk_frozen BK233.out 1
                                                      have hfz62_2 := blk_frozen BK233.out 2
                                                      have p42 : 0 ≤ ((ji40) : Int) := of_decide_eq_true (by first | (with_reducible assumption) | assumption)
                                                      have q42 : (ji40) < (a0.size : Int) := of_decide_eq_true (by first | (with_reducible assumption) | assumption)
                                                      have hx42 := bt_at a0 (ji40)
                                                      replace p42 := eq_true p42
                                                      replace q42 := eq_true q42
                                                      go_wp2
                                                      go_roundg kj29
                                                      case measure => have := HK1.out; have := HJ9.out; have := HJ21.out; have := HJ24.out; have := HJ29.out; omega
                                                      case rel => exact ⟨(wrap64 (x7_1 + 1)), (by first | rfl | (simp; done) | (simp [*]; done)), H', ⟨by have := HK1.out; have := HJ9.out; have := HJ21.out; have := HJ24.out; have := HJ29.out; omega⟩, ⟨by (with_reducible repeat (first | apply Kd.R_alloc | apply Kd.R_drewN | apply Kd.R_drew)); exact Kd.R_mono HO_4.out (fun _ hk => trivial)⟩, ⟨by repeat (first | (with_reducible first | exact HB.out | apply below_alloc | apply pw_below_drewN | apply below_drew1 | refine below_set ?_ GE233.out) | exact HB.out)⟩⟩
                                            · replace c47 := Bool.eq_false_iff.mpr c47
                                              subst c47
                                              have H1 : (tammylaw06_LexKinds.l0 kj29 a0 t226 t227 (wrap64 (x7_1 + 1))) = some r := by rw [if_neg (show ¬ (false = true) by decide)] at H; exact H
                                              clear H
                                              have H := H1
                                              clear H1
                                              as_aux_lemma =>
                                                have H' := Aside0.mk H
                                                clear H
                                                have hcz63_0 : wc.cell? ⟨gb233, 0, none⟩ = some (.int .i64 ((rd_T32 t227 x7_1).f0)) := (blk_cell BK233.out 0).trans rfl
                                                have hcz63_1 : wc.cell? ⟨gb233, 1, none⟩ = some (.string ((rd_T32 t227 x7_1).f1)) := (blk_cell BK233.out 1).trans rfl
                                                have hcz63_2 : wc.cell? ⟨gb233, 2, none⟩ = some (.int .i64 ((rd_T32 t227 x7_1).f2)) := (blk_cell BK233.out 2).trans rfl
                                                have hfz63_0 := blk_frozen BK233.out 0
                                                have hfz63_1 := blk_frozen BK233.out 1
                                                have hfz63_2 := blk_frozen BK233.out 2
                                                have p42 : 0 ≤ ((ji40) : Int) := of_decide_eq_true (by first | (with_reducible assumption) | assumption)
                                                have q42 : (ji40) < (a0.size : Int) := of_decide_eq_true (by first | (with_reducible assumption) | assumption)
                                                have hx42 := bt_at a0 (ji40)
                                                replace p42 := eq_true p42
                                                replace q42 := eq_true q42
                                                go_wp2
                                                go_roundg kj29
                                                case measure => have := HK1.out; have := HJ9.out; have := HJ21.out; have := HJ24.out; have := HJ29.out; omega
                                                case rel => exact ⟨(wrap64 (x7_1 + 1)), (by first | rfl | (simp; done) | (simp [*]; done)), H', ⟨by have := HK1.out; have := HJ9.out; have := HJ21.out; have := HJ24.out; have := HJ29.out; omega⟩, ⟨by (with_reducible repeat (first | apply Kd.R_alloc | apply Kd.R_drewN | apply Kd.R_drew)); exact Kd.R_mono HO_4.out (fun _ hk => trivial)⟩, ⟨by repeat (first | (with_reducible first | exact HB.out | apply below_alloc | apply pw_below_drewN | apply below_drew1 | refine below_set ?_ GE233.out) | exact HB.out)⟩⟩
                                        · replace c44 := Bool.eq_false_iff.mpr c44
                                          subst c44
                                          have H1 : (if x11_24 = true then (if (bt a0 (ji40)) ≤ 57 then (some false) else (if (bt a0 (ji40)) = 95 then (some false) else (if (bt a0 (ji40)) ≥ 97 then (if (bt a0 (ji40)) ≤ 122 then (some false) else (if (bt a0 (ji40)) ≥ 65 then (if (bt a0 (ji40)) ≤ 90 then (some false) else (tammylaw06_LexKinds.l0 kj29 a0 t226 t227 (wrap64 (x7_1 + 1)))) else (tammylaw06_LexKinds.l0 kj29 a0 t226 t227 (wrap64 (x7_1 + 1))))) else (if (bt a0 (ji40)) ≥ 65 then (if (bt a0 (ji40)) ≤ 90 then (some false) else (tammylaw06_LexKinds.l0 kj29 a0 t226 t227 (wrap64 (x7_1 + 1)))) else (tammylaw06_LexKinds.l0 kj29 a0 t226 t227 (wrap64 (x7_1 + 1))))))) else (tammylaw06_LexKinds.l0 kj29 a0 t226 t227 (wrap64 (x7_1 + 1)))) = some r := by rw [if_neg (show ¬ (false = true) by decide)] at H; exact H
                                          clear H
                                          have H := H1
                                          clear H1
                                          by_cases c64 : x11_24 = true
                                          · subst c64
                                            have H1 : (if (bt a0 (ji40)) ≤ 57 then (some false) else (if (bt a0 (ji40)) = 95 then (some false) else (if (bt a0 (ji40)) ≥ 97 then (if (bt a0 (ji40)) ≤ 122 then (some false) else (if (bt a0 (ji40)) ≥ 65 then (if (bt a0 (ji40)) ≤ 90 then (some false) else (tammylaw06_LexKinds.l0 kj29 a0 t226 t227 (wrap64 (x7_1 + 1)))) else (tammylaw06_LexKinds.l0 kj29 a0 t226 t227 (wrap64 (x7_1 + 1))))) else (if (bt a0 (ji40)) ≥ 65 then (if (bt a0 (ji40)) ≤ 90 then (some false) else (tammylaw06_LexKinds.l0 kj29 a0 t226 t227 (wrap64 (x7_1 + 1)))) else (tammylaw06_LexKinds.l0 kj29 a0 t226 t227 (wrap64 (x7_1 + 1))))))) = some r := by rw [if_pos rfl] at H; exact H
                                            clear H
                                            have H := H1
                                            clear H1
                                            by_cases c65 : (bt a0 (ji40)) ≤ 57
                                            · rw [if_pos c65] at H
                                              have c65b0 : decide ((bt a0 (ji40)) ≤ 57) = true := decide_eq_true c65
                                              clear c65
                                              as_aux_lemma =>
                                                obtain rfl := Option.some.inj H
                                                have hcz66_0 : wc.cell? ⟨gb233, 0, none⟩ = some (.int .i64 ((rd_T32 t227 x7_1).f0)) := (blk_cell BK233.out 0).trans rfl
                                                have hcz66_1 : wc.cell? ⟨gb233, 1, none⟩ = some (.string ((rd_T32 t227 x7_1).f1)) := (blk_cell BK233.out 1).trans rfl
                                                have hcz66_2 : wc.cell? ⟨gb233, 2, none⟩ = some (.int .i64 ((rd_T32 t227 x7_1).f2)) := (blk_cell BK233.out 2).trans rfl
                                                have hfz66_0 := blk_frozen BK233.out 0
                                                have hfz66_1 := blk_frozen BK233.out 1
                                                have hfz66_2 := blk_frozen BK233.out 2
                                                have p42 : 0 ≤ ((ji40) : Int) := of_decide_eq_true (by first | (with_reducible assumption) | assumption)
                                                have q42 : (ji40) < (a0.size : Int) := of_decide_eq_true (by first | (with_reducible assumption) | assumption)
                                                have hx42 := bt_at a0 (ji40)
                                                replace p42 := eq_true p42
                                                replace q42 := eq_true q42
                                                go_wp2
                                                go_ret
                                                exact ⟨by first | rfl | (simp [errW_none, errW_some] <;> rfl) | (simp only [← hji40]; first | rfl | (simp [errW_none, errW_some] <;> rfl)) | (simp [*, errW_none, errW_some] <;> rfl), by repeat (first | (with_reducible first | exact HB.out | apply below_alloc | apply pw_below_drewN | apply below_drew1 | refine below_set ?_ GE233.out) | exact HB.out)⟩
                                            · rw [if_neg c65] at H
                                              have c65b0 : decide ((bt a0 (ji40)) ≤ 57) = false := decide_eq_false c65
                                              clear c65
                                              by_cases c67 : (bt a0 (ji40)) = 95
                                              · rw [if_pos c67] at H
                                                have c67b0 : ((bt a0 (ji40)) == 95) = true := beq_iff_eq.mpr c67
                                                have c67b1 : ((bt a0 (ji40)) != 95) = false := bne_eq_false_iff_eq.mpr c67
                                                clear c67
                                                as_aux_lemma =>
                                                  obtain rfl := Option.some.inj H
                                                  have hcz68_0 : wc.cell? ⟨gb233, 0, none⟩ = some (.int .i64 ((rd_T32 t227 x7_1).f0)) := (blk_cell BK233.out 0).trans rfl
                                                  have hcz68_1 : wc.cell? ⟨gb233, 1, none⟩ = some (.string ((rd_T32 t227 x7_1).f1)) := (blk_cell BK233.out 1).trans rfl
                                                  have hcz68_2 : wc.cell? ⟨gb233, 2, none⟩ = some (.int .i64 ((rd_T32 t227 x7_1).f2)) := (blk_cell BK233.out 2).trans rfl
                                                  have hfz68_0 := blk_frozen BK233.out 0
                                                  have hfz68_1 := blk_frozen BK233.out 1
                                                  have hfz68_2 := blk_frozen BK233.out 2
                                                  have p42 : 0 ≤ ((ji40) : Int) := of_decide_eq_true (by first | (with_reducible assumption) | assumption)
                                                  have q42 : (ji40) < (a0.size : Int) := of_decide_eq_true (by first | (with_reducible assumption) | assumption)
                                                  have hx42 := bt_at a0 (ji40)
                                                  replace p42 := eq_true p42
                                                  replace q42 := eq_true q42
                                                  go_wp2
                                                  go_ret
                                                  exact ⟨by first | rfl | (simp [errW_none, errW_some] <;> rfl) | (simp only [← hji40]; first | rfl | (simp [errW_none, errW_some] <;> rfl)) | (simp [*, errW_none, errW_some] <;> rfl), by repeat (first | (with_reducible first | exact HB.out | apply below_alloc | apply pw_below_drewN | apply below_drew1 | refine below_set ?_ GE233.out) | exact HB.out)⟩
                                              · rw [if_neg c67] at H
                                                have c67b0 : ((bt a0 (ji40)) == 95) = false := beq_eq_false_iff_ne.mpr c67
                                                have c67b1 : ((bt a0 (ji40)) != 95) = true := bne_iff_ne.mpr c67
                                                by_cases c69 : (bt a0 (ji40)) ≥ 97
                                                · rw [if_pos c69] at H
                                                  have c69b0 : decide (97 ≤ (bt a0 (ji40))) = true := decide_eq_true c69
                                                  clear c69
                                                  by_cases c70 : (bt a0 (ji40)) ≤ 122
                                                  · rw [if_pos c70] at H
                                                    have c70b0 : decide ((bt a0 (ji40)) ≤ 122) = true := decide_eq_true c70
                                                    clear c70
                                                    as_aux_lemma =>
                                                      obtain rfl := Option.some.inj H
                                                      have hcz71_0 : wc.cell? ⟨gb233, 0, none⟩ = some (.int .i64 ((rd_T32 t227 x7_1).f0)) := (blk_cell BK233.out 0).trans rfl
                                                      have hcz71_1 : wc.cell? ⟨gb233, 1, none⟩ = some (.string ((rd_T32 t227 x7_1).f1)) := (blk_cell BK233.out 1).trans rfl
                                                      have hcz71_2 : wc.cell? ⟨gb233, 2, none⟩ = some (.int .i64 ((rd_T32 t227 x7_1).f2)) := (blk_cell BK233.out 2).trans rfl
                                                      have hfz71_0 := blk_frozen BK233.out 0
                                                      have hfz71_1 := blk_frozen BK233.out 1
                                                      have hfz71_2 := blk_frozen BK233.out 2
                                                      have p42 : 0 ≤ ((ji40) : Int) := of_decide_eq_true (by first | (with_reducible assumption) | assumption)
                                                      have q42 : (ji40) < (a0.size : Int) := of_decide_eq_true (by first | (with_reducible assumption) | assumption)
                                                      have hx42 := bt_at a0 (ji40)
                                                      replace p42 := eq_true p42
                                                      replace q42 := eq_true q42
                                                      go_wp2
                                                      go_ret
                                                      exact ⟨by first | rfl | (simp [errW_none, errW_some] <;> rfl) | (simp only [← hji40]; first | rfl | (simp [errW_none, errW_some] <;> rfl)) | (simp [*, errW_none, errW_some] <;> rfl), by repeat (first | (with_reducible first | exact HB.out | apply below_alloc | apply pw_below_drewN | apply below_drew1 | refine below_set ?_ GE233.out) | exact HB.out)⟩
                                                  · rw [if_neg c70] at H
                                                    have c70b0 : decide ((bt a0 (ji40)) ≤ 122) = false := decide_eq_false c70
                                                    clear c70
                                                    by_cases c72 : (bt a0 (ji40)) ≥ 65
                                                    · rw [if_pos c72] at H
                                                      have c72b0 : decide (65 ≤ (bt a0 (ji40))) = true := decide_eq_true c72
                                                      clear c72
                                                      by_cases c73 : (bt a0 (ji40)) ≤ 90
                                                      · rw [if_pos c73] at H
                                                        have c73b0 : decide ((bt a0 (ji40)) ≤ 90) = true := decide_eq_true c73
                                                        clear c73
                                                        as_aux_lemma =>
                                                          obtain rfl := Option.some.inj H
                                                          have hcz74_0 : wc.cell? ⟨gb233, 0, none⟩ = some (.int .i64 ((rd_T32 t227 x7_1).f0)) := (blk_cell BK233.out 0).trans rfl
                                                          have hcz74_1 : wc.cell? ⟨gb233, 1, none⟩ = some (.string ((rd_T32 t227 x7_1).f1)) := (blk_cell BK233.out 1).trans rfl
                                                          have hcz74_2 : wc.cell? ⟨gb233, 2, none⟩ = some (.int .i64 ((rd_T32 t227 x7_1).f2)) := (blk_cell BK233.out 2).trans rfl
                                                          have hfz74_0 := blk_frozen BK233.out 0
                                                          have hfz74_1 := blk_frozen BK233.out 1
                                                          have hfz74_2 := blk_frozen BK233.out 2
                                                          have p42 : 0 ≤ ((ji40) : Int) := of_decide_eq_true (by first | (with_reducible assumption) | assumption)
                                                          have q42 : (ji40) < (a0.size : Int) := of_decide_eq_true (by first | (with_reducible assumption) | assumption)
                                                          have hx42 := bt_at a0 (ji40)
                                                          replace p42 := eq_true p42
                                                          replace q42 := eq_true q42
                                                          go_wp2
                                                          go_ret
                                                          exact ⟨by first | rfl | (simp [errW_none, errW_some] <;> rfl) | (simp only [← hji40]; first | rfl | (simp [errW_none, errW_some] <;> rfl)) | (simp [*, errW_none, errW_some] <;> rfl), by repeat (first | (with_reducible first | exact HB.out | apply below_alloc | apply pw_below_drewN | apply below_drew1 | refine below_set ?_ GE233.out) | exact HB.out)⟩
                                                      · rw [if_neg c73] at H
                                                        have c73b0 : decide ((bt a0 (ji40)) ≤ 90) = false := decide_eq_false c73
                                                        clear c73
                                                        as_aux_lemma =>
                                                          have H' := Aside0.mk H
                                                          clear H
                                                          have hcz75_0 : wc.cell? ⟨gb233, 0, none⟩ = some (.int .i64 ((rd_T32 t227 x7_1).f0)) := (blk_cell BK233.out 0).trans rfl
                                                          have hcz75_1 : wc.cell? ⟨gb233, 1, none⟩ = some (.string ((rd_T32 t227 x7_1).f1)) := (blk_cell BK233.out 1).trans rfl
                                                          have hcz75_2 : wc.cell? ⟨gb233, 2, none⟩ = some (.int .i64 ((rd_T32 t227 x7_1).f2)) := (blk_cell BK233.out 2).trans rfl
                                                          have hfz75_0 := blk_frozen BK233.out 0
                                                          have hfz75_1 := blk_frozen BK233.out 1
                                                          have hfz75_2 := blk_frozen BK233.out 2
                                                          have p42 : 0 ≤ ((ji40) : Int) := of_decide_eq_true (by first | (with_reducible assumption) | assumption)
                                                          have q42 : (ji40) < (a0.size : Int) := of_decide_eq_true (by first | (with_reducible assumption) | assumption)
                                                          have hx42 := bt_at a0 (ji40)
                                                          replace p42 := eq_true p42
                                                          replace q42 := eq_true q42
                                                          go_wp2
                                                          go_roundg kj29
                                                          case measure => have := HK1.out; have := HJ9.out; have := HJ21.out; have := HJ24.out; have := HJ29.out; omega
                                                          case rel => exact ⟨(wrap64 (x7_1 + 1)), (by first | rfl | (simp; done) | (simp [*]; done)), H', ⟨by have := HK1.out; have := HJ9.out; have := HJ21.out; have := HJ24.out; have := HJ29.out; omega⟩, ⟨by (with_reducible repeat (first | apply Kd.R_alloc | apply Kd.R_drewN | apply Kd.R_drew)); exact Kd.R_mono HO_4.out (fun _ hk => trivial)⟩, ⟨by repeat (first | (with_reducible first | exact HB.out | apply below_alloc | apply pw_below_drewN | apply below_drew1 | refine below_set ?_ GE233.out) | exact HB.out)⟩⟩
                                                    · rw [if_neg c72] at H
                                                      have c72b0 : decide (65 ≤ (bt a0 (ji40))) = false := decide_eq_false c72
                                                      clear c72
                                                      as_aux_lemma =>
                                                        have H' := Aside0.mk H
                                                        clear H
                                                        have hcz76_0 : wc.cell? ⟨gb233, 0, none⟩ = some (.int .i64 ((rd_T32 t227 x7_1).f0)) := (blk_cell BK233.out 0).trans rfl
                                                        have hcz76_1 : wc.cell? ⟨gb233, 1, none⟩ = some (.string ((rd_T32 t227 x7_1).f1)) := (blk_cell BK233.out 1).trans rfl
                                                        have hcz76_2 : wc.cell? ⟨gb233, 2, none⟩ = some (.int .i64 ((rd_T32 t227 x7_1).f2)) := (blk_cell BK233.out 2).trans rfl
                                                        have hfz76_0 := blk_frozen BK233.out 0
                                                        have hfz76_1 := blk_frozen BK233.out 1
                                                        have hfz76_2 := blk_frozen BK233.out 2
                                                        have p42 : 0 ≤ ((ji40) : Int) := of_decide_eq_true (by first | (with_reducible assumption) | assumption)
                                                        have q42 : (ji40) < (a0.size : Int) := of_decide_eq_true (by first | (with_reducible assumption) | assumption)
                                                        have hx42 := bt_at a0 (ji40)
                                                        replace p42 := eq_true p42
                                                        replace q42 := eq_true q42
                                                        go_wp2
                                                        go_roundg kj29
                                                        case measure => have := HK1.out; have := HJ9.out; have := HJ21.out; have := HJ24.out; have := HJ29.out; omega
                                                        case rel => exact ⟨(wrap64 (x7_1 + 1)), (by first | rfl | (simp; done) | (simp [*]; done)), H', ⟨by have := HK1.out; have := HJ9.out; have := HJ21.out; have := HJ24.out; have := HJ29.out; omega⟩, ⟨by (with_reducible repeat (first | apply Kd.R_alloc | apply Kd.R_drewN | apply Kd.R_drew)); exact Kd.R_mono HO_4.out (fun _ hk => trivial)⟩, ⟨by repeat (first | (with_reducible first | exact HB.out | apply below_alloc | apply pw_below_drewN | apply below_drew1 | refine below_set ?_ GE233.out) | exact HB.out)⟩⟩
                                                · rw [if_neg c69] at H
                                                  have c69b0 : decide (97 ≤ (bt a0 (ji40))) = false := decide_eq_false c69
                                                  clear c69
                                                  by_cases c77 : (bt a0 (ji40)) ≥ 65
                                                  · rw [if_pos c77] at H
                                                    have c77b0 : decide (65 ≤ (bt a0 (ji40))) = true := decide_eq_true c77
                                                    clear c77
                                                    by_cases c78 : (bt a0 (ji40)) ≤ 90
                                                    · rw [if_pos c78] at H
                                                      have c78b0 : decide ((bt a0 (ji40)) ≤ 90) = true := decide_eq_true c78
                                                      clear c78
                                                      as_aux_lemma =>
                                                        obtain rfl := Option.some.inj H
                                                        have hcz79_0 : wc.cell? ⟨gb233, 0, none⟩ = some (.int .i64 ((rd_T32 t227 x7_1).f0)) := (blk_cell BK233.out 0).trans rfl
                                                        have hcz79_1 : wc.cell? ⟨gb233, 1, none⟩ = some (.string ((rd_T32 t227 x7_1).f1)) := (blk_cell BK233.out 1).trans rfl
                                                        have hcz79_2 : wc.cell? ⟨gb233, 2, none⟩ = some (.int .i64 ((rd_T32 t227 x7_1).f2)) := (blk_cell BK233.out 2).trans rfl
                                                        have hfz79_0 := blk_frozen BK233.out 0
                                                        have hfz79_1 := blk_frozen BK233.out 1
                                                        have hfz79_2 := blk_frozen BK233.out 2
                                                        have p42 : 0 ≤ ((ji40) : Int) := of_decide_eq_true (by first | (with_reducible assumption) | assumption)
                                                        have q42 : (ji40) < (a0.size : Int) := of_decide_eq_true (by first | (with_reducible assumption) | assumption)
                                                        have hx42 := bt_at a0 (ji40)
                                                        replace p42 := eq_true p42
                                                        replace q42 := eq_true q42
                                                        go_wp2
                                                        go_ret
                                                        exact ⟨by first | rfl | (simp [errW_none, errW_some] <;> rfl) | (simp only [← hji40]; first | rfl | (simp [errW_none, errW_some] <;> rfl)) | (simp [*, errW_none, errW_some] <;> rfl), by repeat (first | (with_reducible first | exact HB.out | apply below_alloc | apply pw_below_drewN | apply below_drew1 | refine below_set ?_ GE233.out) | exact HB.out)⟩
                                                    · rw [if_neg c78] at H
                                                      have c78b0 : decide ((bt a0 (ji40)) ≤ 90) = false := decide_eq_false c78
                                                      clear c78
                                                      as_aux_lemma =>
                                                        have H' := Aside0.mk H
                                                        clear H
                                                        have hcz80_0 : wc.cell? ⟨gb233, 0, none⟩ = some (.int .i64 ((rd_T32 t227 x7_1).f0)) := (blk_cell BK233.out 0).trans rfl
                                                        have hcz80_1 : wc.cell? ⟨gb233, 1, none⟩ = some (.string ((rd_T32 t227 x7_1).f1)) := (blk_cell BK233.out 1).trans rfl
                                                        have hcz80_2 : wc.cell? ⟨gb233, 2, none⟩ = some (.int .i64 ((rd_T32 t227 x7_1).f2)) := (blk_cell BK233.out 2).trans rfl
                                                        have hfz80_0 := blk_frozen BK233.out 0
                                                        have hfz80_1 := blk_frozen BK233.out 1
                                                        have hfz80_2 := blk_frozen BK233.out 2
                                                        have p42 : 0 ≤ ((ji40) : Int) := of_decide_eq_true (by first | (with_reducible assumption) | assumption)
                                                        have q42 : (ji40) < (a0.size : Int) := of_decide_eq_true (by first | (with_reducible assumption) | assumption)
                                                        have hx42 := bt_at a0 (ji40)
                                                        replace p42 := eq_true p42
                                                        replace q42 := eq_true q42
                                                        go_wp2
                                                        go_roundg kj29
                                                        case measure => have := HK1.out; have := HJ9.out; have := HJ21.out; have := HJ24.out; have := HJ29.out; omega
                                                        case rel => exact ⟨(wrap64 (x7_1 + 1)), (by first | rfl | (simp; done) | (simp [*]; done)), H', ⟨by have := HK1.out; have := HJ9.out; have := HJ21.out; have := HJ24.out; have := HJ29.out; omega⟩, ⟨by (with_reducible repeat (first | apply Kd.R_alloc | apply Kd.R_drewN | apply Kd.R_drew)); exact Kd.R_mono HO_4.out (fun _ hk => trivial)⟩, ⟨by repeat (first | (with_reducible first | exact HB.out | apply below_alloc | apply pw_below_drewN | apply below_drew1 | refine below_set ?_ GE233.out) | exact HB.out)⟩⟩
                                                  · rw [if_neg c77] at H
                                                    have c77b0 : decide (65 ≤ (bt a0 (ji40))) = false := decide_eq_false c77
                                                    clear c77
                                                    as_aux_lemma =>
                                                      have H' := Aside0.mk H
                                                      clear H
                                                      have hcz81_0 : wc.cell? ⟨gb233, 0, none⟩ = some (.int .i64 ((rd_T32 t227 x7_1).f0)) := (blk_cell BK233.out 0).trans rfl
                                                      have hcz81_1 : wc.cell? ⟨gb233, 1, none⟩ = some (.string ((rd_T32 t227 x7_1).f1)) := (blk_cell BK233.out 1).trans rfl
                                                      have hcz81_2 : wc.cell? ⟨gb233, 2, none⟩ = some (.int .i64 ((rd_T32 t227 x7_1).f2)) := (blk_cell BK233.out 2).trans rfl
                                                      have hfz81_0 := blk_frozen BK233.out 0
                                                      have hfz81_1 := blk_frozen BK233.out 1
                                                      have hfz81_2 := blk_frozen BK233.out 2
                                                      have p42 : 0 ≤ ((ji40) : Int) := of_decide_eq_true (by first | (with_reducible assumption) | assumption)
                                                      have q42 : (ji40) < (a0.size : Int) := of_decide_eq_true (by first | (with_reducible assumption) | assumption)
                                                      have hx42 := bt_at a0 (ji40)
                                                      replace p42 := eq_true p42
                                                      replace q42 := eq_true q42
                                                      go_wp2
                                                      go_roundg kj29
                                                      case measure => have := HK1.out; have := HJ9.out; have := HJ21.out; have := HJ24.out; have := HJ29.out; omega
                                                      case rel => exact ⟨(wrap64 (x7_1 + 1)), (by first | rfl | (simp; done) | (simp [*]; done)), H', ⟨by have := HK1.out; have := HJ9.out; have := HJ21.out; have := HJ24.out; have := HJ29.out; omega⟩, ⟨by (with_reducible repeat (first | apply Kd.R_alloc | apply Kd.R_drewN | apply Kd.R_drew)); exact Kd.R_mono HO_4.out (fun _ hk => trivial)⟩, ⟨by repeat (first | (with_reducible first | exact HB.out | apply below_alloc | apply pw_below_drewN | apply below_drew1 | refine below_set ?_ GE233.out) | exact HB.out)⟩⟩
                                          · replace c64 := Bool.eq_false_iff.mpr c64
                                            subst c64
                                            have H1 : (tammylaw06_LexKinds.l0 kj29 a0 t226 t227 (wrap64 (x7_1 + 1))) = some r := by rw [if_neg (show ¬ (false = true) by decide)] at H; exact H
                                            clear H
                                            have H := H1
                                            clear H1
                                            as_aux_lemma =>
                                              have H' := Aside0.mk H
                                              clear H
                                              have hcz82_0 : wc.cell? ⟨gb233, 0, none⟩ = some (.int .i64 ((rd_T32 t227 x7_1).f0)) := (blk_cell BK233.out 0).trans rfl
                                              have hcz82_1 : wc.cell? ⟨gb233, 1, none⟩ = some (.string ((rd_T32 t227 x7_1).f1)) := (blk_cell BK233.out 1).trans rfl
                                              have hcz82_2 : wc.cell? ⟨gb233, 2, none⟩ = some (.int .i64 ((rd_T32 t227 x7_1).f2)) := (blk_cell BK233.out 2).trans rfl
                                              have hfz82_0 := blk_frozen BK233.out 0
                                              have hfz82_1 := blk_frozen BK233.out 1
                                              have hfz82_2 := blk_frozen BK233.out 2
                                              have p42 : 0 ≤ ((ji40) : Int) := of_decide_eq_true (by first | (with_reducible assumption) | assumption)
                                              have q42 : (ji40) < (a0.size : Int) := of_decide_eq_true (by first | (with_reducible assumption) | assumption)
                                              have hx42 := bt_at a0 (ji40)
                                              replace p42 := eq_true p42
                                              replace q42 := eq_true q42
                                              go_wp2
                                              go_roundg kj29
                                              case measure => have := HK1.out; have := HJ9.out; have := HJ21.out; have := HJ24.out; have := HJ29.out; omega
                                              case rel => exact ⟨(wrap64 (x7_1 + 1)), (by first | rfl | (simp; done) | (simp [*]; done)), H', ⟨by have := HK1.out; have := HJ9.out; have := HJ21.out; have := HJ24.out; have := HJ29.out; omega⟩, ⟨by (with_reducible repeat (first | apply Kd.R_alloc | apply Kd.R_drewN | apply Kd.R_drew)); exact Kd.R_mono HO_4.out (fun _ hk => trivial)⟩, ⟨by repeat (first | (with_reducible first | exact HB.out | apply below_alloc | apply pw_below_drewN | apply below_drew1 | refine below_set ?_ GE233.out) | exact HB.out)⟩⟩
                                      · rw [if_neg c43] at H
                                        have c43b0 : decide (48 ≤ (bt a0 (ji40))) = false := decide_eq_false c43
                                        clear c43
                                        by_cases c83 : x10_21 = true
                                        · subst c83
                                          have H1 : (if x11_24 = true then (if (bt a0 (ji40)) = 95 then (some false) else (if (bt a0 (ji40)) ≥ 97 then (if (bt a0 (ji40)) ≤ 122 then (some false) else (if (bt a0 (ji40)) ≥ 65 then (if (bt a0 (ji40)) ≤ 90 then (some false) else (tammylaw06_LexKinds.l0 kj29 a0 t226 t227 (wrap64 (x7_1 + 1)))) else (tammylaw06_LexKinds.l0 kj29 a0 t226 t227 (wrap64 (x7_1 + 1))))) else (if (bt a0 (ji40)) ≥ 65 then (if (bt a0 (ji40)) ≤ 90 then (some false) else (tammylaw06_LexKinds.l0 kj29 a0 t226 t227 (wrap64 (x7_1 + 1)))) else (tammylaw06_LexKinds.l0 kj29 a0 t226 t227 (wrap64 (x7_1 + 1)))))) else (tammylaw06_LexKinds.l0 kj29 a0 t226 t227 (wrap64 (x7_1 + 1)))) = some r := by rw [if_pos rfl] at H; exact H
                                          clear H
                                          have H := H1
                                          clear H1
                                          by_cases c84 : x11_24 = true
                                          · subst c84
                                            have H1 : (if (bt a0 (ji40)) = 95 then (some false) else (if (bt a0 (ji40)) ≥ 97 then (if (bt a0 (ji40)) ≤ 122 then (some false) else (if (bt a0 (ji40)) ≥ 65 then (if (bt a0 (ji40)) ≤ 90 then (some false) else (tammylaw06_LexKinds.l0 kj29 a0 t226 t227 (wrap64 (x7_1 + 1)))) else (tammylaw06_LexKinds.l0 kj29 a0 t226 t227 (wrap64 (x7_1 + 1))))) else (if (bt a0 (ji40)) ≥ 65 then (if (bt a0 (ji40)) ≤ 90 then (some false) else (tammylaw06_LexKinds.l0 kj29 a0 t226 t227 (wrap64 (x7_1 + 1)))) else (tammylaw06_LexKinds.l0 kj29 a0 t226 t227 (wrap64 (x7_1 + 1)))))) = some r := by rw [if_pos rfl] at H; exact H
                                            clear H
                                            have H := H1
                                            clear H1
                                            by_cases c85 : (bt a0 (ji40)) = 95
                                            · rw [if_pos c85] at H
                                              have c85b0 : ((bt a0 (ji40)) == 95) = true := beq_iff_eq.mpr c85
                                              have c85b1 : ((bt a0 (ji40)) != 95) = false := bne_eq_false_iff_eq.mpr c85
                                              clear c85
                                              as_aux_lemma =>
                                                obtain rfl := Option.some.inj H
                                                have hcz86_0 : wc.cell? ⟨gb233, 0, none⟩ = some (.int .i64 ((rd_T32 t227 x7_1).f0)) := (blk_cell BK233.out 0).trans rfl
                                                have hcz86_1 : wc.cell? ⟨gb233, 1, none⟩ = some (.string ((rd_T32 t227 x7_1).f1)) := (blk_cell BK233.out 1).trans rfl
                                                have hcz86_2 : wc.cell? ⟨gb233, 2, none⟩ = some (.int .i64 ((rd_T32 t227 x7_1).f2)) := (blk_cell BK233.out 2).trans rfl
                                                have hfz86_0 := blk_frozen BK233.out 0
                                                have hfz86_1 := blk_frozen BK233.out 1
                                                have hfz86_2 := blk_frozen BK233.out 2
                                                have p42 : 0 ≤ ((ji40) : Int) := of_decide_eq_true (by first | (with_reducible assumption) | assumption)
                                                have q42 : (ji40) < (a0.size : Int) := of_decide_eq_true (by first | (with_reducible assumption) | assumption)
                                                have hx42 := bt_at a0 (ji40)
                                                replace p42 := eq_true p42
                                                replace q42 := eq_true q42
                                                go_wp2
                                                go_ret
                                                exact ⟨by first | rfl | (simp [errW_none, errW_some] <;> rfl) | (simp only [← hji40]; first | rfl | (simp [errW_none, errW_some] <;> rfl)) | (simp [*, errW_none, errW_some] <;> rfl), by repeat (first | (with_reducible first | exact HB.out | apply below_alloc | apply pw_below_drewN | apply below_drew1 | refine below_set ?_ GE233.out) | exact HB.out)⟩
                                            · rw [if_neg c85] at H
                                              have c85b0 : ((bt a0 (ji40)) == 95) = false := beq_eq_false_iff_ne.mpr c85
                                              have c85b1 : ((bt a0 (ji40)) != 95) = true := bne_iff_ne.mpr c85
                                              by_cases c87 : (bt a0 (ji40)) ≥ 97
                                              · rw [if_pos c87] at H
                                                have c87b0 : decide (97 ≤ (bt a0 (ji40))) = true := decide_eq_true c87
                                                clear c87
                                                by_cases c88 : (bt a0 (ji40)) ≤ 122
                                                · rw [if_pos c88] at H
                                                  have c88b0 : decide ((bt a0 (ji40)) ≤ 122) = true := decide_eq_true c88
                                                  clear c88
                                                  as_aux_lemma =>
                                                    obtain rfl := Option.some.inj H
                                                    have hcz89_0 : wc.cell? ⟨gb233, 0, none⟩ = some (.int .i64 ((rd_T32 t227 x7_1).f0)) := (blk_cell BK233.out 0).trans rfl
                                                    have hcz89_1 : wc.cell? ⟨gb233, 1, none⟩ = some (.string ((rd_T32 t227 x7_1).f1)) := (blk_cell BK233.out 1).trans rfl
                                                    have hcz89_2 : wc.cell? ⟨gb233, 2, none⟩ = some (.int .i64 ((rd_T32 t227 x7_1).f2)) := (blk_cell BK233.out 2).trans rfl
                                                    have hfz89_0 := blk_frozen BK233.out 0
                                                    have hfz89_1 := blk_frozen BK233.out 1
                                                    have hfz89_2 := blk_frozen BK233.out 2
                                                    have p42 : 0 ≤ ((ji40) : Int) := of_decide_eq_true (by first | (with_reducible assumption) | assumption)
                                                    have q42 : (ji40) < (a0.size : Int) := of_decide_eq_true (by first | (with_reducible assumption) | assumption)
                                                    have hx42 := bt_at a0 (ji40)
                                                    replace p42 := eq_true p42
                                                    replace q42 := eq_true q42
                                                    go_wp2
                                                    go_ret
                                                    exact ⟨by first | rfl | (simp [errW_none, errW_some] <;> rfl) | (simp only [← hji40]; first | rfl | (simp [errW_none, errW_some] <;> rfl)) | (simp [*, errW_none, errW_some] <;> rfl), by repeat (first | (with_reducible first | exact HB.out | apply below_alloc | apply pw_below_drewN | apply below_drew1 | refine below_set ?_ GE233.out) | exact HB.out)⟩
                                                · rw [if_neg c88] at H
                                                  have c88b0 : decide ((bt a0 (ji40)) ≤ 122) = false := decide_eq_false c88
                                                  clear c88
                                                  by_cases c90 : (bt a0 (ji40)) ≥ 65
                                                  · rw [if_pos c90] at H
                                                    have c90b0 : decide (65 ≤ (bt a0 (ji40))) = true := decide_eq_true c90
                                                    clear c90
                                                    by_cases c91 : (bt a0 (ji40)) ≤ 90
                                                    · rw [if_pos c91] at H
                                                      have c91b0 : decide ((bt a0 (ji40)) ≤ 90) = true := decide_eq_true c91
                                                      clear c91
                                                      as_aux_lemma =>
                                                        obtain rfl := Option.some.inj H
                                                        have hcz92_0 : wc.cell? ⟨gb233, 0, none⟩ = some (.int .i64 ((rd_T32 t227 x7_1).f0)) := (blk_cell BK233.out 0).trans rfl
                                                        have hcz92_1 : wc.cell? ⟨gb233, 1, none⟩ = some (.string ((rd_T32 t227 x7_1).f1)) := (blk_cell BK233.out 1).trans rfl
                                                        have hcz92_2 : wc.cell? ⟨gb233, 2, none⟩ = some (.int .i64 ((rd_T32 t227 x7_1).f2)) := (blk_cell BK233.out 2).trans rfl
                                                        have hfz92_0 := blk_frozen BK233.out 0
                                                        have hfz92_1 := blk_frozen BK233.out 1
                                                        have hfz92_2 := blk_frozen BK233.out 2
                                                        have p42 : 0 ≤ ((ji40) : Int) := of_decide_eq_true (by first | (with_reducible assumption) | assumption)
                                                        have q42 : (ji40) < (a0.size : Int) := of_decide_eq_true (by first | (with_reducible assumption) | assumption)
                                                        have hx42 := bt_at a0 (ji40)
                                                        replace p42 := eq_true p42
                                                        replace q42 := eq_true q42
                                                        go_wp2
                                                        go_ret
                                                        exact ⟨by first | rfl | (simp [errW_none, errW_some] <;> rfl) | (simp only [← hji40]; first | rfl | (simp [errW_none, errW_some] <;> rfl)) | (simp [*, errW_none, errW_some] <;> rfl), by repeat (first | (with_reducible first | exact HB.out | apply below_alloc | apply pw_below_drewN | apply below_drew1 | refine below_set ?_ GE233.out) | exact HB.out)⟩
                                                    · rw [if_neg c91] at H
                                                      have c91b0 : decide ((bt a0 (ji40)) ≤ 90) = false := decide_eq_false c91
                                                      clear c91
                                                      as_aux_lemma =>
                                                        have H' := Aside0.mk H
                                                        clear H
                                                        have hcz93_0 : wc.cell? ⟨gb233, 0, none⟩ = some (.int .i64 ((rd_T32 t227 x7_1).f0)) := (blk_cell BK233.out 0).trans rfl
                                                        have hcz93_1 : wc.cell? ⟨gb233, 1, none⟩ = some (.string ((rd_T32 t227 x7_1).f1)) := (blk_cell BK233.out 1).trans rfl
                                                        have hcz93_2 : wc.cell? ⟨gb233, 2, none⟩ = some (.int .i64 ((rd_T32 t227 x7_1).f2)) := (blk_cell BK233.out 2).trans rfl
                                                        have hfz93_0 := blk_frozen BK233.out 0
                                                        have hfz93_1 := blk_frozen BK233.out 1
                                                        have hfz93_2 := blk_frozen BK233.out 2
                                                        have p42 : 0 ≤ ((ji40) : Int) := of_decide_eq_true (by first | (with_reducible assumption) | assumption)
                                                        have q42 : (ji40) < (a0.size : Int) := of_decide_eq_true (by first | (with_reducible assumption) | assumption)
                                                        have hx42 := bt_at a0 (ji40)
                                                        replace p42 := eq_true p42
                                                        replace q42 := eq_true q42
                                                        go_wp2
                                                        go_roundg kj29
                                                        case measure => have := HK1.out; have := HJ9.out; have := HJ21.out; have := HJ24.out; have := HJ29.out; omega
                                                        case rel => exact ⟨(wrap64 (x7_1 + 1)), (by first | rfl | (simp; done) | (simp [*]; done)), H', ⟨by have := HK1.out; have := HJ9.out; have := HJ21.out; have := HJ24.out; have := HJ29.out; omega⟩, ⟨by (with_reducible repeat (first | apply Kd.R_alloc | apply Kd.R_drewN | apply Kd.R_drew)); exact Kd.R_mono HO_4.out (fun _ hk => trivial)⟩, ⟨by repeat (first | (with_reducible first | exact HB.out | apply below_alloc | apply pw_below_drewN | apply below_drew1 | refine below_set ?_ GE233.out) | exact HB.out)⟩⟩
                                                  · rw [if_neg c90] at H
                                                    have c90b0 : decide (65 ≤ (bt a0 (ji40))) = false := decide_eq_false c90
                                                    clear c90
                                                    as_aux_lemma =>
                                                      have H' := Aside0.mk H
                                                      clear H
                                                      have hcz94_0 : wc.cell? ⟨gb233, 0, none⟩ = some (.int .i64 ((rd_T32 t227 x7_1).f0)) := (blk_cell BK233.out 0).trans rfl
                                                      have hcz94_1 : wc.cell? ⟨gb233, 1, none⟩ = some (.string ((rd_T32 t227 x7_1).f1)) := (blk_cell BK233.out 1).trans rfl
                                                      have hcz94_2 : wc.cell? ⟨gb233, 2, none⟩ = some (.int .i64 ((rd_T32 t227 x7_1).f2)) := (blk_cell BK233.out 2).trans rfl
                                                      have hfz94_0 := blk_frozen BK233.out 0
                                                      have hfz94_1 := blk_frozen BK233.out 1
                                                      have hfz94_2 := blk_frozen BK233.out 2
                                                      have p42 : 0 ≤ ((ji40) : Int) := of_decide_eq_true (by first | (with_reducible assumption) | assumption)
                                                      have q42 : (ji40) < (a0.size : Int) := of_decide_eq_true (by first | (with_reducible assumption) | assumption)
                                                      have hx42 := bt_at a0 (ji40)
                                                      replace p42 := eq_true p42
                                                      replace q42 := eq_true q42
                                                      go_wp2
                                                      go_roundg kj29
                                                      case measure => have := HK1.out; have := HJ9.out; have := HJ21.out; have := HJ24.out; have := HJ29.out; omega
                                                      case rel => exact ⟨(wrap64 (x7_1 + 1)), (by first | rfl | (simp; done) | (simp [*]; done)), H', ⟨by have := HK1.out; have := HJ9.out; have := HJ21.out; have := HJ24.out; have := HJ29.out; omega⟩, ⟨by (with_reducible repeat (first | apply Kd.R_alloc | apply Kd.R_drewN | apply Kd.R_drew)); exact Kd.R_mono HO_4.out (fun _ hk => trivial)⟩, ⟨by repeat (first | (with_reducible first | exact HB.out | apply below_alloc | apply pw_below_drewN | apply below_drew1 | refine below_set ?_ GE233.out) | exact HB.out)⟩⟩
                                              · rw [if_neg c87] at H
                                                have c87b0 : decide (97 ≤ (bt a0 (ji40))) = false := decide_eq_false c87
                                                clear c87
                                                by_cases c95 : (bt a0 (ji40)) ≥ 65
                                                · rw [if_pos c95] at H
                                                  have c95b0 : decide (65 ≤ (bt a0 (ji40))) = true := decide_eq_true c95
                                                  clear c95
                                                  by_cases c96 : (bt a0 (ji40)) ≤ 90
                                                  · rw [if_pos c96] at H
                                                    have c96b0 : decide ((bt a0 (ji40)) ≤ 90) = true := decide_eq_true c96
                                                    clear c96
                                                    as_aux_lemma =>
                                                      obtain rfl := Option.some.inj H
                                                      have hcz97_0 : wc.cell? ⟨gb233, 0, none⟩ = some (.int .i64 ((rd_T32 t227 x7_1).f0)) := (blk_cell BK233.out 0).trans rfl
                                                      have hcz97_1 : wc.cell? ⟨gb233, 1, none⟩ = some (.string ((rd_T32 t227 x7_1).f1)) := (blk_cell BK233.out 1).trans rfl
                                                      have hcz97_2 : wc.cell? ⟨gb233, 2, none⟩ = some (.int .i64 ((rd_T32 t227 x7_1).f2)) := (blk_cell BK233.out 2).trans rfl
                                                      have hfz97_0 := blk_frozen BK233.out 0
                                                      have hfz97_1 := blk_frozen BK233.out 1
                                                      have hfz97_2 := blk_frozen BK233.out 2
                                                      have p42 : 0 ≤ ((ji40) : Int) := of_decide_eq_true (by first | (with_reducible assumption) | assumption)
                                                      have q42 : (ji40) < (a0.size : Int) := of_decide_eq_true (by first | (with_reducible assumption) | assumption)
                                                      have hx42 := bt_at a0 (ji40)
                                                      replace p42 := eq_true p42
                                                      replace q42 := eq_true q42
                                                      go_wp2
                                                      go_ret
                                                      exact ⟨by first | rfl | (simp [errW_none, errW_some] <;> rfl) | (simp only [← hji40]; first | rfl | (simp [errW_none, errW_some] <;> rfl)) | (simp [*, errW_none, errW_some] <;> rfl), by repeat (first | (with_reducible first | exact HB.out | apply below_alloc | apply pw_below_drewN | apply below_drew1 | refine below_set ?_ GE233.out) | exact HB.out)⟩
                                                  · rw [if_neg c96] at H
                                                    have c96b0 : decide ((bt a0 (ji40)) ≤ 90) = false := decide_eq_false c96
                                                    clear c96
                                                    as_aux_lemma =>
                                                      have H' := Aside0.mk H
                                                      clear H
                                                      have hcz98_0 : wc.cell? ⟨gb233, 0, none⟩ = some (.int .i64 ((rd_T32 t227 x7_1).f0)) := (blk_cell BK233.out 0).trans rfl
                                                      have hcz98_1 : wc.cell? ⟨gb233, 1, none⟩ = some (.string ((rd_T32 t227 x7_1).f1)) := (blk_cell BK233.out 1).trans rfl
                                                      have hcz98_2 : wc.cell? ⟨gb233, 2, none⟩ = some (.int .i64 ((rd_T32 t227 x7_1).f2)) := (blk_cell BK233.out 2).trans rfl
                                                      have hfz98_0 := blk_frozen BK233.out 0
                                                      have hfz98_1 := blk_frozen BK233.out 1
                                                      have hfz98_2 := blk_frozen BK233.out 2
                                                      have p42 : 0 ≤ ((ji40) : Int) := of_decide_eq_true (by first | (with_reducible assumption) | assumption)
                                                      have q42 : (ji40) < (a0.size : Int) := of_decide_eq_true (by first | (with_reducible assumption) | assumption)
                                                      have hx42 := bt_at a0 (ji40)
                                                      replace p42 := eq_true p42
                                                      replace q42 := eq_true q42
                                                      go_wp2
                                                      go_roundg kj29
                                                      case measure => have := HK1.out; have := HJ9.out; have := HJ21.out; have := HJ24.out; have := HJ29.out; omega
                                                      case rel => exact ⟨(wrap64 (x7_1 + 1)), (by first | rfl | (simp; done) | (simp [*]; done)), H', ⟨by have := HK1.out; have := HJ9.out; have := HJ21.out; have := HJ24.out; have := HJ29.out; omega⟩, ⟨by (with_reducible repeat (first | apply Kd.R_alloc | apply Kd.R_drewN | apply Kd.R_drew)); exact Kd.R_mono HO_4.out (fun _ hk => trivial)⟩, ⟨by repeat (first | (with_reducible first | exact HB.out | apply below_alloc | apply pw_below_drewN | apply below_drew1 | refine below_set ?_ GE233.out) | exact HB.out)⟩⟩
                                                · rw [if_neg c95] at H
                                                  have c95b0 : decide (65 ≤ (bt a0 (ji40))) = false := decide_eq_false c95
                                                  clear c95
                                                  as_aux_lemma =>
                                                    have H' := Aside0.mk H
                                                    clear H
                                                    have hcz99_0 : wc.cell? ⟨gb233, 0, none⟩ = some (.int .i64 ((rd_T32 t227 x7_1).f0)) := (blk_cell BK233.out 0).trans rfl
                                                    have hcz99_1 : wc.cell? ⟨gb233, 1, none⟩ = some (.string ((rd_T32 t227 x7_1).f1)) := (blk_cell BK233.out 1).trans rfl
                                                    have hcz99_2 : wc.cell? ⟨gb233, 2, none⟩ = some (.int .i64 ((rd_T32 t227 x7_1).f2)) := (blk_cell BK233.out 2).trans rfl
                                                    have hfz99_0 := blk_frozen BK233.out 0
                                                    have hfz99_1 := blk_frozen BK233.out 1
                                                    have hfz99_2 := blk_frozen BK233.out 2
                                                    have p42 : 0 ≤ ((ji40) : Int) := of_decide_eq_true (by first | (with_reducible assumption) | assumption)
                                                    have q42 : (ji40) < (a0.size : Int) := of_decide_eq_true (by first | (with_reducible assumption) | assumption)
                                                    have hx42 := bt_at a0 (ji40)
                                                    replace p42 := eq_true p42
                                                    replace q42 := eq_true q42
                                                    go_wp2
                                                    go_roundg kj29
                                                    case measure => have := HK1.out; have := HJ9.out; have := HJ21.out; have := HJ24.out; have := HJ29.out; omega
                                                    case rel => exact ⟨(wrap64 (x7_1 + 1)), (by first | rfl | (simp; done) | (simp [*]; done)), H', ⟨by have := HK1.out; have := HJ9.out; have := HJ21.out; have := HJ24.out; have := HJ29.out; omega⟩, ⟨by (with_reducible repeat (first | apply Kd.R_alloc | apply Kd.R_drewN | apply Kd.R_drew)); exact Kd.R_mono HO_4.out (fun _ hk => trivial)⟩, ⟨by repeat (first | (with_reducible first | exact HB.out | apply below_alloc | apply pw_below_drewN | apply below_drew1 | refine below_set ?_ GE233.out) | exact HB.out)⟩⟩
                                          · replace c84 := Bool.eq_false_iff.mpr c84
                                            subst c84
                                            have H1 : (tammylaw06_LexKinds.l0 kj29 a0 t226 t227 (wrap64 (x7_1 + 1))) = some r := by rw [if_neg (show ¬ (false = true) by decide)] at H; exact H
                                            clear H
                                            have H := H1
                                            clear H1
                                            as_aux_lemma =>
                                              have H' := Aside0.mk H
                                              clear H
                                              have hcz100_0 : wc.cell? ⟨gb233, 0, none⟩ = some (.int .i64 ((rd_T32 t227 x7_1).f0)) := (blk_cell BK233.out 0).trans rfl
                                              have hcz100_1 : wc.cell? ⟨gb233, 1, none⟩ = some (.string ((rd_T32 t227 x7_1).f1)) := (blk_cell BK233.out 1).trans rfl
                                              have hcz100_2 : wc.cell? ⟨gb233, 2, none⟩ = some (.int .i64 ((rd_T32 t227 x7_1).f2)) := (blk_cell BK233.out 2).trans rfl
                                              have hfz100_0 := blk_frozen BK233.out 0
                                              have hfz100_1 := blk_frozen BK233.out 1
                                              have hfz100_2 := blk_frozen BK233.out 2
                                              have p42 : 0 ≤ ((ji40) : Int) := of_decide_eq_true (by first | (with_reducible assumption) | assumption)
                                              have q42 : (ji40) < (a0.size : Int) := of_decide_eq_true (by first | (with_reducible assumption) | assumption)
                                              have hx42 := bt_at a0 (ji40)
                                              replace p42 := eq_true p42
                                              replace q42 := eq_true q42
                                              go_wp2
                                              go_roundg kj29
                                              case measure => have := HK1.out; have := HJ9.out; have := HJ21.out; have := HJ24.out; have := HJ29.out; omega
                                              case rel => exact ⟨(wrap64 (x7_1 + 1)), (by first | rfl | (simp; done) | (simp [*]; done)), H', ⟨by have := HK1.out; have := HJ9.out; have := HJ21.out; have := HJ24.out; have := HJ29.out; omega⟩, ⟨by (with_reducible repeat (first | apply Kd.R_alloc | apply Kd.R_drewN | apply Kd.R_drew)); exact Kd.R_mono HO_4.out (fun _ hk => trivial)⟩, ⟨by repeat (first | (with_reducible first | exact HB.out | apply below_alloc | apply pw_below_drewN | apply below_drew1 | refine below_set ?_ GE233.out) | exact HB.out)⟩⟩
                                        · replace c83 := Bool.eq_false_iff.mpr c83
                                          subst c83
                                          have H1 : (if x11_24 = true then (if (bt a0 (ji40)) = 95 then (some false) else (if (bt a0 (ji40)) ≥ 97 then (if (bt a0 (ji40)) ≤ 122 then (some false) else (if (bt a0 (ji40)) ≥ 65 then (if (bt a0 (ji40)) ≤ 90 then (some false) else (tammylaw06_LexKinds.l0 kj29 a0 t226 t227 (wrap64 (x7_1 + 1)))) else (tammylaw06_LexKinds.l0 kj29 a0 t226 t227 (wrap64 (x7_1 + 1))))) else (if (bt a0 (ji40)) ≥ 65 then (if (bt a0 (ji40)) ≤ 90 then (some false) else (tammylaw06_LexKinds.l0 kj29 a0 t226 t227 (wrap64 (x7_1 + 1)))) else (tammylaw06_LexKinds.l0 kj29 a0 t226 t227 (wrap64 (x7_1 + 1)))))) else (tammylaw06_LexKinds.l0 kj29 a0 t226 t227 (wrap64 (x7_1 + 1)))) = some r := by rw [if_neg (show ¬ (false = true) by decide)] at H; exact H
                                          clear H
                                          have H := H1
                                          clear H1
                                          by_cases c101 : x11_24 = true
                                          · subst c101
                                            have H1 : (if (bt a0 (ji40)) = 95 then (some false) else (if (bt a0 (ji40)) ≥ 97 then (if (bt a0 (ji40)) ≤ 122 then (some false) else (if (bt a0 (ji40)) ≥ 65 then (if (bt a0 (ji40)) ≤ 90 then (some false) else (tammylaw06_LexKinds.l0 kj29 a0 t226 t227 (wrap64 (x7_1 + 1)))) else (tammylaw06_LexKinds.l0 kj29 a0 t226 t227 (wrap64 (x7_1 + 1))))) else (if (bt a0 (ji40)) ≥ 65 then (if (bt a0 (ji40)) ≤ 90 then (some false) else (tammylaw06_LexKinds.l0 kj29 a0 t226 t227 (wrap64 (x7_1 + 1)))) else (tammylaw06_LexKinds.l0 kj29 a0 t226 t227 (wrap64 (x7_1 + 1)))))) = some r := by rw [if_pos rfl] at H; exact H
                                            clear H
                                            have H := H1
                                            clear H1
                                            by_cases c102 : (bt a0 (ji40)) = 95
                                            · rw [if_pos c102] at H
                                              have c102b0 : ((bt a0 (ji40)) == 95) = true := beq_iff_eq.mpr c102
                                              have c102b1 : ((bt a0 (ji40)) != 95) = false := bne_eq_false_iff_eq.mpr c102
                                              clear c102
                                              as_aux_lemma =>
                                                obtain rfl := Option.some.inj H
                                                have hcz103_0 : wc.cell? ⟨gb233, 0, none⟩ = some (.int .i64 ((rd_T32 t227 x7_1).f0)) := (blk_cell BK233.out 0).trans rfl
                                                have hcz103_1 : wc.cell? ⟨gb233, 1, none⟩ = some (.string ((rd_T32 t227 x7_1).f1)) := (blk_cell BK233.out 1).trans rfl
                                                have hcz103_2 : wc.cell? ⟨gb233, 2, none⟩ = some (.int .i64 ((rd_T32 t227 x7_1).f2)) := (blk_cell BK233.out 2).trans rfl
                                                have hfz103_0 := blk_frozen BK233.out 0
                                                have hfz103_1 := blk_frozen BK233.out 1
                                                have hfz103_2 := blk_frozen BK233.out 2
                                                have p42 : 0 ≤ ((ji40) : Int) := of_decide_eq_true (by first | (with_reducible assumption) | assumption)
                                                have q42 : (ji40) < (a0.size : Int) := of_decide_eq_true (by first | (with_reducible assumption) | assumption)
                                                have hx42 := bt_at a0 (ji40)
                                                replace p42 := eq_true p42
                                                replace q42 := eq_true q42
                                                go_wp2
                                                go_ret
                                                exact ⟨by first | rfl | (simp [errW_none, errW_some] <;> rfl) | (simp only [← hji40]; first | rfl | (simp [errW_none, errW_some] <;> rfl)) | (simp [*, errW_none, errW_some] <;> rfl), by repeat (first | (with_reducible first | exact HB.out | apply below_alloc | apply pw_below_drewN | apply below_drew1 | refine below_set ?_ GE233.out) | exact HB.out)⟩
                                            · rw [if_neg c102] at H
                                              have c102b0 : ((bt a0 (ji40)) == 95) = false := beq_eq_false_iff_ne.mpr c102
                                              have c102b1 : ((bt a0 (ji40)) != 95) = true := bne_iff_ne.mpr c102
                                              by_cases c104 : (bt a0 (ji40)) ≥ 97
                                              · rw [if_pos c104] at H
                                                have c104b0 : decide (97 ≤ (bt a0 (ji40))) = true := decide_eq_true c104
                                                clear c104
                                                by_cases c105 : (bt a0 (ji40)) ≤ 122
                                                · rw [if_pos c105] at H
                                                  have c105b0 : decide ((bt a0 (ji40)) ≤ 122) = true := decide_eq_true c105
                                                  clear c105
                                                  as_aux_lemma =>
                                                    obtain rfl := Option.some.inj H
                                                    have hcz106_0 : wc.cell? ⟨gb233, 0, none⟩ = some (.int .i64 ((rd_T32 t227 x7_1).f0)) := (blk_cell BK233.out 0).trans rfl
                                                    have hcz106_1 : wc.cell? ⟨gb233, 1, none⟩ = some (.string ((rd_T32 t227 x7_1).f1)) := (blk_cell BK233.out 1).trans rfl
                                                    have hcz106_2 : wc.cell? ⟨gb233, 2, none⟩ = some (.int .i64 ((rd_T32 t227 x7_1).f2)) := (blk_cell BK233.out 2).trans rfl
                                                    have hfz106_0 := blk_frozen BK233.out 0
                                                    have hfz106_1 := blk_frozen BK233.out 1
                                                    have hfz106_2 := blk_frozen BK233.out 2
                                                    have p42 : 0 ≤ ((ji40) : Int) := of_decide_eq_true (by first | (with_reducible assumption) | assumption)
                                                    have q42 : (ji40) < (a0.size : Int) := of_decide_eq_true (by first | (with_reducible assumption) | assumption)
                                                    have hx42 := bt_at a0 (ji40)
                                                    replace p42 := eq_true p42
                                                    replace q42 := eq_true q42
                                                    go_wp2
                                                    go_ret
                                                    exact ⟨by first | rfl | (simp [errW_none, errW_some] <;> rfl) | (simp only [← hji40]; first | rfl | (simp [errW_none, errW_some] <;> rfl)) | (simp [*, errW_none, errW_some] <;> rfl), by repeat (first | (with_reducible first | exact HB.out | apply below_alloc | apply pw_below_drewN | apply below_drew1 | refine below_set ?_ GE233.out) | exact HB.out)⟩
                                                · rw [if_neg c105] at H
                                                  have c105b0 : decide ((bt a0 (ji40)) ≤ 122) = false := decide_eq_false c105
                                                  clear c105
                                                  by_cases c107 : (bt a0 (ji40)) ≥ 65
                                                  · rw [if_pos c107] at H
                                                    have c107b0 : decide (65 ≤ (bt a0 (ji40))) = true := decide_eq_true c107
                                                    clear c107
                                                    by_cases c108 : (bt a0 (ji40)) ≤ 90
                                                    · rw [if_pos c108] at H
                                                      have c108b0 : decide ((bt a0 (ji40)) ≤ 90) = true := decide_eq_true c108
                                                      clear c108
                                                      as_aux_lemma =>
                                                        obtain rfl := Option.some.inj H
                                                        have hcz109_0 : wc.cell? ⟨gb233, 0, none⟩ = some (.int .i64 ((rd_T32 t227 x7_1).f0)) := (blk_cell BK233.out 0).trans rfl
                                                        have hcz109_1 : wc.cell? ⟨gb233, 1, none⟩ = some (.string ((rd_T32 t227 x7_1).f1)) := (blk_cell BK233.out 1).trans rfl
                                                        have hcz109_2 : wc.cell? ⟨gb233, 2, none⟩ = some (.int .i64 ((rd_T32 t227 x7_1).f2)) := (blk_cell BK233.out 2).trans rfl
                                                        have hfz109_0 := blk_frozen BK233.out 0
                                                        have hfz109_1 := blk_frozen BK233.out 1
                                                        have hfz109_2 := blk_frozen BK233.out 2
                                                        have p42 : 0 ≤ ((ji40) : Int) := of_decide_eq_true (by first | (with_reducible assumption) | assumption)
                                                        have q42 : (ji40) < (a0.size : Int) := of_decide_eq_true (by first | (with_reducible assumption) | assumption)
                                                        have hx42 := bt_at a0 (ji40)
                                                        replace p42 := eq_true p42
                                                        replace q42 := eq_true q42
                                                        go_wp2
                                                        go_ret
                                                        exact ⟨by first | rfl | (simp [errW_none, errW_some] <;> rfl) | (simp only [← hji40]; first | rfl | (simp [errW_none, errW_some] <;> rfl)) | (simp [*, errW_none, errW_some] <;> rfl), by repeat (first | (with_reducible first | exact HB.out | apply below_alloc | apply pw_below_drewN | apply below_drew1 | refine below_set ?_ GE233.out) | exact HB.out)⟩
                                                    · rw [if_neg c108] at H
                                                      have c108b0 : decide ((bt a0 (ji40)) ≤ 90) = false := decide_eq_false c108
                                                      clear c108
                                                      as_aux_lemma =>
                                                        have H' := Aside0.mk H
                                                        clear H
                                                        have hcz110_0 : wc.cell? ⟨gb233, 0, none⟩ = some (.int .i64 ((rd_T32 t227 x7_1).f0)) := (blk_cell BK233.out 0).trans rfl
                                                        have hcz110_1 : wc.cell? ⟨gb233, 1, none⟩ = some (.string ((rd_T32 t227 x7_1).f1)) := (blk_cell BK233.out 1).trans rfl
                                                        have hcz110_2 : wc.cell? ⟨gb233, 2, none⟩ = some (.int .i64 ((rd_T32 t227 x7_1).f2)) := (blk_cell BK233.out 2).trans rfl
                                                        have hfz110_0 := blk_frozen BK233.out 0
                                                        have hfz110_1 := blk_frozen BK233.out 1
                                                        have hfz110_2 := blk_frozen BK233.out 2
                                                        have p42 : 0 ≤ ((ji40) : Int) := of_decide_eq_true (by first | (with_reducible assumption) | assumption)
                                                        have q42 : (ji40) < (a0.size : Int) := of_decide_eq_true (by first | (with_reducible assumption) | assumption)
                                                        have hx42 := bt_at a0 (ji40)
                                                        replace p42 := eq_true p42
                                                        replace q42 := eq_true q42
                                                        go_wp2
                                                        go_roundg kj29
                                                        case measure => have := HK1.out; have := HJ9.out; have := HJ21.out; have := HJ24.out; have := HJ29.out; omega
                                                        case rel => exact ⟨(wrap64 (x7_1 + 1)), (by first | rfl | (simp; done) | (simp [*]; done)), H', ⟨by have := HK1.out; have := HJ9.out; have := HJ21.out; have := HJ24.out; have := HJ29.out; omega⟩, ⟨by (with_reducible repeat (first | apply Kd.R_alloc | apply Kd.R_drewN | apply Kd.R_drew)); exact Kd.R_mono HO_4.out (fun _ hk => trivial)⟩, ⟨by repeat (first | (with_reducible first | exact HB.out | apply below_alloc | apply pw_below_drewN | apply below_drew1 | refine below_set ?_ GE233.out) | exact HB.out)⟩⟩
                                                  · rw [if_neg c107] at H
                                                    have c107b0 : decide (65 ≤ (bt a0 (ji40))) = false := decide_eq_false c107
                                                    clear c107
                                                    as_aux_lemma =>
                                                      have H' := Aside0.mk H
                                                      clear H
                                                      have hcz111_0 : wc.cell? ⟨gb233, 0, none⟩ = some (.int .i64 ((rd_T32 t227 x7_1).f0)) := (blk_cell BK233.out 0).trans rfl
                                                      have hcz111_1 : wc.cell? ⟨gb233, 1, none⟩ = some (.string ((rd_T32 t227 x7_1).f1)) := (blk_cell BK233.out 1).trans rfl
                                                      have hcz111_2 : wc.cell? ⟨gb233, 2, none⟩ = some (.int .i64 ((rd_T32 t227 x7_1).f2)) := (blk_cell BK233.out 2).trans rfl
                                                      have hfz111_0 := blk_frozen BK233.out 0
                                                      have hfz111_1 := blk_frozen BK233.out 1
                                                      have hfz111_2 := blk_frozen BK233.out 2
                                                      have p42 : 0 ≤ ((ji40) : Int) := of_decide_eq_true (by first | (with_reducible assumption) | assumption)
                                                      have q42 : (ji40) < (a0.size : Int) := of_decide_eq_true (by first | (with_reducible assumption) | assumption)
                                                      have hx42 := bt_at a0 (ji40)
                                                      replace p42 := eq_true p42
                                                      replace q42 := eq_true q42
                                                      go_wp2
                                                      go_roundg kj29
                                                      case measure => have := HK1.out; have := HJ9.out; have := HJ21.out; have := HJ24.out; have := HJ29.out; omega
                                                      case rel => exact ⟨(wrap64 (x7_1 + 1)), (by first | rfl | (simp; done) | (simp [*]; done)), H', ⟨by have := HK1.out; have := HJ9.out; have := HJ21.out; have := HJ24.out; have := HJ29.out; omega⟩, ⟨by (with_reducible repeat (first | apply Kd.R_alloc | apply Kd.R_drewN | apply Kd.R_drew)); exact Kd.R_mono HO_4.out (fun _ hk => trivial)⟩, ⟨by repeat (first | (with_reducible first | exact HB.out | apply below_alloc | apply pw_below_drewN | apply below_drew1 | refine below_set ?_ GE233.out) | exact HB.out)⟩⟩
                                              · rw [if_neg c104] at H
                                                have c104b0 : decide (97 ≤ (bt a0 (ji40))) = false := decide_eq_false c104
                                                clear c104
                                                by_cases c112 : (bt a0 (ji40)) ≥ 65
                                                · rw [if_pos c112] at H
                                                  have c112b0 : decide (65 ≤ (bt a0 (ji40))) = true := decide_eq_true c112
                                                  clear c112
                                                  by_cases c113 : (bt a0 (ji40)) ≤ 90
                                                  · rw [if_pos c113] at H
                                                    have c113b0 : decide ((bt a0 (ji40)) ≤ 90) = true := decide_eq_true c113
                                                    clear c113
                                                    as_aux_lemma =>
                                                      obtain rfl := Option.some.inj H
                                                      have hcz114_0 : wc.cell? ⟨gb233, 0, none⟩ = some (.int .i64 ((rd_T32 t227 x7_1).f0)) := (blk_cell BK233.out 0).trans rfl
                                                      have hcz114_1 : wc.cell? ⟨gb233, 1, none⟩ = some (.string ((rd_T32 t227 x7_1).f1)) := (blk_cell BK233.out 1).trans rfl
                                                      have hcz114_2 : wc.cell? ⟨gb233, 2, none⟩ = some (.int .i64 ((rd_T32 t227 x7_1).f2)) := (blk_cell BK233.out 2).trans rfl
                                                      have hfz114_0 := blk_frozen BK233.out 0
                                                      have hfz114_1 := blk_frozen BK233.out 1
                                                      have hfz114_2 := blk_frozen BK233.out 2
                                                      have p42 : 0 ≤ ((ji40) : Int) := of_decide_eq_true (by first | (with_reducible assumption) | assumption)
                                                      have q42 : (ji40) < (a0.size : Int) := of_decide_eq_true (by first | (with_reducible assumption) | assumption)
                                                      have hx42 := bt_at a0 (ji40)
                                                      replace p42 := eq_true p42
                                                      replace q42 := eq_true q42
                                                      go_wp2
                                                      go_ret
                                                      exact ⟨by first | rfl | (simp [errW_none, errW_some] <;> rfl) | (simp only [← hji40]; first | rfl | (simp [errW_none, errW_some] <;> rfl)) | (simp [*, errW_none, errW_some] <;> rfl), by repeat (first | (with_reducible first | exact HB.out | apply below_alloc | apply pw_below_drewN | apply below_drew1 | refine below_set ?_ GE233.out) | exact HB.out)⟩
                                                  · rw [if_neg c113] at H
                                                    have c113b0 : decide ((bt a0 (ji40)) ≤ 90) = false := decide_eq_false c113
                                                    clear c113
                                                    as_aux_lemma =>
                                                      have H' := Aside0.mk H
                                                      clear H
                                                      have hcz115_0 : wc.cell? ⟨gb233, 0, none⟩ = some (.int .i64 ((rd_T32 t227 x7_1).f0)) := (blk_cell BK233.out 0).trans rfl
                                                      have hcz115_1 : wc.cell? ⟨gb233, 1, none⟩ = some (.string ((rd_T32 t227 x7_1).f1)) := (blk_cell BK233.out 1).trans rfl
                                                      have hcz115_2 : wc.cell? ⟨gb233, 2, none⟩ = some (.int .i64 ((rd_T32 t227 x7_1).f2)) := (blk_cell BK233.out 2).trans rfl
                                                      have hfz115_0 := blk_frozen BK233.out 0
                                                      have hfz115_1 := blk_frozen BK233.out 1
                                                      have hfz115_2 := blk_frozen BK233.out 2
                                                      have p42 : 0 ≤ ((ji40) : Int) := of_decide_eq_true (by first | (with_reducible assumption) | assumption)
                                                      have q42 : (ji40) < (a0.size : Int) := of_decide_eq_true (by first | (with_reducible assumption) | assumption)
                                                      have hx42 := bt_at a0 (ji40)
                                                      replace p42 := eq_true p42
                                                      replace q42 := eq_true q42
                                                      go_wp2
                                                      go_roundg kj29
                                                      case measure => have := HK1.out; have := HJ9.out; have := HJ21.out; have := HJ24.out; have := HJ29.out; omega
                                                      case rel => exact ⟨(wrap64 (x7_1 + 1)), (by first | rfl | (simp; done) | (simp [*]; done)), H', ⟨by have := HK1.out; have := HJ9.out; have := HJ21.out; have := HJ24.out; have := HJ29.out; omega⟩, ⟨by (with_reducible repeat (first | apply Kd.R_alloc | apply Kd.R_drewN | apply Kd.R_drew)); exact Kd.R_mono HO_4.out (fun _ hk => trivial)⟩, ⟨by repeat (first | (with_reducible first | exact HB.out | apply below_alloc | apply pw_below_drewN | apply below_drew1 | refine below_set ?_ GE233.out) | exact HB.out)⟩⟩
                                                · rw [if_neg c112] at H
                                                  have c112b0 : decide (65 ≤ (bt a0 (ji40))) = false := decide_eq_false c112
                                                  clear c112
                                                  as_aux_lemma =>
                                                    have H' := Aside0.mk H
                                                    clear H
                                                    have hcz116_0 : wc.cell? ⟨gb233, 0, none⟩ = some (.int .i64 ((rd_T32 t227 x7_1).f0)) := (blk_cell BK233.out 0).trans rfl
                                                    have hcz116_1 : wc.cell? ⟨gb233, 1, none⟩ = some (.string ((rd_T32 t227 x7_1).f1)) := (blk_cell BK233.out 1).trans rfl
                                                    have hcz116_2 : wc.cell? ⟨gb233, 2, none⟩ = some (.int .i64 ((rd_T32 t227 x7_1).f2)) := (blk_cell BK233.out 2).trans rfl
                                                    have hfz116_0 := blk_frozen BK233.out 0
                                                    have hfz116_1 := blk_frozen BK233.out 1
                                                    have hfz116_2 := blk_frozen BK233.out 2
                                                    have p42 : 0 ≤ ((ji40) : Int) := of_decide_eq_true (by first | (with_reducible assumption) | assumption)
                                                    have q42 : (ji40) < (a0.size : Int) := of_decide_eq_true (by first | (with_reducible assumption) | assumption)
                                                    have hx42 := bt_at a0 (ji40)
                                                    replace p42 := eq_true p42
                                                    replace q42 := eq_true q42
                                                    go_wp2
                                                    go_roundg kj29
                                                    case measure => have := HK1.out; have := HJ9.out; have := HJ21.out; have := HJ24.out; have := HJ29.out; omega
                                                    case rel => exact ⟨(wrap64 (x7_1 + 1)), (by first | rfl | (simp; done) | (simp [*]; done)), H', ⟨by have := HK1.out; have := HJ9.out; have := HJ21.out; have := HJ24.out; have := HJ29.out; omega⟩, ⟨by (with_reducible repeat (first | apply Kd.R_alloc | apply Kd.R_drewN | apply Kd.R_drew)); exact Kd.R_mono HO_4.out (fun _ hk => trivial)⟩, ⟨by repeat (first | (with_reducible first | exact HB.out | apply below_alloc | apply pw_below_drewN | apply below_drew1 | refine below_set ?_ GE233.out) | exact HB.out)⟩⟩
                                          · replace c101 := Bool.eq_false_iff.mpr c101
                                            subst c101
                                            have H1 : (tammylaw06_LexKinds.l0 kj29 a0 t226 t227 (wrap64 (x7_1 + 1))) = some r := by rw [if_neg (show ¬ (false = true) by decide)] at H; exact H
                                            clear H
                                            have H := H1
                                            clear H1
                                            as_aux_lemma =>
                                              have H' := Aside0.mk H
                                              clear H
                                              have hcz117_0 : wc.cell? ⟨gb233, 0, none⟩ = some (.int .i64 ((rd_T32 t227 x7_1).f0)) := (blk_cell BK233.out 0).trans rfl
                                              have hcz117_1 : wc.cell? ⟨gb233, 1, none⟩ = some (.string ((rd_T32 t227 x7_1).f1)) := (blk_cell BK233.out 1).trans rfl
                                              have hcz117_2 : wc.cell? ⟨gb233, 2, none⟩ = some (.int .i64 ((rd_T32 t227 x7_1).f2)) := (blk_cell BK233.out 2).trans rfl
                                              have hfz117_0 := blk_frozen BK233.out 0
                                              have hfz117_1 := blk_frozen BK233.out 1
                                              have hfz117_2 := blk_frozen BK233.out 2
                                              have p42 : 0 ≤ ((ji40) : Int) := of_decide_eq_true (by first | (with_reducible assumption) | assumption)
                                              have q42 : (ji40) < (a0.size : Int) := of_decide_eq_true (by first | (with_reducible assumption) | assumption)
                                              have hx42 := bt_at a0 (ji40)
                                              replace p42 := eq_true p42
                                              replace q42 := eq_true q42
                                              go_wp2
                                              go_roundg kj29
                                              case measure => have := HK1.out; have := HJ9.out; have := HJ21.out; have := HJ24.out; have := HJ29.out; omega
                                              case rel => exact ⟨(wrap64 (x7_1 + 1)), (by first | rfl | (simp; done) | (simp [*]; done)), H', ⟨by have := HK1.out; have := HJ9.out; have := HJ21.out; have := HJ24.out; have := HJ29.out; omega⟩, ⟨by (with_reducible repeat (first | apply Kd.R_alloc | apply Kd.R_drewN | apply Kd.R_drew)); exact Kd.R_mono HO_4.out (fun _ hk => trivial)⟩, ⟨by repeat (first | (with_reducible first | exact HB.out | apply below_alloc | apply pw_below_drewN | apply below_drew1 | refine below_set ?_ GE233.out) | exact HB.out)⟩⟩
                                    · rw [if_neg c41] at H
                                      exact absurd H (by simp)
                                  · rw [if_neg c39] at H
                                    have c39b0 : decide ((wrap64 (((rd_T32 t227 x7_1).f2) + (((rd_T32 t227 x7_1).f1).size : Int))) < (a0.size : Int)) = false := decide_eq_false c39
                                    clear c39
                                    as_aux_lemma =>
                                      have H' := Aside0.mk H
                                      clear H
                                      have hcz118_0 : wc.cell? ⟨gb233, 0, none⟩ = some (.int .i64 ((rd_T32 t227 x7_1).f0)) := (blk_cell BK233.out 0).trans rfl
                                      have hcz118_1 : wc.cell? ⟨gb233, 1, none⟩ = some (.string ((rd_T32 t227 x7_1).f1)) := (blk_cell BK233.out 1).trans rfl
                                      have hcz118_2 : wc.cell? ⟨gb233, 2, none⟩ = some (.int .i64 ((rd_T32 t227 x7_1).f2)) := (blk_cell BK233.out 2).trans rfl
                                      have hfz118_0 := blk_frozen BK233.out 0
                                      have hfz118_1 := blk_frozen BK233.out 1
                                      have hfz118_2 := blk_frozen BK233.out 2
                                      go_wp2
                                      go_roundg kj29
                                      case measure => have := HK1.out; have := HJ9.out; have := HJ21.out; have := HJ24.out; have := HJ29.out; omega
                                      case rel => exact ⟨(wrap64 (x7_1 + 1)), (by first | rfl | (simp; done) | (simp [*]; done)), H', ⟨by have := HK1.out; have := HJ9.out; have := HJ21.out; have := HJ24.out; have := HJ29.out; omega⟩, ⟨by (with_reducible repeat (first | apply Kd.R_alloc | apply Kd.R_drewN | apply Kd.R_drew)); exact Kd.R_mono HO_4.out (fun _ hk => trivial)⟩, ⟨by repeat (first | (with_reducible first | exact HB.out | apply below_alloc | apply pw_below_drewN | apply below_drew1 | refine below_set ?_ GE233.out) | exact HB.out)⟩⟩
                  · rw [if_neg c20] at H
                    exact absurd H (by simp)
          · rw [if_neg c9] at H
            exact absurd H (by simp)
        · rw [if_neg c8] at H
          have c8b0 : decide (x7_1 < (t227.length : Int)) = false := decide_eq_false c8
          clear c8
          as_aux_lemma =>
            obtain rfl := Option.some.inj H
            obtain ⟨Ao119, co119, eo119⟩ := Kd.R_slice HO_4.out
            subst eo119
            go_wp2
            go_ret
            exact ⟨by first | rfl | (simp [errW_none, errW_some] <;> rfl) | (simp [*, errW_none, errW_some] <;> rfl), by repeat (first | (with_reducible first | exact HB.out | apply below_alloc | apply pw_below_drewN | apply below_drew1) | exact HB.out)⟩

/-- THE ONE PURE STATEMENT of tammylaw06_LexKinds: yours. -/
def tammylaw06_LexKinds.Pure : Prop := ∀ (a0 : ByteArray), a0.size ≤ 140737488351232 → ∃ k, tammylaw06_LexKinds.f k a0 = some true
theorem tammylaw06_LexKinds.walk (P : tammylaw06_LexKinds.Pure) (a0 : ByteArray) (w : World) (w0 : a0.size ≤ 140737488351232) :
    Calls Tryd.prog 7 #[.string a0] w fun e w' => e = .returned (.bool true) ∧ Below w.heap.size w w' := by
  obtain ⟨k, h⟩ := P a0 w0
  refine (tammylaw06_LexKinds.calls k a0 true w h).mono ?_
  rintro e w' ⟨rfl, hd⟩
  exact ⟨rfl, hd⟩

end Go.Proofs.YtfjhnljidfdhjaaDoor.Q
