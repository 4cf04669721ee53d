import Derived.Test.YtniaooodlccmcaaGreatDoorDz
import Derived.Test.YtniaooodlccmcaaGreatDoorQx0
import Derived.Test.YtniaooodlccmcaaGreatDoorQx10
namespace Go.Proofs.YtniaooodlccmcaaGreatDoor.Q
open Go.RowKit Go.Proofs.YtniaooodlccmcaaGreatDoorW.PrintWords Go.Proofs.YtniaooodlccmcaaGreatDoorW.PrintLast Go.Proofs.YtniaooodlccmcaaGreatDoorW.PrintMore
attribute [local go_sem] max2_int min2_int max_two min_two max_three min_three max_four min_four
set_option linter.unusedVariables false
set_option linter.unusedSimpArgs false
mutual
def tammyref07_Kids.l0 : Nat → List (S38) → List Int → Int → List Int → Int → Int → Option (List Int)
 | 0, _, _, _, _, _, _ => none
 | k + 1, x0, x1, x2, x7, x8, x9 => if 0 ≤ x2 then (if x2 < (x0.length : Int) then ((tammyref07_Parts.f ((rd_T38 x0 x2).f0) ((rd_T38 x0 x2).f1) ((rd_T38 x0 x2).f2)).bind fun t187 => (if x9 < t187 then (if x7.length < 17592186044416 then (if 0 ≤ x8 then (if x8 < (x1.length : Int) then (tammyref07_Kids.l0 k x0 x1 x2 (x7 ++ [x8]) (wrap64 ((rd x1 x8) - 1)) (wrap64 (x9 + 1))) else (none)) else (none)) else (none)) else (tammyref07_Kids.l1 k x7 ([] : List Int) (wrap64 ((x7.length : Int) - 1))))) else (none)) else (none)
def tammyref07_Kids.l1 : Nat → List Int → List Int → Int → Option (List Int)
 | 0, _, _, _ => none
 | k + 1, x7, x10, x11 => if x11 ≥ 0 then (if 0 ≤ x11 then (if x11 < (x7.length : Int) then (if x10.length < 17592186044416 then (tammyref07_Kids.l1 k x7 (x10 ++ [rd x7 x11]) (wrap64 (x11 - 1))) else (none)) else (none)) else (none)) else (some x10)
end
def tammyref07_Kids.f (k : Nat) (l0 : List (S38)) (l1 : List Int) (a2 : Int) : Option (List Int) := tammyref07_Kids.l0 k l0 l1 a2 ([] : List Int) (wrap64 (a2 - 1)) 0
theorem tammyref07_Kids.mono_l : ∀ k, (∀ y0 y1 y2 y3 y4 y5, LeO (tammyref07_Kids.l0 k y0 y1 y2 y3 y4 y5) (tammyref07_Kids.l0 (k + 1) y0 y1 y2 y3 y4 y5)) ∧ (∀ y0 y1 y2, LeO (tammyref07_Kids.l1 k y0 y1 y2) (tammyref07_Kids.l1 (k + 1) y0 y1 y2))
 | 0 => ⟨fun _ _ _ _ _ _ r h => by simp [tammyref07_Kids.l0] at h, fun _ _ _ r h => by simp [tammyref07_Kids.l1] at h⟩
 | k + 1 => by
  obtain ⟨ih0, ih1⟩ := tammyref07_Kids.mono_l k
  refine ⟨?_, ?_⟩
  ·intro y0 y1 y2 y3 y4 y5
   unfold tammyref07_Kids.l0
   repeat' first
   | (with_reducible exact ih0 _ _ _ _ _ _)
   | (with_reducible exact ih1 _ _ _)
   | (with_reducible exact LeO.refl _)
   | (with_reducible exact LeO.none _)
   | (with_reducible refine LeO.ite ?_ ?_)
   | (with_reducible refine LeO.bind ?_ (fun _ => ?_))
   | exact ih0 _ _ _ _ _ _
   | exact ih1 _ _ _
   | exact LeO.none _
   | refine LeO.ite ?_ ?_
   | refine LeO.bind ?_ (fun _ => ?_)
  ·intro y0 y1 y2
   unfold tammyref07_Kids.l1
   repeat' first
   | (with_reducible exact ih0 _ _ _ _ _ _)
   | (with_reducible exact ih1 _ _ _)
   | (with_reducible exact LeO.refl _)
   | (with_reducible exact LeO.none _)
   | (with_reducible refine LeO.ite ?_ ?_)
   | (with_reducible refine LeO.bind ?_ (fun _ => ?_))
   | exact ih0 _ _ _ _ _ _
   | exact ih1 _ _ _
   | exact LeO.none _
   | refine LeO.ite ?_ ?_
   | refine LeO.bind ?_ (fun _ => ?_)
theorem tammyref07_Kids.mono : ∀ a0 a1 a2 k, LeO (tammyref07_Kids.f k a0 a1 a2) (tammyref07_Kids.f (k + 1) a0 a1 a2) := by
 intro a0 a1 a2 k
 obtain ⟨ih0, ih1⟩ := tammyref07_Kids.mono_l k
 unfold tammyref07_Kids.f
 repeat' first
   | (with_reducible exact ih0 _ _ _ _ _ _)
   | (with_reducible exact ih1 _ _ _)
   | (with_reducible exact LeO.refl _)
   | (with_reducible exact LeO.none _)
   | (with_reducible refine LeO.ite ?_ ?_)
   | (with_reducible refine LeO.bind ?_ (fun _ => ?_))
   | exact ih0 _ _ _ _ _ _
   | exact ih1 _ _ _
   | exact LeO.none _
   | refine LeO.ite ?_ ?_
   | refine LeO.bind ?_ (fun _ => ?_)
set_option maxHeartbeats 8000000 in
set_option maxRecDepth 100000 in
theorem tammyref07_Kids.calls (k : Nat) (A0 : Option Addr) (c0 : Nat) (l0 : List (S38)) (A1 : Option Addr) (c1 : Nat) (l1 : List Int) (a2 : Int) (r : List Int) (w : World) (hr0 : Kd.C k38 w A0 l0.length l0) (hc0 : l0.length ≤ c0) (hr1 : Kd.C (Kd.int .i64) w A1 l1.length l1) (hc1 : l1.length ≤ c1) (h : tammyref07_Kids.f k l0 l1 a2 = some r) :
  Calls Tryz.prog 29 #[.slice A0 l0.length c0, .slice A1 l1.length c1, .int .i64 a2] w fun e w' => ∃ v0_ : Value, e = .returned (v0_) ∧ Kd.R (Kd.int .i64) 3 w' w.heap.size (fun _ => True) v0_ r ∧ Below w.heap.size w w' := by
 have hu38 := Tryz.underlying38
 have HR0 := Aside0.mk hr0
 have HC0 := Aside0.mk hc0
 clear hr0 hc0
 have HR1 := Aside0.mk hr1
 have HC1 := Aside0.mk hc1
 clear hr1 hc1
 have HB := Aside0.mk (Below.refl w.heap.size w)
 have H : (tammyref07_Kids.l0 k l0 l1 a2 ([] : List Int) (wrap64 (a2 - 1)) 0) = some r := h
 clear h
 have H' := Aside0.mk H
 clear H
 go_enter Tryz.func29, Tryz.ntmps29
 go_wp2
 go_loopg [7, 8, 9] k (fun kq v7 v8 v9 w' => ∃ (x7_1 : List Int) (x8_1 : Int) (x9_1 : Int), v8 = .int .i64 x8_1 ∧ v9 = .int .i64 x9_1 ∧ Aside0 (tammyref07_Kids.l0 kq l0 l1 a2 x7_1 x8_1 x9_1 = some r) ∧ Aside0 (kq ≤ k) ∧ Aside0 (Kd.R (Kd.int .i64) 3 w' w.heap.size (fun _ => True) v7 x7_1) ∧ Aside0 (Below w.heap.size w w'))
 case atStart => exact ⟨(([] : List Int)), (wrap64 (a2 - 1)), (0), Zz6, Zz6, H', ⟨Nat.le_refl _⟩, ⟨by first | exact Kd.R_nil _ _ _ _ _ | exact Kd.N_nil _ _ _ _ _ | exact Kd.V_nil _ _ _ _ _ | exact Kd.Q_nil _ _ _ _ _ | exact Kd.S_nil _ _ _ _ _⟩, ⟨by repeat (first | (with_reducible first | exact HB.out | apply below_alloc | apply pw_below_drewN | apply below_drew1) | exact HB.out)⟩⟩
 case round =>
  clear H'
  try clear c1
  try clear c2
  try clear p2
  obtain ⟨x7_1, x8_1, x9_1, rfl, rfl, HA, HK1, HO_7, HB⟩ := hrel
  cases gk with
  | zero => exact absurd HA.out (by simp [tammyref07_Kids.l0])
  | succ k1 =>
   have H := HA.out
   clear HA
   simp only [tammyref07_Kids.l0] at H
   by_cases c4 : 0 ≤ a2
   ·rw [if_pos c4] at H
    have c4b0 := decide_eq_true c4
    clear c4
    by_cases c5 : a2 < (l0.length : Int)
    ·rw [if_pos c5] at H
     have c5b0 := decide_eq_true c5
     clear c5
     replace H := Option.bind_eq_some_iff.mp H
     obtain ⟨t187, A60, H⟩ := H
     replace H : (if x9_1 < t187 then (if x7_1.length < 17592186044416 then (if 0 ≤ x8_1 then (if x8_1 < (l1.length : Int) then (tammyref07_Kids.l0 k1 l0 l1 a2 (x7_1 ++ [x8_1]) (wrap64 ((rd l1 x8_1) - 1)) (wrap64 (x9_1 + 1))) else (none)) else (none)) else (none)) else (tammyref07_Kids.l1 k1 x7_1 ([] : List Int) (wrap64 ((x7_1.length : Int) - 1)))) = some r := H
     have A6 := Aside0.mk A60
     clear A60
     by_cases c7 : x9_1 < t187
     ·rw [if_pos c7] at H
      have c7b0 := decide_eq_true c7
      clear c7
      by_cases c8 : x7_1.length < 17592186044416
      ·rw [if_pos c8] at H
       have LMc8 := Aside0.mk c8
       clear c8
       obtain ⟨y188, hy188⟩ : ∃ y_ : List Int, y_ = (x7_1 ++ [x8_1]) := ⟨_, rfl⟩
       replace H : (if 0 ≤ x8_1 then (if x8_1 < (l1.length : Int) then (tammyref07_Kids.l0 k1 l0 l1 a2 y188 (wrap64 ((rd l1 x8_1) - 1)) (wrap64 (x9_1 + 1))) else (none)) else (none)) = some r := by first | (rw [hy188]; with_reducible exact H) | (have H2_ := (Option.bind_some _ _).symm.trans H; rw [hy188]; with_reducible exact H2_) | (have H2_ := (Option.bind_some _ _).symm.trans H; with_reducible exact H2_) | with_reducible exact H | (rw [hy188]; exact H) | exact H
       have Ny188 := Aside0.mk hy188
       clear hy188
       by_cases c9 : 0 ≤ x8_1
       ·rw [if_pos c9] at H
        have c9b0 := decide_eq_true c9
        clear c9
        by_cases c10 : x8_1 < (l1.length : Int)
        ·rw [if_pos c10] at H
         have c10b0 := decide_eq_true c10
         clear c10
         have H' := Aside0.mk H
         clear H
         have p186 : 0 ≤ (a2 : Int) := of_decide_eq_true Zz1
         have q186 : a2 < (l0.length : Int) := of_decide_eq_true Zz1
         obtain ⟨ad186, e186, hx186_0, hx186_1, hx186_2⟩ := at_T38 HR0.out a2 p186 q186
         cases e186
         replace hx186_0 := (HB.out.cell (World.block_lt_of_cell? w _ hx186_0)).trans hx186_0
         replace hx186_1 := (HB.out.cell (World.block_lt_of_cell? w _ hx186_1)).trans hx186_1
         replace hx186_2 := (HB.out.cell (World.block_lt_of_cell? w _ hx186_2)).trans hx186_2
         replace p186 := eq_true p186
         replace q186 := eq_true q186
         go_wp2_with (first | ((with_reducible refine gate_callee (f := 17) rfl ?_); refine goesL_ (some 19) rfl rfl Tryz.func17 (by kernel_rfl) rfl #[.agg #[.int .i64 ((rd_T38 l0 a2).f0), .string ((rd_T38 l0 a2).f1), .int .i64 ((rd_T38 l0 a2).f2)]] rfl Zz2 ?_; (with_reducible refine (tammyref07_Parts.calls ((rd_T38 l0 a2).f0) ((rd_T38 l0 a2).f1) ((rd_T38 l0 a2).f2) t187 _ A6.out).mono ?_); rintro e w11 ⟨rfl, hb⟩; refine ⟨_, rfl, ?_⟩; have n0_ := Aside0.mk (Kd.R_below (Zz31 HO_7.out) hb); have n1_ := Aside0.mk (below_step Zz0 hb); clear HO_7; clear HB; have HO_7 := n0_; have HB := n1_; clear n0_ n1_; (try clear hb); (try clear hb2); (try clear hk); (try clear hi)) | ((with_reducible refine gate_builtin (b := .append) (xs := #[.tmp 23, .tmp 25]) rfl ?_); at_builtin; refine Kd.R_append (Kd.int .i64) (w0 := w) w.heap.size rfl (.tmp 23) (.tmp 25) 25 3 (.int .i64 0) 8 rfl Tryz.underlying25 info3 rfl (by decide) (by omega) u7 x7_1 x8_1 [.int .i64 x8_1] (fun _ => True) (fun _ => False) rfl rfl ?aP (fun _ hk => hk.elim) ?aF ?aO ?aB ?aS ?aL ?_; (case aP => exact rfl); (case aB => exact Zz0); (case aF => exact (fun _ _ => trivial)); (case aO => exact (Zz31 HO_7.out)); (case aS => exact (below_size Zz0)); (case aL => have := LMc8.out; omega); intro v189 w12 ho hb hg hat; rw [← Ny188.out] at ho; have n0_ := Aside0.mk (hb); have n1_ := Aside0.mk (ho); clear HB; clear HO_7; have HB := n0_; have HO190 := n1_; clear n0_ n1_; clear ho hb hg hat; have p191 : 0 ≤ (x8_1 : Int) := of_decide_eq_true Zz1; have q191 : x8_1 < (l1.length : Int) := of_decide_eq_true Zz1; obtain ⟨ad191, e191, hx191_0⟩ := Kd.at_int HR1.out x8_1 p191 q191; cases e191; replace hx191_0 := (HB.out.cell (World.block_lt_of_cell? w _ hx191_0)).trans hx191_0; replace p191 := eq_true p191; replace q191 := eq_true q191))
         go_roundg k1
         case measure => have := HK1.out; omega
         case rel => exact ⟨(y188), (wrap64 ((rd l1 x8_1) - 1)), (wrap64 (x9_1 + 1)), Zz6, Zz6, H', ⟨by have := HK1.out; omega⟩, ⟨by (with_reducible repeat (first | apply Kd.R_alloc | apply Kd.R_drewN | apply Kd.R_drew)); exact HO190.out⟩, ⟨by repeat (first | (with_reducible first | exact HB.out | apply below_alloc | apply pw_below_drewN | apply below_drew1) | exact HB.out)⟩⟩
        ·rw [if_neg c10] at H
         exact absurd H (by simp)
       ·rw [if_neg c9] at H
        exact absurd H (by simp)
      ·rw [if_neg c8] at H
       exact absurd H (by simp)
     ·rw [if_neg c7] at H
      have c7b0 := decide_eq_false c7
      clear c7
      have H' := Aside0.mk H
      clear H
      have p186 : 0 ≤ (a2 : Int) := of_decide_eq_true Zz1
      have q186 : a2 < (l0.length : Int) := of_decide_eq_true Zz1
      obtain ⟨ad186, e186, hx186_0, hx186_1, hx186_2⟩ := at_T38 HR0.out a2 p186 q186
      cases e186
      replace hx186_0 := (HB.out.cell (World.block_lt_of_cell? w _ hx186_0)).trans hx186_0
      replace hx186_1 := (HB.out.cell (World.block_lt_of_cell? w _ hx186_1)).trans hx186_1
      replace hx186_2 := (HB.out.cell (World.block_lt_of_cell? w _ hx186_2)).trans hx186_2
      replace p186 := eq_true p186
      replace q186 := eq_true q186
      go_wp2_with (first | ((with_reducible refine gate_callee (f := 17) rfl ?_); refine goesL_ (some 19) rfl rfl Tryz.func17 (by kernel_rfl) rfl #[.agg #[.int .i64 ((rd_T38 l0 a2).f0), .string ((rd_T38 l0 a2).f1), .int .i64 ((rd_T38 l0 a2).f2)]] rfl Zz2 ?_; (with_reducible refine (tammyref07_Parts.calls ((rd_T38 l0 a2).f0) ((rd_T38 l0 a2).f1) ((rd_T38 l0 a2).f2) t187 _ A6.out).mono ?_); rintro e w13 ⟨rfl, hb⟩; refine ⟨_, rfl, ?_⟩; have n0_ := Aside0.mk (Kd.R_below (Zz31 HO_7.out) hb); have n1_ := Aside0.mk (below_step Zz0 hb); clear HO_7; clear HB; have HO_7 := n0_; have HB := n1_; clear n0_ n1_; (try clear hb); (try clear hb2); (try clear hk); (try clear hi); obtain ⟨Ao14, co14, eo14⟩ := Kd.R_slice HO_7.out; subst eo14))
      go_loopg [10, 11] k1 (fun kq v10 v11 w' => ∃ (x10_2 : List Int) (x11_2 : Int), v11 = .int .i64 x11_2 ∧ Aside0 (tammyref07_Kids.l1 kq x7_1 x10_2 x11_2 = some r) ∧ Aside0 (kq ≤ k1) ∧ Aside0 (Kd.R (Kd.int .i64) 3 w' w.heap.size (fun k_ => some k_ ≠ (v10 : Value).ownBlock) (.slice Ao14 x7_1.length co14) x7_1) ∧ Aside0 (Kd.R (Kd.int .i64) 3 w' w.heap.size (fun k_ => some k_ ≠ ((.slice Ao14 x7_1.length co14) : Value).ownBlock) v10 x10_2) ∧ Aside0 (Below w.heap.size w w'))
      case atStart => exact ⟨(([] : List Int)), (wrap64 ((x7_1.length : Int) - 1)), Zz6, H', ⟨Nat.le_refl _⟩, ⟨by (with_reducible repeat (first | apply Kd.R_alloc | apply Kd.R_drewN | apply Kd.R_drew)); exact Kd.R_mono HO_7.out (fun _ hk => (by simp [Value.ownBlock]))⟩, ⟨by first | exact Kd.R_nil _ _ _ _ _ | exact Kd.N_nil _ _ _ _ _ | exact Kd.V_nil _ _ _ _ _ | exact Kd.Q_nil _ _ _ _ _ | exact Kd.S_nil _ _ _ _ _⟩, ⟨by repeat (first | (with_reducible first | exact HB.out | apply below_alloc | apply pw_below_drewN | apply below_drew1) | exact HB.out)⟩⟩
      case round =>
       clear H'
       try clear c1
       try clear p1
       try clear q1
       try clear hx1
       try clear c2
       try clear p2
       try clear c4
       try clear c4b0
       try clear c5
       try clear c5b0
       try clear p6
       try clear c7
       try clear c7b0
       try clear c8
       try clear c9
       try clear c9b0
       try clear c10
       try clear c10b0
       try clear hx186_0
       try clear hx186_1
       try clear hx186_2
       try clear hx191_0
       try clear p186
       try clear p191
       try clear p2
       try clear q186
       try clear q191
       obtain ⟨x10_2, x11_2, rfl, HA, HK2, HO_7, HO_10, HB⟩ := hrel
       cases gk with
       | zero => exact absurd HA.out (by simp [tammyref07_Kids.l1])
       | succ k2 =>
        have H := HA.out
        clear HA
        simp only [tammyref07_Kids.l1] at H
        by_cases c15 : x11_2 ≥ 0
        ·rw [if_pos c15] at H
         have c15b0 : decide (0 ≤ x11_2) = true := decide_eq_true c15
         clear c15
         by_cases c16 : 0 ≤ x11_2
         ·rw [if_pos c16] at H
          have c16b0 := decide_eq_true c16
          clear c16
          by_cases c17 : x11_2 < (x7_1.length : Int)
          ·rw [if_pos c17] at H
           have c17b0 := decide_eq_true c17
           clear c17
           by_cases c18 : x10_2.length < 17592186044416
           ·rw [if_pos c18] at H
            have LMc18 := Aside0.mk c18
            clear c18
            obtain ⟨y193, hy193⟩ : ∃ y_ : List Int, y_ = (x10_2 ++ [rd x7_1 x11_2]) := ⟨_, rfl⟩
            replace H : (tammyref07_Kids.l1 k2 x7_1 y193 (wrap64 (x11_2 - 1))) = some r := by first | (rw [hy193]; with_reducible exact H) | (have H2_ := (Option.bind_some _ _).symm.trans H; rw [hy193]; with_reducible exact H2_) | (have H2_ := (Option.bind_some _ _).symm.trans H; with_reducible exact H2_) | with_reducible exact H | (rw [hy193]; exact H) | exact H
            have Ny193 := Aside0.mk hy193
            clear hy193
            have H' := Aside0.mk H
            clear H
            have p192 : 0 ≤ (x11_2 : Int) := of_decide_eq_true Zz1
            have q192 : x11_2 < (x7_1.length : Int) := of_decide_eq_true Zz1
            obtain ⟨ad192, e192, hx192_0⟩ := Kd.at_int (Kd.R_reads' HO_7.out).2.2 x11_2 p192 q192
            cases e192
            replace p192 := eq_true p192
            replace q192 := eq_true q192
            go_wp2_with (first | ((with_reducible refine gate_builtin (b := .append) (xs := #[.tmp 39, .tmp 44]) rfl ?_); at_builtin; refine Kd.R_append (Kd.int .i64) (w0 := w) w.heap.size rfl (.tmp 39) (.tmp 44) 25 3 (.int .i64 0) 8 rfl Tryz.underlying25 info3 rfl (by decide) (by omega) u10 x10_2 (rd x7_1 x11_2) [.int .i64 (rd x7_1 x11_2)] (fun k_ => some k_ ≠ (.slice (some ad192) x7_1.length co14 : Value).ownBlock) (fun _ => False) rfl rfl ?aP (fun _ hk => hk.elim) ?aF ?aO ?aB ?aS ?aL ?_; (case aP => exact rfl); (case aB => exact Zz0); (case aF => exact (fun k_ hk => Kd.fresh' (Kd.R_lt (Zz31 HO_7.out)) k_ hk)); (case aO => exact (Zz31 HO_10.out)); (case aS => exact (below_size Zz0)); (case aL => have := LMc18.out; omega); intro v194 w19 ho hb hg hat; rw [← Ny193.out] at ho; have n0_ := Aside0.mk (Kd.R_after (ok := (fun _ => True)) (by (with_reducible repeat (first | apply Kd.R_alloc | apply Kd.R_drewN | apply Kd.R_drew)); exact Kd.R_mono HO_7.out (fun _ hk => ⟨trivial, hk⟩)) hg hat); have n1_ := Aside0.mk (hb); have n2_ := Aside0.mk (ho); clear HO_7; clear HB; clear HO_10; have HO_7 := n0_; have HB := n1_; have HO195 := n2_; clear n0_ n1_ n2_; clear ho hb hg hat))
            go_roundg k2
            case measure => have := HK1.out; have := HK2.out; omega
            case rel => exact ⟨(y193), (wrap64 (x11_2 - 1)), Zz6, H', ⟨by have := HK1.out; have := HK2.out; omega⟩, ⟨by (with_reducible repeat (first | apply Kd.R_alloc | apply Kd.R_drewN | apply Kd.R_drew)); exact Kd.R_mono HO_7.out (fun _ hk => hk.2)⟩, ⟨by (with_reducible repeat (first | apply Kd.R_alloc | apply Kd.R_drewN | apply Kd.R_drew)); exact HO195.out⟩, ⟨by repeat (first | (with_reducible first | exact HB.out | apply below_alloc | apply pw_below_drewN | apply below_drew1) | exact HB.out)⟩⟩
           ·rw [if_neg c18] at H
            exact absurd H (by simp)
          ·rw [if_neg c17] at H
           exact absurd H (by simp)
         ·rw [if_neg c16] at H
          exact absurd H (by simp)
        ·rw [if_neg c15] at H
         have c15b0 : decide (0 ≤ x11_2) = false := decide_eq_false c15
         clear c15
         obtain rfl := Option.some.inj H
         go_wp2
         go_ret
         exact ⟨_, by first | rfl | (simp [errW_none, errW_some] <;> rfl) | (simp [*, errW_none, errW_some] <;> rfl), by (with_reducible repeat (first | apply Kd.R_alloc | apply Kd.R_drewN | apply Kd.R_drew)); exact Kd.R_mono HO_10.out (fun _ hk => trivial), by repeat (first | (with_reducible first | exact HB.out | apply below_alloc | apply pw_below_drewN | apply below_drew1) | exact HB.out)⟩
    ·rw [if_neg c5] at H
     exact absurd H (by simp)
   ·rw [if_neg c4] at H
    exact absurd H (by simp)
def tammyref07_side.f (l0 : List (S38)) (l1 : List ByteArray) (a2 : Int) (a3 : Int) (a4 : Bool) : Option (ByteArray) := if 0 ≤ a2 then (if a2 < (l0.length : Int) then (if ((rd_T38 l0 a2).f0) = 4 then (if a4 = true then (if ((rd_T38 l0 a2).f0) = a3 then (if a2 < (l1.length : Int) then (some (rdOf ByteArray.empty l1 a2)) else (none)) else (if a2 < (l1.length : Int) then (if 1 + (rdOf ByteArray.empty l1 a2).size ≤ 9223372036854775807 then (if ((⟨#[40]⟩ : ByteArray) ++ (rdOf ByteArray.empty l1 a2)).size + 1 ≤ 9223372036854775807 then (some (((⟨#[40]⟩ : ByteArray) ++ (rdOf ByteArray.empty l1 a2)) ++ (⟨#[41]⟩ : ByteArray))) else (none)) else (none)) else (none))) else (if a2 < (l1.length : Int) then (if 1 + (rdOf ByteArray.empty l1 a2).size ≤ 9223372036854775807 then (if ((⟨#[40]⟩ : ByteArray) ++ (rdOf ByteArray.empty l1 a2)).size + 1 ≤ 9223372036854775807 then (some (((⟨#[40]⟩ : ByteArray) ++ (rdOf ByteArray.empty l1 a2)) ++ (⟨#[41]⟩ : ByteArray))) else (none)) else (none)) else (none))) else (if ((rd_T38 l0 a2).f0) = 5 then (if a4 = true then (if ((rd_T38 l0 a2).f0) = a3 then (if a2 < (l1.length : Int) then (some (rdOf ByteArray.empty l1 a2)) else (none)) else (if a2 < (l1.length : Int) then (if 1 + (rdOf ByteArray.empty l1 a2).size ≤ 9223372036854775807 then (if ((⟨#[40]⟩ : ByteArray) ++ (rdOf ByteArray.empty l1 a2)).size + 1 ≤ 9223372036854775807 then (some (((⟨#[40]⟩ : ByteArray) ++ (rdOf ByteArray.empty l1 a2)) ++ (⟨#[41]⟩ : ByteArray))) else (none)) else (none)) else (none))) else (if a2 < (l1.length : Int) then (if 1 + (rdOf ByteArray.empty l1 a2).size ≤ 9223372036854775807 then (if ((⟨#[40]⟩ : ByteArray) ++ (rdOf ByteArray.empty l1 a2)).size + 1 ≤ 9223372036854775807 then (some (((⟨#[40]⟩ : ByteArray) ++ (rdOf ByteArray.empty l1 a2)) ++ (⟨#[41]⟩ : ByteArray))) else (none)) else (none)) else (none))) else (if a2 < (l1.length : Int) then (some (rdOf ByteArray.empty l1 a2)) else (none)))) else (none)) else (none)
set_option maxHeartbeats 8000000 in
set_option maxRecDepth 100000 in
theorem tammyref07_side.calls (A0 : Option Addr) (c0 : Nat) (l0 : List (S38)) (A1 : Option Addr) (c1 : Nat) (l1 : List ByteArray) (a2 : Int) (a3 : Int) (a4 : Bool) (r : ByteArray) (w : World) (hr0 : Kd.C k38 w A0 l0.length l0) (hc0 : l0.length ≤ c0) (hr1 : Kd.C Kd.string w A1 l1.length l1) (hc1 : l1.length ≤ c1) (h : tammyref07_side.f l0 l1 a2 a3 a4 = some r) :
  Calls Tryz.prog 30 #[.slice A0 l0.length c0, .slice A1 l1.length c1, .int .i64 a2, .int .i64 a3, .bool a4] w fun e w' => e = .returned (.string r) ∧ Drawn0 w w' := by
 have HR0 := Aside0.mk hr0
 have HC0 := Aside0.mk hc0
 clear hr0 hc0
 have HR1 := Aside0.mk hr1
 have HC1 := Aside0.mk hc1
 clear hr1 hc1
 have H : (if 0 ≤ a2 then (if a2 < (l0.length : Int) then (if ((rd_T38 l0 a2).f0) = 4 then (if a4 = true then (if ((rd_T38 l0 a2).f0) = a3 then (if a2 < (l1.length : Int) then (some (rdOf ByteArray.empty l1 a2)) else (none)) else (if a2 < (l1.length : Int) then (if 1 + (rdOf ByteArray.empty l1 a2).size ≤ 9223372036854775807 then (if ((⟨#[40]⟩ : ByteArray) ++ (rdOf ByteArray.empty l1 a2)).size + 1 ≤ 9223372036854775807 then (some (((⟨#[40]⟩ : ByteArray) ++ (rdOf ByteArray.empty l1 a2)) ++ (⟨#[41]⟩ : ByteArray))) else (none)) else (none)) else (none))) else (if a2 < (l1.length : Int) then (if 1 + (rdOf ByteArray.empty l1 a2).size ≤ 9223372036854775807 then (if ((⟨#[40]⟩ : ByteArray) ++ (rdOf ByteArray.empty l1 a2)).size + 1 ≤ 9223372036854775807 then (some (((⟨#[40]⟩ : ByteArray) ++ (rdOf ByteArray.empty l1 a2)) ++ (⟨#[41]⟩ : ByteArray))) else (none)) else (none)) else (none))) else (if ((rd_T38 l0 a2).f0) = 5 then (if a4 = true then (if ((rd_T38 l0 a2).f0) = a3 then (if a2 < (l1.length : Int) then (some (rdOf ByteArray.empty l1 a2)) else (none)) else (if a2 < (l1.length : Int) then (if 1 + (rdOf ByteArray.empty l1 a2).size ≤ 9223372036854775807 then (if ((⟨#[40]⟩ : ByteArray) ++ (rdOf ByteArray.empty l1 a2)).size + 1 ≤ 9223372036854775807 then (some (((⟨#[40]⟩ : ByteArray) ++ (rdOf ByteArray.empty l1 a2)) ++ (⟨#[41]⟩ : ByteArray))) else (none)) else (none)) else (none))) else (if a2 < (l1.length : Int) then (if 1 + (rdOf ByteArray.empty l1 a2).size ≤ 9223372036854775807 then (if ((⟨#[40]⟩ : ByteArray) ++ (rdOf ByteArray.empty l1 a2)).size + 1 ≤ 9223372036854775807 then (some (((⟨#[40]⟩ : ByteArray) ++ (rdOf ByteArray.empty l1 a2)) ++ (⟨#[41]⟩ : ByteArray))) else (none)) else (none)) else (none))) else (if a2 < (l1.length : Int) then (some (rdOf ByteArray.empty l1 a2)) else (none)))) else (none)) else (none)) = some r := h
 clear h
 by_cases c6 : 0 ≤ a2
 ·rw [if_pos c6] at H
  have c6b0 := decide_eq_true c6
  clear c6
  by_cases c7 : a2 < (l0.length : Int)
  ·rw [if_pos c7] at H
   have c7b0 := decide_eq_true c7
   clear c7
   by_cases c8 : ((rd_T38 l0 a2).f0) = 4
   ·rw [if_pos c8] at H
    have c8b0 := beq_iff_eq.mpr c8
    have c8b1 := bne_eq_false_iff_eq.mpr c8
    clear c8
    by_cases c9 : a4 = true
    ·subst c9
     have H1 : (if ((rd_T38 l0 a2).f0) = a3 then (if a2 < (l1.length : Int) then (some (rdOf ByteArray.empty l1 a2)) else (none)) else (if a2 < (l1.length : Int) then (if 1 + (rdOf ByteArray.empty l1 a2).size ≤ 9223372036854775807 then (if ((⟨#[40]⟩ : ByteArray) ++ (rdOf ByteArray.empty l1 a2)).size + 1 ≤ 9223372036854775807 then (some (((⟨#[40]⟩ : ByteArray) ++ (rdOf ByteArray.empty l1 a2)) ++ (⟨#[41]⟩ : ByteArray))) else (none)) else (none)) else (none))) = some r := by rw [if_pos rfl] at H; exact H
     clear H
     have H := H1
     clear H1
     by_cases c10 : ((rd_T38 l0 a2).f0) = a3
     ·rw [if_pos c10] at H
      have c10b0 := beq_iff_eq.mpr c10
      have c10b1 := bne_eq_false_iff_eq.mpr c10
      clear c10
      by_cases c11 : a2 < (l1.length : Int)
      ·rw [if_pos c11] at H
       have c11b0 := decide_eq_true c11
       clear c11
       obtain rfl := Option.some.inj H
       have p196 : 0 ≤ (a2 : Int) := of_decide_eq_true Zz1
       have q196 : a2 < (l0.length : Int) := of_decide_eq_true Zz1
       obtain ⟨ad196, e196, hx196_0, hx196_1, hx196_2⟩ := at_T38 HR0.out a2 p196 q196
       cases e196
       replace p196 := eq_true p196
       replace q196 := eq_true q196
       have p197 : 0 ≤ (a2 : Int) := of_decide_eq_true Zz1
       have q197 : a2 < (l0.length : Int) := of_decide_eq_true Zz1
       obtain ⟨ad197, e197, hx197_0, hx197_1, hx197_2⟩ := at_T38 HR0.out a2 p197 q197
       obtain rfl : ad196 = ad197 := (by injection e197)
       replace p197 := eq_true p197
       replace q197 := eq_true q197
       have p198 : 0 ≤ (a2 : Int) := of_decide_eq_true Zz1
       have q198 : a2 < (l1.length : Int) := of_decide_eq_true Zz1
       obtain ⟨ad198, e198, hx198_0⟩ := Kd.at_string HR1.out a2 p198 q198
       cases e198
       replace p198 := eq_true p198
       replace q198 := eq_true q198
       go_enter Tryz.func30, Tryz.ntmps30
       go_wp2
       go_ret
       exact ⟨by first | rfl | (simp; done) | (simp [*]; done), by repeat (first | exact Drawn0.refl _ | apply Drawn0.step)⟩
      ·rw [if_neg c11] at H
       exact absurd H (by simp)
     ·rw [if_neg c10] at H
      have c10b0 := beq_eq_false_iff_ne.mpr c10
      have c10b1 := bne_iff_ne.mpr c10
      by_cases c12 : a2 < (l1.length : Int)
      ·rw [if_pos c12] at H
       have c12b0 := decide_eq_true c12
       clear c12
       by_cases c13 : 1 + (rdOf ByteArray.empty l1 a2).size ≤ 9223372036854775807
       ·rw [if_pos c13] at H
        have c13b0 := eq_true c13
        have c13b1 := decide_eq_true c13
        try have c13b2 : (9223372036854775807 < 1 + (rdOf ByteArray.empty l1 a2).size) = False := eq_false (Nat.not_lt.2 c13)
        by_cases c14 : ((⟨#[40]⟩ : ByteArray) ++ (rdOf ByteArray.empty l1 a2)).size + 1 ≤ 9223372036854775807
        ·rw [if_pos c14] at H
         have c14b0 := eq_true c14
         have c14b1 := decide_eq_true c14
         try have c14b2 : (9223372036854775807 < ((⟨#[40]⟩ : ByteArray) ++ (rdOf ByteArray.empty l1 a2)).size + 1) = False := eq_false (Nat.not_lt.2 c14)
         try (have c14b3 := c14b2; simp only [ByteArray.size_append, show (⟨#[40]⟩ : ByteArray).size = 1 from rfl, show (⟨#[41]⟩ : ByteArray).size = 1 from rfl, show (⟨#[44]⟩ : ByteArray).size = 1 from rfl, show (⟨#[124]⟩ : ByteArray).size = 1 from rfl, show (⟨#[38]⟩ : ByteArray).size = 1 from rfl, show (⟨#[126]⟩ : ByteArray).size = 1 from rfl] at c14b3)
         obtain rfl := Option.some.inj H
         have p196 : 0 ≤ (a2 : Int) := of_decide_eq_true Zz1
         have q196 : a2 < (l0.length : Int) := of_decide_eq_true Zz1
         obtain ⟨ad196, e196, hx196_0, hx196_1, hx196_2⟩ := at_T38 HR0.out a2 p196 q196
         cases e196
         replace p196 := eq_true p196
         replace q196 := eq_true q196
         have p197 : 0 ≤ (a2 : Int) := of_decide_eq_true Zz1
         have q197 : a2 < (l0.length : Int) := of_decide_eq_true Zz1
         obtain ⟨ad197, e197, hx197_0, hx197_1, hx197_2⟩ := at_T38 HR0.out a2 p197 q197
         obtain rfl : ad196 = ad197 := (by injection e197)
         replace p197 := eq_true p197
         replace q197 := eq_true q197
         have p199 : 0 ≤ (a2 : Int) := of_decide_eq_true Zz1
         have q199 : a2 < (l1.length : Int) := of_decide_eq_true Zz1
         obtain ⟨ad199, e199, hx199_0⟩ := Kd.at_string HR1.out a2 p199 q199
         cases e199
         replace p199 := eq_true p199
         replace q199 := eq_true q199
         go_enter Tryz.func30, Tryz.ntmps30
         go_wp2
         go_ret
         exact ⟨by first | rfl | (simp; done) | (simp [*]; done), by repeat (first | exact Drawn0.refl _ | apply Drawn0.step)⟩
        ·rw [if_neg c14] at H
         exact absurd H (by simp)
       ·rw [if_neg c13] at H
        exact absurd H (by simp)
      ·rw [if_neg c12] at H
       exact absurd H (by simp)
    ·replace c9 := Bool.eq_false_iff.mpr c9
     subst c9
     have H1 : (if a2 < (l1.length : Int) then (if 1 + (rdOf ByteArray.empty l1 a2).size ≤ 9223372036854775807 then (if ((⟨#[40]⟩ : ByteArray) ++ (rdOf ByteArray.empty l1 a2)).size + 1 ≤ 9223372036854775807 then (some (((⟨#[40]⟩ : ByteArray) ++ (rdOf ByteArray.empty l1 a2)) ++ (⟨#[41]⟩ : ByteArray))) else (none)) else (none)) else (none)) = some r := by rw [if_neg (show ¬ (false = true) by decide)] at H; exact H
     clear H
     have H := H1
     clear H1
     by_cases c15 : a2 < (l1.length : Int)
     ·rw [if_pos c15] at H
      have c15b0 := decide_eq_true c15
      clear c15
      by_cases c16 : 1 + (rdOf ByteArray.empty l1 a2).size ≤ 9223372036854775807
      ·rw [if_pos c16] at H
       have c16b0 := eq_true c16
       have c16b1 := decide_eq_true c16
       try have c16b2 : (9223372036854775807 < 1 + (rdOf ByteArray.empty l1 a2).size) = False := eq_false (Nat.not_lt.2 c16)
       by_cases c17 : ((⟨#[40]⟩ : ByteArray) ++ (rdOf ByteArray.empty l1 a2)).size + 1 ≤ 9223372036854775807
       ·rw [if_pos c17] at H
        have c17b0 := eq_true c17
        have c17b1 := decide_eq_true c17
        try have c17b2 : (9223372036854775807 < ((⟨#[40]⟩ : ByteArray) ++ (rdOf ByteArray.empty l1 a2)).size + 1) = False := eq_false (Nat.not_lt.2 c17)
        try (have c17b3 := c17b2; simp only [ByteArray.size_append, show (⟨#[40]⟩ : ByteArray).size = 1 from rfl, show (⟨#[41]⟩ : ByteArray).size = 1 from rfl, show (⟨#[44]⟩ : ByteArray).size = 1 from rfl, show (⟨#[124]⟩ : ByteArray).size = 1 from rfl, show (⟨#[38]⟩ : ByteArray).size = 1 from rfl, show (⟨#[126]⟩ : ByteArray).size = 1 from rfl] at c17b3)
        obtain rfl := Option.some.inj H
        have p196 : 0 ≤ (a2 : Int) := of_decide_eq_true Zz1
        have q196 : a2 < (l0.length : Int) := of_decide_eq_true Zz1
        obtain ⟨ad196, e196, hx196_0, hx196_1, hx196_2⟩ := at_T38 HR0.out a2 p196 q196
        cases e196
        replace p196 := eq_true p196
        replace q196 := eq_true q196
        have p200 : 0 ≤ (a2 : Int) := of_decide_eq_true Zz1
        have q200 : a2 < (l1.length : Int) := of_decide_eq_true Zz1
        obtain ⟨ad200, e200, hx200_0⟩ := Kd.at_string HR1.out a2 p200 q200
        cases e200
        replace p200 := eq_true p200
        replace q200 := eq_true q200
        go_enter Tryz.func30, Tryz.ntmps30
        go_wp2
        go_ret
        exact ⟨by first | rfl | (simp; done) | (simp [*]; done), by repeat (first | exact Drawn0.refl _ | apply Drawn0.step)⟩
       ·rw [if_neg c17] at H
        exact absurd H (by simp)
      ·rw [if_neg c16] at H
       exact absurd H (by simp)
     ·rw [if_neg c15] at H
      exact absurd H (by simp)
   ·rw [if_neg c8] at H
    have c8b0 := beq_eq_false_iff_ne.mpr c8
    have c8b1 := bne_iff_ne.mpr c8
    by_cases c18 : ((rd_T38 l0 a2).f0) = 5
    ·rw [if_pos c18] at H
     have c18b0 := beq_iff_eq.mpr c18
     have c18b1 := bne_eq_false_iff_eq.mpr c18
     clear c18
     by_cases c19 : a4 = true
     ·subst c19
      have H1 : (if ((rd_T38 l0 a2).f0) = a3 then (if a2 < (l1.length : Int) then (some (rdOf ByteArray.empty l1 a2)) else (none)) else (if a2 < (l1.length : Int) then (if 1 + (rdOf ByteArray.empty l1 a2).size ≤ 9223372036854775807 then (if ((⟨#[40]⟩ : ByteArray) ++ (rdOf ByteArray.empty l1 a2)).size + 1 ≤ 9223372036854775807 then (some (((⟨#[40]⟩ : ByteArray) ++ (rdOf ByteArray.empty l1 a2)) ++ (⟨#[41]⟩ : ByteArray))) else (none)) else (none)) else (none))) = some r := by rw [if_pos rfl] at H; exact H
      clear H
      have H := H1
      clear H1
      by_cases c20 : ((rd_T38 l0 a2).f0) = a3
      ·rw [if_pos c20] at H
       have c20b0 := beq_iff_eq.mpr c20
       have c20b1 := bne_eq_false_iff_eq.mpr c20
       clear c20
       by_cases c21 : a2 < (l1.length : Int)
       ·rw [if_pos c21] at H
        have c21b0 := decide_eq_true c21
        clear c21
        obtain rfl := Option.some.inj H
        have p196 : 0 ≤ (a2 : Int) := of_decide_eq_true Zz1
        have q196 : a2 < (l0.length : Int) := of_decide_eq_true Zz1
        obtain ⟨ad196, e196, hx196_0, hx196_1, hx196_2⟩ := at_T38 HR0.out a2 p196 q196
        cases e196
        replace p196 := eq_true p196
        replace q196 := eq_true q196
        have p201 : 0 ≤ (a2 : Int) := of_decide_eq_true Zz1
        have q201 : a2 < (l0.length : Int) := of_decide_eq_true Zz1
        obtain ⟨ad201, e201, hx201_0, hx201_1, hx201_2⟩ := at_T38 HR0.out a2 p201 q201
        obtain rfl : ad196 = ad201 := (by injection e201)
        replace p201 := eq_true p201
        replace q201 := eq_true q201
        have p202 : 0 ≤ (a2 : Int) := of_decide_eq_true Zz1
        have q202 : a2 < (l0.length : Int) := of_decide_eq_true Zz1
        obtain ⟨ad202, e202, hx202_0, hx202_1, hx202_2⟩ := at_T38 HR0.out a2 p202 q202
        obtain rfl : ad196 = ad202 := (by injection e202)
        replace p202 := eq_true p202
        replace q202 := eq_true q202
        have p203 : 0 ≤ (a2 : Int) := of_decide_eq_true Zz1
        have q203 : a2 < (l1.length : Int) := of_decide_eq_true Zz1
        obtain ⟨ad203, e203, hx203_0⟩ := Kd.at_string HR1.out a2 p203 q203
        cases e203
        replace p203 := eq_true p203
        replace q203 := eq_true q203
        go_enter Tryz.func30, Tryz.ntmps30
        go_wp2
        go_ret
        exact ⟨by first | rfl | (simp; done) | (simp [*]; done), by repeat (first | exact Drawn0.refl _ | apply Drawn0.step)⟩
       ·rw [if_neg c21] at H
        exact absurd H (by simp)
      ·rw [if_neg c20] at H
       have c20b0 := beq_eq_false_iff_ne.mpr c20
       have c20b1 := bne_iff_ne.mpr c20
       by_cases c22 : a2 < (l1.length : Int)
       ·rw [if_pos c22] at H
        have c22b0 := decide_eq_true c22
        clear c22
        by_cases c23 : 1 + (rdOf ByteArray.empty l1 a2).size ≤ 9223372036854775807
        ·rw [if_pos c23] at H
         have c23b0 := eq_true c23
         have c23b1 := decide_eq_true c23
         try have c23b2 : (9223372036854775807 < 1 + (rdOf ByteArray.empty l1 a2).size) = False := eq_false (Nat.not_lt.2 c23)
         by_cases c24 : ((⟨#[40]⟩ : ByteArray) ++ (rdOf ByteArray.empty l1 a2)).size + 1 ≤ 9223372036854775807
         ·rw [if_pos c24] at H
          have c24b0 := eq_true c24
          have c24b1 := decide_eq_true c24
          try have c24b2 : (9223372036854775807 < ((⟨#[40]⟩ : ByteArray) ++ (rdOf ByteArray.empty l1 a2)).size + 1) = False := eq_false (Nat.not_lt.2 c24)
          try (have c24b3 := c24b2; simp only [ByteArray.size_append, show (⟨#[40]⟩ : ByteArray).size = 1 from rfl, show (⟨#[41]⟩ : ByteArray).size = 1 from rfl, show (⟨#[44]⟩ : ByteArray).size = 1 from rfl, show (⟨#[124]⟩ : ByteArray).size = 1 from rfl, show (⟨#[38]⟩ : ByteArray).size = 1 from rfl, show (⟨#[126]⟩ : ByteArray).size = 1 from rfl] at c24b3)
          obtain rfl := Option.some.inj H
          have p196 : 0 ≤ (a2 : Int) := of_decide_eq_true Zz1
          have q196 : a2 < (l0.length : Int) := of_decide_eq_true Zz1
          obtain ⟨ad196, e196, hx196_0, hx196_1, hx196_2⟩ := at_T38 HR0.out a2 p196 q196
          cases e196
          replace p196 := eq_true p196
          replace q196 := eq_true q196
          have p201 : 0 ≤ (a2 : Int) := of_decide_eq_true Zz1
          have q201 : a2 < (l0.length : Int) := of_decide_eq_true Zz1
          obtain ⟨ad201, e201, hx201_0, hx201_1, hx201_2⟩ := at_T38 HR0.out a2 p201 q201
          obtain rfl : ad196 = ad201 := (by injection e201)
          replace p201 := eq_true p201
          replace q201 := eq_true q201
          have p202 : 0 ≤ (a2 : Int) := of_decide_eq_true Zz1
          have q202 : a2 < (l0.length : Int) := of_decide_eq_true Zz1
          obtain ⟨ad202, e202, hx202_0, hx202_1, hx202_2⟩ := at_T38 HR0.out a2 p202 q202
          obtain rfl : ad196 = ad202 := (by injection e202)
          replace p202 := eq_true p202
          replace q202 := eq_true q202
          have p204 : 0 ≤ (a2 : Int) := of_decide_eq_true Zz1
          have q204 : a2 < (l1.length : Int) := of_decide_eq_true Zz1
          obtain ⟨ad204, e204, hx204_0⟩ := Kd.at_string HR1.out a2 p204 q204
          cases e204
          replace p204 := eq_true p204
          replace q204 := eq_true q204
          go_enter Tryz.func30, Tryz.ntmps30
          go_wp2
          go_ret
          exact ⟨by first | rfl | (simp; done) | (simp [*]; done), by repeat (first | exact Drawn0.refl _ | apply Drawn0.step)⟩
         ·rw [if_neg c24] at H
          exact absurd H (by simp)
        ·rw [if_neg c23] at H
         exact absurd H (by simp)
       ·rw [if_neg c22] at H
        exact absurd H (by simp)
     ·replace c19 := Bool.eq_false_iff.mpr c19
      subst c19
      have H1 : (if a2 < (l1.length : Int) then (if 1 + (rdOf ByteArray.empty l1 a2).size ≤ 9223372036854775807 then (if ((⟨#[40]⟩ : ByteArray) ++ (rdOf ByteArray.empty l1 a2)).size + 1 ≤ 9223372036854775807 then (some (((⟨#[40]⟩ : ByteArray) ++ (rdOf ByteArray.empty l1 a2)) ++ (⟨#[41]⟩ : ByteArray))) else (none)) else (none)) else (none)) = some r := by rw [if_neg (show ¬ (false = true) by decide)] at H; exact H
      clear H
      have H := H1
      clear H1
      by_cases c25 : a2 < (l1.length : Int)
      ·rw [if_pos c25] at H
       have c25b0 := decide_eq_true c25
       clear c25
       by_cases c26 : 1 + (rdOf ByteArray.empty l1 a2).size ≤ 9223372036854775807
       ·rw [if_pos c26] at H
        have c26b0 := eq_true c26
        have c26b1 := decide_eq_true c26
        try have c26b2 : (9223372036854775807 < 1 + (rdOf ByteArray.empty l1 a2).size) = False := eq_false (Nat.not_lt.2 c26)
        by_cases c27 : ((⟨#[40]⟩ : ByteArray) ++ (rdOf ByteArray.empty l1 a2)).size + 1 ≤ 9223372036854775807
        ·rw [if_pos c27] at H
         have c27b0 := eq_true c27
         have c27b1 := decide_eq_true c27
         try have c27b2 : (9223372036854775807 < ((⟨#[40]⟩ : ByteArray) ++ (rdOf ByteArray.empty l1 a2)).size + 1) = False := eq_false (Nat.not_lt.2 c27)
         try (have c27b3 := c27b2; simp only [ByteArray.size_append, show (⟨#[40]⟩ : ByteArray).size = 1 from rfl, show (⟨#[41]⟩ : ByteArray).size = 1 from rfl, show (⟨#[44]⟩ : ByteArray).size = 1 from rfl, show (⟨#[124]⟩ : ByteArray).size = 1 from rfl, show (⟨#[38]⟩ : ByteArray).size = 1 from rfl, show (⟨#[126]⟩ : ByteArray).size = 1 from rfl] at c27b3)
         obtain rfl := Option.some.inj H
         have p196 : 0 ≤ (a2 : Int) := of_decide_eq_true Zz1
         have q196 : a2 < (l0.length : Int) := of_decide_eq_true Zz1
         obtain ⟨ad196, e196, hx196_0, hx196_1, hx196_2⟩ := at_T38 HR0.out a2 p196 q196
         cases e196
         replace p196 := eq_true p196
         replace q196 := eq_true q196
         have p201 : 0 ≤ (a2 : Int) := of_decide_eq_true Zz1
         have q201 : a2 < (l0.length : Int) := of_decide_eq_true Zz1
         obtain ⟨ad201, e201, hx201_0, hx201_1, hx201_2⟩ := at_T38 HR0.out a2 p201 q201
         obtain rfl : ad196 = ad201 := (by injection e201)
         replace p201 := eq_true p201
         replace q201 := eq_true q201
         have p205 : 0 ≤ (a2 : Int) := of_decide_eq_true Zz1
         have q205 : a2 < (l1.length : Int) := of_decide_eq_true Zz1
         obtain ⟨ad205, e205, hx205_0⟩ := Kd.at_string HR1.out a2 p205 q205
         cases e205
         replace p205 := eq_true p205
         replace q205 := eq_true q205
         go_enter Tryz.func30, Tryz.ntmps30
         go_wp2
         go_ret
         exact ⟨by first | rfl | (simp; done) | (simp [*]; done), by repeat (first | exact Drawn0.refl _ | apply Drawn0.step)⟩
        ·rw [if_neg c27] at H
         exact absurd H (by simp)
       ·rw [if_neg c26] at H
        exact absurd H (by simp)
      ·rw [if_neg c25] at H
       exact absurd H (by simp)
    ·rw [if_neg c18] at H
     have c18b0 := beq_eq_false_iff_ne.mpr c18
     have c18b1 := bne_iff_ne.mpr c18
     by_cases c28 : a2 < (l1.length : Int)
     ·rw [if_pos c28] at H
      have c28b0 := decide_eq_true c28
      clear c28
      obtain rfl := Option.some.inj H
      have p196 : 0 ≤ (a2 : Int) := of_decide_eq_true Zz1
      have q196 : a2 < (l0.length : Int) := of_decide_eq_true Zz1
      obtain ⟨ad196, e196, hx196_0, hx196_1, hx196_2⟩ := at_T38 HR0.out a2 p196 q196
      cases e196
      replace p196 := eq_true p196
      replace q196 := eq_true q196
      have p201 : 0 ≤ (a2 : Int) := of_decide_eq_true Zz1
      have q201 : a2 < (l0.length : Int) := of_decide_eq_true Zz1
      obtain ⟨ad201, e201, hx201_0, hx201_1, hx201_2⟩ := at_T38 HR0.out a2 p201 q201
      obtain rfl : ad196 = ad201 := (by injection e201)
      replace p201 := eq_true p201
      replace q201 := eq_true q201
      have p206 : 0 ≤ (a2 : Int) := of_decide_eq_true Zz1
      have q206 : a2 < (l1.length : Int) := of_decide_eq_true Zz1
      obtain ⟨ad206, e206, hx206_0⟩ := Kd.at_string HR1.out a2 p206 q206
      cases e206
      replace p206 := eq_true p206
      replace q206 := eq_true q206
      go_enter Tryz.func30, Tryz.ntmps30
      go_wp2
      go_ret
      exact ⟨by first | rfl | (simp; done) | (simp [*]; done), by repeat (first | exact Drawn0.refl _ | apply Drawn0.step)⟩
     ·rw [if_neg c28] at H
      exact absurd H (by simp)
  ·rw [if_neg c7] at H
   exact absurd H (by simp)
 ·rw [if_neg c6] at H
  exact absurd H (by simp)
def tammyref07_figure.f (a0 : Int) : Option (ByteArray) := some (strOfNums (([(wrap64 (48 + a0)) % 256] : List Int)))
set_option maxHeartbeats 8000000 in
set_option maxRecDepth 100000 in
theorem tammyref07_figure.calls (a0 : Int) (r : ByteArray) (w : World) (h : tammyref07_figure.f a0 = some r) :
  Calls Tryz.prog 31 #[.int .i64 a0] w fun e w' => e = .returned (.string r) ∧ Below w.heap.size w w' := by
 have HB := Aside0.mk (Below.refl w.heap.size w)
 have H : (some (strOfNums (([(wrap64 (48 + a0)) % 256] : List Int)))) = some r := h
 clear h
 obtain ⟨y207, hy207⟩ : ∃ y_ : List Int, y_ = (([(wrap64 (48 + a0)) % 256] : List Int)) := ⟨_, rfl⟩
 replace H : (some (strOfNums y207)) = some r := by first | (rw [hy207]; with_reducible exact H) | (have H2_ := (Option.bind_some _ _).symm.trans H; rw [hy207]; with_reducible exact H2_) | (have H2_ := (Option.bind_some _ _).symm.trans H; with_reducible exact H2_) | with_reducible exact H | (rw [hy207]; exact H) | exact H
 have Ny207 := Aside0.mk hy207
 clear hy207
 obtain rfl := Option.some.inj H
 go_enter Tryz.func31, Tryz.ntmps31
 go_wp2_with (first | ((with_reducible refine gate_dst (N := 6) rfl ?_); refine Kd.R_lit (Kd.int .u8) _ 5 ?hg (N := 6) ?hd (xs := ([(wrap64 (48 + a0)) % 256] : List Int)) (inner := [.int .u8 ((wrap64 (48 + a0)) % 256)]) (ok := fun _ => True) (okp := fun _ => True) ?hr ?hp (fun _ hk => hk) trivial (Below.refl _ _) (Nat.le_refl _) (by simp) ?_; (case hd => rfl); (case hg => rfl); (case hr => first | (go_simp; done) | (go_simp; rfl)); (case hp => exact (Reps.one (show Kd.M (Kd.int .u8) _ _ _ ((wrap64 (48 + a0)) % 256) [.int .u8 ((wrap64 (48 + a0)) % 256)] from rfl) (Reps.none _ _))); intro v208 w2 ho3 hb hg_ hnew_; clear hg_ hnew_; (first | rw [← Ny207.out] at ho3 | (simp only [Int.reduceToNat] at ho3; rw [← Ny207.out] at ho3)); have n0_ := Aside0.mk (Kd.R_lower ho3 (below_size Zz0)); have n1_ := Aside0.mk (below_step Zz0 hb); clear HB; have HO209 := n0_; have HB := n1_; clear n0_ n1_; clear hb ho3; have hcv4 := own_string (P := Tryz.prog) Tryz.underlying76 Tryz.underlying5 Tryz.underlying9 (Kd.own_of_R HO209.out)))
 go_ret
 exact ⟨by first | rfl | (simp [errW_none, errW_some] <;> rfl) | (simp [*, errW_none, errW_some] <;> rfl), by repeat (first | (with_reducible first | exact HB.out | apply below_alloc | apply pw_below_drewN | apply below_drew1) | exact HB.out)⟩
end Go.Proofs.YtniaooodlccmcaaGreatDoor.Q

