import Derived.Test.YtniaooodlccmcaaGreatDoorDz
import Derived.Test.YtniaooodlccmcaaGreatDoorQx0
namespace Go.Proofs.YtniaooodlccmcaaGreatDoor.Q
open Go.RowKit Go.Proofs.YtniaooodlccmcaaGreatDoorW.PrintWords Go.Proofs.YtniaooodlccmcaaGreatDoorW.PrintLast Go.Proofs.YtniaooodlccmcaaGreatDoorW.PrintMore
attribute [local go_sem] max2_int min2_int max_two min_two max_three min_three max_four min_four
set_option linter.unusedVariables false
set_option linter.unusedSimpArgs false
def expr_parts.f (a0_0 : Int) (a0_1 : ByteArray) (a0_2 : Int) : Option (Int) := if a0_0 = 6 then (some 1) else (some a0_2)
set_option maxHeartbeats 8000000 in
set_option maxRecDepth 100000 in
theorem expr_parts.calls (a0_0 : Int) (a0_1 : ByteArray) (a0_2 : Int) (r : Int) (w : World) (h : expr_parts.f a0_0 a0_1 a0_2 = some r) :
  Calls Tryz.prog 20 #[.agg #[.int .i64 a0_0, .string a0_1, .int .i64 a0_2]] w fun e w' => e = .returned (.int .i64 r) ∧ Below w.heap.size w w' := by
 have hu38 := Tryz.underlying38
 have HB := Aside0.mk (Below.refl w.heap.size w)
 have H : (if a0_0 = 6 then (some 1) else (some a0_2)) = some r := h
 clear h
 by_cases c2 : a0_0 = 6
 ·rw [if_pos c2] at H
  have c2b0 := beq_iff_eq.mpr c2
  have c2b1 := bne_eq_false_iff_eq.mpr c2
  clear c2
  obtain rfl := Option.some.inj H
  go_enter Tryz.func20, Tryz.ntmps20
  go_wp2_with (first | ((with_reducible refine gate_dst (N := 1) rfl ?_); refine box_event ?hg (N := 1) ?hd (cs := #[.int .i64 a0_0, .string a0_1, .int .i64 a0_2]) (t := 38) ?hr ?_; (case hd => rfl); (case hg => rfl); (case hr => first | (go_simp; done) | (go_simp; rfl)); intro gb101 hg w3 hbox hb; have n0_ := Aside0.mk (below_step Zz0 hb); have n1_ := Aside0.mk (hbox); have n2_ := Aside0.mk ((Zz4 : w.heap.size ≤ gb101)); have n3_ := Aside0.mk ((Zz4 : w.heap.size ≤ gb101)); clear HB; have HB := n0_; have BK101 := n1_; have GW101 := n2_; have GE101 := n3_; clear n0_ n1_ n2_ n3_; clear hb hbox hg; have hcz4_0 : w3.cell? ⟨gb101, 0, none⟩ = some (.int .i64 a0_0) := (blk_cell BK101.out 0).trans rfl; have hcz4_1 : w3.cell? ⟨gb101, 1, none⟩ = some (.string a0_1) := (blk_cell BK101.out 1).trans rfl; have hcz4_2 : w3.cell? ⟨gb101, 2, none⟩ = some (.int .i64 a0_2) := (blk_cell BK101.out 2).trans rfl; have hfz4_0 := blk_frozen BK101.out 0; have hfz4_1 := blk_frozen BK101.out 1; have hfz4_2 := blk_frozen BK101.out 2))
  go_ret
  exact ⟨by first | rfl | (simp [errW_none, errW_some] <;> rfl) | (simp [*, errW_none, errW_some] <;> rfl), by repeat (first | (with_reducible first | exact HB.out | apply below_alloc | apply pw_below_drewN | apply below_drew1 | refine below_set ?_ GE101.out) | exact HB.out)⟩
 ·rw [if_neg c2] at H
  have c2b0 := beq_eq_false_iff_ne.mpr c2
  have c2b1 := bne_iff_ne.mpr c2
  obtain rfl := Option.some.inj H
  go_enter Tryz.func20, Tryz.ntmps20
  go_wp2_with (first | ((with_reducible refine gate_dst (N := 1) rfl ?_); refine box_event ?hg (N := 1) ?hd (cs := #[.int .i64 a0_0, .string a0_1, .int .i64 a0_2]) (t := 38) ?hr ?_; (case hd => rfl); (case hg => rfl); (case hr => first | (go_simp; done) | (go_simp; rfl)); intro gb101 hg w5 hbox hb; have n0_ := Aside0.mk (below_step Zz0 hb); have n1_ := Aside0.mk (hbox); have n2_ := Aside0.mk ((Zz4 : w.heap.size ≤ gb101)); have n3_ := Aside0.mk ((Zz4 : w.heap.size ≤ gb101)); clear HB; have HB := n0_; have BK101 := n1_; have GW101 := n2_; have GE101 := n3_; clear n0_ n1_ n2_ n3_; clear hb hbox hg; have hcz6_0 : w5.cell? ⟨gb101, 0, none⟩ = some (.int .i64 a0_0) := (blk_cell BK101.out 0).trans rfl; have hcz6_1 : w5.cell? ⟨gb101, 1, none⟩ = some (.string a0_1) := (blk_cell BK101.out 1).trans rfl; have hcz6_2 : w5.cell? ⟨gb101, 2, none⟩ = some (.int .i64 a0_2) := (blk_cell BK101.out 2).trans rfl; have hfz6_0 := blk_frozen BK101.out 0; have hfz6_1 := blk_frozen BK101.out 1; have hfz6_2 := blk_frozen BK101.out 2))
  go_ret
  exact ⟨by first | rfl | (simp [errW_none, errW_some] <;> rfl) | (simp [*, errW_none, errW_some] <;> rfl), by repeat (first | (with_reducible first | exact HB.out | apply below_alloc | apply pw_below_drewN | apply below_drew1 | refine below_set ?_ GE101.out) | exact HB.out)⟩
def sig_upper.f  : Option (Int × Int) := some (65, 90)
set_option maxHeartbeats 8000000 in
set_option maxRecDepth 100000 in
theorem sig_upper.calls  (r1 : Int) (r2 : Int) (w : World) (h : sig_upper.f  = some (r1, r2)) :
  Calls Tryz.prog 55 #[] w fun e w' => e = .returned (.agg #[.int .u8 r1, .int .u8 r2]) ∧ Below w.heap.size w w' := by
 have hu80 := Tryz.underlying80
 have HB := Aside0.mk (Below.refl w.heap.size w)
 have H : (some (65, 90)) = some (r1, r2) := h
 clear h
 simp only [Option.some.injEq, Prod.mk.injEq] at H
 obtain ⟨rfl, rfl⟩ := H
 go_enter Tryz.func55, Tryz.ntmps55
 go_wp2_with (first | ((with_reducible refine gate_dst (N := 0) rfl ?_); refine box_event ?hg (N := 0) ?hd (cs := #[.int .u8 0, .int .u8 0]) (t := 80) ?hr ?_; (case hd => rfl); (case hg => rfl); (case hr => first | (go_simp; done) | (go_simp; rfl)); intro gb102 hg w1 hbox hb; have n0_ := Aside0.mk (below_step Zz0 hb); have n1_ := Aside0.mk (hbox); have n2_ := Aside0.mk ((Zz4 : w.heap.size ≤ gb102)); have n3_ := Aside0.mk ((Zz4 : w.heap.size ≤ gb102)); clear HB; have HB := n0_; have BK102 := n1_; have GW102 := n2_; have GE102 := n3_; clear n0_ n1_ n2_ n3_; clear hb hbox hg; have hcz2_0 : w1.cell? ⟨gb102, 0, none⟩ = some (.int .u8 0) := (blk_cell BK102.out 0).trans rfl; have hcz2_1 : w1.cell? ⟨gb102, 1, none⟩ = some (.int .u8 0) := (blk_cell BK102.out 1).trans rfl; have hfz2_0 := blk_frozen BK102.out 0; have hfz2_1 := blk_frozen BK102.out 1))
 refine bodyPost_ret (results_cell_row rfl _ _ gb102 80 #[.int .u8 65, .int .u8 90] (0, 0) _ rfl (by (with_reducible repeat (first | refine blk_drewN ?_ _ | refine blk_drew ?_ | refine blk_alloc ?_ _)); refine blk_put (cs := #[.int .u8 65, .int .u8 0]) ?_ 1 _ rfl; (with_reducible repeat (first | refine blk_drewN ?_ _ | refine blk_drew ?_ | refine blk_alloc ?_ _)); refine blk_put (cs := #[.int .u8 0, .int .u8 0]) ?_ 0 _ rfl; (with_reducible repeat (first | refine blk_drewN ?_ _ | refine blk_drew ?_ | refine blk_alloc ?_ _)); exact BK102.out) Tryz.underlying80 rfl (by kernel_rfl)) rfl ?_
 exact ⟨by first | rfl | (simp [errW_none, errW_some] <;> rfl) | (simp [*, errW_none, errW_some] <;> rfl), by repeat (first | (with_reducible first | exact HB.out | apply below_alloc | apply pw_below_drewN | apply below_drew1 | refine below_set ?_ GE102.out) | exact HB.out)⟩
def sig_letters_has.f (a0_0 : Int) (a0_1 : Int) (a1 : Int) : Option (Bool) := if a1 ≥ a0_0 then (some (decide (a1 ≤ a0_1))) else (some false)
set_option maxHeartbeats 8000000 in
set_option maxRecDepth 100000 in
theorem sig_letters_has.calls (a0_0 : Int) (a0_1 : Int) (a1 : Int) (r : Bool) (w : World) (h : sig_letters_has.f a0_0 a0_1 a1 = some r) :
  Calls Tryz.prog 56 #[.agg #[.int .u8 a0_0, .int .u8 a0_1], .int .u8 a1] w fun e w' => e = .returned (.bool r) ∧ Below w.heap.size w w' := by
 have hu80 := Tryz.underlying80
 have HB := Aside0.mk (Below.refl w.heap.size w)
 have H : (if a1 ≥ a0_0 then (some (decide (a1 ≤ a0_1))) else (some false)) = some r := h
 clear h
 by_cases c3 : a1 ≥ a0_0
 ·rw [if_pos c3] at H
  have c3b0 : decide (a0_0 ≤ a1) = true := decide_eq_true c3
  clear c3
  obtain rfl := Option.some.inj H
  go_enter Tryz.func56, Tryz.ntmps56
  go_wp2_with (first | ((with_reducible refine gate_dst (N := 2) rfl ?_); refine box_event ?hg (N := 2) ?hd (cs := #[.int .u8 a0_0, .int .u8 a0_1]) (t := 80) ?hr ?_; (case hd => rfl); (case hg => rfl); (case hr => first | (go_simp; done) | (go_simp; rfl)); intro gb103 hg w4 hbox hb; have n0_ := Aside0.mk (below_step Zz0 hb); have n1_ := Aside0.mk (hbox); have n2_ := Aside0.mk ((Zz4 : w.heap.size ≤ gb103)); have n3_ := Aside0.mk ((Zz4 : w.heap.size ≤ gb103)); clear HB; have HB := n0_; have BK103 := n1_; have GW103 := n2_; have GE103 := n3_; clear n0_ n1_ n2_ n3_; clear hb hbox hg; have hcz5_0 : w4.cell? ⟨gb103, 0, none⟩ = some (.int .u8 a0_0) := (blk_cell BK103.out 0).trans rfl; have hcz5_1 : w4.cell? ⟨gb103, 1, none⟩ = some (.int .u8 a0_1) := (blk_cell BK103.out 1).trans rfl; have hfz5_0 := blk_frozen BK103.out 0; have hfz5_1 := blk_frozen BK103.out 1))
  go_ret
  exact ⟨by first | rfl | (simp [errW_none, errW_some] <;> rfl) | (simp [*, errW_none, errW_some] <;> rfl), by repeat (first | (with_reducible first | exact HB.out | apply below_alloc | apply pw_below_drewN | apply below_drew1 | refine below_set ?_ GE103.out) | exact HB.out)⟩
 ·rw [if_neg c3] at H
  have c3b0 : decide (a0_0 ≤ a1) = false := decide_eq_false c3
  clear c3
  obtain rfl := Option.some.inj H
  go_enter Tryz.func56, Tryz.ntmps56
  go_wp2_with (first | ((with_reducible refine gate_dst (N := 2) rfl ?_); refine box_event ?hg (N := 2) ?hd (cs := #[.int .u8 a0_0, .int .u8 a0_1]) (t := 80) ?hr ?_; (case hd => rfl); (case hg => rfl); (case hr => first | (go_simp; done) | (go_simp; rfl)); intro gb103 hg w6 hbox hb; have n0_ := Aside0.mk (below_step Zz0 hb); have n1_ := Aside0.mk (hbox); have n2_ := Aside0.mk ((Zz4 : w.heap.size ≤ gb103)); have n3_ := Aside0.mk ((Zz4 : w.heap.size ≤ gb103)); clear HB; have HB := n0_; have BK103 := n1_; have GW103 := n2_; have GE103 := n3_; clear n0_ n1_ n2_ n3_; clear hb hbox hg; have hcz7_0 : w6.cell? ⟨gb103, 0, none⟩ = some (.int .u8 a0_0) := (blk_cell BK103.out 0).trans rfl; have hcz7_1 : w6.cell? ⟨gb103, 1, none⟩ = some (.int .u8 a0_1) := (blk_cell BK103.out 1).trans rfl; have hfz7_0 := blk_frozen BK103.out 0; have hfz7_1 := blk_frozen BK103.out 1))
  go_ret
  exact ⟨by first | rfl | (simp [errW_none, errW_some] <;> rfl) | (simp [*, errW_none, errW_some] <;> rfl), by repeat (first | (with_reducible first | exact HB.out | apply below_alloc | apply pw_below_drewN | apply below_drew1 | refine below_set ?_ GE103.out) | exact HB.out)⟩
def sig_lower.f  : Option (Int × Int) := some (97, 122)
set_option maxHeartbeats 8000000 in
set_option maxRecDepth 100000 in
theorem sig_lower.calls  (r1 : Int) (r2 : Int) (w : World) (h : sig_lower.f  = some (r1, r2)) :
  Calls Tryz.prog 57 #[] w fun e w' => e = .returned (.agg #[.int .u8 r1, .int .u8 r2]) ∧ Below w.heap.size w w' := by
 have hu80 := Tryz.underlying80
 have HB := Aside0.mk (Below.refl w.heap.size w)
 have H : (some (97, 122)) = some (r1, r2) := h
 clear h
 simp only [Option.some.injEq, Prod.mk.injEq] at H
 obtain ⟨rfl, rfl⟩ := H
 go_enter Tryz.func57, Tryz.ntmps57
 go_wp2_with (first | ((with_reducible refine gate_dst (N := 0) rfl ?_); refine box_event ?hg (N := 0) ?hd (cs := #[.int .u8 0, .int .u8 0]) (t := 80) ?hr ?_; (case hd => rfl); (case hg => rfl); (case hr => first | (go_simp; done) | (go_simp; rfl)); intro gb104 hg w1 hbox hb; have n0_ := Aside0.mk (below_step Zz0 hb); have n1_ := Aside0.mk (hbox); have n2_ := Aside0.mk ((Zz4 : w.heap.size ≤ gb104)); have n3_ := Aside0.mk ((Zz4 : w.heap.size ≤ gb104)); clear HB; have HB := n0_; have BK104 := n1_; have GW104 := n2_; have GE104 := n3_; clear n0_ n1_ n2_ n3_; clear hb hbox hg; have hcz2_0 : w1.cell? ⟨gb104, 0, none⟩ = some (.int .u8 0) := (blk_cell BK104.out 0).trans rfl; have hcz2_1 : w1.cell? ⟨gb104, 1, none⟩ = some (.int .u8 0) := (blk_cell BK104.out 1).trans rfl; have hfz2_0 := blk_frozen BK104.out 0; have hfz2_1 := blk_frozen BK104.out 1))
 refine bodyPost_ret (results_cell_row rfl _ _ gb104 80 #[.int .u8 97, .int .u8 122] (0, 0) _ rfl (by (with_reducible repeat (first | refine blk_drewN ?_ _ | refine blk_drew ?_ | refine blk_alloc ?_ _)); refine blk_put (cs := #[.int .u8 97, .int .u8 0]) ?_ 1 _ rfl; (with_reducible repeat (first | refine blk_drewN ?_ _ | refine blk_drew ?_ | refine blk_alloc ?_ _)); refine blk_put (cs := #[.int .u8 0, .int .u8 0]) ?_ 0 _ rfl; (with_reducible repeat (first | refine blk_drewN ?_ _ | refine blk_drew ?_ | refine blk_alloc ?_ _)); exact BK104.out) Tryz.underlying80 rfl (by kernel_rfl)) rfl ?_
 exact ⟨by first | rfl | (simp [errW_none, errW_some] <;> rfl) | (simp [*, errW_none, errW_some] <;> rfl), by repeat (first | (with_reducible first | exact HB.out | apply below_alloc | apply pw_below_drewN | apply below_drew1 | refine below_set ?_ GE104.out) | exact HB.out)⟩
def sig_inner.f (a0 : Int) : Option (Bool) := (sig_lower.f).bind fun bt105 => ((sig_letters_has.f bt105.1 bt105.2 a0).bind fun t107 => (if t107 = true then (some true) else ((sig_upper.f).bind fun bt108 => ((sig_letters_has.f bt108.1 bt108.2 a0).bind fun t110 => (if t110 = true then (some true) else ((sig_letters_has.f 48 57 a0).bind fun t111 => (if t111 = true then (some true) else (some (a0 == 95)))))))))
set_option maxHeartbeats 8000000 in
set_option maxRecDepth 100000 in
theorem sig_inner.calls (a0 : Int) (r : Bool) (w : World) (h : sig_inner.f a0 = some r) :
  Calls Tryz.prog 65 #[.int .u8 a0] w fun e w' => e = .returned (.bool r) ∧ Below w.heap.size w w' := by
 have hu80 := Tryz.underlying80
 have HB := Aside0.mk (Below.refl w.heap.size w)
 have H : ((sig_lower.f).bind fun bt105 => ((sig_letters_has.f bt105.1 bt105.2 a0).bind fun t107 => (if t107 = true then (some true) else ((sig_upper.f).bind fun bt108 => ((sig_letters_has.f bt108.1 bt108.2 a0).bind fun t110 => (if t110 = true then (some true) else ((sig_letters_has.f 48 57 a0).bind fun t111 => (if t111 = true then (some true) else (some (a0 == 95)))))))))) = some r := h
 clear h
 replace H := Option.bind_eq_some_iff.mp H
 obtain ⟨⟨t105, t106⟩, A20, H⟩ := H
 replace H : ((sig_letters_has.f t105 t106 a0).bind fun t107 => (if t107 = true then (some true) else ((sig_upper.f).bind fun bt108 => ((sig_letters_has.f bt108.1 bt108.2 a0).bind fun t110 => (if t110 = true then (some true) else ((sig_letters_has.f 48 57 a0).bind fun t111 => (if t111 = true then (some true) else (some (a0 == 95))))))))) = some r := H
 have A2 := Aside0.mk A20
 clear A20
 replace H := Option.bind_eq_some_iff.mp H
 obtain ⟨t107, A30, H⟩ := H
 replace H : (if t107 = true then (some true) else ((sig_upper.f).bind fun bt108 => ((sig_letters_has.f bt108.1 bt108.2 a0).bind fun t110 => (if t110 = true then (some true) else ((sig_letters_has.f 48 57 a0).bind fun t111 => (if t111 = true then (some true) else (some (a0 == 95)))))))) = some r := H
 have A3 := Aside0.mk A30
 clear A30
 by_cases c4 : t107 = true
 ·subst c4
  have H1 : (some true) = some r := by rw [if_pos rfl] at H; exact H
  clear H
  have H := H1
  clear H1
  obtain rfl := Option.some.inj H
  go_enter Tryz.func65, Tryz.ntmps65
  go_wp2_with (first | ((with_reducible refine gate_callee (f := 57) rfl ?_); refine goesL_ (some 3) rfl rfl Tryz.func57 (by kernel_rfl) rfl #[] rfl Zz2 ?_; (with_reducible refine (sig_lower.calls  t105 t106 _ A2.out).mono ?_); rintro e w5 ⟨rfl, hb⟩; refine ⟨_, rfl, ?_⟩; have n0_ := Aside0.mk (below_step Zz0 hb); clear HB; have HB := n0_; clear n0_; (try clear hb); (try clear hb2); (try clear hk); (try clear hi)) | ((with_reducible refine gate_callee (f := 56) rfl ?_); refine goesL_ (some 5) rfl rfl Tryz.func56 (by kernel_rfl) rfl #[.agg #[.int .u8 t105, .int .u8 t106], .int .u8 a0] rfl Zz2 ?_; (with_reducible refine (sig_letters_has.calls t105 t106 a0 true _ A3.out).mono ?_); rintro e w6 ⟨rfl, hb⟩; refine ⟨_, rfl, ?_⟩; have n0_ := Aside0.mk (below_step Zz0 hb); clear HB; have HB := n0_; clear n0_; (try clear hb); (try clear hb2); (try clear hk); (try clear hi)))
  go_ret
  exact ⟨by first | rfl | (simp [errW_none, errW_some] <;> rfl) | (simp [*, errW_none, errW_some] <;> rfl), by repeat (first | (with_reducible first | exact HB.out | apply below_alloc | apply pw_below_drewN | apply below_drew1) | exact HB.out)⟩
 ·replace c4 := Bool.eq_false_iff.mpr c4
  subst c4
  have H1 : ((sig_upper.f).bind fun bt108 => ((sig_letters_has.f bt108.1 bt108.2 a0).bind fun t110 => (if t110 = true then (some true) else ((sig_letters_has.f 48 57 a0).bind fun t111 => (if t111 = true then (some true) else (some (a0 == 95))))))) = some r := by rw [if_neg (show ¬ (false = true) by decide)] at H; exact H
  clear H
  have H := H1
  clear H1
  replace H := Option.bind_eq_some_iff.mp H
  obtain ⟨⟨t108, t109⟩, A70, H⟩ := H
  replace H : ((sig_letters_has.f t108 t109 a0).bind fun t110 => (if t110 = true then (some true) else ((sig_letters_has.f 48 57 a0).bind fun t111 => (if t111 = true then (some true) else (some (a0 == 95)))))) = some r := H
  have A7 := Aside0.mk A70
  clear A70
  replace H := Option.bind_eq_some_iff.mp H
  obtain ⟨t110, A80, H⟩ := H
  replace H : (if t110 = true then (some true) else ((sig_letters_has.f 48 57 a0).bind fun t111 => (if t111 = true then (some true) else (some (a0 == 95))))) = some r := H
  have A8 := Aside0.mk A80
  clear A80
  by_cases c9 : t110 = true
  ·subst c9
   have H1 : (some true) = some r := by rw [if_pos rfl] at H; exact H
   clear H
   have H := H1
   clear H1
   obtain rfl := Option.some.inj H
   go_enter Tryz.func65, Tryz.ntmps65
   go_wp2_with (first | ((with_reducible refine gate_callee (f := 57) rfl ?_); refine goesL_ (some 3) rfl rfl Tryz.func57 (by kernel_rfl) rfl #[] rfl Zz2 ?_; (with_reducible refine (sig_lower.calls  t105 t106 _ A2.out).mono ?_); rintro e w10 ⟨rfl, hb⟩; refine ⟨_, rfl, ?_⟩; have n0_ := Aside0.mk (below_step Zz0 hb); clear HB; have HB := n0_; clear n0_; (try clear hb); (try clear hb2); (try clear hk); (try clear hi)) | ((with_reducible refine gate_callee (f := 56) rfl ?_); refine goesL_ (some 5) rfl rfl Tryz.func56 (by kernel_rfl) rfl #[.agg #[.int .u8 t105, .int .u8 t106], .int .u8 a0] rfl Zz2 ?_; (with_reducible refine (sig_letters_has.calls t105 t106 a0 false _ A3.out).mono ?_); rintro e w11 ⟨rfl, hb⟩; refine ⟨_, rfl, ?_⟩; have n0_ := Aside0.mk (below_step Zz0 hb); clear HB; have HB := n0_; clear n0_; (try clear hb); (try clear hb2); (try clear hk); (try clear hi)) | (go_at_call 55; (with_reducible refine (sig_upper.calls  t108 t109 _ A7.out).mono ?_); rintro e w12 ⟨rfl, hb⟩; have n0_ := Aside0.mk (below_step Zz0 hb); clear HB; have HB := n0_; clear n0_; (try clear hb); (try clear hb2); (try clear hk); (try clear hi)) | (go_at_call 56; (with_reducible refine (sig_letters_has.calls t108 t109 a0 true _ A8.out).mono ?_); rintro e w13 ⟨rfl, hb⟩; have n0_ := Aside0.mk (below_step Zz0 hb); clear HB; have HB := n0_; clear n0_; (try clear hb); (try clear hb2); (try clear hk); (try clear hi)))
   go_ret
   exact ⟨by first | rfl | (simp [errW_none, errW_some] <;> rfl) | (simp [*, errW_none, errW_some] <;> rfl), by repeat (first | (with_reducible first | exact HB.out | apply below_alloc | apply pw_below_drewN | apply below_drew1) | exact HB.out)⟩
  ·replace c9 := Bool.eq_false_iff.mpr c9
   subst c9
   have H1 : ((sig_letters_has.f 48 57 a0).bind fun t111 => (if t111 = true then (some true) else (some (a0 == 95)))) = some r := by rw [if_neg (show ¬ (false = true) by decide)] at H; exact H
   clear H
   have H := H1
   clear H1
   replace H := Option.bind_eq_some_iff.mp H
   obtain ⟨t111, A140, H⟩ := H
   replace H : (if t111 = true then (some true) else (some (a0 == 95))) = some r := H
   have A14 := Aside0.mk A140
   clear A140
   by_cases c15 : t111 = true
   ·subst c15
    have H1 : (some true) = some r := by rw [if_pos rfl] at H; exact H
    clear H
    have H := H1
    clear H1
    obtain rfl := Option.some.inj H
    go_enter Tryz.func65, Tryz.ntmps65
    go_wp2_with (first | ((with_reducible refine gate_callee (f := 57) rfl ?_); refine goesL_ (some 3) rfl rfl Tryz.func57 (by kernel_rfl) rfl #[] rfl Zz2 ?_; (with_reducible refine (sig_lower.calls  t105 t106 _ A2.out).mono ?_); rintro e w16 ⟨rfl, hb⟩; refine ⟨_, rfl, ?_⟩; have n0_ := Aside0.mk (below_step Zz0 hb); clear HB; have HB := n0_; clear n0_; (try clear hb); (try clear hb2); (try clear hk); (try clear hi)) | ((with_reducible refine gate_callee (f := 56) rfl ?_); refine goesL_ (some 5) rfl rfl Tryz.func56 (by kernel_rfl) rfl #[.agg #[.int .u8 t105, .int .u8 t106], .int .u8 a0] rfl Zz2 ?_; (with_reducible refine (sig_letters_has.calls t105 t106 a0 false _ A3.out).mono ?_); rintro e w17 ⟨rfl, hb⟩; refine ⟨_, rfl, ?_⟩; have n0_ := Aside0.mk (below_step Zz0 hb); clear HB; have HB := n0_; clear n0_; (try clear hb); (try clear hb2); (try clear hk); (try clear hi)) | (go_at_call 55; (with_reducible refine (sig_upper.calls  t108 t109 _ A7.out).mono ?_); rintro e w18 ⟨rfl, hb⟩; have n0_ := Aside0.mk (below_step Zz0 hb); clear HB; have HB := n0_; clear n0_; (try clear hb); (try clear hb2); (try clear hk); (try clear hi)) | (go_at_call 56; (with_reducible refine (sig_letters_has.calls t108 t109 a0 false _ A8.out).mono ?_); rintro e w19 ⟨rfl, hb⟩; have n0_ := Aside0.mk (below_step Zz0 hb); clear HB; have HB := n0_; clear n0_; (try clear hb); (try clear hb2); (try clear hk); (try clear hi)) | (go_at_call 56; (with_reducible refine (sig_letters_has.calls 48 57 a0 true _ A14.out).mono ?_); rintro e w20 ⟨rfl, hb⟩; have n0_ := Aside0.mk (below_step Zz0 hb); clear HB; have HB := n0_; clear n0_; (try clear hb); (try clear hb2); (try clear hk); (try clear hi)))
    go_ret
    exact ⟨by first | rfl | (simp [errW_none, errW_some] <;> rfl) | (simp [*, errW_none, errW_some] <;> rfl), by repeat (first | (with_reducible first | exact HB.out | apply below_alloc | apply pw_below_drewN | apply below_drew1) | exact HB.out)⟩
   ·replace c15 := Bool.eq_false_iff.mpr c15
    subst c15
    have H1 : (some (a0 == 95)) = some r := by rw [if_neg (show ¬ (false = true) by decide)] at H; exact H
    clear H
    have H := H1
    clear H1
    obtain rfl := Option.some.inj H
    go_enter Tryz.func65, Tryz.ntmps65
    go_wp2_with (first | ((with_reducible refine gate_callee (f := 57) rfl ?_); refine goesL_ (some 3) rfl rfl Tryz.func57 (by kernel_rfl) rfl #[] rfl Zz2 ?_; (with_reducible refine (sig_lower.calls  t105 t106 _ A2.out).mono ?_); rintro e w21 ⟨rfl, hb⟩; refine ⟨_, rfl, ?_⟩; have n0_ := Aside0.mk (below_step Zz0 hb); clear HB; have HB := n0_; clear n0_; (try clear hb); (try clear hb2); (try clear hk); (try clear hi)) | ((with_reducible refine gate_callee (f := 56) rfl ?_); refine goesL_ (some 5) rfl rfl Tryz.func56 (by kernel_rfl) rfl #[.agg #[.int .u8 t105, .int .u8 t106], .int .u8 a0] rfl Zz2 ?_; (with_reducible refine (sig_letters_has.calls t105 t106 a0 false _ A3.out).mono ?_); rintro e w22 ⟨rfl, hb⟩; refine ⟨_, rfl, ?_⟩; have n0_ := Aside0.mk (below_step Zz0 hb); clear HB; have HB := n0_; clear n0_; (try clear hb); (try clear hb2); (try clear hk); (try clear hi)) | (go_at_call 55; (with_reducible refine (sig_upper.calls  t108 t109 _ A7.out).mono ?_); rintro e w23 ⟨rfl, hb⟩; have n0_ := Aside0.mk (below_step Zz0 hb); clear HB; have HB := n0_; clear n0_; (try clear hb); (try clear hb2); (try clear hk); (try clear hi)) | (go_at_call 56; (with_reducible refine (sig_letters_has.calls t108 t109 a0 false _ A8.out).mono ?_); rintro e w24 ⟨rfl, hb⟩; have n0_ := Aside0.mk (below_step Zz0 hb); clear HB; have HB := n0_; clear n0_; (try clear hb); (try clear hb2); (try clear hk); (try clear hi)) | (go_at_call 56; (with_reducible refine (sig_letters_has.calls 48 57 a0 false _ A14.out).mono ?_); rintro e w25 ⟨rfl, hb⟩; have n0_ := Aside0.mk (below_step Zz0 hb); clear HB; have HB := n0_; clear n0_; (try clear hb); (try clear hb2); (try clear hk); (try clear hi)))
    go_ret
    exact ⟨by first | rfl | (simp [errW_none, errW_some] <;> rfl) | (simp [*, errW_none, errW_some] <;> rfl), by repeat (first | (with_reducible first | exact HB.out | apply below_alloc | apply pw_below_drewN | apply below_drew1) | exact HB.out)⟩
theorem cell_far_ {w w1 : World} {row : Option Nat} {b o : Nat} {v : Value} (hg : w.grownBy w1 row) (h : w.cell? ⟨b, o, none⟩ = some v) (hne : some b ≠ row) : w1.cell? ⟨b, o, none⟩ = some v :=
 (hg.cell_far (a := ⟨b, o, none⟩) (World.block_lt_of_cell? w ⟨b, o, none⟩ h) hne).trans h
theorem frozen_far_ {w w1 : World} {row : Option Nat} {b o : Nat} {f : Bool} (hg : w.grownBy w1 row) (h : w.frozen? ⟨b, o, none⟩ = f) (hlt : b < w.heap.size) (hne : some b ≠ row) : w1.frozen? ⟨b, o, none⟩ = f :=
 (hg.frozen_far (a := ⟨b, o, none⟩) hlt hne).trans h
theorem cell_alloc2_ {w : World} {p : Addr} {v : Value} (h : w.cell? p = some v) (ob : Obj) : (w.alloc ob).cell? p = some v := pw_cell_below (below_alloc (Below.refl _ _) ob) h
set_option maxHeartbeats 8000000 in
set_option maxRecDepth 100000 in
theorem sig_named1.calls (c : Int) (r : Bool) (w : World) (h : sig_inner.f c = some r) :
  Calls Tryz.prog 64 #[.int .u8 c] w fun e w' => e = .returned (.bool !r) ∧ Below w.heap.size w w' := by
 go_enter Tryz.func64, Tryz.ntmps64
 go_wp2_with (go_at_call 65; (with_reducible refine (sig_inner.calls c r _ h).mono ?_); rintro e w' ⟨rfl, hb⟩)
 go_ret
 exact ⟨rfl, hb⟩
def sig_idx : Nat → List Int → Int → Option Int
 | 0, _, _ => none
 | k + 1, xs, i => if i < (xs.length : Int) then (if 0 ≤ i then ((sig_inner.f (rd xs i)).bind fun t => if t = true then sig_idx k xs (wrap64 (i + 1)) else some i) else none) else some (-1)
set_option maxHeartbeats 8000000 in
set_option maxRecDepth 100000 in
theorem sig_idx.calls (k : Nat) (A0 : Option Addr) (c0 n : Nat) (xs : List Int) (r : Int) (w : World) (hr0 : ReadsInt w .u8 A0 n xs) (h : sig_idx k xs 0 = some r) :
  Calls Tryz.prog 73 #[.slice A0 n c0, .func (.func 64) #[] #[]] w fun e w' => e = .returned (.int .i64 r) ∧ Below w.heap.size w w' := by
 obtain rfl := hr0.1
 have H' := Aside0.mk h
 have HR := Aside0.mk hr0
 clear h hr0
 go_enter Tryz.func73, Tryz.ntmps73
 go_wp2
 go_loopg [5, 8] k (fun kq v5 v8 w' => ∃ (i : Int), v8 = .int .i64 i ∧ Aside0 (sig_idx kq xs i = some r) ∧ Aside0 (kq ≤ k) ∧ Below w.heap.size w w')
 case atStart => exact ⟨0, rfl, H', ⟨Nat.le_refl _⟩, Below.refl _ _⟩
 case round =>
  clear H'
  obtain ⟨i, rfl, HA, HK1, hb⟩ := hrel
  have HB := Aside0.mk hb
  clear hb
  cases gk with
  | zero => exact absurd HA.out (by simp [sig_idx])
  | succ k1 =>
   have H := HA.out
   clear HA
   simp only [sig_idx] at H
   by_cases c2 : i < (xs.length : Int)
   ·rw [if_pos c2] at H
    have c2b0 := decide_eq_true c2
    by_cases c3 : 0 ≤ i
    ·rw [if_pos c3] at H
     have c3b0 := decide_eq_true c3
     obtain ⟨t, ht, H⟩ := Option.bind_eq_some_iff.1 H
     have HT := Aside0.mk ht
     clear ht
     obtain ⟨ad, rfl, hx⟩ := HR.out.at_ i c3 c2
     replace hx := pw_cell_below HB.out hx
     have p4 : 0 ≤ (i : Int) := c3
     have q4 : i < (xs.length : Int) := c2
     clear c2 c3
     cases t with
     | true =>
      rw [if_pos rfl] at H
      have H' := Aside0.mk H
      clear H
      go_wp2_with (go_at_call 64; (with_reducible refine (sig_named1.calls (rd xs i) true _ HT.out).mono ?_); rintro e w' ⟨rfl, hb⟩)
      go_roundg k1
      case measure => have := HK1.out; omega
      case rel => exact ⟨wrap64 (i + 1), by first | rfl | (simp; done), H', ⟨by have := HK1.out; omega⟩, HB.out.trans (hb.mono HB.out.size)⟩
     | false =>
      rw [if_neg (by simp)] at H
      obtain rfl := Option.some.inj H
      go_wp2_with (go_at_call 64; (with_reducible refine (sig_named1.calls (rd xs i) false _ HT.out).mono ?_); rintro e w' ⟨rfl, hb⟩)
      go_ret
      exact ⟨rfl, HB.out.trans (hb.mono HB.out.size)⟩
    ·rw [if_neg c3] at H
     exact absurd H (by simp)
   ·rw [if_neg c2] at H
    have c2b0 := decide_eq_false c2
    clear c2
    obtain rfl := Option.some.inj H
    go_wp2
    go_ret
    exact ⟨rfl, HB.out⟩
set_option maxHeartbeats 8000000 in
set_option maxRecDepth 100000 in
theorem sig_cont.calls (k : Nat) (A0 : Option Addr) (c0 n : Nat) (xs : List Int) (r : Int) (w : World) (hr0 : ReadsInt w .u8 A0 n xs) (h : sig_idx k xs 0 = some r) :
  Calls Tryz.prog 63 #[.slice A0 n c0, .func (.func 64) #[] #[]] w fun e w' => e = .returned (.bool (decide (0 ≤ r))) ∧ Below w.heap.size w w' := by
 obtain rfl := hr0.1
 have H' := Aside0.mk h
 have HR := Aside0.mk hr0
 clear h hr0
 go_enter Tryz.func63, Tryz.ntmps63
 go_wp2_with (go_at_call 73; (with_reducible refine (sig_idx.calls k A0 c0 _ xs r _ HR.out H'.out).mono ?_); rintro e w' ⟨rfl, hb⟩)
 go_ret
 exact ⟨rfl, hb⟩
def sig_named.f (a b : Int) (s : ByteArray) : Option Bool :=
 if s.size = 0 then some false else if 20 < s.size then some false else (sig_letters_has.f a b (bt s 0)).bind fun m => if m = true then (sig_idx 21 (bytesOf s) 0).bind fun r => some (!decide (0 ≤ r)) else some false
set_option maxHeartbeats 8000000 in
set_option maxRecDepth 100000 in
theorem sig_named.calls (a b : Int) (s : ByteArray) (r : Bool) (w : World) (h : sig_named.f a b s = some r) :
  Calls Tryz.prog 54 #[.string s, .func (.func 56) #[.agg #[.int .u8 a, .int .u8 b]] #[]] w fun e w' => e = .returned (.bool r) ∧ Below w.heap.size w w' := by
 unfold sig_named.f at h
 by_cases c1 : s.size = 0
 ·rw [if_pos c1] at h
  obtain rfl := Option.some.inj h
  have c2 : ((s.size : Int) == 0) = true := beq_iff_eq.mpr (by omega)
  clear h c1
  go_enter Tryz.func54, Tryz.ntmps54
  go_wp2
  go_ret
  exact ⟨rfl, Below.refl _ _⟩
 ·rw [if_neg c1] at h
  by_cases c3 : 20 < s.size
  ·rw [if_pos c3] at h
   obtain rfl := Option.some.inj h
   have c4 : ((s.size : Int) == 0) = false := beq_eq_false_iff_ne.mpr (by omega)
   have c5 : decide ((20 : Int) < (s.size : Int)) = true := decide_eq_true (by omega)
   have c7 : decide (20 < s.size) = true := decide_eq_true c3
   clear h c1 c3
   go_enter Tryz.func54, Tryz.ntmps54
   go_wp2
   go_ret
   exact ⟨rfl, Below.refl _ _⟩
  ·rw [if_neg c3] at h
   obtain ⟨m, hm, h⟩ := Option.bind_eq_some_iff.1 h
   have c4 : ((s.size : Int) == 0) = false := beq_eq_false_iff_ne.mpr (by omega)
   have c5 : decide ((20 : Int) < (s.size : Int)) = false := decide_eq_false (by omega)
   have c7 : decide (20 < s.size) = false := decide_eq_false c3
   have c6 : (0 : Int) < (s.size : Int) := by omega
   have HX : ∀ h : 0 < s.size, ((s[0]'h).toNat : Int) = bt s 0 := bt_at s 0
   have HM := Aside0.mk hm
   clear hm c1 c3
   cases m with
   | false =>
    rw [if_neg (by simp)] at h
    obtain rfl := Option.some.inj h
    clear h
    go_enter Tryz.func54, Tryz.ntmps54
    go_wp2_with (go_at_call 56; (with_reducible refine (sig_letters_has.calls a b (bt s 0) false _ HM.out).mono ?_); rintro e w' ⟨rfl, hb⟩)
    go_ret
    exact ⟨rfl, hb⟩
   | true =>
    rw [if_pos rfl] at h
    obtain ⟨n, hn, h⟩ := Option.bind_eq_some_iff.1 h
    obtain rfl := Option.some.inj h
    have HN := Aside0.mk hn
    have HL := Aside0.mk (show s.size ≤ 9223372036854775807 by have := of_decide_eq_false c5; omega)
    have kb := fun W => print_bytes (P := Tryz.prog) 9 76 5 Tryz.underlying9 Tryz.underlying76 Tryz.underlying5 s W
    clear hn h
    go_enter Tryz.func54, Tryz.ntmps54
    go_wp2_with (first | (go_at_call 56; (with_reducible refine (sig_letters_has.calls a b (bt s 0) true _ HM.out).mono ?_); rintro e w' ⟨rfl, hb⟩; have HB := Aside0.mk hb; clear hb) | (go_at_call 63; (with_reducible refine (sig_cont.calls 21 _ _ _ (bytesOf s) n _ (bytes_reads _ _ s HL.out) HN.out).mono ?_); rintro e w1 ⟨rfl, hb1⟩))
    go_ret
    exact ⟨rfl, (bytes_below HB.out HB.out.size _ s).trans (hb1.mono (bytes_below HB.out HB.out.size _ s).size)⟩
def sig_IsVar.f (a0 : ByteArray) : Option Bool := sig_named.f 65 90 a0
set_option maxHeartbeats 8000000 in
set_option maxRecDepth 100000 in
theorem sig_IsVar.calls (a0 : ByteArray) (r : Bool) (w : World) (h : sig_IsVar.f a0 = some r) :
  Calls Tryz.prog 33 #[.string a0] w fun e w' => e = .returned (.bool r) ∧ Below w.heap.size w w' := by
 have HH := Aside0.mk (show sig_named.f 65 90 a0 = some r from h)
 clear h
 go_enter Tryz.func33, Tryz.ntmps33
 go_wp2_with (first | (go_at_call 55; (with_reducible refine (sig_upper.calls 65 90 _ rfl).mono ?_); rintro e w' ⟨rfl, hb⟩; have HB := Aside0.mk hb; clear hb) | (go_at_call 54; (with_reducible refine (sig_named.calls 65 90 a0 r _ HH.out).mono ?_); rintro e w1 ⟨rfl, hb1⟩))
 go_ret
 exact ⟨rfl, HB.out.trans (hb1.mono HB.out.size)⟩
def sig_IsCon.f (a0 : ByteArray) : Option Bool := sig_named.f 97 122 a0
set_option maxHeartbeats 8000000 in
set_option maxRecDepth 100000 in
theorem sig_IsCon.calls (a0 : ByteArray) (r : Bool) (w : World) (h : sig_IsCon.f a0 = some r) :
  Calls Tryz.prog 34 #[.string a0] w fun e w' => e = .returned (.bool r) ∧ Below w.heap.size w w' := by
 have HH := Aside0.mk (show sig_named.f 97 122 a0 = some r from h)
 clear h
 go_enter Tryz.func34, Tryz.ntmps34
 go_wp2_with (first | (go_at_call 57; (with_reducible refine (sig_lower.calls 97 122 _ rfl).mono ?_); rintro e w' ⟨rfl, hb⟩; have HB := Aside0.mk hb; clear hb) | (go_at_call 54; (with_reducible refine (sig_named.calls 97 122 a0 r _ HH.out).mono ?_); rintro e w1 ⟨rfl, hb1⟩))
 go_ret
 exact ⟨rfl, HB.out.trans (hb1.mono HB.out.size)⟩
def expr_may.j0 : Nat → Int → Bool → Int → ByteArray → Int → Option (Bool)
 | 0, _, _, _, _, _ => none
 | k + 1, x4, x5, x113000, x113001, x113002 => if x5 = true then (if x113001.toList = ([] : List UInt8) then (some (x113002 == 0)) else (some false)) else (if x4 = 2 then ((sig_IsVar.f x113001).bind fun t113 => (if t113 = true then (some (x113002 == 0)) else (some false))) else (if x4 = 3 then ((sig_IsCon.f x113001).bind fun t114 => (if t114 = true then (if x113002 ≥ 0 then (some (decide (x113002 ≤ 8))) else (some false)) else (some false))) else (if x4 = 6 then ((sig_IsCon.f x113001).bind fun t115 => (if t115 = true then (if x113002 ≥ 1 then (some (decide (x113002 ≤ 8))) else (some false)) else (some false))) else (if x4 = 4 then (if x113001.toList = ([] : List UInt8) then (some (x113002 == 2)) else (some false)) else (if x4 = 5 then (if x113001.toList = ([] : List UInt8) then (some (x113002 == 2)) else (some false)) else (some false))))))
def expr_may.f (k : Nat) (a0_0 : Int) (a0_1 : ByteArray) (a0_2 : Int) : Option (Bool) := if a0_0 = 0 then (expr_may.j0 k a0_0 (a0_0 == 0) a0_0 a0_1 a0_2) else (expr_may.j0 k a0_0 (a0_0 == 1) a0_0 a0_1 a0_2)
theorem expr_may.mono_l : ∀ k, (∀ y0 y1 y2 y3 y4, LeO (expr_may.j0 k y0 y1 y2 y3 y4) (expr_may.j0 (k + 1) y0 y1 y2 y3 y4))
 | 0 => fun _ _ _ _ _ r h => by simp [expr_may.j0] at h
 | k + 1 => by
  have ih0 := expr_may.mono_l k
  ·intro y0 y1 y2 y3 y4
   unfold expr_may.j0
   repeat' first
   | (with_reducible exact ih0 _ _ _ _ _)
   | (with_reducible exact LeO.refl _)
   | (with_reducible exact LeO.none _)
   | (with_reducible refine LeO.ite ?_ ?_)
   | (with_reducible refine LeO.bind ?_ (fun _ => ?_))
   | exact ih0 _ _ _ _ _
   | exact LeO.none _
   | refine LeO.ite ?_ ?_
   | refine LeO.bind ?_ (fun _ => ?_)
theorem expr_may.mono : ∀ a0 a1 a2 k, LeO (expr_may.f k a0 a1 a2) (expr_may.f (k + 1) a0 a1 a2) := by
 intro a0 a1 a2 k
 have ih0 := expr_may.mono_l k
 unfold expr_may.f
 repeat' first
   | (with_reducible exact ih0 _ _ _ _ _)
   | (with_reducible exact LeO.refl _)
   | (with_reducible exact LeO.none _)
   | (with_reducible refine LeO.ite ?_ ?_)
   | (with_reducible refine LeO.bind ?_ (fun _ => ?_))
   | exact ih0 _ _ _ _ _
   | exact LeO.none _
   | refine LeO.ite ?_ ?_
   | refine LeO.bind ?_ (fun _ => ?_)
set_option maxHeartbeats 8000000 in
set_option maxRecDepth 100000 in
theorem expr_may.calls (k : Nat) (a0_0 : Int) (a0_1 : ByteArray) (a0_2 : Int) (r : Bool) (w : World) (h : expr_may.f k a0_0 a0_1 a0_2 = some r) :
  Calls Tryz.prog 21 #[.agg #[.int .i64 a0_0, .string a0_1, .int .i64 a0_2]] w fun e w' => e = .returned (.bool r) ∧ Below w.heap.size w w' := by
 have hu38 := Tryz.underlying38
 have HB := Aside0.mk (Below.refl w.heap.size w)
 have H : (if a0_0 = 0 then (expr_may.j0 k a0_0 (a0_0 == 0) a0_0 a0_1 a0_2) else (expr_may.j0 k a0_0 (a0_0 == 1) a0_0 a0_1 a0_2)) = some r := h
 clear h
 have HC2 := Aside0.mk H
 clear H
 go_enter Tryz.func21, Tryz.ntmps21
 go_upto_if 5 with (first | ((with_reducible refine gate_dst (N := 1) rfl ?_); refine box_event ?hg (N := 1) ?hd (cs := #[.int .i64 a0_0, .string a0_1, .int .i64 a0_2]) (t := 38) ?hr ?_; (case hd => rfl); (case hg => rfl); (case hr => first | (go_simp; done) | (go_simp; rfl)); intro gb112 hg w3 hbox hb; have n0_ := Aside0.mk (below_step Zz0 hb); have n1_ := Aside0.mk (hbox); have n2_ := Aside0.mk ((Zz4 : w.heap.size ≤ gb112)); have n3_ := Aside0.mk ((Zz4 : w.heap.size ≤ gb112)); clear HB; have HB := n0_; have BK112 := n1_; have GW112 := n2_; have GE112 := n3_; clear n0_ n1_ n2_ n3_; clear hb hbox hg; have hcz4_0 : w3.cell? ⟨gb112, 0, none⟩ = some (.int .i64 a0_0) := (blk_cell BK112.out 0).trans rfl; have hcz4_1 : w3.cell? ⟨gb112, 1, none⟩ = some (.string a0_1) := (blk_cell BK112.out 1).trans rfl; have hcz4_2 : w3.cell? ⟨gb112, 2, none⟩ = some (.int .i64 a0_2) := (blk_cell BK112.out 2).trans rfl; have hfz4_0 := blk_frozen BK112.out 0; have hfz4_1 := blk_frozen BK112.out 1; have hfz4_2 := blk_frozen BK112.out 2))
 (try simp only [Act.put, List.setIfInBounds_toArray, List.set_cons_zero, List.set_cons_succ])
 go_cut [5] (fun v5 wc => ∃ (kq : Nat) (x5_1 : Bool), v5 = .bool x5_1 ∧ Aside0 (expr_may.j0 kq a0_0 x5_1 a0_0 a0_1 a0_2 = some r) ∧ Aside0 (kq ≤ k) ∧ Aside0 (wc.heap[gb112]? = some (.cells #[.int .i64 a0_0, .string a0_1, .int .i64 a0_2] 38 (0, 0))) ∧ Aside0 (Below w.heap.size w wc))
 case first =>
  have H := HC2.out
  clear HC2
  by_cases c5 : a0_0 = 0
  ·rw [if_pos c5] at H
   have c5b0 := beq_iff_eq.mpr c5
   have c5b1 := bne_eq_false_iff_eq.mpr c5
   clear c5
   (first | rw [c5b0] | (simp only [i64_w, i32_w]; rw [c5b0]) | skip)
   have H' := Aside0.mk H
   clear H
   go_wp2
   go_meet
   case rel => exact ⟨_, ((a0_0 == 0)), Zz6, H', ⟨by first | omega | exact Nat.le_refl _⟩, ⟨by (with_reducible repeat (first | refine blk_drewN ?_ _ | refine blk_drew ?_ | refine blk_alloc ?_ _)); exact BK112.out⟩, ⟨by repeat (first | (with_reducible first | exact HB.out | apply below_alloc | apply pw_below_drewN | apply below_drew1 | refine below_set ?_ GE112.out) | exact HB.out)⟩⟩
  ·rw [if_neg c5] at H
   have c5b0 := beq_eq_false_iff_ne.mpr c5
   have c5b1 := bne_iff_ne.mpr c5
   (first | rw [c5b0] | (simp only [i64_w, i32_w]; rw [c5b0]) | skip)
   have H' := Aside0.mk H
   clear H
   go_wp2
   go_meet
   case rel => exact ⟨_, ((a0_0 == 1)), Zz6, H', ⟨by first | omega | exact Nat.le_refl _⟩, ⟨by (with_reducible repeat (first | refine blk_drewN ?_ _ | refine blk_drew ?_ | refine blk_alloc ?_ _)); exact BK112.out⟩, ⟨by repeat (first | (with_reducible first | exact HB.out | apply below_alloc | apply pw_below_drewN | apply below_drew1 | refine below_set ?_ GE112.out) | exact HB.out)⟩⟩
 case rest =>
  clear HC2
  try clear c2
  try clear p2
  try clear c5
  try clear c5b0
  try clear c5b1
  try clear hcz4_0
  try clear hcz4_1
  try clear hcz4_2
  try clear hfz4_0
  try clear hfz4_1
  try clear hfz4_2
  obtain ⟨kq, x5_1, rfl, HA, HJ1, BK112, HB⟩ := hcut
  cases kq with
  | zero => exact absurd HA.out (by simp [expr_may.j0])
  | succ kj1 =>
   have H := HA.out
   clear HA
   simp only [expr_may.j0] at H
   by_cases c6 : x5_1 = true
   ·subst c6
    have H1 : (if a0_1.toList = ([] : List UInt8) then (some (a0_2 == 0)) else (some false)) = some r := by rw [if_pos rfl] at H; exact H
    clear H
    have H := H1
    clear H1
    by_cases c7 : a0_1.toList = ([] : List UInt8)
    ·rw [if_pos c7] at H
     have c7b0 := beq_iff_eq.mpr c7
     have c7b1 := bne_eq_false_iff_eq.mpr c7
     clear c7
     obtain rfl := Option.some.inj H
     have hcz8_0 : wc.cell? ⟨gb112, 0, none⟩ = some (.int .i64 a0_0) := (blk_cell BK112.out 0).trans rfl
     have hcz8_1 : wc.cell? ⟨gb112, 1, none⟩ = some (.string a0_1) := (blk_cell BK112.out 1).trans rfl
     have hcz8_2 : wc.cell? ⟨gb112, 2, none⟩ = some (.int .i64 a0_2) := (blk_cell BK112.out 2).trans rfl
     have hfz8_0 := blk_frozen BK112.out 0
     have hfz8_1 := blk_frozen BK112.out 1
     have hfz8_2 := blk_frozen BK112.out 2
     go_wp2
     go_ret
     exact ⟨by first | rfl | (simp [errW_none, errW_some] <;> rfl) | (simp [*, errW_none, errW_some] <;> rfl), by repeat (first | (with_reducible first | exact HB.out | apply below_alloc | apply pw_below_drewN | apply below_drew1 | refine below_set ?_ GE112.out) | exact HB.out)⟩
    ·rw [if_neg c7] at H
     have c7b0 := beq_eq_false_iff_ne.mpr c7
     have c7b1 := bne_iff_ne.mpr c7
     obtain rfl := Option.some.inj H
     have hcz9_0 : wc.cell? ⟨gb112, 0, none⟩ = some (.int .i64 a0_0) := (blk_cell BK112.out 0).trans rfl
     have hcz9_1 : wc.cell? ⟨gb112, 1, none⟩ = some (.string a0_1) := (blk_cell BK112.out 1).trans rfl
     have hcz9_2 : wc.cell? ⟨gb112, 2, none⟩ = some (.int .i64 a0_2) := (blk_cell BK112.out 2).trans rfl
     have hfz9_0 := blk_frozen BK112.out 0
     have hfz9_1 := blk_frozen BK112.out 1
     have hfz9_2 := blk_frozen BK112.out 2
     go_wp2
     go_ret
     exact ⟨by first | rfl | (simp [errW_none, errW_some] <;> rfl) | (simp [*, errW_none, errW_some] <;> rfl), by repeat (first | (with_reducible first | exact HB.out | apply below_alloc | apply pw_below_drewN | apply below_drew1 | refine below_set ?_ GE112.out) | exact HB.out)⟩
   ·replace c6 := Bool.eq_false_iff.mpr c6
    subst c6
    have H1 : (if a0_0 = 2 then ((sig_IsVar.f a0_1).bind fun t113 => (if t113 = true then (some (a0_2 == 0)) else (some false))) else (if a0_0 = 3 then ((sig_IsCon.f a0_1).bind fun t114 => (if t114 = true then (if a0_2 ≥ 0 then (some (decide (a0_2 ≤ 8))) else (some false)) else (some false))) else (if a0_0 = 6 then ((sig_IsCon.f a0_1).bind fun t115 => (if t115 = true then (if a0_2 ≥ 1 then (some (decide (a0_2 ≤ 8))) else (some false)) else (some false))) else (if a0_0 = 4 then (if a0_1.toList = ([] : List UInt8) then (some (a0_2 == 2)) else (some false)) else (if a0_0 = 5 then (if a0_1.toList = ([] : List UInt8) then (some (a0_2 == 2)) else (some false)) else (some false)))))) = some r := by rw [if_neg (show ¬ (false = true) by decide)] at H; exact H
    clear H
    have H := H1
    clear H1
    by_cases c10 : a0_0 = 2
    ·rw [if_pos c10] at H
     have c10b0 := beq_iff_eq.mpr c10
     have c10b1 := bne_eq_false_iff_eq.mpr c10
     clear c10
     replace H := Option.bind_eq_some_iff.mp H
     obtain ⟨t113, A110, H⟩ := H
     replace H : (if t113 = true then (some (a0_2 == 0)) else (some false)) = some r := H
     have A11 := Aside0.mk A110
     clear A110
     by_cases c12 : t113 = true
     ·subst c12
      have H1 : (some (a0_2 == 0)) = some r := by rw [if_pos rfl] at H; exact H
      clear H
      have H := H1
      clear H1
      obtain rfl := Option.some.inj H
      have hcz13_0 : wc.cell? ⟨gb112, 0, none⟩ = some (.int .i64 a0_0) := (blk_cell BK112.out 0).trans rfl
      have hcz13_1 : wc.cell? ⟨gb112, 1, none⟩ = some (.string a0_1) := (blk_cell BK112.out 1).trans rfl
      have hcz13_2 : wc.cell? ⟨gb112, 2, none⟩ = some (.int .i64 a0_2) := (blk_cell BK112.out 2).trans rfl
      have hfz13_0 := blk_frozen BK112.out 0
      have hfz13_1 := blk_frozen BK112.out 1
      have hfz13_2 := blk_frozen BK112.out 2
      go_wp2_with (first | ((with_reducible refine gate_callee (f := 33) rfl ?_); refine goesL_ (some 20) rfl rfl Tryz.func33 (by kernel_rfl) rfl #[.string a0_1] rfl Zz2 ?_; (with_reducible refine (sig_IsVar.calls a0_1 true _ A11.out).mono ?_); rintro e w14 ⟨rfl, hb⟩; refine ⟨_, rfl, ?_⟩; have n0_ := Aside0.mk (blk_below (g := gb112) (o := .cells #[.int .i64 a0_0, .string a0_1, .int .i64 a0_2] 38 (0, 0)) (Zz33 BK112.out) hb); have n1_ := Aside0.mk (below_step Zz11 hb); clear BK112; clear HB; have BK112 := n0_; have HB := n1_; clear n0_ n1_; (try clear hb); (try clear hb2); (try clear hk); (try clear hi); have hcz15_0 : w14.cell? ⟨gb112, 0, none⟩ = some (.int .i64 a0_0) := (blk_cell BK112.out 0).trans rfl; have hcz15_1 : w14.cell? ⟨gb112, 1, none⟩ = some (.string a0_1) := (blk_cell BK112.out 1).trans rfl; have hcz15_2 : w14.cell? ⟨gb112, 2, none⟩ = some (.int .i64 a0_2) := (blk_cell BK112.out 2).trans rfl; have hfz15_0 := blk_frozen BK112.out 0; have hfz15_1 := blk_frozen BK112.out 1; have hfz15_2 := blk_frozen BK112.out 2))
      go_ret
      exact ⟨by first | rfl | (simp [errW_none, errW_some] <;> rfl) | (simp [*, errW_none, errW_some] <;> rfl), by repeat (first | (with_reducible first | exact HB.out | apply below_alloc | apply pw_below_drewN | apply below_drew1 | refine below_set ?_ GE112.out) | exact HB.out)⟩
     ·replace c12 := Bool.eq_false_iff.mpr c12
      subst c12
      have H1 : (some false) = some r := by rw [if_neg (show ¬ (false = true) by decide)] at H; exact H
      clear H
      have H := H1
      clear H1
      obtain rfl := Option.some.inj H
      have hcz16_0 : wc.cell? ⟨gb112, 0, none⟩ = some (.int .i64 a0_0) := (blk_cell BK112.out 0).trans rfl
      have hcz16_1 : wc.cell? ⟨gb112, 1, none⟩ = some (.string a0_1) := (blk_cell BK112.out 1).trans rfl
      have hcz16_2 : wc.cell? ⟨gb112, 2, none⟩ = some (.int .i64 a0_2) := (blk_cell BK112.out 2).trans rfl
      have hfz16_0 := blk_frozen BK112.out 0
      have hfz16_1 := blk_frozen BK112.out 1
      have hfz16_2 := blk_frozen BK112.out 2
      go_wp2_with (first | ((with_reducible refine gate_callee (f := 33) rfl ?_); refine goesL_ (some 20) rfl rfl Tryz.func33 (by kernel_rfl) rfl #[.string a0_1] rfl Zz2 ?_; (with_reducible refine (sig_IsVar.calls a0_1 false _ A11.out).mono ?_); rintro e w17 ⟨rfl, hb⟩; refine ⟨_, rfl, ?_⟩; have n0_ := Aside0.mk (blk_below (g := gb112) (o := .cells #[.int .i64 a0_0, .string a0_1, .int .i64 a0_2] 38 (0, 0)) (Zz33 BK112.out) hb); have n1_ := Aside0.mk (below_step Zz11 hb); clear BK112; clear HB; have BK112 := n0_; have HB := n1_; clear n0_ n1_; (try clear hb); (try clear hb2); (try clear hk); (try clear hi)))
      go_ret
      exact ⟨by first | rfl | (simp [errW_none, errW_some] <;> rfl) | (simp [*, errW_none, errW_some] <;> rfl), by repeat (first | (with_reducible first | exact HB.out | apply below_alloc | apply pw_below_drewN | apply below_drew1 | refine below_set ?_ GE112.out) | exact HB.out)⟩
    ·rw [if_neg c10] at H
     have c10b0 := beq_eq_false_iff_ne.mpr c10
     have c10b1 := bne_iff_ne.mpr c10
     by_cases c18 : a0_0 = 3
     ·rw [if_pos c18] at H
      have c18b0 := beq_iff_eq.mpr c18
      have c18b1 := bne_eq_false_iff_eq.mpr c18
      clear c18
      replace H := Option.bind_eq_some_iff.mp H
      obtain ⟨t114, A190, H⟩ := H
      replace H : (if t114 = true then (if a0_2 ≥ 0 then (some (decide (a0_2 ≤ 8))) else (some false)) else (some false)) = some r := H
      have A19 := Aside0.mk A190
      clear A190
      by_cases c20 : t114 = true
      ·subst c20
       have H1 : (if a0_2 ≥ 0 then (some (decide (a0_2 ≤ 8))) else (some false)) = some r := by rw [if_pos rfl] at H; exact H
       clear H
       have H := H1
       clear H1
       by_cases c21 : a0_2 ≥ 0
       ·rw [if_pos c21] at H
        have c21b0 : decide (0 ≤ a0_2) = true := decide_eq_true c21
        clear c21
        obtain rfl := Option.some.inj H
        have hcz22_0 : wc.cell? ⟨gb112, 0, none⟩ = some (.int .i64 a0_0) := (blk_cell BK112.out 0).trans rfl
        have hcz22_1 : wc.cell? ⟨gb112, 1, none⟩ = some (.string a0_1) := (blk_cell BK112.out 1).trans rfl
        have hcz22_2 : wc.cell? ⟨gb112, 2, none⟩ = some (.int .i64 a0_2) := (blk_cell BK112.out 2).trans rfl
        have hfz22_0 := blk_frozen BK112.out 0
        have hfz22_1 := blk_frozen BK112.out 1
        have hfz22_2 := blk_frozen BK112.out 2
        go_wp2_with (first | ((with_reducible refine gate_callee (f := 34) rfl ?_); refine goesL_ (some 30) rfl rfl Tryz.func34 (by kernel_rfl) rfl #[.string a0_1] rfl Zz2 ?_; (with_reducible refine (sig_IsCon.calls a0_1 true _ A19.out).mono ?_); rintro e w23 ⟨rfl, hb⟩; refine ⟨_, rfl, ?_⟩; have n0_ := Aside0.mk (blk_below (g := gb112) (o := .cells #[.int .i64 a0_0, .string a0_1, .int .i64 a0_2] 38 (0, 0)) (Zz33 BK112.out) hb); have n1_ := Aside0.mk (below_step Zz11 hb); clear BK112; clear HB; have BK112 := n0_; have HB := n1_; clear n0_ n1_; (try clear hb); (try clear hb2); (try clear hk); (try clear hi); have hcz24_0 : w23.cell? ⟨gb112, 0, none⟩ = some (.int .i64 a0_0) := (blk_cell BK112.out 0).trans rfl; have hcz24_1 : w23.cell? ⟨gb112, 1, none⟩ = some (.string a0_1) := (blk_cell BK112.out 1).trans rfl; have hcz24_2 : w23.cell? ⟨gb112, 2, none⟩ = some (.int .i64 a0_2) := (blk_cell BK112.out 2).trans rfl; have hfz24_0 := blk_frozen BK112.out 0; have hfz24_1 := blk_frozen BK112.out 1; have hfz24_2 := blk_frozen BK112.out 2))
        go_ret
        exact ⟨by first | rfl | (simp [errW_none, errW_some] <;> rfl) | (simp [*, errW_none, errW_some] <;> rfl), by repeat (first | (with_reducible first | exact HB.out | apply below_alloc | apply pw_below_drewN | apply below_drew1 | refine below_set ?_ GE112.out) | exact HB.out)⟩
       ·rw [if_neg c21] at H
        have c21b0 : decide (0 ≤ a0_2) = false := decide_eq_false c21
        clear c21
        obtain rfl := Option.some.inj H
        have hcz25_0 : wc.cell? ⟨gb112, 0, none⟩ = some (.int .i64 a0_0) := (blk_cell BK112.out 0).trans rfl
        have hcz25_1 : wc.cell? ⟨gb112, 1, none⟩ = some (.string a0_1) := (blk_cell BK112.out 1).trans rfl
        have hcz25_2 : wc.cell? ⟨gb112, 2, none⟩ = some (.int .i64 a0_2) := (blk_cell BK112.out 2).trans rfl
        have hfz25_0 := blk_frozen BK112.out 0
        have hfz25_1 := blk_frozen BK112.out 1
        have hfz25_2 := blk_frozen BK112.out 2
        go_wp2_with (first | ((with_reducible refine gate_callee (f := 34) rfl ?_); refine goesL_ (some 30) rfl rfl Tryz.func34 (by kernel_rfl) rfl #[.string a0_1] rfl Zz2 ?_; (with_reducible refine (sig_IsCon.calls a0_1 true _ A19.out).mono ?_); rintro e w26 ⟨rfl, hb⟩; refine ⟨_, rfl, ?_⟩; have n0_ := Aside0.mk (blk_below (g := gb112) (o := .cells #[.int .i64 a0_0, .string a0_1, .int .i64 a0_2] 38 (0, 0)) (Zz33 BK112.out) hb); have n1_ := Aside0.mk (below_step Zz11 hb); clear BK112; clear HB; have BK112 := n0_; have HB := n1_; clear n0_ n1_; (try clear hb); (try clear hb2); (try clear hk); (try clear hi); have hcz27_0 : w26.cell? ⟨gb112, 0, none⟩ = some (.int .i64 a0_0) := (blk_cell BK112.out 0).trans rfl; have hcz27_1 : w26.cell? ⟨gb112, 1, none⟩ = some (.string a0_1) := (blk_cell BK112.out 1).trans rfl; have hcz27_2 : w26.cell? ⟨gb112, 2, none⟩ = some (.int .i64 a0_2) := (blk_cell BK112.out 2).trans rfl; have hfz27_0 := blk_frozen BK112.out 0; have hfz27_1 := blk_frozen BK112.out 1; have hfz27_2 := blk_frozen BK112.out 2))
        go_ret
        exact ⟨by first | rfl | (simp [errW_none, errW_some] <;> rfl) | (simp [*, errW_none, errW_some] <;> rfl), by repeat (first | (with_reducible first | exact HB.out | apply below_alloc | apply pw_below_drewN | apply below_drew1 | refine below_set ?_ GE112.out) | exact HB.out)⟩
      ·replace c20 := Bool.eq_false_iff.mpr c20
       subst c20
       have H1 : (some false) = some r := by rw [if_neg (show ¬ (false = true) by decide)] at H; exact H
       clear H
       have H := H1
       clear H1
       obtain rfl := Option.some.inj H
       have hcz28_0 : wc.cell? ⟨gb112, 0, none⟩ = some (.int .i64 a0_0) := (blk_cell BK112.out 0).trans rfl
       have hcz28_1 : wc.cell? ⟨gb112, 1, none⟩ = some (.string a0_1) := (blk_cell BK112.out 1).trans rfl
       have hcz28_2 : wc.cell? ⟨gb112, 2, none⟩ = some (.int .i64 a0_2) := (blk_cell BK112.out 2).trans rfl
       have hfz28_0 := blk_frozen BK112.out 0
       have hfz28_1 := blk_frozen BK112.out 1
       have hfz28_2 := blk_frozen BK112.out 2
       go_wp2_with (first | ((with_reducible refine gate_callee (f := 34) rfl ?_); refine goesL_ (some 30) rfl rfl Tryz.func34 (by kernel_rfl) rfl #[.string a0_1] rfl Zz2 ?_; (with_reducible refine (sig_IsCon.calls a0_1 false _ A19.out).mono ?_); rintro e w29 ⟨rfl, hb⟩; refine ⟨_, rfl, ?_⟩; have n0_ := Aside0.mk (blk_below (g := gb112) (o := .cells #[.int .i64 a0_0, .string a0_1, .int .i64 a0_2] 38 (0, 0)) (Zz33 BK112.out) hb); have n1_ := Aside0.mk (below_step Zz11 hb); clear BK112; clear HB; have BK112 := n0_; have HB := n1_; clear n0_ n1_; (try clear hb); (try clear hb2); (try clear hk); (try clear hi)))
       go_ret
       exact ⟨by first | rfl | (simp [errW_none, errW_some] <;> rfl) | (simp [*, errW_none, errW_some] <;> rfl), by repeat (first | (with_reducible first | exact HB.out | apply below_alloc | apply pw_below_drewN | apply below_drew1 | refine below_set ?_ GE112.out) | exact HB.out)⟩
     ·rw [if_neg c18] at H
      have c18b0 := beq_eq_false_iff_ne.mpr c18
      have c18b1 := bne_iff_ne.mpr c18
      by_cases c30 : a0_0 = 6
      ·rw [if_pos c30] at H
       have c30b0 := beq_iff_eq.mpr c30
       have c30b1 := bne_eq_false_iff_eq.mpr c30
       clear c30
       replace H := Option.bind_eq_some_iff.mp H
       obtain ⟨t115, A310, H⟩ := H
       replace H : (if t115 = true then (if a0_2 ≥ 1 then (some (decide (a0_2 ≤ 8))) else (some false)) else (some false)) = some r := H
       have A31 := Aside0.mk A310
       clear A310
       by_cases c32 : t115 = true
       ·subst c32
        have H1 : (if a0_2 ≥ 1 then (some (decide (a0_2 ≤ 8))) else (some false)) = some r := by rw [if_pos rfl] at H; exact H
        clear H
        have H := H1
        clear H1
        by_cases c33 : a0_2 ≥ 1
        ·rw [if_pos c33] at H
         have c33b0 : decide (1 ≤ a0_2) = true := decide_eq_true c33
         clear c33
         obtain rfl := Option.some.inj H
         have hcz34_0 : wc.cell? ⟨gb112, 0, none⟩ = some (.int .i64 a0_0) := (blk_cell BK112.out 0).trans rfl
         have hcz34_1 : wc.cell? ⟨gb112, 1, none⟩ = some (.string a0_1) := (blk_cell BK112.out 1).trans rfl
         have hcz34_2 : wc.cell? ⟨gb112, 2, none⟩ = some (.int .i64 a0_2) := (blk_cell BK112.out 2).trans rfl
         have hfz34_0 := blk_frozen BK112.out 0
         have hfz34_1 := blk_frozen BK112.out 1
         have hfz34_2 := blk_frozen BK112.out 2
         go_wp2_with (first | ((with_reducible refine gate_callee (f := 34) rfl ?_); refine goesL_ (some 45) rfl rfl Tryz.func34 (by kernel_rfl) rfl #[.string a0_1] rfl Zz2 ?_; (with_reducible refine (sig_IsCon.calls a0_1 true _ A31.out).mono ?_); rintro e w35 ⟨rfl, hb⟩; refine ⟨_, rfl, ?_⟩; have n0_ := Aside0.mk (blk_below (g := gb112) (o := .cells #[.int .i64 a0_0, .string a0_1, .int .i64 a0_2] 38 (0, 0)) (Zz33 BK112.out) hb); have n1_ := Aside0.mk (below_step Zz11 hb); clear BK112; clear HB; have BK112 := n0_; have HB := n1_; clear n0_ n1_; (try clear hb); (try clear hb2); (try clear hk); (try clear hi); have hcz36_0 : w35.cell? ⟨gb112, 0, none⟩ = some (.int .i64 a0_0) := (blk_cell BK112.out 0).trans rfl; have hcz36_1 : w35.cell? ⟨gb112, 1, none⟩ = some (.string a0_1) := (blk_cell BK112.out 1).trans rfl; have hcz36_2 : w35.cell? ⟨gb112, 2, none⟩ = some (.int .i64 a0_2) := (blk_cell BK112.out 2).trans rfl; have hfz36_0 := blk_frozen BK112.out 0; have hfz36_1 := blk_frozen BK112.out 1; have hfz36_2 := blk_frozen BK112.out 2))
         go_ret
         exact ⟨by first | rfl | (simp [errW_none, errW_some] <;> rfl) | (simp [*, errW_none, errW_some] <;> rfl), by repeat (first | (with_reducible first | exact HB.out | apply below_alloc | apply pw_below_drewN | apply below_drew1 | refine below_set ?_ GE112.out) | exact HB.out)⟩
        ·rw [if_neg c33] at H
         have c33b0 : decide (1 ≤ a0_2) = false := decide_eq_false c33
         clear c33
         obtain rfl := Option.some.inj H
         have hcz37_0 : wc.cell? ⟨gb112, 0, none⟩ = some (.int .i64 a0_0) := (blk_cell BK112.out 0).trans rfl
         have hcz37_1 : wc.cell? ⟨gb112, 1, none⟩ = some (.string a0_1) := (blk_cell BK112.out 1).trans rfl
         have hcz37_2 : wc.cell? ⟨gb112, 2, none⟩ = some (.int .i64 a0_2) := (blk_cell BK112.out 2).trans rfl
         have hfz37_0 := blk_frozen BK112.out 0
         have hfz37_1 := blk_frozen BK112.out 1
         have hfz37_2 := blk_frozen BK112.out 2
         go_wp2_with (first | ((with_reducible refine gate_callee (f := 34) rfl ?_); refine goesL_ (some 45) rfl rfl Tryz.func34 (by kernel_rfl) rfl #[.string a0_1] rfl Zz2 ?_; (with_reducible refine (sig_IsCon.calls a0_1 true _ A31.out).mono ?_); rintro e w38 ⟨rfl, hb⟩; refine ⟨_, rfl, ?_⟩; have n0_ := Aside0.mk (blk_below (g := gb112) (o := .cells #[.int .i64 a0_0, .string a0_1, .int .i64 a0_2] 38 (0, 0)) (Zz33 BK112.out) hb); have n1_ := Aside0.mk (below_step Zz11 hb); clear BK112; clear HB; have BK112 := n0_; have HB := n1_; clear n0_ n1_; (try clear hb); (try clear hb2); (try clear hk); (try clear hi); have hcz39_0 : w38.cell? ⟨gb112, 0, none⟩ = some (.int .i64 a0_0) := (blk_cell BK112.out 0).trans rfl; have hcz39_1 : w38.cell? ⟨gb112, 1, none⟩ = some (.string a0_1) := (blk_cell BK112.out 1).trans rfl; have hcz39_2 : w38.cell? ⟨gb112, 2, none⟩ = some (.int .i64 a0_2) := (blk_cell BK112.out 2).trans rfl; have hfz39_0 := blk_frozen BK112.out 0; have hfz39_1 := blk_frozen BK112.out 1; have hfz39_2 := blk_frozen BK112.out 2))
         go_ret
         exact ⟨by first | rfl | (simp [errW_none, errW_some] <;> rfl) | (simp [*, errW_none, errW_some] <;> rfl), by repeat (first | (with_reducible first | exact HB.out | apply below_alloc | apply pw_below_drewN | apply below_drew1 | refine below_set ?_ GE112.out) | exact HB.out)⟩
       ·replace c32 := Bool.eq_false_iff.mpr c32
        subst c32
        have H1 : (some false) = some r := by rw [if_neg (show ¬ (false = true) by decide)] at H; exact H
        clear H
        have H := H1
        clear H1
        obtain rfl := Option.some.inj H
        have hcz40_0 : wc.cell? ⟨gb112, 0, none⟩ = some (.int .i64 a0_0) := (blk_cell BK112.out 0).trans rfl
        have hcz40_1 : wc.cell? ⟨gb112, 1, none⟩ = some (.string a0_1) := (blk_cell BK112.out 1).trans rfl
        have hcz40_2 : wc.cell? ⟨gb112, 2, none⟩ = some (.int .i64 a0_2) := (blk_cell BK112.out 2).trans rfl
        have hfz40_0 := blk_frozen BK112.out 0
        have hfz40_1 := blk_frozen BK112.out 1
        have hfz40_2 := blk_frozen BK112.out 2
        go_wp2_with (first | ((with_reducible refine gate_callee (f := 34) rfl ?_); refine goesL_ (some 45) rfl rfl Tryz.func34 (by kernel_rfl) rfl #[.string a0_1] rfl Zz2 ?_; (with_reducible refine (sig_IsCon.calls a0_1 false _ A31.out).mono ?_); rintro e w41 ⟨rfl, hb⟩; refine ⟨_, rfl, ?_⟩; have n0_ := Aside0.mk (blk_below (g := gb112) (o := .cells #[.int .i64 a0_0, .string a0_1, .int .i64 a0_2] 38 (0, 0)) (Zz33 BK112.out) hb); have n1_ := Aside0.mk (below_step Zz11 hb); clear BK112; clear HB; have BK112 := n0_; have HB := n1_; clear n0_ n1_; (try clear hb); (try clear hb2); (try clear hk); (try clear hi)))
        go_ret
        exact ⟨by first | rfl | (simp [errW_none, errW_some] <;> rfl) | (simp [*, errW_none, errW_some] <;> rfl), by repeat (first | (with_reducible first | exact HB.out | apply below_alloc | apply pw_below_drewN | apply below_drew1 | refine below_set ?_ GE112.out) | exact HB.out)⟩
      ·rw [if_neg c30] at H
       have c30b0 := beq_eq_false_iff_ne.mpr c30
       have c30b1 := bne_iff_ne.mpr c30
       by_cases c42 : a0_0 = 4
       ·rw [if_pos c42] at H
        have c42b0 := beq_iff_eq.mpr c42
        have c42b1 := bne_eq_false_iff_eq.mpr c42
        clear c42
        by_cases c43 : a0_1.toList = ([] : List UInt8)
        ·rw [if_pos c43] at H
         have c43b0 := beq_iff_eq.mpr c43
         have c43b1 := bne_eq_false_iff_eq.mpr c43
         clear c43
         obtain rfl := Option.some.inj H
         have hcz44_0 : wc.cell? ⟨gb112, 0, none⟩ = some (.int .i64 a0_0) := (blk_cell BK112.out 0).trans rfl
         have hcz44_1 : wc.cell? ⟨gb112, 1, none⟩ = some (.string a0_1) := (blk_cell BK112.out 1).trans rfl
         have hcz44_2 : wc.cell? ⟨gb112, 2, none⟩ = some (.int .i64 a0_2) := (blk_cell BK112.out 2).trans rfl
         have hfz44_0 := blk_frozen BK112.out 0
         have hfz44_1 := blk_frozen BK112.out 1
         have hfz44_2 := blk_frozen BK112.out 2
         go_wp2
         go_ret
         exact ⟨by first | rfl | (simp [errW_none, errW_some] <;> rfl) | (simp [*, errW_none, errW_some] <;> rfl), by repeat (first | (with_reducible first | exact HB.out | apply below_alloc | apply pw_below_drewN | apply below_drew1 | refine below_set ?_ GE112.out) | exact HB.out)⟩
        ·rw [if_neg c43] at H
         have c43b0 := beq_eq_false_iff_ne.mpr c43
         have c43b1 := bne_iff_ne.mpr c43
         obtain rfl := Option.some.inj H
         have hcz45_0 : wc.cell? ⟨gb112, 0, none⟩ = some (.int .i64 a0_0) := (blk_cell BK112.out 0).trans rfl
         have hcz45_1 : wc.cell? ⟨gb112, 1, none⟩ = some (.string a0_1) := (blk_cell BK112.out 1).trans rfl
         have hcz45_2 : wc.cell? ⟨gb112, 2, none⟩ = some (.int .i64 a0_2) := (blk_cell BK112.out 2).trans rfl
         have hfz45_0 := blk_frozen BK112.out 0
         have hfz45_1 := blk_frozen BK112.out 1
         have hfz45_2 := blk_frozen BK112.out 2
         go_wp2
         go_ret
         exact ⟨by first | rfl | (simp [errW_none, errW_some] <;> rfl) | (simp [*, errW_none, errW_some] <;> rfl), by repeat (first | (with_reducible first | exact HB.out | apply below_alloc | apply pw_below_drewN | apply below_drew1 | refine below_set ?_ GE112.out) | exact HB.out)⟩
       ·rw [if_neg c42] at H
        have c42b0 := beq_eq_false_iff_ne.mpr c42
        have c42b1 := bne_iff_ne.mpr c42
        by_cases c46 : a0_0 = 5
        ·rw [if_pos c46] at H
         have c46b0 := beq_iff_eq.mpr c46
         have c46b1 := bne_eq_false_iff_eq.mpr c46
         clear c46
         by_cases c47 : a0_1.toList = ([] : List UInt8)
         ·rw [if_pos c47] at H
          have c47b0 := beq_iff_eq.mpr c47
          have c47b1 := bne_eq_false_iff_eq.mpr c47
          clear c47
          obtain rfl := Option.some.inj H
          have hcz48_0 : wc.cell? ⟨gb112, 0, none⟩ = some (.int .i64 a0_0) := (blk_cell BK112.out 0).trans rfl
          have hcz48_1 : wc.cell? ⟨gb112, 1, none⟩ = some (.string a0_1) := (blk_cell BK112.out 1).trans rfl
          have hcz48_2 : wc.cell? ⟨gb112, 2, none⟩ = some (.int .i64 a0_2) := (blk_cell BK112.out 2).trans rfl
          have hfz48_0 := blk_frozen BK112.out 0
          have hfz48_1 := blk_frozen BK112.out 1
          have hfz48_2 := blk_frozen BK112.out 2
          go_wp2
          go_ret
          exact ⟨by first | rfl | (simp [errW_none, errW_some] <;> rfl) | (simp [*, errW_none, errW_some] <;> rfl), by repeat (first | (with_reducible first | exact HB.out | apply below_alloc | apply pw_below_drewN | apply below_drew1 | refine below_set ?_ GE112.out) | exact HB.out)⟩
         ·rw [if_neg c47] at H
          have c47b0 := beq_eq_false_iff_ne.mpr c47
          have c47b1 := bne_iff_ne.mpr c47
          obtain rfl := Option.some.inj H
          have hcz49_0 : wc.cell? ⟨gb112, 0, none⟩ = some (.int .i64 a0_0) := (blk_cell BK112.out 0).trans rfl
          have hcz49_1 : wc.cell? ⟨gb112, 1, none⟩ = some (.string a0_1) := (blk_cell BK112.out 1).trans rfl
          have hcz49_2 : wc.cell? ⟨gb112, 2, none⟩ = some (.int .i64 a0_2) := (blk_cell BK112.out 2).trans rfl
          have hfz49_0 := blk_frozen BK112.out 0
          have hfz49_1 := blk_frozen BK112.out 1
          have hfz49_2 := blk_frozen BK112.out 2
          go_wp2
          go_ret
          exact ⟨by first | rfl | (simp [errW_none, errW_some] <;> rfl) | (simp [*, errW_none, errW_some] <;> rfl), by repeat (first | (with_reducible first | exact HB.out | apply below_alloc | apply pw_below_drewN | apply below_drew1 | refine below_set ?_ GE112.out) | exact HB.out)⟩
        ·rw [if_neg c46] at H
         have c46b0 := beq_eq_false_iff_ne.mpr c46
         have c46b1 := bne_iff_ne.mpr c46
         obtain rfl := Option.some.inj H
         go_wp2
         go_ret
         exact ⟨by first | rfl | (simp [errW_none, errW_some] <;> rfl) | (simp [*, errW_none, errW_some] <;> rfl), by repeat (first | (with_reducible first | exact HB.out | apply below_alloc | apply pw_below_drewN | apply below_drew1 | refine below_set ?_ GE112.out) | exact HB.out)⟩
end Go.Proofs.YtniaooodlccmcaaGreatDoor.Q

