import Derived.Test.YtniaooodlccmcaaGreatDoorQx0
namespace Go.Proofs.YtniaooodlccmcaaGreatDoor.Q
open Go.RowKit Go.Proofs.YtniaooodlccmcaaGreatDoorW.PrintWords Go.Proofs.YtniaooodlccmcaaGreatDoorW.PrintLast Go.Proofs.YtniaooodlccmcaaGreatDoorW.PrintMore
theorem Zz0 {p : Prop} (h : p := by repeat (first | (with_reducible first | exact HB.out | apply below_alloc | apply pw_below_drewN | apply below_drew1) | exact HB.out)) : p := h
theorem Zz1 {p : Prop} (h : p := by first | (with_reducible assumption) | assumption) : p := h
theorem Zz2 {p : Prop} (h : p := by (try simp only [List.map_toArray, List.map_cons, List.map_nil]); first | done | rfl | (simp only [List.length_drop, List.length_take]; rfl)) : p := h
theorem Zz3 {p : Prop} (h : p := by (with_reducible repeat (first | apply Kd.R_alloc | apply Kd.R_drewN | apply Kd.R_drew)); exact (Kd.R_mono (Kd.R_far (p := ⟨gb215, 2, none⟩) (Kd.R_far (p := ⟨gb215, 1, none⟩) (Kd.R_far (p := ⟨gb215, 0, none⟩) (Kd.R_types HO_3.out BK215.out (by decide)) (fun _ hk => hk.2) (.int .i64 ((rd_T38 l0 x5_1).f0))) (fun _ hk => hk.2) (.string ((rd_T38 l0 x5_1).f1))) (fun _ hk => hk.2) (.int .i64 ((rd_T38 l0 x5_1).f2))) (fun _ h_ => h_.1))) : p := h
theorem Zz4 {p : Prop} (h : p := by rw [hg]; exact (below_size (by repeat (first | (with_reducible first | exact HB.out | apply below_alloc | apply pw_below_drewN | apply below_drew1) | exact HB.out)))) : p := h
theorem Zz5 {p : Prop} (h : p := by repeat (first | (with_reducible first | exact HB.out | apply below_alloc | apply pw_below_drewN | apply below_drew1 | refine below_set ?_ GE215.out) | exact HB.out)) : p := h
theorem Zz6 {p : Prop} (h : p := by first | rfl | (simp; done) | (simp [*]; done)) : p := h
theorem Zz7 {p : Prop} (h : p := by (with_reducible repeat (first | refine blk_drewN ?_ _ | refine blk_drew ?_ | refine blk_alloc ?_ _)); refine blk_put (cs := #[.int .i64 ((rd_T38 l0 x5_1).f0), .string ((rd_T38 l0 x5_1).f1), .int .i64 0]) ?_ 2 _ rfl; (with_reducible repeat (first | refine blk_drewN ?_ _ | refine blk_drew ?_ | refine blk_alloc ?_ _)); refine blk_put (cs := #[.int .i64 ((rd_T38 l0 x5_1).f0), .string (⟨#[]⟩ : ByteArray), .int .i64 0]) ?_ 1 _ rfl; (with_reducible repeat (first | refine blk_drewN ?_ _ | refine blk_drew ?_ | refine blk_alloc ?_ _)); refine blk_put (cs := #[.int .i64 0, .string (⟨#[]⟩ : ByteArray), .int .i64 0]) ?_ 0 _ rfl; (with_reducible repeat (first | refine blk_drewN ?_ _ | refine blk_drew ?_ | refine blk_alloc ?_ _)); exact BK215.out) : p := h
theorem Zz8 {p : Prop} (h : p := by (with_reducible repeat (first | apply Kd.R_alloc | apply Kd.R_drewN | apply Kd.R_drew)); exact (Kd.R_mono (Kd.R_far (p := ⟨gb215, 2, none⟩) (Kd.R_far (p := ⟨gb215, 1, none⟩) (Kd.R_far (p := ⟨gb215, 0, none⟩) (Kd.R_types HO_4.out BK215.out (by decide)) (fun _ hk => hk.2) (.int .i64 ((rd_T38 l0 x5_1).f0))) (fun _ hk => hk.2) (.string ((rd_T38 l0 x5_1).f1))) (fun _ hk => hk.2) (.int .i64 ((rd_T38 l0 x5_1).f2))) (fun _ h_ => h_.1))) : p := h
theorem Zz9 {p : Prop} (h : p := by have : (0 : Int) < (a0.size : Int) := of_decide_eq_true (by first | (with_reducible assumption) | assumption); omega) : p := h
theorem Zz10 {p : Prop} (h : p := by (with_reducible repeat (first | refine blk_drewN ?_ _ | refine blk_drew ?_ | refine blk_alloc ?_ _)); refine blk_put (cs := #[.int .i64 ((rd_T38 l0 x10_1).f0), .string ((rd_T38 l0 x10_1).f1), .int .i64 0]) ?_ 2 _ rfl; (with_reducible repeat (first | refine blk_drewN ?_ _ | refine blk_drew ?_ | refine blk_alloc ?_ _)); refine blk_put (cs := #[.int .i64 ((rd_T38 l0 x10_1).f0), .string (⟨#[]⟩ : ByteArray), .int .i64 0]) ?_ 1 _ rfl; (with_reducible repeat (first | refine blk_drewN ?_ _ | refine blk_drew ?_ | refine blk_alloc ?_ _)); refine blk_put (cs := #[.int .i64 0, .string (⟨#[]⟩ : ByteArray), .int .i64 0]) ?_ 0 _ rfl; (with_reducible repeat (first | refine blk_drewN ?_ _ | refine blk_drew ?_ | refine blk_alloc ?_ _)); exact BK129.out) : p := h
theorem Zz11 {p : Prop} (h : p := by repeat (first | (with_reducible first | exact HB.out | apply below_alloc | apply pw_below_drewN | apply below_drew1 | refine below_set ?_ GE112.out) | exact HB.out)) : p := h
theorem Zz12 {p : Prop} (h : p := by repeat (first | (with_reducible first | exact HB.out | apply below_alloc | apply pw_below_drewN | apply below_drew1 | refine below_set ?_ GE129.out) | exact HB.out)) : p := h
theorem Zz14 {p : Prop} (h : p := by rw [B_size]; omega) : p := h
theorem Zz15 {p : Prop} (h : p := by show Value.slice (some ⟨w7.heap.size, 0, none⟩) 1 1 = _; simp) : p := h
theorem Zz16 {p : Prop} (h : p := by simp only [List.map_toArray, List.map_cons, List.map_nil]; rfl) : p := h
theorem Zz17 {p : Prop} (h : p := by (try simp only [List.map_toArray, List.map_cons, List.map_nil]); first | done | (rw [show y119.length = x3_1.length from (Kd.R_reads' HO_3.out).1.symm] <;> rfl) | rfl | (simp only [List.length_drop, List.length_take]; rfl)) : p := h
theorem Zz18 {p : Prop} (h : p := by have := HSZ7.out; simpa using this) : p := h
theorem Zz19 {p : Prop} (h : p := by decide +kernel) : p := h
theorem Zz20 {p : Prop} (h : p := by simp only [List.map_toArray, List.map_cons, List.map_nil, List.append_toArray, List.cons_append, List.nil_append]; rfl) : p := h
theorem Zz21 {p : Prop} (h : p := by simp only [List.length_append, List.length_cons, List.length_nil]; omega) : p := h
theorem Zz22 {p : Prop} (h : p := by simp only [List.length_append]; omega) : p := h
theorem Zz23 {p : Prop} (h : p := by rw [B_cat, B_size, B_size, List.length_append]; simp only [List.length_cons, List.length_nil]; omega) : p := h
theorem Zz24 {p : Prop} (h : p := by rw [B_cat, B_size, List.length_append]; simp only [List.length_cons, List.length_nil]; omega) : p := h
theorem Zz25 {p : Prop} (h : p := by rw [txL_len]; omega) : p := h
theorem Zz26 {p : Prop} (h : p := by show Value.slice (some ⟨w.heap.size + 1, 0, none⟩) 1 1 = _; simp) : p := h
theorem Zz27 {p : Prop} (h : p := by rw [hw]; exact below_set (HB.out) GB9.out) : p := h
theorem Zz28 {p : Prop} (h : p := by show (out.length + 1) * 32 ≤ _; omega) : p := h
theorem Zz29 {p : Prop} (h : p := by show j < 6; omega) : p := h
theorem Zz30 {p : Prop} (h : p := by have := hv.1; omega) : p := h
theorem Zz31 {p q : Prop} (x : q) (h : q → p := by intro z_; (with_reducible repeat (first | apply Kd.R_alloc | apply Kd.R_drewN | apply Kd.R_drew)); exact z_) : p := h x
theorem Zz33 {p q : Prop} (x : q) (h : q → p := by intro z_; (with_reducible repeat (first | refine blk_drewN ?_ _ | refine blk_drew ?_ | refine blk_alloc ?_ _)); exact z_) : p := h x
end Go.Proofs.YtniaooodlccmcaaGreatDoor.Q
