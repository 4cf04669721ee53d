import Derived.Test.YtniaooodlccmcaaGreatDoorDz
import Derived.Test.YtniaooodlccmcaaGreatDoorQx0
import Derived.Test.YtniaooodlccmcaaGreatDoorQx2
import Derived.Test.YtniaooodlccmcaaGreatDoorQx3
namespace Go.Proofs.YtniaooodlccmcaaGreatDoor.Q
open Go.RowKit Go.Proofs.YtniaooodlccmcaaGreatDoorW.PrintWords Go.Proofs.YtniaooodlccmcaaGreatDoorW.PrintLast Go.Proofs.YtniaooodlccmcaaGreatDoorW.PrintMore
attribute [local go_sem] max2_int min2_int max_two min_two max_three min_three max_four min_four
set_option linter.unusedVariables false
set_option linter.unusedSimpArgs false
def WR (W : World) (g : Nat) (l : List S38) (st : List Int) (tx : List ByteArray) (dp : List Int) : Prop := ∃ A0 c0 A1 c1 A2 c2 A3 c3, W.heap[g]? = some (.cells #[.slice A0 l.length c0, .slice A1 st.length c1, .slice A2 tx.length c2, .slice A3 dp.length c3] 64 (0, 0)) ∧ Kd.C k38 W A0 l.length l ∧ Kd.C (Kd.int .i64) W A1 st.length st ∧ Kd.C Kd.string W A2 tx.length tx ∧ Kd.C (Kd.int .i64) W A3 dp.length dp ∧ l.length ≤ c0 ∧ st.length ≤ c1
theorem WR.below {W W1 : World} {g : Nat} {l : List S38} {st : List Int} {tx : List ByteArray} {dp : List Int} (h : WR W g l st tx dp) (hb : Below W.heap.size W W1) : WR W1 g l st tx dp := by
 obtain ⟨A0, c0, A1, c1, A2, c2, A3, c3, hg, h0, h1, h2, h3, h4, h5⟩ := h
 exact ⟨A0, c0, A1, c1, A2, c2, A3, c3, blk_grown hg (grown_of_below hb none) (by simp), Kd.C_below h0 hb, Kd.C_below h1 hb, Kd.C_below h2 hb, Kd.C_below h3 hb, h4, h5⟩
theorem big_no {n : Nat} (h : n ≤ 9223372036854775807) : (9223372036854775807 < n) = False := eq_false (Nat.not_lt.2 h)
def kidT (tx : List ByteArray) (dp : List Int) (i : Int) (br : Bool) : Option (ByteArray × Int) :=
 if 0 ≤ i ∧ i < (tx.length : Int) ∧ i < (dp.length : Int) ∧ (rdOf ByteArray.empty tx i).size ≤ 1000000000000 then some (if br = true then ((⟨#[40]⟩ : ByteArray) ++ rdOf ByteArray.empty tx i ++ (⟨#[41]⟩ : ByteArray), wrap64 (rd dp i + 1)) else (rdOf ByteArray.empty tx i, rd dp i)) else none
set_option maxHeartbeats 8000000 in
set_option maxRecDepth 100000 in
theorem w_kid (w : World) (g : Nat) (l : List S38) (st : List Int) (tx : List ByteArray) (dp : List Int) (i : Int) (br : Bool) (s : ByteArray) (n : Int) (hW : WR w g l st tx dp) (h : kidT tx dp i br = some (s, n)) :
  Calls Tryz.prog 58 #[.pointer (some ⟨g, 0, none⟩), .int .i64 i, .bool br] w fun en w' => en = .returned (.tuple #[.string s, .int .i64 n]) ∧ Below w.heap.size w w' := by
 unfold kidT at h
 split at h
 case isFalse => cases h
 rename_i hc
 obtain ⟨p0, p1, p2, p3⟩ := hc
 obtain ⟨A0, c0, A1, c1, A2, c2, A3, c3, hg, h0, h1, h2, h3, h4, h5⟩ := hW
 obtain ⟨ad2, rfl, hx⟩ := Kd.at_string h2 i p0 p1
 obtain ⟨ad3, rfl, hy⟩ := Kd.at_int h3 i p0 p2
 obtain ⟨t, ht⟩ : ∃ t, rdOf ByteArray.empty tx i = t := ⟨_, rfl⟩
 obtain ⟨d, hd⟩ : ∃ d, rd dp i = d := ⟨_, rfl⟩
 rw [ht, hd] at h
 rw [ht] at hx p3
 rw [hd] at hy
 have k2 := blk_cell hg 2
 have k3 := blk_cell hg 3
 replace k2 : w.cell? ⟨g, 2, none⟩ = some (.slice (some ad2) tx.length c2) := k2
 replace k3 : w.cell? ⟨g, 3, none⟩ = some (.slice (some ad3) dp.length c3) := k3
 have HX := Aside0.mk hx
 have HY := Aside0.mk hy
 have HP := Aside0.mk p3
 clear ht hd hg h0 h1 h2 h3 h4 h5 hx hy p3
 cases br with
 | true =>
  rw [if_pos rfl] at h
  obtain ⟨rfl, rfl⟩ := Prod.mk.inj (Option.some.inj h)
  clear h
  have z1 : (9223372036854775807 < 1 + t.size) = False := big_no (by have := HP.out; omega)
  have z2 : (9223372036854775807 < 1 + t.size + 1) = False := big_no (by have := HP.out; omega)
  go_enter Tryz.func58, Tryz.ntmps58
  go_wp2
  refine start_ (n := 19) (S := fun w' => w'.cell? ⟨g, 2, none⟩ = some (.slice (some ad2) tx.length c2) ∧ w'.cell? (ad2.add i.toNat) = some (.string t) ∧ w'.cell? ⟨g, 3, none⟩ = some (.slice (some ad3) dp.length c3) ∧ w'.cell? (ad3.add i.toNat) = some (.int .i64 d)) (ds := []) #[false, false, false, false, false, false, false, false, false, false, false, false, false, false, false, false, false, false, false] (by kernel_rfl) rfl rfl ⟨k2, HX.out, k3, HY.out⟩ (fun hHeld => ?_)
  refine pure_ (i := 0) (N := some 9) (v := ?_) (a' := ?_) #[true, false, false, false, false, false, false, false, false, false, false, false, false, false, false, false, false, false, false] rfl rfl (by kernel_rfl) (fun _ _ _ h => h) (Or.inl ⟨by rfl, ?_⟩) ?_ ?_
  rotate_left
  ·intro w'
   go_simp
   with_reducible rfl
  rotate_left
  ·simp only [Act.put, List.setIfInBounds_toArray, List.set_cons_zero, List.set_cons_succ, i64_w, i32_w]
   rfl
  refine pure_ (i := 1) (N := some 10) (v := ?_) (a' := ?_) #[true, true, false, false, false, false, false, false, false, false, false, false, false, false, false, false, false, false, false] rfl rfl (by kernel_rfl) (fun _ _ _ h => h) (Or.inl ⟨by rfl, ?_⟩) ?_ ?_
  rotate_left
  ·intro w'
   go_simp
   with_reducible rfl
  rotate_left
  ·simp only [Act.put, List.setIfInBounds_toArray, List.set_cons_zero, List.set_cons_succ, i64_w, i32_w]
   rfl
  refine pure_ (i := 2) (N := some 11) (v := ?_) (a' := ?_) #[true, true, true, false, false, false, false, false, false, false, false, false, false, false, false, false, false, false, false] rfl rfl (by kernel_rfl) (fun _ _ _ h => h) (Or.inl ⟨by rfl, ?_⟩) ?_ ?_
  rotate_left
  ·intro w'
   go_simp
   with_reducible rfl
  rotate_left
  ·simp only [Act.put, List.setIfInBounds_toArray, List.set_cons_zero, List.set_cons_succ, i64_w, i32_w]
   rfl
  refine pure_ (i := 4) (N := some 13) (v := ?_) (a' := ?_) #[true, true, true, false, true, false, false, false, false, false, false, false, false, false, false, false, false, false, false] rfl rfl (by kernel_rfl) (fun _ _ _ h => h) (Or.inl ⟨by rfl, ?_⟩) ?_ ?_
  rotate_left
  ·intro w'
   go_simp
   with_reducible rfl
  rotate_left
  ·simp only [Act.put, List.setIfInBounds_toArray, List.set_cons_zero, List.set_cons_succ, i64_w, i32_w]
   rfl
  refine pure_ (i := 9) (N := some 18) (v := ?_) (a' := ?_) #[true, true, true, false, true, false, false, false, false, true, false, false, false, false, false, false, false, false, false] rfl rfl (by kernel_rfl) (fun _ _ _ h => h) (Or.inl ⟨by rfl, ?_⟩) ?_ ?_
  rotate_left
  ·intro w'
   go_simp
   with_reducible rfl
  rotate_left
  ·simp only [Act.put, List.setIfInBounds_toArray, List.set_cons_zero, List.set_cons_succ, i64_w, i32_w]
   rfl
  refine pure_ (i := 10) (N := some 19) (v := ?_) (a' := ?_) #[true, true, true, false, true, false, false, false, false, true, true, false, false, false, false, false, false, false, false] rfl rfl (by kernel_rfl) (fun _ _ _ h => h) (Or.inl ⟨by rfl, ?_⟩) ?_ ?_
  rotate_left
  ·intro w'
   go_simp
   with_reducible rfl
  rotate_left
  ·simp only [Act.put, List.setIfInBounds_toArray, List.set_cons_zero, List.set_cons_succ, i64_w, i32_w]
   rfl
  refine pure_ (i := 11) (N := some 20) (v := ?_) (a' := ?_) #[true, true, true, false, true, false, false, false, false, true, true, true, false, false, false, false, false, false, false] rfl rfl (by kernel_rfl) (fun _ _ _ h => h) (Or.inl ⟨by rfl, ?_⟩) ?_ ?_
  rotate_left
  ·intro w'
   go_simp
   with_reducible rfl
  rotate_left
  ·simp only [Act.put, List.setIfInBounds_toArray, List.set_cons_zero, List.set_cons_succ, i64_w, i32_w]
   rfl
  refine pure_ (i := 13) (N := some 22) (v := ?_) (a' := ?_) #[true, true, true, false, true, false, false, false, false, true, true, true, false, true, false, false, false, false, false] rfl rfl (by kernel_rfl) (fun _ _ _ h => h) (Or.inl ⟨by rfl, ?_⟩) ?_ ?_
  rotate_left
  ·intro w'
   go_simp
   with_reducible rfl
  rotate_left
  ·simp only [Act.put, List.setIfInBounds_toArray, List.set_cons_zero, List.set_cons_succ, i64_w, i32_w]
   rfl
  refine take_ (i := 3) (N := some 12) (v := ?_) (a' := ?_) #[true, true, true, true, true, false, false, false, false, true, true, true, false, true, false, false, false, false, false] rfl rfl (by kernel_rfl) (fun _ _ _ h => h) (Or.inl ⟨by rfl, ?_⟩) hHeld ?_ ?_
  rotate_left
  ·rintro w' ⟨s0, s1, s2, s3⟩
   go_simp
   with_reducible rfl
  rotate_left
  ·simp only [Act.put, List.setIfInBounds_toArray, List.set_cons_zero, List.set_cons_succ, i64_w, i32_w]
   rfl
  refine pure_ (i := 5) (N := some 14) (v := ?_) (a' := ?_) #[true, true, true, true, true, true, false, false, false, true, true, true, false, true, false, false, false, false, false] rfl rfl (by kernel_rfl) (fun _ _ _ h => h) (Or.inl ⟨by rfl, ?_⟩) ?_ ?_
  rotate_left
  ·intro w'
   go_simp
   with_reducible rfl
  rotate_left
  ·simp only [Act.put, List.setIfInBounds_toArray, List.set_cons_zero, List.set_cons_succ, i64_w, i32_w]
   rfl
  refine take_ (i := 6) (N := some 15) (v := ?_) (a' := ?_) #[true, true, true, true, true, true, true, false, false, true, true, true, false, true, false, false, false, false, false] rfl rfl (by kernel_rfl) (fun _ _ _ h => h) (Or.inl ⟨by rfl, ?_⟩) hHeld ?_ ?_
  rotate_left
  ·rintro w' ⟨s0, s1, s2, s3⟩
   go_simp
   with_reducible rfl
  rotate_left
  ·simp only [Act.put, List.setIfInBounds_toArray, List.set_cons_zero, List.set_cons_succ, i64_w, i32_w]
   rfl
  refine pure_ (i := 7) (N := some 16) (v := ?_) (a' := ?_) #[true, true, true, true, true, true, true, true, false, true, true, true, false, true, false, false, false, false, false] rfl rfl (by kernel_rfl) (fun _ _ _ h => h) (Or.inl ⟨by rfl, ?_⟩) ?_ ?_
  rotate_left
  ·intro w'
   go_simp
   with_reducible rfl
  rotate_left
  ·simp only [Act.put, List.setIfInBounds_toArray, List.set_cons_zero, List.set_cons_succ, i64_w, i32_w]
   rfl
  refine pure_ (i := 8) (N := some 17) (v := ?_) (a' := ?_) #[true, true, true, true, true, true, true, true, true, true, true, true, false, true, false, false, false, false, false] rfl rfl (by kernel_rfl) (fun _ _ _ h => h) (Or.inl ⟨by rfl, ?_⟩) ?_ ?_
  rotate_left
  ·intro w'
   go_simp
   with_reducible rfl
  rotate_left
  ·simp only [Act.put, List.setIfInBounds_toArray, List.set_cons_zero, List.set_cons_succ, i64_w, i32_w]
   rfl
  refine pure_ (i := 17) (N := some 6) (v := ?_) (a' := ?_) #[true, true, true, true, true, true, true, true, true, true, true, true, false, true, false, false, false, true, false] rfl rfl (by kernel_rfl) (fun _ _ _ h => h) (Or.inl ⟨by rfl, ?_⟩) ?_ ?_
  rotate_left
  ·intro w'
   go_simp
   with_reducible rfl
  rotate_left
  ·simp only [Act.put, List.setIfInBounds_toArray, List.set_cons_zero, List.set_cons_succ, i64_w, i32_w]
   rfl
  refine take_ (i := 12) (N := some 21) (v := ?_) (a' := ?_) #[true, true, true, true, true, true, true, true, true, true, true, true, true, true, false, false, false, true, false] rfl rfl (by kernel_rfl) (fun _ _ _ h => h) (Or.inl ⟨by rfl, ?_⟩) hHeld ?_ ?_
  rotate_left
  ·rintro w' ⟨s0, s1, s2, s3⟩
   go_simp
   with_reducible rfl
  rotate_left
  ·simp only [Act.put, List.setIfInBounds_toArray, List.set_cons_zero, List.set_cons_succ, i64_w, i32_w]
   rfl
  refine pure_ (i := 14) (N := some 23) (v := ?_) (a' := ?_) #[true, true, true, true, true, true, true, true, true, true, true, true, true, true, true, false, false, true, false] rfl rfl (by kernel_rfl) (fun _ _ _ h => h) (Or.inl ⟨by rfl, ?_⟩) ?_ ?_
  rotate_left
  ·intro w'
   go_simp
   with_reducible rfl
  rotate_left
  ·simp only [Act.put, List.setIfInBounds_toArray, List.set_cons_zero, List.set_cons_succ, i64_w, i32_w]
   rfl
  refine take_ (i := 15) (N := some 24) (v := ?_) (a' := ?_) #[true, true, true, true, true, true, true, true, true, true, true, true, true, true, true, true, false, true, false] rfl rfl (by kernel_rfl) (fun _ _ _ h => h) (Or.inl ⟨by rfl, ?_⟩) hHeld ?_ ?_
  rotate_left
  ·rintro w' ⟨s0, s1, s2, s3⟩
   go_simp
   with_reducible rfl
  rotate_left
  ·simp only [Act.put, List.setIfInBounds_toArray, List.set_cons_zero, List.set_cons_succ, i64_w, i32_w]
   rfl
  refine pure_ (i := 16) (N := some 25) (v := ?_) (a' := ?_) #[true, true, true, true, true, true, true, true, true, true, true, true, true, true, true, true, true, true, false] rfl rfl (by kernel_rfl) (fun _ _ _ h => h) (Or.inl ⟨by rfl, ?_⟩) ?_ ?_
  rotate_left
  ·intro w'
   go_simp
   with_reducible rfl
  rotate_left
  ·simp only [Act.put, List.setIfInBounds_toArray, List.set_cons_zero, List.set_cons_succ, i64_w, i32_w]
   rfl
  refine pure_ (i := 18) (N := some 7) (v := ?_) (a' := ?_) #[true, true, true, true, true, true, true, true, true, true, true, true, true, true, true, true, true, true, true] rfl rfl (by kernel_rfl) (fun _ _ _ h => h) (Or.inl ⟨by rfl, ?_⟩) ?_ ?_
  rotate_left
  ·intro w'
   go_simp
   with_reducible rfl
  rotate_left
  ·simp only [Act.put, List.setIfInBounds_toArray, List.set_cons_zero, List.set_cons_succ, i64_w, i32_w]
   rfl
  refine done_ (by kernel_rfl) ?_
  go_wp2
  go_ret2
  exact ⟨rfl, below_drew (Below.refl _ _)⟩
 | false =>
  rw [if_neg (by simp)] at h
  obtain ⟨rfl, rfl⟩ := Prod.mk.inj (Option.some.inj h)
  clear h
  go_enter Tryz.func58, Tryz.ntmps58
  go_wp2
  refine start_ (n := 16) (S := fun w' => w'.cell? ⟨g, 2, none⟩ = some (.slice (some ad2) tx.length c2) ∧ w'.cell? (ad2.add i.toNat) = some (.string t) ∧ w'.cell? ⟨g, 3, none⟩ = some (.slice (some ad3) dp.length c3) ∧ w'.cell? (ad3.add i.toNat) = some (.int .i64 d)) (ds := []) #[false, false, false, false, false, false, false, false, false, false, false, false, false, false, false, false] (by kernel_rfl) rfl rfl ⟨k2, HX.out, k3, HY.out⟩ (fun hHeld => ?_)
  refine pure_ (i := 0) (N := some 26) (v := ?_) (a' := ?_) #[true, false, false, false, false, false, false, false, false, false, false, false, false, false, false, false] rfl rfl (by kernel_rfl) (fun _ _ _ h => h) (Or.inl ⟨by rfl, ?_⟩) ?_ ?_
  rotate_left
  ·intro w'
   go_simp
   with_reducible rfl
  rotate_left
  ·simp only [Act.put, List.setIfInBounds_toArray, List.set_cons_zero, List.set_cons_succ, i64_w, i32_w]
   rfl
  refine pure_ (i := 1) (N := some 27) (v := ?_) (a' := ?_) #[true, true, false, false, false, false, false, false, false, false, false, false, false, false, false, false] rfl rfl (by kernel_rfl) (fun _ _ _ h => h) (Or.inl ⟨by rfl, ?_⟩) ?_ ?_
  rotate_left
  ·intro w'
   go_simp
   with_reducible rfl
  rotate_left
  ·simp only [Act.put, List.setIfInBounds_toArray, List.set_cons_zero, List.set_cons_succ, i64_w, i32_w]
   rfl
  refine pure_ (i := 2) (N := some 28) (v := ?_) (a' := ?_) #[true, true, true, false, false, false, false, false, false, false, false, false, false, false, false, false] rfl rfl (by kernel_rfl) (fun _ _ _ h => h) (Or.inl ⟨by rfl, ?_⟩) ?_ ?_
  rotate_left
  ·intro w'
   go_simp
   with_reducible rfl
  rotate_left
  ·simp only [Act.put, List.setIfInBounds_toArray, List.set_cons_zero, List.set_cons_succ, i64_w, i32_w]
   rfl
  refine pure_ (i := 4) (N := some 30) (v := ?_) (a' := ?_) #[true, true, true, false, true, false, false, false, false, false, false, false, false, false, false, false] rfl rfl (by kernel_rfl) (fun _ _ _ h => h) (Or.inl ⟨by rfl, ?_⟩) ?_ ?_
  rotate_left
  ·intro w'
   go_simp
   with_reducible rfl
  rotate_left
  ·simp only [Act.put, List.setIfInBounds_toArray, List.set_cons_zero, List.set_cons_succ, i64_w, i32_w]
   rfl
  refine pure_ (i := 7) (N := some 33) (v := ?_) (a' := ?_) #[true, true, true, false, true, false, false, true, false, false, false, false, false, false, false, false] rfl rfl (by kernel_rfl) (fun _ _ _ h => h) (Or.inl ⟨by rfl, ?_⟩) ?_ ?_
  rotate_left
  ·intro w'
   go_simp
   with_reducible rfl
  rotate_left
  ·simp only [Act.put, List.setIfInBounds_toArray, List.set_cons_zero, List.set_cons_succ, i64_w, i32_w]
   rfl
  refine pure_ (i := 8) (N := some 34) (v := ?_) (a' := ?_) #[true, true, true, false, true, false, false, true, true, false, false, false, false, false, false, false] rfl rfl (by kernel_rfl) (fun _ _ _ h => h) (Or.inl ⟨by rfl, ?_⟩) ?_ ?_
  rotate_left
  ·intro w'
   go_simp
   with_reducible rfl
  rotate_left
  ·simp only [Act.put, List.setIfInBounds_toArray, List.set_cons_zero, List.set_cons_succ, i64_w, i32_w]
   rfl
  refine pure_ (i := 9) (N := some 35) (v := ?_) (a' := ?_) #[true, true, true, false, true, false, false, true, true, true, false, false, false, false, false, false] rfl rfl (by kernel_rfl) (fun _ _ _ h => h) (Or.inl ⟨by rfl, ?_⟩) ?_ ?_
  rotate_left
  ·intro w'
   go_simp
   with_reducible rfl
  rotate_left
  ·simp only [Act.put, List.setIfInBounds_toArray, List.set_cons_zero, List.set_cons_succ, i64_w, i32_w]
   rfl
  refine pure_ (i := 11) (N := some 37) (v := ?_) (a' := ?_) #[true, true, true, false, true, false, false, true, true, true, false, true, false, false, false, false] rfl rfl (by kernel_rfl) (fun _ _ _ h => h) (Or.inl ⟨by rfl, ?_⟩) ?_ ?_
  rotate_left
  ·intro w'
   go_simp
   with_reducible rfl
  rotate_left
  ·simp only [Act.put, List.setIfInBounds_toArray, List.set_cons_zero, List.set_cons_succ, i64_w, i32_w]
   rfl
  refine take_ (i := 3) (N := some 29) (v := ?_) (a' := ?_) #[true, true, true, true, true, false, false, true, true, true, false, true, false, false, false, false] rfl rfl (by kernel_rfl) (fun _ _ _ h => h) (Or.inl ⟨by rfl, ?_⟩) hHeld ?_ ?_
  rotate_left
  ·rintro w' ⟨s0, s1, s2, s3⟩
   go_simp
   with_reducible rfl
  rotate_left
  ·simp only [Act.put, List.setIfInBounds_toArray, List.set_cons_zero, List.set_cons_succ, i64_w, i32_w]
   rfl
  refine pure_ (i := 5) (N := some 31) (v := ?_) (a' := ?_) #[true, true, true, true, true, true, false, true, true, true, false, true, false, false, false, false] rfl rfl (by kernel_rfl) (fun _ _ _ h => h) (Or.inl ⟨by rfl, ?_⟩) ?_ ?_
  rotate_left
  ·intro w'
   go_simp
   with_reducible rfl
  rotate_left
  ·simp only [Act.put, List.setIfInBounds_toArray, List.set_cons_zero, List.set_cons_succ, i64_w, i32_w]
   rfl
  refine take_ (i := 6) (N := some 32) (v := ?_) (a' := ?_) #[true, true, true, true, true, true, true, true, true, true, false, true, false, false, false, false] rfl rfl (by kernel_rfl) (fun _ _ _ h => h) (Or.inl ⟨by rfl, ?_⟩) hHeld ?_ ?_
  rotate_left
  ·rintro w' ⟨s0, s1, s2, s3⟩
   go_simp
   with_reducible rfl
  rotate_left
  ·simp only [Act.put, List.setIfInBounds_toArray, List.set_cons_zero, List.set_cons_succ, i64_w, i32_w]
   rfl
  refine pure_ (i := 14) (N := some 6) (v := ?_) (a' := ?_) #[true, true, true, true, true, true, true, true, true, true, false, true, false, false, true, false] rfl rfl (by kernel_rfl) (fun _ _ _ h => h) (Or.inl ⟨by rfl, ?_⟩) ?_ ?_
  rotate_left
  ·intro w'
   go_simp
   with_reducible rfl
  rotate_left
  ·simp only [Act.put, List.setIfInBounds_toArray, List.set_cons_zero, List.set_cons_succ, i64_w, i32_w]
   rfl
  refine take_ (i := 10) (N := some 36) (v := ?_) (a' := ?_) #[true, true, true, true, true, true, true, true, true, true, true, true, false, false, true, false] rfl rfl (by kernel_rfl) (fun _ _ _ h => h) (Or.inl ⟨by rfl, ?_⟩) hHeld ?_ ?_
  rotate_left
  ·rintro w' ⟨s0, s1, s2, s3⟩
   go_simp
   with_reducible rfl
  rotate_left
  ·simp only [Act.put, List.setIfInBounds_toArray, List.set_cons_zero, List.set_cons_succ, i64_w, i32_w]
   rfl
  refine pure_ (i := 12) (N := some 38) (v := ?_) (a' := ?_) #[true, true, true, true, true, true, true, true, true, true, true, true, true, false, true, false] rfl rfl (by kernel_rfl) (fun _ _ _ h => h) (Or.inl ⟨by rfl, ?_⟩) ?_ ?_
  rotate_left
  ·intro w'
   go_simp
   with_reducible rfl
  rotate_left
  ·simp only [Act.put, List.setIfInBounds_toArray, List.set_cons_zero, List.set_cons_succ, i64_w, i32_w]
   rfl
  refine take_ (i := 13) (N := some 39) (v := ?_) (a' := ?_) #[true, true, true, true, true, true, true, true, true, true, true, true, true, true, true, false] rfl rfl (by kernel_rfl) (fun _ _ _ h => h) (Or.inl ⟨by rfl, ?_⟩) hHeld ?_ ?_
  rotate_left
  ·rintro w' ⟨s0, s1, s2, s3⟩
   go_simp
   with_reducible rfl
  rotate_left
  ·simp only [Act.put, List.setIfInBounds_toArray, List.set_cons_zero, List.set_cons_succ, i64_w, i32_w]
   rfl
  refine pure_ (i := 15) (N := some 7) (v := ?_) (a' := ?_) #[true, true, true, true, true, true, true, true, true, true, true, true, true, true, true, true] rfl rfl (by kernel_rfl) (fun _ _ _ h => h) (Or.inl ⟨by rfl, ?_⟩) ?_ ?_
  rotate_left
  ·intro w'
   go_simp
   with_reducible rfl
  rotate_left
  ·simp only [Act.put, List.setIfInBounds_toArray, List.set_cons_zero, List.set_cons_succ, i64_w, i32_w]
   rfl
  refine done_ (by kernel_rfl) ?_
  go_wp2
  go_ret2
  exact ⟨rfl, below_drew (Below.refl _ _)⟩
set_option maxHeartbeats 8000000 in
set_option maxRecDepth 100000 in
theorem w_zero (w : World) (p : Value) (i : Int) : Calls Tryz.prog 35 #[p, .int .i64 i] w fun en w' => en = .returned (.tuple #[.string ⟨#[48]⟩, .int .i64 0]) ∧ Below w.heap.size w w' := by
 go_enter Tryz.func35, Tryz.ntmps35
 go_wp2
 go_ret2
 exact ⟨rfl, Below.refl _ _⟩
set_option maxHeartbeats 8000000 in
set_option maxRecDepth 100000 in
theorem w_one (w : World) (p : Value) (i : Int) : Calls Tryz.prog 36 #[p, .int .i64 i] w fun en w' => en = .returned (.tuple #[.string ⟨#[49]⟩, .int .i64 0]) ∧ Below w.heap.size w w' := by
 go_enter Tryz.func36, Tryz.ntmps36
 go_wp2
 go_ret2
 exact ⟨rfl, Below.refl _ _⟩
set_option maxHeartbeats 8000000 in
set_option maxRecDepth 100000 in
theorem w_name (w : World) (g : Nat) (l : List S38) (st : List Int) (tx : List ByteArray) (dp : List Int) (i : Int) (hW : WR w g l st tx dp) (p0 : 0 ≤ i) (p1 : i < (l.length : Int)) :
  Calls Tryz.prog 37 #[.pointer (some ⟨g, 0, none⟩), .int .i64 i] w fun en w' => en = .returned (.tuple #[.string (rd_T38 l i).f1, .int .i64 0]) ∧ Below w.heap.size w w' := by
 obtain ⟨A0, c0, A1, c1, A2, c2, A3, c3, hg, h0, h1, h2, h3, h4, h5⟩ := hW
 obtain ⟨ad, rfl, hx0, hx1, hx2⟩ := at_T38 h0 i p0 p1
 have k0 := blk_cell hg 0
 replace k0 : w.cell? ⟨g, 0, none⟩ = some (.slice (some ad) l.length c0) := k0
 clear hg h0 h1 h2 h3 h4 h5
 go_enter Tryz.func37, Tryz.ntmps37
 go_wp2
 go_ret2
 exact ⟨rfl, Below.refl _ _⟩
def projT (l : List S38) (tx : List ByteArray) (dp : List Int) (i : Int) : Option (ByteArray × Int) :=
 if 0 ≤ i ∧ i < (l.length : Int) ∧ 0 ≤ (rd_T38 l i).f2 ∧ (rd_T38 l i).f2 < 100 ∧ (rd_T38 l i).f1.size ≤ 1000000000000 then (kidT tx dp (i - 1) true).bind fun p => if p.1.size ≤ 1000000000000000 then some ((rd_T38 l i).f1 ++ (⟨#[126]⟩ : ByteArray) ++ (⟨(Lib.decDigits (rd_T38 l i).f2.toNat).toArray⟩ : ByteArray) ++ p.1, p.2) else none else none
theorem dec_size (n : Nat) (h : n < 100) : (⟨(Lib.decDigits n).toArray⟩ : ByteArray).size ≤ 2 := by
 have : ∀ n : Fin 100, (⟨(Lib.decDigits n.1).toArray⟩ : ByteArray).size ≤ 2 := by decide +kernel
 exact this ⟨n, h⟩
set_option maxHeartbeats 8000000 in
set_option maxRecDepth 100000 in
theorem w_proj (w : World) (g : Nat) (l : List S38) (st : List Int) (tx : List ByteArray) (dp : List Int) (i : Int) (s : ByteArray) (n : Int) (hW : WR w g l st tx dp) (h : projT l tx dp i = some (s, n)) :
  Calls Tryz.prog 40 #[.pointer (some ⟨g, 0, none⟩), .int .i64 i] w fun en w' => en = .returned (.tuple #[.string s, .int .i64 n]) ∧ Below w.heap.size w w' := by
 unfold projT at h
 split at h
 case isFalse => cases h
 rename_i hc
 obtain ⟨p0, p1, p2, p3, p4⟩ := hc
 obtain ⟨⟨s1, n1⟩, hk, h⟩ := Option.bind_eq_some_iff.1 h
 split at h
 case isFalse => cases h
 rename_i p5
 obtain ⟨rfl, rfl⟩ := Prod.mk.inj (Option.some.inj h)
 have HW := Aside0.mk hW
 have HK := Aside0.mk hk
 obtain ⟨x, hx⟩ : ∃ x, (rd_T38 l i).f1 = x := ⟨_, rfl⟩
 obtain ⟨f, hf⟩ : ∃ f : Nat, (rd_T38 l i).f2 = (f : Int) := ⟨_, (Int.toNat_of_nonneg p2).symm⟩
 rw [hx] at p4 ⊢
 rw [hf] at p3 ⊢
 rw [Int.toNat_natCast]
 obtain ⟨y, hy⟩ : ∃ y : ByteArray, ⟨(Lib.decDigits f).toArray⟩ = y := ⟨_, rfl⟩
 have hys : y.size ≤ 2 := by rw [← hy]; exact dec_size f (by omega)
 rw [hy]
 have HY := Aside0.mk hy
 have HX := Aside0.mk hx
 have HF := Aside0.mk hf
 have HP := Aside0.mk p4
 have HP3 := Aside0.mk (show f < 100 by omega)
 have HP5 := Aside0.mk (show s1.size ≤ 1000000000000000 from p5)
 have HYS := Aside0.mk hys
 have e1 : wrap64 (i - 1) = i - 1 := by have := hW; obtain ⟨A0, c0, A1, c1, A2, c2, A3, c3, hg, h0, _⟩ := this; have := h0.2.1; unfold wrap64; omega
 clear h hk hy hx hf p2 p3 p4 p5 hys hW
 go_enter Tryz.func40, Tryz.ntmps40
 go_wp2_with (go_at_call 58; (with_reducible refine (w_kid _ g l st tx dp (i - 1) true s1 n1 HW.out HK.out).mono ?_); rintro e w1 ⟨rfl, hb⟩; have HB := Aside0.mk hb; clear hb)
 obtain ⟨A0, c0, A1, c1, A2, c2, A3, c3, hg, h0, h1, h2, h3, h4, h5⟩ := HW.out.below HB.out
 obtain ⟨ad, rfl, hx0, hx1, hx2⟩ := at_T38 h0 i p0 p1
 rw [HX.out] at hx1
 rw [HF.out] at hx2
 have k0 := blk_cell hg 0
 replace k0 : w1.cell? ⟨g, 0, none⟩ = some (.slice (some ad) l.length c0) := k0
 clear hg h0 h1 h2 h3 h4 h5 hx0 e1
 have z1 : (9223372036854775807 < x.size + 1) = False := big_no (by have := HP.out; omega)
 have z2 : (9223372036854775807 < x.size + 1 + y.size) = False := big_no (by have := HP.out; have := HYS.out; omega)
 have z3 : (9223372036854775807 < x.size + 1 + y.size + s1.size) = False := big_no (by have := HP.out; have := HYS.out; have := HP5.out; omega)
 refine start_ (n := 24) (S := fun w' => w'.cell? ⟨g, 0, none⟩ = some (.slice (some ad) l.length c0) ∧ w'.cell? ⟨(ad.add (i.toNat * 3)).block, (ad.add (i.toNat * 3)).off + 1, none⟩ = some (.string x) ∧ w'.cell? ⟨(ad.add (i.toNat * 3)).block, (ad.add (i.toNat * 3)).off + 2, none⟩ = some (.int .i64 (f : Int))) (ds := []) #[false, false, false, false, false, false, false, false, false, false, false, false, false, false, false, false, false, false, false, false, false, false, false, false] (by kernel_rfl) rfl rfl ⟨k0, hx1, hx2⟩ (fun hHeld => ?_)
 refine pure_ (i := 0) (N := some 15) (v := ?_) (a' := ?_) #[true, false, false, false, false, false, false, false, false, false, false, false, false, false, false, false, false, false, false, false, false, false, false, false] rfl rfl (by kernel_rfl) (fun _ _ _ h => h) (Or.inl ⟨by rfl, ?_⟩) ?_ ?_
 rotate_left
 ·intro w'
  go_simp
  with_reducible rfl
 rotate_left
 ·simp only [Act.put, List.setIfInBounds_toArray, List.set_cons_zero, List.set_cons_succ, i64_w, i32_w]
  rfl
 refine pure_ (i := 1) (N := some 16) (v := ?_) (a' := ?_) #[true, true, false, false, false, false, false, false, false, false, false, false, false, false, false, false, false, false, false, false, false, false, false, false] rfl rfl (by kernel_rfl) (fun _ _ _ h => h) (Or.inl ⟨by rfl, ?_⟩) ?_ ?_
 rotate_left
 ·intro w'
  go_simp
  with_reducible rfl
 rotate_left
 ·simp only [Act.put, List.setIfInBounds_toArray, List.set_cons_zero, List.set_cons_succ, i64_w, i32_w]
  rfl
 refine pure_ (i := 2) (N := some 17) (v := ?_) (a' := ?_) #[true, true, true, false, false, false, false, false, false, false, false, false, false, false, false, false, false, false, false, false, false, false, false, false] rfl rfl (by kernel_rfl) (fun _ _ _ h => h) (Or.inl ⟨by rfl, ?_⟩) ?_ ?_
 rotate_left
 ·intro w'
  go_simp
  with_reducible rfl
 rotate_left
 ·simp only [Act.put, List.setIfInBounds_toArray, List.set_cons_zero, List.set_cons_succ, i64_w, i32_w]
  rfl
 refine pure_ (i := 4) (N := some 19) (v := ?_) (a' := ?_) #[true, true, true, false, true, false, false, false, false, false, false, false, false, false, false, false, false, false, false, false, false, false, false, false] rfl rfl (by kernel_rfl) (fun _ _ _ h => h) (Or.inl ⟨by rfl, ?_⟩) ?_ ?_
 rotate_left
 ·intro w'
  go_simp
  with_reducible rfl
 rotate_left
 ·simp only [Act.put, List.setIfInBounds_toArray, List.set_cons_zero, List.set_cons_succ, i64_w, i32_w]
  rfl
 refine pure_ (i := 9) (N := some 24) (v := ?_) (a' := ?_) #[true, true, true, false, true, false, false, false, false, true, false, false, false, false, false, false, false, false, false, false, false, false, false, false] rfl rfl (by kernel_rfl) (fun _ _ _ h => h) (Or.inl ⟨by rfl, ?_⟩) ?_ ?_
 rotate_left
 ·intro w'
  go_simp
  with_reducible rfl
 rotate_left
 ·simp only [Act.put, List.setIfInBounds_toArray, List.set_cons_zero, List.set_cons_succ, i64_w, i32_w]
  rfl
 refine pure_ (i := 10) (N := some 25) (v := ?_) (a' := ?_) #[true, true, true, false, true, false, false, false, false, true, true, false, false, false, false, false, false, false, false, false, false, false, false, false] rfl rfl (by kernel_rfl) (fun _ _ _ h => h) (Or.inl ⟨by rfl, ?_⟩) ?_ ?_
 rotate_left
 ·intro w'
  go_simp
  with_reducible rfl
 rotate_left
 ·simp only [Act.put, List.setIfInBounds_toArray, List.set_cons_zero, List.set_cons_succ, i64_w, i32_w]
  rfl
 refine pure_ (i := 11) (N := some 26) (v := ?_) (a' := ?_) #[true, true, true, false, true, false, false, false, false, true, true, true, false, false, false, false, false, false, false, false, false, false, false, false] rfl rfl (by kernel_rfl) (fun _ _ _ h => h) (Or.inl ⟨by rfl, ?_⟩) ?_ ?_
 rotate_left
 ·intro w'
  go_simp
  with_reducible rfl
 rotate_left
 ·simp only [Act.put, List.setIfInBounds_toArray, List.set_cons_zero, List.set_cons_succ, i64_w, i32_w]
  rfl
 refine pure_ (i := 13) (N := some 28) (v := ?_) (a' := ?_) #[true, true, true, false, true, false, false, false, false, true, true, true, false, true, false, false, false, false, false, false, false, false, false, false] rfl rfl (by kernel_rfl) (fun _ _ _ h => h) (Or.inl ⟨by rfl, ?_⟩) ?_ ?_
 rotate_left
 ·intro w'
  go_simp
  with_reducible rfl
 rotate_left
 ·simp only [Act.put, List.setIfInBounds_toArray, List.set_cons_zero, List.set_cons_succ, i64_w, i32_w]
  rfl
 refine pure_ (i := 19) (N := some 34) (v := ?_) (a' := ?_) #[true, true, true, false, true, false, false, false, false, true, true, true, false, true, false, false, false, false, false, true, false, false, false, false] rfl rfl (by kernel_rfl) (fun _ _ _ h => h) (Or.inl ⟨by rfl, ?_⟩) ?_ ?_
 rotate_left
 ·intro w'
  go_simp
  with_reducible rfl
 rotate_left
 ·simp only [Act.put, List.setIfInBounds_toArray, List.set_cons_zero, List.set_cons_succ, i64_w, i32_w]
  rfl
 refine pure_ (i := 21) (N := some 36) (v := ?_) (a' := ?_) #[true, true, true, false, true, false, false, false, false, true, true, true, false, true, false, false, false, false, false, true, false, true, false, false] rfl rfl (by kernel_rfl) (fun _ _ _ h => h) (Or.inl ⟨by rfl, ?_⟩) ?_ ?_
 rotate_left
 ·intro w'
  go_simp
  with_reducible rfl
 rotate_left
 ·simp only [Act.put, List.setIfInBounds_toArray, List.set_cons_zero, List.set_cons_succ, i64_w, i32_w]
  rfl
 refine take_ (i := 3) (N := some 18) (v := ?_) (a' := ?_) #[true, true, true, true, true, false, false, false, false, true, true, true, false, true, false, false, false, false, false, true, false, true, false, false] rfl rfl (by kernel_rfl) (fun _ _ _ h => h) (Or.inl ⟨by rfl, ?_⟩) hHeld ?_ ?_
 rotate_left
 ·rintro w' ⟨s0, s1, s2⟩
  go_simp
  with_reducible rfl
 rotate_left
 ·simp only [Act.put, List.setIfInBounds_toArray, List.set_cons_zero, List.set_cons_succ, i64_w, i32_w]
  rfl
 refine pure_ (i := 5) (N := some 20) (v := ?_) (a' := ?_) #[true, true, true, true, true, true, false, false, false, true, true, true, false, true, false, false, false, false, false, true, false, true, false, false] rfl rfl (by kernel_rfl) (fun _ _ _ h => h) (Or.inl ⟨by rfl, ?_⟩) ?_ ?_
 rotate_left
 ·intro w'
  go_simp
  with_reducible rfl
 rotate_left
 ·simp only [Act.put, List.setIfInBounds_toArray, List.set_cons_zero, List.set_cons_succ, i64_w, i32_w]
  rfl
 refine pure_ (i := 6) (N := some 21) (v := ?_) (a' := ?_) #[true, true, true, true, true, true, true, false, false, true, true, true, false, true, false, false, false, false, false, true, false, true, false, false] rfl rfl (by kernel_rfl) (fun _ _ _ h => h) (Or.inl ⟨by rfl, ?_⟩) ?_ ?_
 rotate_left
 ·intro w'
  go_simp
  with_reducible rfl
 rotate_left
 ·simp only [Act.put, List.setIfInBounds_toArray, List.set_cons_zero, List.set_cons_succ, i64_w, i32_w]
  rfl
 refine take_ (i := 7) (N := some 22) (v := ?_) (a' := ?_) #[true, true, true, true, true, true, true, true, false, true, true, true, false, true, false, false, false, false, false, true, false, true, false, false] rfl rfl (by kernel_rfl) (fun _ _ _ h => h) (Or.inl ⟨by rfl, ?_⟩) hHeld ?_ ?_
 rotate_left
 ·rintro w' ⟨s0, s1, s2⟩
  go_simp
  with_reducible rfl
 rotate_left
 ·simp only [Act.put, List.setIfInBounds_toArray, List.set_cons_zero, List.set_cons_succ, i64_w, i32_w]
  rfl
 refine pure_ (i := 8) (N := some 23) (v := ?_) (a' := ?_) #[true, true, true, true, true, true, true, true, true, true, true, true, false, true, false, false, false, false, false, true, false, true, false, false] rfl rfl (by kernel_rfl) (fun _ _ _ h => h) (Or.inl ⟨by rfl, ?_⟩) ?_ ?_
 rotate_left
 ·intro w'
  go_simp
  with_reducible rfl
 rotate_left
 ·simp only [Act.put, List.setIfInBounds_toArray, List.set_cons_zero, List.set_cons_succ, i64_w, i32_w]
  rfl
 refine take_ (i := 12) (N := some 27) (v := ?_) (a' := ?_) #[true, true, true, true, true, true, true, true, true, true, true, true, true, true, false, false, false, false, false, true, false, true, false, false] rfl rfl (by kernel_rfl) (fun _ _ _ h => h) (Or.inl ⟨by rfl, ?_⟩) hHeld ?_ ?_
 rotate_left
 ·rintro w' ⟨s0, s1, s2⟩
  go_simp
  with_reducible rfl
 rotate_left
 ·simp only [Act.put, List.setIfInBounds_toArray, List.set_cons_zero, List.set_cons_succ, i64_w, i32_w]
  rfl
 refine pure_ (i := 14) (N := some 29) (v := ?_) (a' := ?_) #[true, true, true, true, true, true, true, true, true, true, true, true, true, true, true, false, false, false, false, true, false, true, false, false] rfl rfl (by kernel_rfl) (fun _ _ _ h => h) (Or.inl ⟨by rfl, ?_⟩) ?_ ?_
 rotate_left
 ·intro w'
  go_simp
  with_reducible rfl
 rotate_left
 ·simp only [Act.put, List.setIfInBounds_toArray, List.set_cons_zero, List.set_cons_succ, i64_w, i32_w]
  rfl
 refine pure_ (i := 15) (N := some 30) (v := ?_) (a' := ?_) #[true, true, true, true, true, true, true, true, true, true, true, true, true, true, true, true, false, false, false, true, false, true, false, false] rfl rfl (by kernel_rfl) (fun _ _ _ h => h) (Or.inl ⟨by rfl, ?_⟩) ?_ ?_
 rotate_left
 ·intro w'
  go_simp
  with_reducible rfl
 rotate_left
 ·simp only [Act.put, List.setIfInBounds_toArray, List.set_cons_zero, List.set_cons_succ, i64_w, i32_w]
  rfl
 refine take_ (i := 16) (N := some 31) (v := ?_) (a' := ?_) #[true, true, true, true, true, true, true, true, true, true, true, true, true, true, true, true, true, false, false, true, false, true, false, false] rfl rfl (by kernel_rfl) (fun _ _ _ h => h) (Or.inl ⟨by rfl, ?_⟩) hHeld ?_ ?_
 rotate_left
 ·rintro w' ⟨s0, s1, s2⟩
  go_simp
  with_reducible rfl
 rotate_left
 ·simp only [Act.put, List.setIfInBounds_toArray, List.set_cons_zero, List.set_cons_succ, i64_w, i32_w]
  rfl
 refine one_ (i := 17) (N := some 32) #[true, true, true, true, true, true, true, true, true, true, true, true, true, true, true, true, true, true, false, true, false, true, false, false] rfl rfl (by kernel_rfl) (by decide) (fun K hK => ?_)
 refine goes_ Tryz.func61 (by kernel_rfl) rfl #[.int .i64 (f : Int)] (by rfl) rfl rfl Zz16 ?_
 with_reducible refine (Tryz.strconv_Itoa_small f HP3.out _).mono ?_
 rintro e w3 ⟨rfl, rfl⟩
 refine ⟨_, rfl, ?_⟩
 rw [HY.out]
 refine hK.out _ _ ⟨hHeld.1, hHeld.2.1, hHeld.2.2⟩ (fun hHeld => ?_)
 clear hK K
 refine norm_ (a' := ?_) ?_ ?_
 rotate_left
 ·show Act.put _ (some 32) _ = _
  simp only [Act.put, List.setIfInBounds_toArray, List.set_cons_zero, List.set_cons_succ, i64_w, i32_w]
  rfl
 refine pure_ (i := 18) (N := some 33) (v := ?_) (a' := ?_) #[true, true, true, true, true, true, true, true, true, true, true, true, true, true, true, true, true, true, true, true, false, true, false, false] rfl rfl (by kernel_rfl) (fun _ _ _ h => h) (Or.inl ⟨by rfl, ?_⟩) ?_ ?_
 rotate_left
 ·intro w'
  go_simp
  with_reducible rfl
 rotate_left
 ·simp only [Act.put, List.setIfInBounds_toArray, List.set_cons_zero, List.set_cons_succ, i64_w, i32_w]
  rfl
 refine pure_ (i := 20) (N := some 35) (v := ?_) (a' := ?_) #[true, true, true, true, true, true, true, true, true, true, true, true, true, true, true, true, true, true, true, true, true, true, false, false] rfl rfl (by kernel_rfl) (fun _ _ _ h => h) (Or.inl ⟨by rfl, ?_⟩) ?_ ?_
 rotate_left
 ·intro w'
  go_simp
  with_reducible rfl
 rotate_left
 ·simp only [Act.put, List.setIfInBounds_toArray, List.set_cons_zero, List.set_cons_succ, i64_w, i32_w]
  rfl
 refine pure_ (i := 22) (N := some 4) (v := ?_) (a' := ?_) #[true, true, true, true, true, true, true, true, true, true, true, true, true, true, true, true, true, true, true, true, true, true, true, false] rfl rfl (by kernel_rfl) (fun _ _ _ h => h) (Or.inl ⟨by rfl, ?_⟩) ?_ ?_
 rotate_left
 ·intro w'
  go_simp
  with_reducible rfl
 rotate_left
 ·simp only [Act.put, List.setIfInBounds_toArray, List.set_cons_zero, List.set_cons_succ, i64_w, i32_w]
  rfl
 refine pure_ (i := 23) (N := some 5) (v := ?_) (a' := ?_) #[true, true, true, true, true, true, true, true, true, true, true, true, true, true, true, true, true, true, true, true, true, true, true, true] rfl rfl (by kernel_rfl) (fun _ _ _ h => h) (Or.inl ⟨by rfl, ?_⟩) ?_ ?_
 rotate_left
 ·intro w'
  go_simp
  with_reducible rfl
 rotate_left
 ·simp only [Act.put, List.setIfInBounds_toArray, List.set_cons_zero, List.set_cons_succ, i64_w, i32_w]
  rfl
 refine done_ (by kernel_rfl) ?_
 go_wp2
 go_ret2
 exact ⟨rfl, HB.out.drew⟩
theorem info9w : (Tryz.prog.info? 9).map (fun i => (i.zero, i.size, i.bytes)) = some (some (.string ⟨#[]⟩), 1, 16) := by kernel_rfl
def callL (tx : List ByteArray) (dp : List Int) : List Int → List ByteArray → Int → Option (List ByteArray × Int)
 | [], ss, d => some (ss, d)
 | k :: ks, ss, d => (kidT tx dp k false).bind fun p => if ss.length ≤ 100000 then callL tx dp ks (ss ++ [p.1]) (mx d p.2) else none
def callT (l : List S38) (st : List Int) (tx : List ByteArray) (dp : List Int) (i : Int) : Option (ByteArray × Int) :=
 if 0 ≤ i ∧ i < (l.length : Int) ∧ (rd_T38 l i).f1.size ≤ 1000000000000 then
  (if (rd_T38 l i).f2 = 0 then some ((rd_T38 l i).f1, 0) else (expr_kids.f l st i).bind fun ks => (callL tx dp ks [] 0).bind fun p => (strings_Join.f p.1 ⟨#[44]⟩).bind fun jn => if jn.size ≤ 1000000000000000 then some ((rd_T38 l i).f1 ++ (⟨#[40]⟩ : ByteArray) ++ jn ++ (⟨#[41]⟩ : ByteArray), wrap64 (p.2 + 1)) else none) else none
theorem kids_len {l : List S38} {st : List Int} {i : Int} {ks : List Int} (h : expr_kids.f l st i = some ks) : ks.length ≤ 1000 := by
 unfold expr_kids.f at h
 split at h
 ·split at h
  ·obtain ⟨p, hp, h⟩ := Option.bind_eq_some_iff.1 h
   split at h
   ·split at h
    ·obtain rfl := Option.some.inj h
     simp only [kOut, List.length_map, List.length_range]
     omega
    ·cases h
   ·cases h
  ·cases h
 ·cases h
set_option maxHeartbeats 8000000 in
set_option maxRecDepth 100000 in
theorem w_call (w : World) (g : Nat) (l : List S38) (st : List Int) (tx : List ByteArray) (dp : List Int) (i : Int) (s : ByteArray) (n : Int) (hW : WR w g l st tx dp) (h : callT l st tx dp i = some (s, n)) :
  Calls Tryz.prog 38 #[.pointer (some ⟨g, 0, none⟩), .int .i64 i] w fun en w' => en = .returned (.tuple #[.string s, .int .i64 n]) ∧ Below w.heap.size w w' := by
 unfold callT at h
 split at h
 case isFalse => cases h
 rename_i hc
 obtain ⟨p0, p1, p4⟩ := hc
 have HW := Aside0.mk hW
 obtain ⟨A0, c0, A1, c1, A2, c2, A3, c3, hg, h0, h1, h2, h3, h4, h5⟩ := hW
 obtain ⟨ad, rfl, hx0, hx1, hx2⟩ := at_T38 h0 i p0 p1
 have k0 := blk_cell hg 0
 replace k0 : w.cell? ⟨g, 0, none⟩ = some (.slice (some ad) l.length c0) := k0
 have k1 := blk_cell hg 1
 replace k1 : w.cell? ⟨g, 1, none⟩ = some (.slice A1 st.length c1) := k1
 by_cases hf : (rd_T38 l i).f2 = 0
 ·rw [if_pos hf] at h
  obtain ⟨rfl, rfl⟩ := Prod.mk.inj (Option.some.inj h)
  rw [hf] at hx2
  clear h hg h0 h1 h2 h3 h4 h5 hf p4
  go_enter Tryz.func38, Tryz.ntmps38
  go_wp2_with (go_at_call 37; (with_reducible refine (w_name _ g l st tx dp i HW.out p0 p1).mono ?_); rintro e w1 ⟨rfl, hb⟩)
  go_ret2
  exact ⟨rfl, hb⟩
 ·rw [if_neg hf] at h
  obtain ⟨ks, hk, h⟩ := Option.bind_eq_some_iff.1 h
  obtain ⟨⟨ss, d⟩, hl, h⟩ := Option.bind_eq_some_iff.1 h
  obtain ⟨jn, hj, h⟩ := Option.bind_eq_some_iff.1 h
  split at h
  case isFalse => cases h
  rename_i p5
  obtain ⟨rfl, rfl⟩ := Prod.mk.inj (Option.some.inj h)
  have HK := Aside0.mk hk
  have HLL := Aside0.mk hl
  have HJ := Aside0.mk hj
  have cf := beq_eq_false_iff_ne.mpr hf
  obtain ⟨x, hx⟩ : ∃ x, (rd_T38 l i).f1 = x := ⟨_, rfl⟩
  rw [hx] at hx1 p4 ⊢
  have HX1 := Aside0.mk hx1
  have HP := Aside0.mk p4
  have HP5 := Aside0.mk p5
  have HC0 := Aside0.mk (And.intro h0 h4)
  have HC1 := Aside0.mk (And.intro h1 h5)
  clear h hk hl hj hf hx p4 p5 hg h0 h1 h2 h3 h4 h5
  go_enter Tryz.func38, Tryz.ntmps38
  go_wp2
  refine start_ (n := 12) (S := fun w' => w'.cell? ⟨g, 0, none⟩ = some (.slice (some ad) l.length c0) ∧ w'.cell? ⟨g, 1, none⟩ = some (.slice A1 st.length c1)) (ds := [9]) #[false, false, false, false, false, false, false, false, false, false, false, false] (by kernel_rfl) rfl rfl ⟨k0, k1⟩ (fun hHeld => ?_)
  refine pure_ (i := 0) (N := some 26) (v := ?_) (a' := ?_) #[true, false, false, false, false, false, false, false, false, false, false, false] rfl rfl (by kernel_rfl) (fun _ _ _ h => h) (Or.inl ⟨by rfl, ?_⟩) ?_ ?_
  rotate_left
  ·intro w'
   go_simp
   with_reducible rfl
  rotate_left
  ·simp only [Act.put, List.setIfInBounds_toArray, List.set_cons_zero, List.set_cons_succ, i64_w, i32_w]
   rfl
  refine pure_ (i := 1) (N := some 27) (v := ?_) (a' := ?_) #[true, true, false, false, false, false, false, false, false, false, false, false] rfl rfl (by kernel_rfl) (fun _ _ _ h => h) (Or.inl ⟨by rfl, ?_⟩) ?_ ?_
  rotate_left
  ·intro w'
   go_simp
   with_reducible rfl
  rotate_left
  ·simp only [Act.put, List.setIfInBounds_toArray, List.set_cons_zero, List.set_cons_succ, i64_w, i32_w]
   rfl
  refine pure_ (i := 2) (N := some 28) (v := ?_) (a' := ?_) #[true, true, true, false, false, false, false, false, false, false, false, false] rfl rfl (by kernel_rfl) (fun _ _ _ h => h) (Or.inl ⟨by rfl, ?_⟩) ?_ ?_
  rotate_left
  ·intro w'
   go_simp
   with_reducible rfl
  rotate_left
  ·simp only [Act.put, List.setIfInBounds_toArray, List.set_cons_zero, List.set_cons_succ, i64_w, i32_w]
   rfl
  refine pure_ (i := 4) (N := some 30) (v := ?_) (a' := ?_) #[true, true, true, false, true, false, false, false, false, false, false, false] rfl rfl (by kernel_rfl) (fun _ _ _ h => h) (Or.inl ⟨by rfl, ?_⟩) ?_ ?_
  rotate_left
  ·intro w'
   go_simp
   with_reducible rfl
  rotate_left
  ·simp only [Act.put, List.setIfInBounds_toArray, List.set_cons_zero, List.set_cons_succ, i64_w, i32_w]
   rfl
  refine pure_ (i := 5) (N := some 31) (v := ?_) (a' := ?_) #[true, true, true, false, true, true, false, false, false, false, false, false] rfl rfl (by kernel_rfl) (fun _ _ _ h => h) (Or.inl ⟨by rfl, ?_⟩) ?_ ?_
  rotate_left
  ·intro w'
   go_simp
   with_reducible rfl
  rotate_left
  ·simp only [Act.put, List.setIfInBounds_toArray, List.set_cons_zero, List.set_cons_succ, i64_w, i32_w]
   rfl
  refine pure_ (i := 6) (N := some 32) (v := ?_) (a' := ?_) #[true, true, true, false, true, true, true, false, false, false, false, false] rfl rfl (by kernel_rfl) (fun _ _ _ h => h) (Or.inl ⟨by rfl, ?_⟩) ?_ ?_
  rotate_left
  ·intro w'
   go_simp
   with_reducible rfl
  rotate_left
  ·simp only [Act.put, List.setIfInBounds_toArray, List.set_cons_zero, List.set_cons_succ, i64_w, i32_w]
   rfl
  refine pure_ (i := 8) (N := some 34) (v := ?_) (a' := ?_) #[true, true, true, false, true, true, true, false, true, false, false, false] rfl rfl (by kernel_rfl) (fun _ _ _ h => h) (Or.inl ⟨by rfl, ?_⟩) ?_ ?_
  rotate_left
  ·intro w'
   go_simp
   with_reducible rfl
  rotate_left
  ·simp only [Act.put, List.setIfInBounds_toArray, List.set_cons_zero, List.set_cons_succ, i64_w, i32_w]
   rfl
  refine pure_ (i := 11) (N := some 37) (v := ?_) (a' := ?_) #[true, true, true, false, true, true, true, false, true, false, false, true] rfl rfl (by kernel_rfl) (fun _ _ _ h => h) (Or.inl ⟨by rfl, ?_⟩) ?_ ?_
  rotate_left
  ·intro w'
   go_simp
   with_reducible rfl
  rotate_left
  ·simp only [Act.put, List.setIfInBounds_toArray, List.set_cons_zero, List.set_cons_succ, i64_w, i32_w]
   rfl
  refine take_ (i := 3) (N := some 29) (v := ?_) (a' := ?_) #[true, true, true, true, true, true, true, false, true, false, false, true] rfl rfl (by kernel_rfl) (fun _ _ _ h => h) (Or.inl ⟨by rfl, ?_⟩) hHeld ?_ ?_
  rotate_left
  ·rintro w' ⟨s0, s1⟩
   go_simp
   with_reducible rfl
  rotate_left
  ·simp only [Act.put, List.setIfInBounds_toArray, List.set_cons_zero, List.set_cons_succ, i64_w, i32_w]
   rfl
  refine take_ (i := 7) (N := some 33) (v := ?_) (a' := ?_) #[true, true, true, true, true, true, true, true, true, false, false, true] rfl rfl (by kernel_rfl) (fun _ _ _ h => h) (Or.inl ⟨by rfl, ?_⟩) hHeld ?_ ?_
  rotate_left
  ·rintro w' ⟨s0, s1⟩
   go_simp
   with_reducible rfl
  rotate_left
  ·simp only [Act.put, List.setIfInBounds_toArray, List.set_cons_zero, List.set_cons_succ, i64_w, i32_w]
   rfl
  refine last_ (i := 9) (N := some 35) #[true, true, true, true, true, true, true, true, true, true, false, true] rfl rfl (by kernel_rfl) (by decide) (fun K hK => ?_)
  refine goes_ Tryz.func19 (by kernel_rfl) rfl #[.slice (some ad) l.length c0, .slice A1 st.length c1, .int .i64 i] (by rfl) rfl rfl Zz16 ?_
  with_reducible refine (expr_kids.calls _ _ l _ _ st i ks _ (Kd.C_below HC0.out.1 (below_drew (Below.refl _ _))) HC0.out.2 (Kd.C_below HC1.out.1 (below_drew (Below.refl _ _))) HC1.out.2 HK.out).mono ?_
  rintro e w1 ⟨v0, rfl, hR, hb⟩
  refine ⟨_, rfl, ?_⟩
  obtain ⟨AK, cK, rfl, hKc, hKR⟩ := Kd.R_reads hR
  refine hK.out _ _ ?_
  clear hK K
  refine norm_ (a' := ?_) ?_ ?_
  rotate_left
  ·show Act.put _ (some 35) _ = _
   simp only [Act.put, List.setIfInBounds_toArray, List.set_cons_zero, List.set_cons_succ, i64_w, i32_w]
   rfl
  refine pure_ (i := 10) (N := some 36) (v := ?_) (a' := ?_) #[true, true, true, true, true, true, true, true, true, true, true, true] rfl rfl (by kernel_rfl) (fun _ _ _ h => h) (Or.inl ⟨by rfl, ?_⟩) ?_ ?_
  rotate_left
  ·intro w'
   go_simp
   with_reducible rfl
  rotate_left
  ·simp only [Act.put, List.setIfInBounds_toArray, List.set_cons_zero, List.set_cons_succ, i64_w, i32_w]
   rfl
  refine done_ (by kernel_rfl) ?_
  have HB1 := Aside0.mk (show Below w.heap.size w w1 from (below_drew (Below.refl _ _)).trans (hb.mono (Nat.le_refl _)))
  have HW1 := Aside0.mk (HW.out.below HB1.out)
  have HKR := Aside0.mk hKR
  have HKC := Aside0.mk hKc
  have HKL := Aside0.mk (kids_len HK.out)
  have HO0 := Aside0.mk (own_nil w1 w1.heap.size 9 1)
  have HLL0 := Aside0.mk (show callL tx dp (ks.drop 0) [] 0 = some (ss, d) from HLL.out)
  clear hb hR hKc hKR hHeld HLL h
  go_wp2
  go_loopg [6, 7, 37] (ks.length) (fun kq v6 v7 v37 w' => ∃ (j : Nat) (s0 : List ByteArray) (d0 : Int), Aside0 (j + kq = ks.length) ∧ v37 = .int .i64 (j : Int) ∧ v7 = .int .i64 d0 ∧ Aside0 (callL tx dp (ks.drop j) s0 d0 = some (ss, d)) ∧ Aside0 (w'.ownsRow w1.heap.size 9 1 v6 s0.length (encs Value.string s0)) ∧ Aside0 (Below w1.heap.size w1 w'))
  case atStart => exact ⟨0, [], 0, ⟨by omega⟩, rfl, rfl, HLL0, HO0, ⟨Below.refl _ _⟩⟩
  case round =>
   clear HLL0 HO0
   obtain ⟨j, s0, d0, HJK, rfl, rfl, HL, HO, HB⟩ := hrel
   have hjk := HJK.out
   cases gk with
   | succ k2 =>
    have hlt : j < ks.length := by omega
    have t0 : decide (j < ks.length) = true := decide_eq_true hlt
    have t1 : (j : Int) < (ks.length : Int) := by omega
    obtain ⟨adk, rfl, hx⟩ := Kd.at_int HKR.out (j : Int) (by omega) t1
    rw [Int.toNat_natCast] at hx
    have hxw := pw_cell_below HB.out hx
    obtain ⟨kk, hkk⟩ : ∃ kk, rd ks (j : Int) = kk := ⟨_, rfl⟩
    rw [hkk] at hxw
    have hd : ks.drop j = kk :: ks.drop (j + 1) := by
     rw [List.drop_eq_getElem_cons hlt, ← hkk]
     congr 1
     unfold rd
     rw [Int.toNat_natCast, List.getD_eq_getElem?_getD, List.getElem?_eq_getElem hlt]
     rfl
    have hL := HL.out
    rw [hd] at hL
    obtain ⟨⟨s1, n1⟩, hkt, hL⟩ := Option.bind_eq_some_iff.1 (show ((kidT tx dp kk false).bind fun p => if s0.length ≤ 100000 then callL tx dp (ks.drop (j + 1)) (s0 ++ [p.1]) (mx d0 p.2) else none) = some (ss, d) from hL)
    split at hL
    case isFalse => cases hL
    rename_i hs0
    have HKT := Aside0.mk hkt
    have HL2 := Aside0.mk hL
    have HS0 := Aside0.mk hs0
    have HWW := Aside0.mk (HW1.out.below HB.out)
    have i0 : (0 : Int) ≤ (j : Int) := by omega
    have i1 : (j : Int) ≤ 1000 := by have := HKL.out; omega
    clear hL hd hkk hx hkt hs0 hlt hjk
    go_wp2_with (first | (go_at_call 58; (with_reducible refine (w_kid _ g l st tx dp kk false s1 n1 HWW.out HKT.out).mono ?_); rintro e w2 ⟨rfl, hb⟩; have HB2 := Aside0.mk (HB.out.trans (hb.mono HB.out.size)); have HO2 := Aside0.mk (own_move HO.out (fun k hk => hb.block k (own_lt HO.out k hk))); clear hb) | (at_builtin; refine print_append_of (w0 := w1) Value.string w1.heap.size rfl (.tmp 47) (.tmp 49) 56 9 (.string ⟨#[]⟩) 16 rfl Tryz.underlying56 info9w rfl (by omega) _ s0 s1 (by rfl) (by rfl) rfl HO2.out HB2.out HB2.out.size (by have := HS0.out; omega) ?_; intro v1 w3 hown hB3 hg3 hat3; have HO3 := Aside0.mk hown; have HB3 := Aside0.mk hB3; clear hown hB3 hg3 hat3))
    all_goals
     go_roundg k2
     case measure => omega
     case rel => exact ⟨j + 1, s0 ++ [s1], mx d0 n1, ⟨by have := HJK.out; omega⟩, by first | rfl | (simp; done) | go_num, by first | rfl | (congr 1; unfold mx; split <;> first | rfl | (exfalso; omega)), HL2, HO3, HB3⟩
   | zero =>
    have hlt : ¬ j < ks.length := by omega
    have t0 : decide (j < ks.length) = false := decide_eq_false hlt
    have hd : ks.drop j = [] := List.drop_eq_nil_of_le (by omega)
    have hL := HL.out
    rw [hd] at hL
    obtain ⟨rfl, rfl⟩ := Prod.mk.inj (Option.some.inj (show some (s0, d0) = some (ss, d) from hL))
    clear hL hd hlt hjk HL
    obtain ⟨A6, c6, rfl, hc6, hC6⟩ := Kd.R_reads (Kd.R_of_own (ok := fun _ => True) HO.out (fun _ _ => trivial))
    have hC7 : Kd.C Kd.string _ A6 s0.length s0 := hC6
    have HC6 := Aside0.mk (And.intro hC7 hc6)
    have m0 := pw_cell_below HB.out (pw_cell_below HB1.out k0)
    have m1 := pw_cell_below HB.out (pw_cell_below HB1.out HX1.out)
    have z1 : (9223372036854775807 < x.size + 1) = False := big_no (by have := HP.out; omega)
    have z2 : (9223372036854775807 < x.size + 1 + jn.size) = False := big_no (by have := HP.out; have := HP5.out; omega)
    have z3 : (9223372036854775807 < x.size + 1 + jn.size + 1) = False := big_no (by have := HP.out; have := HP5.out; omega)
    clear hc6 hC6 hC7
    go_wp2
    refine start_ (n := 17) (S := fun w' => w'.cell? ⟨g, 0, none⟩ = some (.slice (some ad) l.length c0) ∧ w'.cell? ⟨(ad.add (i.toNat * 3)).block, (ad.add (i.toNat * 3)).off + 1, none⟩ = some (.string x)) (ds := []) #[false, false, false, false, false, false, false, false, false, false, false, false, false, false, false, false, false] (by kernel_rfl) rfl rfl ⟨m0, m1⟩ (fun hHeld => ?_)
    refine pure_ (i := 0) (N := some 55) (v := ?_) (a' := ?_) #[true, false, false, false, false, false, false, false, false, false, false, false, false, false, false, false, false] rfl rfl (by kernel_rfl) (fun _ _ _ h => h) (Or.inl ⟨by rfl, ?_⟩) ?_ ?_
    rotate_left
    ·intro w'
     go_simp
     with_reducible rfl
    rotate_left
    ·simp only [Act.put, List.setIfInBounds_toArray, List.set_cons_zero, List.set_cons_succ, i64_w, i32_w]
     rfl
    refine pure_ (i := 1) (N := some 56) (v := ?_) (a' := ?_) #[true, true, false, false, false, false, false, false, false, false, false, false, false, false, false, false, false] rfl rfl (by kernel_rfl) (fun _ _ _ h => h) (Or.inl ⟨by rfl, ?_⟩) ?_ ?_
    rotate_left
    ·intro w'
     go_simp
     with_reducible rfl
    rotate_left
    ·simp only [Act.put, List.setIfInBounds_toArray, List.set_cons_zero, List.set_cons_succ, i64_w, i32_w]
     rfl
    refine pure_ (i := 2) (N := some 57) (v := ?_) (a' := ?_) #[true, true, true, false, false, false, false, false, false, false, false, false, false, false, false, false, false] rfl rfl (by kernel_rfl) (fun _ _ _ h => h) (Or.inl ⟨by rfl, ?_⟩) ?_ ?_
    rotate_left
    ·intro w'
     go_simp
     with_reducible rfl
    rotate_left
    ·simp only [Act.put, List.setIfInBounds_toArray, List.set_cons_zero, List.set_cons_succ, i64_w, i32_w]
     rfl
    refine pure_ (i := 4) (N := some 59) (v := ?_) (a' := ?_) #[true, true, true, false, true, false, false, false, false, false, false, false, false, false, false, false, false] rfl rfl (by kernel_rfl) (fun _ _ _ h => h) (Or.inl ⟨by rfl, ?_⟩) ?_ ?_
    rotate_left
    ·intro w'
     go_simp
     with_reducible rfl
    rotate_left
    ·simp only [Act.put, List.setIfInBounds_toArray, List.set_cons_zero, List.set_cons_succ, i64_w, i32_w]
     rfl
    refine pure_ (i := 9) (N := some 64) (v := ?_) (a' := ?_) #[true, true, true, false, true, false, false, false, false, true, false, false, false, false, false, false, false] rfl rfl (by kernel_rfl) (fun _ _ _ h => h) (Or.inl ⟨by rfl, ?_⟩) ?_ ?_
    rotate_left
    ·intro w'
     go_simp
     with_reducible rfl
    rotate_left
    ·simp only [Act.put, List.setIfInBounds_toArray, List.set_cons_zero, List.set_cons_succ, i64_w, i32_w]
     rfl
    refine pure_ (i := 13) (N := some 68) (v := ?_) (a' := ?_) #[true, true, true, false, true, false, false, false, false, true, false, false, false, true, false, false, false] rfl rfl (by kernel_rfl) (fun _ _ _ h => h) (Or.inl ⟨by rfl, ?_⟩) ?_ ?_
    rotate_left
    ·intro w'
     go_simp
     with_reducible rfl
    rotate_left
    ·simp only [Act.put, List.setIfInBounds_toArray, List.set_cons_zero, List.set_cons_succ, i64_w, i32_w]
     rfl
    refine pure_ (i := 14) (N := some 69) (v := ?_) (a' := ?_) #[true, true, true, false, true, false, false, false, false, true, false, false, false, true, true, false, false] rfl rfl (by kernel_rfl) (fun _ _ _ h => h) (Or.inl ⟨by rfl, ?_⟩) ?_ ?_
    rotate_left
    ·intro w'
     go_simp
     with_reducible rfl
    rotate_left
    ·simp only [Act.put, List.setIfInBounds_toArray, List.set_cons_zero, List.set_cons_succ, i64_w, i32_w]
     rfl
    refine take_ (i := 3) (N := some 58) (v := ?_) (a' := ?_) #[true, true, true, true, true, false, false, false, false, true, false, false, false, true, true, false, false] rfl rfl (by kernel_rfl) (fun _ _ _ h => h) (Or.inl ⟨by rfl, ?_⟩) hHeld ?_ ?_
    rotate_left
    ·rintro w' ⟨s0, s1⟩
     go_simp
     with_reducible rfl
    rotate_left
    ·simp only [Act.put, List.setIfInBounds_toArray, List.set_cons_zero, List.set_cons_succ, i64_w, i32_w]
     rfl
    refine pure_ (i := 5) (N := some 60) (v := ?_) (a' := ?_) #[true, true, true, true, true, true, false, false, false, true, false, false, false, true, true, false, false] rfl rfl (by kernel_rfl) (fun _ _ _ h => h) (Or.inl ⟨by rfl, ?_⟩) ?_ ?_
    rotate_left
    ·intro w'
     go_simp
     with_reducible rfl
    rotate_left
    ·simp only [Act.put, List.setIfInBounds_toArray, List.set_cons_zero, List.set_cons_succ, i64_w, i32_w]
     rfl
    refine pure_ (i := 6) (N := some 61) (v := ?_) (a' := ?_) #[true, true, true, true, true, true, true, false, false, true, false, false, false, true, true, false, false] rfl rfl (by kernel_rfl) (fun _ _ _ h => h) (Or.inl ⟨by rfl, ?_⟩) ?_ ?_
    rotate_left
    ·intro w'
     go_simp
     with_reducible rfl
    rotate_left
    ·simp only [Act.put, List.setIfInBounds_toArray, List.set_cons_zero, List.set_cons_succ, i64_w, i32_w]
     rfl
    refine take_ (i := 7) (N := some 62) (v := ?_) (a' := ?_) #[true, true, true, true, true, true, true, true, false, true, false, false, false, true, true, false, false] rfl rfl (by kernel_rfl) (fun _ _ _ h => h) (Or.inl ⟨by rfl, ?_⟩) hHeld ?_ ?_
    rotate_left
    ·rintro w' ⟨s0, s1⟩
     go_simp
     with_reducible rfl
    rotate_left
    ·simp only [Act.put, List.setIfInBounds_toArray, List.set_cons_zero, List.set_cons_succ, i64_w, i32_w]
     rfl
    refine pure_ (i := 8) (N := some 63) (v := ?_) (a' := ?_) #[true, true, true, true, true, true, true, true, true, true, false, false, false, true, true, false, false] rfl rfl (by kernel_rfl) (fun _ _ _ h => h) (Or.inl ⟨by rfl, ?_⟩) ?_ ?_
    rotate_left
    ·intro w'
     go_simp
     with_reducible rfl
    rotate_left
    ·simp only [Act.put, List.setIfInBounds_toArray, List.set_cons_zero, List.set_cons_succ, i64_w, i32_w]
     rfl
    refine one_ (i := 10) (N := some 65) #[true, true, true, true, true, true, true, true, true, true, true, false, false, true, true, false, false] rfl rfl (by kernel_rfl) (by decide) (fun K hK => ?_)
    refine goes_ Tryz.func59 (by kernel_rfl) rfl #[.slice A6 s0.length c6, .string ⟨#[44]⟩] (by rfl) rfl rfl Zz16 ?_
    with_reducible refine (strings_Join.calls A6 c6 s0 ⟨#[44]⟩ jn _ (Kd.C_below HC6.out.1 (below_drew (Below.refl _ _))) HC6.out.2 HJ.out).mono ?_
    rintro e w9 ⟨rfl, hb9⟩
    refine ⟨_, rfl, ?_⟩
    refine hK.out _ _ ⟨pw_cell_below hb9 hHeld.1, pw_cell_below hb9 hHeld.2⟩ (fun hHeld => ?_)
    clear hK K
    refine norm_ (a' := ?_) ?_ ?_
    rotate_left
    ·show Act.put _ (some 65) _ = _
     simp only [Act.put, List.setIfInBounds_toArray, List.set_cons_zero, List.set_cons_succ, i64_w, i32_w]
     rfl
    refine pure_ (i := 11) (N := some 66) (v := ?_) (a' := ?_) #[true, true, true, true, true, true, true, true, true, true, true, true, false, true, true, false, false] rfl rfl (by kernel_rfl) (fun _ _ _ h => h) (Or.inl ⟨by rfl, ?_⟩) ?_ ?_
    rotate_left
    ·intro w'
     go_simp
     with_reducible rfl
    rotate_left
    ·simp only [Act.put, List.setIfInBounds_toArray, List.set_cons_zero, List.set_cons_succ, i64_w, i32_w]
     rfl
    refine pure_ (i := 12) (N := some 67) (v := ?_) (a' := ?_) #[true, true, true, true, true, true, true, true, true, true, true, true, true, true, true, false, false] rfl rfl (by kernel_rfl) (fun _ _ _ h => h) (Or.inl ⟨by rfl, ?_⟩) ?_ ?_
    rotate_left
    ·intro w'
     go_simp
     with_reducible rfl
    rotate_left
    ·simp only [Act.put, List.setIfInBounds_toArray, List.set_cons_zero, List.set_cons_succ, i64_w, i32_w]
     rfl
    refine pure_ (i := 15) (N := some 4) (v := ?_) (a' := ?_) #[true, true, true, true, true, true, true, true, true, true, true, true, true, true, true, true, false] rfl rfl (by kernel_rfl) (fun _ _ _ h => h) (Or.inl ⟨by rfl, ?_⟩) ?_ ?_
    rotate_left
    ·intro w'
     go_simp
     with_reducible rfl
    rotate_left
    ·simp only [Act.put, List.setIfInBounds_toArray, List.set_cons_zero, List.set_cons_succ, i64_w, i32_w]
     rfl
    refine pure_ (i := 16) (N := some 5) (v := ?_) (a' := ?_) #[true, true, true, true, true, true, true, true, true, true, true, true, true, true, true, true, true] rfl rfl (by kernel_rfl) (fun _ _ _ h => h) (Or.inl ⟨by rfl, ?_⟩) ?_ ?_
    rotate_left
    ·intro w'
     go_simp
     with_reducible rfl
    rotate_left
    ·simp only [Act.put, List.setIfInBounds_toArray, List.set_cons_zero, List.set_cons_succ, i64_w, i32_w]
     rfl
    refine done_ (by kernel_rfl) ?_
    go_wp2
    go_ret2
    exact ⟨rfl, HB1.out.trans (((HB.out.drew).trans (hb9.mono (HB.out.drew).size)).mono HB1.out.size)⟩
theorem run_put {P : Program} {W : World} {t kt et : TypeId} {r : Nat} {es : Array MapEntry} {c : Nat} (k : Int) (v : Value) (hm : P.underlying t = some (.map kt et)) (hd : P.underlying kt = some (.int .i64)) (hr : W.heap.size = r) (hf : Instr.findNow (.int .i64) (.int .i64 k) es.toList 0 = some none) :
  (Instr.mapUpdate t (.map (some r)) (.int .i64 k) v).run P (W.alloc (.map es c)) = .ok () (W.alloc (.map (es.push { key := .int .i64 k, val := v, born := c }) (c + 1))) := by
 subst hr
 have hb := heap_alloc_new W (.map es c)
 have hk : MapKept.IsKey (.int .i64) (.int .i64 k) := by simp [MapKept.IsKey]
 simp only [Instr.mapUpdate, Sem.run_bind, run_underlying hm, MapKept.run_getObj_map hb, MapKept.run_checkKey hd hk, MapKept.run_findKey hd hf, MapKept.run_setObj_map _ hb, Result.andThen]
 simp only [World.alloc]
 congr 1
 have hs : ∀ (a : Array Obj) (x y : Obj), (a.push x).setIfInBounds a.size y = a.push y := by
  intro a x y
  apply Array.ext'
  rw [Array.toList_setIfInBounds, Array.toList_push, Array.toList_push, ← Array.length_toList, List.set_append_right _ _ (Nat.le_refl _)]
  simp
 rw [hs]
theorem run_get {P : Program} {W : World} {t kt et : TypeId} {r : Nat} {es : Array MapEntry} {c i : Nat} {k : Int} {v : Value} {ok : Bool} (hm : P.underlying t = some (.map kt et)) (hd : P.underlying kt = some (.int .i64)) (hb : W.heap[r]? = some (.map es c)) (hf : Instr.findNow (.int .i64) (.int .i64 k) es.toList 0 = some (some (i, v))) :
  (Instr.lookup t (.map (some r)) (.int .i64 k) ok).run P W = .ok (if ok then .tuple #[v, .bool true] else v) W := by
 have hk : MapKept.IsKey (.int .i64) (.int .i64 k) := by simp [MapKept.IsKey]
 simp only [Instr.lookup, Sem.run_bind, run_underlying hm, MapKept.run_getObj_map hb, MapKept.run_checkKey hd hk, MapKept.run_findKey hd hf, Result.andThen, Sem.run_pure]
theorem run_no {P : Program} {W : World} {t kt et : TypeId} {r : Nat} {es : Array MapEntry} {c : Nat} {k : Int} {z : Value} {i : TypeInfo} {ok : Bool} (hm : P.underlying t = some (.map kt et)) (hd : P.underlying kt = some (.int .i64)) (hz : (zeroValue et).run P W = .ok z W) (hb : W.heap[r]? = some (.map es c)) (hf : Instr.findNow (.int .i64) (.int .i64 k) es.toList 0 = some none) :
  (Instr.lookup t (.map (some r)) (.int .i64 k) ok).run P W = .ok (if ok then .tuple #[z, .bool false] else z) W := by
 have hk : MapKept.IsKey (.int .i64) (.int .i64 k) := by simp [MapKept.IsKey]
 simp only [Instr.lookup, Sem.run_bind, run_underlying hm, MapKept.run_getObj_map hb, MapKept.run_checkKey hd hk, MapKept.run_findKey hd hf, Result.andThen, Sem.run_pure, hz]
def signsM : Array MapEntry := #[{ key := .int .i64 4, val := .string ⟨#[124]⟩, born := 0 }, { key := .int .i64 5, val := .string ⟨#[38]⟩, born := 1 }]
def TwoB (W : World) (b g : Nat) (i : Int) : Prop := W.heap[b]? = some (.cells #[.pointer (some ⟨g, 0, none⟩)] 62 (0, 0)) ∧ W.heap[b + 1]? = some (.cells #[.int .i64 i] 3 (0, 0)) ∧ W.heap[b + 2]? = some (.map signsM 2) ∧ W.heap[b + 3]? = some (.cells #[.map (some (b + 2))] 84 (0, 0))
theorem TwoB.below {W W1 : World} {b g : Nat} {i : Int} (h : TwoB W b g i) (hb : Below W.heap.size W W1) : TwoB W1 b g i :=
 ⟨(hb.block _ (blk_lt h.1)).trans h.1, (hb.block _ (blk_lt h.2.1)).trans h.2.1, (hb.block _ (blk_lt h.2.2.1)).trans h.2.2.1, (hb.block _ (blk_lt h.2.2.2)).trans h.2.2.2⟩
theorem TwoB.cells {W : World} {b g : Nat} {i : Int} (h : TwoB W b g i) : W.cell? ⟨b, 0, none⟩ = some (.pointer (some ⟨g, 0, none⟩)) ∧ W.cell? ⟨b + 1, 0, none⟩ = some (.int .i64 i) ∧ W.cell? ⟨b + 3, 0, none⟩ = some (.map (some (b + 2))) := ⟨blk_cell h.1 0, blk_cell h.2.1 0, blk_cell h.2.2.2 0⟩
def oddB (l : List S38) (n i : Int) (own : Bool) : Bool := ((rd_T38 l n).f0 == 4 || (rd_T38 l n).f0 == 5) && (own || (rd_T38 l n).f0 != (rd_T38 l i).f0)
theorem zero9 (W : World) : (zeroValue 9).run Tryz.prog W = .ok (.string ⟨#[]⟩) W := by
 have h : (zeroValue 9).run Tryz.prog W = _ := Tryz.zeroValue9 W
 exact h
set_option maxHeartbeats 8000000 in
set_option maxRecDepth 100000 in
theorem w_odd (w : World) (b g : Nat) (l : List S38) (st : List Int) (tx : List ByteArray) (dp : List Int) (n i : Int) (own : Bool) (hW : WR w g l st tx dp) (hB : TwoB w b g i) (n0 : 0 ≤ n) (n1 : n < (l.length : Int)) (i0 : 0 ≤ i) (i1 : i < (l.length : Int)) :
  Calls Tryz.prog 60 #[.int .i64 n, .bool own, .pointer (some ⟨b, 0, none⟩), .pointer (some ⟨b + 3, 0, none⟩), .pointer (some ⟨b + 1, 0, none⟩)] w fun en w' => en = .returned (.bool (oddB l n i own)) ∧ Drawn0 w w' := by
 obtain ⟨A0, c0, A1, c1, A2, c2, A3, c3, hg, h0, h1, h2, h3, h4, h5⟩ := hW
 obtain ⟨ad, rfl, hx0, hx1, hx2⟩ := at_T38 h0 n n0 n1
 obtain ⟨ad', hA, hy0, hy1, hy2⟩ := at_T38 h0 i i0 i1
 cases hA
 have k0 := blk_cell hg 0
 replace k0 : w.cell? ⟨g, 0, none⟩ = some (.slice (some ad) l.length c0) := k0
 obtain ⟨b0, b1, b3⟩ := hB.cells
 have hM := hB.2.2.1
 obtain ⟨x, hx⟩ : ∃ x, (rd_T38 l n).f0 = x := ⟨_, rfl⟩
 obtain ⟨y, hy⟩ : ∃ y, (rd_T38 l i).f0 = y := ⟨_, rfl⟩
 have HO := Aside0.mk (show oddB l n i own = ((x == 4 || x == 5) && (own || x != y)) by unfold oddB; rw [hx, hy])
 rw [hx] at hx0
 rw [hy] at hy0
 have HY := Aside0.mk hy0
 have K0 := Aside0.mk k0
 have B0 := Aside0.mk b0
 have B1 := Aside0.mk b1
 clear hx hy h0 h1 h2 h3 h4 h5 hg hx1 hx2 hy1 hy2 hB
 by_cases c4 : x = 4
 ·subst c4
  have hl1 := run_get (P := Tryz.prog) (W := w) (t := 84) (k := 4) (ok := true) (es := signsM) (c := 2) (i := 0) Tryz.underlying84 Tryz.underlying3 hM rfl
  cases own with
  | true =>
   go_enter Tryz.func60, Tryz.ntmps60
   go_wp2
   refine start_ (n := 17) (S := fun w' => True) (ds := []) #[false, false, false, false, false, false, false, false, false, false, false, false, false, false, false, false, false] (by kernel_rfl) rfl rfl trivial (fun hHeld => ?_)
   refine pure_ (i := 0) (N := some 25) (v := ?_) (a' := ?_) #[true, false, false, false, false, false, false, false, false, false, false, false, false, false, false, false, false] rfl rfl (by kernel_rfl) (fun _ _ _ h => h) (Or.inl ⟨by rfl, ?_⟩) ?_ ?_
   rotate_left
   ·intro w'
    go_simp
    with_reducible rfl
   rotate_left
   ·simp only [Act.put, List.setIfInBounds_toArray, List.set_cons_zero, List.set_cons_succ, i64_w, i32_w]
    rfl
   refine pure_ (i := 1) (N := some 26) (v := ?_) (a' := ?_) #[true, true, false, false, false, false, false, false, false, false, false, false, false, false, false, false, false] rfl rfl (by kernel_rfl) (fun _ _ _ h => h) (Or.inl ⟨by rfl, ?_⟩) ?_ ?_
   rotate_left
   ·intro w'
    go_simp
    with_reducible rfl
   rotate_left
   ·simp only [Act.put, List.setIfInBounds_toArray, List.set_cons_zero, List.set_cons_succ, i64_w, i32_w]
    rfl
   refine pure_ (i := 2) (N := some 27) (v := ?_) (a' := ?_) #[true, true, true, false, false, false, false, false, false, false, false, false, false, false, false, false, false] rfl rfl (by kernel_rfl) (fun _ _ _ h => h) (Or.inl ⟨by rfl, ?_⟩) ?_ ?_
   rotate_left
   ·intro w'
    go_simp
    with_reducible rfl
   rotate_left
   ·simp only [Act.put, List.setIfInBounds_toArray, List.set_cons_zero, List.set_cons_succ, i64_w, i32_w]
    rfl
   refine pure_ (i := 3) (N := some 28) (v := ?_) (a' := ?_) #[true, true, true, true, false, false, false, false, false, false, false, false, false, false, false, false, false] rfl rfl (by kernel_rfl) (fun _ _ _ h => h) (Or.inl ⟨by rfl, ?_⟩) ?_ ?_
   rotate_left
   ·intro w'
    go_simp
    with_reducible rfl
   rotate_left
   ·simp only [Act.put, List.setIfInBounds_toArray, List.set_cons_zero, List.set_cons_succ, i64_w, i32_w]
    rfl
   refine pure_ (i := 4) (N := some 29) (v := undef) (a' := ?_) #[true, true, true, true, true, false, false, false, false, false, false, false, false, false, false, false, false] rfl rfl (by kernel_rfl) (fun _ _ _ h => h) (Or.inr ⟨by rfl, rfl⟩) ?_ ?_
   rotate_left
   ·simp only [Act.put, List.setIfInBounds_toArray, List.set_cons_zero, List.set_cons_succ, i64_w, i32_w]
    rfl
   refine pure_ (i := 5) (N := some 30) (v := undef) (a' := ?_) #[true, true, true, true, true, true, false, false, false, false, false, false, false, false, false, false, false] rfl rfl (by kernel_rfl) (fun _ _ _ h => h) (Or.inr ⟨by rfl, rfl⟩) ?_ ?_
   rotate_left
   ·simp only [Act.put, List.setIfInBounds_toArray, List.set_cons_zero, List.set_cons_succ, i64_w, i32_w]
    rfl
   refine pure_ (i := 6) (N := some 31) (v := undef) (a' := ?_) #[true, true, true, true, true, true, true, false, false, false, false, false, false, false, false, false, false] rfl rfl (by kernel_rfl) (fun _ _ _ h => h) (Or.inr ⟨by rfl, rfl⟩) ?_ ?_
   rotate_left
   ·simp only [Act.put, List.setIfInBounds_toArray, List.set_cons_zero, List.set_cons_succ, i64_w, i32_w]
    rfl
   refine pure_ (i := 7) (N := some 32) (v := undef) (a' := ?_) #[true, true, true, true, true, true, true, true, false, false, false, false, false, false, false, false, false] rfl rfl (by kernel_rfl) (fun _ _ _ h => h) (Or.inr ⟨by rfl, rfl⟩) ?_ ?_
   rotate_left
   ·simp only [Act.put, List.setIfInBounds_toArray, List.set_cons_zero, List.set_cons_succ, i64_w, i32_w]
    rfl
   refine pure_ (i := 8) (N := some 33) (v := undef) (a' := ?_) #[true, true, true, true, true, true, true, true, true, false, false, false, false, false, false, false, false] rfl rfl (by kernel_rfl) (fun _ _ _ h => h) (Or.inr ⟨by rfl, rfl⟩) ?_ ?_
   rotate_left
   ·simp only [Act.put, List.setIfInBounds_toArray, List.set_cons_zero, List.set_cons_succ, i64_w, i32_w]
    rfl
   refine pure_ (i := 9) (N := some 34) (v := undef) (a' := ?_) #[true, true, true, true, true, true, true, true, true, true, false, false, false, false, false, false, false] rfl rfl (by kernel_rfl) (fun _ _ _ h => h) (Or.inr ⟨by rfl, rfl⟩) ?_ ?_
   rotate_left
   ·simp only [Act.put, List.setIfInBounds_toArray, List.set_cons_zero, List.set_cons_succ, i64_w, i32_w]
    rfl
   refine pure_ (i := 10) (N := some 35) (v := undef) (a' := ?_) #[true, true, true, true, true, true, true, true, true, true, true, false, false, false, false, false, false] rfl rfl (by kernel_rfl) (fun _ _ _ h => h) (Or.inr ⟨by rfl, rfl⟩) ?_ ?_
   rotate_left
   ·simp only [Act.put, List.setIfInBounds_toArray, List.set_cons_zero, List.set_cons_succ, i64_w, i32_w]
    rfl
   refine pure_ (i := 11) (N := some 36) (v := undef) (a' := ?_) #[true, true, true, true, true, true, true, true, true, true, true, true, false, false, false, false, false] rfl rfl (by kernel_rfl) (fun _ _ _ h => h) (Or.inr ⟨by rfl, rfl⟩) ?_ ?_
   rotate_left
   ·simp only [Act.put, List.setIfInBounds_toArray, List.set_cons_zero, List.set_cons_succ, i64_w, i32_w]
    rfl
   refine pure_ (i := 12) (N := some 37) (v := undef) (a' := ?_) #[true, true, true, true, true, true, true, true, true, true, true, true, true, false, false, false, false] rfl rfl (by kernel_rfl) (fun _ _ _ h => h) (Or.inr ⟨by rfl, rfl⟩) ?_ ?_
   rotate_left
   ·simp only [Act.put, List.setIfInBounds_toArray, List.set_cons_zero, List.set_cons_succ, i64_w, i32_w]
    rfl
   refine pure_ (i := 13) (N := some 38) (v := undef) (a' := ?_) #[true, true, true, true, true, true, true, true, true, true, true, true, true, true, false, false, false] rfl rfl (by kernel_rfl) (fun _ _ _ h => h) (Or.inr ⟨by rfl, rfl⟩) ?_ ?_
   rotate_left
   ·simp only [Act.put, List.setIfInBounds_toArray, List.set_cons_zero, List.set_cons_succ, i64_w, i32_w]
    rfl
   refine pure_ (i := 14) (N := some 39) (v := ?_) (a' := ?_) #[true, true, true, true, true, true, true, true, true, true, true, true, true, true, true, false, false] rfl rfl (by kernel_rfl) (fun _ _ _ h => h) (Or.inl ⟨by rfl, ?_⟩) ?_ ?_
   rotate_left
   ·intro w'
    go_simp
    with_reducible rfl
   rotate_left
   ·simp only [Act.put, List.setIfInBounds_toArray, List.set_cons_zero, List.set_cons_succ, i64_w, i32_w]
    rfl
   refine pure_ (i := 15) (N := some 40) (v := ?_) (a' := ?_) #[true, true, true, true, true, true, true, true, true, true, true, true, true, true, true, true, false] rfl rfl (by kernel_rfl) (fun _ _ _ h => h) (Or.inl ⟨by rfl, ?_⟩) ?_ ?_
   rotate_left
   ·intro w'
    go_simp
    with_reducible rfl
   rotate_left
   ·simp only [Act.put, List.setIfInBounds_toArray, List.set_cons_zero, List.set_cons_succ, i64_w, i32_w]
    rfl
   refine pure_ (i := 16) (N := some 7) (v := ?_) (a' := ?_) #[true, true, true, true, true, true, true, true, true, true, true, true, true, true, true, true, true] rfl rfl (by kernel_rfl) (fun _ _ _ h => h) (Or.inl ⟨by rfl, ?_⟩) ?_ ?_
   rotate_left
   ·intro w'
    go_simp
    with_reducible rfl
   rotate_left
   ·simp only [Act.put, List.setIfInBounds_toArray, List.set_cons_zero, List.set_cons_succ, i64_w, i32_w]
    rfl
   refine done_ (by kernel_rfl) ?_
   go_wp2
   go_ret
   exact ⟨by rw [HO.out]; rfl, ⟨1, rfl⟩⟩
  | false =>
   by_cases cy : (4 : Int) = y
   ·have f1 : ((4 : Int) != y) = false := bne_eq_false_iff_eq.mpr cy
    have HO2 := Aside0.mk (show oddB l n i false = false by rw [HO.out, f1]; rfl)
    clear cy
    go_enter Tryz.func60, Tryz.ntmps60
    go_wp2
    refine start_ (n := 17) (S := fun w' => w'.cell? ⟨b, 0, none⟩ = some (.pointer (some ⟨g, 0, none⟩)) ∧ w'.cell? ⟨g, 0, none⟩ = some (.slice (some ad) l.length c0) ∧ w'.cell? ⟨b + 1, 0, none⟩ = some (.int .i64 i) ∧ w'.cell? (ad.add (i.toNat * 3)) = some (.int .i64 y)) (ds := []) #[false, false, false, false, false, false, false, false, false, false, false, false, false, false, false, false, false] (by kernel_rfl) rfl rfl ⟨B0.out, K0.out, B1.out, HY.out⟩ (fun hHeld => ?_)
    refine pure_ (i := 0) (N := some 25) (v := ?_) (a' := ?_) #[true, false, false, false, false, false, false, false, false, false, false, false, false, false, false, false, false] rfl rfl (by kernel_rfl) (fun _ _ _ h => h) (Or.inl ⟨by rfl, ?_⟩) ?_ ?_
    rotate_left
    ·intro w'
     go_simp
     with_reducible rfl
    rotate_left
    ·simp only [Act.put, List.setIfInBounds_toArray, List.set_cons_zero, List.set_cons_succ, i64_w, i32_w]
     rfl
    refine pure_ (i := 1) (N := some 26) (v := ?_) (a' := ?_) #[true, true, false, false, false, false, false, false, false, false, false, false, false, false, false, false, false] rfl rfl (by kernel_rfl) (fun _ _ _ h => h) (Or.inl ⟨by rfl, ?_⟩) ?_ ?_
    rotate_left
    ·intro w'
     go_simp
     with_reducible rfl
    rotate_left
    ·simp only [Act.put, List.setIfInBounds_toArray, List.set_cons_zero, List.set_cons_succ, i64_w, i32_w]
     rfl
    refine pure_ (i := 2) (N := some 27) (v := ?_) (a' := ?_) #[true, true, true, false, false, false, false, false, false, false, false, false, false, false, false, false, false] rfl rfl (by kernel_rfl) (fun _ _ _ h => h) (Or.inl ⟨by rfl, ?_⟩) ?_ ?_
    rotate_left
    ·intro w'
     go_simp
     with_reducible rfl
    rotate_left
    ·simp only [Act.put, List.setIfInBounds_toArray, List.set_cons_zero, List.set_cons_succ, i64_w, i32_w]
     rfl
    refine pure_ (i := 3) (N := some 28) (v := ?_) (a' := ?_) #[true, true, true, true, false, false, false, false, false, false, false, false, false, false, false, false, false] rfl rfl (by kernel_rfl) (fun _ _ _ h => h) (Or.inl ⟨by rfl, ?_⟩) ?_ ?_
    rotate_left
    ·intro w'
     go_simp
     with_reducible rfl
    rotate_left
    ·simp only [Act.put, List.setIfInBounds_toArray, List.set_cons_zero, List.set_cons_succ, i64_w, i32_w]
     rfl
    refine pure_ (i := 4) (N := some 29) (v := ?_) (a' := ?_) #[true, true, true, true, true, false, false, false, false, false, false, false, false, false, false, false, false] rfl rfl (by kernel_rfl) (fun _ _ _ h => h) (Or.inl ⟨by rfl, ?_⟩) ?_ ?_
    rotate_left
    ·intro w'
     go_simp
     with_reducible rfl
    rotate_left
    ·simp only [Act.put, List.setIfInBounds_toArray, List.set_cons_zero, List.set_cons_succ, i64_w, i32_w]
     rfl
    refine take_ (i := 5) (N := some 30) (v := ?_) (a' := ?_) #[true, true, true, true, true, true, false, false, false, false, false, false, false, false, false, false, false] rfl rfl (by kernel_rfl) (fun _ _ _ h => h) (Or.inl ⟨by rfl, ?_⟩) hHeld ?_ ?_
    rotate_left
    ·rintro w' ⟨s0, s1, s2, s3⟩
     go_simp
     with_reducible rfl
    rotate_left
    ·simp only [Act.put, List.setIfInBounds_toArray, List.set_cons_zero, List.set_cons_succ, i64_w, i32_w]
     rfl
    refine pure_ (i := 6) (N := some 31) (v := ?_) (a' := ?_) #[true, true, true, true, true, true, true, false, false, false, false, false, false, false, false, false, false] rfl rfl (by kernel_rfl) (fun _ _ _ h => h) (Or.inl ⟨by rfl, ?_⟩) ?_ ?_
    rotate_left
    ·intro w'
     go_simp
     with_reducible rfl
    rotate_left
    ·simp only [Act.put, List.setIfInBounds_toArray, List.set_cons_zero, List.set_cons_succ, i64_w, i32_w]
     rfl
    refine pure_ (i := 7) (N := some 32) (v := ?_) (a' := ?_) #[true, true, true, true, true, true, true, true, false, false, false, false, false, false, false, false, false] rfl rfl (by kernel_rfl) (fun _ _ _ h => h) (Or.inl ⟨by rfl, ?_⟩) ?_ ?_
    rotate_left
    ·intro w'
     go_simp
     with_reducible rfl
    rotate_left
    ·simp only [Act.put, List.setIfInBounds_toArray, List.set_cons_zero, List.set_cons_succ, i64_w, i32_w]
     rfl
    refine take_ (i := 8) (N := some 33) (v := ?_) (a' := ?_) #[true, true, true, true, true, true, true, true, true, false, false, false, false, false, false, false, false] rfl rfl (by kernel_rfl) (fun _ _ _ h => h) (Or.inl ⟨by rfl, ?_⟩) hHeld ?_ ?_
    rotate_left
    ·rintro w' ⟨s0, s1, s2, s3⟩
     go_simp
     with_reducible rfl
    rotate_left
    ·simp only [Act.put, List.setIfInBounds_toArray, List.set_cons_zero, List.set_cons_succ, i64_w, i32_w]
     rfl
    refine take_ (i := 9) (N := some 34) (v := ?_) (a' := ?_) #[true, true, true, true, true, true, true, true, true, true, false, false, false, false, false, false, false] rfl rfl (by kernel_rfl) (fun _ _ _ h => h) (Or.inl ⟨by rfl, ?_⟩) hHeld ?_ ?_
    rotate_left
    ·rintro w' ⟨s0, s1, s2, s3⟩
     go_simp
     with_reducible rfl
    rotate_left
    ·simp only [Act.put, List.setIfInBounds_toArray, List.set_cons_zero, List.set_cons_succ, i64_w, i32_w]
     rfl
    refine pure_ (i := 10) (N := some 35) (v := ?_) (a' := ?_) #[true, true, true, true, true, true, true, true, true, true, true, false, false, false, false, false, false] rfl rfl (by kernel_rfl) (fun _ _ _ h => h) (Or.inl ⟨by rfl, ?_⟩) ?_ ?_
    rotate_left
    ·intro w'
     go_simp
     with_reducible rfl
    rotate_left
    ·simp only [Act.put, List.setIfInBounds_toArray, List.set_cons_zero, List.set_cons_succ, i64_w, i32_w]
     rfl
    refine pure_ (i := 11) (N := some 36) (v := ?_) (a' := ?_) #[true, true, true, true, true, true, true, true, true, true, true, true, false, false, false, false, false] rfl rfl (by kernel_rfl) (fun _ _ _ h => h) (Or.inl ⟨by rfl, ?_⟩) ?_ ?_
    rotate_left
    ·intro w'
     go_simp
     with_reducible rfl
    rotate_left
    ·simp only [Act.put, List.setIfInBounds_toArray, List.set_cons_zero, List.set_cons_succ, i64_w, i32_w]
     rfl
    refine take_ (i := 12) (N := some 37) (v := ?_) (a' := ?_) #[true, true, true, true, true, true, true, true, true, true, true, true, true, false, false, false, false] rfl rfl (by kernel_rfl) (fun _ _ _ h => h) (Or.inl ⟨by rfl, ?_⟩) hHeld ?_ ?_
    rotate_left
    ·rintro w' ⟨s0, s1, s2, s3⟩
     go_simp
     with_reducible rfl
    rotate_left
    ·simp only [Act.put, List.setIfInBounds_toArray, List.set_cons_zero, List.set_cons_succ, i64_w, i32_w]
     rfl
    refine pure_ (i := 13) (N := some 38) (v := ?_) (a' := ?_) #[true, true, true, true, true, true, true, true, true, true, true, true, true, true, false, false, false] rfl rfl (by kernel_rfl) (fun _ _ _ h => h) (Or.inl ⟨by rfl, ?_⟩) ?_ ?_
    rotate_left
    ·intro w'
     go_simp
     with_reducible rfl
    rotate_left
    ·simp only [Act.put, List.setIfInBounds_toArray, List.set_cons_zero, List.set_cons_succ, i64_w, i32_w]
     rfl
    refine pure_ (i := 14) (N := some 39) (v := ?_) (a' := ?_) #[true, true, true, true, true, true, true, true, true, true, true, true, true, true, true, false, false] rfl rfl (by kernel_rfl) (fun _ _ _ h => h) (Or.inl ⟨by rfl, ?_⟩) ?_ ?_
    rotate_left
    ·intro w'
     go_simp
     with_reducible rfl
    rotate_left
    ·simp only [Act.put, List.setIfInBounds_toArray, List.set_cons_zero, List.set_cons_succ, i64_w, i32_w]
     rfl
    refine pure_ (i := 15) (N := some 40) (v := ?_) (a' := ?_) #[true, true, true, true, true, true, true, true, true, true, true, true, true, true, true, true, false] rfl rfl (by kernel_rfl) (fun _ _ _ h => h) (Or.inl ⟨by rfl, ?_⟩) ?_ ?_
    rotate_left
    ·intro w'
     go_simp
     with_reducible rfl
    rotate_left
    ·simp only [Act.put, List.setIfInBounds_toArray, List.set_cons_zero, List.set_cons_succ, i64_w, i32_w]
     rfl
    refine pure_ (i := 16) (N := some 7) (v := ?_) (a' := ?_) #[true, true, true, true, true, true, true, true, true, true, true, true, true, true, true, true, true] rfl rfl (by kernel_rfl) (fun _ _ _ h => h) (Or.inl ⟨by rfl, ?_⟩) ?_ ?_
    rotate_left
    ·intro w'
     go_simp
     with_reducible rfl
    rotate_left
    ·simp only [Act.put, List.setIfInBounds_toArray, List.set_cons_zero, List.set_cons_succ, i64_w, i32_w]
     rfl
    refine done_ (by kernel_rfl) ?_
    go_wp2
    go_ret
    exact ⟨by rw [HO2.out]; first | done | rfl, ⟨1, rfl⟩⟩
   ·have f1 : ((4 : Int) != y) = true := bne_iff_ne.mpr cy
    have HO2 := Aside0.mk (show oddB l n i false = true by rw [HO.out, f1]; rfl)
    clear cy
    go_enter Tryz.func60, Tryz.ntmps60
    go_wp2
    refine start_ (n := 17) (S := fun w' => w'.cell? ⟨b, 0, none⟩ = some (.pointer (some ⟨g, 0, none⟩)) ∧ w'.cell? ⟨g, 0, none⟩ = some (.slice (some ad) l.length c0) ∧ w'.cell? ⟨b + 1, 0, none⟩ = some (.int .i64 i) ∧ w'.cell? (ad.add (i.toNat * 3)) = some (.int .i64 y)) (ds := []) #[false, false, false, false, false, false, false, false, false, false, false, false, false, false, false, false, false] (by kernel_rfl) rfl rfl ⟨B0.out, K0.out, B1.out, HY.out⟩ (fun hHeld => ?_)
    refine pure_ (i := 0) (N := some 25) (v := ?_) (a' := ?_) #[true, false, false, false, false, false, false, false, false, false, false, false, false, false, false, false, false] rfl rfl (by kernel_rfl) (fun _ _ _ h => h) (Or.inl ⟨by rfl, ?_⟩) ?_ ?_
    rotate_left
    ·intro w'
     go_simp
     with_reducible rfl
    rotate_left
    ·simp only [Act.put, List.setIfInBounds_toArray, List.set_cons_zero, List.set_cons_succ, i64_w, i32_w]
     rfl
    refine pure_ (i := 1) (N := some 26) (v := ?_) (a' := ?_) #[true, true, false, false, false, false, false, false, false, false, false, false, false, false, false, false, false] rfl rfl (by kernel_rfl) (fun _ _ _ h => h) (Or.inl ⟨by rfl, ?_⟩) ?_ ?_
    rotate_left
    ·intro w'
     go_simp
     with_reducible rfl
    rotate_left
    ·simp only [Act.put, List.setIfInBounds_toArray, List.set_cons_zero, List.set_cons_succ, i64_w, i32_w]
     rfl
    refine pure_ (i := 2) (N := some 27) (v := ?_) (a' := ?_) #[true, true, true, false, false, false, false, false, false, false, false, false, false, false, false, false, false] rfl rfl (by kernel_rfl) (fun _ _ _ h => h) (Or.inl ⟨by rfl, ?_⟩) ?_ ?_
    rotate_left
    ·intro w'
     go_simp
     with_reducible rfl
    rotate_left
    ·simp only [Act.put, List.setIfInBounds_toArray, List.set_cons_zero, List.set_cons_succ, i64_w, i32_w]
     rfl
    refine pure_ (i := 3) (N := some 28) (v := ?_) (a' := ?_) #[true, true, true, true, false, false, false, false, false, false, false, false, false, false, false, false, false] rfl rfl (by kernel_rfl) (fun _ _ _ h => h) (Or.inl ⟨by rfl, ?_⟩) ?_ ?_
    rotate_left
    ·intro w'
     go_simp
     with_reducible rfl
    rotate_left
    ·simp only [Act.put, List.setIfInBounds_toArray, List.set_cons_zero, List.set_cons_succ, i64_w, i32_w]
     rfl
    refine pure_ (i := 4) (N := some 29) (v := ?_) (a' := ?_) #[true, true, true, true, true, false, false, false, false, false, false, false, false, false, false, false, false] rfl rfl (by kernel_rfl) (fun _ _ _ h => h) (Or.inl ⟨by rfl, ?_⟩) ?_ ?_
    rotate_left
    ·intro w'
     go_simp
     with_reducible rfl
    rotate_left
    ·simp only [Act.put, List.setIfInBounds_toArray, List.set_cons_zero, List.set_cons_succ, i64_w, i32_w]
     rfl
    refine take_ (i := 5) (N := some 30) (v := ?_) (a' := ?_) #[true, true, true, true, true, true, false, false, false, false, false, false, false, false, false, false, false] rfl rfl (by kernel_rfl) (fun _ _ _ h => h) (Or.inl ⟨by rfl, ?_⟩) hHeld ?_ ?_
    rotate_left
    ·rintro w' ⟨s0, s1, s2, s3⟩
     go_simp
     with_reducible rfl
    rotate_left
    ·simp only [Act.put, List.setIfInBounds_toArray, List.set_cons_zero, List.set_cons_succ, i64_w, i32_w]
     rfl
    refine pure_ (i := 6) (N := some 31) (v := ?_) (a' := ?_) #[true, true, true, true, true, true, true, false, false, false, false, false, false, false, false, false, false] rfl rfl (by kernel_rfl) (fun _ _ _ h => h) (Or.inl ⟨by rfl, ?_⟩) ?_ ?_
    rotate_left
    ·intro w'
     go_simp
     with_reducible rfl
    rotate_left
    ·simp only [Act.put, List.setIfInBounds_toArray, List.set_cons_zero, List.set_cons_succ, i64_w, i32_w]
     rfl
    refine pure_ (i := 7) (N := some 32) (v := ?_) (a' := ?_) #[true, true, true, true, true, true, true, true, false, false, false, false, false, false, false, false, false] rfl rfl (by kernel_rfl) (fun _ _ _ h => h) (Or.inl ⟨by rfl, ?_⟩) ?_ ?_
    rotate_left
    ·intro w'
     go_simp
     with_reducible rfl
    rotate_left
    ·simp only [Act.put, List.setIfInBounds_toArray, List.set_cons_zero, List.set_cons_succ, i64_w, i32_w]
     rfl
    refine take_ (i := 8) (N := some 33) (v := ?_) (a' := ?_) #[true, true, true, true, true, true, true, true, true, false, false, false, false, false, false, false, false] rfl rfl (by kernel_rfl) (fun _ _ _ h => h) (Or.inl ⟨by rfl, ?_⟩) hHeld ?_ ?_
    rotate_left
    ·rintro w' ⟨s0, s1, s2, s3⟩
     go_simp
     with_reducible rfl
    rotate_left
    ·simp only [Act.put, List.setIfInBounds_toArray, List.set_cons_zero, List.set_cons_succ, i64_w, i32_w]
     rfl
    refine take_ (i := 9) (N := some 34) (v := ?_) (a' := ?_) #[true, true, true, true, true, true, true, true, true, true, false, false, false, false, false, false, false] rfl rfl (by kernel_rfl) (fun _ _ _ h => h) (Or.inl ⟨by rfl, ?_⟩) hHeld ?_ ?_
    rotate_left
    ·rintro w' ⟨s0, s1, s2, s3⟩
     go_simp
     with_reducible rfl
    rotate_left
    ·simp only [Act.put, List.setIfInBounds_toArray, List.set_cons_zero, List.set_cons_succ, i64_w, i32_w]
     rfl
    refine pure_ (i := 10) (N := some 35) (v := ?_) (a' := ?_) #[true, true, true, true, true, true, true, true, true, true, true, false, false, false, false, false, false] rfl rfl (by kernel_rfl) (fun _ _ _ h => h) (Or.inl ⟨by rfl, ?_⟩) ?_ ?_
    rotate_left
    ·intro w'
     go_simp
     with_reducible rfl
    rotate_left
    ·simp only [Act.put, List.setIfInBounds_toArray, List.set_cons_zero, List.set_cons_succ, i64_w, i32_w]
     rfl
    refine pure_ (i := 11) (N := some 36) (v := ?_) (a' := ?_) #[true, true, true, true, true, true, true, true, true, true, true, true, false, false, false, false, false] rfl rfl (by kernel_rfl) (fun _ _ _ h => h) (Or.inl ⟨by rfl, ?_⟩) ?_ ?_
    rotate_left
    ·intro w'
     go_simp
     with_reducible rfl
    rotate_left
    ·simp only [Act.put, List.setIfInBounds_toArray, List.set_cons_zero, List.set_cons_succ, i64_w, i32_w]
     rfl
    refine take_ (i := 12) (N := some 37) (v := ?_) (a' := ?_) #[true, true, true, true, true, true, true, true, true, true, true, true, true, false, false, false, false] rfl rfl (by kernel_rfl) (fun _ _ _ h => h) (Or.inl ⟨by rfl, ?_⟩) hHeld ?_ ?_
    rotate_left
    ·rintro w' ⟨s0, s1, s2, s3⟩
     go_simp
     with_reducible rfl
    rotate_left
    ·simp only [Act.put, List.setIfInBounds_toArray, List.set_cons_zero, List.set_cons_succ, i64_w, i32_w]
     rfl
    refine pure_ (i := 13) (N := some 38) (v := ?_) (a' := ?_) #[true, true, true, true, true, true, true, true, true, true, true, true, true, true, false, false, false] rfl rfl (by kernel_rfl) (fun _ _ _ h => h) (Or.inl ⟨by rfl, ?_⟩) ?_ ?_
    rotate_left
    ·intro w'
     go_simp
     with_reducible rfl
    rotate_left
    ·simp only [Act.put, List.setIfInBounds_toArray, List.set_cons_zero, List.set_cons_succ, i64_w, i32_w]
     rfl
    refine pure_ (i := 14) (N := some 39) (v := ?_) (a' := ?_) #[true, true, true, true, true, true, true, true, true, true, true, true, true, true, true, false, false] rfl rfl (by kernel_rfl) (fun _ _ _ h => h) (Or.inl ⟨by rfl, ?_⟩) ?_ ?_
    rotate_left
    ·intro w'
     go_simp
     with_reducible rfl
    rotate_left
    ·simp only [Act.put, List.setIfInBounds_toArray, List.set_cons_zero, List.set_cons_succ, i64_w, i32_w]
     rfl
    refine pure_ (i := 15) (N := some 40) (v := ?_) (a' := ?_) #[true, true, true, true, true, true, true, true, true, true, true, true, true, true, true, true, false] rfl rfl (by kernel_rfl) (fun _ _ _ h => h) (Or.inl ⟨by rfl, ?_⟩) ?_ ?_
    rotate_left
    ·intro w'
     go_simp
     with_reducible rfl
    rotate_left
    ·simp only [Act.put, List.setIfInBounds_toArray, List.set_cons_zero, List.set_cons_succ, i64_w, i32_w]
     rfl
    refine pure_ (i := 16) (N := some 7) (v := ?_) (a' := ?_) #[true, true, true, true, true, true, true, true, true, true, true, true, true, true, true, true, true] rfl rfl (by kernel_rfl) (fun _ _ _ h => h) (Or.inl ⟨by rfl, ?_⟩) ?_ ?_
    rotate_left
    ·intro w'
     go_simp
     with_reducible rfl
    rotate_left
    ·simp only [Act.put, List.setIfInBounds_toArray, List.set_cons_zero, List.set_cons_succ, i64_w, i32_w]
     rfl
    refine done_ (by kernel_rfl) ?_
    go_wp2
    go_ret
    exact ⟨by rw [HO2.out]; first | done | rfl, ⟨1, rfl⟩⟩
 ·by_cases c5 : x = 5
  ·subst c5
   have hl1 := run_get (P := Tryz.prog) (W := w) (t := 84) (k := 5) (ok := true) (es := signsM) (c := 2) (i := 1) Tryz.underlying84 Tryz.underlying3 hM rfl
   cases own with
   | true =>
    go_enter Tryz.func60, Tryz.ntmps60
    go_wp2
    refine start_ (n := 17) (S := fun w' => True) (ds := []) #[false, false, false, false, false, false, false, false, false, false, false, false, false, false, false, false, false] (by kernel_rfl) rfl rfl trivial (fun hHeld => ?_)
    refine pure_ (i := 0) (N := some 25) (v := ?_) (a' := ?_) #[true, false, false, false, false, false, false, false, false, false, false, false, false, false, false, false, false] rfl rfl (by kernel_rfl) (fun _ _ _ h => h) (Or.inl ⟨by rfl, ?_⟩) ?_ ?_
    rotate_left
    ·intro w'
     go_simp
     with_reducible rfl
    rotate_left
    ·simp only [Act.put, List.setIfInBounds_toArray, List.set_cons_zero, List.set_cons_succ, i64_w, i32_w]
     rfl
    refine pure_ (i := 1) (N := some 26) (v := ?_) (a' := ?_) #[true, true, false, false, false, false, false, false, false, false, false, false, false, false, false, false, false] rfl rfl (by kernel_rfl) (fun _ _ _ h => h) (Or.inl ⟨by rfl, ?_⟩) ?_ ?_
    rotate_left
    ·intro w'
     go_simp
     with_reducible rfl
    rotate_left
    ·simp only [Act.put, List.setIfInBounds_toArray, List.set_cons_zero, List.set_cons_succ, i64_w, i32_w]
     rfl
    refine pure_ (i := 2) (N := some 27) (v := ?_) (a' := ?_) #[true, true, true, false, false, false, false, false, false, false, false, false, false, false, false, false, false] rfl rfl (by kernel_rfl) (fun _ _ _ h => h) (Or.inl ⟨by rfl, ?_⟩) ?_ ?_
    rotate_left
    ·intro w'
     go_simp
     with_reducible rfl
    rotate_left
    ·simp only [Act.put, List.setIfInBounds_toArray, List.set_cons_zero, List.set_cons_succ, i64_w, i32_w]
     rfl
    refine pure_ (i := 3) (N := some 28) (v := ?_) (a' := ?_) #[true, true, true, true, false, false, false, false, false, false, false, false, false, false, false, false, false] rfl rfl (by kernel_rfl) (fun _ _ _ h => h) (Or.inl ⟨by rfl, ?_⟩) ?_ ?_
    rotate_left
    ·intro w'
     go_simp
     with_reducible rfl
    rotate_left
    ·simp only [Act.put, List.setIfInBounds_toArray, List.set_cons_zero, List.set_cons_succ, i64_w, i32_w]
     rfl
    refine pure_ (i := 4) (N := some 29) (v := undef) (a' := ?_) #[true, true, true, true, true, false, false, false, false, false, false, false, false, false, false, false, false] rfl rfl (by kernel_rfl) (fun _ _ _ h => h) (Or.inr ⟨by rfl, rfl⟩) ?_ ?_
    rotate_left
    ·simp only [Act.put, List.setIfInBounds_toArray, List.set_cons_zero, List.set_cons_succ, i64_w, i32_w]
     rfl
    refine pure_ (i := 5) (N := some 30) (v := undef) (a' := ?_) #[true, true, true, true, true, true, false, false, false, false, false, false, false, false, false, false, false] rfl rfl (by kernel_rfl) (fun _ _ _ h => h) (Or.inr ⟨by rfl, rfl⟩) ?_ ?_
    rotate_left
    ·simp only [Act.put, List.setIfInBounds_toArray, List.set_cons_zero, List.set_cons_succ, i64_w, i32_w]
     rfl
    refine pure_ (i := 6) (N := some 31) (v := undef) (a' := ?_) #[true, true, true, true, true, true, true, false, false, false, false, false, false, false, false, false, false] rfl rfl (by kernel_rfl) (fun _ _ _ h => h) (Or.inr ⟨by rfl, rfl⟩) ?_ ?_
    rotate_left
    ·simp only [Act.put, List.setIfInBounds_toArray, List.set_cons_zero, List.set_cons_succ, i64_w, i32_w]
     rfl
    refine pure_ (i := 7) (N := some 32) (v := undef) (a' := ?_) #[true, true, true, true, true, true, true, true, false, false, false, false, false, false, false, false, false] rfl rfl (by kernel_rfl) (fun _ _ _ h => h) (Or.inr ⟨by rfl, rfl⟩) ?_ ?_
    rotate_left
    ·simp only [Act.put, List.setIfInBounds_toArray, List.set_cons_zero, List.set_cons_succ, i64_w, i32_w]
     rfl
    refine pure_ (i := 8) (N := some 33) (v := undef) (a' := ?_) #[true, true, true, true, true, true, true, true, true, false, false, false, false, false, false, false, false] rfl rfl (by kernel_rfl) (fun _ _ _ h => h) (Or.inr ⟨by rfl, rfl⟩) ?_ ?_
    rotate_left
    ·simp only [Act.put, List.setIfInBounds_toArray, List.set_cons_zero, List.set_cons_succ, i64_w, i32_w]
     rfl
    refine pure_ (i := 9) (N := some 34) (v := undef) (a' := ?_) #[true, true, true, true, true, true, true, true, true, true, false, false, false, false, false, false, false] rfl rfl (by kernel_rfl) (fun _ _ _ h => h) (Or.inr ⟨by rfl, rfl⟩) ?_ ?_
    rotate_left
    ·simp only [Act.put, List.setIfInBounds_toArray, List.set_cons_zero, List.set_cons_succ, i64_w, i32_w]
     rfl
    refine pure_ (i := 10) (N := some 35) (v := undef) (a' := ?_) #[true, true, true, true, true, true, true, true, true, true, true, false, false, false, false, false, false] rfl rfl (by kernel_rfl) (fun _ _ _ h => h) (Or.inr ⟨by rfl, rfl⟩) ?_ ?_
    rotate_left
    ·simp only [Act.put, List.setIfInBounds_toArray, List.set_cons_zero, List.set_cons_succ, i64_w, i32_w]
     rfl
    refine pure_ (i := 11) (N := some 36) (v := undef) (a' := ?_) #[true, true, true, true, true, true, true, true, true, true, true, true, false, false, false, false, false] rfl rfl (by kernel_rfl) (fun _ _ _ h => h) (Or.inr ⟨by rfl, rfl⟩) ?_ ?_
    rotate_left
    ·simp only [Act.put, List.setIfInBounds_toArray, List.set_cons_zero, List.set_cons_succ, i64_w, i32_w]
     rfl
    refine pure_ (i := 12) (N := some 37) (v := undef) (a' := ?_) #[true, true, true, true, true, true, true, true, true, true, true, true, true, false, false, false, false] rfl rfl (by kernel_rfl) (fun _ _ _ h => h) (Or.inr ⟨by rfl, rfl⟩) ?_ ?_
    rotate_left
    ·simp only [Act.put, List.setIfInBounds_toArray, List.set_cons_zero, List.set_cons_succ, i64_w, i32_w]
     rfl
    refine pure_ (i := 13) (N := some 38) (v := undef) (a' := ?_) #[true, true, true, true, true, true, true, true, true, true, true, true, true, true, false, false, false] rfl rfl (by kernel_rfl) (fun _ _ _ h => h) (Or.inr ⟨by rfl, rfl⟩) ?_ ?_
    rotate_left
    ·simp only [Act.put, List.setIfInBounds_toArray, List.set_cons_zero, List.set_cons_succ, i64_w, i32_w]
     rfl
    refine pure_ (i := 14) (N := some 39) (v := ?_) (a' := ?_) #[true, true, true, true, true, true, true, true, true, true, true, true, true, true, true, false, false] rfl rfl (by kernel_rfl) (fun _ _ _ h => h) (Or.inl ⟨by rfl, ?_⟩) ?_ ?_
    rotate_left
    ·intro w'
     go_simp
     with_reducible rfl
    rotate_left
    ·simp only [Act.put, List.setIfInBounds_toArray, List.set_cons_zero, List.set_cons_succ, i64_w, i32_w]
     rfl
    refine pure_ (i := 15) (N := some 40) (v := ?_) (a' := ?_) #[true, true, true, true, true, true, true, true, true, true, true, true, true, true, true, true, false] rfl rfl (by kernel_rfl) (fun _ _ _ h => h) (Or.inl ⟨by rfl, ?_⟩) ?_ ?_
    rotate_left
    ·intro w'
     go_simp
     with_reducible rfl
    rotate_left
    ·simp only [Act.put, List.setIfInBounds_toArray, List.set_cons_zero, List.set_cons_succ, i64_w, i32_w]
     rfl
    refine pure_ (i := 16) (N := some 7) (v := ?_) (a' := ?_) #[true, true, true, true, true, true, true, true, true, true, true, true, true, true, true, true, true] rfl rfl (by kernel_rfl) (fun _ _ _ h => h) (Or.inl ⟨by rfl, ?_⟩) ?_ ?_
    rotate_left
    ·intro w'
     go_simp
     with_reducible rfl
    rotate_left
    ·simp only [Act.put, List.setIfInBounds_toArray, List.set_cons_zero, List.set_cons_succ, i64_w, i32_w]
     rfl
    refine done_ (by kernel_rfl) ?_
    go_wp2
    go_ret
    exact ⟨by rw [HO.out]; rfl, ⟨1, rfl⟩⟩
   | false =>
    by_cases cy : (5 : Int) = y
    ·have f1 : ((5 : Int) != y) = false := bne_eq_false_iff_eq.mpr cy
     have HO2 := Aside0.mk (show oddB l n i false = false by rw [HO.out, f1]; rfl)
     clear cy
     go_enter Tryz.func60, Tryz.ntmps60
     go_wp2
     refine start_ (n := 17) (S := fun w' => w'.cell? ⟨b, 0, none⟩ = some (.pointer (some ⟨g, 0, none⟩)) ∧ w'.cell? ⟨g, 0, none⟩ = some (.slice (some ad) l.length c0) ∧ w'.cell? ⟨b + 1, 0, none⟩ = some (.int .i64 i) ∧ w'.cell? (ad.add (i.toNat * 3)) = some (.int .i64 y)) (ds := []) #[false, false, false, false, false, false, false, false, false, false, false, false, false, false, false, false, false] (by kernel_rfl) rfl rfl ⟨B0.out, K0.out, B1.out, HY.out⟩ (fun hHeld => ?_)
     refine pure_ (i := 0) (N := some 25) (v := ?_) (a' := ?_) #[true, false, false, false, false, false, false, false, false, false, false, false, false, false, false, false, false] rfl rfl (by kernel_rfl) (fun _ _ _ h => h) (Or.inl ⟨by rfl, ?_⟩) ?_ ?_
     rotate_left
     ·intro w'
      go_simp
      with_reducible rfl
     rotate_left
     ·simp only [Act.put, List.setIfInBounds_toArray, List.set_cons_zero, List.set_cons_succ, i64_w, i32_w]
      rfl
     refine pure_ (i := 1) (N := some 26) (v := ?_) (a' := ?_) #[true, true, false, false, false, false, false, false, false, false, false, false, false, false, false, false, false] rfl rfl (by kernel_rfl) (fun _ _ _ h => h) (Or.inl ⟨by rfl, ?_⟩) ?_ ?_
     rotate_left
     ·intro w'
      go_simp
      with_reducible rfl
     rotate_left
     ·simp only [Act.put, List.setIfInBounds_toArray, List.set_cons_zero, List.set_cons_succ, i64_w, i32_w]
      rfl
     refine pure_ (i := 2) (N := some 27) (v := ?_) (a' := ?_) #[true, true, true, false, false, false, false, false, false, false, false, false, false, false, false, false, false] rfl rfl (by kernel_rfl) (fun _ _ _ h => h) (Or.inl ⟨by rfl, ?_⟩) ?_ ?_
     rotate_left
     ·intro w'
      go_simp
      with_reducible rfl
     rotate_left
     ·simp only [Act.put, List.setIfInBounds_toArray, List.set_cons_zero, List.set_cons_succ, i64_w, i32_w]
      rfl
     refine pure_ (i := 3) (N := some 28) (v := ?_) (a' := ?_) #[true, true, true, true, false, false, false, false, false, false, false, false, false, false, false, false, false] rfl rfl (by kernel_rfl) (fun _ _ _ h => h) (Or.inl ⟨by rfl, ?_⟩) ?_ ?_
     rotate_left
     ·intro w'
      go_simp
      with_reducible rfl
     rotate_left
     ·simp only [Act.put, List.setIfInBounds_toArray, List.set_cons_zero, List.set_cons_succ, i64_w, i32_w]
      rfl
     refine pure_ (i := 4) (N := some 29) (v := ?_) (a' := ?_) #[true, true, true, true, true, false, false, false, false, false, false, false, false, false, false, false, false] rfl rfl (by kernel_rfl) (fun _ _ _ h => h) (Or.inl ⟨by rfl, ?_⟩) ?_ ?_
     rotate_left
     ·intro w'
      go_simp
      with_reducible rfl
     rotate_left
     ·simp only [Act.put, List.setIfInBounds_toArray, List.set_cons_zero, List.set_cons_succ, i64_w, i32_w]
      rfl
     refine take_ (i := 5) (N := some 30) (v := ?_) (a' := ?_) #[true, true, true, true, true, true, false, false, false, false, false, false, false, false, false, false, false] rfl rfl (by kernel_rfl) (fun _ _ _ h => h) (Or.inl ⟨by rfl, ?_⟩) hHeld ?_ ?_
     rotate_left
     ·rintro w' ⟨s0, s1, s2, s3⟩
      go_simp
      with_reducible rfl
     rotate_left
     ·simp only [Act.put, List.setIfInBounds_toArray, List.set_cons_zero, List.set_cons_succ, i64_w, i32_w]
      rfl
     refine pure_ (i := 6) (N := some 31) (v := ?_) (a' := ?_) #[true, true, true, true, true, true, true, false, false, false, false, false, false, false, false, false, false] rfl rfl (by kernel_rfl) (fun _ _ _ h => h) (Or.inl ⟨by rfl, ?_⟩) ?_ ?_
     rotate_left
     ·intro w'
      go_simp
      with_reducible rfl
     rotate_left
     ·simp only [Act.put, List.setIfInBounds_toArray, List.set_cons_zero, List.set_cons_succ, i64_w, i32_w]
      rfl
     refine pure_ (i := 7) (N := some 32) (v := ?_) (a' := ?_) #[true, true, true, true, true, true, true, true, false, false, false, false, false, false, false, false, false] rfl rfl (by kernel_rfl) (fun _ _ _ h => h) (Or.inl ⟨by rfl, ?_⟩) ?_ ?_
     rotate_left
     ·intro w'
      go_simp
      with_reducible rfl
     rotate_left
     ·simp only [Act.put, List.setIfInBounds_toArray, List.set_cons_zero, List.set_cons_succ, i64_w, i32_w]
      rfl
     refine take_ (i := 8) (N := some 33) (v := ?_) (a' := ?_) #[true, true, true, true, true, true, true, true, true, false, false, false, false, false, false, false, false] rfl rfl (by kernel_rfl) (fun _ _ _ h => h) (Or.inl ⟨by rfl, ?_⟩) hHeld ?_ ?_
     rotate_left
     ·rintro w' ⟨s0, s1, s2, s3⟩
      go_simp
      with_reducible rfl
     rotate_left
     ·simp only [Act.put, List.setIfInBounds_toArray, List.set_cons_zero, List.set_cons_succ, i64_w, i32_w]
      rfl
     refine take_ (i := 9) (N := some 34) (v := ?_) (a' := ?_) #[true, true, true, true, true, true, true, true, true, true, false, false, false, false, false, false, false] rfl rfl (by kernel_rfl) (fun _ _ _ h => h) (Or.inl ⟨by rfl, ?_⟩) hHeld ?_ ?_
     rotate_left
     ·rintro w' ⟨s0, s1, s2, s3⟩
      go_simp
      with_reducible rfl
     rotate_left
     ·simp only [Act.put, List.setIfInBounds_toArray, List.set_cons_zero, List.set_cons_succ, i64_w, i32_w]
      rfl
     refine pure_ (i := 10) (N := some 35) (v := ?_) (a' := ?_) #[true, true, true, true, true, true, true, true, true, true, true, false, false, false, false, false, false] rfl rfl (by kernel_rfl) (fun _ _ _ h => h) (Or.inl ⟨by rfl, ?_⟩) ?_ ?_
     rotate_left
     ·intro w'
      go_simp
      with_reducible rfl
     rotate_left
     ·simp only [Act.put, List.setIfInBounds_toArray, List.set_cons_zero, List.set_cons_succ, i64_w, i32_w]
      rfl
     refine pure_ (i := 11) (N := some 36) (v := ?_) (a' := ?_) #[true, true, true, true, true, true, true, true, true, true, true, true, false, false, false, false, false] rfl rfl (by kernel_rfl) (fun _ _ _ h => h) (Or.inl ⟨by rfl, ?_⟩) ?_ ?_
     rotate_left
     ·intro w'
      go_simp
      with_reducible rfl
     rotate_left
     ·simp only [Act.put, List.setIfInBounds_toArray, List.set_cons_zero, List.set_cons_succ, i64_w, i32_w]
      rfl
     refine take_ (i := 12) (N := some 37) (v := ?_) (a' := ?_) #[true, true, true, true, true, true, true, true, true, true, true, true, true, false, false, false, false] rfl rfl (by kernel_rfl) (fun _ _ _ h => h) (Or.inl ⟨by rfl, ?_⟩) hHeld ?_ ?_
     rotate_left
     ·rintro w' ⟨s0, s1, s2, s3⟩
      go_simp
      with_reducible rfl
     rotate_left
     ·simp only [Act.put, List.setIfInBounds_toArray, List.set_cons_zero, List.set_cons_succ, i64_w, i32_w]
      rfl
     refine pure_ (i := 13) (N := some 38) (v := ?_) (a' := ?_) #[true, true, true, true, true, true, true, true, true, true, true, true, true, true, false, false, false] rfl rfl (by kernel_rfl) (fun _ _ _ h => h) (Or.inl ⟨by rfl, ?_⟩) ?_ ?_
     rotate_left
     ·intro w'
      go_simp
      with_reducible rfl
     rotate_left
     ·simp only [Act.put, List.setIfInBounds_toArray, List.set_cons_zero, List.set_cons_succ, i64_w, i32_w]
      rfl
     refine pure_ (i := 14) (N := some 39) (v := ?_) (a' := ?_) #[true, true, true, true, true, true, true, true, true, true, true, true, true, true, true, false, false] rfl rfl (by kernel_rfl) (fun _ _ _ h => h) (Or.inl ⟨by rfl, ?_⟩) ?_ ?_
     rotate_left
     ·intro w'
      go_simp
      with_reducible rfl
     rotate_left
     ·simp only [Act.put, List.setIfInBounds_toArray, List.set_cons_zero, List.set_cons_succ, i64_w, i32_w]
      rfl
     refine pure_ (i := 15) (N := some 40) (v := ?_) (a' := ?_) #[true, true, true, true, true, true, true, true, true, true, true, true, true, true, true, true, false] rfl rfl (by kernel_rfl) (fun _ _ _ h => h) (Or.inl ⟨by rfl, ?_⟩) ?_ ?_
     rotate_left
     ·intro w'
      go_simp
      with_reducible rfl
     rotate_left
     ·simp only [Act.put, List.setIfInBounds_toArray, List.set_cons_zero, List.set_cons_succ, i64_w, i32_w]
      rfl
     refine pure_ (i := 16) (N := some 7) (v := ?_) (a' := ?_) #[true, true, true, true, true, true, true, true, true, true, true, true, true, true, true, true, true] rfl rfl (by kernel_rfl) (fun _ _ _ h => h) (Or.inl ⟨by rfl, ?_⟩) ?_ ?_
     rotate_left
     ·intro w'
      go_simp
      with_reducible rfl
     rotate_left
     ·simp only [Act.put, List.setIfInBounds_toArray, List.set_cons_zero, List.set_cons_succ, i64_w, i32_w]
      rfl
     refine done_ (by kernel_rfl) ?_
     go_wp2
     go_ret
     exact ⟨by rw [HO2.out]; first | done | rfl, ⟨1, rfl⟩⟩
    ·have f1 : ((5 : Int) != y) = true := bne_iff_ne.mpr cy
     have HO2 := Aside0.mk (show oddB l n i false = true by rw [HO.out, f1]; rfl)
     clear cy
     go_enter Tryz.func60, Tryz.ntmps60
     go_wp2
     refine start_ (n := 17) (S := fun w' => w'.cell? ⟨b, 0, none⟩ = some (.pointer (some ⟨g, 0, none⟩)) ∧ w'.cell? ⟨g, 0, none⟩ = some (.slice (some ad) l.length c0) ∧ w'.cell? ⟨b + 1, 0, none⟩ = some (.int .i64 i) ∧ w'.cell? (ad.add (i.toNat * 3)) = some (.int .i64 y)) (ds := []) #[false, false, false, false, false, false, false, false, false, false, false, false, false, false, false, false, false] (by kernel_rfl) rfl rfl ⟨B0.out, K0.out, B1.out, HY.out⟩ (fun hHeld => ?_)
     refine pure_ (i := 0) (N := some 25) (v := ?_) (a' := ?_) #[true, false, false, false, false, false, false, false, false, false, false, false, false, false, false, false, false] rfl rfl (by kernel_rfl) (fun _ _ _ h => h) (Or.inl ⟨by rfl, ?_⟩) ?_ ?_
     rotate_left
     ·intro w'
      go_simp
      with_reducible rfl
     rotate_left
     ·simp only [Act.put, List.setIfInBounds_toArray, List.set_cons_zero, List.set_cons_succ, i64_w, i32_w]
      rfl
     refine pure_ (i := 1) (N := some 26) (v := ?_) (a' := ?_) #[true, true, false, false, false, false, false, false, false, false, false, false, false, false, false, false, false] rfl rfl (by kernel_rfl) (fun _ _ _ h => h) (Or.inl ⟨by rfl, ?_⟩) ?_ ?_
     rotate_left
     ·intro w'
      go_simp
      with_reducible rfl
     rotate_left
     ·simp only [Act.put, List.setIfInBounds_toArray, List.set_cons_zero, List.set_cons_succ, i64_w, i32_w]
      rfl
     refine pure_ (i := 2) (N := some 27) (v := ?_) (a' := ?_) #[true, true, true, false, false, false, false, false, false, false, false, false, false, false, false, false, false] rfl rfl (by kernel_rfl) (fun _ _ _ h => h) (Or.inl ⟨by rfl, ?_⟩) ?_ ?_
     rotate_left
     ·intro w'
      go_simp
      with_reducible rfl
     rotate_left
     ·simp only [Act.put, List.setIfInBounds_toArray, List.set_cons_zero, List.set_cons_succ, i64_w, i32_w]
      rfl
     refine pure_ (i := 3) (N := some 28) (v := ?_) (a' := ?_) #[true, true, true, true, false, false, false, false, false, false, false, false, false, false, false, false, false] rfl rfl (by kernel_rfl) (fun _ _ _ h => h) (Or.inl ⟨by rfl, ?_⟩) ?_ ?_
     rotate_left
     ·intro w'
      go_simp
      with_reducible rfl
     rotate_left
     ·simp only [Act.put, List.setIfInBounds_toArray, List.set_cons_zero, List.set_cons_succ, i64_w, i32_w]
      rfl
     refine pure_ (i := 4) (N := some 29) (v := ?_) (a' := ?_) #[true, true, true, true, true, false, false, false, false, false, false, false, false, false, false, false, false] rfl rfl (by kernel_rfl) (fun _ _ _ h => h) (Or.inl ⟨by rfl, ?_⟩) ?_ ?_
     rotate_left
     ·intro w'
      go_simp
      with_reducible rfl
     rotate_left
     ·simp only [Act.put, List.setIfInBounds_toArray, List.set_cons_zero, List.set_cons_succ, i64_w, i32_w]
      rfl
     refine take_ (i := 5) (N := some 30) (v := ?_) (a' := ?_) #[true, true, true, true, true, true, false, false, false, false, false, false, false, false, false, false, false] rfl rfl (by kernel_rfl) (fun _ _ _ h => h) (Or.inl ⟨by rfl, ?_⟩) hHeld ?_ ?_
     rotate_left
     ·rintro w' ⟨s0, s1, s2, s3⟩
      go_simp
      with_reducible rfl
     rotate_left
     ·simp only [Act.put, List.setIfInBounds_toArray, List.set_cons_zero, List.set_cons_succ, i64_w, i32_w]
      rfl
     refine pure_ (i := 6) (N := some 31) (v := ?_) (a' := ?_) #[true, true, true, true, true, true, true, false, false, false, false, false, false, false, false, false, false] rfl rfl (by kernel_rfl) (fun _ _ _ h => h) (Or.inl ⟨by rfl, ?_⟩) ?_ ?_
     rotate_left
     ·intro w'
      go_simp
      with_reducible rfl
     rotate_left
     ·simp only [Act.put, List.setIfInBounds_toArray, List.set_cons_zero, List.set_cons_succ, i64_w, i32_w]
      rfl
     refine pure_ (i := 7) (N := some 32) (v := ?_) (a' := ?_) #[true, true, true, true, true, true, true, true, false, false, false, false, false, false, false, false, false] rfl rfl (by kernel_rfl) (fun _ _ _ h => h) (Or.inl ⟨by rfl, ?_⟩) ?_ ?_
     rotate_left
     ·intro w'
      go_simp
      with_reducible rfl
     rotate_left
     ·simp only [Act.put, List.setIfInBounds_toArray, List.set_cons_zero, List.set_cons_succ, i64_w, i32_w]
      rfl
     refine take_ (i := 8) (N := some 33) (v := ?_) (a' := ?_) #[true, true, true, true, true, true, true, true, true, false, false, false, false, false, false, false, false] rfl rfl (by kernel_rfl) (fun _ _ _ h => h) (Or.inl ⟨by rfl, ?_⟩) hHeld ?_ ?_
     rotate_left
     ·rintro w' ⟨s0, s1, s2, s3⟩
      go_simp
      with_reducible rfl
     rotate_left
     ·simp only [Act.put, List.setIfInBounds_toArray, List.set_cons_zero, List.set_cons_succ, i64_w, i32_w]
      rfl
     refine take_ (i := 9) (N := some 34) (v := ?_) (a' := ?_) #[true, true, true, true, true, true, true, true, true, true, false, false, false, false, false, false, false] rfl rfl (by kernel_rfl) (fun _ _ _ h => h) (Or.inl ⟨by rfl, ?_⟩) hHeld ?_ ?_
     rotate_left
     ·rintro w' ⟨s0, s1, s2, s3⟩
      go_simp
      with_reducible rfl
     rotate_left
     ·simp only [Act.put, List.setIfInBounds_toArray, List.set_cons_zero, List.set_cons_succ, i64_w, i32_w]
      rfl
     refine pure_ (i := 10) (N := some 35) (v := ?_) (a' := ?_) #[true, true, true, true, true, true, true, true, true, true, true, false, false, false, false, false, false] rfl rfl (by kernel_rfl) (fun _ _ _ h => h) (Or.inl ⟨by rfl, ?_⟩) ?_ ?_
     rotate_left
     ·intro w'
      go_simp
      with_reducible rfl
     rotate_left
     ·simp only [Act.put, List.setIfInBounds_toArray, List.set_cons_zero, List.set_cons_succ, i64_w, i32_w]
      rfl
     refine pure_ (i := 11) (N := some 36) (v := ?_) (a' := ?_) #[true, true, true, true, true, true, true, true, true, true, true, true, false, false, false, false, false] rfl rfl (by kernel_rfl) (fun _ _ _ h => h) (Or.inl ⟨by rfl, ?_⟩) ?_ ?_
     rotate_left
     ·intro w'
      go_simp
      with_reducible rfl
     rotate_left
     ·simp only [Act.put, List.setIfInBounds_toArray, List.set_cons_zero, List.set_cons_succ, i64_w, i32_w]
      rfl
     refine take_ (i := 12) (N := some 37) (v := ?_) (a' := ?_) #[true, true, true, true, true, true, true, true, true, true, true, true, true, false, false, false, false] rfl rfl (by kernel_rfl) (fun _ _ _ h => h) (Or.inl ⟨by rfl, ?_⟩) hHeld ?_ ?_
     rotate_left
     ·rintro w' ⟨s0, s1, s2, s3⟩
      go_simp
      with_reducible rfl
     rotate_left
     ·simp only [Act.put, List.setIfInBounds_toArray, List.set_cons_zero, List.set_cons_succ, i64_w, i32_w]
      rfl
     refine pure_ (i := 13) (N := some 38) (v := ?_) (a' := ?_) #[true, true, true, true, true, true, true, true, true, true, true, true, true, true, false, false, false] rfl rfl (by kernel_rfl) (fun _ _ _ h => h) (Or.inl ⟨by rfl, ?_⟩) ?_ ?_
     rotate_left
     ·intro w'
      go_simp
      with_reducible rfl
     rotate_left
     ·simp only [Act.put, List.setIfInBounds_toArray, List.set_cons_zero, List.set_cons_succ, i64_w, i32_w]
      rfl
     refine pure_ (i := 14) (N := some 39) (v := ?_) (a' := ?_) #[true, true, true, true, true, true, true, true, true, true, true, true, true, true, true, false, false] rfl rfl (by kernel_rfl) (fun _ _ _ h => h) (Or.inl ⟨by rfl, ?_⟩) ?_ ?_
     rotate_left
     ·intro w'
      go_simp
      with_reducible rfl
     rotate_left
     ·simp only [Act.put, List.setIfInBounds_toArray, List.set_cons_zero, List.set_cons_succ, i64_w, i32_w]
      rfl
     refine pure_ (i := 15) (N := some 40) (v := ?_) (a' := ?_) #[true, true, true, true, true, true, true, true, true, true, true, true, true, true, true, true, false] rfl rfl (by kernel_rfl) (fun _ _ _ h => h) (Or.inl ⟨by rfl, ?_⟩) ?_ ?_
     rotate_left
     ·intro w'
      go_simp
      with_reducible rfl
     rotate_left
     ·simp only [Act.put, List.setIfInBounds_toArray, List.set_cons_zero, List.set_cons_succ, i64_w, i32_w]
      rfl
     refine pure_ (i := 16) (N := some 7) (v := ?_) (a' := ?_) #[true, true, true, true, true, true, true, true, true, true, true, true, true, true, true, true, true] rfl rfl (by kernel_rfl) (fun _ _ _ h => h) (Or.inl ⟨by rfl, ?_⟩) ?_ ?_
     rotate_left
     ·intro w'
      go_simp
      with_reducible rfl
     rotate_left
     ·simp only [Act.put, List.setIfInBounds_toArray, List.set_cons_zero, List.set_cons_succ, i64_w, i32_w]
      rfl
     refine done_ (by kernel_rfl) ?_
     go_wp2
     go_ret
     exact ⟨by rw [HO2.out]; first | done | rfl, ⟨1, rfl⟩⟩
  ·have e4 : (x == 4) = false := beq_eq_false_iff_ne.mpr c4
   have e5 : (x == 5) = false := beq_eq_false_iff_ne.mpr c5
   have e4' : ((4 : Int) == x) = false := beq_eq_false_iff_ne.mpr (Ne.symm c4)
   have e5' : ((5 : Int) == x) = false := beq_eq_false_iff_ne.mpr (Ne.symm c5)
   have hl1 := run_no (P := Tryz.prog) (W := w) (t := 84) (k := x) (ok := true) (es := signsM) (c := 2) (z := .string ⟨#[]⟩) (i := default) Tryz.underlying84 Tryz.underlying3 (zero9 w) hM (by simp [signsM, Instr.findNow, Instr.sameNow, e4, e5])
   have HO2 := Aside0.mk (show oddB l n i own = false by rw [HO.out, e4, e5]; rfl)
   clear c4 c5
   go_enter Tryz.func60, Tryz.ntmps60
   go_wp2
   refine start_ (n := 17) (S := fun w' => True) (ds := []) #[false, false, false, false, false, false, false, false, false, false, false, false, false, false, false, false, false] (by kernel_rfl) rfl rfl trivial (fun hHeld => ?_)
   refine pure_ (i := 0) (N := some 25) (v := ?_) (a' := ?_) #[true, false, false, false, false, false, false, false, false, false, false, false, false, false, false, false, false] rfl rfl (by kernel_rfl) (fun _ _ _ h => h) (Or.inl ⟨by rfl, ?_⟩) ?_ ?_
   rotate_left
   ·intro w'
    go_simp
    with_reducible rfl
   rotate_left
   ·simp only [Act.put, List.setIfInBounds_toArray, List.set_cons_zero, List.set_cons_succ, i64_w, i32_w]
    rfl
   refine pure_ (i := 1) (N := some 26) (v := ?_) (a' := ?_) #[true, true, false, false, false, false, false, false, false, false, false, false, false, false, false, false, false] rfl rfl (by kernel_rfl) (fun _ _ _ h => h) (Or.inl ⟨by rfl, ?_⟩) ?_ ?_
   rotate_left
   ·intro w'
    go_simp
    with_reducible rfl
   rotate_left
   ·simp only [Act.put, List.setIfInBounds_toArray, List.set_cons_zero, List.set_cons_succ, i64_w, i32_w]
    rfl
   refine pure_ (i := 2) (N := some 27) (v := undef) (a' := ?_) #[true, true, true, false, false, false, false, false, false, false, false, false, false, false, false, false, false] rfl rfl (by kernel_rfl) (fun _ _ _ h => h) (Or.inr ⟨by rfl, rfl⟩) ?_ ?_
   rotate_left
   ·simp only [Act.put, List.setIfInBounds_toArray, List.set_cons_zero, List.set_cons_succ, i64_w, i32_w]
    rfl
   refine pure_ (i := 3) (N := some 28) (v := undef) (a' := ?_) #[true, true, true, true, false, false, false, false, false, false, false, false, false, false, false, false, false] rfl rfl (by kernel_rfl) (fun _ _ _ h => h) (Or.inr ⟨by rfl, rfl⟩) ?_ ?_
   rotate_left
   ·simp only [Act.put, List.setIfInBounds_toArray, List.set_cons_zero, List.set_cons_succ, i64_w, i32_w]
    rfl
   refine pure_ (i := 4) (N := some 29) (v := undef) (a' := ?_) #[true, true, true, true, true, false, false, false, false, false, false, false, false, false, false, false, false] rfl rfl (by kernel_rfl) (fun _ _ _ h => h) (Or.inr ⟨by rfl, rfl⟩) ?_ ?_
   rotate_left
   ·simp only [Act.put, List.setIfInBounds_toArray, List.set_cons_zero, List.set_cons_succ, i64_w, i32_w]
    rfl
   refine pure_ (i := 5) (N := some 30) (v := undef) (a' := ?_) #[true, true, true, true, true, true, false, false, false, false, false, false, false, false, false, false, false] rfl rfl (by kernel_rfl) (fun _ _ _ h => h) (Or.inr ⟨by rfl, rfl⟩) ?_ ?_
   rotate_left
   ·simp only [Act.put, List.setIfInBounds_toArray, List.set_cons_zero, List.set_cons_succ, i64_w, i32_w]
    rfl
   refine pure_ (i := 6) (N := some 31) (v := undef) (a' := ?_) #[true, true, true, true, true, true, true, false, false, false, false, false, false, false, false, false, false] rfl rfl (by kernel_rfl) (fun _ _ _ h => h) (Or.inr ⟨by rfl, rfl⟩) ?_ ?_
   rotate_left
   ·simp only [Act.put, List.setIfInBounds_toArray, List.set_cons_zero, List.set_cons_succ, i64_w, i32_w]
    rfl
   refine pure_ (i := 7) (N := some 32) (v := undef) (a' := ?_) #[true, true, true, true, true, true, true, true, false, false, false, false, false, false, false, false, false] rfl rfl (by kernel_rfl) (fun _ _ _ h => h) (Or.inr ⟨by rfl, rfl⟩) ?_ ?_
   rotate_left
   ·simp only [Act.put, List.setIfInBounds_toArray, List.set_cons_zero, List.set_cons_succ, i64_w, i32_w]
    rfl
   refine pure_ (i := 8) (N := some 33) (v := undef) (a' := ?_) #[true, true, true, true, true, true, true, true, true, false, false, false, false, false, false, false, false] rfl rfl (by kernel_rfl) (fun _ _ _ h => h) (Or.inr ⟨by rfl, rfl⟩) ?_ ?_
   rotate_left
   ·simp only [Act.put, List.setIfInBounds_toArray, List.set_cons_zero, List.set_cons_succ, i64_w, i32_w]
    rfl
   refine pure_ (i := 9) (N := some 34) (v := undef) (a' := ?_) #[true, true, true, true, true, true, true, true, true, true, false, false, false, false, false, false, false] rfl rfl (by kernel_rfl) (fun _ _ _ h => h) (Or.inr ⟨by rfl, rfl⟩) ?_ ?_
   rotate_left
   ·simp only [Act.put, List.setIfInBounds_toArray, List.set_cons_zero, List.set_cons_succ, i64_w, i32_w]
    rfl
   refine pure_ (i := 10) (N := some 35) (v := undef) (a' := ?_) #[true, true, true, true, true, true, true, true, true, true, true, false, false, false, false, false, false] rfl rfl (by kernel_rfl) (fun _ _ _ h => h) (Or.inr ⟨by rfl, rfl⟩) ?_ ?_
   rotate_left
   ·simp only [Act.put, List.setIfInBounds_toArray, List.set_cons_zero, List.set_cons_succ, i64_w, i32_w]
    rfl
   refine pure_ (i := 11) (N := some 36) (v := undef) (a' := ?_) #[true, true, true, true, true, true, true, true, true, true, true, true, false, false, false, false, false] rfl rfl (by kernel_rfl) (fun _ _ _ h => h) (Or.inr ⟨by rfl, rfl⟩) ?_ ?_
   rotate_left
   ·simp only [Act.put, List.setIfInBounds_toArray, List.set_cons_zero, List.set_cons_succ, i64_w, i32_w]
    rfl
   refine pure_ (i := 12) (N := some 37) (v := undef) (a' := ?_) #[true, true, true, true, true, true, true, true, true, true, true, true, true, false, false, false, false] rfl rfl (by kernel_rfl) (fun _ _ _ h => h) (Or.inr ⟨by rfl, rfl⟩) ?_ ?_
   rotate_left
   ·simp only [Act.put, List.setIfInBounds_toArray, List.set_cons_zero, List.set_cons_succ, i64_w, i32_w]
    rfl
   refine pure_ (i := 13) (N := some 38) (v := undef) (a' := ?_) #[true, true, true, true, true, true, true, true, true, true, true, true, true, true, false, false, false] rfl rfl (by kernel_rfl) (fun _ _ _ h => h) (Or.inr ⟨by rfl, rfl⟩) ?_ ?_
   rotate_left
   ·simp only [Act.put, List.setIfInBounds_toArray, List.set_cons_zero, List.set_cons_succ, i64_w, i32_w]
    rfl
   refine pure_ (i := 14) (N := some 39) (v := undef) (a' := ?_) #[true, true, true, true, true, true, true, true, true, true, true, true, true, true, true, false, false] rfl rfl (by kernel_rfl) (fun _ _ _ h => h) (Or.inr ⟨by rfl, rfl⟩) ?_ ?_
   rotate_left
   ·simp only [Act.put, List.setIfInBounds_toArray, List.set_cons_zero, List.set_cons_succ, i64_w, i32_w]
    rfl
   refine pure_ (i := 15) (N := some 40) (v := ?_) (a' := ?_) #[true, true, true, true, true, true, true, true, true, true, true, true, true, true, true, true, false] rfl rfl (by kernel_rfl) (fun _ _ _ h => h) (Or.inl ⟨by rfl, ?_⟩) ?_ ?_
   rotate_left
   ·intro w'
    go_simp
    with_reducible rfl
   rotate_left
   ·simp only [Act.put, List.setIfInBounds_toArray, List.set_cons_zero, List.set_cons_succ, i64_w, i32_w]
    rfl
   refine pure_ (i := 16) (N := some 7) (v := ?_) (a' := ?_) #[true, true, true, true, true, true, true, true, true, true, true, true, true, true, true, true, true] rfl rfl (by kernel_rfl) (fun _ _ _ h => h) (Or.inl ⟨by rfl, ?_⟩) ?_ ?_
   rotate_left
   ·intro w'
    go_simp
    with_reducible rfl
   rotate_left
   ·simp only [Act.put, List.setIfInBounds_toArray, List.set_cons_zero, List.set_cons_succ, i64_w, i32_w]
    rfl
   refine done_ (by kernel_rfl) ?_
   go_wp2
   go_ret
   exact ⟨by rw [HO2.out]; first | done | rfl, ⟨1, rfl⟩⟩
def sgn (x : Int) : ByteArray := if x = 4 then ⟨#[124]⟩ else ⟨#[38]⟩
def twoT (l : List S38) (st : List Int) (tx : List ByteArray) (dp : List Int) (i : Int) : Option (ByteArray × Int) :=
 if 0 ≤ i ∧ i < (l.length : Int) ∧ ((rd_T38 l i).f0 = 4 ∨ (rd_T38 l i).f0 = 5) then (expr_kids.f l st i).bind fun ks => if 2 ≤ ks.length ∧ 0 ≤ rd ks 0 ∧ rd ks 0 < (l.length : Int) ∧ 0 ≤ rd ks 1 ∧ rd ks 1 < (l.length : Int) then
  (kidT tx dp (rd ks 0) (oddB l (rd ks 0) i false)).bind fun p => (kidT tx dp (rd ks 1) (oddB l (rd ks 1) i true)).bind fun q => if p.1.size ≤ 1000000000000000 ∧ q.1.size ≤ 1000000000000000 then some (p.1 ++ sgn (rd_T38 l i).f0 ++ q.1, mx p.2 q.2) else none
  else none else none
theorem call_run {P : Program} {oi : Oper} {a : Act} {w : World} {f : FuncId} {fn : Func} {cal : Operand} {aa : Array Operand} {ts : Array TypeId} {ls : Array Value} (hf : P.funcs[f]? = some fn) (hname : (fn.name == "runtime.NumGoroutine") = false) (hb : fn.body.isSome = true) (hop : oi.op = .call { callee := .value cal, args := aa, argTypes := ts }) (hcal : a.eval cal = .func (.func f) #[] ls) {args : Array Value} (hargs : aa.map a.eval ++ ls = args) : (execOp a.eval oi).run P w = .ok (.enter f args) w := by
 have he := enters_ hf hname hb args w
 unfold execOp
 simp [hop, resolve, Deferred.ofValue, invoke, hcal, hargs, he]
set_option maxHeartbeats 8000000 in
set_option maxRecDepth 100000 in
theorem w_two (w : World) (g : Nat) (l : List S38) (st : List Int) (tx : List ByteArray) (dp : List Int) (i : Int) (s : ByteArray) (n : Int) (hW : WR w g l st tx dp) (h : twoT l st tx dp i = some (s, n)) :
  Calls Tryz.prog 39 #[.pointer (some ⟨g, 0, none⟩), .int .i64 i] w fun en w' => en = .returned (.tuple #[.string s, .int .i64 n]) ∧ Below w.heap.size w w' := by
 unfold twoT at h
 split at h
 case isFalse => cases h
 rename_i hc
 obtain ⟨i0, i1, hf⟩ := hc
 obtain ⟨ks, hk, h⟩ := Option.bind_eq_some_iff.1 h
 split at h
 case isFalse => cases h
 rename_i hc
 obtain ⟨hk2, ka0, ka1, kb0, kb1⟩ := hc
 obtain ⟨⟨s1, n1⟩, hp, h⟩ := Option.bind_eq_some_iff.1 h
 obtain ⟨⟨s2, n2⟩, hq, h⟩ := Option.bind_eq_some_iff.1 h
 split at h
 case isFalse => cases h
 rename_i hc
 obtain ⟨z1, z2⟩ := hc
 obtain ⟨rfl, rfl⟩ := Prod.mk.inj (Option.some.inj h)
 have HP := Aside0.mk hp
 have HQ := Aside0.mk hq
 have HK := Aside0.mk hk
 have HK2 := Aside0.mk hk2
 have HW := Aside0.mk hW
 have HZ1 := Aside0.mk (show s1.size ≤ 1000000000000000 from z1)
 have HZ2 := Aside0.mk (show s2.size ≤ 1000000000000000 from z2)
 have HKA := Aside0.mk (And.intro ka0 ka1)
 have HKB := Aside0.mk (And.intro kb0 kb1)
 have HI := Aside0.mk (And.intro i0 i1)
 have HF := Aside0.mk hf
 clear h hp hq hk hk2 hW z1 z2 ka0 ka1 kb0 kb1
 have m1 := run_put (P := Tryz.prog) (W := (w.alloc (.cells #[.pointer (some ⟨g, 0, none⟩)] 62)).alloc (.cells #[.int .i64 i] 3)) (t := 84) (r := w.heap.size + 1 + 1) (es := #[]) (c := 0) 4 (.string ⟨#[124]⟩) Tryz.underlying84 Tryz.underlying3 (by simp) rfl
 have m2 := run_put (P := Tryz.prog) (W := (w.alloc (.cells #[.pointer (some ⟨g, 0, none⟩)] 62)).alloc (.cells #[.int .i64 i] 3)) (t := 84) (r := w.heap.size + 1 + 1) (es := #[{ key := .int .i64 4, val := .string ⟨#[124]⟩, born := 0 }]) (c := 1) 5 (.string ⟨#[38]⟩) Tryz.underlying84 Tryz.underlying3 (by simp) rfl
 have mk := @run_makeMap Tryz.prog
 go_enter Tryz.func39, Tryz.ntmps39
 go_wp2
 obtain ⟨W0, hW0⟩ : ∃ W0, ((((w.alloc (.cells #[.pointer (some ⟨g, 0, none⟩)] 62)).alloc (.cells #[.int .i64 i] 3)).alloc (.map signsM 2)).alloc (.cells #[.map (some (w.heap.size + 1 + 1))] 84)) = W0 := ⟨_, rfl⟩
 have hW0' := hW0
 unfold signsM at hW0'
 rw [hW0']
 have hBel : Below w.heap.size w W0 := by rw [← hW0]; exact below_alloc (below_alloc (below_alloc (below_alloc (Below.refl _ _) _) _) _) _
 have hTB : TwoB W0 w.heap.size g i := by
  rw [← hW0]
  exact ⟨alloc_old (alloc_old (alloc_old (alloc_new _ rfl) _) _) _, alloc_old (alloc_old (alloc_new _ (by simp)) _) _, alloc_old (alloc_new _ (by simp)) _, alloc_new _ (by simp)⟩
 obtain ⟨b, hb⟩ : ∃ b, w.heap.size = b := ⟨_, rfl⟩
 rw [hb] at hTB ⊢
 have HBel := Aside0.mk hBel
 have HTB := Aside0.mk hTB
 have HWR := Aside0.mk (HW.out.below hBel)
 obtain ⟨b0, b1, b3⟩ := hTB.cells
 obtain ⟨A0, c0, A1, c1, A2, c2, A3, c3, hg, h0, h1, h2, h3, h4, h5⟩ := HWR.out
 have k0 := blk_cell hg 0
 replace k0 : W0.cell? ⟨g, 0, none⟩ = some (.slice A0 l.length c0) := k0
 have k1 := blk_cell hg 1
 replace k1 : W0.cell? ⟨g, 1, none⟩ = some (.slice A1 st.length c1) := k1
 have HC0 := Aside0.mk (And.intro h0 h4)
 have HC1 := Aside0.mk (And.intro h1 h5)
 have HB := Aside0.mk hb
 clear hW0 hW0' hBel hTB hb m1 m2 mk hg h0 h1 h2 h3 h4 h5
 refine start_ (n := 11) (S := fun w' => w'.cell? ⟨b, 0, none⟩ = some (.pointer (some ⟨g, 0, none⟩)) ∧ w'.cell? ⟨g, 0, none⟩ = some (.slice A0 l.length c0) ∧ w'.cell? ⟨g, 1, none⟩ = some (.slice A1 st.length c1) ∧ w'.cell? ⟨b + 1, 0, none⟩ = some (.int .i64 i)) (ds := [9]) #[false, false, false, false, false, false, false, false, false, false, false] (by kernel_rfl) rfl rfl ⟨b0, k0, k1, b1⟩ (fun hHeld => ?_)
 refine take_ (i := 0) (N := some 15) (v := ?_) (a' := ?_) #[true, false, false, false, false, false, false, false, false, false, false] rfl rfl (by kernel_rfl) (fun _ _ _ h => h) (Or.inl ⟨by rfl, ?_⟩) hHeld ?_ ?_
 rotate_left
 ·rintro w' ⟨s0, s1, s2, s3⟩
  go_simp
  with_reducible rfl
 rotate_left
 ·simp only [Act.put, List.setIfInBounds_toArray, List.set_cons_zero, List.set_cons_succ, i64_w, i32_w]
  rfl
 refine pure_ (i := 1) (N := some 16) (v := ?_) (a' := ?_) #[true, true, false, false, false, false, false, false, false, false, false] rfl rfl (by kernel_rfl) (fun _ _ _ h => h) (Or.inl ⟨by rfl, ?_⟩) ?_ ?_
 rotate_left
 ·intro w'
  go_simp
  with_reducible rfl
 rotate_left
 ·simp only [Act.put, List.setIfInBounds_toArray, List.set_cons_zero, List.set_cons_succ, i64_w, i32_w]
  rfl
 refine pure_ (i := 2) (N := some 17) (v := ?_) (a' := ?_) #[true, true, true, false, false, false, false, false, false, false, false] rfl rfl (by kernel_rfl) (fun _ _ _ h => h) (Or.inl ⟨by rfl, ?_⟩) ?_ ?_
 rotate_left
 ·intro w'
  go_simp
  with_reducible rfl
 rotate_left
 ·simp only [Act.put, List.setIfInBounds_toArray, List.set_cons_zero, List.set_cons_succ, i64_w, i32_w]
  rfl
 refine take_ (i := 3) (N := some 18) (v := ?_) (a' := ?_) #[true, true, true, true, false, false, false, false, false, false, false] rfl rfl (by kernel_rfl) (fun _ _ _ h => h) (Or.inl ⟨by rfl, ?_⟩) hHeld ?_ ?_
 rotate_left
 ·rintro w' ⟨s0, s1, s2, s3⟩
  go_simp
  with_reducible rfl
 rotate_left
 ·simp only [Act.put, List.setIfInBounds_toArray, List.set_cons_zero, List.set_cons_succ, i64_w, i32_w]
  rfl
 refine take_ (i := 4) (N := some 19) (v := ?_) (a' := ?_) #[true, true, true, true, true, false, false, false, false, false, false] rfl rfl (by kernel_rfl) (fun _ _ _ h => h) (Or.inl ⟨by rfl, ?_⟩) hHeld ?_ ?_
 rotate_left
 ·rintro w' ⟨s0, s1, s2, s3⟩
  go_simp
  with_reducible rfl
 rotate_left
 ·simp only [Act.put, List.setIfInBounds_toArray, List.set_cons_zero, List.set_cons_succ, i64_w, i32_w]
  rfl
 refine pure_ (i := 5) (N := some 20) (v := ?_) (a' := ?_) #[true, true, true, true, true, true, false, false, false, false, false] rfl rfl (by kernel_rfl) (fun _ _ _ h => h) (Or.inl ⟨by rfl, ?_⟩) ?_ ?_
 rotate_left
 ·intro w'
  go_simp
  with_reducible rfl
 rotate_left
 ·simp only [Act.put, List.setIfInBounds_toArray, List.set_cons_zero, List.set_cons_succ, i64_w, i32_w]
  rfl
 refine pure_ (i := 6) (N := some 21) (v := ?_) (a' := ?_) #[true, true, true, true, true, true, true, false, false, false, false] rfl rfl (by kernel_rfl) (fun _ _ _ h => h) (Or.inl ⟨by rfl, ?_⟩) ?_ ?_
 rotate_left
 ·intro w'
  go_simp
  with_reducible rfl
 rotate_left
 ·simp only [Act.put, List.setIfInBounds_toArray, List.set_cons_zero, List.set_cons_succ, i64_w, i32_w]
  rfl
 refine take_ (i := 7) (N := some 22) (v := ?_) (a' := ?_) #[true, true, true, true, true, true, true, true, false, false, false] rfl rfl (by kernel_rfl) (fun _ _ _ h => h) (Or.inl ⟨by rfl, ?_⟩) hHeld ?_ ?_
 rotate_left
 ·rintro w' ⟨s0, s1, s2, s3⟩
  go_simp
  with_reducible rfl
 rotate_left
 ·simp only [Act.put, List.setIfInBounds_toArray, List.set_cons_zero, List.set_cons_succ, i64_w, i32_w]
  rfl
 refine take_ (i := 8) (N := some 23) (v := ?_) (a' := ?_) #[true, true, true, true, true, true, true, true, true, false, false] rfl rfl (by kernel_rfl) (fun _ _ _ h => h) (Or.inl ⟨by rfl, ?_⟩) hHeld ?_ ?_
 rotate_left
 ·rintro w' ⟨s0, s1, s2, s3⟩
  go_simp
  with_reducible rfl
 rotate_left
 ·simp only [Act.put, List.setIfInBounds_toArray, List.set_cons_zero, List.set_cons_succ, i64_w, i32_w]
  rfl
 refine last_ (i := 9) (N := some 24) #[true, true, true, true, true, true, true, true, true, true, false] rfl rfl (by kernel_rfl) (by decide) (fun K hK => ?_)
 refine goes_ Tryz.func19 (by kernel_rfl) rfl #[.slice A0 l.length c0, .slice A1 st.length c1, .int .i64 i] (by rfl) rfl rfl Zz16 ?_
 with_reducible refine (expr_kids.calls _ _ l _ _ st i ks _ (Kd.C_below HC0.out.1 (below_drew (Below.refl _ _))) HC0.out.2 (Kd.C_below HC1.out.1 (below_drew (Below.refl _ _))) HC1.out.2 HK.out).mono ?_
 rintro e w1 ⟨v0, rfl, hR, hb1⟩
 refine ⟨_, rfl, ?_⟩
 obtain ⟨AK, cK, rfl, hKc, hKR⟩ := Kd.R_reads hR
 refine hK.out _ _ ?_
 clear hK K
 refine norm_ (a' := ?_) ?_ ?_
 rotate_left
 ·show Act.put _ (some 24) _ = _
  simp only [Act.put, List.setIfInBounds_toArray, List.set_cons_zero, List.set_cons_succ, i64_w, i32_w]
  rfl
 refine pure_ (i := 10) (N := some 7) (v := ?_) (a' := ?_) #[true, true, true, true, true, true, true, true, true, true, true] rfl rfl (by kernel_rfl) (fun _ _ _ h => h) (Or.inl ⟨by rfl, ?_⟩) ?_ ?_
 rotate_left
 ·intro w'
  go_simp
  with_reducible rfl
 rotate_left
 ·simp only [Act.put, List.setIfInBounds_toArray, List.set_cons_zero, List.set_cons_succ, i64_w, i32_w]
  rfl
 refine done_ (by kernel_rfl) ?_
 have HB1 := Aside0.mk (show Below W0.heap.size W0 w1 from (below_drew (Below.refl _ _)).trans (hb1.mono (Nat.le_refl _)))
 have HWR1 := Aside0.mk (HWR.out.below HB1.out)
 have HTB1 := Aside0.mk (HTB.out.below HB1.out)
 have HKR := Aside0.mk hKR
 obtain ⟨adk, rfl, hka⟩ := Kd.at_int hKR 0 (by omega) (by have := HK2.out; omega)
 obtain ⟨adk', hAk, hkb⟩ := Kd.at_int hKR 1 (by omega) (by have := HK2.out; omega)
 cases hAk
 clear hb1 hR hKc hKR hHeld k0 k1 b0 b1 b3
 obtain ⟨ka, hea⟩ : ∃ ka, rd ks 0 = ka := ⟨_, rfl⟩
 obtain ⟨kb, heb⟩ : ∃ kb, rd ks 1 = kb := ⟨_, rfl⟩
 rw [hea] at hka HKA HP
 rw [heb] at hkb HKB HQ
 have l0 : 0 < ks.length := by have := HK2.out; omega
 have l1 : 1 < ks.length := by have := HK2.out; omega
 have li0 : (0 : Int) < (ks.length : Int) := by omega
 have li1 : (1 : Int) < (ks.length : Int) := by omega
 have hka' : w1.cell? adk = some (.int .i64 ka) := hka
 have hkb' : w1.cell? ⟨adk.block, adk.off + 1, none⟩ = some (.int .i64 kb) := by simpa [Addr.add] using hkb
 have HXA := Aside0.mk hka'
 have HXB := Aside0.mk hkb'
 clear hea heb hka hkb hka' hkb'
 go_wp2
 refine start_ (n := 15) (S := fun w' => w'.cell? ⟨b, 0, none⟩ = some (.pointer (some ⟨g, 0, none⟩)) ∧ w'.cell? adk = some (.int .i64 ka)) (ds := []) #[false, false, false, false, false, false, false, false, false, false, false, false, false, false, false] (by kernel_rfl) rfl rfl ⟨HTB1.out.cells.1, HXA.out⟩ (fun hHeld => ?_)
 refine pure_ (i := 1) (N := some 28) (v := ?_) (a' := ?_) #[false, true, false, false, false, false, false, false, false, false, false, false, false, false, false] rfl rfl (by kernel_rfl) (fun _ _ _ h => h) (Or.inl ⟨by rfl, ?_⟩) ?_ ?_
 rotate_left
 ·intro w'
  go_simp
  with_reducible rfl
 rotate_left
 ·simp only [Act.put, List.setIfInBounds_toArray, List.set_cons_zero, List.set_cons_succ, i64_w, i32_w]
  rfl
 refine pure_ (i := 2) (N := some 29) (v := ?_) (a' := ?_) #[false, true, true, false, false, false, false, false, false, false, false, false, false, false, false] rfl rfl (by kernel_rfl) (fun _ _ _ h => h) (Or.inl ⟨by rfl, ?_⟩) ?_ ?_
 rotate_left
 ·intro w'
  go_simp
  with_reducible rfl
 rotate_left
 ·simp only [Act.put, List.setIfInBounds_toArray, List.set_cons_zero, List.set_cons_succ, i64_w, i32_w]
  rfl
 refine pure_ (i := 4) (N := some 31) (v := ?_) (a' := ?_) #[false, true, true, false, true, false, false, false, false, false, false, false, false, false, false] rfl rfl (by kernel_rfl) (fun _ _ _ h => h) (Or.inl ⟨by rfl, ?_⟩) ?_ ?_
 rotate_left
 ·intro w'
  go_simp
  with_reducible rfl
 rotate_left
 ·simp only [Act.put, List.setIfInBounds_toArray, List.set_cons_zero, List.set_cons_succ, i64_w, i32_w]
  rfl
 refine pure_ (i := 5) (N := some 32) (v := ?_) (a' := ?_) #[false, true, true, false, true, true, false, false, false, false, false, false, false, false, false] rfl rfl (by kernel_rfl) (fun _ _ _ h => h) (Or.inl ⟨by rfl, ?_⟩) ?_ ?_
 rotate_left
 ·intro w'
  go_simp
  with_reducible rfl
 rotate_left
 ·simp only [Act.put, List.setIfInBounds_toArray, List.set_cons_zero, List.set_cons_succ, i64_w, i32_w]
  rfl
 refine pure_ (i := 6) (N := some 33) (v := ?_) (a' := ?_) #[false, true, true, false, true, true, true, false, false, false, false, false, false, false, false] rfl rfl (by kernel_rfl) (fun _ _ _ h => h) (Or.inl ⟨by rfl, ?_⟩) ?_ ?_
 rotate_left
 ·intro w'
  go_simp
  with_reducible rfl
 rotate_left
 ·simp only [Act.put, List.setIfInBounds_toArray, List.set_cons_zero, List.set_cons_succ, i64_w, i32_w]
  rfl
 refine take_ (i := 0) (N := some 27) (v := ?_) (a' := ?_) #[true, true, true, false, true, true, true, false, false, false, false, false, false, false, false] rfl rfl (by kernel_rfl) (fun _ _ _ h => h) (Or.inl ⟨by rfl, ?_⟩) hHeld ?_ ?_
 rotate_left
 ·rintro w' ⟨s0, s1⟩
  go_simp
  with_reducible rfl
 rotate_left
 ·simp only [Act.put, List.setIfInBounds_toArray, List.set_cons_zero, List.set_cons_succ, i64_w, i32_w]
  rfl
 refine take_ (i := 3) (N := some 30) (v := ?_) (a' := ?_) #[true, true, true, true, true, true, true, false, false, false, false, false, false, false, false] rfl rfl (by kernel_rfl) (fun _ _ _ h => h) (Or.inl ⟨by rfl, ?_⟩) hHeld ?_ ?_
 rotate_left
 ·rintro w' ⟨s0, s1⟩
  go_simp
  with_reducible rfl
 rotate_left
 ·simp only [Act.put, List.setIfInBounds_toArray, List.set_cons_zero, List.set_cons_succ, i64_w, i32_w]
  rfl
 refine take_ (i := 7) (N := some 34) (v := ?_) (a' := ?_) #[true, true, true, true, true, true, true, true, false, false, false, false, false, false, false] rfl rfl (by kernel_rfl) (fun _ _ _ h => h) (Or.inl ⟨by rfl, ?_⟩) hHeld ?_ ?_
 rotate_left
 ·rintro w' ⟨s0, s1⟩
  go_simp
  with_reducible rfl
 rotate_left
 ·simp only [Act.put, List.setIfInBounds_toArray, List.set_cons_zero, List.set_cons_succ, i64_w, i32_w]
  rfl
 refine one_ (i := 8) (N := some 35) #[true, true, true, true, true, true, true, true, true, false, false, false, false, false, false] rfl rfl (by kernel_rfl) (by decide) (fun K hK => ?_)
 refine call_ 60 #[.int .i64 ka, .bool false, .pointer (some ⟨b, 0, none⟩), .pointer (some ⟨b + 3, 0, none⟩), .pointer (some ⟨b + 1, 0, none⟩)] (by rfl) rfl (call_run Tryz.func60 (by kernel_rfl) rfl (by rfl) (by rfl) Zz20) ?_
 refine (w_odd _ b g l st tx dp ka i false (HWR1.out.below (below_drew (Below.refl _ _))) (HTB1.out.below (below_drew (Below.refl _ _))) HKA.out.1 HKA.out.2 HI.out.1 HI.out.2).mono ?_
 rintro e w3 ⟨rfl, ⟨m4, rfl⟩⟩
 refine ⟨_, rfl, ?_⟩
 refine hK.out _ _ ⟨pw_cell_below (pw_below_drewN (Below.refl _ _) m4) hHeld.1, pw_cell_below (pw_below_drewN (Below.refl _ _) m4) hHeld.2⟩ (fun hHeld => ?_)
 clear hK K
 refine norm_ (a' := ?_) ?_ ?_
 rotate_left
 ·show Act.put _ (some 35) _ = _
  simp only [Act.put, List.setIfInBounds_toArray, List.set_cons_zero, List.set_cons_succ, i64_w, i32_w]
  rfl
 refine one_ (i := 9) (N := some 36) #[true, true, true, true, true, true, true, true, true, true, false, false, false, false, false] rfl rfl (by kernel_rfl) (by decide) (fun K hK => ?_)
 refine goes_ Tryz.func58 (by kernel_rfl) rfl #[.pointer (some ⟨g, 0, none⟩), .int .i64 ka, .bool (oddB l ka i false)] (by rfl) rfl rfl Zz16 ?_
 with_reducible refine (w_kid _ g l st tx dp ka (oddB l ka i false) s1 n1 (HWR1.out.below (pw_below_drewN (below_drew (Below.refl _ _)) m4)) HP.out).mono ?_
 rintro e w5 ⟨rfl, hb5⟩
 refine ⟨_, rfl, ?_⟩
 refine hK.out _ _ ⟨pw_cell_below hb5 hHeld.1, pw_cell_below hb5 hHeld.2⟩ (fun hHeld => ?_)
 clear hK K
 refine norm_ (a' := ?_) ?_ ?_
 rotate_left
 ·show Act.put _ (some 36) _ = _
  simp only [Act.put, List.setIfInBounds_toArray, List.set_cons_zero, List.set_cons_succ, i64_w, i32_w]
  rfl
 refine pure_ (i := 10) (N := some 26) (v := ?_) (a' := ?_) #[true, true, true, true, true, true, true, true, true, true, true, false, false, false, false] rfl rfl (by kernel_rfl) (fun _ _ _ h => h) (Or.inl ⟨by rfl, ?_⟩) ?_ ?_
 rotate_left
 ·intro w'
  go_simp
  with_reducible rfl
 rotate_left
 ·simp only [Act.put, List.setIfInBounds_toArray, List.set_cons_zero, List.set_cons_succ, i64_w, i32_w]
  rfl
 refine pure_ (i := 11) (N := some 37) (v := ?_) (a' := ?_) #[true, true, true, true, true, true, true, true, true, true, true, true, false, false, false] rfl rfl (by kernel_rfl) (fun _ _ _ h => h) (Or.inl ⟨by rfl, ?_⟩) ?_ ?_
 rotate_left
 ·intro w'
  go_simp
  with_reducible rfl
 rotate_left
 ·simp only [Act.put, List.setIfInBounds_toArray, List.set_cons_zero, List.set_cons_succ, i64_w, i32_w]
  rfl
 refine pure_ (i := 12) (N := some 38) (v := ?_) (a' := ?_) #[true, true, true, true, true, true, true, true, true, true, true, true, true, false, false] rfl rfl (by kernel_rfl) (fun _ _ _ h => h) (Or.inl ⟨by rfl, ?_⟩) ?_ ?_
 rotate_left
 ·intro w'
  go_simp
  with_reducible rfl
 rotate_left
 ·simp only [Act.put, List.setIfInBounds_toArray, List.set_cons_zero, List.set_cons_succ, i64_w, i32_w]
  rfl
 refine pure_ (i := 13) (N := some 9) (v := ?_) (a' := ?_) #[true, true, true, true, true, true, true, true, true, true, true, true, true, true, false] rfl rfl (by kernel_rfl) (fun _ _ _ h => h) (Or.inl ⟨by rfl, ?_⟩) ?_ ?_
 rotate_left
 ·intro w'
  go_simp
  with_reducible rfl
 rotate_left
 ·simp only [Act.put, List.setIfInBounds_toArray, List.set_cons_zero, List.set_cons_succ, i64_w, i32_w]
  rfl
 refine pure_ (i := 14) (N := some 10) (v := ?_) (a' := ?_) #[true, true, true, true, true, true, true, true, true, true, true, true, true, true, true] rfl rfl (by kernel_rfl) (fun _ _ _ h => h) (Or.inl ⟨by rfl, ?_⟩) ?_ ?_
 rotate_left
 ·intro w'
  go_simp
  with_reducible rfl
 rotate_left
 ·simp only [Act.put, List.setIfInBounds_toArray, List.set_cons_zero, List.set_cons_succ, i64_w, i32_w]
  rfl
 refine done_ (by kernel_rfl) ?_
 have HB5 := Aside0.mk (show Below w1.heap.size w1 w5 from (pw_below_drewN (below_drew (Below.refl _ _)) m4).trans (hb5.mono (Nat.le_refl _)))
 have HWR5 := Aside0.mk (HWR1.out.below HB5.out)
 have HTB5 := Aside0.mk (HTB1.out.below HB5.out)
 have HXB5 := Aside0.mk (pw_cell_below HB5.out HXB.out)
 clear hb5 hHeld
 go_wp2
 refine start_ (n := 15) (S := fun w' => w'.cell? ⟨b, 0, none⟩ = some (.pointer (some ⟨g, 0, none⟩)) ∧ w'.cell? ⟨adk.block, adk.off + 1, none⟩ = some (.int .i64 kb)) (ds := []) #[false, false, false, false, false, false, false, false, false, false, false, false, false, false, false] (by kernel_rfl) rfl rfl ⟨HTB5.out.cells.1, HXB5.out⟩ (fun hHeld => ?_)
 refine pure_ (i := 1) (N := some 41) (v := ?_) (a' := ?_) #[false, true, false, false, false, false, false, false, false, false, false, false, false, false, false] rfl rfl (by kernel_rfl) (fun _ _ _ h => h) (Or.inl ⟨by rfl, ?_⟩) ?_ ?_
 rotate_left
 ·intro w'
  go_simp
  with_reducible rfl
 rotate_left
 ·simp only [Act.put, List.setIfInBounds_toArray, List.set_cons_zero, List.set_cons_succ, i64_w, i32_w]
  rfl
 refine pure_ (i := 2) (N := some 42) (v := ?_) (a' := ?_) #[false, true, true, false, false, false, false, false, false, false, false, false, false, false, false] rfl rfl (by kernel_rfl) (fun _ _ _ h => h) (Or.inl ⟨by rfl, ?_⟩) ?_ ?_
 rotate_left
 ·intro w'
  go_simp
  with_reducible rfl
 rotate_left
 ·simp only [Act.put, List.setIfInBounds_toArray, List.set_cons_zero, List.set_cons_succ, i64_w, i32_w]
  rfl
 refine pure_ (i := 4) (N := some 44) (v := ?_) (a' := ?_) #[false, true, true, false, true, false, false, false, false, false, false, false, false, false, false] rfl rfl (by kernel_rfl) (fun _ _ _ h => h) (Or.inl ⟨by rfl, ?_⟩) ?_ ?_
 rotate_left
 ·intro w'
  go_simp
  with_reducible rfl
 rotate_left
 ·simp only [Act.put, List.setIfInBounds_toArray, List.set_cons_zero, List.set_cons_succ, i64_w, i32_w]
  rfl
 refine pure_ (i := 5) (N := some 45) (v := ?_) (a' := ?_) #[false, true, true, false, true, true, false, false, false, false, false, false, false, false, false] rfl rfl (by kernel_rfl) (fun _ _ _ h => h) (Or.inl ⟨by rfl, ?_⟩) ?_ ?_
 rotate_left
 ·intro w'
  go_simp
  with_reducible rfl
 rotate_left
 ·simp only [Act.put, List.setIfInBounds_toArray, List.set_cons_zero, List.set_cons_succ, i64_w, i32_w]
  rfl
 refine pure_ (i := 6) (N := some 46) (v := ?_) (a' := ?_) #[false, true, true, false, true, true, true, false, false, false, false, false, false, false, false] rfl rfl (by kernel_rfl) (fun _ _ _ h => h) (Or.inl ⟨by rfl, ?_⟩) ?_ ?_
 rotate_left
 ·intro w'
  go_simp
  with_reducible rfl
 rotate_left
 ·simp only [Act.put, List.setIfInBounds_toArray, List.set_cons_zero, List.set_cons_succ, i64_w, i32_w]
  rfl
 refine take_ (i := 0) (N := some 40) (v := ?_) (a' := ?_) #[true, true, true, false, true, true, true, false, false, false, false, false, false, false, false] rfl rfl (by kernel_rfl) (fun _ _ _ h => h) (Or.inl ⟨by rfl, ?_⟩) hHeld ?_ ?_
 rotate_left
 ·rintro w' ⟨s0, s1⟩
  go_simp
  with_reducible rfl
 rotate_left
 ·simp only [Act.put, List.setIfInBounds_toArray, List.set_cons_zero, List.set_cons_succ, i64_w, i32_w]
  rfl
 refine take_ (i := 3) (N := some 43) (v := ?_) (a' := ?_) #[true, true, true, true, true, true, true, false, false, false, false, false, false, false, false] rfl rfl (by kernel_rfl) (fun _ _ _ h => h) (Or.inl ⟨by rfl, ?_⟩) hHeld ?_ ?_
 rotate_left
 ·rintro w' ⟨s0, s1⟩
  go_simp
  with_reducible rfl
 rotate_left
 ·simp only [Act.put, List.setIfInBounds_toArray, List.set_cons_zero, List.set_cons_succ, i64_w, i32_w]
  rfl
 refine take_ (i := 7) (N := some 47) (v := ?_) (a' := ?_) #[true, true, true, true, true, true, true, true, false, false, false, false, false, false, false] rfl rfl (by kernel_rfl) (fun _ _ _ h => h) (Or.inl ⟨by rfl, ?_⟩) hHeld ?_ ?_
 rotate_left
 ·rintro w' ⟨s0, s1⟩
  go_simp
  with_reducible rfl
 rotate_left
 ·simp only [Act.put, List.setIfInBounds_toArray, List.set_cons_zero, List.set_cons_succ, i64_w, i32_w]
  rfl
 refine one_ (i := 8) (N := some 48) #[true, true, true, true, true, true, true, true, true, false, false, false, false, false, false] rfl rfl (by kernel_rfl) (by decide) (fun K hK => ?_)
 refine call_ 60 #[.int .i64 kb, .bool true, .pointer (some ⟨b, 0, none⟩), .pointer (some ⟨b + 3, 0, none⟩), .pointer (some ⟨b + 1, 0, none⟩)] (by rfl) rfl (call_run Tryz.func60 (by kernel_rfl) rfl (by rfl) (by rfl) Zz20) ?_
 refine (w_odd _ b g l st tx dp kb i true (HWR5.out.below (below_drew (Below.refl _ _))) (HTB5.out.below (below_drew (Below.refl _ _))) HKB.out.1 HKB.out.2 HI.out.1 HI.out.2).mono ?_
 rintro e w3 ⟨rfl, ⟨m5, rfl⟩⟩
 refine ⟨_, rfl, ?_⟩
 refine hK.out _ _ ⟨pw_cell_below (pw_below_drewN (Below.refl _ _) m5) hHeld.1, pw_cell_below (pw_below_drewN (Below.refl _ _) m5) hHeld.2⟩ (fun hHeld => ?_)
 clear hK K
 refine norm_ (a' := ?_) ?_ ?_
 rotate_left
 ·show Act.put _ (some 48) _ = _
  simp only [Act.put, List.setIfInBounds_toArray, List.set_cons_zero, List.set_cons_succ, i64_w, i32_w]
  rfl
 refine one_ (i := 9) (N := some 49) #[true, true, true, true, true, true, true, true, true, true, false, false, false, false, false] rfl rfl (by kernel_rfl) (by decide) (fun K hK => ?_)
 refine goes_ Tryz.func58 (by kernel_rfl) rfl #[.pointer (some ⟨g, 0, none⟩), .int .i64 kb, .bool (oddB l kb i true)] (by rfl) rfl rfl Zz16 ?_
 with_reducible refine (w_kid _ g l st tx dp kb (oddB l kb i true) s2 n2 (HWR5.out.below (pw_below_drewN (below_drew (Below.refl _ _)) m5)) HQ.out).mono ?_
 rintro e w6 ⟨rfl, hb6⟩
 refine ⟨_, rfl, ?_⟩
 refine hK.out _ _ ⟨pw_cell_below hb6 hHeld.1, pw_cell_below hb6 hHeld.2⟩ (fun hHeld => ?_)
 clear hK K
 refine norm_ (a' := ?_) ?_ ?_
 rotate_left
 ·show Act.put _ (some 49) _ = _
  simp only [Act.put, List.setIfInBounds_toArray, List.set_cons_zero, List.set_cons_succ, i64_w, i32_w]
  rfl
 refine pure_ (i := 10) (N := some 39) (v := ?_) (a' := ?_) #[true, true, true, true, true, true, true, true, true, true, true, false, false, false, false] rfl rfl (by kernel_rfl) (fun _ _ _ h => h) (Or.inl ⟨by rfl, ?_⟩) ?_ ?_
 rotate_left
 ·intro w'
  go_simp
  with_reducible rfl
 rotate_left
 ·simp only [Act.put, List.setIfInBounds_toArray, List.set_cons_zero, List.set_cons_succ, i64_w, i32_w]
  rfl
 refine pure_ (i := 11) (N := some 50) (v := ?_) (a' := ?_) #[true, true, true, true, true, true, true, true, true, true, true, true, false, false, false] rfl rfl (by kernel_rfl) (fun _ _ _ h => h) (Or.inl ⟨by rfl, ?_⟩) ?_ ?_
 rotate_left
 ·intro w'
  go_simp
  with_reducible rfl
 rotate_left
 ·simp only [Act.put, List.setIfInBounds_toArray, List.set_cons_zero, List.set_cons_succ, i64_w, i32_w]
  rfl
 refine pure_ (i := 12) (N := some 51) (v := ?_) (a' := ?_) #[true, true, true, true, true, true, true, true, true, true, true, true, true, false, false] rfl rfl (by kernel_rfl) (fun _ _ _ h => h) (Or.inl ⟨by rfl, ?_⟩) ?_ ?_
 rotate_left
 ·intro w'
  go_simp
  with_reducible rfl
 rotate_left
 ·simp only [Act.put, List.setIfInBounds_toArray, List.set_cons_zero, List.set_cons_succ, i64_w, i32_w]
  rfl
 refine pure_ (i := 13) (N := some 11) (v := ?_) (a' := ?_) #[true, true, true, true, true, true, true, true, true, true, true, true, true, true, false] rfl rfl (by kernel_rfl) (fun _ _ _ h => h) (Or.inl ⟨by rfl, ?_⟩) ?_ ?_
 rotate_left
 ·intro w'
  go_simp
  with_reducible rfl
 rotate_left
 ·simp only [Act.put, List.setIfInBounds_toArray, List.set_cons_zero, List.set_cons_succ, i64_w, i32_w]
  rfl
 refine pure_ (i := 14) (N := some 12) (v := ?_) (a' := ?_) #[true, true, true, true, true, true, true, true, true, true, true, true, true, true, true] rfl rfl (by kernel_rfl) (fun _ _ _ h => h) (Or.inl ⟨by rfl, ?_⟩) ?_ ?_
 rotate_left
 ·intro w'
  go_simp
  with_reducible rfl
 rotate_left
 ·simp only [Act.put, List.setIfInBounds_toArray, List.set_cons_zero, List.set_cons_succ, i64_w, i32_w]
  rfl
 refine done_ (by kernel_rfl) ?_
 have HB6 := Aside0.mk (show Below w5.heap.size w5 w6 from (pw_below_drewN (below_drew (Below.refl _ _)) m5).trans (hb6.mono (Nat.le_refl _)))
 have HWR6 := Aside0.mk (HWR5.out.below HB6.out)
 have HTB6 := Aside0.mk (HTB5.out.below HB6.out)
 clear hb6 hHeld
 obtain ⟨A0, c0, A1, c1, A2, c2, A3, c3, hg, h0, h1, h2, h3, h4, h5⟩ := HWR6.out
 obtain ⟨ad, rfl, hx0, hx1, hx2⟩ := at_T38 h0 i i0 i1
 have k0 := blk_cell hg 0
 replace k0 : w6.cell? ⟨g, 0, none⟩ = some (.slice (some ad) l.length c0) := k0
 obtain ⟨b0, b1, b3⟩ := HTB6.out.cells
 have hM := HTB6.out.2.2.1
 clear hg h0 h1 h2 h3 h4 h5 hx1 hx2
 have z1 : (9223372036854775807 < s1.size + 1) = False := big_no (by have := HZ1.out; omega)
 have z2 : (9223372036854775807 < s1.size + 1 + s2.size) = False := big_no (by have := HZ1.out; have := HZ2.out; omega)
 have HBF := Aside0.mk (show Below w.heap.size w w6 from ((HBel.out.trans (HB1.out.mono HBel.out.size)).trans (HB5.out.mono (Nat.le_trans HBel.out.size HB1.out.size))).trans (HB6.out.mono (Nat.le_trans (Nat.le_trans HBel.out.size HB1.out.size) HB5.out.size)))
 clear hf h
 rcases HF.out with hff | hff
 ·rw [hff] at hx0
  have HFF := Aside0.mk hff
  have hl := run_get (P := Tryz.prog) (W := w6.drew) (t := 84) (k := 4) (ok := false) (es := signsM) (c := 2) (i := 0) Tryz.underlying84 Tryz.underlying3 hM rfl
  clear hff
  go_wp2
  refine start_ (n := 19) (S := fun w' => w'.cell? ⟨b + 1 + 1 + 1, 0, none⟩ = some (.map (some (b + 2))) ∧ w'.cell? ⟨b, 0, none⟩ = some (.pointer (some ⟨g, 0, none⟩)) ∧ w'.cell? ⟨g, 0, none⟩ = some (.slice (some ad) l.length c0) ∧ w'.cell? ⟨b + 1, 0, none⟩ = some (.int .i64 i) ∧ w'.cell? (ad.add (i.toNat * 3)) = some (.int .i64 4) ∧ (Instr.lookup 84 (.map (some (b + 2))) (.int .i64 4) false).run Tryz.prog w' = .ok (.string ⟨#[124]⟩) w') (ds := []) #[false, false, false, false, false, false, false, false, false, false, false, false, false, false, false, false, false, false, false] (by kernel_rfl) rfl rfl ⟨b3, b0, k0, b1, hx0, hl⟩ (fun hHeld => ?_)
  refine pure_ (i := 0) (N := some 52) (v := ?_) (a' := ?_) #[true, false, false, false, false, false, false, false, false, false, false, false, false, false, false, false, false, false, false] rfl rfl (by kernel_rfl) (fun _ _ _ h => h) (Or.inl ⟨by rfl, ?_⟩) ?_ ?_
  rotate_left
  ·intro w'
   go_simp
   with_reducible rfl
  rotate_left
  ·simp only [Act.put, List.setIfInBounds_toArray, List.set_cons_zero, List.set_cons_succ, i64_w, i32_w]
   rfl
  refine pure_ (i := 12) (N := some 64) (v := ?_) (a' := ?_) #[true, false, false, false, false, false, false, false, false, false, false, false, true, false, false, false, false, false, false] rfl rfl (by kernel_rfl) (fun _ _ _ h => h) (Or.inl ⟨by rfl, ?_⟩) ?_ ?_
  rotate_left
  ·intro w'
   go_simp
   with_reducible rfl
  rotate_left
  ·simp only [Act.put, List.setIfInBounds_toArray, List.set_cons_zero, List.set_cons_succ, i64_w, i32_w]
   rfl
  refine pure_ (i := 14) (N := some 66) (v := ?_) (a' := ?_) #[true, false, false, false, false, false, false, false, false, false, false, false, true, false, true, false, false, false, false] rfl rfl (by kernel_rfl) (fun _ _ _ h => h) (Or.inl ⟨by rfl, ?_⟩) ?_ ?_
  rotate_left
  ·intro w'
   go_simp
   with_reducible rfl
  rotate_left
  ·simp only [Act.put, List.setIfInBounds_toArray, List.set_cons_zero, List.set_cons_succ, i64_w, i32_w]
   rfl
  refine pure_ (i := 15) (N := some 67) (v := ?_) (a' := ?_) #[true, false, false, false, false, false, false, false, false, false, false, false, true, false, true, true, false, false, false] rfl rfl (by kernel_rfl) (fun _ _ _ h => h) (Or.inl ⟨by rfl, ?_⟩) ?_ ?_
  rotate_left
  ·intro w'
   go_simp
   with_reducible rfl
  rotate_left
  ·simp only [Act.put, List.setIfInBounds_toArray, List.set_cons_zero, List.set_cons_succ, i64_w, i32_w]
   rfl
  refine pure_ (i := 16) (N := some 68) (v := ?_) (a' := ?_) #[true, false, false, false, false, false, false, false, false, false, false, false, true, false, true, true, true, false, false] rfl rfl (by kernel_rfl) (fun _ _ _ h => h) (Or.inl ⟨by rfl, ?_⟩) ?_ ?_
  rotate_left
  ·intro w'
   go_simp
   with_reducible rfl
  rotate_left
  ·simp only [Act.put, List.setIfInBounds_toArray, List.set_cons_zero, List.set_cons_succ, i64_w, i32_w]
   rfl
  refine take_ (i := 1) (N := some 53) (v := ?_) (a' := ?_) #[true, true, false, false, false, false, false, false, false, false, false, false, true, false, true, true, true, false, false] rfl rfl (by kernel_rfl) (fun _ _ _ h => h) (Or.inl ⟨by rfl, ?_⟩) hHeld ?_ ?_
  rotate_left
  ·rintro w' ⟨s0, s1, s2, s3, s4, s5⟩
   go_simp
   with_reducible rfl
  rotate_left
  ·simp only [Act.put, List.setIfInBounds_toArray, List.set_cons_zero, List.set_cons_succ, i64_w, i32_w]
   rfl
  refine take_ (i := 2) (N := some 54) (v := ?_) (a' := ?_) #[true, true, true, false, false, false, false, false, false, false, false, false, true, false, true, true, true, false, false] rfl rfl (by kernel_rfl) (fun _ _ _ h => h) (Or.inl ⟨by rfl, ?_⟩) hHeld ?_ ?_
  rotate_left
  ·rintro w' ⟨s0, s1, s2, s3, s4, s5⟩
   go_simp
   with_reducible rfl
  rotate_left
  ·simp only [Act.put, List.setIfInBounds_toArray, List.set_cons_zero, List.set_cons_succ, i64_w, i32_w]
   rfl
  refine pure_ (i := 3) (N := some 55) (v := ?_) (a' := ?_) #[true, true, true, true, false, false, false, false, false, false, false, false, true, false, true, true, true, false, false] rfl rfl (by kernel_rfl) (fun _ _ _ h => h) (Or.inl ⟨by rfl, ?_⟩) ?_ ?_
  rotate_left
  ·intro w'
   go_simp
   with_reducible rfl
  rotate_left
  ·simp only [Act.put, List.setIfInBounds_toArray, List.set_cons_zero, List.set_cons_succ, i64_w, i32_w]
   rfl
  refine pure_ (i := 4) (N := some 56) (v := ?_) (a' := ?_) #[true, true, true, true, true, false, false, false, false, false, false, false, true, false, true, true, true, false, false] rfl rfl (by kernel_rfl) (fun _ _ _ h => h) (Or.inl ⟨by rfl, ?_⟩) ?_ ?_
  rotate_left
  ·intro w'
   go_simp
   with_reducible rfl
  rotate_left
  ·simp only [Act.put, List.setIfInBounds_toArray, List.set_cons_zero, List.set_cons_succ, i64_w, i32_w]
   rfl
  refine take_ (i := 5) (N := some 57) (v := ?_) (a' := ?_) #[true, true, true, true, true, true, false, false, false, false, false, false, true, false, true, true, true, false, false] rfl rfl (by kernel_rfl) (fun _ _ _ h => h) (Or.inl ⟨by rfl, ?_⟩) hHeld ?_ ?_
  rotate_left
  ·rintro w' ⟨s0, s1, s2, s3, s4, s5⟩
   go_simp
   with_reducible rfl
  rotate_left
  ·simp only [Act.put, List.setIfInBounds_toArray, List.set_cons_zero, List.set_cons_succ, i64_w, i32_w]
   rfl
  refine take_ (i := 6) (N := some 58) (v := ?_) (a' := ?_) #[true, true, true, true, true, true, true, false, false, false, false, false, true, false, true, true, true, false, false] rfl rfl (by kernel_rfl) (fun _ _ _ h => h) (Or.inl ⟨by rfl, ?_⟩) hHeld ?_ ?_
  rotate_left
  ·rintro w' ⟨s0, s1, s2, s3, s4, s5⟩
   go_simp
   with_reducible rfl
  rotate_left
  ·simp only [Act.put, List.setIfInBounds_toArray, List.set_cons_zero, List.set_cons_succ, i64_w, i32_w]
   rfl
  refine pure_ (i := 7) (N := some 59) (v := ?_) (a' := ?_) #[true, true, true, true, true, true, true, true, false, false, false, false, true, false, true, true, true, false, false] rfl rfl (by kernel_rfl) (fun _ _ _ h => h) (Or.inl ⟨by rfl, ?_⟩) ?_ ?_
  rotate_left
  ·intro w'
   go_simp
   with_reducible rfl
  rotate_left
  ·simp only [Act.put, List.setIfInBounds_toArray, List.set_cons_zero, List.set_cons_succ, i64_w, i32_w]
   rfl
  refine pure_ (i := 8) (N := some 60) (v := ?_) (a' := ?_) #[true, true, true, true, true, true, true, true, true, false, false, false, true, false, true, true, true, false, false] rfl rfl (by kernel_rfl) (fun _ _ _ h => h) (Or.inl ⟨by rfl, ?_⟩) ?_ ?_
  rotate_left
  ·intro w'
   go_simp
   with_reducible rfl
  rotate_left
  ·simp only [Act.put, List.setIfInBounds_toArray, List.set_cons_zero, List.set_cons_succ, i64_w, i32_w]
   rfl
  refine take_ (i := 9) (N := some 61) (v := ?_) (a' := ?_) #[true, true, true, true, true, true, true, true, true, true, false, false, true, false, true, true, true, false, false] rfl rfl (by kernel_rfl) (fun _ _ _ h => h) (Or.inl ⟨by rfl, ?_⟩) hHeld ?_ ?_
  rotate_left
  ·rintro w' ⟨s0, s1, s2, s3, s4, s5⟩
   go_simp
   with_reducible rfl
  rotate_left
  ·simp only [Act.put, List.setIfInBounds_toArray, List.set_cons_zero, List.set_cons_succ, i64_w, i32_w]
   rfl
  refine take_ (i := 10) (N := some 62) (v := ?_) (a' := ?_) #[true, true, true, true, true, true, true, true, true, true, true, false, true, false, true, true, true, false, false] rfl rfl (by kernel_rfl) (fun _ _ _ h => h) (Or.inl ⟨by rfl, ?_⟩) hHeld ?_ ?_
  rotate_left
  ·rintro w' ⟨s0, s1, s2, s3, s4, s5⟩
   go_simp
   with_reducible rfl
  rotate_left
  ·simp only [Act.put, List.setIfInBounds_toArray, List.set_cons_zero, List.set_cons_succ, i64_w, i32_w]
   rfl
  refine pure_ (i := 11) (N := some 63) (v := ?_) (a' := ?_) #[true, true, true, true, true, true, true, true, true, true, true, true, true, false, true, true, true, false, false] rfl rfl (by kernel_rfl) (fun _ _ _ h => h) (Or.inl ⟨by rfl, ?_⟩) ?_ ?_
  rotate_left
  ·intro w'
   go_simp
   with_reducible rfl
  rotate_left
  ·simp only [Act.put, List.setIfInBounds_toArray, List.set_cons_zero, List.set_cons_succ, i64_w, i32_w]
   rfl
  refine pure_ (i := 13) (N := some 65) (v := ?_) (a' := ?_) #[true, true, true, true, true, true, true, true, true, true, true, true, true, true, true, true, true, false, false] rfl rfl (by kernel_rfl) (fun _ _ _ h => h) (Or.inl ⟨by rfl, ?_⟩) ?_ ?_
  rotate_left
  ·intro w'
   go_simp
   with_reducible rfl
  rotate_left
  ·simp only [Act.put, List.setIfInBounds_toArray, List.set_cons_zero, List.set_cons_succ, i64_w, i32_w]
   rfl
  refine pure_ (i := 17) (N := some 4) (v := ?_) (a' := ?_) #[true, true, true, true, true, true, true, true, true, true, true, true, true, true, true, true, true, true, false] rfl rfl (by kernel_rfl) (fun _ _ _ h => h) (Or.inl ⟨by rfl, ?_⟩) ?_ ?_
  rotate_left
  ·intro w'
   go_simp
   with_reducible rfl
  rotate_left
  ·simp only [Act.put, List.setIfInBounds_toArray, List.set_cons_zero, List.set_cons_succ, i64_w, i32_w]
   rfl
  refine pure_ (i := 18) (N := some 5) (v := ?_) (a' := ?_) #[true, true, true, true, true, true, true, true, true, true, true, true, true, true, true, true, true, true, true] rfl rfl (by kernel_rfl) (fun _ _ _ h => h) (Or.inl ⟨by rfl, ?_⟩) ?_ ?_
  rotate_left
  ·intro w'
   go_simp
   with_reducible rfl
  rotate_left
  ·simp only [Act.put, List.setIfInBounds_toArray, List.set_cons_zero, List.set_cons_succ, i64_w, i32_w]
   rfl
  refine done_ (by kernel_rfl) ?_
  go_wp2
  all_goals
   go_ret2
   first
   | (have hmx : mx n1 n2 = n2 := by unfold mx; split <;> omega
      exact ⟨by rw [HFF.out, hmx]; rfl, HBF.out.drew⟩)
   | (have hmx : mx n1 n2 = n1 := by unfold mx; split <;> omega
      exact ⟨by rw [HFF.out, hmx]; rfl, HBF.out.drew⟩)
 ·rw [hff] at hx0
  have HFF := Aside0.mk hff
  have hl := run_get (P := Tryz.prog) (W := w6.drew) (t := 84) (k := 5) (ok := false) (es := signsM) (c := 2) (i := 1) Tryz.underlying84 Tryz.underlying3 hM rfl
  clear hff
  go_wp2
  refine start_ (n := 19) (S := fun w' => w'.cell? ⟨b + 1 + 1 + 1, 0, none⟩ = some (.map (some (b + 2))) ∧ w'.cell? ⟨b, 0, none⟩ = some (.pointer (some ⟨g, 0, none⟩)) ∧ w'.cell? ⟨g, 0, none⟩ = some (.slice (some ad) l.length c0) ∧ w'.cell? ⟨b + 1, 0, none⟩ = some (.int .i64 i) ∧ w'.cell? (ad.add (i.toNat * 3)) = some (.int .i64 5) ∧ (Instr.lookup 84 (.map (some (b + 2))) (.int .i64 5) false).run Tryz.prog w' = .ok (.string ⟨#[38]⟩) w') (ds := []) #[false, false, false, false, false, false, false, false, false, false, false, false, false, false, false, false, false, false, false] (by kernel_rfl) rfl rfl ⟨b3, b0, k0, b1, hx0, hl⟩ (fun hHeld => ?_)
  refine pure_ (i := 0) (N := some 52) (v := ?_) (a' := ?_) #[true, false, false, false, false, false, false, false, false, false, false, false, false, false, false, false, false, false, false] rfl rfl (by kernel_rfl) (fun _ _ _ h => h) (Or.inl ⟨by rfl, ?_⟩) ?_ ?_
  rotate_left
  ·intro w'
   go_simp
   with_reducible rfl
  rotate_left
  ·simp only [Act.put, List.setIfInBounds_toArray, List.set_cons_zero, List.set_cons_succ, i64_w, i32_w]
   rfl
  refine pure_ (i := 12) (N := some 64) (v := ?_) (a' := ?_) #[true, false, false, false, false, false, false, false, false, false, false, false, true, false, false, false, false, false, false] rfl rfl (by kernel_rfl) (fun _ _ _ h => h) (Or.inl ⟨by rfl, ?_⟩) ?_ ?_
  rotate_left
  ·intro w'
   go_simp
   with_reducible rfl
  rotate_left
  ·simp only [Act.put, List.setIfInBounds_toArray, List.set_cons_zero, List.set_cons_succ, i64_w, i32_w]
   rfl
  refine pure_ (i := 14) (N := some 66) (v := ?_) (a' := ?_) #[true, false, false, false, false, false, false, false, false, false, false, false, true, false, true, false, false, false, false] rfl rfl (by kernel_rfl) (fun _ _ _ h => h) (Or.inl ⟨by rfl, ?_⟩) ?_ ?_
  rotate_left
  ·intro w'
   go_simp
   with_reducible rfl
  rotate_left
  ·simp only [Act.put, List.setIfInBounds_toArray, List.set_cons_zero, List.set_cons_succ, i64_w, i32_w]
   rfl
  refine pure_ (i := 15) (N := some 67) (v := ?_) (a' := ?_) #[true, false, false, false, false, false, false, false, false, false, false, false, true, false, true, true, false, false, false] rfl rfl (by kernel_rfl) (fun _ _ _ h => h) (Or.inl ⟨by rfl, ?_⟩) ?_ ?_
  rotate_left
  ·intro w'
   go_simp
   with_reducible rfl
  rotate_left
  ·simp only [Act.put, List.setIfInBounds_toArray, List.set_cons_zero, List.set_cons_succ, i64_w, i32_w]
   rfl
  refine pure_ (i := 16) (N := some 68) (v := ?_) (a' := ?_) #[true, false, false, false, false, false, false, false, false, false, false, false, true, false, true, true, true, false, false] rfl rfl (by kernel_rfl) (fun _ _ _ h => h) (Or.inl ⟨by rfl, ?_⟩) ?_ ?_
  rotate_left
  ·intro w'
   go_simp
   with_reducible rfl
  rotate_left
  ·simp only [Act.put, List.setIfInBounds_toArray, List.set_cons_zero, List.set_cons_succ, i64_w, i32_w]
   rfl
  refine take_ (i := 1) (N := some 53) (v := ?_) (a' := ?_) #[true, true, false, false, false, false, false, false, false, false, false, false, true, false, true, true, true, false, false] rfl rfl (by kernel_rfl) (fun _ _ _ h => h) (Or.inl ⟨by rfl, ?_⟩) hHeld ?_ ?_
  rotate_left
  ·rintro w' ⟨s0, s1, s2, s3, s4, s5⟩
   go_simp
   with_reducible rfl
  rotate_left
  ·simp only [Act.put, List.setIfInBounds_toArray, List.set_cons_zero, List.set_cons_succ, i64_w, i32_w]
   rfl
  refine take_ (i := 2) (N := some 54) (v := ?_) (a' := ?_) #[true, true, true, false, false, false, false, false, false, false, false, false, true, false, true, true, true, false, false] rfl rfl (by kernel_rfl) (fun _ _ _ h => h) (Or.inl ⟨by rfl, ?_⟩) hHeld ?_ ?_
  rotate_left
  ·rintro w' ⟨s0, s1, s2, s3, s4, s5⟩
   go_simp
   with_reducible rfl
  rotate_left
  ·simp only [Act.put, List.setIfInBounds_toArray, List.set_cons_zero, List.set_cons_succ, i64_w, i32_w]
   rfl
  refine pure_ (i := 3) (N := some 55) (v := ?_) (a' := ?_) #[true, true, true, true, false, false, false, false, false, false, false, false, true, false, true, true, true, false, false] rfl rfl (by kernel_rfl) (fun _ _ _ h => h) (Or.inl ⟨by rfl, ?_⟩) ?_ ?_
  rotate_left
  ·intro w'
   go_simp
   with_reducible rfl
  rotate_left
  ·simp only [Act.put, List.setIfInBounds_toArray, List.set_cons_zero, List.set_cons_succ, i64_w, i32_w]
   rfl
  refine pure_ (i := 4) (N := some 56) (v := ?_) (a' := ?_) #[true, true, true, true, true, false, false, false, false, false, false, false, true, false, true, true, true, false, false] rfl rfl (by kernel_rfl) (fun _ _ _ h => h) (Or.inl ⟨by rfl, ?_⟩) ?_ ?_
  rotate_left
  ·intro w'
   go_simp
   with_reducible rfl
  rotate_left
  ·simp only [Act.put, List.setIfInBounds_toArray, List.set_cons_zero, List.set_cons_succ, i64_w, i32_w]
   rfl
  refine take_ (i := 5) (N := some 57) (v := ?_) (a' := ?_) #[true, true, true, true, true, true, false, false, false, false, false, false, true, false, true, true, true, false, false] rfl rfl (by kernel_rfl) (fun _ _ _ h => h) (Or.inl ⟨by rfl, ?_⟩) hHeld ?_ ?_
  rotate_left
  ·rintro w' ⟨s0, s1, s2, s3, s4, s5⟩
   go_simp
   with_reducible rfl
  rotate_left
  ·simp only [Act.put, List.setIfInBounds_toArray, List.set_cons_zero, List.set_cons_succ, i64_w, i32_w]
   rfl
  refine take_ (i := 6) (N := some 58) (v := ?_) (a' := ?_) #[true, true, true, true, true, true, true, false, false, false, false, false, true, false, true, true, true, false, false] rfl rfl (by kernel_rfl) (fun _ _ _ h => h) (Or.inl ⟨by rfl, ?_⟩) hHeld ?_ ?_
  rotate_left
  ·rintro w' ⟨s0, s1, s2, s3, s4, s5⟩
   go_simp
   with_reducible rfl
  rotate_left
  ·simp only [Act.put, List.setIfInBounds_toArray, List.set_cons_zero, List.set_cons_succ, i64_w, i32_w]
   rfl
  refine pure_ (i := 7) (N := some 59) (v := ?_) (a' := ?_) #[true, true, true, true, true, true, true, true, false, false, false, false, true, false, true, true, true, false, false] rfl rfl (by kernel_rfl) (fun _ _ _ h => h) (Or.inl ⟨by rfl, ?_⟩) ?_ ?_
  rotate_left
  ·intro w'
   go_simp
   with_reducible rfl
  rotate_left
  ·simp only [Act.put, List.setIfInBounds_toArray, List.set_cons_zero, List.set_cons_succ, i64_w, i32_w]
   rfl
  refine pure_ (i := 8) (N := some 60) (v := ?_) (a' := ?_) #[true, true, true, true, true, true, true, true, true, false, false, false, true, false, true, true, true, false, false] rfl rfl (by kernel_rfl) (fun _ _ _ h => h) (Or.inl ⟨by rfl, ?_⟩) ?_ ?_
  rotate_left
  ·intro w'
   go_simp
   with_reducible rfl
  rotate_left
  ·simp only [Act.put, List.setIfInBounds_toArray, List.set_cons_zero, List.set_cons_succ, i64_w, i32_w]
   rfl
  refine take_ (i := 9) (N := some 61) (v := ?_) (a' := ?_) #[true, true, true, true, true, true, true, true, true, true, false, false, true, false, true, true, true, false, false] rfl rfl (by kernel_rfl) (fun _ _ _ h => h) (Or.inl ⟨by rfl, ?_⟩) hHeld ?_ ?_
  rotate_left
  ·rintro w' ⟨s0, s1, s2, s3, s4, s5⟩
   go_simp
   with_reducible rfl
  rotate_left
  ·simp only [Act.put, List.setIfInBounds_toArray, List.set_cons_zero, List.set_cons_succ, i64_w, i32_w]
   rfl
  refine take_ (i := 10) (N := some 62) (v := ?_) (a' := ?_) #[true, true, true, true, true, true, true, true, true, true, true, false, true, false, true, true, true, false, false] rfl rfl (by kernel_rfl) (fun _ _ _ h => h) (Or.inl ⟨by rfl, ?_⟩) hHeld ?_ ?_
  rotate_left
  ·rintro w' ⟨s0, s1, s2, s3, s4, s5⟩
   go_simp
   with_reducible rfl
  rotate_left
  ·simp only [Act.put, List.setIfInBounds_toArray, List.set_cons_zero, List.set_cons_succ, i64_w, i32_w]
   rfl
  refine pure_ (i := 11) (N := some 63) (v := ?_) (a' := ?_) #[true, true, true, true, true, true, true, true, true, true, true, true, true, false, true, true, true, false, false] rfl rfl (by kernel_rfl) (fun _ _ _ h => h) (Or.inl ⟨by rfl, ?_⟩) ?_ ?_
  rotate_left
  ·intro w'
   go_simp
   with_reducible rfl
  rotate_left
  ·simp only [Act.put, List.setIfInBounds_toArray, List.set_cons_zero, List.set_cons_succ, i64_w, i32_w]
   rfl
  refine pure_ (i := 13) (N := some 65) (v := ?_) (a' := ?_) #[true, true, true, true, true, true, true, true, true, true, true, true, true, true, true, true, true, false, false] rfl rfl (by kernel_rfl) (fun _ _ _ h => h) (Or.inl ⟨by rfl, ?_⟩) ?_ ?_
  rotate_left
  ·intro w'
   go_simp
   with_reducible rfl
  rotate_left
  ·simp only [Act.put, List.setIfInBounds_toArray, List.set_cons_zero, List.set_cons_succ, i64_w, i32_w]
   rfl
  refine pure_ (i := 17) (N := some 4) (v := ?_) (a' := ?_) #[true, true, true, true, true, true, true, true, true, true, true, true, true, true, true, true, true, true, false] rfl rfl (by kernel_rfl) (fun _ _ _ h => h) (Or.inl ⟨by rfl, ?_⟩) ?_ ?_
  rotate_left
  ·intro w'
   go_simp
   with_reducible rfl
  rotate_left
  ·simp only [Act.put, List.setIfInBounds_toArray, List.set_cons_zero, List.set_cons_succ, i64_w, i32_w]
   rfl
  refine pure_ (i := 18) (N := some 5) (v := ?_) (a' := ?_) #[true, true, true, true, true, true, true, true, true, true, true, true, true, true, true, true, true, true, true] rfl rfl (by kernel_rfl) (fun _ _ _ h => h) (Or.inl ⟨by rfl, ?_⟩) ?_ ?_
  rotate_left
  ·intro w'
   go_simp
   with_reducible rfl
  rotate_left
  ·simp only [Act.put, List.setIfInBounds_toArray, List.set_cons_zero, List.set_cons_succ, i64_w, i32_w]
   rfl
  refine done_ (by kernel_rfl) ?_
  go_wp2
  all_goals
   go_ret2
   first
   | (have hmx : mx n1 n2 = n2 := by unfold mx; split <;> omega
      exact ⟨by rw [HFF.out, hmx]; rfl, HBF.out.drew⟩)
   | (have hmx : mx n1 n2 = n1 := by unfold mx; split <;> omega
      exact ⟨by rw [HFF.out, hmx]; rfl, HBF.out.drew⟩)
def fnM : Array MapEntry := #[{ key := .int .i64 0, val := .func (.func 35) #[] #[], born := 0 }, { key := .int .i64 1, val := .func (.func 36) #[] #[], born := 1 }, { key := .int .i64 2, val := .func (.func 37) #[] #[], born := 2 }, { key := .int .i64 3, val := .func (.func 38) #[] #[], born := 3 }, { key := .int .i64 4, val := .func (.func 39) #[] #[], born := 4 }, { key := .int .i64 5, val := .func (.func 39) #[] #[], born := 5 }, { key := .int .i64 6, val := .func (.func 40) #[] #[], born := 6 }]
def wStep (l : List S38) (st : List Int) (tx : List ByteArray) (dp : List Int) (i : Int) : Option (ByteArray × Int) :=
 if (rd_T38 l i).f0 = 0 then some (⟨#[48]⟩, 0) else if (rd_T38 l i).f0 = 1 then some (⟨#[49]⟩, 0) else if (rd_T38 l i).f0 = 2 then some ((rd_T38 l i).f1, 0)
 else if (rd_T38 l i).f0 = 3 then callT l st tx dp i else if (rd_T38 l i).f0 = 4 then twoT l st tx dp i else if (rd_T38 l i).f0 = 5 then twoT l st tx dp i else if (rd_T38 l i).f0 = 6 then projT l tx dp i else none
def wLoop (l : List S38) (st : List Int) : Nat → List ByteArray → List Int → Option (List ByteArray × List Int)
 | 0, tx, dp => some (tx, dp)
 | k + 1, tx, dp => (wStep l st tx dp tx.length).bind fun p => wLoop l st k (tx ++ [p.1]) (dp ++ [p.2])
def expr_written.f (k : Nat) (l0 : List S38) : Option (ByteArray × Int) := (expr_Starts.f k l0).bind fun st => if 0 < l0.length ∧ l0.length ≤ 100000 then (wLoop l0 st l0.length [] []).bind fun r => some (rdOf ByteArray.empty r.1 ((l0.length : Int) - 1), rd r.2 ((l0.length : Int) - 1)) else none
theorem expr_written.mono : ∀ l0 k, LeO (expr_written.f k l0) (expr_written.f (k + 1) l0) := by
 intro l0 k
 unfold expr_written.f
 exact LeO.bind (expr_Starts.mono l0 k) (fun _ => LeO.refl _)
def WL (w1 W : World) (g : Nat) (A0 : Option Addr) (n0 c0 : Nat) (A1 : Option Addr) (n1 c1 : Nat) (tx : List ByteArray) (dp : List Int) (vt vd : Value) : Prop :=
 W.heap[g]? = some (.cells #[.slice A0 n0 c0, .slice A1 n1 c1, vt, vd] 64 (0, 0)) ∧ W.heap[g + 1]? = some (.map fnM 7) ∧ W.ownsRow g 9 1 vt tx.length (encs Value.string tx) ∧ W.ownsRow g 3 1 vd dp.length (encs (Value.int .i64) dp) ∧ Below g w1 W
theorem WL.below {w1 W W1 : World} {g : Nat} {A0 : Option Addr} {n0 c0 : Nat} {A1 : Option Addr} {n1 c1 : Nat} {tx : List ByteArray} {dp : List Int} {vt vd : Value} (hg : g ≤ W.heap.size) (h : WL w1 W g A0 n0 c0 A1 n1 c1 tx dp vt vd) (hb : Below W.heap.size W W1) : WL w1 W1 g A0 n0 c0 A1 n1 c1 tx dp vt vd :=
 ⟨(hb.block _ (blk_lt h.1)).trans h.1, (hb.block _ (blk_lt h.2.1)).trans h.2.1, own_move h.2.2.1 (fun k hk => hb.block k (own_lt h.2.2.1 k hk)), own_move h.2.2.2.1 (fun k hk => hb.block k (own_lt h.2.2.2.1 k hk)), h.2.2.2.2.trans (hb.mono hg)⟩
theorem WL.c2 {w1 W : World} {g : Nat} {A0 : Option Addr} {n0 c0 : Nat} {A1 : Option Addr} {n1 c1 : Nat} {tx : List ByteArray} {dp : List Int} {vt vd : Value} (h : WL w1 W g A0 n0 c0 A1 n1 c1 tx dp vt vd) : W.cell? ⟨g, 2, none⟩ = some vt := blk_cell h.1 2
theorem WL.c3 {w1 W : World} {g : Nat} {A0 : Option Addr} {n0 c0 : Nat} {A1 : Option Addr} {n1 c1 : Nat} {tx : List ByteArray} {dp : List Int} {vt vd : Value} (h : WL w1 W g A0 n0 c0 A1 n1 c1 tx dp vt vd) : W.cell? ⟨g, 3, none⟩ = some vd := blk_cell h.1 3
theorem WL.wr {w1 W : World} {g : Nat} {l : List S38} {st : List Int} {A0 : Option Addr} {c0 : Nat} {A1 : Option Addr} {c1 : Nat} {tx : List ByteArray} {dp : List Int} {vt vd : Value} (hg : g = w1.heap.size) (h0 : Kd.C k38 w1 A0 l.length l ∧ l.length ≤ c0) (h1 : Kd.C (Kd.int .i64) w1 A1 st.length st ∧ st.length ≤ c1) (h : WL w1 W g A0 l.length c0 A1 st.length c1 tx dp vt vd) : WR W g l st tx dp := by
 subst hg
 obtain ⟨A2, c2, e2, l2, C2⟩ := Kd.R_reads (Kd.R_of_own (h1 := fun _ => rfl) (ok := fun _ => True) h.2.2.1 (fun _ _ => trivial))
 obtain ⟨A3, c3, e3, l3, C3⟩ := Kd.R_reads (Kd.R_of_own (h1 := fun _ => rfl) (ok := fun _ => True) h.2.2.2.1 (fun _ _ => trivial))
 have hh := h.1
 rw [e2, e3] at hh
 exact ⟨A0, c0, A1, c1, A2, c2, A3, c3, hh, Kd.C_below h0.1 h.2.2.2.2, Kd.C_below h1.1 h.2.2.2.2, C2, C3, h0.2, h1.2⟩
theorem map_far {W W1 : World} {k base size n : Nat} {es : Array MapEntry} {c : Nat} {e : TypeId} {v : Value} {xs : List Value} (h : W.heap[k]? = some (.map es c)) (ho : W.ownsRow base e size v n xs) (hg : W.grownBy W1 v.ownBlock) : W1.heap[k]? = some (.map es c) := by
 refine (hg.block k (blk_lt h) (fun e' => ?_)).trans h
 obtain ⟨cells, hc⟩ := own_typed ho k e'.symm
 rw [h] at hc
 cases hc
theorem WL_tx {w1 W W1 : World} {g : Nat} {A0 : Option Addr} {n0 c0 : Nat} {A1 : Option Addr} {n1 c1 : Nat} {tx : List ByteArray} {dp : List Int} {vt vd v1 : Value} {s : ByteArray} (h : WL w1 W g A0 n0 c0 A1 n1 c1 tx dp vt vd) (ho : W1.ownsRow g 9 1 v1 (tx ++ [s]).length (encs Value.string (tx ++ [s]))) (hg : W.grownBy W1 vt.ownBlock) (hb : Below g w1 W1) :
  WL w1 (W1.setCell ⟨g, 2, none⟩ v1) g A0 n0 c0 A1 n1 c1 (tx ++ [s]) dp v1 vd := by
 have h1 : W1.heap[g]? = _ := blk_grown h.1 hg (own_ne h.2.2.1 h.1 (by decide))
 have h2 := own_other h.2.2.2.1 hg (own_type_ne h.2.2.2.1 h.2.2.1 (by decide))
 have h3 := map_far h.2.1 h.2.2.1 hg
 exact ⟨by simpa using blk_set h1 2 v1, (Below.heap_setCell W1 ⟨g, 2, none⟩ v1 (g + 1) (by simp)).trans h3, own_setCell ho (own_ne ho h1 (by decide)) _, own_setCell h2 (own_ne h2 h1 (by decide)) _, hb.setCell (Nat.le_refl _) _⟩
theorem WL_dp {w1 W W1 : World} {g : Nat} {A0 : Option Addr} {n0 c0 : Nat} {A1 : Option Addr} {n1 c1 : Nat} {tx : List ByteArray} {dp : List Int} {vt vd v1 : Value} {s : Int} (h : WL w1 W g A0 n0 c0 A1 n1 c1 tx dp vt vd) (ho : W1.ownsRow g 3 1 v1 (dp ++ [s]).length (encs (Value.int .i64) (dp ++ [s]))) (hg : W.grownBy W1 vd.ownBlock) (hb : Below g w1 W1) :
  WL w1 (W1.setCell ⟨g, 3, none⟩ v1) g A0 n0 c0 A1 n1 c1 tx (dp ++ [s]) vt v1 := by
 have h1 : W1.heap[g]? = _ := blk_grown h.1 hg (own_ne h.2.2.2.1 h.1 (by decide))
 have h2 := own_other h.2.2.1 hg (own_type_ne h.2.2.1 h.2.2.2.1 (by decide))
 have h3 := map_far h.2.1 h.2.2.2.1 hg
 exact ⟨by simpa using blk_set h1 3 v1, (Below.heap_setCell W1 ⟨g, 3, none⟩ v1 (g + 1) (by simp)).trans h3, own_setCell h2 (own_ne h2 h1 (by decide)) _, own_setCell ho (own_ne ho h1 (by decide)) _, hb.setCell (Nat.le_refl _) _⟩
section
variable {P : Program} {ops : Array Oper} {rest : List Oper} {o : Oper} {a : Act} {Q : Exit → Act → World → Prop}
theorem app_tx {w1 W : World} {g : Nat} {A0 : Option Addr} {n0 c0 : Nat} {A1 : Option Addr} {n1 c1 : Nat} {tx : List ByteArray} {dp : List Int} {vt vd : Value} (s : ByteArray) (hgd : o.guard = none) (x y : Operand) (ho : o.op = .call { callee := .builtin .append, args := #[x, y], argTypes := #[56, 56] })
  (ht : P.underlying 56 = some (.slice 9)) (hinfo : (P.info? 9).map (fun i => (i.zero, i.size, i.bytes)) = some (some (.string ⟨#[]⟩), 1, 16)) (hs : a.eval x = vt) (hx : a.eval y = .slice (some ⟨W.heap.size, 0, none⟩) 1 1)
  (HL : WL w1 W g A0 n0 c0 A1 n1 c1 tx dp vt vd) (hz : g ≤ W.heap.size) (hl : tx.length ≤ 100000)
  (h : ∀ A7 c7 w7, w7.cell? ⟨g, 2, none⟩ = some vt → w7.cell? ⟨g, 3, none⟩ = some vd → w7.frozen? ⟨g, 2, none⟩ = false → w7.frozen? ⟨g, 3, none⟩ = false → WL w1 (w7.setCell ⟨g, 2, none⟩ (.slice A7 (tx.length + 1) c7)) g A0 n0 c0 A1 n1 c1 (tx ++ [s]) dp (.slice A7 (tx.length + 1) c7) vd → g ≤ w7.heap.size → wpList P ops Q rest (a.put o.dst (.slice A7 (tx.length + 1) c7)) w7) :
  wpList P ops Q (o :: rest) a (W.alloc (.cells #[.string s] 9)) := by
 refine print_append_of (w0 := w1) Value.string g hgd x y 56 9 (.string ⟨#[]⟩) 16 ho ht hinfo rfl (by omega) vt tx s hs hx rfl HL.2.2.1 HL.2.2.2.2 hz (by omega) ?_
 intro v7 w7 ho7 hb7 hg7 hat7
 have hN := own_ne HL.2.2.1 HL.1 (by decide : (9 : TypeId) ≠ 64)
 obtain ⟨A7, c7, rfl⟩ := own_slice ho7
 have hL := WL_tx HL ho7 hg7 hb7
 have hlen : (tx ++ [s]).length = tx.length + 1 := by simp
 rw [hlen] at hL ⊢
 exact h A7 c7 w7 (cell_far_ hg7 HL.c2 hN) (cell_far_ hg7 HL.c3 hN) (frozen_far_ hg7 (blk_frozen HL.1 2) (blk_lt HL.1) hN) (frozen_far_ hg7 (blk_frozen HL.1 3) (blk_lt HL.1) hN) hL (Nat.le_trans hz hg7.size)
theorem app_dp {w1 W : World} {g : Nat} {A0 : Option Addr} {n0 c0 : Nat} {A1 : Option Addr} {n1 c1 : Nat} {tx : List ByteArray} {dp : List Int} {vt vd : Value} (s : Int) (hgd : o.guard = none) (x y : Operand) (ho : o.op = .call { callee := .builtin .append, args := #[x, y], argTypes := #[25, 25] })
  (ht : P.underlying 25 = some (.slice 3)) (hinfo : (P.info? 3).map (fun i => (i.zero, i.size, i.bytes)) = some (some (.int .i64 0), 1, 8)) (hs : a.eval x = vd) (hx : a.eval y = .slice (some ⟨W.heap.size, 0, none⟩) 1 1)
  (HL : WL w1 W g A0 n0 c0 A1 n1 c1 tx dp vt vd) (hz : g ≤ W.heap.size) (hl : dp.length ≤ 100000)
  (h : ∀ A7 c7 w7, w7.cell? ⟨g, 3, none⟩ = some vd → w7.frozen? ⟨g, 3, none⟩ = false → WL w1 (w7.setCell ⟨g, 3, none⟩ (.slice A7 (dp.length + 1) c7)) g A0 n0 c0 A1 n1 c1 tx (dp ++ [s]) vt (.slice A7 (dp.length + 1) c7) → g ≤ w7.heap.size → wpList P ops Q rest (a.put o.dst (.slice A7 (dp.length + 1) c7)) w7) :
  wpList P ops Q (o :: rest) a (W.alloc (.cells #[.int .i64 s] 3)) := by
 refine print_append_of (w0 := w1) (Value.int .i64) g hgd x y 25 3 (.int .i64 0) 8 ho ht hinfo rfl (by omega) vd dp s hs hx rfl HL.2.2.2.1 HL.2.2.2.2 hz (by omega) ?_
 intro v7 w7 ho7 hb7 hg7 hat7
 have hN := own_ne HL.2.2.2.1 HL.1 (by decide : (3 : TypeId) ≠ 64)
 obtain ⟨A7, c7, rfl⟩ := own_slice ho7
 have hL := WL_dp HL ho7 hg7 hb7
 have hlen : (dp ++ [s]).length = dp.length + 1 := by simp
 rw [hlen] at hL ⊢
 exact h A7 c7 w7 (cell_far_ hg7 HL.c3 hN) (frozen_far_ hg7 (blk_frozen HL.1 3) (blk_lt HL.1) hN) hL (Nat.le_trans hz hg7.size)
end
theorem w_name2 (w : World) (g : Nat) (l : List S38) (st : List Int) (tx : List ByteArray) (dp : List Int) (i : Int) (x : ByteArray) (hW : WR w g l st tx dp) (p0 : 0 ≤ i) (p1 : i < (l.length : Int)) (hx : (rd_T38 l i).f1 = x) :
  Calls Tryz.prog 37 #[.pointer (some ⟨g, 0, none⟩), .int .i64 i] w fun en w' => en = .returned (.tuple #[.string x, .int .i64 0]) ∧ Below w.heap.size w w' := by
 subst hx
 exact w_name w g l st tx dp i hW p0 p1
theorem wLoop_lt {l : List S38} {st : List Int} {k : Nat} {tx : List ByteArray} {dp : List Int} {r : List ByteArray × List Int} (h : wLoop l st (k + 1) tx dp = some r) : ∃ p, wStep l st tx dp tx.length = some p ∧ wLoop l st k (tx ++ [p.1]) (dp ++ [p.2]) = some r := Option.bind_eq_some_iff.1 h
set_option maxHeartbeats 8000000 in
set_option maxRecDepth 100000 in
theorem expr_written.calls (k : Nat) (A0 : Option Addr) (c0 : Nat) (l0 : List S38) (r1 : ByteArray) (r2 : Int) (w : World) (hr0 : Kd.C k38 w A0 l0.length l0) (hc0 : l0.length ≤ c0) (h : expr_written.f k l0 = some (r1, r2)) :
  Calls Tryz.prog 22 #[.slice A0 l0.length c0] w fun e w' => e = .returned (.tuple #[.string r1, .int .i64 r2]) ∧ Below w.heap.size w w' := by
 unfold expr_written.f at h
 obtain ⟨st, hs, h⟩ := Option.bind_eq_some_iff.1 h
 split at h
 case isFalse => cases h
 rename_i hl
 obtain ⟨hl0, hl1⟩ := hl
 obtain ⟨⟨TX, DP⟩, hw, h⟩ := Option.bind_eq_some_iff.1 h
 obtain ⟨rfl, rfl⟩ := Prod.mk.inj (Option.some.inj h)
 have HS := Aside0.mk hs
 have HL := Aside0.mk hw
 have HR0 := Aside0.mk (And.intro hr0 hc0)
 have HN := Aside0.mk (And.intro hl0 hl1)
 clear h hs hw hr0 hc0 hl0 hl1
 have mk := @run_makeMap Tryz.prog
 go_enter Tryz.func22, Tryz.ntmps22
 go_wp2_with (go_at_call 10; (with_reducible refine (expr_Starts.calls k A0 c0 l0 st _ HR0.out.1 HR0.out.2 HS.out).mono ?_); rintro e w1 ⟨v0, rfl, hR, hb⟩; obtain ⟨A1, c1, rfl, hc1, hC1⟩ := Kd.R_reads hR; have HC1 := Aside0.mk (And.intro hC1 hc1); have HB1 := Aside0.mk hb; clear hb hR hc1 hC1)
 have m0 := run_put (P := Tryz.prog) (W := w1.alloc (.cells #[.slice A0 l0.length c0, .slice A1 st.length c1, .slice none 0 0, .slice none 0 0] 64)) (t := 67) (r := w1.heap.size + 1) (es := #[]) (c := 0) 0 (.func (.func 35) #[] #[]) Tryz.underlying67 Tryz.underlying3 (by simp) rfl
 have m1 := run_put (P := Tryz.prog) (W := w1.alloc (.cells #[.slice A0 l0.length c0, .slice A1 st.length c1, .slice none 0 0, .slice none 0 0] 64)) (t := 67) (r := w1.heap.size + 1) (es := #[{ key := .int .i64 0, val := .func (.func 35) #[] #[], born := 0 }]) (c := 1) 1 (.func (.func 36) #[] #[]) Tryz.underlying67 Tryz.underlying3 (by simp) rfl
 have m2 := run_put (P := Tryz.prog) (W := w1.alloc (.cells #[.slice A0 l0.length c0, .slice A1 st.length c1, .slice none 0 0, .slice none 0 0] 64)) (t := 67) (r := w1.heap.size + 1) (es := #[{ key := .int .i64 0, val := .func (.func 35) #[] #[], born := 0 }, { key := .int .i64 1, val := .func (.func 36) #[] #[], born := 1 }]) (c := 2) 2 (.func (.func 37) #[] #[]) Tryz.underlying67 Tryz.underlying3 (by simp) rfl
 have m3 := run_put (P := Tryz.prog) (W := w1.alloc (.cells #[.slice A0 l0.length c0, .slice A1 st.length c1, .slice none 0 0, .slice none 0 0] 64)) (t := 67) (r := w1.heap.size + 1) (es := #[{ key := .int .i64 0, val := .func (.func 35) #[] #[], born := 0 }, { key := .int .i64 1, val := .func (.func 36) #[] #[], born := 1 }, { key := .int .i64 2, val := .func (.func 37) #[] #[], born := 2 }]) (c := 3) 3 (.func (.func 38) #[] #[]) Tryz.underlying67 Tryz.underlying3 (by simp) rfl
 have m4 := run_put (P := Tryz.prog) (W := w1.alloc (.cells #[.slice A0 l0.length c0, .slice A1 st.length c1, .slice none 0 0, .slice none 0 0] 64)) (t := 67) (r := w1.heap.size + 1) (es := #[{ key := .int .i64 0, val := .func (.func 35) #[] #[], born := 0 }, { key := .int .i64 1, val := .func (.func 36) #[] #[], born := 1 }, { key := .int .i64 2, val := .func (.func 37) #[] #[], born := 2 }, { key := .int .i64 3, val := .func (.func 38) #[] #[], born := 3 }]) (c := 4) 4 (.func (.func 39) #[] #[]) Tryz.underlying67 Tryz.underlying3 (by simp) rfl
 have m5 := run_put (P := Tryz.prog) (W := w1.alloc (.cells #[.slice A0 l0.length c0, .slice A1 st.length c1, .slice none 0 0, .slice none 0 0] 64)) (t := 67) (r := w1.heap.size + 1) (es := #[{ key := .int .i64 0, val := .func (.func 35) #[] #[], born := 0 }, { key := .int .i64 1, val := .func (.func 36) #[] #[], born := 1 }, { key := .int .i64 2, val := .func (.func 37) #[] #[], born := 2 }, { key := .int .i64 3, val := .func (.func 38) #[] #[], born := 3 }, { key := .int .i64 4, val := .func (.func 39) #[] #[], born := 4 }]) (c := 5) 5 (.func (.func 39) #[] #[]) Tryz.underlying67 Tryz.underlying3 (by simp) rfl
 have m6 := run_put (P := Tryz.prog) (W := w1.alloc (.cells #[.slice A0 l0.length c0, .slice A1 st.length c1, .slice none 0 0, .slice none 0 0] 64)) (t := 67) (r := w1.heap.size + 1) (es := #[{ key := .int .i64 0, val := .func (.func 35) #[] #[], born := 0 }, { key := .int .i64 1, val := .func (.func 36) #[] #[], born := 1 }, { key := .int .i64 2, val := .func (.func 37) #[] #[], born := 2 }, { key := .int .i64 3, val := .func (.func 38) #[] #[], born := 3 }, { key := .int .i64 4, val := .func (.func 39) #[] #[], born := 4 }, { key := .int .i64 5, val := .func (.func 39) #[] #[], born := 5 }]) (c := 6) 6 (.func (.func 40) #[] #[]) Tryz.underlying67 Tryz.underlying3 (by simp) rfl
 go_simp
 go_wp2
 obtain ⟨W0, hW0⟩ : ∃ W0, ((w1.alloc (.cells #[.slice A0 l0.length c0, .slice A1 st.length c1, .slice none 0 0, .slice none 0 0] 64)).alloc (.map fnM 7)) = W0 := ⟨_, rfl⟩
 have hW1 := hW0
 unfold fnM at hW1
 rw [hW1]
 have hL0 : WL w1 W0 w1.heap.size A0 l0.length c0 A1 st.length c1 [] [] (.slice none 0 0) (.slice none 0 0) := by
  rw [← hW0]
  exact ⟨alloc_old (alloc_new _ rfl) _, alloc_new _ (by simp), own_nil _ _ _ _, own_nil _ _ _ _, below_alloc (below_alloc (Below.refl _ _) _) _⟩
 have hz0 : w1.heap.size ≤ W0.heap.size := by rw [← hW0]; simp; omega
 obtain ⟨g, hg⟩ : ∃ g, w1.heap.size = g := ⟨_, rfl⟩
 have HC0 := Aside0.mk (show Kd.C k38 w1 A0 l0.length l0 ∧ l0.length ≤ c0 from ⟨Kd.C_below HR0.out.1 HB1.out, HR0.out.2⟩)
 rw [hg] at hL0 hz0 ⊢
 have HG := Aside0.mk hg.symm
 have HL0 := Aside0.mk hL0
 have HZ0 := Aside0.mk hz0
 clear hg hW0 hW1 hL0 hz0 m0 m1 m2 m3 m4 m5 m6 mk
 go_loopg [19] (l0.length) (fun kq v19 w' => ∃ (tx : List ByteArray) (dp : List Int) (vt vd : Value), v19 = .int .i64 (tx.length : Int) ∧ Aside0 (tx.length = dp.length ∧ tx.length + kq = l0.length) ∧ Aside0 (wLoop l0 st kq tx dp = some (TX, DP)) ∧ Aside0 (WL w1 w' g A0 l0.length c0 A1 st.length c1 tx dp vt vd) ∧ Aside0 (g ≤ w'.heap.size))
 case atStart => exact ⟨[], [], _, _, rfl, ⟨rfl, by simp⟩, HL, HL0, HZ0⟩
 case round =>
  clear HL HL0 HZ0
  obtain ⟨tx, dp, vt, vd, rfl, HJ0, HLL, HWL, HSZ⟩ := hrel
  cases gk with
  | succ k2 =>
   obtain ⟨⟨s1, n1⟩, hst, hnext⟩ := wLoop_lt HLL.out
   have HST0 := Aside0.mk hst
   have HNX := Aside0.mk hnext
   have hlt : tx.length < l0.length := by have := HJ0.out.2; omega
   have HJ := Aside0.mk (show tx.length ≤ 100000 ∧ dp.length ≤ 100000 by have := HJ0.out; have := HN.out.2; omega)
   have J0 := Aside0.mk (show (0 : Int) ≤ (tx.length : Int) ∧ (tx.length : Int) < (l0.length : Int) by omega)
   have t0 : decide (tx.length < l0.length) = true := decide_eq_true hlt
   have t1 : (tx.length : Int) < (l0.length : Int) := by omega
   have t2 : (tx.length : Int) ≤ 100000 := by have := HJ.out; omega
   obtain ⟨ad, rfl, hx0, hx1, hx2⟩ := at_T38 HC0.out.1 (tx.length : Int) (by omega) t1
   rw [Int.toNat_natCast] at hx0 hx1 hx2
   have HBW := Aside0.mk (show Below w1.heap.size w1 _ by have := HWL.out.2.2.2.2; rw [HG.out] at this; exact this)
   replace hx0 := pw_cell_below HBW.out hx0
   replace hx1 := pw_cell_below HBW.out hx1
   replace hx2 := pw_cell_below HBW.out hx2
   by_cases e0 : (rd_T38 l0 (tx.length : Int)).f0 = 0
   ·have h9 := HST0.out
    unfold wStep at h9
    rw [if_pos e0] at h9
    obtain ⟨rfl, rfl⟩ := Prod.mk.inj (Option.some.inj h9)
    rw [e0] at hx0
    obtain ⟨x1, hx1e⟩ : ∃ x1, (rd_T38 l0 (tx.length : Int)).f1 = x1 := ⟨_, rfl⟩
    obtain ⟨x2, hx2e⟩ : ∃ x2, (rd_T38 l0 (tx.length : Int)).f2 = x2 := ⟨_, rfl⟩
    rw [hx1e] at hx1
    rw [hx2e] at hx2
    have HL5 := Aside0.mk (WL.below HSZ.out HWL.out (below_alloc (Below.refl wr.heap.size wr) (.cells #[.int .i64 0, .string x1, .int .i64 x2] 38)))
    have HSZ5 := Aside0.mk (show g ≤ (wr.alloc (.cells #[.int .i64 0, .string x1, .int .i64 x2] 38)).heap.size by have := HSZ.out; simp; omega)
    have HWR5 := Aside0.mk (WL.wr HG.out HC0.out HC1.out HL5.out)
    have hl := run_get (W := wr.alloc (.cells #[.int .i64 0, .string x1, .int .i64 x2] 38)) (t := 67) (k := 0) (ok := false) (es := fnM) (c := 7) (i := 0) Tryz.underlying67 Tryz.underlying3 HL5.out.2.1 rfl
    clear h9 hlt hst hnext hx1e hx2e e0
    go_wp2_with (first | (go_at_call 35; (with_reducible refine (w_zero _ _ _).mono ?_); rintro e w6 ⟨rfl, hb6⟩; have HL6 := Aside0.mk (WL.below HSZ5.out HL5.out hb6); have q2 := WL.c2 HL6.out; have q3 := WL.c3 HL6.out; have HSZ6 := Aside0.mk (Nat.le_trans HSZ5.out hb6.size); clear hb6) | (at_builtin; refine app_tx ⟨#[48]⟩ rfl (.tmp 38) (.tmp 40) rfl Tryz.underlying56 info9w (by rfl) (by rfl) HL6.out HSZ6.out HJ.out.1 ?_; intro A7 c7 w7 q2' q3' f2' f3' hL7 hz7; have HL7 := Aside0.mk hL7; have HSZ7 := Aside0.mk hz7; clear hL7 hz7) | (at_builtin; refine app_dp 0 rfl (.tmp 48) (.tmp 50) rfl Tryz.underlying25 info3k (by rfl) Zz15 HL7.out Zz18 HJ.out.2 ?_; intro A8 c8 w8 q3'' f3'' hL8 hz8; have HL8 := Aside0.mk hL8; have HSZ8 := Aside0.mk hz8; clear hL8 hz8))
    go_roundg k2
    case measure => omega
    case rel => exact ⟨tx ++ [⟨#[48]⟩], dp ++ [0], _, _, by simp, ⟨by have := HJ0.out; simp; omega⟩, HNX, HL8, ⟨by have := HSZ8.out; simpa using this⟩⟩
   ·by_cases e1 : (rd_T38 l0 (tx.length : Int)).f0 = 1
    ·have h9 := HST0.out
     unfold wStep at h9
     rw [if_neg e0, if_pos e1] at h9
     obtain ⟨rfl, rfl⟩ := Prod.mk.inj (Option.some.inj h9)
     rw [e1] at hx0
     obtain ⟨x1, hx1e⟩ : ∃ x1, (rd_T38 l0 (tx.length : Int)).f1 = x1 := ⟨_, rfl⟩
     obtain ⟨x2, hx2e⟩ : ∃ x2, (rd_T38 l0 (tx.length : Int)).f2 = x2 := ⟨_, rfl⟩
     rw [hx1e] at hx1
     rw [hx2e] at hx2
     have HL5 := Aside0.mk (WL.below HSZ.out HWL.out (below_alloc (Below.refl wr.heap.size wr) (.cells #[.int .i64 1, .string x1, .int .i64 x2] 38)))
     have HSZ5 := Aside0.mk (show g ≤ (wr.alloc (.cells #[.int .i64 1, .string x1, .int .i64 x2] 38)).heap.size by have := HSZ.out; simp; omega)
     have HWR5 := Aside0.mk (WL.wr HG.out HC0.out HC1.out HL5.out)
     have hl := run_get (W := wr.alloc (.cells #[.int .i64 1, .string x1, .int .i64 x2] 38)) (t := 67) (k := 1) (ok := false) (es := fnM) (c := 7) (i := 1) Tryz.underlying67 Tryz.underlying3 HL5.out.2.1 rfl
     clear h9 hlt hst hnext hx1e hx2e e0 e1
     go_wp2_with (first | (go_at_call 36; (with_reducible refine (w_one _ _ _).mono ?_); rintro e w6 ⟨rfl, hb6⟩; have HL6 := Aside0.mk (WL.below HSZ5.out HL5.out hb6); have q2 := WL.c2 HL6.out; have q3 := WL.c3 HL6.out; have HSZ6 := Aside0.mk (Nat.le_trans HSZ5.out hb6.size); clear hb6) | (at_builtin; refine app_tx ⟨#[49]⟩ rfl (.tmp 38) (.tmp 40) rfl Tryz.underlying56 info9w (by rfl) (by rfl) HL6.out HSZ6.out HJ.out.1 ?_; intro A7 c7 w7 q2' q3' f2' f3' hL7 hz7; have HL7 := Aside0.mk hL7; have HSZ7 := Aside0.mk hz7; clear hL7 hz7) | (at_builtin; refine app_dp 0 rfl (.tmp 48) (.tmp 50) rfl Tryz.underlying25 info3k (by rfl) Zz15 HL7.out Zz18 HJ.out.2 ?_; intro A8 c8 w8 q3'' f3'' hL8 hz8; have HL8 := Aside0.mk hL8; have HSZ8 := Aside0.mk hz8; clear hL8 hz8))
     go_roundg k2
     case measure => omega
     case rel => exact ⟨tx ++ [⟨#[49]⟩], dp ++ [0], _, _, by simp, ⟨by have := HJ0.out; simp; omega⟩, HNX, HL8, ⟨by have := HSZ8.out; simpa using this⟩⟩
    ·by_cases e2 : (rd_T38 l0 (tx.length : Int)).f0 = 2
     ·have h9 := HST0.out
      unfold wStep at h9
      rw [if_neg e0, if_neg e1, if_pos e2] at h9
      obtain ⟨hs1, rfl⟩ := Prod.mk.inj (Option.some.inj h9)
      rw [e2] at hx0
      obtain ⟨x1, hx1e⟩ : ∃ x1, (rd_T38 l0 (tx.length : Int)).f1 = x1 := ⟨_, rfl⟩
      obtain ⟨x2, hx2e⟩ : ∃ x2, (rd_T38 l0 (tx.length : Int)).f2 = x2 := ⟨_, rfl⟩
      rw [hx1e] at hx1 hs1
      rw [hx2e] at hx2
      subst hs1
      have HX1E := Aside0.mk hx1e
      have HL5 := Aside0.mk (WL.below HSZ.out HWL.out (below_alloc (Below.refl wr.heap.size wr) (.cells #[.int .i64 2, .string x1, .int .i64 x2] 38)))
      have HSZ5 := Aside0.mk (show g ≤ (wr.alloc (.cells #[.int .i64 2, .string x1, .int .i64 x2] 38)).heap.size by have := HSZ.out; simp; omega)
      have HWR5 := Aside0.mk (WL.wr HG.out HC0.out HC1.out HL5.out)
      have hl := run_get (W := wr.alloc (.cells #[.int .i64 2, .string x1, .int .i64 x2] 38)) (t := 67) (k := 2) (ok := false) (es := fnM) (c := 7) (i := 2) Tryz.underlying67 Tryz.underlying3 HL5.out.2.1 rfl
      clear h9 hlt hst hnext hx1e hx2e e0 e1 e2
      go_wp2_with (first | (go_at_call 37; (with_reducible refine (w_name2 _ g l0 st tx dp (tx.length : Int) x1 HWR5.out J0.out.1 J0.out.2 HX1E.out).mono ?_); rintro e w6 ⟨rfl, hb6⟩; have HL6 := Aside0.mk (WL.below HSZ5.out HL5.out hb6); have q2 := WL.c2 HL6.out; have q3 := WL.c3 HL6.out; have HSZ6 := Aside0.mk (Nat.le_trans HSZ5.out hb6.size); clear hb6) | (at_builtin; refine app_tx x1 rfl (.tmp 38) (.tmp 40) rfl Tryz.underlying56 info9w (by rfl) (by rfl) HL6.out HSZ6.out HJ.out.1 ?_; intro A7 c7 w7 q2' q3' f2' f3' hL7 hz7; have HL7 := Aside0.mk hL7; have HSZ7 := Aside0.mk hz7; clear hL7 hz7) | (at_builtin; refine app_dp 0 rfl (.tmp 48) (.tmp 50) rfl Tryz.underlying25 info3k (by rfl) Zz15 HL7.out Zz18 HJ.out.2 ?_; intro A8 c8 w8 q3'' f3'' hL8 hz8; have HL8 := Aside0.mk hL8; have HSZ8 := Aside0.mk hz8; clear hL8 hz8))
      go_roundg k2
      case measure => omega
      case rel => exact ⟨tx ++ [x1], dp ++ [0], _, _, by simp, ⟨by have := HJ0.out; simp; omega⟩, HNX, HL8, ⟨by have := HSZ8.out; simpa using this⟩⟩
     ·by_cases e3 : (rd_T38 l0 (tx.length : Int)).f0 = 3
      ·have h9 := HST0.out
       unfold wStep at h9
       rw [if_neg e0, if_neg e1, if_neg e2, if_pos e3] at h9
       have HST := Aside0.mk h9
       rw [e3] at hx0
       obtain ⟨x1, hx1e⟩ : ∃ x1, (rd_T38 l0 (tx.length : Int)).f1 = x1 := ⟨_, rfl⟩
       obtain ⟨x2, hx2e⟩ : ∃ x2, (rd_T38 l0 (tx.length : Int)).f2 = x2 := ⟨_, rfl⟩
       rw [hx1e] at hx1
       rw [hx2e] at hx2
       have HL5 := Aside0.mk (WL.below HSZ.out HWL.out (below_alloc (Below.refl wr.heap.size wr) (.cells #[.int .i64 3, .string x1, .int .i64 x2] 38)))
       have HSZ5 := Aside0.mk (show g ≤ (wr.alloc (.cells #[.int .i64 3, .string x1, .int .i64 x2] 38)).heap.size by have := HSZ.out; simp; omega)
       have HWR5 := Aside0.mk (WL.wr HG.out HC0.out HC1.out HL5.out)
       have hl := run_get (W := wr.alloc (.cells #[.int .i64 3, .string x1, .int .i64 x2] 38)) (t := 67) (k := 3) (ok := false) (es := fnM) (c := 7) (i := 3) Tryz.underlying67 Tryz.underlying3 HL5.out.2.1 rfl
       clear h9 hlt hst hnext hx1e hx2e e0 e1 e2 e3
       go_wp2_with (first | (go_at_call 38; (with_reducible refine (w_call _ g l0 st tx dp (tx.length : Int) s1 n1 HWR5.out HST.out).mono ?_); rintro e w6 ⟨rfl, hb6⟩; have HL6 := Aside0.mk (WL.below HSZ5.out HL5.out hb6); have q2 := WL.c2 HL6.out; have q3 := WL.c3 HL6.out; have HSZ6 := Aside0.mk (Nat.le_trans HSZ5.out hb6.size); clear hb6) | (at_builtin; refine app_tx s1 rfl (.tmp 38) (.tmp 40) rfl Tryz.underlying56 info9w (by rfl) (by rfl) HL6.out HSZ6.out HJ.out.1 ?_; intro A7 c7 w7 q2' q3' f2' f3' hL7 hz7; have HL7 := Aside0.mk hL7; have HSZ7 := Aside0.mk hz7; clear hL7 hz7) | (at_builtin; refine app_dp n1 rfl (.tmp 48) (.tmp 50) rfl Tryz.underlying25 info3k (by rfl) Zz15 HL7.out Zz18 HJ.out.2 ?_; intro A8 c8 w8 q3'' f3'' hL8 hz8; have HL8 := Aside0.mk hL8; have HSZ8 := Aside0.mk hz8; clear hL8 hz8))
       go_roundg k2
       case measure => omega
       case rel => exact ⟨tx ++ [s1], dp ++ [n1], _, _, by simp, ⟨by have := HJ0.out; simp; omega⟩, HNX, HL8, ⟨by have := HSZ8.out; simpa using this⟩⟩
      ·by_cases e4 : (rd_T38 l0 (tx.length : Int)).f0 = 4
       ·have h9 := HST0.out
        unfold wStep at h9
        rw [if_neg e0, if_neg e1, if_neg e2, if_neg e3, if_pos e4] at h9
        have HST := Aside0.mk h9
        rw [e4] at hx0
        obtain ⟨x1, hx1e⟩ : ∃ x1, (rd_T38 l0 (tx.length : Int)).f1 = x1 := ⟨_, rfl⟩
        obtain ⟨x2, hx2e⟩ : ∃ x2, (rd_T38 l0 (tx.length : Int)).f2 = x2 := ⟨_, rfl⟩
        rw [hx1e] at hx1
        rw [hx2e] at hx2
        have HL5 := Aside0.mk (WL.below HSZ.out HWL.out (below_alloc (Below.refl wr.heap.size wr) (.cells #[.int .i64 4, .string x1, .int .i64 x2] 38)))
        have HSZ5 := Aside0.mk (show g ≤ (wr.alloc (.cells #[.int .i64 4, .string x1, .int .i64 x2] 38)).heap.size by have := HSZ.out; simp; omega)
        have HWR5 := Aside0.mk (WL.wr HG.out HC0.out HC1.out HL5.out)
        have hl := run_get (W := wr.alloc (.cells #[.int .i64 4, .string x1, .int .i64 x2] 38)) (t := 67) (k := 4) (ok := false) (es := fnM) (c := 7) (i := 4) Tryz.underlying67 Tryz.underlying3 HL5.out.2.1 rfl
        clear h9 hlt hst hnext hx1e hx2e e0 e1 e2 e3 e4
        go_wp2_with (first | (go_at_call 39; (with_reducible refine (w_two _ g l0 st tx dp (tx.length : Int) s1 n1 HWR5.out HST.out).mono ?_); rintro e w6 ⟨rfl, hb6⟩; have HL6 := Aside0.mk (WL.below HSZ5.out HL5.out hb6); have q2 := WL.c2 HL6.out; have q3 := WL.c3 HL6.out; have HSZ6 := Aside0.mk (Nat.le_trans HSZ5.out hb6.size); clear hb6) | (at_builtin; refine app_tx s1 rfl (.tmp 38) (.tmp 40) rfl Tryz.underlying56 info9w (by rfl) (by rfl) HL6.out HSZ6.out HJ.out.1 ?_; intro A7 c7 w7 q2' q3' f2' f3' hL7 hz7; have HL7 := Aside0.mk hL7; have HSZ7 := Aside0.mk hz7; clear hL7 hz7) | (at_builtin; refine app_dp n1 rfl (.tmp 48) (.tmp 50) rfl Tryz.underlying25 info3k (by rfl) Zz15 HL7.out Zz18 HJ.out.2 ?_; intro A8 c8 w8 q3'' f3'' hL8 hz8; have HL8 := Aside0.mk hL8; have HSZ8 := Aside0.mk hz8; clear hL8 hz8))
        go_roundg k2
        case measure => omega
        case rel => exact ⟨tx ++ [s1], dp ++ [n1], _, _, by simp, ⟨by have := HJ0.out; simp; omega⟩, HNX, HL8, ⟨by have := HSZ8.out; simpa using this⟩⟩
       ·by_cases e5 : (rd_T38 l0 (tx.length : Int)).f0 = 5
        ·have h9 := HST0.out
         unfold wStep at h9
         rw [if_neg e0, if_neg e1, if_neg e2, if_neg e3, if_neg e4, if_pos e5] at h9
         have HST := Aside0.mk h9
         rw [e5] at hx0
         obtain ⟨x1, hx1e⟩ : ∃ x1, (rd_T38 l0 (tx.length : Int)).f1 = x1 := ⟨_, rfl⟩
         obtain ⟨x2, hx2e⟩ : ∃ x2, (rd_T38 l0 (tx.length : Int)).f2 = x2 := ⟨_, rfl⟩
         rw [hx1e] at hx1
         rw [hx2e] at hx2
         have HL5 := Aside0.mk (WL.below HSZ.out HWL.out (below_alloc (Below.refl wr.heap.size wr) (.cells #[.int .i64 5, .string x1, .int .i64 x2] 38)))
         have HSZ5 := Aside0.mk (show g ≤ (wr.alloc (.cells #[.int .i64 5, .string x1, .int .i64 x2] 38)).heap.size by have := HSZ.out; simp; omega)
         have HWR5 := Aside0.mk (WL.wr HG.out HC0.out HC1.out HL5.out)
         have hl := run_get (W := wr.alloc (.cells #[.int .i64 5, .string x1, .int .i64 x2] 38)) (t := 67) (k := 5) (ok := false) (es := fnM) (c := 7) (i := 5) Tryz.underlying67 Tryz.underlying3 HL5.out.2.1 rfl
         clear h9 hlt hst hnext hx1e hx2e e0 e1 e2 e3 e4 e5
         go_wp2_with (first | (go_at_call 39; (with_reducible refine (w_two _ g l0 st tx dp (tx.length : Int) s1 n1 HWR5.out HST.out).mono ?_); rintro e w6 ⟨rfl, hb6⟩; have HL6 := Aside0.mk (WL.below HSZ5.out HL5.out hb6); have q2 := WL.c2 HL6.out; have q3 := WL.c3 HL6.out; have HSZ6 := Aside0.mk (Nat.le_trans HSZ5.out hb6.size); clear hb6) | (at_builtin; refine app_tx s1 rfl (.tmp 38) (.tmp 40) rfl Tryz.underlying56 info9w (by rfl) (by rfl) HL6.out HSZ6.out HJ.out.1 ?_; intro A7 c7 w7 q2' q3' f2' f3' hL7 hz7; have HL7 := Aside0.mk hL7; have HSZ7 := Aside0.mk hz7; clear hL7 hz7) | (at_builtin; refine app_dp n1 rfl (.tmp 48) (.tmp 50) rfl Tryz.underlying25 info3k (by rfl) Zz15 HL7.out Zz18 HJ.out.2 ?_; intro A8 c8 w8 q3'' f3'' hL8 hz8; have HL8 := Aside0.mk hL8; have HSZ8 := Aside0.mk hz8; clear hL8 hz8))
         go_roundg k2
         case measure => omega
         case rel => exact ⟨tx ++ [s1], dp ++ [n1], _, _, by simp, ⟨by have := HJ0.out; simp; omega⟩, HNX, HL8, ⟨by have := HSZ8.out; simpa using this⟩⟩
        ·by_cases e6 : (rd_T38 l0 (tx.length : Int)).f0 = 6
         ·have h9 := HST0.out
          unfold wStep at h9
          rw [if_neg e0, if_neg e1, if_neg e2, if_neg e3, if_neg e4, if_neg e5, if_pos e6] at h9
          have HST := Aside0.mk h9
          rw [e6] at hx0
          obtain ⟨x1, hx1e⟩ : ∃ x1, (rd_T38 l0 (tx.length : Int)).f1 = x1 := ⟨_, rfl⟩
          obtain ⟨x2, hx2e⟩ : ∃ x2, (rd_T38 l0 (tx.length : Int)).f2 = x2 := ⟨_, rfl⟩
          rw [hx1e] at hx1
          rw [hx2e] at hx2
          have HL5 := Aside0.mk (WL.below HSZ.out HWL.out (below_alloc (Below.refl wr.heap.size wr) (.cells #[.int .i64 6, .string x1, .int .i64 x2] 38)))
          have HSZ5 := Aside0.mk (show g ≤ (wr.alloc (.cells #[.int .i64 6, .string x1, .int .i64 x2] 38)).heap.size by have := HSZ.out; simp; omega)
          have HWR5 := Aside0.mk (WL.wr HG.out HC0.out HC1.out HL5.out)
          have hl := run_get (W := wr.alloc (.cells #[.int .i64 6, .string x1, .int .i64 x2] 38)) (t := 67) (k := 6) (ok := false) (es := fnM) (c := 7) (i := 6) Tryz.underlying67 Tryz.underlying3 HL5.out.2.1 rfl
          clear h9 hlt hst hnext hx1e hx2e e0 e1 e2 e3 e4 e5 e6
          go_wp2_with (first | (go_at_call 40; (with_reducible refine (w_proj _ g l0 st tx dp (tx.length : Int) s1 n1 HWR5.out HST.out).mono ?_); rintro e w6 ⟨rfl, hb6⟩; have HL6 := Aside0.mk (WL.below HSZ5.out HL5.out hb6); have q2 := WL.c2 HL6.out; have q3 := WL.c3 HL6.out; have HSZ6 := Aside0.mk (Nat.le_trans HSZ5.out hb6.size); clear hb6) | (at_builtin; refine app_tx s1 rfl (.tmp 38) (.tmp 40) rfl Tryz.underlying56 info9w (by rfl) (by rfl) HL6.out HSZ6.out HJ.out.1 ?_; intro A7 c7 w7 q2' q3' f2' f3' hL7 hz7; have HL7 := Aside0.mk hL7; have HSZ7 := Aside0.mk hz7; clear hL7 hz7) | (at_builtin; refine app_dp n1 rfl (.tmp 48) (.tmp 50) rfl Tryz.underlying25 info3k (by rfl) Zz15 HL7.out Zz18 HJ.out.2 ?_; intro A8 c8 w8 q3'' f3'' hL8 hz8; have HL8 := Aside0.mk hL8; have HSZ8 := Aside0.mk hz8; clear hL8 hz8))
          go_roundg k2
          case measure => omega
          case rel => exact ⟨tx ++ [s1], dp ++ [n1], _, _, by simp, ⟨by have := HJ0.out; simp; omega⟩, HNX, HL8, ⟨by have := HSZ8.out; simpa using this⟩⟩
         ·exfalso
          have h9 := HST0.out
          unfold wStep at h9
          rw [if_neg e0, if_neg e1, if_neg e2, if_neg e3, if_neg e4, if_neg e5, if_neg e6] at h9
          cases h9
  | zero =>
   obtain ⟨rfl, rfl⟩ := Prod.mk.inj (Option.some.inj (show some (tx, dp) = some (TX, DP) from HLL.out))
   obtain ⟨n, hn⟩ : ∃ n, l0.length = n + 1 := ⟨l0.length - 1, by have := HN.out; omega⟩
   have ht : tx.length = n + 1 := by have := HJ0.out; omega
   have hd : dp.length = n + 1 := by have := HJ0.out; omega
   have t0 : decide (tx.length < l0.length) = false := decide_eq_false (by omega)
   have iw : wrap64 ((l0.length : Int) - 1) = (n : Int) := by have := HN.out; unfold wrap64; omega
   have iw2 : (l0.length : Int) - 1 = (n : Int) := by omega
   obtain ⟨A2, c2, e2, l2, C2⟩ := Kd.R_reads (Kd.R_of_own (h1 := fun _ => rfl) (ok := fun _ => True) HWL.out.2.2.1 (fun _ _ => trivial))
   obtain ⟨A3, c3, e3, l3, C3⟩ := Kd.R_reads (Kd.R_of_own (h1 := fun _ => rfl) (ok := fun _ => True) HWL.out.2.2.2.1 (fun _ _ => trivial))
   have C2' : Kd.C Kd.string _ A2 tx.length tx := C2
   have C3' : Kd.C (Kd.int .i64) _ A3 dp.length dp := C3
   obtain ⟨adt, rfl, hxt⟩ := Kd.at_string C2' (n : Int) (by omega) (by omega)
   obtain ⟨add, rfl, hxd⟩ := Kd.at_int C3' (n : Int) (by omega) (by omega)
   rw [Int.toNat_natCast] at hxt hxd
   have q2 := WL.c2 HWL.out
   have q3 := WL.c3 HWL.out
   rw [e2] at q2
   rw [e3] at q3
   have HFB := Aside0.mk (show Below w.heap.size w _ from HB1.out.trans ((show Below w1.heap.size w1 _ by have := HWL.out.2.2.2.2; rw [HG.out] at this; exact this).mono HB1.out.size))
   have i1 : (n : Int) < (tx.length : Int) := by omega
   have i2 : (n : Int) < (dp.length : Int) := by omega
   have i0 : (0 : Int) ≤ (n : Int) := by omega
   have HIW2 := Aside0.mk iw2
   have HX := Aside0.mk hxt
   have HY := Aside0.mk hxd
   clear hn ht hd iw2 C2 C3 C2' C3' l2 l3 e2 e3 hxt hxd
   go_wp2
   refine start_ (n := 20) (S := fun w' => w'.cell? ⟨g, 2, none⟩ = some (.slice (some adt) tx.length c2) ∧ w'.cell? (adt.add n) = some (.string (rdOf ByteArray.empty tx (n : Int))) ∧ w'.cell? ⟨g, 3, none⟩ = some (.slice (some add) dp.length c3) ∧ w'.cell? (add.add n) = some (.int .i64 (rd dp (n : Int)))) (ds := []) #[false, false, false, false, false, false, false, false, false, false, false, false, false, false, false, false, false, false, false, false] (by kernel_rfl) rfl rfl ⟨q2, HX.out, q3, HY.out⟩ (fun hHeld => ?_)
   refine pure_ (i := 0) (N := some 55) (v := ?_) (a' := ?_) #[true, false, false, false, false, false, false, false, false, false, false, false, false, false, false, false, false, false, false, false] rfl rfl (by kernel_rfl) (fun _ _ _ h => h) (Or.inl ⟨by rfl, ?_⟩) ?_ ?_
   rotate_left
   ·intro w'
    go_simp
    with_reducible rfl
   rotate_left
   ·simp only [Act.put, List.setIfInBounds_toArray, List.set_cons_zero, List.set_cons_succ, i64_w, i32_w]
    rfl
   refine pure_ (i := 1) (N := some 56) (v := ?_) (a' := ?_) #[true, true, false, false, false, false, false, false, false, false, false, false, false, false, false, false, false, false, false, false] rfl rfl (by kernel_rfl) (fun _ _ _ h => h) (Or.inl ⟨by rfl, ?_⟩) ?_ ?_
   rotate_left
   ·intro w'
    go_simp
    with_reducible rfl
   rotate_left
   ·simp only [Act.put, List.setIfInBounds_toArray, List.set_cons_zero, List.set_cons_succ, i64_w, i32_w]
    rfl
   refine pure_ (i := 2) (N := some 57) (v := ?_) (a' := ?_) #[true, true, true, false, false, false, false, false, false, false, false, false, false, false, false, false, false, false, false, false] rfl rfl (by kernel_rfl) (fun _ _ _ h => h) (Or.inl ⟨by rfl, ?_⟩) ?_ ?_
   rotate_left
   ·intro w'
    go_simp
    with_reducible rfl
   rotate_left
   ·simp only [Act.put, List.setIfInBounds_toArray, List.set_cons_zero, List.set_cons_succ, i64_w, i32_w]
    rfl
   refine pure_ (i := 4) (N := some 59) (v := ?_) (a' := ?_) #[true, true, true, false, true, false, false, false, false, false, false, false, false, false, false, false, false, false, false, false] rfl rfl (by kernel_rfl) (fun _ _ _ h => h) (Or.inl ⟨by rfl, ?_⟩) ?_ ?_
   rotate_left
   ·intro w'
    go_simp
    with_reducible rfl
   rotate_left
   ·simp only [Act.put, List.setIfInBounds_toArray, List.set_cons_zero, List.set_cons_succ, i64_w, i32_w]
    rfl
   refine pure_ (i := 5) (N := some 60) (v := ?_) (a' := ?_) #[true, true, true, false, true, true, false, false, false, false, false, false, false, false, false, false, false, false, false, false] rfl rfl (by kernel_rfl) (fun _ _ _ h => h) (Or.inl ⟨by rfl, ?_⟩) ?_ ?_
   rotate_left
   ·intro w'
    go_simp
    with_reducible rfl
   rotate_left
   ·simp only [Act.put, List.setIfInBounds_toArray, List.set_cons_zero, List.set_cons_succ, i64_w, i32_w]
    rfl
   refine pure_ (i := 6) (N := some 61) (v := ?_) (a' := ?_) #[true, true, true, false, true, true, true, false, false, false, false, false, false, false, false, false, false, false, false, false] rfl rfl (by kernel_rfl) (fun _ _ _ h => h) (Or.inl ⟨by rfl, ?_⟩) ?_ ?_
   rotate_left
   ·intro w'
    go_simp
    with_reducible rfl
   rotate_left
   ·simp only [Act.put, List.setIfInBounds_toArray, List.set_cons_zero, List.set_cons_succ, i64_w, i32_w]
    rfl
   refine pure_ (i := 9) (N := some 64) (v := ?_) (a' := ?_) #[true, true, true, false, true, true, true, false, false, true, false, false, false, false, false, false, false, false, false, false] rfl rfl (by kernel_rfl) (fun _ _ _ h => h) (Or.inl ⟨by rfl, ?_⟩) ?_ ?_
   rotate_left
   ·intro w'
    go_simp
    with_reducible rfl
   rotate_left
   ·simp only [Act.put, List.setIfInBounds_toArray, List.set_cons_zero, List.set_cons_succ, i64_w, i32_w]
    rfl
   refine pure_ (i := 10) (N := some 65) (v := ?_) (a' := ?_) #[true, true, true, false, true, true, true, false, false, true, true, false, false, false, false, false, false, false, false, false] rfl rfl (by kernel_rfl) (fun _ _ _ h => h) (Or.inl ⟨by rfl, ?_⟩) ?_ ?_
   rotate_left
   ·intro w'
    go_simp
    with_reducible rfl
   rotate_left
   ·simp only [Act.put, List.setIfInBounds_toArray, List.set_cons_zero, List.set_cons_succ, i64_w, i32_w]
    rfl
   refine pure_ (i := 11) (N := some 66) (v := ?_) (a' := ?_) #[true, true, true, false, true, true, true, false, false, true, true, true, false, false, false, false, false, false, false, false] rfl rfl (by kernel_rfl) (fun _ _ _ h => h) (Or.inl ⟨by rfl, ?_⟩) ?_ ?_
   rotate_left
   ·intro w'
    go_simp
    with_reducible rfl
   rotate_left
   ·simp only [Act.put, List.setIfInBounds_toArray, List.set_cons_zero, List.set_cons_succ, i64_w, i32_w]
    rfl
   refine pure_ (i := 13) (N := some 68) (v := ?_) (a' := ?_) #[true, true, true, false, true, true, true, false, false, true, true, true, false, true, false, false, false, false, false, false] rfl rfl (by kernel_rfl) (fun _ _ _ h => h) (Or.inl ⟨by rfl, ?_⟩) ?_ ?_
   rotate_left
   ·intro w'
    go_simp
    with_reducible rfl
   rotate_left
   ·simp only [Act.put, List.setIfInBounds_toArray, List.set_cons_zero, List.set_cons_succ, i64_w, i32_w]
    rfl
   refine pure_ (i := 14) (N := some 69) (v := ?_) (a' := ?_) #[true, true, true, false, true, true, true, false, false, true, true, true, false, true, true, false, false, false, false, false] rfl rfl (by kernel_rfl) (fun _ _ _ h => h) (Or.inl ⟨by rfl, ?_⟩) ?_ ?_
   rotate_left
   ·intro w'
    go_simp
    with_reducible rfl
   rotate_left
   ·simp only [Act.put, List.setIfInBounds_toArray, List.set_cons_zero, List.set_cons_succ, i64_w, i32_w]
    rfl
   refine pure_ (i := 15) (N := some 70) (v := ?_) (a' := ?_) #[true, true, true, false, true, true, true, false, false, true, true, true, false, true, true, true, false, false, false, false] rfl rfl (by kernel_rfl) (fun _ _ _ h => h) (Or.inl ⟨by rfl, ?_⟩) ?_ ?_
   rotate_left
   ·intro w'
    go_simp
    with_reducible rfl
   rotate_left
   ·simp only [Act.put, List.setIfInBounds_toArray, List.set_cons_zero, List.set_cons_succ, i64_w, i32_w]
    rfl
   refine take_ (i := 3) (N := some 58) (v := ?_) (a' := ?_) #[true, true, true, true, true, true, true, false, false, true, true, true, false, true, true, true, false, false, false, false] rfl rfl (by kernel_rfl) (fun _ _ _ h => h) (Or.inl ⟨by rfl, ?_⟩) hHeld ?_ ?_
   rotate_left
   ·rintro w' ⟨s0, s1, s2, s3⟩
    go_simp
    with_reducible rfl
   rotate_left
   ·simp only [Act.put, List.setIfInBounds_toArray, List.set_cons_zero, List.set_cons_succ, i64_w, i32_w]
    rfl
   refine pure_ (i := 7) (N := some 62) (v := ?_) (a' := ?_) #[true, true, true, true, true, true, true, true, false, true, true, true, false, true, true, true, false, false, false, false] rfl rfl (by kernel_rfl) (fun _ _ _ h => h) (Or.inl ⟨by rfl, ?_⟩) ?_ ?_
   rotate_left
   ·intro w'
    go_simp
    with_reducible rfl
   rotate_left
   ·simp only [Act.put, List.setIfInBounds_toArray, List.set_cons_zero, List.set_cons_succ, i64_w, i32_w]
    rfl
   refine take_ (i := 8) (N := some 63) (v := ?_) (a' := ?_) #[true, true, true, true, true, true, true, true, true, true, true, true, false, true, true, true, false, false, false, false] rfl rfl (by kernel_rfl) (fun _ _ _ h => h) (Or.inl ⟨by rfl, ?_⟩) hHeld ?_ ?_
   rotate_left
   ·rintro w' ⟨s0, s1, s2, s3⟩
    go_simp
    with_reducible rfl
   rotate_left
   ·simp only [Act.put, List.setIfInBounds_toArray, List.set_cons_zero, List.set_cons_succ, i64_w, i32_w]
    rfl
   refine pure_ (i := 18) (N := some 2) (v := ?_) (a' := ?_) #[true, true, true, true, true, true, true, true, true, true, true, true, false, true, true, true, false, false, true, false] rfl rfl (by kernel_rfl) (fun _ _ _ h => h) (Or.inl ⟨by rfl, ?_⟩) ?_ ?_
   rotate_left
   ·intro w'
    go_simp
    with_reducible rfl
   rotate_left
   ·simp only [Act.put, List.setIfInBounds_toArray, List.set_cons_zero, List.set_cons_succ, i64_w, i32_w]
    rfl
   refine take_ (i := 12) (N := some 67) (v := ?_) (a' := ?_) #[true, true, true, true, true, true, true, true, true, true, true, true, true, true, true, true, false, false, true, false] rfl rfl (by kernel_rfl) (fun _ _ _ h => h) (Or.inl ⟨by rfl, ?_⟩) hHeld ?_ ?_
   rotate_left
   ·rintro w' ⟨s0, s1, s2, s3⟩
    go_simp
    with_reducible rfl
   rotate_left
   ·simp only [Act.put, List.setIfInBounds_toArray, List.set_cons_zero, List.set_cons_succ, i64_w, i32_w]
    rfl
   refine pure_ (i := 16) (N := some 71) (v := ?_) (a' := ?_) #[true, true, true, true, true, true, true, true, true, true, true, true, true, true, true, true, true, false, true, false] rfl rfl (by kernel_rfl) (fun _ _ _ h => h) (Or.inl ⟨by rfl, ?_⟩) ?_ ?_
   rotate_left
   ·intro w'
    go_simp
    with_reducible rfl
   rotate_left
   ·simp only [Act.put, List.setIfInBounds_toArray, List.set_cons_zero, List.set_cons_succ, i64_w, i32_w]
    rfl
   refine take_ (i := 17) (N := some 72) (v := ?_) (a' := ?_) #[true, true, true, true, true, true, true, true, true, true, true, true, true, true, true, true, true, true, true, false] rfl rfl (by kernel_rfl) (fun _ _ _ h => h) (Or.inl ⟨by rfl, ?_⟩) hHeld ?_ ?_
   rotate_left
   ·rintro w' ⟨s0, s1, s2, s3⟩
    go_simp
    with_reducible rfl
   rotate_left
   ·simp only [Act.put, List.setIfInBounds_toArray, List.set_cons_zero, List.set_cons_succ, i64_w, i32_w]
    rfl
   refine pure_ (i := 19) (N := some 3) (v := ?_) (a' := ?_) #[true, true, true, true, true, true, true, true, true, true, true, true, true, true, true, true, true, true, true, true] rfl rfl (by kernel_rfl) (fun _ _ _ h => h) (Or.inl ⟨by rfl, ?_⟩) ?_ ?_
   rotate_left
   ·intro w'
    go_simp
    with_reducible rfl
   rotate_left
   ·simp only [Act.put, List.setIfInBounds_toArray, List.set_cons_zero, List.set_cons_succ, i64_w, i32_w]
    rfl
   refine done_ (by kernel_rfl) ?_
   go_wp2
   go_ret2
   exact ⟨by rw [HIW2.out]; rfl, HFB.out.drew⟩
end Go.Proofs.YtniaooodlccmcaaGreatDoor.Q

