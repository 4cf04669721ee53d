import Derived.Test.YtniaooodlccmcaaGreatDoorDz
import Derived.Test.YtniaooodlccmcaaGreatDoorQx0
import Derived.Test.YtniaooodlccmcaaGreatDoorQx2
import Derived.Test.YtniaooodlccmcaaGreatDoorQx7
namespace Go.Proofs.YtniaooodlccmcaaGreatDoor.Q
open Go.RowKit Go.Proofs.YtniaooodlccmcaaGreatDoorW.PrintWords Go.Proofs.YtniaooodlccmcaaGreatDoorW.PrintLast Go.Proofs.YtniaooodlccmcaaGreatDoorW.PrintMore
attribute [local go_sem] max2_int min2_int max_two min_two max_three min_three max_four min_four
set_option linter.unusedVariables false
set_option linter.unusedSimpArgs false
structure S51 where
 f0 : S38
 f1 : ByteArray
theorem info38r : (Tryz.prog.info? 38).map (fun i => (i.zero, i.size, i.bytes)) = some (some (.agg #[(.int .i64 0), (.string ⟨#[]⟩), (.int .i64 0)]), 3, 32) := by kernel_rfl
theorem info51r : (Tryz.prog.info? 51).map (fun i => (i.zero, i.size, i.bytes)) = some (some (.agg #[(.int .i64 0), (.string ⟨#[]⟩), (.int .i64 0), (.string ⟨#[]⟩)]), 4, 48) := by kernel_rfl
def cell38 (x : S38) : List Value := [.int .i64 x.f0, .string x.f1, .int .i64 x.f2]
def cell51 (x : S51) : List Value := [.int .i64 x.f0.f0, .string x.f0.f1, .int .i64 x.f0.f2, .string x.f1]
def rows38 (l : List S38) : List Value := l.flatMap cell38
def rows51 (l : List S51) : List Value := l.flatMap cell51
theorem rows51_len (l : List S51) : (rows51 l).length = l.length * 4 := by
 induction l with
 | nil => rfl
 | cons a t ih => simp only [rows51, List.flatMap_cons, List.length_append, List.length_cons] at *; simp only [cell51, List.length_cons, List.length_nil]; omega
theorem rows38_snoc (l : List S38) (x : S38) : rows38 (l ++ [x]) = rows38 l ++ cell38 x := by simp [rows38]
theorem rows51_snoc (l : List S51) (x : S51) : rows51 (l ++ [x]) = rows51 l ++ cell51 x := by simp [rows51]
theorem rows38_reps (l : List S38) (w : World) (base : Nat) (ok : Nat → Prop) : Reps (k38.M w base ok) 3 l (rows38 l) := by
 have : ∀ r : List S38, ∀ n, r.length = n → Reps (k38.M w base ok) 3 r (rows38 r) := by
  intro r n
  induction n generalizing r with
  | zero => intro h; obtain rfl := List.eq_nil_of_length_eq_zero h; exact Reps.none _ _
  | succ n ih =>
   intro h
   obtain ⟨r', x, rfl⟩ : ∃ r' x, r = r' ++ [x] := ⟨r.dropLast, r.getLast (by intro e; subst e; cases h), (List.dropLast_concat_getLast _).symm⟩
   rw [rows38_snoc]
   exact Reps.snoc (ih r' (by simpa using h)) (k38_mkM w base ok x) rfl
 exact this l _ rfl
structure Rd where
 i : Nat
 out : List S38
 st : List S51
 e : Int
def RSx (w0 W : World) (g : Nat) (l : List S48) (i : Int) (out : List S38) (st : List S51) (e : Int) (A0 : Option Addr) (c0 : Nat) (vo vs : Value) : Prop :=
 W.heap[g]? = some (.cells #[.slice A0 l.length c0, .int .i64 i, vo, vs, .int .i64 e] 54 (0, 0)) ∧ w0.heap.size ≤ g ∧ Kd.C k48 w0 A0 l.length l ∧ W.ownsRow w0.heap.size 38 3 vo out.length (rows38 out) ∧ W.ownsRow w0.heap.size 51 4 vs st.length (rows51 st) ∧ Below w0.heap.size w0 W
def RS (w0 W : World) (g : Nat) (l : List S48) (s : Rd) : Prop := ∃ A0 c0 vo vs, RSx w0 W g l (s.i : Int) s.out s.st s.e A0 c0 vo vs
section
variable {w0 W W1 : World} {g : Nat} {l : List S48} {i : Int} {out : List S38} {st : List S51} {e : Int} {A0 : Option Addr} {c0 : Nat} {vo vs : Value}
theorem RSx.cell (h : RSx w0 W g l i out st e A0 c0 vo vs) :
  W.cell? ⟨g, 0, none⟩ = some (.slice A0 l.length c0) ∧ W.cell? ⟨g, 1, none⟩ = some (.int .i64 i) ∧ W.cell? ⟨g, 2, none⟩ = some vo ∧ W.cell? ⟨g, 3, none⟩ = some vs ∧ W.cell? ⟨g, 4, none⟩ = some (.int .i64 e) :=
 ⟨blk_cell h.1 0, blk_cell h.1 1, blk_cell h.1 2, blk_cell h.1 3, blk_cell h.1 4⟩
theorem RSx.frozen (h : RSx w0 W g l i out st e A0 c0 vo vs) (j : Nat) : W.frozen? ⟨g, j, none⟩ = false := blk_frozen h.1 j
theorem RSx.lt (h : RSx w0 W g l i out st e A0 c0 vo vs) : g < W.heap.size := blk_lt h.1
theorem RSx.below (h : RSx w0 W g l i out st e A0 c0 vo vs) (hb : Below W.heap.size W W1) : RSx w0 W1 g l i out st e A0 c0 vo vs :=
 ⟨blk_grown h.1 (grown_of_below hb none) (by simp), h.2.1, h.2.2.1, own_move h.2.2.2.1 (fun k hk => hb.block k (own_lt h.2.2.2.1 k hk)), own_move h.2.2.2.2.1 (fun k hk => hb.block k (own_lt h.2.2.2.2.1 k hk)), h.2.2.2.2.2.trans (hb.mono h.2.2.2.2.2.size)⟩
theorem RSx.set_at (h : RSx w0 W g l i out st e A0 c0 vo vs) (x : Int) : RSx w0 (W.setCell ⟨g, 1, none⟩ (.int .i64 x)) g l x out st e A0 c0 vo vs :=
 ⟨by simpa using blk_set h.1 1 (.int .i64 x), h.2.1, h.2.2.1, own_setCell h.2.2.2.1 (own_ne h.2.2.2.1 h.1 (by decide)) _, own_setCell h.2.2.2.2.1 (own_ne h.2.2.2.2.1 h.1 (by decide)) _, h.2.2.2.2.2.setCell h.2.1 _⟩
theorem RSx.set_e (h : RSx w0 W g l i out st e A0 c0 vo vs) (x : Int) : RSx w0 (W.setCell ⟨g, 4, none⟩ (.int .i64 x)) g l i out st x A0 c0 vo vs :=
 ⟨by simpa using blk_set h.1 4 (.int .i64 x), h.2.1, h.2.2.1, own_setCell h.2.2.2.1 (own_ne h.2.2.2.1 h.1 (by decide)) _, own_setCell h.2.2.2.2.1 (own_ne h.2.2.2.2.1 h.1 (by decide)) _, h.2.2.2.2.2.setCell h.2.1 _⟩
theorem RSx.out_grown (h : RSx w0 W g l i out st e A0 c0 vo vs) {v1 : Value} {out1 : List S38} (ho : W1.ownsRow w0.heap.size 38 3 v1 out1.length (rows38 out1)) (hg : W.grownBy W1 vo.ownBlock) (hb : Below w0.heap.size w0 W1) :
  RSx w0 (W1.setCell ⟨g, 2, none⟩ v1) g l i out1 st e A0 c0 v1 vs := by
 have h1 : W1.heap[g]? = _ := blk_grown h.1 hg (own_ne h.2.2.2.1 h.1 (by decide))
 have h2 := own_other h.2.2.2.2.1 hg (own_type_ne h.2.2.2.2.1 h.2.2.2.1 (by decide))
 exact ⟨by simpa using blk_set h1 2 v1, h.2.1, h.2.2.1, own_setCell ho (own_ne ho h1 (by decide)) _, own_setCell h2 (own_ne h2 h1 (by decide)) _, hb.setCell h.2.1 _⟩
theorem RSx.st_grown (h : RSx w0 W g l i out st e A0 c0 vo vs) {v1 : Value} {st1 : List S51} (ho : W1.ownsRow w0.heap.size 51 4 v1 st1.length (rows51 st1)) (hg : W.grownBy W1 vs.ownBlock) (hb : Below w0.heap.size w0 W1) :
  RSx w0 (W1.setCell ⟨g, 3, none⟩ v1) g l i out st1 e A0 c0 vo v1 := by
 have h1 : W1.heap[g]? = _ := blk_grown h.1 hg (own_ne h.2.2.2.2.1 h.1 (by decide))
 have h2 := own_other h.2.2.2.1 hg (own_type_ne h.2.2.2.1 h.2.2.2.2.1 (by decide))
 exact ⟨by simpa using blk_set h1 3 v1, h.2.1, h.2.2.1, own_setCell h2 (own_ne h2 h1 (by decide)) _, own_setCell ho (own_ne ho h1 (by decide)) _, hb.setCell h.2.1 _⟩
theorem RSx.st_set {gs cap : Nat} (h : RSx w0 W g l i out st e A0 c0 vo (.slice (some ⟨gs, 0, none⟩) st.length cap)) (j : Nat) (u : Value) {st1 : List S51} (hl : st1.length = st.length) (hs : (rows51 st).set j u = rows51 st1) :
  RSx w0 (W.setCell ⟨gs, j, none⟩ u) g l i out st1 e A0 c0 vo (.slice (some ⟨gs, 0, none⟩) st1.length cap) := by
 obtain ⟨ho, hg⟩ := World.ownsRow.stored h.2.2.2.2.1 j u
 rw [hs] at ho
 have hne := own_ne h.2.2.2.2.1 h.1 (by decide : (51 : TypeId) ≠ 54)
 have hb : w0.heap.size ≤ gs := own_base h.2.2.2.2.1 gs rfl
 rw [hl]
 exact ⟨by rw [blk_grown h.1 hg hne], h.2.1, h.2.2.1, own_other h.2.2.2.1 hg (own_type_ne h.2.2.2.1 h.2.2.2.2.1 (by decide)), by rw [hl]; exact ho, h.2.2.2.2.2.setCell hb _⟩
end
theorem cell38_one (x : S38) : ∀ u ∈ cell38 x, u.oneCell' = true := by
 intro u hu
 simp only [cell38, List.mem_cons, List.not_mem_nil, or_false] at hu
 rcases hu with rfl | rfl | rfl <;> rfl
theorem cell51_one (x : S51) : ∀ u ∈ cell51 x, u.oneCell' = true := by
 intro u hu
 simp only [cell51, List.mem_cons, List.not_mem_nil, or_false] at hu
 rcases hu with rfl | rfl | rfl | rfl <;> rfl
theorem cell_alloc_ {w : World} {b o : Nat} {v : Value} (h : w.cell? ⟨b, o, none⟩ = some v) (ob : Obj) : (w.alloc ob).cell? ⟨b, o, none⟩ = some v := by
 have hb := World.block_lt_of_cell? w ⟨b, o, none⟩ h
 exact pw_cell_below (below_alloc (Below.refl _ _) ob) h
def sg (l : List S48) (j : Nat) (s : ByteArray) : Bool := match l[j]? with
 | some t => t.f0 == 3 && t.f1.toList == s.toList
 | none => false
def Rd.emit (s : Rd) (n : S38) : Rd := { s with out := s.out ++ [n] }
def Rd.push (s : Rd) (n : S38) (far : Nat) : Rd := if 40 < s.st.length then { s with i := s.i + far, e := 7 } else { s with i := s.i + far + 1, st := s.st ++ [⟨n, ⟨#[]⟩⟩] }
theorem sg_lt {l : List S48} {j : Nat} (h : j < l.length) (s : ByteArray) : sg l j s = ((rd_T48 l (j : Int)).f0 == 3 && (rd_T48 l (j : Int)).f1.toList == s.toList) := by
 unfold sg rd_T48
 rw [Int.toNat_natCast, List.getD_eq_getElem?_getD, List.getElem?_eq_getElem h]
 rfl
theorem sg_ge {l : List S48} {j : Nat} (h : l.length ≤ j) (s : ByteArray) : sg l j s = false := by
 unfold sg
 rw [List.getElem?_eq_none h]
theorem RSx.tok {w0 W : World} {g : Nat} {l : List S48} {i : Int} {out : List S38} {st : List S51} {e : Int} {A0 : Option Addr} {c0 : Nat} {vo vs : Value} (h : RSx w0 W g l i out st e A0 c0 vo vs) {j : Nat} (hj : j < l.length) :
  ∃ ad, A0 = some ad ∧ W.cell? (ad.add (j * 3)) = some (.int .i64 (rd_T48 l (j : Int)).f0) ∧ W.cell? ⟨(ad.add (j * 3)).block, (ad.add (j * 3)).off + 1, none⟩ = some (.string (rd_T48 l (j : Int)).f1) ∧ W.cell? ⟨(ad.add (j * 3)).block, (ad.add (j * 3)).off + 2, none⟩ = some (.int .i64 (rd_T48 l (j : Int)).f2) := by
 obtain ⟨ad, e1, a, b, c⟩ := at_T48 h.2.2.1 (j : Int) (by omega) (by omega)
 rw [Int.toNat_natCast] at a b c
 exact ⟨ad, e1, pw_cell_below h.2.2.2.2.2 a, pw_cell_below h.2.2.2.2.2 b, pw_cell_below h.2.2.2.2.2 c⟩
theorem blk_new (w : World) (cs : Array Value) (t : TypeId) (n : Nat) (hn : w.heap.size = n) : (w.alloc (.cells cs t)).drew.heap[n]? = some (.cells cs t (0, 0)) := by
 subst hn
 exact heap_alloc_new w _
theorem rows51_at (q : List S51) (t : S51) (r : List S51) (j : Nat) (hj : j < 4) : (rows51 (q ++ t :: r))[q.length * 4 + j]? = (cell51 t)[j]? := by
 have h : rows51 (q ++ t :: r) = rows51 q ++ (cell51 t ++ rows51 r) := by simp [rows51]
 rw [h, List.getElem?_append_right (by rw [rows51_len]; omega), rows51_len, List.getElem?_append_left (by simp [cell51]; omega)]
 congr 1; omega
theorem rows51_set (q : List S51) (t t1 : S51) (j : Nat) (hj : j < 4) (v : Value) (hc : (cell51 t).set j v = cell51 t1) : (rows51 (q ++ [t])).set (q.length * 4 + j) v = rows51 (q ++ [t1]) := by
 have h : ∀ u, rows51 (q ++ [u]) = rows51 q ++ cell51 u := fun u => rows51_snoc q u
 rw [h, h, List.set_append_right _ _ (by rw [rows51_len]; omega), rows51_len, ← hc]
 congr 2; omega
theorem RSx.top {w0 W : World} {g : Nat} {l : List S48} {i : Int} {out : List S38} {q : List S51} {t : S51} {e : Int} {A0 : Option Addr} {c0 : Nat} {vo vs : Value} (h : RSx w0 W g l i out (q ++ [t]) e A0 c0 vo vs) :
  ∃ gs cap, vs = .slice (some ⟨gs, 0, none⟩) (q.length + 1) cap ∧ q.length + 1 ≤ cap ∧ gs ≠ g ∧ gs < W.heap.size ∧ W.cell? ⟨gs, q.length * 4, none⟩ = some (.int .i64 t.f0.f0) ∧ W.cell? ⟨gs, q.length * 4 + 1, none⟩ = some (.string t.f0.f1) ∧ W.cell? ⟨gs, q.length * 4 + 2, none⟩ = some (.int .i64 t.f0.f2) ∧ W.cell? ⟨gs, q.length * 4 + 3, none⟩ = some (.string t.f1) ∧
   (∀ j, W.frozen? ⟨gs, j, none⟩ = false) ∧ RSx w0 W g l i out (q ++ [t]) e A0 c0 vo (.slice (some ⟨gs, 0, none⟩) (q.length + 1) cap) := by
 have ho := h.2.2.2.2.1
 have hl : (q ++ [t]).length = q.length + 1 := by simp
 rw [hl] at ho
 obtain ⟨gs, cap, rfl, _, hlt⟩ := ho.form (by omega)
 have hne := own_ne ho h.1 (by decide : (51 : TypeId) ≠ 54)
 have hc : ∀ j, j < 4 → W.cell? ⟨gs, q.length * 4 + j, none⟩ = (cell51 t)[j]? := fun j hj => by
  rw [ho.cellAt _ (by omega), rows51_at q t [] j hj]
 exact ⟨gs, cap, rfl, own_cap ho, fun e1 => hne (by rw [e1]; rfl), own_lt ho gs rfl, hc 0 (by omega), hc 1 (by omega), hc 2 (by omega), hc 3 (by omega), fun j => ho.frozenAt j, h⟩
def Rd.joined (s : Rd) (op : ByteArray) : Rd := if (op.toList == [124]) = true then s.emit ⟨4, ⟨#[]⟩, 2⟩ else if (op.toList == [38]) = true then s.emit ⟨5, ⟨#[]⟩, 2⟩ else s
theorem RS.drew {w0 W : World} {g : Nat} {l : List S48} {s : Rd} (h : RS w0 W g l s) : RS w0 W.drew g l s := by
 obtain ⟨A0, c0, vo, vs, H⟩ := h
 exact ⟨A0, c0, vo, vs, H.below (below_drew (Below.refl _ _))⟩
theorem RS.below {w0 W W1 : World} {g : Nat} {l : List S48} {s : Rd} (h : RS w0 W g l s) (hb : Below W.heap.size W W1) : RS w0 W1 g l s := by
 obtain ⟨A0, c0, vo, vs, H⟩ := h
 exact ⟨A0, c0, vo, vs, H.below hb⟩
def Rd.proj (k : Nat) (l : List S48) (s : Rd) (name : ByteArray) : Option Rd := match l[s.i + 2]? with
 | none => some { s with i := s.i + 2, e := 2 }
 | some t => if t.f0 = 2 then (lex_Number.f k t.f1).bind fun p => if p.1 < 1 then some { s with i := s.i + 2, e := 5 } else if 8 < p.1 then some { s with i := s.i + 2, e := 5 } else
   if sg l (s.i + 3) ⟨#[40]⟩ = true then some ({ s with i := s.i + 2 }.push ⟨6, name, p.1⟩ 1) else some { s with i := s.i + 3, e := 2 }
  else some { s with i := s.i + 2, e := 2 }
theorem tok_some {l : List S48} {j : Nat} (h : j < l.length) : l[j]? = some (rd_T48 l (j : Int)) := by
 unfold rd_T48
 rw [Int.toNat_natCast, List.getD_eq_getElem?_getD, List.getElem?_eq_getElem h]
 rfl
def Rd.next (s : Rd) : Rd := { s with i := s.i + 1 }
def Rd.part (k : Nat) (l : List S48) (s : Rd) : Option (Rd × Bool) := match l[s.i]? with
 | none => some ({ s with e := 2 }, false)
 | some t =>
  if sg l s.i ⟨#[40]⟩ = true then some (s.push ⟨-1, ⟨#[]⟩, 0⟩ 0, false)
  else if t.f0 = 2 ∧ (t.f1.toList == [48]) = true then some ((s.emit ⟨0, ⟨#[]⟩, 0⟩).next, true)
  else if t.f0 = 2 ∧ (t.f1.toList == [49]) = true then some ((s.emit ⟨1, ⟨#[]⟩, 0⟩).next, true)
  else if t.f0 = 1 then (sig_IsVar.f t.f1).bind fun v => if v = true then some ((s.emit ⟨2, t.f1, 0⟩).next, true) else
    (sig_IsCon.f t.f1).bind fun c => if c = true then
     (if sg l (s.i + 1) ⟨#[40]⟩ = true then some (s.push ⟨3, t.f1, 1⟩ 1, false)
     else if sg l (s.i + 1) ⟨#[126]⟩ = true then (s.proj k l t.f1).bind fun r => some (r, false)
     else some ((s.emit ⟨3, t.f1, 0⟩).next, true))
    else some ({ s with e := 3 }, false)
  else some ({ s with e := 2 }, false)
theorem rows51_take (q : List S51) (t : S51) : (rows51 (q ++ [t])).take (q.length * 4) = rows51 q := by
 rw [rows51_snoc, ← rows51_len q, List.take_left']
 rfl
theorem RSx.pop {w0 W : World} {g : Nat} {l : List S48} {i : Int} {out : List S38} {q : List S51} {t : S51} {e : Int} {A0 : Option Addr} {c0 gs cap : Nat} {vo : Value} (h : RSx w0 W g l i out (q ++ [t]) e A0 c0 vo (.slice (some ⟨gs, 0, none⟩) (q.length + 1) cap)) :
  RSx w0 (W.setCell ⟨g, 3, none⟩ (.slice (some ⟨gs, 0, none⟩) q.length cap)) g l i out q e A0 c0 vo (.slice (some ⟨gs, 0, none⟩) q.length cap) := by
 have ho := h.2.2.2.2.1
 rw [show (q ++ [t]).length = q.length + 1 by simp] at ho
 have h2 := own_take (m := q.length) ho (by omega)
 rw [rows51_take] at h2
 exact ⟨by simpa using blk_set h.1 3 _, h.2.1, h.2.2.1, own_setCell h.2.2.2.1 (own_ne h.2.2.2.1 h.1 (by decide)) _, own_setCell h2 (own_ne h2 h.1 (by decide)) _, h.2.2.2.2.2.setCell h.2.1 _⟩
theorem RSx.top_set {w0 W : World} {g : Nat} {l : List S48} {i : Int} {out : List S38} {q : List S51} {t t1 : S51} {e : Int} {A0 : Option Addr} {c0 gs cap : Nat} {vo : Value} (h : RSx w0 W g l i out (q ++ [t]) e A0 c0 vo (.slice (some ⟨gs, 0, none⟩) (q.length + 1) cap)) (j : Nat) (hj : j < 4) (v : Value) (hc : (cell51 t).set j v = cell51 t1) :
  RSx w0 (W.setCell ⟨gs, q.length * 4 + j, none⟩ v) g l i out (q ++ [t1]) e A0 c0 vo (.slice (some ⟨gs, 0, none⟩) (q.length + 1) cap) := by
 have hl : (q ++ [t]).length = q.length + 1 := by simp
 have h' : RSx w0 W g l i out (q ++ [t]) e A0 c0 vo (.slice (some ⟨gs, 0, none⟩) (q ++ [t]).length cap) := by rw [hl]; exact h
 have := RSx.st_set h' (q.length * 4 + j) v (st1 := q ++ [t1]) (by simp) (rows51_set q t t1 j hj v hc)
 rwa [show (q ++ [t1]).length = q.length + 1 by simp] at this
theorem joined_st (s : Rd) (op : ByteArray) : (s.joined op).st = s.st ∧ (s.joined op).i = s.i ∧ (s.joined op).out.length ≤ s.out.length + 1 ∧ (s.joined op).e = s.e := by
 unfold Rd.joined Rd.emit
 split
 ·simp
 ·split <;> simp
def Rd.turn (l : List S48) (q : List S51) (t : S51) (s : Rd) (go : Rd → Option (Rd × Bool)) : Option (Rd × Bool) :=
 if (sg l s.i ⟨#[124]⟩ && (t.f1.toList == [] || t.f1.toList == [124])) = true then some ({ s with st := q ++ [⟨t.f0, ⟨#[124]⟩⟩], i := s.i + 1 }, false)
 else if (sg l s.i ⟨#[38]⟩ && (t.f1.toList == [] || t.f1.toList == [38])) = true then some ({ s with st := q ++ [⟨t.f0, ⟨#[38]⟩⟩], i := s.i + 1 }, false)
 else if q.length = 0 then some (s, true)
 else if (sg l s.i ⟨#[44]⟩ && t.f0.f0 == 3) = true then (if t.f0.f2 = 8 then some ({ s with e := 5 }, false) else some ({ s with st := q ++ [⟨⟨t.f0.f0, t.f0.f1, wrap64 (t.f0.f2 + 1)⟩, ⟨#[]⟩⟩], i := s.i + 1 }, false))
 else if sg l s.i ⟨#[41]⟩ = true then go (if t.f0.f0 = -1 then { s with st := q, i := s.i + 1 } else { s.emit t.f0 with st := q, i := s.i + 1 })
 else some ({ s with e := 2 }, false)
def Rd.whole (l : List S48) : Nat → Rd → Option (Rd × Bool)
 | 0, _ => none
 | k + 1, s => match s.st.reverse with
  | [] => none
  | t :: q => if s.i ≤ 1000000000000 ∧ (s.out.length + 2) * 32 ≤ 140737488355328 ∧ q.length ≤ 1000 then Rd.turn l q.reverse t (s.joined t.f1) (Rd.whole l k) else none
theorem whole_open {l : List S48} {k : Nat} {s r : Rd} {b : Bool} (h : Rd.whole l (k + 1) s = some (r, b)) : ∃ t q, s.st = q ++ [t] ∧ s.i ≤ 1000000000000 ∧ (s.out.length + 2) * 32 ≤ 140737488355328 ∧ q.length ≤ 1000 ∧ Rd.turn l q t (s.joined t.f1) (Rd.whole l k) = some (r, b) := by
 unfold Rd.whole at h
 split at h
 ·cases h
 ·rename_i t qr hr
  split at h
  ·rename_i hg
   exact ⟨t, qr.reverse, by rw [← List.reverse_reverse s.st, hr, List.reverse_cons], hg.1, hg.2.1, by rw [List.length_reverse]; exact hg.2.2, h⟩
  ·cases h
set_option maxHeartbeats 8000000 in
set_option maxRecDepth 100000 in
theorem rd_emit (w0 w : World) (g : Nat) (l : List S48) (s : Rd) (n : S38) (hR : RS w0 w g l s) (hlen : (s.out.length + 1) * 32 ≤ 140737488355328) :
  Calls Tryz.prog 47 #[.pointer (some ⟨g, 0, none⟩), .agg #[.int .i64 n.f0, .string n.f1, .int .i64 n.f2]] w fun en w' => en = .returned (.tuple #[]) ∧ RS w0 w' g l (s.emit n) := by
 obtain ⟨A0, c0, vo, vs, H⟩ := hR
 have hg := H.lt
 have H0 := Aside0.mk H
 obtain ⟨h0, h1, h2, h3, h4⟩ := H.cell
 have hlen' := Aside0.mk hlen
 have hf := H.frozen 2
 clear H hlen
 go_enter Tryz.func47, Tryz.ntmps47
 go_wp2
 have HA := Aside0.mk (H0.out.below (below_drew (below_alloc (Below.refl _ _) (.cells #[.int .i64 n.f0, .string n.f1, .int .i64 n.f2] 38))))
 have HF := Aside0.mk (RSx.frozen HA.out 2)
 have HL := Aside0.mk (RSx.lt HA.out)
 have HBX := Aside0.mk (fun j => blk_cell (w := (w.alloc (.cells #[.int .i64 n.f0, .string n.f1, .int .i64 n.f2] 38)).drew) (heap_alloc_new w (.cells #[.int .i64 n.f0, .string n.f1, .int .i64 n.f2] 38)) j)
 have HN1 := Aside0.mk (own_ne H0.out.2.2.2.1 H0.out.1 (by decide : (38 : TypeId) ≠ 54))
 have HN2 := Aside0.mk (own_ne_new H0.out.2.2.2.1 0)
 refine start_ (n := 11) (S := fun w' => w'.cell? ⟨g, 2, none⟩ = some vo ∧ w'.cell? ⟨w.heap.size, 0, none⟩ = some (.int .i64 n.f0) ∧ w'.cell? ⟨w.heap.size, 1, none⟩ = some (.string n.f1) ∧ w'.cell? ⟨w.heap.size, 2, none⟩ = some (.int .i64 n.f2)) (ds := [10]) #[false, false, false, false, false, false, false, false, false, false, false] (by kernel_rfl) rfl rfl ⟨HA.out.cell.2.2.1, HBX.out 0, HBX.out 1, HBX.out 2⟩ (fun hHeld => ?_)
 refine pure_ (i := 0) (N := some 4) (v := ?_) (a' := ?_) #[true, false, false, false, false, false, false, false, false, false, false] rfl rfl (by kernel_rfl) (fun _ _ _ h => h) (Or.inl ⟨by rfl, ?_⟩) ?_ ?_
 rotate_left
 ·intro w'
  go_simp
  with_reducible rfl
 rotate_left
 ·simp only [Act.put, List.setIfInBounds_toArray, List.set_cons_zero, List.set_cons_succ, i64_w, i32_w]
  rfl
 refine pure_ (i := 1) (N := some 5) (v := ?_) (a' := ?_) #[true, true, false, false, false, false, false, false, false, false, false] rfl rfl (by kernel_rfl) (fun _ _ _ h => h) (Or.inl ⟨by rfl, ?_⟩) ?_ ?_
 rotate_left
 ·intro w'
  go_simp
  with_reducible rfl
 rotate_left
 ·simp only [Act.put, List.setIfInBounds_toArray, List.set_cons_zero, List.set_cons_succ, i64_w, i32_w]
  rfl
 refine pure_ (i := 2) (N := some 6) (v := ?_) (a' := ?_) #[true, true, true, false, false, false, false, false, false, false, false] rfl rfl (by kernel_rfl) (fun _ _ _ h => h) (Or.inl ⟨by rfl, ?_⟩) ?_ ?_
 rotate_left
 ·intro w'
  go_simp
  with_reducible rfl
 rotate_left
 ·simp only [Act.put, List.setIfInBounds_toArray, List.set_cons_zero, List.set_cons_succ, i64_w, i32_w]
  rfl
 refine pure_ (i := 3) (N := some 7) (v := ?_) (a' := ?_) #[true, true, true, true, false, false, false, false, false, false, false] rfl rfl (by kernel_rfl) (fun _ _ _ h => h) (Or.inl ⟨by rfl, ?_⟩) ?_ ?_
 rotate_left
 ·intro w'
  go_simp
  with_reducible rfl
 rotate_left
 ·simp only [Act.put, List.setIfInBounds_toArray, List.set_cons_zero, List.set_cons_succ, i64_w, i32_w]
  rfl
 refine take_ (i := 4) (N := some 8) (v := ?_) (a' := ?_) #[true, true, true, true, true, false, false, false, false, false, false] rfl rfl (by kernel_rfl) (fun _ _ _ h => h) (Or.inl ⟨by rfl, ?_⟩) hHeld ?_ ?_
 rotate_left
 ·rintro w' ⟨s0, s1, s2, s3⟩
  go_simp
  with_reducible rfl
 rotate_left
 ·simp only [Act.put, List.setIfInBounds_toArray, List.set_cons_zero, List.set_cons_succ, i64_w, i32_w]
  rfl
 refine take_ (i := 5) (N := some 9) (v := ?_) (a' := ?_) #[true, true, true, true, true, true, false, false, false, false, false] rfl rfl (by kernel_rfl) (fun _ _ _ h => h) (Or.inl ⟨by rfl, ?_⟩) hHeld ?_ ?_
 rotate_left
 ·rintro w' ⟨s0, s1, s2, s3⟩
  go_simp
  with_reducible rfl
 rotate_left
 ·simp only [Act.put, List.setIfInBounds_toArray, List.set_cons_zero, List.set_cons_succ, i64_w, i32_w]
  rfl
 refine one_ (i := 6) (N := some 10) #[true, true, true, true, true, true, true, false, false, false, false] rfl rfl (by kernel_rfl) (by decide) (fun K hK => ?_)
 refine value_ (w1 := ?_) (v := ?_) (by rfl) rfl ?_ ?_
 rotate_left 2
 ·go_simp
  constructor
  ·rfl
  ·rfl
 refine hK.out _ _ ⟨cell_alloc_ HA.out.cell.2.2.1 _, cell_alloc_ (HBX.out 0) _, cell_alloc_ (HBX.out 1) _, cell_alloc_ (HBX.out 2) _⟩ (fun hHeld => ?_)
 clear hK K
 refine norm_ (a' := ?_) ?_ ?_
 rotate_left
 ·show Act.put _ (some 10) _ = _
  simp only [Act.put, List.setIfInBounds_toArray, List.set_cons_zero, List.set_cons_succ, i64_w, i32_w]
  rfl
 refine one_ (i := 7) (N := some 11) #[true, true, true, true, true, true, true, true, false, false, false] rfl rfl (by kernel_rfl) (by decide) (fun K hK => ?_)
 refine step_append_cells (w0 := w0) w0.heap.size (by rfl) (.tmp 8) (.tmp 10) 22 38 (.agg #[(.int .i64 0), (.string ⟨#[]⟩), (.int .i64 0)]) 3 32 rfl Tryz.underlying22 info38r rfl (by decide) (by omega) vo s.out.length (rows38 s.out) (cell38 n) rfl Zz26 rfl (cell38_one n) HA.out.2.2.2.1 HA.out.2.2.2.2.2 HA.out.2.2.2.2.2.size hlen'.out ?_
 intro v1 w1 hown hb1 hg1 hat1
 obtain ⟨A1, c1, rfl⟩ := own_slice hown
 have hF1 := frozen_far_ hg1 HF.out HL.out HN1.out
 have hC1 := cell_far_ hg1 HA.out.cell.2.2.1 HN1.out
 refine hK.out _ _ ⟨cell_far_ hg1 HA.out.cell.2.2.1 HN1.out, cell_far_ hg1 (HBX.out 0) HN2.out, cell_far_ hg1 (HBX.out 1) HN2.out, cell_far_ hg1 (HBX.out 2) HN2.out⟩ (fun hHeld => ?_)
 clear hK K
 refine norm_ (a' := ?_) ?_ ?_
 rotate_left
 ·show Act.put _ (some 11) _ = _
  simp only [Act.put, List.setIfInBounds_toArray, List.set_cons_zero, List.set_cons_succ, i64_w, i32_w]
  rfl
 refine pure_ (i := 8) (N := some 12) (v := ?_) (a' := ?_) #[true, true, true, true, true, true, true, true, true, false, false] rfl rfl (by kernel_rfl) (fun _ _ _ h => h) (Or.inl ⟨by rfl, ?_⟩) ?_ ?_
 rotate_left
 ·intro w'
  go_simp
  with_reducible rfl
 rotate_left
 ·simp only [Act.put, List.setIfInBounds_toArray, List.set_cons_zero, List.set_cons_succ, i64_w, i32_w]
  rfl
 refine pure_ (i := 9) (N := some 13) (v := ?_) (a' := ?_) #[true, true, true, true, true, true, true, true, true, true, false] rfl rfl (by kernel_rfl) (fun _ _ _ h => h) (Or.inl ⟨by rfl, ?_⟩) ?_ ?_
 rotate_left
 ·intro w'
  go_simp
  with_reducible rfl
 rotate_left
 ·simp only [Act.put, List.setIfInBounds_toArray, List.set_cons_zero, List.set_cons_succ, i64_w, i32_w]
  rfl
 refine last_ (i := 10) (N := none) #[true, true, true, true, true, true, true, true, true, true, true] rfl rfl (by kernel_rfl) (by decide) (fun K hK => ?_)
 refine skip_ (w1 := ?_) (by rfl) rfl ?_ ?_
 rotate_left
 ·go_simp
  rfl
 refine hK.out _ _ ?_
 clear hK K
 refine done_ (by kernel_rfl) ?_
 first | go_end0 | ((try simp only [Exit.inBlock, Exit.then]); refine bodyPost_ret (results_none rfl _ _ _) rfl ?_)
 exact ⟨rfl, A0, c0, _, vs, RSx.out_grown HA.out (by rw [Rd.emit, rows38_snoc]; simpa using hown) hg1 hb1⟩
set_option maxHeartbeats 8000000 in
set_option maxRecDepth 100000 in
theorem rd_is (w0 w : World) (g : Nat) (l : List S48) (s : Rd) (far : Nat) (sign : ByteArray) (hR : RS w0 w g l s) (hi : s.i + far ≤ 1000000000000000) :
  Calls Tryz.prog 45 #[.pointer (some ⟨g, 0, none⟩), .int .i64 far, .string sign] w fun en w' => en = .returned (.bool (sg l (s.i + far) sign)) ∧ w = w' := by
 obtain ⟨A0, c0, vo, vs, H⟩ := hR
 have hg := H.lt
 have H0 := Aside0.mk H
 obtain ⟨h0, h1, h2, h3, h4⟩ := H.cell
 by_cases hj : s.i + far < l.length
 ·obtain ⟨ad, rfl, hx0, hx1, hx2⟩ := H.tok hj
  have HS := Aside0.mk (sg_lt hj sign)
  have q1 : (s.i : Int) + (far : Int) < (l.length : Int) := by omega
  obtain ⟨t, ht⟩ : ∃ t, rd_T48 l ((s.i + far : Nat) : Int) = t := ⟨_, rfl⟩
  rw [ht] at hx0 hx1 hx2
  have HT := Aside0.mk ht
  clear ht
  obtain ⟨j, hjj⟩ : ∃ j : Nat, s.i + far = j := ⟨_, rfl⟩
  have HJ := Aside0.mk hjj
  have e1 : (s.i : Int) + (far : Int) = (j : Int) := by omega
  rw [hjj] at hx0 hx1 hx2
  clear hjj H
  by_cases c : t.f0 = 3
  ·have cb := beq_iff_eq.mpr c
   have cc := bne_eq_false_iff_eq.mpr c
   have HC := Aside0.mk c
   clear c
   go_enter Tryz.func45, Tryz.ntmps45
   go_wp2
   go_ret
   exact ⟨by rw [HS.out, HT.out, HC.out]; rfl, rfl⟩
  ·have cb := beq_eq_false_iff_ne.mpr c
   have cc := bne_iff_ne.mpr c
   have HC := Aside0.mk (beq_eq_false_iff_ne.mpr c)
   clear c
   go_enter Tryz.func45, Tryz.ntmps45
   go_wp2
   go_ret
   exact ⟨by rw [HS.out, HT.out, HC.out]; rfl, rfl⟩
 ·have HS := Aside0.mk (sg_ge (Nat.le_of_not_lt hj) sign)
  have q1 : ¬ (s.i : Int) + (far : Int) < (l.length : Int) := by omega
  clear H
  go_enter Tryz.func45, Tryz.ntmps45
  go_wp2
  go_ret
  exact ⟨by rw [HS.out]; rfl, rfl⟩
set_option maxHeartbeats 8000000 in
set_option maxRecDepth 100000 in
theorem rd_push (w0 w : World) (g : Nat) (l : List S48) (s : Rd) (n : S38) (far : Nat) (hR : RS w0 w g l s) (hi : s.i + far ≤ 1000000000000000) :
  Calls Tryz.prog 46 #[.pointer (some ⟨g, 0, none⟩), .agg #[.int .i64 n.f0, .string n.f1, .int .i64 n.f2], .int .i64 far] w fun en w' => en = .returned (.tuple #[]) ∧ RS w0 w' g l (s.push n far) := by
 obtain ⟨A0, c0, vo, vs, H⟩ := hR
 have hg := H.lt
 have H0 := Aside0.mk H
 obtain ⟨h0, h1, h2, h3, h4⟩ := H.cell
 obtain ⟨AS, cS, rfl⟩ := own_slice H.2.2.2.2.1
 have hf1 := H.frozen 1
 have hf3 := H.frozen 3
 have hf4 := H.frozen 4
 have hne : g ≠ w.heap.size := by omega
 clear H
 by_cases hL : 40 < s.st.length
 ·have HQ := Aside0.mk (show s.push n far = { s with i := s.i + far, e := 7 } from if_pos hL)
  have hL1 : (40 : Int) < (s.st.length : Int) := by omega
  clear hL
  go_enter Tryz.func46, Tryz.ntmps46
  go_wp2
  first | go_end0 | ((try simp only [Exit.inBlock, Exit.then]); refine bodyPost_ret (results_none rfl _ _ _) rfl ?_)
  refine ⟨rfl, ?_⟩
  rw [HQ.out]
  exact ⟨A0, c0, vo, _, ((H0.out.set_at _).set_e 7).below (below_alloc (Below.refl _ _) (.cells #[.int .i64 n.f0, .string n.f1, .int .i64 n.f2] 38))⟩
 ·have HQ := Aside0.mk (show s.push n far = { s with i := s.i + far + 1, st := s.st ++ [⟨n, ⟨#[]⟩⟩] } from if_neg hL)
  have HL4 := Aside0.mk (Nat.le_of_not_lt hL)
  have hL1 : (s.st.length : Int) ≤ (40 : Int) := by omega
  clear hL
  go_enter Tryz.func46, Tryz.ntmps46
  go_wp2
  have HA := Aside0.mk ((H0.out.set_at ((s.i : Int) + (far : Int))).below (below_drew (below_alloc (Below.refl _ _) (.cells #[.int .i64 n.f0, .string n.f1, .int .i64 n.f2] 38))))
  have HF := Aside0.mk (fun j => RSx.frozen HA.out j)
  have HL := Aside0.mk (RSx.lt HA.out)
  have HBX := Aside0.mk (fun j => blk_cell (w := ((w.setCell ⟨g, 1, none⟩ (.int .i64 ((s.i : Int) + (far : Int)))).alloc (.cells #[.int .i64 n.f0, .string n.f1, .int .i64 n.f2] 38)).drew) (blk_new (w.setCell ⟨g, 1, none⟩ (.int .i64 ((s.i : Int) + (far : Int)))) #[.int .i64 n.f0, .string n.f1, .int .i64 n.f2] 38 w.heap.size (by simp)) j)
  have HN1 := Aside0.mk (own_ne H0.out.2.2.2.2.1 H0.out.1 (by decide : (51 : TypeId) ≠ 54))
  have HN2 := Aside0.mk (own_ne_new H0.out.2.2.2.2.1 0)
  refine start_ (n := 12) (S := fun w' => w'.cell? ⟨g, 3, none⟩ = some (.slice AS s.st.length cS) ∧ w'.cell? ⟨w.heap.size, 0, none⟩ = some (.int .i64 n.f0) ∧ w'.cell? ⟨w.heap.size, 1, none⟩ = some (.string n.f1) ∧ w'.cell? ⟨w.heap.size, 2, none⟩ = some (.int .i64 n.f2)) (ds := [11]) #[false, false, false, false, false, false, false, false, false, false, false, false] (by kernel_rfl) rfl rfl ⟨HA.out.cell.2.2.2.1, HBX.out 0, HBX.out 1, HBX.out 2⟩ (fun hHeld => ?_)
  refine pure_ (i := 0) (N := some 23) (v := ?_) (a' := ?_) #[true, false, false, false, false, false, false, false, false, false, false, false] rfl rfl (by kernel_rfl) (fun _ _ _ h => h) (Or.inl ⟨by rfl, ?_⟩) ?_ ?_
  rotate_left
  ·intro w'
   go_simp
   with_reducible rfl
  rotate_left
  ·simp only [Act.put, List.setIfInBounds_toArray, List.set_cons_zero, List.set_cons_succ, i64_w, i32_w]
   rfl
  refine pure_ (i := 1) (N := some 24) (v := ?_) (a' := ?_) #[true, true, false, false, false, false, false, false, false, false, false, false] rfl rfl (by kernel_rfl) (fun _ _ _ h => h) (Or.inl ⟨by rfl, ?_⟩) ?_ ?_
  rotate_left
  ·intro w'
   go_simp
   with_reducible rfl
  rotate_left
  ·simp only [Act.put, List.setIfInBounds_toArray, List.set_cons_zero, List.set_cons_succ, i64_w, i32_w]
   rfl
  refine pure_ (i := 2) (N := some 25) (v := ?_) (a' := ?_) #[true, true, true, false, false, false, false, false, false, false, false, false] rfl rfl (by kernel_rfl) (fun _ _ _ h => h) (Or.inl ⟨by rfl, ?_⟩) ?_ ?_
  rotate_left
  ·intro w'
   go_simp
   with_reducible rfl
  rotate_left
  ·simp only [Act.put, List.setIfInBounds_toArray, List.set_cons_zero, List.set_cons_succ, i64_w, i32_w]
   rfl
  refine pure_ (i := 3) (N := some 26) (v := ?_) (a' := ?_) #[true, true, true, true, false, false, false, false, false, false, false, false] rfl rfl (by kernel_rfl) (fun _ _ _ h => h) (Or.inl ⟨by rfl, ?_⟩) ?_ ?_
  rotate_left
  ·intro w'
   go_simp
   with_reducible rfl
  rotate_left
  ·simp only [Act.put, List.setIfInBounds_toArray, List.set_cons_zero, List.set_cons_succ, i64_w, i32_w]
   rfl
  refine take_ (i := 4) (N := some 27) (v := ?_) (a' := ?_) #[true, true, true, true, true, false, false, false, false, false, false, false] rfl rfl (by kernel_rfl) (fun _ _ _ h => h) (Or.inl ⟨by rfl, ?_⟩) hHeld ?_ ?_
  rotate_left
  ·rintro w' ⟨s0, s1, s2, s3⟩
   go_simp
   with_reducible rfl
  rotate_left
  ·simp only [Act.put, List.setIfInBounds_toArray, List.set_cons_zero, List.set_cons_succ, i64_w, i32_w]
   rfl
  refine take_ (i := 5) (N := some 28) (v := ?_) (a' := ?_) #[true, true, true, true, true, true, false, false, false, false, false, false] rfl rfl (by kernel_rfl) (fun _ _ _ h => h) (Or.inl ⟨by rfl, ?_⟩) hHeld ?_ ?_
  rotate_left
  ·rintro w' ⟨s0, s1, s2, s3⟩
   go_simp
   with_reducible rfl
  rotate_left
  ·simp only [Act.put, List.setIfInBounds_toArray, List.set_cons_zero, List.set_cons_succ, i64_w, i32_w]
   rfl
  refine pure_ (i := 6) (N := some 29) (v := ?_) (a' := ?_) #[true, true, true, true, true, true, true, false, false, false, false, false] rfl rfl (by kernel_rfl) (fun _ _ _ h => h) (Or.inl ⟨by rfl, ?_⟩) ?_ ?_
  rotate_left
  ·intro w'
   go_simp
   with_reducible rfl
  rotate_left
  ·simp only [Act.put, List.setIfInBounds_toArray, List.set_cons_zero, List.set_cons_succ, i64_w, i32_w]
   rfl
  refine one_ (i := 7) (N := some 30) #[true, true, true, true, true, true, true, true, false, false, false, false] rfl rfl (by kernel_rfl) (by decide) (fun K hK => ?_)
  refine value_ (w1 := ?_) (v := ?_) (by rfl) rfl ?_ ?_
  rotate_left 2
  ·go_simp
   constructor
   ·rfl
   ·rfl
  refine hK.out _ _ ⟨cell_alloc_ HA.out.cell.2.2.2.1 _, cell_alloc_ (HBX.out 0) _, cell_alloc_ (HBX.out 1) _, cell_alloc_ (HBX.out 2) _⟩ (fun hHeld => ?_)
  clear hK K
  refine norm_ (a' := ?_) ?_ ?_
  rotate_left
  ·show Act.put _ (some 30) _ = _
   simp only [Act.put, List.setIfInBounds_toArray, List.set_cons_zero, List.set_cons_succ, i64_w, i32_w]
   rfl
  refine one_ (i := 8) (N := some 31) #[true, true, true, true, true, true, true, true, true, false, false, false] rfl rfl (by kernel_rfl) (by decide) (fun K hK => ?_)
  refine step_append_cells (w0 := w0) w0.heap.size (by rfl) (.tmp 27) (.tmp 30) 52 51 (.agg #[(.int .i64 0), (.string ⟨#[]⟩), (.int .i64 0), (.string ⟨#[]⟩)]) 4 48 rfl Tryz.underlying52 info51r rfl (by decide) (by omega) (.slice AS s.st.length cS) s.st.length (rows51 s.st) (cell51 ⟨n, ⟨#[]⟩⟩) rfl Zz26 rfl (cell51_one _) HA.out.2.2.2.2.1 HA.out.2.2.2.2.2 HA.out.2.2.2.2.2.size (by have := HL4.out; omega) ?_
  intro v1 w1 hown hb1 hg1 hat1
  obtain ⟨A1, c1, rfl⟩ := own_slice hown
  have hF1 := frozen_far_ hg1 (HF.out 3) HL.out HN1.out
  have hF2 := frozen_far_ hg1 (HF.out 1) HL.out HN1.out
  have hC1 := cell_far_ hg1 HA.out.cell.2.2.2.1 HN1.out
  have hC2 := cell_far_ hg1 HA.out.cell.2.1 HN1.out
  refine hK.out _ _ ⟨cell_far_ hg1 HA.out.cell.2.2.2.1 HN1.out, cell_far_ hg1 (HBX.out 0) HN2.out, cell_far_ hg1 (HBX.out 1) HN2.out, cell_far_ hg1 (HBX.out 2) HN2.out⟩ (fun hHeld => ?_)
  clear hK K
  refine norm_ (a' := ?_) ?_ ?_
  rotate_left
  ·show Act.put _ (some 31) _ = _
   simp only [Act.put, List.setIfInBounds_toArray, List.set_cons_zero, List.set_cons_succ, i64_w, i32_w]
   rfl
  refine pure_ (i := 9) (N := some 32) (v := ?_) (a' := ?_) #[true, true, true, true, true, true, true, true, true, true, false, false] rfl rfl (by kernel_rfl) (fun _ _ _ h => h) (Or.inl ⟨by rfl, ?_⟩) ?_ ?_
  rotate_left
  ·intro w'
   go_simp
   with_reducible rfl
  rotate_left
  ·simp only [Act.put, List.setIfInBounds_toArray, List.set_cons_zero, List.set_cons_succ, i64_w, i32_w]
   rfl
  refine pure_ (i := 10) (N := some 33) (v := ?_) (a' := ?_) #[true, true, true, true, true, true, true, true, true, true, true, false] rfl rfl (by kernel_rfl) (fun _ _ _ h => h) (Or.inl ⟨by rfl, ?_⟩) ?_ ?_
  rotate_left
  ·intro w'
   go_simp
   with_reducible rfl
  rotate_left
  ·simp only [Act.put, List.setIfInBounds_toArray, List.set_cons_zero, List.set_cons_succ, i64_w, i32_w]
   rfl
  refine last_ (i := 11) (N := none) #[true, true, true, true, true, true, true, true, true, true, true, true] rfl rfl (by kernel_rfl) (by decide) (fun K hK => ?_)
  refine skip_ (w1 := ?_) (by rfl) rfl ?_ ?_
  rotate_left
  ·go_simp
   rfl
  refine hK.out _ _ ?_
  clear hK K
  refine done_ (by kernel_rfl) ?_
  go_wp2
  first | go_end0 | ((try simp only [Exit.inBlock, Exit.then]); refine bodyPost_ret (results_none rfl _ _ _) rfl ?_)
  refine ⟨rfl, ?_⟩
  rw [HQ.out]
  exact ⟨A0, c0, vo, _, by simpa using ((RSx.st_grown (st1 := s.st ++ [⟨n, ⟨#[]⟩⟩]) HA.out (by rw [rows51_snoc]; simpa using hown) hg1 hb1).set_at _)⟩
set_option maxHeartbeats 8000000 in
set_option maxRecDepth 100000 in
theorem rd_joined (w0 w : World) (g : Nat) (l : List S48) (s : Rd) (q : List S51) (t : S51) (hst : s.st = q ++ [t]) (hq : q.length ≤ 1000) (hR : RS w0 w g l s) (hlen : (s.out.length + 1) * 32 ≤ 140737488355328) :
  Calls Tryz.prog 49 #[.pointer (some ⟨g, 0, none⟩)] w fun en w' => en = .returned (.tuple #[]) ∧ RS w0 w' g l (s.joined t.f1) := by
 have hR0 := Aside0.mk hR
 obtain ⟨A0, c0, vo, vs, H⟩ := hR
 have hm := H.2.2.2.2.1
 rw [hst] at H
 obtain ⟨gs, cap, rfl, hcap, hgs, hglt, hx0, hx1, hx2, hx3, hfz, H1⟩ := H.top
 have HT := Aside0.mk H1
 have HX3 := Aside0.mk hx3
 have h3 := H1.cell.2.2.2.1
 have HL := Aside0.mk hlen
 have i1 : wrap64 (q.length : Int) = (q.length : Int) := by unfold wrap64; omega
 have i2 : (0 : Int) ≤ (q.length : Int) := by omega
 have i3 : (q.length : Int) < (q.length : Int) + 1 := by omega
 clear hq
 clear hlen hm hfz H H1 hx0 hx1 hx2
 by_cases c1 : (t.f1.toList == [124]) = true
 ·have HQ := Aside0.mk (show s.joined t.f1 = s.emit ⟨4, ⟨#[]⟩, 2⟩ from if_pos c1)
  go_enter Tryz.func49, Tryz.ntmps49
  go_wp2
  refine start_ (n := 13) (S := fun w' => w'.cell? ⟨g, 3, none⟩ = some (.slice (some ⟨gs, 0, none⟩) (q.length + 1) cap) ∧ w'.cell? ⟨gs, q.length * 4 + 3, none⟩ = some (.string t.f1)) (ds := []) #[false, false, false, false, false, false, false, false, false, false, false, false, false] (by kernel_rfl) rfl rfl ⟨HT.out.cell.2.2.2.1, HX3.out⟩ (fun hHeld => ?_)
  refine pure_ (i := 0) (N := some 2) (v := ?_) (a' := ?_) #[true, false, false, false, false, false, false, false, false, false, false, false, false] rfl rfl (by kernel_rfl) (fun _ _ _ h => h) (Or.inl ⟨by rfl, ?_⟩) ?_ ?_
  rotate_left
  ·intro w'
   go_simp
   with_reducible rfl
  rotate_left
  ·simp only [Act.put, List.setIfInBounds_toArray, List.set_cons_zero, List.set_cons_succ, i64_w, i32_w]
   rfl
  refine pure_ (i := 1) (N := some 3) (v := ?_) (a' := ?_) #[true, true, false, false, false, false, false, false, false, false, false, false, false] rfl rfl (by kernel_rfl) (fun _ _ _ h => h) (Or.inl ⟨by rfl, ?_⟩) ?_ ?_
  rotate_left
  ·intro w'
   go_simp
   with_reducible rfl
  rotate_left
  ·simp only [Act.put, List.setIfInBounds_toArray, List.set_cons_zero, List.set_cons_succ, i64_w, i32_w]
   rfl
  refine pure_ (i := 2) (N := some 4) (v := ?_) (a' := ?_) #[true, true, true, false, false, false, false, false, false, false, false, false, false] rfl rfl (by kernel_rfl) (fun _ _ _ h => h) (Or.inl ⟨by rfl, ?_⟩) ?_ ?_
  rotate_left
  ·intro w'
   go_simp
   with_reducible rfl
  rotate_left
  ·simp only [Act.put, List.setIfInBounds_toArray, List.set_cons_zero, List.set_cons_succ, i64_w, i32_w]
   rfl
  refine pure_ (i := 4) (N := some 6) (v := ?_) (a' := ?_) #[true, true, true, false, true, false, false, false, false, false, false, false, false] rfl rfl (by kernel_rfl) (fun _ _ _ h => h) (Or.inl ⟨by rfl, ?_⟩) ?_ ?_
  rotate_left
  ·intro w'
   go_simp
   with_reducible rfl
  rotate_left
  ·simp only [Act.put, List.setIfInBounds_toArray, List.set_cons_zero, List.set_cons_succ, i64_w, i32_w]
   rfl
  refine pure_ (i := 5) (N := some 7) (v := ?_) (a' := ?_) #[true, true, true, false, true, true, false, false, false, false, false, false, false] rfl rfl (by kernel_rfl) (fun _ _ _ h => h) (Or.inl ⟨by rfl, ?_⟩) ?_ ?_
  rotate_left
  ·intro w'
   go_simp
   with_reducible rfl
  rotate_left
  ·simp only [Act.put, List.setIfInBounds_toArray, List.set_cons_zero, List.set_cons_succ, i64_w, i32_w]
   rfl
  refine pure_ (i := 6) (N := some 8) (v := ?_) (a' := ?_) #[true, true, true, false, true, true, true, false, false, false, false, false, false] rfl rfl (by kernel_rfl) (fun _ _ _ h => h) (Or.inl ⟨by rfl, ?_⟩) ?_ ?_
  rotate_left
  ·intro w'
   go_simp
   with_reducible rfl
  rotate_left
  ·simp only [Act.put, List.setIfInBounds_toArray, List.set_cons_zero, List.set_cons_succ, i64_w, i32_w]
   rfl
  refine take_ (i := 3) (N := some 5) (v := ?_) (a' := ?_) #[true, true, true, true, true, true, true, false, false, false, false, false, false] rfl rfl (by kernel_rfl) (fun _ _ _ h => h) (Or.inl ⟨by rfl, ?_⟩) hHeld ?_ ?_
  rotate_left
  ·rintro w' ⟨s0, s1⟩
   go_simp
   with_reducible rfl
  rotate_left
  ·simp only [Act.put, List.setIfInBounds_toArray, List.set_cons_zero, List.set_cons_succ, i64_w, i32_w]
   rfl
  refine take_ (i := 7) (N := some 9) (v := ?_) (a' := ?_) #[true, true, true, true, true, true, true, true, false, false, false, false, false] rfl rfl (by kernel_rfl) (fun _ _ _ h => h) (Or.inl ⟨by rfl, ?_⟩) hHeld ?_ ?_
  rotate_left
  ·rintro w' ⟨s0, s1⟩
   go_simp
   with_reducible rfl
  rotate_left
  ·simp only [Act.put, List.setIfInBounds_toArray, List.set_cons_zero, List.set_cons_succ, i64_w, i32_w]
   rfl
  refine pure_ (i := 8) (N := some 10) (v := ?_) (a' := ?_) #[true, true, true, true, true, true, true, true, true, false, false, false, false] rfl rfl (by kernel_rfl) (fun _ _ _ h => h) (Or.inl ⟨by rfl, ?_⟩) ?_ ?_
  rotate_left
  ·intro w'
   go_simp
   with_reducible rfl
  rotate_left
  ·simp only [Act.put, List.setIfInBounds_toArray, List.set_cons_zero, List.set_cons_succ, i64_w, i32_w]
   rfl
  refine pure_ (i := 9) (N := some 11) (v := ?_) (a' := ?_) #[true, true, true, true, true, true, true, true, true, true, false, false, false] rfl rfl (by kernel_rfl) (fun _ _ _ h => h) (Or.inl ⟨by rfl, ?_⟩) ?_ ?_
  rotate_left
  ·intro w'
   go_simp
   with_reducible rfl
  rotate_left
  ·simp only [Act.put, List.setIfInBounds_toArray, List.set_cons_zero, List.set_cons_succ, i64_w, i32_w]
   rfl
  refine pure_ (i := 10) (N := some 12) (v := ?_) (a' := ?_) #[true, true, true, true, true, true, true, true, true, true, true, false, false] rfl rfl (by kernel_rfl) (fun _ _ _ h => h) (Or.inl ⟨by rfl, ?_⟩) ?_ ?_
  rotate_left
  ·intro w'
   go_simp
   with_reducible rfl
  rotate_left
  ·simp only [Act.put, List.setIfInBounds_toArray, List.set_cons_zero, List.set_cons_succ, i64_w, i32_w]
   rfl
  refine pure_ (i := 11) (N := some 13) (v := ?_) (a' := ?_) #[true, true, true, true, true, true, true, true, true, true, true, true, false] rfl rfl (by kernel_rfl) (fun _ _ _ h => h) (Or.inl ⟨by rfl, ?_⟩) ?_ ?_
  rotate_left
  ·intro w'
   go_simp
   with_reducible rfl
  rotate_left
  ·simp only [Act.put, List.setIfInBounds_toArray, List.set_cons_zero, List.set_cons_succ, i64_w, i32_w]
   rfl
  refine take_ (i := 12) (N := some 14) (v := ?_) (a' := ?_) #[true, true, true, true, true, true, true, true, true, true, true, true, true] rfl rfl (by kernel_rfl) (fun _ _ _ h => h) (Or.inl ⟨by rfl, ?_⟩) hHeld ?_ ?_
  rotate_left
  ·rintro w' ⟨s0, s1⟩
   go_simp
   with_reducible rfl
  rotate_left
  ·simp only [Act.put, List.setIfInBounds_toArray, List.set_cons_zero, List.set_cons_succ, i64_w, i32_w]
   rfl
  refine done_ (by kernel_rfl) ?_
  go_wp2_with (go_at_call 47; (with_reducible refine (rd_emit w0 _ g l s ⟨4, ⟨#[]⟩, 2⟩ hR0.out.drew HL.out).mono ?_); rintro e w' ⟨rfl, hw⟩)
  first | go_end0 | ((try simp only [Exit.inBlock, Exit.then]); refine bodyPost_ret (results_none rfl _ _ _) rfl ?_)
  exact ⟨rfl, by rw [HQ.out]; exact hw⟩
 ·replace c1 := eq_false_of_ne_true c1
  by_cases c2 : (t.f1.toList == [38]) = true
  ·have HQ := Aside0.mk (show s.joined t.f1 = s.emit ⟨5, ⟨#[]⟩, 2⟩ by unfold Rd.joined; rw [if_neg (by rw [c1]; simp), if_pos c2])
   go_enter Tryz.func49, Tryz.ntmps49
   go_wp2
   refine start_ (n := 13) (S := fun w' => w'.cell? ⟨g, 3, none⟩ = some (.slice (some ⟨gs, 0, none⟩) (q.length + 1) cap) ∧ w'.cell? ⟨gs, q.length * 4 + 3, none⟩ = some (.string t.f1)) (ds := []) #[false, false, false, false, false, false, false, false, false, false, false, false, false] (by kernel_rfl) rfl rfl ⟨HT.out.cell.2.2.2.1, HX3.out⟩ (fun hHeld => ?_)
   refine pure_ (i := 0) (N := some 2) (v := ?_) (a' := ?_) #[true, false, false, false, false, false, false, false, false, false, false, false, false] rfl rfl (by kernel_rfl) (fun _ _ _ h => h) (Or.inl ⟨by rfl, ?_⟩) ?_ ?_
   rotate_left
   ·intro w'
    go_simp
    with_reducible rfl
   rotate_left
   ·simp only [Act.put, List.setIfInBounds_toArray, List.set_cons_zero, List.set_cons_succ, i64_w, i32_w]
    rfl
   refine pure_ (i := 1) (N := some 3) (v := ?_) (a' := ?_) #[true, true, false, false, false, false, false, false, false, false, false, false, false] rfl rfl (by kernel_rfl) (fun _ _ _ h => h) (Or.inl ⟨by rfl, ?_⟩) ?_ ?_
   rotate_left
   ·intro w'
    go_simp
    with_reducible rfl
   rotate_left
   ·simp only [Act.put, List.setIfInBounds_toArray, List.set_cons_zero, List.set_cons_succ, i64_w, i32_w]
    rfl
   refine pure_ (i := 2) (N := some 4) (v := ?_) (a' := ?_) #[true, true, true, false, false, false, false, false, false, false, false, false, false] rfl rfl (by kernel_rfl) (fun _ _ _ h => h) (Or.inl ⟨by rfl, ?_⟩) ?_ ?_
   rotate_left
   ·intro w'
    go_simp
    with_reducible rfl
   rotate_left
   ·simp only [Act.put, List.setIfInBounds_toArray, List.set_cons_zero, List.set_cons_succ, i64_w, i32_w]
    rfl
   refine pure_ (i := 4) (N := some 6) (v := ?_) (a' := ?_) #[true, true, true, false, true, false, false, false, false, false, false, false, false] rfl rfl (by kernel_rfl) (fun _ _ _ h => h) (Or.inl ⟨by rfl, ?_⟩) ?_ ?_
   rotate_left
   ·intro w'
    go_simp
    with_reducible rfl
   rotate_left
   ·simp only [Act.put, List.setIfInBounds_toArray, List.set_cons_zero, List.set_cons_succ, i64_w, i32_w]
    rfl
   refine pure_ (i := 5) (N := some 7) (v := ?_) (a' := ?_) #[true, true, true, false, true, true, false, false, false, false, false, false, false] rfl rfl (by kernel_rfl) (fun _ _ _ h => h) (Or.inl ⟨by rfl, ?_⟩) ?_ ?_
   rotate_left
   ·intro w'
    go_simp
    with_reducible rfl
   rotate_left
   ·simp only [Act.put, List.setIfInBounds_toArray, List.set_cons_zero, List.set_cons_succ, i64_w, i32_w]
    rfl
   refine pure_ (i := 6) (N := some 8) (v := ?_) (a' := ?_) #[true, true, true, false, true, true, true, false, false, false, false, false, false] rfl rfl (by kernel_rfl) (fun _ _ _ h => h) (Or.inl ⟨by rfl, ?_⟩) ?_ ?_
   rotate_left
   ·intro w'
    go_simp
    with_reducible rfl
   rotate_left
   ·simp only [Act.put, List.setIfInBounds_toArray, List.set_cons_zero, List.set_cons_succ, i64_w, i32_w]
    rfl
   refine take_ (i := 3) (N := some 5) (v := ?_) (a' := ?_) #[true, true, true, true, true, true, true, false, false, false, false, false, false] rfl rfl (by kernel_rfl) (fun _ _ _ h => h) (Or.inl ⟨by rfl, ?_⟩) hHeld ?_ ?_
   rotate_left
   ·rintro w' ⟨s0, s1⟩
    go_simp
    with_reducible rfl
   rotate_left
   ·simp only [Act.put, List.setIfInBounds_toArray, List.set_cons_zero, List.set_cons_succ, i64_w, i32_w]
    rfl
   refine take_ (i := 7) (N := some 9) (v := ?_) (a' := ?_) #[true, true, true, true, true, true, true, true, false, false, false, false, false] rfl rfl (by kernel_rfl) (fun _ _ _ h => h) (Or.inl ⟨by rfl, ?_⟩) hHeld ?_ ?_
   rotate_left
   ·rintro w' ⟨s0, s1⟩
    go_simp
    with_reducible rfl
   rotate_left
   ·simp only [Act.put, List.setIfInBounds_toArray, List.set_cons_zero, List.set_cons_succ, i64_w, i32_w]
    rfl
   refine pure_ (i := 8) (N := some 10) (v := ?_) (a' := ?_) #[true, true, true, true, true, true, true, true, true, false, false, false, false] rfl rfl (by kernel_rfl) (fun _ _ _ h => h) (Or.inl ⟨by rfl, ?_⟩) ?_ ?_
   rotate_left
   ·intro w'
    go_simp
    with_reducible rfl
   rotate_left
   ·simp only [Act.put, List.setIfInBounds_toArray, List.set_cons_zero, List.set_cons_succ, i64_w, i32_w]
    rfl
   refine pure_ (i := 9) (N := some 11) (v := ?_) (a' := ?_) #[true, true, true, true, true, true, true, true, true, true, false, false, false] rfl rfl (by kernel_rfl) (fun _ _ _ h => h) (Or.inl ⟨by rfl, ?_⟩) ?_ ?_
   rotate_left
   ·intro w'
    go_simp
    with_reducible rfl
   rotate_left
   ·simp only [Act.put, List.setIfInBounds_toArray, List.set_cons_zero, List.set_cons_succ, i64_w, i32_w]
    rfl
   refine pure_ (i := 10) (N := some 12) (v := ?_) (a' := ?_) #[true, true, true, true, true, true, true, true, true, true, true, false, false] rfl rfl (by kernel_rfl) (fun _ _ _ h => h) (Or.inl ⟨by rfl, ?_⟩) ?_ ?_
   rotate_left
   ·intro w'
    go_simp
    with_reducible rfl
   rotate_left
   ·simp only [Act.put, List.setIfInBounds_toArray, List.set_cons_zero, List.set_cons_succ, i64_w, i32_w]
    rfl
   refine pure_ (i := 11) (N := some 13) (v := ?_) (a' := ?_) #[true, true, true, true, true, true, true, true, true, true, true, true, false] rfl rfl (by kernel_rfl) (fun _ _ _ h => h) (Or.inl ⟨by rfl, ?_⟩) ?_ ?_
   rotate_left
   ·intro w'
    go_simp
    with_reducible rfl
   rotate_left
   ·simp only [Act.put, List.setIfInBounds_toArray, List.set_cons_zero, List.set_cons_succ, i64_w, i32_w]
    rfl
   refine take_ (i := 12) (N := some 14) (v := ?_) (a' := ?_) #[true, true, true, true, true, true, true, true, true, true, true, true, true] rfl rfl (by kernel_rfl) (fun _ _ _ h => h) (Or.inl ⟨by rfl, ?_⟩) hHeld ?_ ?_
   rotate_left
   ·rintro w' ⟨s0, s1⟩
    go_simp
    with_reducible rfl
   rotate_left
   ·simp only [Act.put, List.setIfInBounds_toArray, List.set_cons_zero, List.set_cons_succ, i64_w, i32_w]
    rfl
   refine done_ (by kernel_rfl) ?_
   go_wp2_with (go_at_call 47; (with_reducible refine (rd_emit w0 _ g l s ⟨5, ⟨#[]⟩, 2⟩ hR0.out.drew HL.out).mono ?_); rintro e w' ⟨rfl, hw⟩)
   first | go_end0 | ((try simp only [Exit.inBlock, Exit.then]); refine bodyPost_ret (results_none rfl _ _ _) rfl ?_)
   exact ⟨rfl, by rw [HQ.out]; exact hw⟩
  ·replace c2 := eq_false_of_ne_true c2
   have HQ := Aside0.mk (show s.joined t.f1 = s by unfold Rd.joined; rw [if_neg (by rw [c1]; simp), if_neg (by rw [c2]; simp)])
   go_enter Tryz.func49, Tryz.ntmps49
   go_wp2
   refine start_ (n := 13) (S := fun w' => w'.cell? ⟨g, 3, none⟩ = some (.slice (some ⟨gs, 0, none⟩) (q.length + 1) cap) ∧ w'.cell? ⟨gs, q.length * 4 + 3, none⟩ = some (.string t.f1)) (ds := []) #[false, false, false, false, false, false, false, false, false, false, false, false, false] (by kernel_rfl) rfl rfl ⟨HT.out.cell.2.2.2.1, HX3.out⟩ (fun hHeld => ?_)
   refine pure_ (i := 0) (N := some 2) (v := ?_) (a' := ?_) #[true, false, false, false, false, false, false, false, false, false, false, false, false] rfl rfl (by kernel_rfl) (fun _ _ _ h => h) (Or.inl ⟨by rfl, ?_⟩) ?_ ?_
   rotate_left
   ·intro w'
    go_simp
    with_reducible rfl
   rotate_left
   ·simp only [Act.put, List.setIfInBounds_toArray, List.set_cons_zero, List.set_cons_succ, i64_w, i32_w]
    rfl
   refine pure_ (i := 1) (N := some 3) (v := ?_) (a' := ?_) #[true, true, false, false, false, false, false, false, false, false, false, false, false] rfl rfl (by kernel_rfl) (fun _ _ _ h => h) (Or.inl ⟨by rfl, ?_⟩) ?_ ?_
   rotate_left
   ·intro w'
    go_simp
    with_reducible rfl
   rotate_left
   ·simp only [Act.put, List.setIfInBounds_toArray, List.set_cons_zero, List.set_cons_succ, i64_w, i32_w]
    rfl
   refine pure_ (i := 2) (N := some 4) (v := ?_) (a' := ?_) #[true, true, true, false, false, false, false, false, false, false, false, false, false] rfl rfl (by kernel_rfl) (fun _ _ _ h => h) (Or.inl ⟨by rfl, ?_⟩) ?_ ?_
   rotate_left
   ·intro w'
    go_simp
    with_reducible rfl
   rotate_left
   ·simp only [Act.put, List.setIfInBounds_toArray, List.set_cons_zero, List.set_cons_succ, i64_w, i32_w]
    rfl
   refine pure_ (i := 4) (N := some 6) (v := ?_) (a' := ?_) #[true, true, true, false, true, false, false, false, false, false, false, false, false] rfl rfl (by kernel_rfl) (fun _ _ _ h => h) (Or.inl ⟨by rfl, ?_⟩) ?_ ?_
   rotate_left
   ·intro w'
    go_simp
    with_reducible rfl
   rotate_left
   ·simp only [Act.put, List.setIfInBounds_toArray, List.set_cons_zero, List.set_cons_succ, i64_w, i32_w]
    rfl
   refine pure_ (i := 5) (N := some 7) (v := ?_) (a' := ?_) #[true, true, true, false, true, true, false, false, false, false, false, false, false] rfl rfl (by kernel_rfl) (fun _ _ _ h => h) (Or.inl ⟨by rfl, ?_⟩) ?_ ?_
   rotate_left
   ·intro w'
    go_simp
    with_reducible rfl
   rotate_left
   ·simp only [Act.put, List.setIfInBounds_toArray, List.set_cons_zero, List.set_cons_succ, i64_w, i32_w]
    rfl
   refine pure_ (i := 6) (N := some 8) (v := ?_) (a' := ?_) #[true, true, true, false, true, true, true, false, false, false, false, false, false] rfl rfl (by kernel_rfl) (fun _ _ _ h => h) (Or.inl ⟨by rfl, ?_⟩) ?_ ?_
   rotate_left
   ·intro w'
    go_simp
    with_reducible rfl
   rotate_left
   ·simp only [Act.put, List.setIfInBounds_toArray, List.set_cons_zero, List.set_cons_succ, i64_w, i32_w]
    rfl
   refine take_ (i := 3) (N := some 5) (v := ?_) (a' := ?_) #[true, true, true, true, true, true, true, false, false, false, false, false, false] rfl rfl (by kernel_rfl) (fun _ _ _ h => h) (Or.inl ⟨by rfl, ?_⟩) hHeld ?_ ?_
   rotate_left
   ·rintro w' ⟨s0, s1⟩
    go_simp
    with_reducible rfl
   rotate_left
   ·simp only [Act.put, List.setIfInBounds_toArray, List.set_cons_zero, List.set_cons_succ, i64_w, i32_w]
    rfl
   refine take_ (i := 7) (N := some 9) (v := ?_) (a' := ?_) #[true, true, true, true, true, true, true, true, false, false, false, false, false] rfl rfl (by kernel_rfl) (fun _ _ _ h => h) (Or.inl ⟨by rfl, ?_⟩) hHeld ?_ ?_
   rotate_left
   ·rintro w' ⟨s0, s1⟩
    go_simp
    with_reducible rfl
   rotate_left
   ·simp only [Act.put, List.setIfInBounds_toArray, List.set_cons_zero, List.set_cons_succ, i64_w, i32_w]
    rfl
   refine pure_ (i := 8) (N := some 10) (v := ?_) (a' := ?_) #[true, true, true, true, true, true, true, true, true, false, false, false, false] rfl rfl (by kernel_rfl) (fun _ _ _ h => h) (Or.inl ⟨by rfl, ?_⟩) ?_ ?_
   rotate_left
   ·intro w'
    go_simp
    with_reducible rfl
   rotate_left
   ·simp only [Act.put, List.setIfInBounds_toArray, List.set_cons_zero, List.set_cons_succ, i64_w, i32_w]
    rfl
   refine pure_ (i := 9) (N := some 11) (v := ?_) (a' := ?_) #[true, true, true, true, true, true, true, true, true, true, false, false, false] rfl rfl (by kernel_rfl) (fun _ _ _ h => h) (Or.inl ⟨by rfl, ?_⟩) ?_ ?_
   rotate_left
   ·intro w'
    go_simp
    with_reducible rfl
   rotate_left
   ·simp only [Act.put, List.setIfInBounds_toArray, List.set_cons_zero, List.set_cons_succ, i64_w, i32_w]
    rfl
   refine pure_ (i := 10) (N := some 12) (v := ?_) (a' := ?_) #[true, true, true, true, true, true, true, true, true, true, true, false, false] rfl rfl (by kernel_rfl) (fun _ _ _ h => h) (Or.inl ⟨by rfl, ?_⟩) ?_ ?_
   rotate_left
   ·intro w'
    go_simp
    with_reducible rfl
   rotate_left
   ·simp only [Act.put, List.setIfInBounds_toArray, List.set_cons_zero, List.set_cons_succ, i64_w, i32_w]
    rfl
   refine pure_ (i := 11) (N := some 13) (v := ?_) (a' := ?_) #[true, true, true, true, true, true, true, true, true, true, true, true, false] rfl rfl (by kernel_rfl) (fun _ _ _ h => h) (Or.inl ⟨by rfl, ?_⟩) ?_ ?_
   rotate_left
   ·intro w'
    go_simp
    with_reducible rfl
   rotate_left
   ·simp only [Act.put, List.setIfInBounds_toArray, List.set_cons_zero, List.set_cons_succ, i64_w, i32_w]
    rfl
   refine take_ (i := 12) (N := some 14) (v := ?_) (a' := ?_) #[true, true, true, true, true, true, true, true, true, true, true, true, true] rfl rfl (by kernel_rfl) (fun _ _ _ h => h) (Or.inl ⟨by rfl, ?_⟩) hHeld ?_ ?_
   rotate_left
   ·rintro w' ⟨s0, s1⟩
    go_simp
    with_reducible rfl
   rotate_left
   ·simp only [Act.put, List.setIfInBounds_toArray, List.set_cons_zero, List.set_cons_succ, i64_w, i32_w]
    rfl
   refine done_ (by kernel_rfl) ?_
   go_wp2
   first | go_end0 | ((try simp only [Exit.inBlock, Exit.then]); refine bodyPost_ret (results_none rfl _ _ _) rfl ?_)
   exact ⟨rfl, by rw [HQ.out]; exact hR0.out.drew⟩
theorem rd_is0 (w0 w : World) (g : Nat) (l : List S48) (s : Rd) (sign : ByteArray) (b : Bool) (hR : RS w0 w g l s) (hi : s.i ≤ 100000000000000) (hb : sg l (s.i) sign = b) :
  Calls Tryz.prog 45 #[.pointer (some ⟨g, 0, none⟩), .int .i64 0, .string sign] w fun en w' => en = .returned (.bool b) ∧ w = w' := by
 subst hb
 exact rd_is w0 w g l s 0 sign hR (by omega)
theorem rd_push0 (w0 w : World) (g : Nat) (l : List S48) (s : Rd) (n : S38) (hR : RS w0 w g l s) (hi : s.i ≤ 100000000000000) :
  Calls Tryz.prog 46 #[.pointer (some ⟨g, 0, none⟩), .agg #[.int .i64 n.f0, .string n.f1, .int .i64 n.f2], .int .i64 0] w fun en w' => en = .returned (.tuple #[]) ∧ RS w0 w' g l (s.push n 0) := rd_push w0 w g l s n 0 hR (by omega)
theorem rd_is1 (w0 w : World) (g : Nat) (l : List S48) (s : Rd) (sign : ByteArray) (b : Bool) (hR : RS w0 w g l s) (hi : s.i ≤ 100000000000000) (hb : sg l (s.i + 1) sign = b) :
  Calls Tryz.prog 45 #[.pointer (some ⟨g, 0, none⟩), .int .i64 1, .string sign] w fun en w' => en = .returned (.bool b) ∧ w = w' := by
 subst hb
 exact rd_is w0 w g l s 1 sign hR (by omega)
theorem rd_push1 (w0 w : World) (g : Nat) (l : List S48) (s : Rd) (n : S38) (hR : RS w0 w g l s) (hi : s.i ≤ 100000000000000) :
  Calls Tryz.prog 46 #[.pointer (some ⟨g, 0, none⟩), .agg #[.int .i64 n.f0, .string n.f1, .int .i64 n.f2], .int .i64 1] w fun en w' => en = .returned (.tuple #[]) ∧ RS w0 w' g l (s.push n 1) := rd_push w0 w g l s n 1 hR (by omega)
set_option maxHeartbeats 8000000 in
set_option maxRecDepth 100000 in
theorem rd_proj (k : Nat) (w0 w : World) (g : Nat) (l : List S48) (s r : Rd) (name : ByteArray) (hR : RS w0 w g l s) (hi : s.i ≤ 10000000000000) (h : s.proj k l name = some r) :
  Calls Tryz.prog 48 #[.pointer (some ⟨g, 0, none⟩), .string name] w fun en w' => en = .returned (.tuple #[]) ∧ RS w0 w' g l r := by
 obtain ⟨A0, c0, vo, vs, H⟩ := hR
 have hg := H.lt
 have H0 := Aside0.mk H
 obtain ⟨h0, h1, h2, h3, h4⟩ := H.cell
 have hf1 := H.frozen 1
 have hf4 := H.frozen 4
 have HR := Aside0.mk h
 clear h
 obtain ⟨j, hjj⟩ : ∃ j, s.i + 2 = j := ⟨_, rfl⟩
 have hj2 : s.i + 3 = j + 1 := by omega
 have e1 : (s.i : Int) + 2 = (j : Int) := by omega
 have e2 : j ≤ 20000000000000 := by omega
 have HJ := Aside0.mk hjj
 have HJ2 := Aside0.mk hj2
 have HRS : ∀ W, Below (w.setCell ⟨g, 1, none⟩ (.int .i64 (j : Int))).heap.size (w.setCell ⟨g, 1, none⟩ (.int .i64 (j : Int))) W → RSx w0 W g l (j : Int) s.out s.st s.e A0 c0 vo vs := fun W hb => (H0.out.set_at (j : Int)).below hb
 have HA := Aside0.mk (HRS _ (below_drew (Below.refl _ _)))
 have HRS' := Aside0.mk HRS
 clear HRS hjj hj2
 by_cases hj : j < l.length
 ·obtain ⟨ad, rfl, hx0, hx1, hx2⟩ := HA.out.tok hj
  have HT := Aside0.mk (tok_some hj)
  obtain ⟨t, ht⟩ : ∃ t, rd_T48 l (j : Int) = t := ⟨_, rfl⟩
  rw [ht] at hx0 hx1 hx2 HT
  have HX0 := Aside0.mk hx0
  have HX1 := Aside0.mk hx1
  have q1 : (j : Int) < (l.length : Int) := by omega
  have q2 : decide ((l.length : Int) ≤ (j : Int)) = false := decide_eq_false (by omega)
  have q3 : decide (l.length ≤ j) = false := decide_eq_false (by omega)
  clear ht hx0 hx1 hx2 hj H
  by_cases c : t.f0 = 2
  ·have cb := beq_iff_eq.mpr c
   have cc := bne_eq_false_iff_eq.mpr c
   replace HR := Aside0.mk (show ((lex_Number.f k t.f1).bind fun p => if p.1 < 1 then some { s with i := j, e := 5 } else if 8 < p.1 then some { s with i := j, e := 5 } else if sg l (j + 1) ⟨#[40]⟩ = true then some ({ s with i := j }.push ⟨6, name, p.1⟩ 1) else some { s with i := j + 1, e := 2 }) = some r by have := HR.out; unfold Rd.proj at this; rw [HJ.out, HT.out, HJ2.out] at this; simpa only [if_pos c] using this)
   obtain ⟨p, hp, hr⟩ := Option.bind_eq_some_iff.1 HR.out
   have HP := Aside0.mk hp
   replace HR := Aside0.mk hr
   clear hp hr c
   go_enter Tryz.func48, Tryz.ntmps48
   go_wp2
   refine start_ (n := 25) (S := fun w' => w'.cell? ⟨g, 1, none⟩ = some (.int .i64 (j : Int)) ∧ w'.cell? ⟨g, 0, none⟩ = some (.slice (some ad) l.length c0) ∧ w'.cell? (ad.add (j * 3)) = some (.int .i64 t.f0) ∧ w'.cell? ⟨(ad.add (j * 3)).block, (ad.add (j * 3)).off + 1, none⟩ = some (.string t.f1)) (ds := []) #[false, false, false, false, false, false, false, false, false, false, false, false, false, false, false, false, false, false, false, false, false, false, false, false, false] (by kernel_rfl) rfl rfl ⟨HA.out.cell.2.1, HA.out.cell.1, HX0.out, HX1.out⟩ (fun hHeld => ?_)
   refine pure_ (i := 0) (N := some 14) (v := ?_) (a' := ?_) #[true, false, false, false, false, false, false, false, false, false, false, false, false, false, false, false, false, false, false, false, false, false, false, false, false] rfl rfl (by kernel_rfl) (fun _ _ _ h => h) (Or.inl ⟨by rfl, ?_⟩) ?_ ?_
   rotate_left
   ·intro w'
    go_simp
    with_reducible rfl
   rotate_left
   ·simp only [Act.put, List.setIfInBounds_toArray, List.set_cons_zero, List.set_cons_succ, i64_w, i32_w]
    rfl
   refine pure_ (i := 1) (N := some 15) (v := ?_) (a' := ?_) #[true, true, false, false, false, false, false, false, false, false, false, false, false, false, false, false, false, false, false, false, false, false, false, false, false] rfl rfl (by kernel_rfl) (fun _ _ _ h => h) (Or.inl ⟨by rfl, ?_⟩) ?_ ?_
   rotate_left
   ·intro w'
    go_simp
    with_reducible rfl
   rotate_left
   ·simp only [Act.put, List.setIfInBounds_toArray, List.set_cons_zero, List.set_cons_succ, i64_w, i32_w]
    rfl
   refine pure_ (i := 2) (N := some 16) (v := ?_) (a' := ?_) #[true, true, true, false, false, false, false, false, false, false, false, false, false, false, false, false, false, false, false, false, false, false, false, false, false] rfl rfl (by kernel_rfl) (fun _ _ _ h => h) (Or.inl ⟨by rfl, ?_⟩) ?_ ?_
   rotate_left
   ·intro w'
    go_simp
    with_reducible rfl
   rotate_left
   ·simp only [Act.put, List.setIfInBounds_toArray, List.set_cons_zero, List.set_cons_succ, i64_w, i32_w]
    rfl
   refine pure_ (i := 4) (N := some 18) (v := ?_) (a' := ?_) #[true, true, true, false, true, false, false, false, false, false, false, false, false, false, false, false, false, false, false, false, false, false, false, false, false] rfl rfl (by kernel_rfl) (fun _ _ _ h => h) (Or.inl ⟨by rfl, ?_⟩) ?_ ?_
   rotate_left
   ·intro w'
    go_simp
    with_reducible rfl
   rotate_left
   ·simp only [Act.put, List.setIfInBounds_toArray, List.set_cons_zero, List.set_cons_succ, i64_w, i32_w]
    rfl
   refine pure_ (i := 5) (N := some 19) (v := ?_) (a' := ?_) #[true, true, true, false, true, true, false, false, false, false, false, false, false, false, false, false, false, false, false, false, false, false, false, false, false] rfl rfl (by kernel_rfl) (fun _ _ _ h => h) (Or.inl ⟨by rfl, ?_⟩) ?_ ?_
   rotate_left
   ·intro w'
    go_simp
    with_reducible rfl
   rotate_left
   ·simp only [Act.put, List.setIfInBounds_toArray, List.set_cons_zero, List.set_cons_succ, i64_w, i32_w]
    rfl
   refine pure_ (i := 6) (N := some 20) (v := ?_) (a' := ?_) #[true, true, true, false, true, true, true, false, false, false, false, false, false, false, false, false, false, false, false, false, false, false, false, false, false] rfl rfl (by kernel_rfl) (fun _ _ _ h => h) (Or.inl ⟨by rfl, ?_⟩) ?_ ?_
   rotate_left
   ·intro w'
    go_simp
    with_reducible rfl
   rotate_left
   ·simp only [Act.put, List.setIfInBounds_toArray, List.set_cons_zero, List.set_cons_succ, i64_w, i32_w]
    rfl
   refine take_ (i := 3) (N := some 17) (v := ?_) (a' := ?_) #[true, true, true, true, true, true, true, false, false, false, false, false, false, false, false, false, false, false, false, false, false, false, false, false, false] rfl rfl (by kernel_rfl) (fun _ _ _ h => h) (Or.inl ⟨by rfl, ?_⟩) hHeld ?_ ?_
   rotate_left
   ·rintro w' ⟨s0, s1, s2, s3⟩
    go_simp
    with_reducible rfl
   rotate_left
   ·simp only [Act.put, List.setIfInBounds_toArray, List.set_cons_zero, List.set_cons_succ, i64_w, i32_w]
    rfl
   refine take_ (i := 7) (N := some 21) (v := ?_) (a' := ?_) #[true, true, true, true, true, true, true, true, false, false, false, false, false, false, false, false, false, false, false, false, false, false, false, false, false] rfl rfl (by kernel_rfl) (fun _ _ _ h => h) (Or.inl ⟨by rfl, ?_⟩) hHeld ?_ ?_
   rotate_left
   ·rintro w' ⟨s0, s1, s2, s3⟩
    go_simp
    with_reducible rfl
   rotate_left
   ·simp only [Act.put, List.setIfInBounds_toArray, List.set_cons_zero, List.set_cons_succ, i64_w, i32_w]
    rfl
   refine pure_ (i := 8) (N := some 22) (v := ?_) (a' := ?_) #[true, true, true, true, true, true, true, true, true, false, false, false, false, false, false, false, false, false, false, false, false, false, false, false, false] rfl rfl (by kernel_rfl) (fun _ _ _ h => h) (Or.inl ⟨by rfl, ?_⟩) ?_ ?_
   rotate_left
   ·intro w'
    go_simp
    with_reducible rfl
   rotate_left
   ·simp only [Act.put, List.setIfInBounds_toArray, List.set_cons_zero, List.set_cons_succ, i64_w, i32_w]
    rfl
   refine pure_ (i := 9) (N := some 23) (v := ?_) (a' := ?_) #[true, true, true, true, true, true, true, true, true, true, false, false, false, false, false, false, false, false, false, false, false, false, false, false, false] rfl rfl (by kernel_rfl) (fun _ _ _ h => h) (Or.inl ⟨by rfl, ?_⟩) ?_ ?_
   rotate_left
   ·intro w'
    go_simp
    with_reducible rfl
   rotate_left
   ·simp only [Act.put, List.setIfInBounds_toArray, List.set_cons_zero, List.set_cons_succ, i64_w, i32_w]
    rfl
   refine pure_ (i := 10) (N := some 24) (v := ?_) (a' := ?_) #[true, true, true, true, true, true, true, true, true, true, true, false, false, false, false, false, false, false, false, false, false, false, false, false, false] rfl rfl (by kernel_rfl) (fun _ _ _ h => h) (Or.inl ⟨by rfl, ?_⟩) ?_ ?_
   rotate_left
   ·intro w'
    go_simp
    with_reducible rfl
   rotate_left
   ·simp only [Act.put, List.setIfInBounds_toArray, List.set_cons_zero, List.set_cons_succ, i64_w, i32_w]
    rfl
   refine pure_ (i := 11) (N := some 25) (v := ?_) (a' := ?_) #[true, true, true, true, true, true, true, true, true, true, true, true, false, false, false, false, false, false, false, false, false, false, false, false, false] rfl rfl (by kernel_rfl) (fun _ _ _ h => h) (Or.inl ⟨by rfl, ?_⟩) ?_ ?_
   rotate_left
   ·intro w'
    go_simp
    with_reducible rfl
   rotate_left
   ·simp only [Act.put, List.setIfInBounds_toArray, List.set_cons_zero, List.set_cons_succ, i64_w, i32_w]
    rfl
   refine pure_ (i := 12) (N := some 26) (v := ?_) (a' := ?_) #[true, true, true, true, true, true, true, true, true, true, true, true, true, false, false, false, false, false, false, false, false, false, false, false, false] rfl rfl (by kernel_rfl) (fun _ _ _ h => h) (Or.inl ⟨by rfl, ?_⟩) ?_ ?_
   rotate_left
   ·intro w'
    go_simp
    with_reducible rfl
   rotate_left
   ·simp only [Act.put, List.setIfInBounds_toArray, List.set_cons_zero, List.set_cons_succ, i64_w, i32_w]
    rfl
   refine pure_ (i := 13) (N := some 27) (v := ?_) (a' := ?_) #[true, true, true, true, true, true, true, true, true, true, true, true, true, true, false, false, false, false, false, false, false, false, false, false, false] rfl rfl (by kernel_rfl) (fun _ _ _ h => h) (Or.inl ⟨by rfl, ?_⟩) ?_ ?_
   rotate_left
   ·intro w'
    go_simp
    with_reducible rfl
   rotate_left
   ·simp only [Act.put, List.setIfInBounds_toArray, List.set_cons_zero, List.set_cons_succ, i64_w, i32_w]
    rfl
   refine pure_ (i := 15) (N := some 29) (v := ?_) (a' := ?_) #[true, true, true, true, true, true, true, true, true, true, true, true, true, true, false, true, false, false, false, false, false, false, false, false, false] rfl rfl (by kernel_rfl) (fun _ _ _ h => h) (Or.inl ⟨by rfl, ?_⟩) ?_ ?_
   rotate_left
   ·intro w'
    go_simp
    with_reducible rfl
   rotate_left
   ·simp only [Act.put, List.setIfInBounds_toArray, List.set_cons_zero, List.set_cons_succ, i64_w, i32_w]
    rfl
   refine pure_ (i := 16) (N := some 30) (v := ?_) (a' := ?_) #[true, true, true, true, true, true, true, true, true, true, true, true, true, true, false, true, true, false, false, false, false, false, false, false, false] rfl rfl (by kernel_rfl) (fun _ _ _ h => h) (Or.inl ⟨by rfl, ?_⟩) ?_ ?_
   rotate_left
   ·intro w'
    go_simp
    with_reducible rfl
   rotate_left
   ·simp only [Act.put, List.setIfInBounds_toArray, List.set_cons_zero, List.set_cons_succ, i64_w, i32_w]
    rfl
   refine pure_ (i := 17) (N := some 31) (v := ?_) (a' := ?_) #[true, true, true, true, true, true, true, true, true, true, true, true, true, true, false, true, true, true, false, false, false, false, false, false, false] rfl rfl (by kernel_rfl) (fun _ _ _ h => h) (Or.inl ⟨by rfl, ?_⟩) ?_ ?_
   rotate_left
   ·intro w'
    go_simp
    with_reducible rfl
   rotate_left
   ·simp only [Act.put, List.setIfInBounds_toArray, List.set_cons_zero, List.set_cons_succ, i64_w, i32_w]
    rfl
   refine take_ (i := 14) (N := some 28) (v := ?_) (a' := ?_) #[true, true, true, true, true, true, true, true, true, true, true, true, true, true, true, true, true, true, false, false, false, false, false, false, false] rfl rfl (by kernel_rfl) (fun _ _ _ h => h) (Or.inl ⟨by rfl, ?_⟩) hHeld ?_ ?_
   rotate_left
   ·rintro w' ⟨s0, s1, s2, s3⟩
    go_simp
    with_reducible rfl
   rotate_left
   ·simp only [Act.put, List.setIfInBounds_toArray, List.set_cons_zero, List.set_cons_succ, i64_w, i32_w]
    rfl
   refine take_ (i := 18) (N := some 32) (v := ?_) (a' := ?_) #[true, true, true, true, true, true, true, true, true, true, true, true, true, true, true, true, true, true, true, false, false, false, false, false, false] rfl rfl (by kernel_rfl) (fun _ _ _ h => h) (Or.inl ⟨by rfl, ?_⟩) hHeld ?_ ?_
   rotate_left
   ·rintro w' ⟨s0, s1, s2, s3⟩
    go_simp
    with_reducible rfl
   rotate_left
   ·simp only [Act.put, List.setIfInBounds_toArray, List.set_cons_zero, List.set_cons_succ, i64_w, i32_w]
    rfl
   refine pure_ (i := 19) (N := some 33) (v := ?_) (a' := ?_) #[true, true, true, true, true, true, true, true, true, true, true, true, true, true, true, true, true, true, true, true, false, false, false, false, false] rfl rfl (by kernel_rfl) (fun _ _ _ h => h) (Or.inl ⟨by rfl, ?_⟩) ?_ ?_
   rotate_left
   ·intro w'
    go_simp
    with_reducible rfl
   rotate_left
   ·simp only [Act.put, List.setIfInBounds_toArray, List.set_cons_zero, List.set_cons_succ, i64_w, i32_w]
    rfl
   refine pure_ (i := 20) (N := some 34) (v := ?_) (a' := ?_) #[true, true, true, true, true, true, true, true, true, true, true, true, true, true, true, true, true, true, true, true, true, false, false, false, false] rfl rfl (by kernel_rfl) (fun _ _ _ h => h) (Or.inl ⟨by rfl, ?_⟩) ?_ ?_
   rotate_left
   ·intro w'
    go_simp
    with_reducible rfl
   rotate_left
   ·simp only [Act.put, List.setIfInBounds_toArray, List.set_cons_zero, List.set_cons_succ, i64_w, i32_w]
    rfl
   refine take_ (i := 21) (N := some 35) (v := ?_) (a' := ?_) #[true, true, true, true, true, true, true, true, true, true, true, true, true, true, true, true, true, true, true, true, true, true, false, false, false] rfl rfl (by kernel_rfl) (fun _ _ _ h => h) (Or.inl ⟨by rfl, ?_⟩) hHeld ?_ ?_
   rotate_left
   ·rintro w' ⟨s0, s1, s2, s3⟩
    go_simp
    with_reducible rfl
   rotate_left
   ·simp only [Act.put, List.setIfInBounds_toArray, List.set_cons_zero, List.set_cons_succ, i64_w, i32_w]
    rfl
   refine pure_ (i := 22) (N := some 36) (v := ?_) (a' := ?_) #[true, true, true, true, true, true, true, true, true, true, true, true, true, true, true, true, true, true, true, true, true, true, true, false, false] rfl rfl (by kernel_rfl) (fun _ _ _ h => h) (Or.inl ⟨by rfl, ?_⟩) ?_ ?_
   rotate_left
   ·intro w'
    go_simp
    with_reducible rfl
   rotate_left
   ·simp only [Act.put, List.setIfInBounds_toArray, List.set_cons_zero, List.set_cons_succ, i64_w, i32_w]
    rfl
   refine pure_ (i := 23) (N := some 37) (v := ?_) (a' := ?_) #[true, true, true, true, true, true, true, true, true, true, true, true, true, true, true, true, true, true, true, true, true, true, true, true, false] rfl rfl (by kernel_rfl) (fun _ _ _ h => h) (Or.inl ⟨by rfl, ?_⟩) ?_ ?_
   rotate_left
   ·intro w'
    go_simp
    with_reducible rfl
   rotate_left
   ·simp only [Act.put, List.setIfInBounds_toArray, List.set_cons_zero, List.set_cons_succ, i64_w, i32_w]
    rfl
   refine pure_ (i := 24) (N := some 13) (v := ?_) (a' := ?_) #[true, true, true, true, true, true, true, true, true, true, true, true, true, true, true, true, true, true, true, true, true, true, true, true, true] rfl rfl (by kernel_rfl) (fun _ _ _ h => h) (Or.inl ⟨by rfl, ?_⟩) ?_ ?_
   rotate_left
   ·intro w'
    go_simp
    with_reducible rfl
   rotate_left
   ·simp only [Act.put, List.setIfInBounds_toArray, List.set_cons_zero, List.set_cons_succ, i64_w, i32_w]
    rfl
   refine done_ (by kernel_rfl) ?_
   go_wp2
   refine start_ (n := 17) (S := fun w' => w'.cell? ⟨g, 1, none⟩ = some (.int .i64 (j : Int)) ∧ w'.cell? ⟨g, 0, none⟩ = some (.slice (some ad) l.length c0) ∧ w'.cell? (ad.add (j * 3)) = some (.int .i64 t.f0) ∧ w'.cell? ⟨(ad.add (j * 3)).block, (ad.add (j * 3)).off + 1, none⟩ = some (.string t.f1)) (ds := [11]) #[false, false, false, false, false, false, false, false, false, false, false, false, false, false, false, false, false] (by kernel_rfl) rfl rfl ⟨HA.out.cell.2.1, HA.out.cell.1, HX0.out, HX1.out⟩ (fun hHeld => ?_)
   refine pure_ (i := 0) (N := some 42) (v := ?_) (a' := ?_) #[true, false, false, false, false, false, false, false, false, false, false, false, false, false, false, false, false] rfl rfl (by kernel_rfl) (fun _ _ _ h => h) (Or.inl ⟨by rfl, ?_⟩) ?_ ?_
   rotate_left
   ·intro w'
    go_simp
    with_reducible rfl
   rotate_left
   ·simp only [Act.put, List.setIfInBounds_toArray, List.set_cons_zero, List.set_cons_succ, i64_w, i32_w]
    rfl
   refine pure_ (i := 1) (N := some 43) (v := ?_) (a' := ?_) #[true, true, false, false, false, false, false, false, false, false, false, false, false, false, false, false, false] rfl rfl (by kernel_rfl) (fun _ _ _ h => h) (Or.inl ⟨by rfl, ?_⟩) ?_ ?_
   rotate_left
   ·intro w'
    go_simp
    with_reducible rfl
   rotate_left
   ·simp only [Act.put, List.setIfInBounds_toArray, List.set_cons_zero, List.set_cons_succ, i64_w, i32_w]
    rfl
   refine pure_ (i := 2) (N := some 44) (v := ?_) (a' := ?_) #[true, true, true, false, false, false, false, false, false, false, false, false, false, false, false, false, false] rfl rfl (by kernel_rfl) (fun _ _ _ h => h) (Or.inl ⟨by rfl, ?_⟩) ?_ ?_
   rotate_left
   ·intro w'
    go_simp
    with_reducible rfl
   rotate_left
   ·simp only [Act.put, List.setIfInBounds_toArray, List.set_cons_zero, List.set_cons_succ, i64_w, i32_w]
    rfl
   refine pure_ (i := 4) (N := some 46) (v := ?_) (a' := ?_) #[true, true, true, false, true, false, false, false, false, false, false, false, false, false, false, false, false] rfl rfl (by kernel_rfl) (fun _ _ _ h => h) (Or.inl ⟨by rfl, ?_⟩) ?_ ?_
   rotate_left
   ·intro w'
    go_simp
    with_reducible rfl
   rotate_left
   ·simp only [Act.put, List.setIfInBounds_toArray, List.set_cons_zero, List.set_cons_succ, i64_w, i32_w]
    rfl
   refine pure_ (i := 5) (N := some 47) (v := ?_) (a' := ?_) #[true, true, true, false, true, true, false, false, false, false, false, false, false, false, false, false, false] rfl rfl (by kernel_rfl) (fun _ _ _ h => h) (Or.inl ⟨by rfl, ?_⟩) ?_ ?_
   rotate_left
   ·intro w'
    go_simp
    with_reducible rfl
   rotate_left
   ·simp only [Act.put, List.setIfInBounds_toArray, List.set_cons_zero, List.set_cons_succ, i64_w, i32_w]
    rfl
   refine pure_ (i := 6) (N := some 48) (v := ?_) (a' := ?_) #[true, true, true, false, true, true, true, false, false, false, false, false, false, false, false, false, false] rfl rfl (by kernel_rfl) (fun _ _ _ h => h) (Or.inl ⟨by rfl, ?_⟩) ?_ ?_
   rotate_left
   ·intro w'
    go_simp
    with_reducible rfl
   rotate_left
   ·simp only [Act.put, List.setIfInBounds_toArray, List.set_cons_zero, List.set_cons_succ, i64_w, i32_w]
    rfl
   refine take_ (i := 3) (N := some 45) (v := ?_) (a' := ?_) #[true, true, true, true, true, true, true, false, false, false, false, false, false, false, false, false, false] rfl rfl (by kernel_rfl) (fun _ _ _ h => h) (Or.inl ⟨by rfl, ?_⟩) hHeld ?_ ?_
   rotate_left
   ·rintro w' ⟨s0, s1, s2, s3⟩
    go_simp
    with_reducible rfl
   rotate_left
   ·simp only [Act.put, List.setIfInBounds_toArray, List.set_cons_zero, List.set_cons_succ, i64_w, i32_w]
    rfl
   refine take_ (i := 7) (N := some 49) (v := ?_) (a' := ?_) #[true, true, true, true, true, true, true, true, false, false, false, false, false, false, false, false, false] rfl rfl (by kernel_rfl) (fun _ _ _ h => h) (Or.inl ⟨by rfl, ?_⟩) hHeld ?_ ?_
   rotate_left
   ·rintro w' ⟨s0, s1, s2, s3⟩
    go_simp
    with_reducible rfl
   rotate_left
   ·simp only [Act.put, List.setIfInBounds_toArray, List.set_cons_zero, List.set_cons_succ, i64_w, i32_w]
    rfl
   refine pure_ (i := 8) (N := some 50) (v := ?_) (a' := ?_) #[true, true, true, true, true, true, true, true, true, false, false, false, false, false, false, false, false] rfl rfl (by kernel_rfl) (fun _ _ _ h => h) (Or.inl ⟨by rfl, ?_⟩) ?_ ?_
   rotate_left
   ·intro w'
    go_simp
    with_reducible rfl
   rotate_left
   ·simp only [Act.put, List.setIfInBounds_toArray, List.set_cons_zero, List.set_cons_succ, i64_w, i32_w]
    rfl
   refine pure_ (i := 9) (N := some 51) (v := ?_) (a' := ?_) #[true, true, true, true, true, true, true, true, true, true, false, false, false, false, false, false, false] rfl rfl (by kernel_rfl) (fun _ _ _ h => h) (Or.inl ⟨by rfl, ?_⟩) ?_ ?_
   rotate_left
   ·intro w'
    go_simp
    with_reducible rfl
   rotate_left
   ·simp only [Act.put, List.setIfInBounds_toArray, List.set_cons_zero, List.set_cons_succ, i64_w, i32_w]
    rfl
   refine take_ (i := 10) (N := some 52) (v := ?_) (a' := ?_) #[true, true, true, true, true, true, true, true, true, true, true, false, false, false, false, false, false] rfl rfl (by kernel_rfl) (fun _ _ _ h => h) (Or.inl ⟨by rfl, ?_⟩) hHeld ?_ ?_
   rotate_left
   ·rintro w' ⟨s0, s1, s2, s3⟩
    go_simp
    with_reducible rfl
   rotate_left
   ·simp only [Act.put, List.setIfInBounds_toArray, List.set_cons_zero, List.set_cons_succ, i64_w, i32_w]
    rfl
   refine last_ (i := 11) (N := some 53) #[true, true, true, true, true, true, true, true, true, true, true, true, false, false, false, false, false] rfl rfl (by kernel_rfl) (by decide) (fun K hK => ?_)
   refine goes_ Tryz.func62 (by kernel_rfl) rfl #[.string t.f1] (by rfl) rfl rfl Zz16 ?_
   with_reducible refine (lex_Number.calls k t.f1 p.1 p.2 _ HP.out).mono ?_
   rintro e w3 ⟨rfl, hb⟩
   refine ⟨_, rfl, ?_⟩
   refine hK.out _ _ ?_
   clear hK K
   refine norm_ (a' := ?_) ?_ ?_
   rotate_left
   ·show Act.put _ (some 53) _ = _
    simp only [Act.put, List.setIfInBounds_toArray, List.set_cons_zero, List.set_cons_succ, i64_w, i32_w]
    rfl
   refine pure_ (i := 12) (N := some 41) (v := ?_) (a' := ?_) #[true, true, true, true, true, true, true, true, true, true, true, true, true, false, false, false, false] rfl rfl (by kernel_rfl) (fun _ _ _ h => h) (Or.inl ⟨by rfl, ?_⟩) ?_ ?_
   rotate_left
   ·intro w'
    go_simp
    with_reducible rfl
   rotate_left
   ·simp only [Act.put, List.setIfInBounds_toArray, List.set_cons_zero, List.set_cons_succ, i64_w, i32_w]
    rfl
   refine pure_ (i := 13) (N := some 54) (v := ?_) (a' := ?_) #[true, true, true, true, true, true, true, true, true, true, true, true, true, true, false, false, false] rfl rfl (by kernel_rfl) (fun _ _ _ h => h) (Or.inl ⟨by rfl, ?_⟩) ?_ ?_
   rotate_left
   ·intro w'
    go_simp
    with_reducible rfl
   rotate_left
   ·simp only [Act.put, List.setIfInBounds_toArray, List.set_cons_zero, List.set_cons_succ, i64_w, i32_w]
    rfl
   refine pure_ (i := 14) (N := some 55) (v := ?_) (a' := ?_) #[true, true, true, true, true, true, true, true, true, true, true, true, true, true, true, false, false] rfl rfl (by kernel_rfl) (fun _ _ _ h => h) (Or.inl ⟨by rfl, ?_⟩) ?_ ?_
   rotate_left
   ·intro w'
    go_simp
    with_reducible rfl
   rotate_left
   ·simp only [Act.put, List.setIfInBounds_toArray, List.set_cons_zero, List.set_cons_succ, i64_w, i32_w]
    rfl
   refine pure_ (i := 15) (N := some 4) (v := ?_) (a' := ?_) #[true, true, true, true, true, true, true, true, true, true, true, true, true, true, true, true, false] rfl rfl (by kernel_rfl) (fun _ _ _ h => h) (Or.inl ⟨by rfl, ?_⟩) ?_ ?_
   rotate_left
   ·intro w'
    go_simp
    with_reducible rfl
   rotate_left
   ·simp only [Act.put, List.setIfInBounds_toArray, List.set_cons_zero, List.set_cons_succ, i64_w, i32_w]
    rfl
   refine pure_ (i := 16) (N := some 5) (v := ?_) (a' := ?_) #[true, true, true, true, true, true, true, true, true, true, true, true, true, true, true, true, true] rfl rfl (by kernel_rfl) (fun _ _ _ h => h) (Or.inl ⟨by rfl, ?_⟩) ?_ ?_
   rotate_left
   ·intro w'
    go_simp
    with_reducible rfl
   rotate_left
   ·simp only [Act.put, List.setIfInBounds_toArray, List.set_cons_zero, List.set_cons_succ, i64_w, i32_w]
    rfl
   refine done_ (by kernel_rfl) ?_
   have HW := Aside0.mk (HRS'.out w3 ((below_drew (below_drew (Below.refl _ _))).trans (hb.mono (Nat.le_refl _))))
   have HS : Aside0 (RS w0 w3 g l { s with i := j }) := Aside0.mk ⟨some ad, c0, vo, vs, HW.out⟩
   obtain ⟨k0, k1, k2, k3, k4⟩ := HW.out.cell
   have kf4 := HW.out.frozen 4
   have kf1 := HW.out.frozen 1
   clear hb
   by_cases c1 : p.1 < 1
   ·have d1 := decide_eq_true c1
    have HQ := Aside0.mk (by have := HR.out; rw [if_pos c1] at this; exact (Option.some.inj this).symm)
    clear c1
    go_wp2
    first | go_end0 | ((try simp only [Exit.inBlock, Exit.then]); refine bodyPost_ret (results_none rfl _ _ _) rfl ?_)
    exact ⟨rfl, some ad, c0, vo, vs, by rw [HQ.out]; exact HW.out.set_e 5⟩
   ·have d1 := decide_eq_false c1
    replace HR := Aside0.mk (by have := HR.out; rwa [if_neg c1] at this)
    clear c1
    by_cases c2 : 8 < p.1
    ·have d2 := decide_eq_true c2
     have HQ := Aside0.mk (by have := HR.out; rw [if_pos c2] at this; exact (Option.some.inj this).symm)
     clear c2
     go_wp2
     first | go_end0 | ((try simp only [Exit.inBlock, Exit.then]); refine bodyPost_ret (results_none rfl _ _ _) rfl ?_)
     exact ⟨rfl, some ad, c0, vo, vs, by rw [HQ.out]; exact HW.out.set_e 5⟩
    ·have d2 := decide_eq_false c2
     replace HR := Aside0.mk (by have := HR.out; rwa [if_neg c2] at this)
     clear c2
     by_cases c3 : sg l (j + 1) ⟨#[40]⟩ = true
     ·have HQ := Aside0.mk (by have := HR.out; rw [if_pos c3] at this; exact (Option.some.inj this).symm)
      have HC := Aside0.mk c3
      clear c3
      go_wp2_with (first | (go_at_call 45; (with_reducible refine (rd_is1 w0 _ g l { s with i := j } ⟨#[40]⟩ true HS.out (by show j ≤ _; omega) HC.out).mono ?_); rintro e w' ⟨rfl, rfl⟩) | (go_at_call 46; (with_reducible refine (rd_push1 w0 _ g l { s with i := j } ⟨6, name, p.1⟩ HS.out (by show j ≤ _; omega)).mono ?_); rintro e w' ⟨rfl, hw⟩; have HF := Aside0.mk hw; clear hw))
      first | go_end0 | ((try simp only [Exit.inBlock, Exit.then]); refine bodyPost_ret (results_none rfl _ _ _) rfl ?_)
      exact ⟨rfl, by rw [HQ.out]; exact HF.out⟩
     ·have c3' := eq_false_of_ne_true c3
      have HQ := Aside0.mk (by have := HR.out; rw [if_neg c3] at this; exact (Option.some.inj this).symm)
      have HC := Aside0.mk c3'
      clear c3 c3'
      go_wp2_with (go_at_call 45; (with_reducible refine (rd_is1 w0 _ g l { s with i := j } ⟨#[40]⟩ false HS.out (by show j ≤ _; omega) HC.out).mono ?_); rintro e w' ⟨rfl, rfl⟩)
      first | go_end0 | ((try simp only [Exit.inBlock, Exit.then]); refine bodyPost_ret (results_none rfl _ _ _) rfl ?_)
      exact ⟨rfl, some ad, c0, vo, vs, by rw [HQ.out]; exact (HW.out.set_at _).set_e 2⟩
  ·have cb := beq_eq_false_iff_ne.mpr c
   have cc := bne_iff_ne.mpr c
   have HQ := Aside0.mk (show r = { s with i := j, e := 2 } by have := HR.out; unfold Rd.proj at this; rw [HJ.out, HT.out] at this; simp only [if_neg c] at this; exact (Option.some.inj this).symm)
   have hf4' := HA.out.frozen 4
   have h4' := HA.out.cell.2.2.2.2
   clear c
   go_enter Tryz.func48, Tryz.ntmps48
   go_wp2
   refine start_ (n := 25) (S := fun w' => w'.cell? ⟨g, 1, none⟩ = some (.int .i64 (j : Int)) ∧ w'.cell? ⟨g, 0, none⟩ = some (.slice (some ad) l.length c0) ∧ w'.cell? (ad.add (j * 3)) = some (.int .i64 t.f0) ∧ w'.cell? ⟨(ad.add (j * 3)).block, (ad.add (j * 3)).off + 1, none⟩ = some (.string t.f1)) (ds := []) #[false, false, false, false, false, false, false, false, false, false, false, false, false, false, false, false, false, false, false, false, false, false, false, false, false] (by kernel_rfl) rfl rfl ⟨HA.out.cell.2.1, HA.out.cell.1, HX0.out, HX1.out⟩ (fun hHeld => ?_)
   refine pure_ (i := 0) (N := some 14) (v := ?_) (a' := ?_) #[true, false, false, false, false, false, false, false, false, false, false, false, false, false, false, false, false, false, false, false, false, false, false, false, false] rfl rfl (by kernel_rfl) (fun _ _ _ h => h) (Or.inl ⟨by rfl, ?_⟩) ?_ ?_
   rotate_left
   ·intro w'
    go_simp
    with_reducible rfl
   rotate_left
   ·simp only [Act.put, List.setIfInBounds_toArray, List.set_cons_zero, List.set_cons_succ, i64_w, i32_w]
    rfl
   refine pure_ (i := 1) (N := some 15) (v := ?_) (a' := ?_) #[true, true, false, false, false, false, false, false, false, false, false, false, false, false, false, false, false, false, false, false, false, false, false, false, false] rfl rfl (by kernel_rfl) (fun _ _ _ h => h) (Or.inl ⟨by rfl, ?_⟩) ?_ ?_
   rotate_left
   ·intro w'
    go_simp
    with_reducible rfl
   rotate_left
   ·simp only [Act.put, List.setIfInBounds_toArray, List.set_cons_zero, List.set_cons_succ, i64_w, i32_w]
    rfl
   refine pure_ (i := 2) (N := some 16) (v := ?_) (a' := ?_) #[true, true, true, false, false, false, false, false, false, false, false, false, false, false, false, false, false, false, false, false, false, false, false, false, false] rfl rfl (by kernel_rfl) (fun _ _ _ h => h) (Or.inl ⟨by rfl, ?_⟩) ?_ ?_
   rotate_left
   ·intro w'
    go_simp
    with_reducible rfl
   rotate_left
   ·simp only [Act.put, List.setIfInBounds_toArray, List.set_cons_zero, List.set_cons_succ, i64_w, i32_w]
    rfl
   refine pure_ (i := 4) (N := some 18) (v := ?_) (a' := ?_) #[true, true, true, false, true, false, false, false, false, false, false, false, false, false, false, false, false, false, false, false, false, false, false, false, false] rfl rfl (by kernel_rfl) (fun _ _ _ h => h) (Or.inl ⟨by rfl, ?_⟩) ?_ ?_
   rotate_left
   ·intro w'
    go_simp
    with_reducible rfl
   rotate_left
   ·simp only [Act.put, List.setIfInBounds_toArray, List.set_cons_zero, List.set_cons_succ, i64_w, i32_w]
    rfl
   refine pure_ (i := 5) (N := some 19) (v := ?_) (a' := ?_) #[true, true, true, false, true, true, false, false, false, false, false, false, false, false, false, false, false, false, false, false, false, false, false, false, false] rfl rfl (by kernel_rfl) (fun _ _ _ h => h) (Or.inl ⟨by rfl, ?_⟩) ?_ ?_
   rotate_left
   ·intro w'
    go_simp
    with_reducible rfl
   rotate_left
   ·simp only [Act.put, List.setIfInBounds_toArray, List.set_cons_zero, List.set_cons_succ, i64_w, i32_w]
    rfl
   refine pure_ (i := 6) (N := some 20) (v := ?_) (a' := ?_) #[true, true, true, false, true, true, true, false, false, false, false, false, false, false, false, false, false, false, false, false, false, false, false, false, false] rfl rfl (by kernel_rfl) (fun _ _ _ h => h) (Or.inl ⟨by rfl, ?_⟩) ?_ ?_
   rotate_left
   ·intro w'
    go_simp
    with_reducible rfl
   rotate_left
   ·simp only [Act.put, List.setIfInBounds_toArray, List.set_cons_zero, List.set_cons_succ, i64_w, i32_w]
    rfl
   refine take_ (i := 3) (N := some 17) (v := ?_) (a' := ?_) #[true, true, true, true, true, true, true, false, false, false, false, false, false, false, false, false, false, false, false, false, false, false, false, false, false] rfl rfl (by kernel_rfl) (fun _ _ _ h => h) (Or.inl ⟨by rfl, ?_⟩) hHeld ?_ ?_
   rotate_left
   ·rintro w' ⟨s0, s1, s2, s3⟩
    go_simp
    with_reducible rfl
   rotate_left
   ·simp only [Act.put, List.setIfInBounds_toArray, List.set_cons_zero, List.set_cons_succ, i64_w, i32_w]
    rfl
   refine take_ (i := 7) (N := some 21) (v := ?_) (a' := ?_) #[true, true, true, true, true, true, true, true, false, false, false, false, false, false, false, false, false, false, false, false, false, false, false, false, false] rfl rfl (by kernel_rfl) (fun _ _ _ h => h) (Or.inl ⟨by rfl, ?_⟩) hHeld ?_ ?_
   rotate_left
   ·rintro w' ⟨s0, s1, s2, s3⟩
    go_simp
    with_reducible rfl
   rotate_left
   ·simp only [Act.put, List.setIfInBounds_toArray, List.set_cons_zero, List.set_cons_succ, i64_w, i32_w]
    rfl
   refine pure_ (i := 8) (N := some 22) (v := ?_) (a' := ?_) #[true, true, true, true, true, true, true, true, true, false, false, false, false, false, false, false, false, false, false, false, false, false, false, false, false] rfl rfl (by kernel_rfl) (fun _ _ _ h => h) (Or.inl ⟨by rfl, ?_⟩) ?_ ?_
   rotate_left
   ·intro w'
    go_simp
    with_reducible rfl
   rotate_left
   ·simp only [Act.put, List.setIfInBounds_toArray, List.set_cons_zero, List.set_cons_succ, i64_w, i32_w]
    rfl
   refine pure_ (i := 9) (N := some 23) (v := ?_) (a' := ?_) #[true, true, true, true, true, true, true, true, true, true, false, false, false, false, false, false, false, false, false, false, false, false, false, false, false] rfl rfl (by kernel_rfl) (fun _ _ _ h => h) (Or.inl ⟨by rfl, ?_⟩) ?_ ?_
   rotate_left
   ·intro w'
    go_simp
    with_reducible rfl
   rotate_left
   ·simp only [Act.put, List.setIfInBounds_toArray, List.set_cons_zero, List.set_cons_succ, i64_w, i32_w]
    rfl
   refine pure_ (i := 10) (N := some 24) (v := ?_) (a' := ?_) #[true, true, true, true, true, true, true, true, true, true, true, false, false, false, false, false, false, false, false, false, false, false, false, false, false] rfl rfl (by kernel_rfl) (fun _ _ _ h => h) (Or.inl ⟨by rfl, ?_⟩) ?_ ?_
   rotate_left
   ·intro w'
    go_simp
    with_reducible rfl
   rotate_left
   ·simp only [Act.put, List.setIfInBounds_toArray, List.set_cons_zero, List.set_cons_succ, i64_w, i32_w]
    rfl
   refine pure_ (i := 11) (N := some 25) (v := ?_) (a' := ?_) #[true, true, true, true, true, true, true, true, true, true, true, true, false, false, false, false, false, false, false, false, false, false, false, false, false] rfl rfl (by kernel_rfl) (fun _ _ _ h => h) (Or.inl ⟨by rfl, ?_⟩) ?_ ?_
   rotate_left
   ·intro w'
    go_simp
    with_reducible rfl
   rotate_left
   ·simp only [Act.put, List.setIfInBounds_toArray, List.set_cons_zero, List.set_cons_succ, i64_w, i32_w]
    rfl
   refine pure_ (i := 12) (N := some 26) (v := ?_) (a' := ?_) #[true, true, true, true, true, true, true, true, true, true, true, true, true, false, false, false, false, false, false, false, false, false, false, false, false] rfl rfl (by kernel_rfl) (fun _ _ _ h => h) (Or.inl ⟨by rfl, ?_⟩) ?_ ?_
   rotate_left
   ·intro w'
    go_simp
    with_reducible rfl
   rotate_left
   ·simp only [Act.put, List.setIfInBounds_toArray, List.set_cons_zero, List.set_cons_succ, i64_w, i32_w]
    rfl
   refine pure_ (i := 13) (N := some 27) (v := ?_) (a' := ?_) #[true, true, true, true, true, true, true, true, true, true, true, true, true, true, false, false, false, false, false, false, false, false, false, false, false] rfl rfl (by kernel_rfl) (fun _ _ _ h => h) (Or.inl ⟨by rfl, ?_⟩) ?_ ?_
   rotate_left
   ·intro w'
    go_simp
    with_reducible rfl
   rotate_left
   ·simp only [Act.put, List.setIfInBounds_toArray, List.set_cons_zero, List.set_cons_succ, i64_w, i32_w]
    rfl
   refine pure_ (i := 15) (N := some 29) (v := ?_) (a' := ?_) #[true, true, true, true, true, true, true, true, true, true, true, true, true, true, false, true, false, false, false, false, false, false, false, false, false] rfl rfl (by kernel_rfl) (fun _ _ _ h => h) (Or.inl ⟨by rfl, ?_⟩) ?_ ?_
   rotate_left
   ·intro w'
    go_simp
    with_reducible rfl
   rotate_left
   ·simp only [Act.put, List.setIfInBounds_toArray, List.set_cons_zero, List.set_cons_succ, i64_w, i32_w]
    rfl
   refine pure_ (i := 16) (N := some 30) (v := ?_) (a' := ?_) #[true, true, true, true, true, true, true, true, true, true, true, true, true, true, false, true, true, false, false, false, false, false, false, false, false] rfl rfl (by kernel_rfl) (fun _ _ _ h => h) (Or.inl ⟨by rfl, ?_⟩) ?_ ?_
   rotate_left
   ·intro w'
    go_simp
    with_reducible rfl
   rotate_left
   ·simp only [Act.put, List.setIfInBounds_toArray, List.set_cons_zero, List.set_cons_succ, i64_w, i32_w]
    rfl
   refine pure_ (i := 17) (N := some 31) (v := ?_) (a' := ?_) #[true, true, true, true, true, true, true, true, true, true, true, true, true, true, false, true, true, true, false, false, false, false, false, false, false] rfl rfl (by kernel_rfl) (fun _ _ _ h => h) (Or.inl ⟨by rfl, ?_⟩) ?_ ?_
   rotate_left
   ·intro w'
    go_simp
    with_reducible rfl
   rotate_left
   ·simp only [Act.put, List.setIfInBounds_toArray, List.set_cons_zero, List.set_cons_succ, i64_w, i32_w]
    rfl
   refine take_ (i := 14) (N := some 28) (v := ?_) (a' := ?_) #[true, true, true, true, true, true, true, true, true, true, true, true, true, true, true, true, true, true, false, false, false, false, false, false, false] rfl rfl (by kernel_rfl) (fun _ _ _ h => h) (Or.inl ⟨by rfl, ?_⟩) hHeld ?_ ?_
   rotate_left
   ·rintro w' ⟨s0, s1, s2, s3⟩
    go_simp
    with_reducible rfl
   rotate_left
   ·simp only [Act.put, List.setIfInBounds_toArray, List.set_cons_zero, List.set_cons_succ, i64_w, i32_w]
    rfl
   refine take_ (i := 18) (N := some 32) (v := ?_) (a' := ?_) #[true, true, true, true, true, true, true, true, true, true, true, true, true, true, true, true, true, true, true, false, false, false, false, false, false] rfl rfl (by kernel_rfl) (fun _ _ _ h => h) (Or.inl ⟨by rfl, ?_⟩) hHeld ?_ ?_
   rotate_left
   ·rintro w' ⟨s0, s1, s2, s3⟩
    go_simp
    with_reducible rfl
   rotate_left
   ·simp only [Act.put, List.setIfInBounds_toArray, List.set_cons_zero, List.set_cons_succ, i64_w, i32_w]
    rfl
   refine pure_ (i := 19) (N := some 33) (v := ?_) (a' := ?_) #[true, true, true, true, true, true, true, true, true, true, true, true, true, true, true, true, true, true, true, true, false, false, false, false, false] rfl rfl (by kernel_rfl) (fun _ _ _ h => h) (Or.inl ⟨by rfl, ?_⟩) ?_ ?_
   rotate_left
   ·intro w'
    go_simp
    with_reducible rfl
   rotate_left
   ·simp only [Act.put, List.setIfInBounds_toArray, List.set_cons_zero, List.set_cons_succ, i64_w, i32_w]
    rfl
   refine pure_ (i := 20) (N := some 34) (v := ?_) (a' := ?_) #[true, true, true, true, true, true, true, true, true, true, true, true, true, true, true, true, true, true, true, true, true, false, false, false, false] rfl rfl (by kernel_rfl) (fun _ _ _ h => h) (Or.inl ⟨by rfl, ?_⟩) ?_ ?_
   rotate_left
   ·intro w'
    go_simp
    with_reducible rfl
   rotate_left
   ·simp only [Act.put, List.setIfInBounds_toArray, List.set_cons_zero, List.set_cons_succ, i64_w, i32_w]
    rfl
   refine take_ (i := 21) (N := some 35) (v := ?_) (a' := ?_) #[true, true, true, true, true, true, true, true, true, true, true, true, true, true, true, true, true, true, true, true, true, true, false, false, false] rfl rfl (by kernel_rfl) (fun _ _ _ h => h) (Or.inl ⟨by rfl, ?_⟩) hHeld ?_ ?_
   rotate_left
   ·rintro w' ⟨s0, s1, s2, s3⟩
    go_simp
    with_reducible rfl
   rotate_left
   ·simp only [Act.put, List.setIfInBounds_toArray, List.set_cons_zero, List.set_cons_succ, i64_w, i32_w]
    rfl
   refine pure_ (i := 22) (N := some 36) (v := ?_) (a' := ?_) #[true, true, true, true, true, true, true, true, true, true, true, true, true, true, true, true, true, true, true, true, true, true, true, false, false] rfl rfl (by kernel_rfl) (fun _ _ _ h => h) (Or.inl ⟨by rfl, ?_⟩) ?_ ?_
   rotate_left
   ·intro w'
    go_simp
    with_reducible rfl
   rotate_left
   ·simp only [Act.put, List.setIfInBounds_toArray, List.set_cons_zero, List.set_cons_succ, i64_w, i32_w]
    rfl
   refine pure_ (i := 23) (N := some 37) (v := ?_) (a' := ?_) #[true, true, true, true, true, true, true, true, true, true, true, true, true, true, true, true, true, true, true, true, true, true, true, true, false] rfl rfl (by kernel_rfl) (fun _ _ _ h => h) (Or.inl ⟨by rfl, ?_⟩) ?_ ?_
   rotate_left
   ·intro w'
    go_simp
    with_reducible rfl
   rotate_left
   ·simp only [Act.put, List.setIfInBounds_toArray, List.set_cons_zero, List.set_cons_succ, i64_w, i32_w]
    rfl
   refine pure_ (i := 24) (N := some 13) (v := ?_) (a' := ?_) #[true, true, true, true, true, true, true, true, true, true, true, true, true, true, true, true, true, true, true, true, true, true, true, true, true] rfl rfl (by kernel_rfl) (fun _ _ _ h => h) (Or.inl ⟨by rfl, ?_⟩) ?_ ?_
   rotate_left
   ·intro w'
    go_simp
    with_reducible rfl
   rotate_left
   ·simp only [Act.put, List.setIfInBounds_toArray, List.set_cons_zero, List.set_cons_succ, i64_w, i32_w]
    rfl
   refine done_ (by kernel_rfl) ?_
   go_wp2
   first | go_end0 | ((try simp only [Exit.inBlock, Exit.then]); refine bodyPost_ret (results_none rfl _ _ _) rfl ?_)
   exact ⟨rfl, some ad, c0, vo, vs, by rw [HQ.out]; exact HA.out.set_e 2⟩
 ·have q1 : (l.length : Int) ≤ (j : Int) := by omega
  have q2 : decide ((l.length : Int) ≤ (j : Int)) = true := decide_eq_true (by omega)
  have q3 : decide (l.length ≤ j) = true := decide_eq_true (by omega)
  have HQ := Aside0.mk (show r = { s with i := j, e := 2 } by have := HR.out; unfold Rd.proj at this; rw [HJ.out, List.getElem?_eq_none (by omega)] at this; exact (Option.some.inj this).symm)
  clear hj H
  go_enter Tryz.func48, Tryz.ntmps48
  go_wp2
  refine start_ (n := 25) (S := fun w' => w'.cell? ⟨g, 1, none⟩ = some (.int .i64 (j : Int)) ∧ w'.cell? ⟨g, 0, none⟩ = some (.slice A0 l.length c0)) (ds := []) #[false, false, false, false, false, false, false, false, false, false, false, false, false, false, false, false, false, false, false, false, false, false, false, false, false] (by kernel_rfl) rfl rfl ⟨HA.out.cell.2.1, HA.out.cell.1⟩ (fun hHeld => ?_)
  refine pure_ (i := 0) (N := some 14) (v := ?_) (a' := ?_) #[true, false, false, false, false, false, false, false, false, false, false, false, false, false, false, false, false, false, false, false, false, false, false, false, false] rfl rfl (by kernel_rfl) (fun _ _ _ h => h) (Or.inl ⟨by rfl, ?_⟩) ?_ ?_
  rotate_left
  ·intro w'
   go_simp
   with_reducible rfl
  rotate_left
  ·simp only [Act.put, List.setIfInBounds_toArray, List.set_cons_zero, List.set_cons_succ, i64_w, i32_w]
   rfl
  refine pure_ (i := 1) (N := some 15) (v := ?_) (a' := ?_) #[true, true, false, false, false, false, false, false, false, false, false, false, false, false, false, false, false, false, false, false, false, false, false, false, false] rfl rfl (by kernel_rfl) (fun _ _ _ h => h) (Or.inl ⟨by rfl, ?_⟩) ?_ ?_
  rotate_left
  ·intro w'
   go_simp
   with_reducible rfl
  rotate_left
  ·simp only [Act.put, List.setIfInBounds_toArray, List.set_cons_zero, List.set_cons_succ, i64_w, i32_w]
   rfl
  refine pure_ (i := 2) (N := some 16) (v := ?_) (a' := ?_) #[true, true, true, false, false, false, false, false, false, false, false, false, false, false, false, false, false, false, false, false, false, false, false, false, false] rfl rfl (by kernel_rfl) (fun _ _ _ h => h) (Or.inl ⟨by rfl, ?_⟩) ?_ ?_
  rotate_left
  ·intro w'
   go_simp
   with_reducible rfl
  rotate_left
  ·simp only [Act.put, List.setIfInBounds_toArray, List.set_cons_zero, List.set_cons_succ, i64_w, i32_w]
   rfl
  refine pure_ (i := 4) (N := some 18) (v := ?_) (a' := ?_) #[true, true, true, false, true, false, false, false, false, false, false, false, false, false, false, false, false, false, false, false, false, false, false, false, false] rfl rfl (by kernel_rfl) (fun _ _ _ h => h) (Or.inl ⟨by rfl, ?_⟩) ?_ ?_
  rotate_left
  ·intro w'
   go_simp
   with_reducible rfl
  rotate_left
  ·simp only [Act.put, List.setIfInBounds_toArray, List.set_cons_zero, List.set_cons_succ, i64_w, i32_w]
   rfl
  refine pure_ (i := 5) (N := some 19) (v := ?_) (a' := ?_) #[true, true, true, false, true, true, false, false, false, false, false, false, false, false, false, false, false, false, false, false, false, false, false, false, false] rfl rfl (by kernel_rfl) (fun _ _ _ h => h) (Or.inl ⟨by rfl, ?_⟩) ?_ ?_
  rotate_left
  ·intro w'
   go_simp
   with_reducible rfl
  rotate_left
  ·simp only [Act.put, List.setIfInBounds_toArray, List.set_cons_zero, List.set_cons_succ, i64_w, i32_w]
   rfl
  refine pure_ (i := 6) (N := some 20) (v := ?_) (a' := ?_) #[true, true, true, false, true, true, true, false, false, false, false, false, false, false, false, false, false, false, false, false, false, false, false, false, false] rfl rfl (by kernel_rfl) (fun _ _ _ h => h) (Or.inl ⟨by rfl, ?_⟩) ?_ ?_
  rotate_left
  ·intro w'
   go_simp
   with_reducible rfl
  rotate_left
  ·simp only [Act.put, List.setIfInBounds_toArray, List.set_cons_zero, List.set_cons_succ, i64_w, i32_w]
   rfl
  refine take_ (i := 3) (N := some 17) (v := ?_) (a' := ?_) #[true, true, true, true, true, true, true, false, false, false, false, false, false, false, false, false, false, false, false, false, false, false, false, false, false] rfl rfl (by kernel_rfl) (fun _ _ _ h => h) (Or.inl ⟨by rfl, ?_⟩) hHeld ?_ ?_
  rotate_left
  ·rintro w' ⟨s0, s1⟩
   go_simp
   with_reducible rfl
  rotate_left
  ·simp only [Act.put, List.setIfInBounds_toArray, List.set_cons_zero, List.set_cons_succ, i64_w, i32_w]
   rfl
  refine take_ (i := 7) (N := some 21) (v := ?_) (a' := ?_) #[true, true, true, true, true, true, true, true, false, false, false, false, false, false, false, false, false, false, false, false, false, false, false, false, false] rfl rfl (by kernel_rfl) (fun _ _ _ h => h) (Or.inl ⟨by rfl, ?_⟩) hHeld ?_ ?_
  rotate_left
  ·rintro w' ⟨s0, s1⟩
   go_simp
   with_reducible rfl
  rotate_left
  ·simp only [Act.put, List.setIfInBounds_toArray, List.set_cons_zero, List.set_cons_succ, i64_w, i32_w]
   rfl
  refine pure_ (i := 8) (N := some 22) (v := ?_) (a' := ?_) #[true, true, true, true, true, true, true, true, true, false, false, false, false, false, false, false, false, false, false, false, false, false, false, false, false] rfl rfl (by kernel_rfl) (fun _ _ _ h => h) (Or.inl ⟨by rfl, ?_⟩) ?_ ?_
  rotate_left
  ·intro w'
   go_simp
   with_reducible rfl
  rotate_left
  ·simp only [Act.put, List.setIfInBounds_toArray, List.set_cons_zero, List.set_cons_succ, i64_w, i32_w]
   rfl
  refine pure_ (i := 9) (N := some 23) (v := ?_) (a' := ?_) #[true, true, true, true, true, true, true, true, true, true, false, false, false, false, false, false, false, false, false, false, false, false, false, false, false] rfl rfl (by kernel_rfl) (fun _ _ _ h => h) (Or.inl ⟨by rfl, ?_⟩) ?_ ?_
  rotate_left
  ·intro w'
   go_simp
   with_reducible rfl
  rotate_left
  ·simp only [Act.put, List.setIfInBounds_toArray, List.set_cons_zero, List.set_cons_succ, i64_w, i32_w]
   rfl
  refine pure_ (i := 10) (N := some 24) (v := ?_) (a' := ?_) #[true, true, true, true, true, true, true, true, true, true, true, false, false, false, false, false, false, false, false, false, false, false, false, false, false] rfl rfl (by kernel_rfl) (fun _ _ _ h => h) (Or.inl ⟨by rfl, ?_⟩) ?_ ?_
  rotate_left
  ·intro w'
   go_simp
   with_reducible rfl
  rotate_left
  ·simp only [Act.put, List.setIfInBounds_toArray, List.set_cons_zero, List.set_cons_succ, i64_w, i32_w]
   rfl
  refine pure_ (i := 11) (N := some 25) (v := undef) (a' := ?_) #[true, true, true, true, true, true, true, true, true, true, true, true, false, false, false, false, false, false, false, false, false, false, false, false, false] rfl rfl (by kernel_rfl) (fun _ _ _ h => h) (Or.inr ⟨by rfl, rfl⟩) ?_ ?_
  rotate_left
  ·simp only [Act.put, List.setIfInBounds_toArray, List.set_cons_zero, List.set_cons_succ, i64_w, i32_w]
   rfl
  refine pure_ (i := 12) (N := some 26) (v := undef) (a' := ?_) #[true, true, true, true, true, true, true, true, true, true, true, true, true, false, false, false, false, false, false, false, false, false, false, false, false] rfl rfl (by kernel_rfl) (fun _ _ _ h => h) (Or.inr ⟨by rfl, rfl⟩) ?_ ?_
  rotate_left
  ·simp only [Act.put, List.setIfInBounds_toArray, List.set_cons_zero, List.set_cons_succ, i64_w, i32_w]
   rfl
  refine pure_ (i := 13) (N := some 27) (v := undef) (a' := ?_) #[true, true, true, true, true, true, true, true, true, true, true, true, true, true, false, false, false, false, false, false, false, false, false, false, false] rfl rfl (by kernel_rfl) (fun _ _ _ h => h) (Or.inr ⟨by rfl, rfl⟩) ?_ ?_
  rotate_left
  ·simp only [Act.put, List.setIfInBounds_toArray, List.set_cons_zero, List.set_cons_succ, i64_w, i32_w]
   rfl
  refine pure_ (i := 14) (N := some 28) (v := undef) (a' := ?_) #[true, true, true, true, true, true, true, true, true, true, true, true, true, true, true, false, false, false, false, false, false, false, false, false, false] rfl rfl (by kernel_rfl) (fun _ _ _ h => h) (Or.inr ⟨by rfl, rfl⟩) ?_ ?_
  rotate_left
  ·simp only [Act.put, List.setIfInBounds_toArray, List.set_cons_zero, List.set_cons_succ, i64_w, i32_w]
   rfl
  refine pure_ (i := 15) (N := some 29) (v := undef) (a' := ?_) #[true, true, true, true, true, true, true, true, true, true, true, true, true, true, true, true, false, false, false, false, false, false, false, false, false] rfl rfl (by kernel_rfl) (fun _ _ _ h => h) (Or.inr ⟨by rfl, rfl⟩) ?_ ?_
  rotate_left
  ·simp only [Act.put, List.setIfInBounds_toArray, List.set_cons_zero, List.set_cons_succ, i64_w, i32_w]
   rfl
  refine pure_ (i := 16) (N := some 30) (v := undef) (a' := ?_) #[true, true, true, true, true, true, true, true, true, true, true, true, true, true, true, true, true, false, false, false, false, false, false, false, false] rfl rfl (by kernel_rfl) (fun _ _ _ h => h) (Or.inr ⟨by rfl, rfl⟩) ?_ ?_
  rotate_left
  ·simp only [Act.put, List.setIfInBounds_toArray, List.set_cons_zero, List.set_cons_succ, i64_w, i32_w]
   rfl
  refine pure_ (i := 17) (N := some 31) (v := undef) (a' := ?_) #[true, true, true, true, true, true, true, true, true, true, true, true, true, true, true, true, true, true, false, false, false, false, false, false, false] rfl rfl (by kernel_rfl) (fun _ _ _ h => h) (Or.inr ⟨by rfl, rfl⟩) ?_ ?_
  rotate_left
  ·simp only [Act.put, List.setIfInBounds_toArray, List.set_cons_zero, List.set_cons_succ, i64_w, i32_w]
   rfl
  refine pure_ (i := 18) (N := some 32) (v := undef) (a' := ?_) #[true, true, true, true, true, true, true, true, true, true, true, true, true, true, true, true, true, true, true, false, false, false, false, false, false] rfl rfl (by kernel_rfl) (fun _ _ _ h => h) (Or.inr ⟨by rfl, rfl⟩) ?_ ?_
  rotate_left
  ·simp only [Act.put, List.setIfInBounds_toArray, List.set_cons_zero, List.set_cons_succ, i64_w, i32_w]
   rfl
  refine pure_ (i := 19) (N := some 33) (v := undef) (a' := ?_) #[true, true, true, true, true, true, true, true, true, true, true, true, true, true, true, true, true, true, true, true, false, false, false, false, false] rfl rfl (by kernel_rfl) (fun _ _ _ h => h) (Or.inr ⟨by rfl, rfl⟩) ?_ ?_
  rotate_left
  ·simp only [Act.put, List.setIfInBounds_toArray, List.set_cons_zero, List.set_cons_succ, i64_w, i32_w]
   rfl
  refine pure_ (i := 20) (N := some 34) (v := undef) (a' := ?_) #[true, true, true, true, true, true, true, true, true, true, true, true, true, true, true, true, true, true, true, true, true, false, false, false, false] rfl rfl (by kernel_rfl) (fun _ _ _ h => h) (Or.inr ⟨by rfl, rfl⟩) ?_ ?_
  rotate_left
  ·simp only [Act.put, List.setIfInBounds_toArray, List.set_cons_zero, List.set_cons_succ, i64_w, i32_w]
   rfl
  refine pure_ (i := 21) (N := some 35) (v := undef) (a' := ?_) #[true, true, true, true, true, true, true, true, true, true, true, true, true, true, true, true, true, true, true, true, true, true, false, false, false] rfl rfl (by kernel_rfl) (fun _ _ _ h => h) (Or.inr ⟨by rfl, rfl⟩) ?_ ?_
  rotate_left
  ·simp only [Act.put, List.setIfInBounds_toArray, List.set_cons_zero, List.set_cons_succ, i64_w, i32_w]
   rfl
  refine pure_ (i := 22) (N := some 36) (v := undef) (a' := ?_) #[true, true, true, true, true, true, true, true, true, true, true, true, true, true, true, true, true, true, true, true, true, true, true, false, false] rfl rfl (by kernel_rfl) (fun _ _ _ h => h) (Or.inr ⟨by rfl, rfl⟩) ?_ ?_
  rotate_left
  ·simp only [Act.put, List.setIfInBounds_toArray, List.set_cons_zero, List.set_cons_succ, i64_w, i32_w]
   rfl
  refine pure_ (i := 23) (N := some 37) (v := ?_) (a' := ?_) #[true, true, true, true, true, true, true, true, true, true, true, true, true, true, true, true, true, true, true, true, true, true, true, true, false] rfl rfl (by kernel_rfl) (fun _ _ _ h => h) (Or.inl ⟨by rfl, ?_⟩) ?_ ?_
  rotate_left
  ·intro w'
   go_simp
   with_reducible rfl
  rotate_left
  ·simp only [Act.put, List.setIfInBounds_toArray, List.set_cons_zero, List.set_cons_succ, i64_w, i32_w]
   rfl
  refine pure_ (i := 24) (N := some 13) (v := ?_) (a' := ?_) #[true, true, true, true, true, true, true, true, true, true, true, true, true, true, true, true, true, true, true, true, true, true, true, true, true] rfl rfl (by kernel_rfl) (fun _ _ _ h => h) (Or.inl ⟨by rfl, ?_⟩) ?_ ?_
  rotate_left
  ·intro w'
   go_simp
   with_reducible rfl
  rotate_left
  ·simp only [Act.put, List.setIfInBounds_toArray, List.set_cons_zero, List.set_cons_succ, i64_w, i32_w]
   rfl
  refine done_ (by kernel_rfl) ?_
  go_wp2
  first | go_end0 | ((try simp only [Exit.inBlock, Exit.then]); refine bodyPost_ret (results_none rfl _ _ _) rfl ?_)
  exact ⟨rfl, A0, c0, vo, vs, by rw [HQ.out]; exact HA.out.set_e 2⟩
set_option maxHeartbeats 8000000 in
set_option maxRecDepth 100000 in
theorem rd_part (k : Nat) (w0 w : World) (g : Nat) (l : List S48) (s r : Rd) (b : Bool) (hR : RS w0 w g l s) (hi : s.i ≤ 1000000000000) (hlen : (s.out.length + 1) * 32 ≤ 140737488355328) (h : s.part k l = some (r, b)) :
  Calls Tryz.prog 24 #[.pointer (some ⟨g, 0, none⟩)] w fun en w' => en = .returned (.bool b) ∧ RS w0 w' g l r := by
 have hR0 := Aside0.mk hR
 obtain ⟨A0, c0, vo, vs, H⟩ := hR
 have hg := H.lt
 have H0 := Aside0.mk H
 obtain ⟨h0, h1, h2, h3, h4⟩ := H.cell
 have hf4 := H.frozen 4
 have HL := Aside0.mk hlen
 have HR := Aside0.mk h
 clear h hlen
 by_cases hj : s.i < l.length
 ·obtain ⟨ad, rfl, hx0, hx1, hx2⟩ := H0.out.tok hj
  have HT := Aside0.mk (tok_some hj)
  obtain ⟨t, ht⟩ : ∃ t, rd_T48 l (s.i : Int) = t := ⟨_, rfl⟩
  rw [ht] at hx0 hx1 hx2 HT
  have HX0 := Aside0.mk hx0
  have HX1 := Aside0.mk hx1
  have HX2 := Aside0.mk hx2
  have q1 : (s.i : Int) < (l.length : Int) := by omega
  have q2 : decide ((l.length : Int) ≤ (s.i : Int)) = false := decide_eq_false (by omega)
  have q3 : decide (l.length ≤ s.i) = false := decide_eq_false (by omega)
  clear ht hx0 hx1 hx2 hj H
  go_enter Tryz.func24, Tryz.ntmps24
  go_wp2
  refine start_ (n := 10) (S := fun w' => w'.cell? ⟨g, 1, none⟩ = some (.int .i64 (s.i : Int)) ∧ w'.cell? ⟨g, 0, none⟩ = some (.slice (some ad) l.length c0) ∧ w'.cell? (ad.add (s.i * 3)) = some (.int .i64 t.f0) ∧ w'.cell? ⟨(ad.add (s.i * 3)).block, (ad.add (s.i * 3)).off + 1, none⟩ = some (.string t.f1) ∧ w'.cell? ⟨(ad.add (s.i * 3)).block, (ad.add (s.i * 3)).off + 2, none⟩ = some (.int .i64 t.f2)) (ds := []) #[false, false, false, false, false, false, false, false, false, false] (by kernel_rfl) rfl rfl ⟨H0.out.cell.2.1, H0.out.cell.1, HX0.out, HX1.out, HX2.out⟩ (fun hHeld => ?_)
  refine pure_ (i := 0) (N := some 4) (v := ?_) (a' := ?_) #[true, false, false, false, false, false, false, false, false, false] rfl rfl (by kernel_rfl) (fun _ _ _ h => h) (Or.inl ⟨by rfl, ?_⟩) ?_ ?_
  rotate_left
  ·intro w'
   go_simp
   with_reducible rfl
  rotate_left
  ·simp only [Act.put, List.setIfInBounds_toArray, List.set_cons_zero, List.set_cons_succ, i64_w, i32_w]
   rfl
  refine pure_ (i := 1) (N := some 5) (v := ?_) (a' := ?_) #[true, true, false, false, false, false, false, false, false, false] rfl rfl (by kernel_rfl) (fun _ _ _ h => h) (Or.inl ⟨by rfl, ?_⟩) ?_ ?_
  rotate_left
  ·intro w'
   go_simp
   with_reducible rfl
  rotate_left
  ·simp only [Act.put, List.setIfInBounds_toArray, List.set_cons_zero, List.set_cons_succ, i64_w, i32_w]
   rfl
  refine pure_ (i := 2) (N := some 6) (v := ?_) (a' := ?_) #[true, true, true, false, false, false, false, false, false, false] rfl rfl (by kernel_rfl) (fun _ _ _ h => h) (Or.inl ⟨by rfl, ?_⟩) ?_ ?_
  rotate_left
  ·intro w'
   go_simp
   with_reducible rfl
  rotate_left
  ·simp only [Act.put, List.setIfInBounds_toArray, List.set_cons_zero, List.set_cons_succ, i64_w, i32_w]
   rfl
  refine pure_ (i := 4) (N := some 8) (v := ?_) (a' := ?_) #[true, true, true, false, true, false, false, false, false, false] rfl rfl (by kernel_rfl) (fun _ _ _ h => h) (Or.inl ⟨by rfl, ?_⟩) ?_ ?_
  rotate_left
  ·intro w'
   go_simp
   with_reducible rfl
  rotate_left
  ·simp only [Act.put, List.setIfInBounds_toArray, List.set_cons_zero, List.set_cons_succ, i64_w, i32_w]
   rfl
  refine pure_ (i := 5) (N := some 9) (v := ?_) (a' := ?_) #[true, true, true, false, true, true, false, false, false, false] rfl rfl (by kernel_rfl) (fun _ _ _ h => h) (Or.inl ⟨by rfl, ?_⟩) ?_ ?_
  rotate_left
  ·intro w'
   go_simp
   with_reducible rfl
  rotate_left
  ·simp only [Act.put, List.setIfInBounds_toArray, List.set_cons_zero, List.set_cons_succ, i64_w, i32_w]
   rfl
  refine pure_ (i := 6) (N := some 10) (v := ?_) (a' := ?_) #[true, true, true, false, true, true, true, false, false, false] rfl rfl (by kernel_rfl) (fun _ _ _ h => h) (Or.inl ⟨by rfl, ?_⟩) ?_ ?_
  rotate_left
  ·intro w'
   go_simp
   with_reducible rfl
  rotate_left
  ·simp only [Act.put, List.setIfInBounds_toArray, List.set_cons_zero, List.set_cons_succ, i64_w, i32_w]
   rfl
  refine take_ (i := 3) (N := some 7) (v := ?_) (a' := ?_) #[true, true, true, true, true, true, true, false, false, false] rfl rfl (by kernel_rfl) (fun _ _ _ h => h) (Or.inl ⟨by rfl, ?_⟩) hHeld ?_ ?_
  rotate_left
  ·rintro w' ⟨s0, s1, s2, s3, s4⟩
   go_simp
   with_reducible rfl
  rotate_left
  ·simp only [Act.put, List.setIfInBounds_toArray, List.set_cons_zero, List.set_cons_succ, i64_w, i32_w]
   rfl
  refine take_ (i := 7) (N := some 11) (v := ?_) (a' := ?_) #[true, true, true, true, true, true, true, true, false, false] rfl rfl (by kernel_rfl) (fun _ _ _ h => h) (Or.inl ⟨by rfl, ?_⟩) hHeld ?_ ?_
  rotate_left
  ·rintro w' ⟨s0, s1, s2, s3, s4⟩
   go_simp
   with_reducible rfl
  rotate_left
  ·simp only [Act.put, List.setIfInBounds_toArray, List.set_cons_zero, List.set_cons_succ, i64_w, i32_w]
   rfl
  refine pure_ (i := 8) (N := some 12) (v := ?_) (a' := ?_) #[true, true, true, true, true, true, true, true, true, false] rfl rfl (by kernel_rfl) (fun _ _ _ h => h) (Or.inl ⟨by rfl, ?_⟩) ?_ ?_
  rotate_left
  ·intro w'
   go_simp
   with_reducible rfl
  rotate_left
  ·simp only [Act.put, List.setIfInBounds_toArray, List.set_cons_zero, List.set_cons_succ, i64_w, i32_w]
   rfl
  refine pure_ (i := 9) (N := some 13) (v := ?_) (a' := ?_) #[true, true, true, true, true, true, true, true, true, true] rfl rfl (by kernel_rfl) (fun _ _ _ h => h) (Or.inl ⟨by rfl, ?_⟩) ?_ ?_
  rotate_left
  ·intro w'
   go_simp
   with_reducible rfl
  rotate_left
  ·simp only [Act.put, List.setIfInBounds_toArray, List.set_cons_zero, List.set_cons_succ, i64_w, i32_w]
   rfl
  refine done_ (by kernel_rfl) ?_
  go_wp2
  refine start_ (n := 12) (S := fun w' => w'.cell? ⟨g, 1, none⟩ = some (.int .i64 (s.i : Int)) ∧ w'.cell? ⟨g, 0, none⟩ = some (.slice (some ad) l.length c0) ∧ w'.cell? (ad.add (s.i * 3)) = some (.int .i64 t.f0) ∧ w'.cell? ⟨(ad.add (s.i * 3)).block, (ad.add (s.i * 3)).off + 1, none⟩ = some (.string t.f1) ∧ w'.cell? ⟨(ad.add (s.i * 3)).block, (ad.add (s.i * 3)).off + 2, none⟩ = some (.int .i64 t.f2)) (ds := [11]) #[false, false, false, false, false, false, false, false, false, false, false, false] (by kernel_rfl) rfl rfl ⟨H0.out.cell.2.1, H0.out.cell.1, HX0.out, HX1.out, HX2.out⟩ (fun hHeld => ?_)
  refine pure_ (i := 0) (N := some 17) (v := ?_) (a' := ?_) #[true, false, false, false, false, false, false, false, false, false, false, false] rfl rfl (by kernel_rfl) (fun _ _ _ h => h) (Or.inl ⟨by rfl, ?_⟩) ?_ ?_
  rotate_left
  ·intro w'
   go_simp
   with_reducible rfl
  rotate_left
  ·simp only [Act.put, List.setIfInBounds_toArray, List.set_cons_zero, List.set_cons_succ, i64_w, i32_w]
   rfl
  refine pure_ (i := 1) (N := some 18) (v := ?_) (a' := ?_) #[true, true, false, false, false, false, false, false, false, false, false, false] rfl rfl (by kernel_rfl) (fun _ _ _ h => h) (Or.inl ⟨by rfl, ?_⟩) ?_ ?_
  rotate_left
  ·intro w'
   go_simp
   with_reducible rfl
  rotate_left
  ·simp only [Act.put, List.setIfInBounds_toArray, List.set_cons_zero, List.set_cons_succ, i64_w, i32_w]
   rfl
  refine pure_ (i := 2) (N := some 19) (v := ?_) (a' := ?_) #[true, true, true, false, false, false, false, false, false, false, false, false] rfl rfl (by kernel_rfl) (fun _ _ _ h => h) (Or.inl ⟨by rfl, ?_⟩) ?_ ?_
  rotate_left
  ·intro w'
   go_simp
   with_reducible rfl
  rotate_left
  ·simp only [Act.put, List.setIfInBounds_toArray, List.set_cons_zero, List.set_cons_succ, i64_w, i32_w]
   rfl
  refine pure_ (i := 4) (N := some 21) (v := ?_) (a' := ?_) #[true, true, true, false, true, false, false, false, false, false, false, false] rfl rfl (by kernel_rfl) (fun _ _ _ h => h) (Or.inl ⟨by rfl, ?_⟩) ?_ ?_
  rotate_left
  ·intro w'
   go_simp
   with_reducible rfl
  rotate_left
  ·simp only [Act.put, List.setIfInBounds_toArray, List.set_cons_zero, List.set_cons_succ, i64_w, i32_w]
   rfl
  refine pure_ (i := 5) (N := some 22) (v := ?_) (a' := ?_) #[true, true, true, false, true, true, false, false, false, false, false, false] rfl rfl (by kernel_rfl) (fun _ _ _ h => h) (Or.inl ⟨by rfl, ?_⟩) ?_ ?_
  rotate_left
  ·intro w'
   go_simp
   with_reducible rfl
  rotate_left
  ·simp only [Act.put, List.setIfInBounds_toArray, List.set_cons_zero, List.set_cons_succ, i64_w, i32_w]
   rfl
  refine pure_ (i := 6) (N := some 23) (v := ?_) (a' := ?_) #[true, true, true, false, true, true, true, false, false, false, false, false] rfl rfl (by kernel_rfl) (fun _ _ _ h => h) (Or.inl ⟨by rfl, ?_⟩) ?_ ?_
  rotate_left
  ·intro w'
   go_simp
   with_reducible rfl
  rotate_left
  ·simp only [Act.put, List.setIfInBounds_toArray, List.set_cons_zero, List.set_cons_succ, i64_w, i32_w]
   rfl
  refine take_ (i := 3) (N := some 20) (v := ?_) (a' := ?_) #[true, true, true, true, true, true, true, false, false, false, false, false] rfl rfl (by kernel_rfl) (fun _ _ _ h => h) (Or.inl ⟨by rfl, ?_⟩) hHeld ?_ ?_
  rotate_left
  ·rintro w' ⟨s0, s1, s2, s3, s4⟩
   go_simp
   with_reducible rfl
  rotate_left
  ·simp only [Act.put, List.setIfInBounds_toArray, List.set_cons_zero, List.set_cons_succ, i64_w, i32_w]
   rfl
  refine take_ (i := 7) (N := some 24) (v := ?_) (a' := ?_) #[true, true, true, true, true, true, true, true, false, false, false, false] rfl rfl (by kernel_rfl) (fun _ _ _ h => h) (Or.inl ⟨by rfl, ?_⟩) hHeld ?_ ?_
  rotate_left
  ·rintro w' ⟨s0, s1, s2, s3, s4⟩
   go_simp
   with_reducible rfl
  rotate_left
  ·simp only [Act.put, List.setIfInBounds_toArray, List.set_cons_zero, List.set_cons_succ, i64_w, i32_w]
   rfl
  refine pure_ (i := 8) (N := some 25) (v := ?_) (a' := ?_) #[true, true, true, true, true, true, true, true, true, false, false, false] rfl rfl (by kernel_rfl) (fun _ _ _ h => h) (Or.inl ⟨by rfl, ?_⟩) ?_ ?_
  rotate_left
  ·intro w'
   go_simp
   with_reducible rfl
  rotate_left
  ·simp only [Act.put, List.setIfInBounds_toArray, List.set_cons_zero, List.set_cons_succ, i64_w, i32_w]
   rfl
  refine take_ (i := 9) (N := some 26) (v := ?_) (a' := ?_) #[true, true, true, true, true, true, true, true, true, true, false, false] rfl rfl (by kernel_rfl) (fun _ _ _ h => h) (Or.inl ⟨by rfl, ?_⟩) hHeld ?_ ?_
  rotate_left
  ·rintro w' ⟨s0, s1, s2, s3, s4⟩
   go_simp
   with_reducible rfl
  rotate_left
  ·simp only [Act.put, List.setIfInBounds_toArray, List.set_cons_zero, List.set_cons_succ, i64_w, i32_w]
   rfl
  refine one_ (i := 10) (N := some 3) #[true, true, true, true, true, true, true, true, true, true, true, false] rfl rfl (by kernel_rfl) (by decide) (fun K hK => ?_)
  refine value_ (w1 := ?_) (v := ?_) (by rfl) rfl ?_ ?_
  rotate_left 2
  ·go_simp
   constructor
   ·rfl
   ·rfl
  refine hK.out _ _ ⟨cell_alloc_ H0.out.cell.2.1 _, cell_alloc_ H0.out.cell.1 _, cell_alloc2_ HX0.out _, cell_alloc_ HX1.out _, cell_alloc_ HX2.out _⟩ (fun hHeld => ?_)
  clear hK K
  refine norm_ (a' := ?_) ?_ ?_
  rotate_left
  ·show Act.put _ (some 3) _ = _
   simp only [Act.put, List.setIfInBounds_toArray, List.set_cons_zero, List.set_cons_succ, i64_w, i32_w]
   rfl
  refine last_ (i := 11) (N := none) #[true, true, true, true, true, true, true, true, true, true, true, true] rfl rfl (by kernel_rfl) (by decide) (fun K hK => ?_)
  refine skip_ (w1 := ?_) (by rfl) rfl ?_ ?_
  rotate_left
  ·go_simp
   rfl
  refine hK.out _ _ ?_
  clear hK K
  refine done_ (by kernel_rfl) ?_
  obtain ⟨w4, hw4⟩ : ∃ w4, (w.alloc (.cells #[.int .i64 t.f0, .string t.f1, .int .i64 t.f2] 48)).drew.drew = w4 := ⟨_, rfl⟩
  rw [hw4]
  have hb4 : Below w.heap.size w w4 := by rw [← hw4]; exact below_drew (below_drew (below_alloc (Below.refl _ _) _))
  have hh4 : w4.heap[w.heap.size]? = some (.cells #[.int .i64 t.f0, .string t.f1, .int .i64 t.f2] 48 (0, 0)) := by rw [← hw4]; exact heap_alloc_new w _
  have x0 := blk_cell hh4 0
  have x1 := blk_cell hh4 1
  replace x0 : w4.cell? ⟨w.heap.size, 0, none⟩ = some (.int .i64 t.f0) := x0
  replace x1 : w4.cell? ⟨w.heap.size, 1, none⟩ = some (.string t.f1) := x1
  have H4 := Aside0.mk (H0.out.below hb4)
  have HS : Aside0 (RS w0 w4 g l s) := Aside0.mk ⟨some ad, c0, vo, vs, H4.out⟩
  have k4 := H4.out.cell.2.2.2.2
  have kf4 := H4.out.frozen 4
  replace HR := Aside0.mk (show (if sg l s.i ⟨#[40]⟩ = true then some (s.push ⟨-1, ⟨#[]⟩, 0⟩ 0, false)
   else if t.f0 = 2 ∧ (t.f1.toList == [48]) = true then some ((s.emit ⟨0, ⟨#[]⟩, 0⟩).next, true)
   else if t.f0 = 2 ∧ (t.f1.toList == [49]) = true then some ((s.emit ⟨1, ⟨#[]⟩, 0⟩).next, true)
   else if t.f0 = 1 then (sig_IsVar.f t.f1).bind fun v => if v = true then some ((s.emit ⟨2, t.f1, 0⟩).next, true) else
    (sig_IsCon.f t.f1).bind fun c => if c = true then
     (if sg l (s.i + 1) ⟨#[40]⟩ = true then some (s.push ⟨3, t.f1, 1⟩ 1, false)
     else if sg l (s.i + 1) ⟨#[126]⟩ = true then (s.proj k l t.f1).bind fun r => some (r, false)
     else some ((s.emit ⟨3, t.f1, 0⟩).next, true))
    else some ({ s with e := 3 }, false)
   else some ({ s with e := 2 }, false)) = some (r, b) by have := HR.out; unfold Rd.part at this; rw [HT.out] at this; exact this)
  clear hw4 hb4 hh4 h0 h1 h2 h3 h4 hf4 hg hHeld
  by_cases p0 : sg l s.i ⟨#[40]⟩ = true
  ·have HQ := Aside0.mk (show r = _ ∧ b = _ by have := HR.out; rw [if_pos p0] at this; simpa only [Option.some.injEq, Prod.mk.injEq, eq_comm] using this)
   have P0 := Aside0.mk p0
   clear p0
   go_wp2_with (first | (go_at_call 45; (with_reducible refine (rd_is0 w0 _ g l s ⟨#[40]⟩ true HS.out (by omega) P0.out).mono ?_); rintro e w' ⟨rfl, rfl⟩) | (go_at_call 46; (with_reducible refine (rd_push0 w0 _ g l s ⟨-1, ⟨#[]⟩, 0⟩ HS.out (by omega)).mono ?_); rintro e w6 ⟨rfl, H6⟩; have HF := Aside0.mk H6; clear H6))
   go_ret
   exact ⟨by rw [HQ.out.2]; first | done | rfl, by rw [HQ.out.1]; exact HF.out⟩
  ·replace HR := Aside0.mk (by have := HR.out; rwa [if_neg p0] at this)
   have P0 := Aside0.mk (eq_false_of_ne_true p0)
   clear p0
   by_cases c2 : t.f0 = 2
   ·have d1 : (t.f0 == 2) = true := beq_iff_eq.mpr c2
    have d2 : (t.f0 == 1) = false := beq_eq_false_iff_ne.mpr (by omega)
    by_cases s0 : (t.f1.toList == [48]) = true
    ·have HQ := Aside0.mk (show r = _ ∧ b = _ by have := HR.out; rw [if_pos ⟨c2, s0⟩] at this; simpa only [Option.some.injEq, Prod.mk.injEq, eq_comm] using this)
     clear c2
     go_wp2_with (first | (go_at_call 45; (with_reducible refine (rd_is0 w0 _ g l s ⟨#[40]⟩ false HS.out (by omega) P0.out).mono ?_); rintro e w' ⟨rfl, rfl⟩) | (go_at_call 47; (with_reducible refine (rd_emit w0 _ g l s ⟨0, ⟨#[]⟩, 0⟩ HS.out HL.out).mono ?_); rintro e w6 ⟨rfl, A6, c6, vo6, vs6, H6⟩; have HF := Aside0.mk H6; have m1 : w6.cell? ⟨g, 1, none⟩ = some (.int .i64 (s.i : Int)) := H6.cell.2.1; have mf1 := H6.frozen 1; clear H6))
     go_ret
     exact ⟨by rw [HQ.out.2]; first | done | rfl, A6, c6, vo6, vs6, by rw [HQ.out.1]; simpa [Rd.next, Rd.emit] using HF.out.set_at ((s.i : Int) + 1)⟩
    ·replace HR := Aside0.mk (by have := HR.out; rwa [if_neg (fun h => s0 h.2)] at this)
     replace s0 := eq_false_of_ne_true s0
     by_cases s1 : (t.f1.toList == [49]) = true
     ·have HQ := Aside0.mk (show r = _ ∧ b = _ by have := HR.out; rw [if_pos ⟨c2, s1⟩] at this; simpa only [Option.some.injEq, Prod.mk.injEq, eq_comm] using this)
      clear c2
      go_wp2_with (first | (go_at_call 45; (with_reducible refine (rd_is0 w0 _ g l s ⟨#[40]⟩ false HS.out (by omega) P0.out).mono ?_); rintro e w' ⟨rfl, rfl⟩) | (go_at_call 47; (with_reducible refine (rd_emit w0 _ g l s ⟨1, ⟨#[]⟩, 0⟩ HS.out HL.out).mono ?_); rintro e w6 ⟨rfl, A6, c6, vo6, vs6, H6⟩; have HF := Aside0.mk H6; have m1 : w6.cell? ⟨g, 1, none⟩ = some (.int .i64 (s.i : Int)) := H6.cell.2.1; have mf1 := H6.frozen 1; clear H6))
      go_ret
      exact ⟨by rw [HQ.out.2]; first | done | rfl, A6, c6, vo6, vs6, by rw [HQ.out.1]; simpa [Rd.next, Rd.emit] using HF.out.set_at ((s.i : Int) + 1)⟩
     ·have HQ := Aside0.mk (show r = _ ∧ b = _ by have := HR.out; rw [if_neg (fun h => s1 h.2), if_neg (by omega)] at this; simpa only [Option.some.injEq, Prod.mk.injEq, eq_comm] using this)
      replace s1 := eq_false_of_ne_true s1
      clear c2
      go_wp2_with (go_at_call 45; (with_reducible refine (rd_is0 w0 _ g l s ⟨#[40]⟩ false HS.out (by omega) P0.out).mono ?_); rintro e w' ⟨rfl, rfl⟩)
      go_ret
      exact ⟨by rw [HQ.out.2]; first | done | rfl, some ad, c0, vo, vs, by rw [HQ.out.1]; exact H4.out.set_e 2⟩
   ·have d1 : (t.f0 == 2) = false := beq_eq_false_iff_ne.mpr c2
    replace HR := Aside0.mk (by have := HR.out; rwa [if_neg (fun h => c2 h.1), if_neg (fun h => c2 h.1)] at this)
    clear c2
    by_cases c3 : t.f0 = 1
    ·have d2 : (t.f0 == 1) = true := beq_iff_eq.mpr c3
     replace HR := Aside0.mk (by have := HR.out; rwa [if_pos c3] at this)
     clear c3
     obtain ⟨v, hv, hr⟩ := Option.bind_eq_some_iff.1 HR.out
     have HV := Aside0.mk hv
     replace HR := Aside0.mk hr
     clear hv hr
     cases v with
     | true =>
      have HQ := Aside0.mk (show r = _ ∧ b = _ by have := HR.out; rw [if_pos rfl] at this; simpa only [Option.some.injEq, Prod.mk.injEq, eq_comm] using this)
      go_wp2_with (first | (go_at_call 45; (with_reducible refine (rd_is0 w0 _ g l s ⟨#[40]⟩ false HS.out (by omega) P0.out).mono ?_); rintro e w' ⟨rfl, rfl⟩) | (go_at_call 33; (with_reducible refine (sig_IsVar.calls t.f1 true _ HV.out).mono ?_); rintro e w5 ⟨rfl, hb⟩; have HS5 := Aside0.mk (HS.out.below hb); have y0 := pw_cell_below hb x0; have y1 := pw_cell_below hb x1; obtain ⟨A5, c5, vo5, vs5, H5⟩ := HS5.out; have l4 := H5.cell.2.2.2.2; have lf4 := H5.frozen 4; have G5 := Aside0.mk H5; clear hb H5) | (go_at_call 47; (with_reducible refine (rd_emit w0 _ g l s ⟨2, t.f1, 0⟩ HS5.out HL.out).mono ?_); rintro e w6 ⟨rfl, A6, c6, vo6, vs6, H6⟩; have HF := Aside0.mk H6; have m1 : w6.cell? ⟨g, 1, none⟩ = some (.int .i64 (s.i : Int)) := H6.cell.2.1; have mf1 := H6.frozen 1; clear H6))
      go_ret
      exact ⟨by rw [HQ.out.2]; first | done | rfl, A6, c6, vo6, vs6, by rw [HQ.out.1]; simpa [Rd.next, Rd.emit] using HF.out.set_at ((s.i : Int) + 1)⟩
     | false =>
      obtain ⟨c, hc, hr⟩ := Option.bind_eq_some_iff.1 (show ((sig_IsCon.f t.f1).bind fun c => if c = true then
     (if sg l (s.i + 1) ⟨#[40]⟩ = true then some (s.push ⟨3, t.f1, 1⟩ 1, false)
     else if sg l (s.i + 1) ⟨#[126]⟩ = true then (s.proj k l t.f1).bind fun r => some (r, false)
     else some ((s.emit ⟨3, t.f1, 0⟩).next, true))
    else some ({ s with e := 3 }, false)) = some (r, b) by have := HR.out; rwa [if_neg (by simp)] at this)
      have HC := Aside0.mk hc
      replace HR := Aside0.mk hr
      clear hc hr
      cases c with
      | true =>
       replace HR := Aside0.mk (by have := HR.out; rwa [if_pos rfl] at this)
       by_cases p1 : sg l (s.i + 1) ⟨#[40]⟩ = true
       ·have HQ := Aside0.mk (show r = _ ∧ b = _ by have := HR.out; rw [if_pos p1] at this; simpa only [Option.some.injEq, Prod.mk.injEq, eq_comm] using this)
        have P1 := Aside0.mk p1
        clear p1
        go_wp2_with (first | (go_at_call 45; (with_reducible refine (rd_is0 w0 _ g l s ⟨#[40]⟩ false HS.out (by omega) P0.out).mono ?_); rintro e w' ⟨rfl, rfl⟩) | (go_at_call 33; (with_reducible refine (sig_IsVar.calls t.f1 false _ HV.out).mono ?_); rintro e w5 ⟨rfl, hb⟩; have HS5 := Aside0.mk (HS.out.below hb); have y0 := pw_cell_below hb x0; have y1 := pw_cell_below hb x1; obtain ⟨A5, c5, vo5, vs5, H5⟩ := HS5.out; have l4 := H5.cell.2.2.2.2; have lf4 := H5.frozen 4; have G5 := Aside0.mk H5; clear hb H5) | (go_at_call 34; (with_reducible refine (sig_IsCon.calls t.f1 true _ HC.out).mono ?_); rintro e w7 ⟨rfl, hb⟩; have HS7 := Aside0.mk (HS5.out.below hb); have z0 := pw_cell_below hb y0; have z1 := pw_cell_below hb y1; obtain ⟨A7, c7, vo7, vs7, H7⟩ := HS7.out; have n4 := H7.cell.2.2.2.2; have nf4 := H7.frozen 4; have G7 := Aside0.mk H7; clear hb H7) | (go_at_call 45; (with_reducible refine (rd_is1 w0 _ g l s _ _ HS7.out (by omega) P1.out).mono ?_); rintro e w' ⟨rfl, rfl⟩) | (go_at_call 46; (with_reducible refine (rd_push1 w0 _ g l s ⟨3, t.f1, 1⟩ HS7.out (by omega)).mono ?_); rintro e w6 ⟨rfl, H6⟩; have HF := Aside0.mk H6; clear H6))
        go_ret
        exact ⟨by rw [HQ.out.2]; first | done | rfl, by rw [HQ.out.1]; exact HF.out⟩
       ·replace HR := Aside0.mk (by have := HR.out; rwa [if_neg p1] at this)
        have P1 := Aside0.mk (eq_false_of_ne_true p1)
        clear p1
        by_cases p2 : sg l (s.i + 1) ⟨#[126]⟩ = true
        ·obtain ⟨r1, hp, hq⟩ := Option.bind_eq_some_iff.1 (show ((s.proj k l t.f1).bind fun r => some (r, false)) = some (r, b) by have := HR.out; rwa [if_pos p2] at this)
         have HPJ := Aside0.mk hp
         have HQ := Aside0.mk (show r = r1 ∧ b = false by simpa only [Option.some.injEq, Prod.mk.injEq, eq_comm] using hq)
         have P2 := Aside0.mk p2
         clear p2 hp hq
         go_wp2_with (first | (go_at_call 45; (with_reducible refine (rd_is0 w0 _ g l s ⟨#[40]⟩ false HS.out (by omega) P0.out).mono ?_); rintro e w' ⟨rfl, rfl⟩) | (go_at_call 33; (with_reducible refine (sig_IsVar.calls t.f1 false _ HV.out).mono ?_); rintro e w5 ⟨rfl, hb⟩; have HS5 := Aside0.mk (HS.out.below hb); have y0 := pw_cell_below hb x0; have y1 := pw_cell_below hb x1; obtain ⟨A5, c5, vo5, vs5, H5⟩ := HS5.out; have l4 := H5.cell.2.2.2.2; have lf4 := H5.frozen 4; have G5 := Aside0.mk H5; clear hb H5) | (go_at_call 34; (with_reducible refine (sig_IsCon.calls t.f1 true _ HC.out).mono ?_); rintro e w7 ⟨rfl, hb⟩; have HS7 := Aside0.mk (HS5.out.below hb); have z0 := pw_cell_below hb y0; have z1 := pw_cell_below hb y1; obtain ⟨A7, c7, vo7, vs7, H7⟩ := HS7.out; have n4 := H7.cell.2.2.2.2; have nf4 := H7.frozen 4; have G7 := Aside0.mk H7; clear hb H7) | (go_at_call 45; (with_reducible refine (rd_is1 w0 _ g l s _ _ HS7.out (by omega) P1.out).mono ?_); rintro e w' ⟨rfl, rfl⟩) | (go_at_call 45; (with_reducible refine (rd_is1 w0 _ g l s _ _ HS7.out (by omega) P2.out).mono ?_); rintro e w' ⟨rfl, rfl⟩) | (go_at_call 48; (with_reducible refine (rd_proj k w0 _ g l s r1 t.f1 HS7.out (by omega) HPJ.out).mono ?_); rintro e w6 ⟨rfl, H6⟩; have HF := Aside0.mk H6; clear H6))
         go_ret
         exact ⟨by rw [HQ.out.2]; first | done | rfl, by rw [HQ.out.1]; exact HF.out⟩
        ·have HQ := Aside0.mk (show r = _ ∧ b = _ by have := HR.out; rw [if_neg p2] at this; simpa only [Option.some.injEq, Prod.mk.injEq, eq_comm] using this)
         have P2 := Aside0.mk (eq_false_of_ne_true p2)
         clear p2
         go_wp2_with (first | (go_at_call 45; (with_reducible refine (rd_is0 w0 _ g l s ⟨#[40]⟩ false HS.out (by omega) P0.out).mono ?_); rintro e w' ⟨rfl, rfl⟩) | (go_at_call 33; (with_reducible refine (sig_IsVar.calls t.f1 false _ HV.out).mono ?_); rintro e w5 ⟨rfl, hb⟩; have HS5 := Aside0.mk (HS.out.below hb); have y0 := pw_cell_below hb x0; have y1 := pw_cell_below hb x1; obtain ⟨A5, c5, vo5, vs5, H5⟩ := HS5.out; have l4 := H5.cell.2.2.2.2; have lf4 := H5.frozen 4; have G5 := Aside0.mk H5; clear hb H5) | (go_at_call 34; (with_reducible refine (sig_IsCon.calls t.f1 true _ HC.out).mono ?_); rintro e w7 ⟨rfl, hb⟩; have HS7 := Aside0.mk (HS5.out.below hb); have z0 := pw_cell_below hb y0; have z1 := pw_cell_below hb y1; obtain ⟨A7, c7, vo7, vs7, H7⟩ := HS7.out; have n4 := H7.cell.2.2.2.2; have nf4 := H7.frozen 4; have G7 := Aside0.mk H7; clear hb H7) | (go_at_call 45; (with_reducible refine (rd_is1 w0 _ g l s _ _ HS7.out (by omega) P1.out).mono ?_); rintro e w' ⟨rfl, rfl⟩) | (go_at_call 45; (with_reducible refine (rd_is1 w0 _ g l s _ _ HS7.out (by omega) P2.out).mono ?_); rintro e w' ⟨rfl, rfl⟩) | (go_at_call 47; (with_reducible refine (rd_emit w0 _ g l s ⟨3, t.f1, 0⟩ HS7.out HL.out).mono ?_); rintro e w6 ⟨rfl, A6, c6, vo6, vs6, H6⟩; have HF := Aside0.mk H6; have m1 : w6.cell? ⟨g, 1, none⟩ = some (.int .i64 (s.i : Int)) := H6.cell.2.1; have mf1 := H6.frozen 1; clear H6))
         go_ret
         exact ⟨by rw [HQ.out.2]; first | done | rfl, A6, c6, vo6, vs6, by rw [HQ.out.1]; simpa [Rd.next, Rd.emit] using HF.out.set_at ((s.i : Int) + 1)⟩
      | false =>
       have HQ := Aside0.mk (show r = _ ∧ b = _ by have := HR.out; rw [if_neg (by simp)] at this; simpa only [Option.some.injEq, Prod.mk.injEq, eq_comm] using this)
       go_wp2_with (first | (go_at_call 45; (with_reducible refine (rd_is0 w0 _ g l s ⟨#[40]⟩ false HS.out (by omega) P0.out).mono ?_); rintro e w' ⟨rfl, rfl⟩) | (go_at_call 33; (with_reducible refine (sig_IsVar.calls t.f1 false _ HV.out).mono ?_); rintro e w5 ⟨rfl, hb⟩; have HS5 := Aside0.mk (HS.out.below hb); have y0 := pw_cell_below hb x0; have y1 := pw_cell_below hb x1; obtain ⟨A5, c5, vo5, vs5, H5⟩ := HS5.out; have l4 := H5.cell.2.2.2.2; have lf4 := H5.frozen 4; have G5 := Aside0.mk H5; clear hb H5) | (go_at_call 34; (with_reducible refine (sig_IsCon.calls t.f1 false _ HC.out).mono ?_); rintro e w7 ⟨rfl, hb⟩; have HS7 := Aside0.mk (HS5.out.below hb); have z0 := pw_cell_below hb y0; have z1 := pw_cell_below hb y1; obtain ⟨A7, c7, vo7, vs7, H7⟩ := HS7.out; have n4 := H7.cell.2.2.2.2; have nf4 := H7.frozen 4; have G7 := Aside0.mk H7; clear hb H7))
       go_ret
       exact ⟨by rw [HQ.out.2]; first | done | rfl, A7, c7, vo7, vs7, by rw [HQ.out.1]; exact G7.out.set_e 3⟩
    ·have d2 : (t.f0 == 1) = false := beq_eq_false_iff_ne.mpr c3
     have HQ := Aside0.mk (show r = _ ∧ b = _ by have := HR.out; rw [if_neg c3] at this; simpa only [Option.some.injEq, Prod.mk.injEq, eq_comm] using this)
     clear c3
     go_wp2_with (go_at_call 45; (with_reducible refine (rd_is0 w0 _ g l s ⟨#[40]⟩ false HS.out (by omega) P0.out).mono ?_); rintro e w' ⟨rfl, rfl⟩)
     go_ret
     exact ⟨by rw [HQ.out.2]; first | done | rfl, some ad, c0, vo, vs, by rw [HQ.out.1]; exact H4.out.set_e 2⟩
 ·have q1 : (l.length : Int) ≤ (s.i : Int) := by omega
  have q2 : decide ((l.length : Int) ≤ (s.i : Int)) = true := decide_eq_true (by omega)
  have q3 : decide (l.length ≤ s.i) = true := decide_eq_true (by omega)
  have HQ := Aside0.mk (show r = { s with e := 2 } ∧ b = false by have := HR.out; unfold Rd.part at this; rw [List.getElem?_eq_none (by omega)] at this; simpa only [Option.some.injEq, Prod.mk.injEq, eq_comm] using this)
  clear hj H
  go_enter Tryz.func24, Tryz.ntmps24
  go_wp2
  refine start_ (n := 10) (S := fun w' => w'.cell? ⟨g, 1, none⟩ = some (.int .i64 (s.i : Int)) ∧ w'.cell? ⟨g, 0, none⟩ = some (.slice A0 l.length c0)) (ds := []) #[false, false, false, false, false, false, false, false, false, false] (by kernel_rfl) rfl rfl ⟨H0.out.cell.2.1, H0.out.cell.1⟩ (fun hHeld => ?_)
  refine pure_ (i := 0) (N := some 4) (v := ?_) (a' := ?_) #[true, false, false, false, false, false, false, false, false, false] rfl rfl (by kernel_rfl) (fun _ _ _ h => h) (Or.inl ⟨by rfl, ?_⟩) ?_ ?_
  rotate_left
  ·intro w'
   go_simp
   with_reducible rfl
  rotate_left
  ·simp only [Act.put, List.setIfInBounds_toArray, List.set_cons_zero, List.set_cons_succ, i64_w, i32_w]
   rfl
  refine pure_ (i := 1) (N := some 5) (v := ?_) (a' := ?_) #[true, true, false, false, false, false, false, false, false, false] rfl rfl (by kernel_rfl) (fun _ _ _ h => h) (Or.inl ⟨by rfl, ?_⟩) ?_ ?_
  rotate_left
  ·intro w'
   go_simp
   with_reducible rfl
  rotate_left
  ·simp only [Act.put, List.setIfInBounds_toArray, List.set_cons_zero, List.set_cons_succ, i64_w, i32_w]
   rfl
  refine pure_ (i := 2) (N := some 6) (v := ?_) (a' := ?_) #[true, true, true, false, false, false, false, false, false, false] rfl rfl (by kernel_rfl) (fun _ _ _ h => h) (Or.inl ⟨by rfl, ?_⟩) ?_ ?_
  rotate_left
  ·intro w'
   go_simp
   with_reducible rfl
  rotate_left
  ·simp only [Act.put, List.setIfInBounds_toArray, List.set_cons_zero, List.set_cons_succ, i64_w, i32_w]
   rfl
  refine pure_ (i := 4) (N := some 8) (v := ?_) (a' := ?_) #[true, true, true, false, true, false, false, false, false, false] rfl rfl (by kernel_rfl) (fun _ _ _ h => h) (Or.inl ⟨by rfl, ?_⟩) ?_ ?_
  rotate_left
  ·intro w'
   go_simp
   with_reducible rfl
  rotate_left
  ·simp only [Act.put, List.setIfInBounds_toArray, List.set_cons_zero, List.set_cons_succ, i64_w, i32_w]
   rfl
  refine pure_ (i := 5) (N := some 9) (v := ?_) (a' := ?_) #[true, true, true, false, true, true, false, false, false, false] rfl rfl (by kernel_rfl) (fun _ _ _ h => h) (Or.inl ⟨by rfl, ?_⟩) ?_ ?_
  rotate_left
  ·intro w'
   go_simp
   with_reducible rfl
  rotate_left
  ·simp only [Act.put, List.setIfInBounds_toArray, List.set_cons_zero, List.set_cons_succ, i64_w, i32_w]
   rfl
  refine pure_ (i := 6) (N := some 10) (v := ?_) (a' := ?_) #[true, true, true, false, true, true, true, false, false, false] rfl rfl (by kernel_rfl) (fun _ _ _ h => h) (Or.inl ⟨by rfl, ?_⟩) ?_ ?_
  rotate_left
  ·intro w'
   go_simp
   with_reducible rfl
  rotate_left
  ·simp only [Act.put, List.setIfInBounds_toArray, List.set_cons_zero, List.set_cons_succ, i64_w, i32_w]
   rfl
  refine take_ (i := 3) (N := some 7) (v := ?_) (a' := ?_) #[true, true, true, true, true, true, true, false, false, false] rfl rfl (by kernel_rfl) (fun _ _ _ h => h) (Or.inl ⟨by rfl, ?_⟩) hHeld ?_ ?_
  rotate_left
  ·rintro w' ⟨s0, s1⟩
   go_simp
   with_reducible rfl
  rotate_left
  ·simp only [Act.put, List.setIfInBounds_toArray, List.set_cons_zero, List.set_cons_succ, i64_w, i32_w]
   rfl
  refine take_ (i := 7) (N := some 11) (v := ?_) (a' := ?_) #[true, true, true, true, true, true, true, true, false, false] rfl rfl (by kernel_rfl) (fun _ _ _ h => h) (Or.inl ⟨by rfl, ?_⟩) hHeld ?_ ?_
  rotate_left
  ·rintro w' ⟨s0, s1⟩
   go_simp
   with_reducible rfl
  rotate_left
  ·simp only [Act.put, List.setIfInBounds_toArray, List.set_cons_zero, List.set_cons_succ, i64_w, i32_w]
   rfl
  refine pure_ (i := 8) (N := some 12) (v := ?_) (a' := ?_) #[true, true, true, true, true, true, true, true, true, false] rfl rfl (by kernel_rfl) (fun _ _ _ h => h) (Or.inl ⟨by rfl, ?_⟩) ?_ ?_
  rotate_left
  ·intro w'
   go_simp
   with_reducible rfl
  rotate_left
  ·simp only [Act.put, List.setIfInBounds_toArray, List.set_cons_zero, List.set_cons_succ, i64_w, i32_w]
   rfl
  refine pure_ (i := 9) (N := some 13) (v := ?_) (a' := ?_) #[true, true, true, true, true, true, true, true, true, true] rfl rfl (by kernel_rfl) (fun _ _ _ h => h) (Or.inl ⟨by rfl, ?_⟩) ?_ ?_
  rotate_left
  ·intro w'
   go_simp
   with_reducible rfl
  rotate_left
  ·simp only [Act.put, List.setIfInBounds_toArray, List.set_cons_zero, List.set_cons_succ, i64_w, i32_w]
   rfl
  refine done_ (by kernel_rfl) ?_
  go_wp2
  go_ret
  exact ⟨by rw [HQ.out.2]; first | done | rfl, A0, c0, vo, vs, by rw [HQ.out.1]; exact (H0.out.below (below_drew (Below.refl _ _))).set_e 2⟩
def OpRel (T1 T2 : Bool) (k : Nat) (v : Value) : Prop := (k = 2 ∧ v = .int .i64 0) ∨ (k = 1 ∧ v = .int .i64 1 ∧ T1 = false) ∨ (k = 0 ∧ v = .int .i64 2 ∧ T1 = false ∧ T2 = false)
theorem some_pair {r r' : Rd} {b b' : Bool} (h : some (r', b') = some (r, b)) : r = r' ∧ b = b' := by
 cases h
 exact ⟨rfl, rfl⟩
set_option maxHeartbeats 8000000 in
set_option maxRecDepth 100000 in
theorem rd_whole (k : Nat) (w0 w : World) (g : Nat) (l : List S48) (s r : Rd) (b : Bool) (hR : RS w0 w g l s) (h : Rd.whole l k s = some (r, b)) :
  Calls Tryz.prog 25 #[.pointer (some ⟨g, 0, none⟩)] w fun en w' => en = .returned (.bool b) ∧ RS w0 w' g l r := by
 have HR := Aside0.mk hR
 have H' := Aside0.mk h
 clear hR h
 go_enter Tryz.func25, Tryz.ntmps25
 go_wp2
 go_loopg [3] k (fun kq v3 w' => ∃ s', Aside0 (Rd.whole l kq s' = some (r, b)) ∧ Aside0 (kq ≤ k) ∧ Aside0 (RS w0 w' g l s'))
 case atStart => exact ⟨s, H', ⟨Nat.le_refl _⟩, HR⟩
 case round =>
  clear H' HR
  obtain ⟨s0, HA, HK1, HS0⟩ := hrel
  cases gk with
  | zero => exact absurd HA.out (by simp [Rd.whole])
  | succ k1 =>
   obtain ⟨t, q, hst, hi, hlen, hql, H⟩ := whole_open HA.out
   clear HA
   obtain ⟨j1, j2, j3, j4⟩ := joined_st s0 t.f1
   obtain ⟨s1, hs1⟩ : ∃ s1, s0.joined t.f1 = s1 := ⟨_, rfl⟩
   rw [hs1] at j1 j2 j3 j4 H
   have HST := Aside0.mk hst
   have HS1 := Aside0.mk hs1
   have HR := Aside0.mk H
   have HQL := Aside0.mk hql
   have HLN := Aside0.mk (show (s0.out.length + 1) * 32 ≤ 140737488355328 by omega)
   have i1 : s1.i ≤ 1000000000000 := by omega
   have HST1 := Aside0.mk (j1.trans hst)
   have HLN1 := Aside0.mk (show (s1.out.length + 1) * 32 ≤ 140737488355328 by omega)
   clear hst hs1 H hql hlen hi j1 j2 j3 j4
   go_wp2_with (go_at_call 49; (with_reducible refine (rd_joined w0 _ g l s0 q t HST.out HQL.out HS0.out HLN.out).mono ?_); rintro e w1 ⟨rfl, hw⟩; have HW := Aside0.mk hw; clear hw)
   rw [HS1.out] at HW
   obtain ⟨A0, c0, vo, vs, H1⟩ := HW.out
   rw [HST1.out] at H1
   obtain ⟨gs, cap, rfl, hcap, hgs, hglt, x0, x1, x2, x3, xf, H2⟩ := H1.top
   have k3 := H2.cell.2.2.2.1
   have iw : wrap64 (q.length : Int) = (q.length : Int) := by have := HQL.out; unfold wrap64; omega
   have i2 : (0 : Int) ≤ (q.length : Int) := by omega
   have i3 : (q.length : Int) < (q.length : Int) + 1 := by omega
   have HIW := Aside0.mk iw
   have H3 := Aside0.mk H2
   have X0 := Aside0.mk x0
   have X1 := Aside0.mk x1
   have X2 := Aside0.mk x2
   have X3 := Aside0.mk x3
   have XF := Aside0.mk xf
   clear x0 x1 x2 x3 xf H1 H2
   refine start_ (n := 12) (S := fun w' => w'.cell? ⟨g, 3, none⟩ = some (.slice (some ⟨gs, 0, none⟩) (q.length + 1) cap)) (ds := []) #[false, false, false, false, false, false, false, false, false, false, false, false] (by kernel_rfl) rfl rfl (k3) (fun hHeld => ?_)
   refine pure_ (i := 0) (N := some 8) (v := ?_) (a' := ?_) #[true, false, false, false, false, false, false, false, false, false, false, false] rfl rfl (by kernel_rfl) (fun _ _ _ h => h) (Or.inl ⟨by rfl, ?_⟩) ?_ ?_
   rotate_left
   ·intro w'
    go_simp
    with_reducible rfl
   rotate_left
   ·simp only [Act.put, List.setIfInBounds_toArray, List.set_cons_zero, List.set_cons_succ, i64_w, i32_w]
    rfl
   refine pure_ (i := 1) (N := some 9) (v := ?_) (a' := ?_) #[true, true, false, false, false, false, false, false, false, false, false, false] rfl rfl (by kernel_rfl) (fun _ _ _ h => h) (Or.inl ⟨by rfl, ?_⟩) ?_ ?_
   rotate_left
   ·intro w'
    go_simp
    with_reducible rfl
   rotate_left
   ·simp only [Act.put, List.setIfInBounds_toArray, List.set_cons_zero, List.set_cons_succ, i64_w, i32_w]
    rfl
   refine pure_ (i := 2) (N := some 10) (v := ?_) (a' := ?_) #[true, true, true, false, false, false, false, false, false, false, false, false] rfl rfl (by kernel_rfl) (fun _ _ _ h => h) (Or.inl ⟨by rfl, ?_⟩) ?_ ?_
   rotate_left
   ·intro w'
    go_simp
    with_reducible rfl
   rotate_left
   ·simp only [Act.put, List.setIfInBounds_toArray, List.set_cons_zero, List.set_cons_succ, i64_w, i32_w]
    rfl
   refine pure_ (i := 4) (N := some 12) (v := ?_) (a' := ?_) #[true, true, true, false, true, false, false, false, false, false, false, false] rfl rfl (by kernel_rfl) (fun _ _ _ h => h) (Or.inl ⟨by rfl, ?_⟩) ?_ ?_
   rotate_left
   ·intro w'
    go_simp
    with_reducible rfl
   rotate_left
   ·simp only [Act.put, List.setIfInBounds_toArray, List.set_cons_zero, List.set_cons_succ, i64_w, i32_w]
    rfl
   refine pure_ (i := 5) (N := some 13) (v := ?_) (a' := ?_) #[true, true, true, false, true, true, false, false, false, false, false, false] rfl rfl (by kernel_rfl) (fun _ _ _ h => h) (Or.inl ⟨by rfl, ?_⟩) ?_ ?_
   rotate_left
   ·intro w'
    go_simp
    with_reducible rfl
   rotate_left
   ·simp only [Act.put, List.setIfInBounds_toArray, List.set_cons_zero, List.set_cons_succ, i64_w, i32_w]
    rfl
   refine pure_ (i := 6) (N := some 14) (v := ?_) (a' := ?_) #[true, true, true, false, true, true, true, false, false, false, false, false] rfl rfl (by kernel_rfl) (fun _ _ _ h => h) (Or.inl ⟨by rfl, ?_⟩) ?_ ?_
   rotate_left
   ·intro w'
    go_simp
    with_reducible rfl
   rotate_left
   ·simp only [Act.put, List.setIfInBounds_toArray, List.set_cons_zero, List.set_cons_succ, i64_w, i32_w]
    rfl
   refine take_ (i := 3) (N := some 11) (v := ?_) (a' := ?_) #[true, true, true, true, true, true, true, false, false, false, false, false] rfl rfl (by kernel_rfl) (fun _ _ _ h => h) (Or.inl ⟨by rfl, ?_⟩) hHeld ?_ ?_
   rotate_left
   ·intro w' s0
    go_simp
    with_reducible rfl
   rotate_left
   ·simp only [Act.put, List.setIfInBounds_toArray, List.set_cons_zero, List.set_cons_succ, i64_w, i32_w]
    rfl
   refine take_ (i := 7) (N := some 15) (v := ?_) (a' := ?_) #[true, true, true, true, true, true, true, true, false, false, false, false] rfl rfl (by kernel_rfl) (fun _ _ _ h => h) (Or.inl ⟨by rfl, ?_⟩) hHeld ?_ ?_
   rotate_left
   ·intro w' s0
    go_simp
    with_reducible rfl
   rotate_left
   ·simp only [Act.put, List.setIfInBounds_toArray, List.set_cons_zero, List.set_cons_succ, i64_w, i32_w]
    rfl
   refine pure_ (i := 8) (N := some 16) (v := ?_) (a' := ?_) #[true, true, true, true, true, true, true, true, true, false, false, false] rfl rfl (by kernel_rfl) (fun _ _ _ h => h) (Or.inl ⟨by rfl, ?_⟩) ?_ ?_
   rotate_left
   ·intro w'
    go_simp
    with_reducible rfl
   rotate_left
   ·simp only [Act.put, List.setIfInBounds_toArray, List.set_cons_zero, List.set_cons_succ, i64_w, i32_w]
    rfl
   refine pure_ (i := 9) (N := some 17) (v := ?_) (a' := ?_) #[true, true, true, true, true, true, true, true, true, true, false, false] rfl rfl (by kernel_rfl) (fun _ _ _ h => h) (Or.inl ⟨by rfl, ?_⟩) ?_ ?_
   rotate_left
   ·intro w'
    go_simp
    with_reducible rfl
   rotate_left
   ·simp only [Act.put, List.setIfInBounds_toArray, List.set_cons_zero, List.set_cons_succ, i64_w, i32_w]
    rfl
   refine pure_ (i := 10) (N := some 18) (v := ?_) (a' := ?_) #[true, true, true, true, true, true, true, true, true, true, true, false] rfl rfl (by kernel_rfl) (fun _ _ _ h => h) (Or.inl ⟨by rfl, ?_⟩) ?_ ?_
   rotate_left
   ·intro w'
    go_simp
    with_reducible rfl
   rotate_left
   ·simp only [Act.put, List.setIfInBounds_toArray, List.set_cons_zero, List.set_cons_succ, i64_w, i32_w]
    rfl
   refine pure_ (i := 11) (N := some 3) (v := ?_) (a' := ?_) #[true, true, true, true, true, true, true, true, true, true, true, true] rfl rfl (by kernel_rfl) (fun _ _ _ h => h) (Or.inl ⟨by rfl, ?_⟩) ?_ ?_
   rotate_left
   ·intro w'
    go_simp
    with_reducible rfl
   rotate_left
   ·simp only [Act.put, List.setIfInBounds_toArray, List.set_cons_zero, List.set_cons_succ, i64_w, i32_w]
    rfl
   refine done_ (by kernel_rfl) ?_
   go_wp2
   obtain ⟨w2, hw2⟩ : ∃ w2, (w1.alloc (.cells #[.string ⟨#[124]⟩, .string ⟨#[38]⟩] 9)).drew = w2 := ⟨_, rfl⟩
   rw [hw2]
   have hb2 : Below w1.heap.size w1 w2 := by rw [← hw2]; exact below_drew (below_alloc (Below.refl _ _) _)
   have hh2 : w2.heap[w1.heap.size]? = some (.cells #[.string ⟨#[124]⟩, .string ⟨#[38]⟩] 9 (0, 0)) := by rw [← hw2]; exact heap_alloc_new w1 _
   obtain ⟨n2, hn2⟩ : ∃ n2, w1.heap.size = n2 := ⟨_, rfl⟩
   have z0 : w2.cell? ⟨n2, 0, none⟩ = some (.string ⟨#[124]⟩) := by rw [← hn2]; exact blk_cell hh2 0
   have z1 : w2.cell? ⟨n2, 1, none⟩ = some (.string ⟨#[38]⟩) := by rw [← hn2]; exact blk_cell hh2 1
   rw [hn2]
   rw [iw]
   clear iw
   have G2 := Aside0.mk (H3.out.below hb2)
   have HS : Aside0 (RS w0 w2 g l s1) := Aside0.mk ⟨A0, c0, vo, _, by rw [HST1.out]; exact G2.out⟩
   have y0 := pw_cell_below hb2 X0.out
   have y1 := pw_cell_below hb2 X1.out
   have y2 := pw_cell_below hb2 X2.out
   have y3 := pw_cell_below hb2 X3.out
   have yf3 : w2.frozen? ⟨gs, q.length * 4 + 3, none⟩ = false := (hb2.frozen (p := ⟨gs, q.length * 4 + 3, none⟩) hglt).trans (XF.out _)
   have yf2 : w2.frozen? ⟨gs, q.length * 4 + 2, none⟩ = false := (hb2.frozen (p := ⟨gs, q.length * 4 + 2, none⟩) hglt).trans (XF.out _)
   obtain ⟨v0, v1, v2, v3, v4⟩ := G2.out.cell
   have vf1 := G2.out.frozen 1
   have vf3 := G2.out.frozen 3
   have vf4 := G2.out.frozen 4
   clear hw2 hb2 hh2 hn2 k3 hHeld H3 X0 X1 X2 X3 XF hglt
   obtain ⟨b1, hb1⟩ : ∃ b, sg l s1.i ⟨#[124]⟩ = b := ⟨_, rfl⟩
   obtain ⟨b2, hb2⟩ : ∃ b, sg l s1.i ⟨#[38]⟩ = b := ⟨_, rfl⟩
   obtain ⟨o0, ho0⟩ : ∃ b, (t.f1.toList == []) = b := ⟨_, rfl⟩
   obtain ⟨o1, ho1⟩ : ∃ b, (t.f1.toList == [124]) = b := ⟨_, rfl⟩
   obtain ⟨o2, ho2⟩ : ∃ b, (t.f1.toList == [38]) = b := ⟨_, rfl⟩
   replace HR := Aside0.mk (by have := HR.out; unfold Rd.turn at this; rw [hb1, hb2, ho0, ho1, ho2] at this; exact this)
   have P1 := Aside0.mk hb1
   have P2 := Aside0.mk hb2
   have O0 := Aside0.mk ho0
   have O1 := Aside0.mk ho1
   have O2 := Aside0.mk ho2
   clear hb1 hb2 ho0 ho1 ho2
   have HW2 := Aside0.mk (rfl : w2 = w2)
   go_loopg [21] 2 (fun kq v21 w' => OpRel (b1 && (o0 || o1)) (b2 && (o0 || o2)) kq v21 ∧ Aside0 (w2 = w'))
   case atStart => exact ⟨.inl ⟨rfl, rfl⟩, HW2⟩
   case round =>
    obtain ⟨hrel, hw2⟩ := hrel
    obtain rfl := hw2.out
    clear hw2 HW2
    rcases hrel with ⟨rfl, rfl⟩ | ⟨rfl, rfl, hT1⟩ | ⟨rfl, rfl, hT1, hT2⟩
    ·have h0 := O0.out
     have h1 := O1.out
     cases b1 <;> cases o0 <;> cases o1
     all_goals
      go_wp2_with (go_at_call 45; (with_reducible refine (rd_is0 w0 _ g l s1 ⟨#[124]⟩ _ HS.out (by omega) P1.out).mono ?_); rintro e w' ⟨rfl, rfl⟩)
      first
      | (go_roundg 1
         case measure => omega
         case rel => exact ⟨.inr (.inl ⟨rfl, rfl, rfl⟩), ⟨rfl⟩⟩)
      | (go_ret
         have h9 := HR.out
         have HQ := some_pair h9
         exact ⟨by rw [HQ.2]; first | done | rfl, A0, c0, vo, _, by rw [HQ.1]; exact (G2.out.top_set 3 (by omega) (.string ⟨#[124]⟩) (t1 := ⟨t.f0, ⟨#[124]⟩⟩) rfl).set_at _⟩)
    ·have h0 := O0.out
     have h1 := O2.out
     have HT1 := Aside0.mk hT1
     clear hT1
     replace HR := Aside0.mk (by have := HR.out; rwa [if_neg (by rw [HT1.out]; simp)] at this)
     cases b2 <;> cases o0 <;> cases o2
     all_goals
      go_wp2_with (go_at_call 45; (with_reducible refine (rd_is0 w0 _ g l s1 ⟨#[38]⟩ _ HS.out (by omega) P2.out).mono ?_); rintro e w' ⟨rfl, rfl⟩)
      first
      | (go_roundg 0
         case measure => omega
         case rel => exact ⟨.inr (.inr ⟨rfl, rfl, HT1.out, rfl⟩), ⟨rfl⟩⟩)
      | (go_ret
         have h9 := HR.out
         have HQ := some_pair h9
         exact ⟨by rw [HQ.2]; first | done | rfl, A0, c0, vo, _, by rw [HQ.1]; exact (G2.out.top_set 3 (by omega) (.string ⟨#[38]⟩) (t1 := ⟨t.f0, ⟨#[38]⟩⟩) rfl).set_at _⟩)
    ·have HR1 := HR.out
     rw [if_neg (by rw [hT1]; simp), if_neg (by rw [hT2]; simp)] at HR1
     replace HR := Aside0.mk HR1
     clear HR1 hT1 hT2
     by_cases hq0 : q.length = 0
     ·have c1 : ((q.length : Int) + 1 == 1) = true := beq_iff_eq.mpr (by omega)
      have h9 := HR.out
      rw [if_pos hq0] at h9
      have HQ := Aside0.mk (some_pair h9)
      clear h9 hq0
      go_wp2
      go_ret
      exact ⟨by rw [HQ.out.2]; first | done | rfl, by rw [HQ.out.1]; exact HS.out⟩
     ·have c1 : ((q.length : Int) + 1 == 1) = false := beq_eq_false_iff_ne.mpr (by omega)
      have h9 := HR.out
      rw [if_neg hq0] at h9
      replace HR := Aside0.mk h9
      clear h9 hq0
      obtain ⟨b3, hb3⟩ : ∃ b, sg l s1.i ⟨#[44]⟩ = b := ⟨_, rfl⟩
      obtain ⟨d3, hd3⟩ : ∃ b, (t.f0.f0 == 3) = b := ⟨_, rfl⟩
      have h9 := HR.out
      rw [hb3, hd3] at h9
      have P3 := Aside0.mk hb3
      clear HR hb3
      by_cases c3 : (b3 && d3) = true
      ·rw [if_pos c3] at h9
       obtain ⟨rfl, rfl⟩ : b3 = true ∧ d3 = true := by simpa using c3
       clear c3
       by_cases c4 : t.f0.f2 = 8
       ·rw [if_pos c4] at h9
        have c5 : (t.f0.f2 == 8) = true := beq_iff_eq.mpr c4
        have HQ := Aside0.mk (some_pair h9)
        clear h9 c4
        go_wp2_with (go_at_call 45; (with_reducible refine (rd_is0 w0 _ g l s1 ⟨#[44]⟩ _ HS.out (by omega) P3.out).mono ?_); rintro e w' ⟨rfl, rfl⟩)
        go_ret
        exact ⟨by rw [HQ.out.2]; first | done | rfl, A0, c0, vo, _, by rw [HQ.out.1, HST1.out]; exact G2.out.set_e 5⟩
       ·rw [if_neg c4] at h9
        have c5 : (t.f0.f2 == 8) = false := beq_eq_false_iff_ne.mpr c4
        have HQ := Aside0.mk (some_pair h9)
        clear h9 c4
        go_wp2_with (go_at_call 45; (with_reducible refine (rd_is0 w0 _ g l s1 ⟨#[44]⟩ _ HS.out (by omega) P3.out).mono ?_); rintro e w' ⟨rfl, rfl⟩)
        go_ret
        exact ⟨by rw [HQ.out.2]; first | done | rfl, A0, c0, vo, _, by rw [HQ.out.1]; exact (((G2.out.top_set 2 (by omega) (.int .i64 (wrap64 (t.f0.f2 + 1))) (t1 := ⟨⟨t.f0.f0, t.f0.f1, wrap64 (t.f0.f2 + 1)⟩, t.f1⟩) rfl).top_set 3 (by omega) (.string ⟨#[]⟩) (t1 := ⟨⟨t.f0.f0, t.f0.f1, wrap64 (t.f0.f2 + 1)⟩, ⟨#[]⟩⟩) rfl).set_at _)⟩
      ·rw [if_neg c3] at h9
       by_cases c6 : sg l s1.i ⟨#[41]⟩ = true
       ·rw [if_pos c6] at h9
        have P4 := Aside0.mk c6
        have HR := Aside0.mk h9
        clear h9 c6
        have HIW' := HIW.out
        cases b3 <;> cases d3 <;> first | (exfalso; exact c3 rfl) | skip
        all_goals
         clear c3
         by_cases c7 : t.f0.f0 = -1
         ·have e1 : (t.f0.f0 == -1) = true := beq_iff_eq.mpr c7
          have e2 : (t.f0.f0 != -1) = false := bne_eq_false_iff_eq.mpr c7
          have h9 := HR.out
          rw [if_pos c7] at h9
          replace HR := Aside0.mk h9
          clear h9 c7
          go_wp2_with (first | (go_at_call 45; (with_reducible refine (rd_is0 w0 _ g l s1 ⟨#[44]⟩ _ HS.out (by omega) P3.out).mono ?_); rintro e w' ⟨rfl, rfl⟩) | (go_at_call 45; (with_reducible refine (rd_is0 w0 _ g l s1 ⟨#[41]⟩ _ HS.out (by omega) P4.out).mono ?_); rintro e w' ⟨rfl, rfl⟩))
          have HA2 := Aside0.mk (G2.out.below (below_drew (Below.refl _ _)))
          have i4 : (q.length : Int) ≤ (cap : Int) := by omega
          refine start_ (n := 15) (S := fun w' => w'.cell? ⟨g, 3, none⟩ = some (.slice (some ⟨gs, 0, none⟩) (q.length + 1) cap)) (ds := [14]) #[false, false, false, false, false, false, false, false, false, false, false, false, false, false, false] (by kernel_rfl) rfl rfl (v3) (fun hHeld => ?_)
          refine pure_ (i := 0) (N := some 120) (v := ?_) (a' := ?_) #[true, false, false, false, false, false, false, false, false, false, false, false, false, false, false] rfl rfl (by kernel_rfl) (fun _ _ _ h => h) (Or.inl ⟨by rfl, ?_⟩) ?_ ?_
          rotate_left
          ·intro w'
           go_simp
           with_reducible rfl
          rotate_left
          ·simp only [Act.put, List.setIfInBounds_toArray, List.set_cons_zero, List.set_cons_succ, i64_w, i32_w]
           rfl
          refine pure_ (i := 1) (N := some 121) (v := ?_) (a' := ?_) #[true, true, false, false, false, false, false, false, false, false, false, false, false, false, false] rfl rfl (by kernel_rfl) (fun _ _ _ h => h) (Or.inl ⟨by rfl, ?_⟩) ?_ ?_
          rotate_left
          ·intro w'
           go_simp
           with_reducible rfl
          rotate_left
          ·simp only [Act.put, List.setIfInBounds_toArray, List.set_cons_zero, List.set_cons_succ, i64_w, i32_w]
           rfl
          refine pure_ (i := 2) (N := some 122) (v := ?_) (a' := ?_) #[true, true, true, false, false, false, false, false, false, false, false, false, false, false, false] rfl rfl (by kernel_rfl) (fun _ _ _ h => h) (Or.inl ⟨by rfl, ?_⟩) ?_ ?_
          rotate_left
          ·intro w'
           go_simp
           with_reducible rfl
          rotate_left
          ·simp only [Act.put, List.setIfInBounds_toArray, List.set_cons_zero, List.set_cons_succ, i64_w, i32_w]
           rfl
          refine pure_ (i := 3) (N := some 123) (v := ?_) (a' := ?_) #[true, true, true, true, false, false, false, false, false, false, false, false, false, false, false] rfl rfl (by kernel_rfl) (fun _ _ _ h => h) (Or.inl ⟨by rfl, ?_⟩) ?_ ?_
          rotate_left
          ·intro w'
           go_simp
           with_reducible rfl
          rotate_left
          ·simp only [Act.put, List.setIfInBounds_toArray, List.set_cons_zero, List.set_cons_succ, i64_w, i32_w]
           rfl
          refine pure_ (i := 5) (N := some 125) (v := ?_) (a' := ?_) #[true, true, true, true, false, true, false, false, false, false, false, false, false, false, false] rfl rfl (by kernel_rfl) (fun _ _ _ h => h) (Or.inl ⟨by rfl, ?_⟩) ?_ ?_
          rotate_left
          ·intro w'
           go_simp
           with_reducible rfl
          rotate_left
          ·simp only [Act.put, List.setIfInBounds_toArray, List.set_cons_zero, List.set_cons_succ, i64_w, i32_w]
           rfl
          refine pure_ (i := 6) (N := some 126) (v := ?_) (a' := ?_) #[true, true, true, true, false, true, true, false, false, false, false, false, false, false, false] rfl rfl (by kernel_rfl) (fun _ _ _ h => h) (Or.inl ⟨by rfl, ?_⟩) ?_ ?_
          rotate_left
          ·intro w'
           go_simp
           with_reducible rfl
          rotate_left
          ·simp only [Act.put, List.setIfInBounds_toArray, List.set_cons_zero, List.set_cons_succ, i64_w, i32_w]
           rfl
          refine pure_ (i := 7) (N := some 127) (v := ?_) (a' := ?_) #[true, true, true, true, false, true, true, true, false, false, false, false, false, false, false] rfl rfl (by kernel_rfl) (fun _ _ _ h => h) (Or.inl ⟨by rfl, ?_⟩) ?_ ?_
          rotate_left
          ·intro w'
           go_simp
           with_reducible rfl
          rotate_left
          ·simp only [Act.put, List.setIfInBounds_toArray, List.set_cons_zero, List.set_cons_succ, i64_w, i32_w]
           rfl
          refine take_ (i := 4) (N := some 124) (v := ?_) (a' := ?_) #[true, true, true, true, true, true, true, true, false, false, false, false, false, false, false] rfl rfl (by kernel_rfl) (fun _ _ _ h => h) (Or.inl ⟨by rfl, ?_⟩) hHeld ?_ ?_
          rotate_left
          ·intro w' s0
           go_simp
           with_reducible rfl
          rotate_left
          ·simp only [Act.put, List.setIfInBounds_toArray, List.set_cons_zero, List.set_cons_succ, i64_w, i32_w]
           rfl
          refine take_ (i := 8) (N := some 128) (v := ?_) (a' := ?_) #[true, true, true, true, true, true, true, true, true, false, false, false, false, false, false] rfl rfl (by kernel_rfl) (fun _ _ _ h => h) (Or.inl ⟨by rfl, ?_⟩) hHeld ?_ ?_
          rotate_left
          ·intro w' s0
           go_simp
           with_reducible rfl
          rotate_left
          ·simp only [Act.put, List.setIfInBounds_toArray, List.set_cons_zero, List.set_cons_succ, i64_w, i32_w]
           rfl
          refine pure_ (i := 9) (N := some 129) (v := ?_) (a' := ?_) #[true, true, true, true, true, true, true, true, true, true, false, false, false, false, false] rfl rfl (by kernel_rfl) (fun _ _ _ h => h) (Or.inl ⟨by rfl, ?_⟩) ?_ ?_
          rotate_left
          ·intro w'
           go_simp
           with_reducible rfl
          rotate_left
          ·simp only [Act.put, List.setIfInBounds_toArray, List.set_cons_zero, List.set_cons_succ, i64_w, i32_w]
           rfl
          refine pure_ (i := 10) (N := some 130) (v := ?_) (a' := ?_) #[true, true, true, true, true, true, true, true, true, true, true, false, false, false, false] rfl rfl (by kernel_rfl) (fun _ _ _ h => h) (Or.inl ⟨by rfl, ?_⟩) ?_ ?_
          rotate_left
          ·intro w'
           go_simp
           with_reducible rfl
          rotate_left
          ·simp only [Act.put, List.setIfInBounds_toArray, List.set_cons_zero, List.set_cons_succ, i64_w, i32_w]
           rfl
          refine pure_ (i := 11) (N := some 131) (v := ?_) (a' := ?_) #[true, true, true, true, true, true, true, true, true, true, true, true, false, false, false] rfl rfl (by kernel_rfl) (fun _ _ _ h => h) (Or.inl ⟨by rfl, ?_⟩) ?_ ?_
          rotate_left
          ·intro w'
           go_simp
           with_reducible rfl
          rotate_left
          ·simp only [Act.put, List.setIfInBounds_toArray, List.set_cons_zero, List.set_cons_succ, i64_w, i32_w]
           rfl
          refine pure_ (i := 12) (N := some 132) (v := ?_) (a' := ?_) #[true, true, true, true, true, true, true, true, true, true, true, true, true, false, false] rfl rfl (by kernel_rfl) (fun _ _ _ h => h) (Or.inl ⟨by rfl, ?_⟩) ?_ ?_
          rotate_left
          ·intro w'
           go_simp
           with_reducible rfl
          rotate_left
          ·simp only [Act.put, List.setIfInBounds_toArray, List.set_cons_zero, List.set_cons_succ, i64_w, i32_w]
           rfl
          refine pure_ (i := 13) (N := some 133) (v := ?_) (a' := ?_) #[true, true, true, true, true, true, true, true, true, true, true, true, true, true, false] rfl rfl (by kernel_rfl) (fun _ _ _ h => h) (Or.inl ⟨by rfl, ?_⟩) ?_ ?_
          rotate_left
          ·intro w'
           go_simp
           with_reducible rfl
          rotate_left
          ·simp only [Act.put, List.setIfInBounds_toArray, List.set_cons_zero, List.set_cons_succ, i64_w, i32_w]
           rfl
          refine last_ (i := 14) (N := none) #[true, true, true, true, true, true, true, true, true, true, true, true, true, true, true] rfl rfl (by kernel_rfl) (by decide) (fun K hK => ?_)
          refine skip_ (w1 := ?_) (by rfl) rfl ?_ ?_
          rotate_left
          ·go_simp
           rfl
          refine hK.out _ _ ?_
          clear hK K
          refine done_ (by kernel_rfl) ?_
          go_wp2
          go_roundg k1
          case measure => have := HK1.out; omega
          case rel => exact ⟨_, HR, ⟨by have := HK1.out; omega⟩, ⟨A0, c0, vo, _, HA2.out.pop.set_at _⟩⟩
         ·have e1 : (t.f0.f0 == -1) = false := beq_eq_false_iff_ne.mpr c7
          have e2 : (t.f0.f0 != -1) = true := bne_iff_ne.mpr c7
          have h9 := HR.out
          rw [if_neg c7] at h9
          replace HR := Aside0.mk h9
          clear h9 c7
          go_wp2_with (first | (go_at_call 45; (with_reducible refine (rd_is0 w0 _ g l s1 ⟨#[44]⟩ _ HS.out (by omega) P3.out).mono ?_); rintro e w' ⟨rfl, rfl⟩) | (go_at_call 45; (with_reducible refine (rd_is0 w0 _ g l s1 ⟨#[41]⟩ _ HS.out (by omega) P4.out).mono ?_); rintro e w' ⟨rfl, rfl⟩) | (go_at_call 47; (with_reducible refine (rd_emit w0 _ g l s1 t.f0 HS.out HLN1.out).mono ?_); rintro e w6 ⟨rfl, H6⟩; have HF := Aside0.mk H6; clear H6))
          obtain ⟨A0, c0, vo, vs, H6⟩ := HF.out
          rw [show (s1.emit t.f0).st = q ++ [t] from HST1.out] at H6
          obtain ⟨gs, cap, rfl, hcap, hgs, hglt, -, -, -, -, -, H7⟩ := H6.top
          have HA2 := Aside0.mk (H7.below (below_drew (Below.refl _ _)))
          have kk1 : w6.cell? ⟨g, 1, none⟩ = some (.int .i64 (s1.i : Int)) := H7.cell.2.1
          have k3 := H7.cell.2.2.2.1
          have kf1 := H7.frozen 1
          have kf3 := H7.frozen 3
          have i4 : (q.length : Int) ≤ (cap : Int) := by omega
          clear H6 H7 hcap hgs hglt
          refine start_ (n := 15) (S := fun w' => w'.cell? ⟨g, 3, none⟩ = some (.slice (some ⟨gs, 0, none⟩) (q.length + 1) cap)) (ds := [14]) #[false, false, false, false, false, false, false, false, false, false, false, false, false, false, false] (by kernel_rfl) rfl rfl (k3) (fun hHeld => ?_)
          refine pure_ (i := 0) (N := some 120) (v := ?_) (a' := ?_) #[true, false, false, false, false, false, false, false, false, false, false, false, false, false, false] rfl rfl (by kernel_rfl) (fun _ _ _ h => h) (Or.inl ⟨by rfl, ?_⟩) ?_ ?_
          rotate_left
          ·intro w'
           go_simp
           with_reducible rfl
          rotate_left
          ·simp only [Act.put, List.setIfInBounds_toArray, List.set_cons_zero, List.set_cons_succ, i64_w, i32_w]
           rfl
          refine pure_ (i := 1) (N := some 121) (v := ?_) (a' := ?_) #[true, true, false, false, false, false, false, false, false, false, false, false, false, false, false] rfl rfl (by kernel_rfl) (fun _ _ _ h => h) (Or.inl ⟨by rfl, ?_⟩) ?_ ?_
          rotate_left
          ·intro w'
           go_simp
           with_reducible rfl
          rotate_left
          ·simp only [Act.put, List.setIfInBounds_toArray, List.set_cons_zero, List.set_cons_succ, i64_w, i32_w]
           rfl
          refine pure_ (i := 2) (N := some 122) (v := ?_) (a' := ?_) #[true, true, true, false, false, false, false, false, false, false, false, false, false, false, false] rfl rfl (by kernel_rfl) (fun _ _ _ h => h) (Or.inl ⟨by rfl, ?_⟩) ?_ ?_
          rotate_left
          ·intro w'
           go_simp
           with_reducible rfl
          rotate_left
          ·simp only [Act.put, List.setIfInBounds_toArray, List.set_cons_zero, List.set_cons_succ, i64_w, i32_w]
           rfl
          refine pure_ (i := 3) (N := some 123) (v := ?_) (a' := ?_) #[true, true, true, true, false, false, false, false, false, false, false, false, false, false, false] rfl rfl (by kernel_rfl) (fun _ _ _ h => h) (Or.inl ⟨by rfl, ?_⟩) ?_ ?_
          rotate_left
          ·intro w'
           go_simp
           with_reducible rfl
          rotate_left
          ·simp only [Act.put, List.setIfInBounds_toArray, List.set_cons_zero, List.set_cons_succ, i64_w, i32_w]
           rfl
          refine pure_ (i := 5) (N := some 125) (v := ?_) (a' := ?_) #[true, true, true, true, false, true, false, false, false, false, false, false, false, false, false] rfl rfl (by kernel_rfl) (fun _ _ _ h => h) (Or.inl ⟨by rfl, ?_⟩) ?_ ?_
          rotate_left
          ·intro w'
           go_simp
           with_reducible rfl
          rotate_left
          ·simp only [Act.put, List.setIfInBounds_toArray, List.set_cons_zero, List.set_cons_succ, i64_w, i32_w]
           rfl
          refine pure_ (i := 6) (N := some 126) (v := ?_) (a' := ?_) #[true, true, true, true, false, true, true, false, false, false, false, false, false, false, false] rfl rfl (by kernel_rfl) (fun _ _ _ h => h) (Or.inl ⟨by rfl, ?_⟩) ?_ ?_
          rotate_left
          ·intro w'
           go_simp
           with_reducible rfl
          rotate_left
          ·simp only [Act.put, List.setIfInBounds_toArray, List.set_cons_zero, List.set_cons_succ, i64_w, i32_w]
           rfl
          refine pure_ (i := 7) (N := some 127) (v := ?_) (a' := ?_) #[true, true, true, true, false, true, true, true, false, false, false, false, false, false, false] rfl rfl (by kernel_rfl) (fun _ _ _ h => h) (Or.inl ⟨by rfl, ?_⟩) ?_ ?_
          rotate_left
          ·intro w'
           go_simp
           with_reducible rfl
          rotate_left
          ·simp only [Act.put, List.setIfInBounds_toArray, List.set_cons_zero, List.set_cons_succ, i64_w, i32_w]
           rfl
          refine take_ (i := 4) (N := some 124) (v := ?_) (a' := ?_) #[true, true, true, true, true, true, true, true, false, false, false, false, false, false, false] rfl rfl (by kernel_rfl) (fun _ _ _ h => h) (Or.inl ⟨by rfl, ?_⟩) hHeld ?_ ?_
          rotate_left
          ·intro w' s0
           go_simp
           with_reducible rfl
          rotate_left
          ·simp only [Act.put, List.setIfInBounds_toArray, List.set_cons_zero, List.set_cons_succ, i64_w, i32_w]
           rfl
          refine take_ (i := 8) (N := some 128) (v := ?_) (a' := ?_) #[true, true, true, true, true, true, true, true, true, false, false, false, false, false, false] rfl rfl (by kernel_rfl) (fun _ _ _ h => h) (Or.inl ⟨by rfl, ?_⟩) hHeld ?_ ?_
          rotate_left
          ·intro w' s0
           go_simp
           with_reducible rfl
          rotate_left
          ·simp only [Act.put, List.setIfInBounds_toArray, List.set_cons_zero, List.set_cons_succ, i64_w, i32_w]
           rfl
          refine pure_ (i := 9) (N := some 129) (v := ?_) (a' := ?_) #[true, true, true, true, true, true, true, true, true, true, false, false, false, false, false] rfl rfl (by kernel_rfl) (fun _ _ _ h => h) (Or.inl ⟨by rfl, ?_⟩) ?_ ?_
          rotate_left
          ·intro w'
           go_simp
           with_reducible rfl
          rotate_left
          ·simp only [Act.put, List.setIfInBounds_toArray, List.set_cons_zero, List.set_cons_succ, i64_w, i32_w]
           rfl
          refine pure_ (i := 10) (N := some 130) (v := ?_) (a' := ?_) #[true, true, true, true, true, true, true, true, true, true, true, false, false, false, false] rfl rfl (by kernel_rfl) (fun _ _ _ h => h) (Or.inl ⟨by rfl, ?_⟩) ?_ ?_
          rotate_left
          ·intro w'
           go_simp
           with_reducible rfl
          rotate_left
          ·simp only [Act.put, List.setIfInBounds_toArray, List.set_cons_zero, List.set_cons_succ, i64_w, i32_w]
           rfl
          refine pure_ (i := 11) (N := some 131) (v := ?_) (a' := ?_) #[true, true, true, true, true, true, true, true, true, true, true, true, false, false, false] rfl rfl (by kernel_rfl) (fun _ _ _ h => h) (Or.inl ⟨by rfl, ?_⟩) ?_ ?_
          rotate_left
          ·intro w'
           go_simp
           with_reducible rfl
          rotate_left
          ·simp only [Act.put, List.setIfInBounds_toArray, List.set_cons_zero, List.set_cons_succ, i64_w, i32_w]
           rfl
          refine pure_ (i := 12) (N := some 132) (v := ?_) (a' := ?_) #[true, true, true, true, true, true, true, true, true, true, true, true, true, false, false] rfl rfl (by kernel_rfl) (fun _ _ _ h => h) (Or.inl ⟨by rfl, ?_⟩) ?_ ?_
          rotate_left
          ·intro w'
           go_simp
           with_reducible rfl
          rotate_left
          ·simp only [Act.put, List.setIfInBounds_toArray, List.set_cons_zero, List.set_cons_succ, i64_w, i32_w]
           rfl
          refine pure_ (i := 13) (N := some 133) (v := ?_) (a' := ?_) #[true, true, true, true, true, true, true, true, true, true, true, true, true, true, false] rfl rfl (by kernel_rfl) (fun _ _ _ h => h) (Or.inl ⟨by rfl, ?_⟩) ?_ ?_
          rotate_left
          ·intro w'
           go_simp
           with_reducible rfl
          rotate_left
          ·simp only [Act.put, List.setIfInBounds_toArray, List.set_cons_zero, List.set_cons_succ, i64_w, i32_w]
           rfl
          refine last_ (i := 14) (N := none) #[true, true, true, true, true, true, true, true, true, true, true, true, true, true, true] rfl rfl (by kernel_rfl) (by decide) (fun K hK => ?_)
          refine skip_ (w1 := ?_) (by rfl) rfl ?_ ?_
          rotate_left
          ·go_simp
           rfl
          refine hK.out _ _ ?_
          clear hK K
          refine done_ (by kernel_rfl) ?_
          go_wp2
          go_roundg k1
          case measure => have := HK1.out; omega
          case rel => exact ⟨_, HR, ⟨by have := HK1.out; omega⟩, ⟨A0, c0, vo, _, HA2.out.pop.set_at _⟩⟩
       ·rw [if_neg c6] at h9
        have P4 := Aside0.mk (eq_false_of_ne_true c6)
        have HQ := Aside0.mk (some_pair h9)
        clear h9 c6
        cases b3 <;> cases d3 <;> first | (exfalso; exact c3 rfl) | skip
        all_goals
         clear c3
         go_wp2_with (first | (go_at_call 45; (with_reducible refine (rd_is0 w0 _ g l s1 ⟨#[44]⟩ _ HS.out (by omega) P3.out).mono ?_); rintro e w' ⟨rfl, rfl⟩) | (go_at_call 45; (with_reducible refine (rd_is0 w0 _ g l s1 ⟨#[41]⟩ _ HS.out (by omega) P4.out).mono ?_); rintro e w' ⟨rfl, rfl⟩))
         go_ret
         exact ⟨by rw [HQ.out.2]; first | done | rfl, A0, c0, vo, _, by rw [HQ.out.1, HST1.out]; exact G2.out.set_e 2⟩
def Rd.read (l : List S48) : Nat → Rd → Option (List S38 × Int × Int)
 | 0, _ => none
 | k + 1, s => if s.i ≤ 1000000000000 ∧ (s.out.length + 1) * 32 ≤ 140737488355328 then
   (s.part k l).bind fun p => if p.2 = true then ((Rd.whole l k p.1).bind fun q => if q.2 = true then some (q.1.out, (q.1.i : Int), 0) else if q.1.e = 0 then Rd.read l k q.1 else some ([], (q.1.i : Int), q.1.e))
    else if p.1.e = 0 then Rd.read l k p.1 else some ([], (p.1.i : Int), p.1.e)
  else none
def expr_Read.f (k : Nat) (l0 : List S48) (a1 : Int) : Option (List S38 × Int × Int) := if 0 ≤ a1 then Rd.read l0 k ⟨a1.toNat, [], [⟨⟨-1, ⟨#[]⟩, 0⟩, ⟨#[]⟩⟩], 0⟩ else none
theorem Rd.proj_mono (l : List S48) (s : Rd) (name : ByteArray) (k : Nat) : LeO (s.proj k l name) (s.proj (k + 1) l name) := by
 unfold Rd.proj
 split
 ·exact LeO.refl _
 ·rename_i t _
  refine LeO.ite ?_ (LeO.refl _)
  exact LeO.bind (lex_Number.mono t.f1 k) (fun _ => LeO.refl _)
theorem Rd.part_mono (l : List S48) (s : Rd) (k : Nat) : LeO (s.part k l) (s.part (k + 1) l) := by
 unfold Rd.part
 split
 ·exact LeO.refl _
 ·rename_i t _
  repeat' first
   | exact LeO.refl _
   | refine LeO.ite ?_ ?_
   | refine LeO.bind (LeO.refl _) (fun _ => ?_)
   | refine LeO.bind (Rd.proj_mono l s t.f1 k) (fun _ => ?_)
theorem Rd.turn_mono {l : List S48} {q : List S51} {t : S51} {s : Rd} {f g : Rd → Option (Rd × Bool)} (h : ∀ s, LeO (f s) (g s)) : LeO (Rd.turn l q t s f) (Rd.turn l q t s g) := by
 unfold Rd.turn
 repeat' first
  | exact LeO.refl _
  | exact h _
  | refine LeO.ite ?_ ?_
theorem Rd.whole_mono (l : List S48) : ∀ (k : Nat) (s : Rd), LeO (Rd.whole l k s) (Rd.whole l (k + 1) s)
 | 0, s => fun r h => by simp [Rd.whole] at h
 | k + 1, s => by
  rw [Rd.whole, Rd.whole]
  split
  ·exact LeO.refl _
  ·exact LeO.ite (Rd.turn_mono (Rd.whole_mono l k)) (LeO.refl _)
theorem Rd.read_mono (l : List S48) : ∀ (k : Nat) (s : Rd), LeO (Rd.read l k s) (Rd.read l (k + 1) s)
 | 0, s => fun r h => by simp [Rd.read] at h
 | k + 1, s => by
  rw [Rd.read, Rd.read]
  refine LeO.ite (LeO.bind (Rd.part_mono l s k) (fun p => LeO.ite (LeO.bind (Rd.whole_mono l k p.1) (fun q => LeO.ite (LeO.refl _) (LeO.ite (Rd.read_mono l k q.1) (LeO.refl _)))) (LeO.ite (Rd.read_mono l k p.1) (LeO.refl _)))) (LeO.refl _)
theorem expr_Read.mono : ∀ l0 a1 k, LeO (expr_Read.f k l0 a1) (expr_Read.f (k + 1) l0 a1) := by
 intro l0 a1 k
 unfold expr_Read.f
 exact LeO.ite (Rd.read_mono l0 k _) (LeO.refl _)
theorem RS.own {w0 W : World} {g : Nat} {l : List S48} {i : Int} {out : List S38} {st : List S51} {e : Int} {A0 : Option Addr} {c0 : Nat} {vo vs : Value} (h : RSx w0 W g l i out st e A0 c0 vo vs) : Kd.R k38 38 W w0.heap.size (fun _ => True) vo out :=
 ⟨fun _ _ => trivial, rows38 out, h.2.2.2.1, rows38_reps out W w0.heap.size _⟩
theorem R_nil_ (w : World) (base : Nat) : Kd.R k38 38 w base (fun _ => True) (.slice none 0 0) [] := Kd.R_nil _ _ _ _ _
theorem read_open {l : List S48} {k : Nat} {s : Rd} {r : List S38 × Int × Int} (h : Rd.read l (k + 1) s = some r) : s.i ≤ 1000000000000 ∧ (s.out.length + 1) * 32 ≤ 140737488355328 ∧ ∃ p, s.part k l = some p ∧
  (if p.2 = true then ((Rd.whole l k p.1).bind fun q => if q.2 = true then some (q.1.out, (q.1.i : Int), 0) else if q.1.e = 0 then Rd.read l k q.1 else some ([], (q.1.i : Int), q.1.e))
    else if p.1.e = 0 then Rd.read l k p.1 else some ([], (p.1.i : Int), p.1.e)) = some r := by
 rw [Rd.read] at h
 split at h
 ·rename_i hg
  obtain ⟨p, hp, h⟩ := Option.bind_eq_some_iff.1 h
  exact ⟨hg.1, hg.2, p, hp, h⟩
 ·cases h
set_option maxHeartbeats 8000000 in
set_option maxRecDepth 100000 in
theorem expr_Read.calls (k : Nat) (A0 : Option Addr) (c0 : Nat) (l0 : List S48) (a1 : Int) (r1 : List S38) (r2 : Int) (r3 : Int) (w : World) (hr0 : Kd.C k48 w A0 l0.length l0) (hc0 : l0.length ≤ c0) (h : expr_Read.f k l0 a1 = some (r1, r2, r3)) :
  Calls Tryz.prog 14 #[.slice A0 l0.length c0, .int .i64 a1] w fun e w' => ∃ v0_ : Value, e = .returned (.tuple #[v0_, .int .i64 r2, .int .i64 r3]) ∧ Kd.R k38 38 w' w.heap.size (fun _ => True) v0_ r1 ∧ Below w.heap.size w w' := by
 unfold expr_Read.f at h
 by_cases ha : 0 ≤ a1
 case neg => rw [if_neg ha] at h; cases h
 rw [if_pos ha] at h
 obtain ⟨a, rfl⟩ : ∃ a : Nat, a1 = (a : Int) := ⟨a1.toNat, by omega⟩
 rw [Int.toNat_natCast] at h
 have HR0 := Aside0.mk hr0
 have H' := Aside0.mk h
 clear h ha hr0 hc0
 go_enter Tryz.func14, Tryz.ntmps14
 go_wp2
 obtain ⟨W, hW⟩ : ∃ W, ((w.alloc (.cells #[.int .i64 (-1), .string ⟨#[]⟩, .int .i64 0, .string ⟨#[]⟩] 51)).alloc (.cells #[.slice A0 l0.length c0, .int .i64 (a : Int), .slice none 0 0, .slice (some ⟨w.heap.size, 0, none⟩) 1 1, .int .i64 0] 54)) = W := ⟨_, rfl⟩
 rw [hW]
 have hsz : (w.alloc (.cells #[.int .i64 (-1), .string ⟨#[]⟩, .int .i64 0, .string ⟨#[]⟩] 51)).heap.size = w.heap.size + 1 := by simp
 have HS : Aside0 (RS w W (w.heap.size + 1) l0 ⟨a, [], [⟨⟨-1, ⟨#[]⟩, 0⟩, ⟨#[]⟩⟩], 0⟩) := by
  refine Aside0.mk ⟨A0, c0, .slice none 0 0, .slice (some ⟨w.heap.size, 0, none⟩) 1 1, ?_, Nat.le_succ _, HR0.out, own_nil _ _ _ _, ?_, ?_⟩
  ·rw [← hW, ← hsz]
   exact heap_alloc_new _ _
  ·rw [← hW]
   exact (World.ownsRow_lit (base := w.heap.size) (e := 51) (size := 4) w #[.int .i64 (-1), .string ⟨#[]⟩, .int .i64 0, .string ⟨#[]⟩] 1 (Nat.le_refl _) (by simp [maxLen]) rfl).alloc _
  ·rw [← hW]
   exact below_alloc (below_alloc (Below.refl _ _) _) _
 obtain ⟨g, hg⟩ : ∃ g, w.heap.size + 1 = g := ⟨_, rfl⟩
 rw [hg] at HS
 rw [hg]
 clear hg hW hsz HR0
 go_loopg [15] k (fun kq v15 w' => ∃ s', Aside0 (Rd.read l0 kq s' = some (r1, r2, r3)) ∧ Aside0 (kq ≤ k) ∧ Aside0 (RS w w' g l0 s'))
 case atStart => exact ⟨_, H', ⟨Nat.le_refl _⟩, HS⟩
 case round =>
  clear H' HS
  obtain ⟨s, HA, HK1, HS0⟩ := hrel
  cases gk with
  | zero => exact absurd HA.out (by simp [Rd.read])
  | succ k1 =>
   obtain ⟨g1, g2, ⟨p, b⟩, hp, hr⟩ := read_open HA.out
   have G1 := Aside0.mk g1
   have G2 := Aside0.mk g2
   have HP := Aside0.mk hp
   clear g1 g2 hp HA
   cases b with
   | false =>
    rw [if_neg (by simp)] at hr
    by_cases c : p.e = 0
    ·have cb := beq_iff_eq.mpr c
     have cc := bne_eq_false_iff_eq.mpr c
     have HR := Aside0.mk (show Rd.read l0 k1 p = some (r1, r2, r3) by rw [if_pos c] at hr; exact hr)
     clear c hr
     go_wp2_with (go_at_call 24; (with_reducible refine (rd_part k1 w _ g l0 s p false HS0.out G1.out G2.out HP.out).mono ?_); rintro e w1 ⟨rfl, h1⟩; have HS1 := Aside0.mk h1; obtain ⟨A1, c1, vo, vs, H1⟩ := h1; have r4 := H1.cell.2.2.2.2; clear H1)
     go_roundg k1
     case measure => have := HK1.out; omega
     case rel => exact ⟨p, HR, ⟨by have := HK1.out; omega⟩, HS1⟩
    ·have cb := beq_eq_false_iff_ne.mpr c
     have cc := bne_iff_ne.mpr c
     have HR := Aside0.mk (show some ([], (p.i : Int), p.e) = some (r1, r2, r3) by rw [if_neg c] at hr; exact hr)
     clear c hr
     obtain ⟨s2, hs2⟩ : ∃ s2, p = s2 := ⟨_, rfl⟩
     rw [hs2] at HR HP cb cc
     clear hs2
     go_wp2_with (go_at_call 24; (with_reducible refine (rd_part k1 w _ g l0 s s2 false HS0.out G1.out G2.out HP.out).mono ?_); rintro e w1 ⟨rfl, h1⟩; obtain ⟨A1, c1, vo, vs, H1⟩ := h1; have r4 := H1.cell.2.2.2.2; have r1' := H1.cell.2.1; have HS1 := Aside0.mk H1; clear H1)
     refine start_ (n := 11) (S := fun w' => w'.cell? ⟨g, 1, none⟩ = some (.int .i64 (s2.i : Int)) ∧ w'.cell? ⟨g, 4, none⟩ = some (.int .i64 s2.e)) (ds := []) #[false, false, false, false, false, false, false, false, false, false, false] (by kernel_rfl) rfl rfl ⟨r1', r4⟩ (fun hHeld => ?_)
     refine pure_ (i := 0) (N := some 34) (v := ?_) (a' := ?_) #[true, false, false, false, false, false, false, false, false, false, false] rfl rfl (by kernel_rfl) (fun _ _ _ h => h) (Or.inl ⟨by rfl, ?_⟩) ?_ ?_
     rotate_left
     ·intro w'
      go_simp
      with_reducible rfl
     rotate_left
     ·simp only [Act.put, List.setIfInBounds_toArray, List.set_cons_zero, List.set_cons_succ, i64_w, i32_w]
      rfl
     refine pure_ (i := 1) (N := some 35) (v := ?_) (a' := ?_) #[true, true, false, false, false, false, false, false, false, false, false] rfl rfl (by kernel_rfl) (fun _ _ _ h => h) (Or.inl ⟨by rfl, ?_⟩) ?_ ?_
     rotate_left
     ·intro w'
      go_simp
      with_reducible rfl
     rotate_left
     ·simp only [Act.put, List.setIfInBounds_toArray, List.set_cons_zero, List.set_cons_succ, i64_w, i32_w]
      rfl
     refine pure_ (i := 2) (N := some 36) (v := ?_) (a' := ?_) #[true, true, true, false, false, false, false, false, false, false, false] rfl rfl (by kernel_rfl) (fun _ _ _ h => h) (Or.inl ⟨by rfl, ?_⟩) ?_ ?_
     rotate_left
     ·intro w'
      go_simp
      with_reducible rfl
     rotate_left
     ·simp only [Act.put, List.setIfInBounds_toArray, List.set_cons_zero, List.set_cons_succ, i64_w, i32_w]
      rfl
     refine pure_ (i := 4) (N := some 38) (v := ?_) (a' := ?_) #[true, true, true, false, true, false, false, false, false, false, false] rfl rfl (by kernel_rfl) (fun _ _ _ h => h) (Or.inl ⟨by rfl, ?_⟩) ?_ ?_
     rotate_left
     ·intro w'
      go_simp
      with_reducible rfl
     rotate_left
     ·simp only [Act.put, List.setIfInBounds_toArray, List.set_cons_zero, List.set_cons_succ, i64_w, i32_w]
      rfl
     refine pure_ (i := 5) (N := some 39) (v := ?_) (a' := ?_) #[true, true, true, false, true, true, false, false, false, false, false] rfl rfl (by kernel_rfl) (fun _ _ _ h => h) (Or.inl ⟨by rfl, ?_⟩) ?_ ?_
     rotate_left
     ·intro w'
      go_simp
      with_reducible rfl
     rotate_left
     ·simp only [Act.put, List.setIfInBounds_toArray, List.set_cons_zero, List.set_cons_succ, i64_w, i32_w]
      rfl
     refine pure_ (i := 6) (N := some 40) (v := ?_) (a' := ?_) #[true, true, true, false, true, true, true, false, false, false, false] rfl rfl (by kernel_rfl) (fun _ _ _ h => h) (Or.inl ⟨by rfl, ?_⟩) ?_ ?_
     rotate_left
     ·intro w'
      go_simp
      with_reducible rfl
     rotate_left
     ·simp only [Act.put, List.setIfInBounds_toArray, List.set_cons_zero, List.set_cons_succ, i64_w, i32_w]
      rfl
     refine pure_ (i := 8) (N := some 4) (v := ?_) (a' := ?_) #[true, true, true, false, true, true, true, false, true, false, false] rfl rfl (by kernel_rfl) (fun _ _ _ h => h) (Or.inl ⟨by rfl, ?_⟩) ?_ ?_
     rotate_left
     ·intro w'
      go_simp
      with_reducible rfl
     rotate_left
     ·simp only [Act.put, List.setIfInBounds_toArray, List.set_cons_zero, List.set_cons_succ, i64_w, i32_w]
      rfl
     refine take_ (i := 3) (N := some 37) (v := ?_) (a' := ?_) #[true, true, true, true, true, true, true, false, true, false, false] rfl rfl (by kernel_rfl) (fun _ _ _ h => h) (Or.inl ⟨by rfl, ?_⟩) hHeld ?_ ?_
     rotate_left
     ·rintro w' ⟨s0, s1⟩
      go_simp
      with_reducible rfl
     rotate_left
     ·simp only [Act.put, List.setIfInBounds_toArray, List.set_cons_zero, List.set_cons_succ, i64_w, i32_w]
      rfl
     refine pure_ (i := 9) (N := some 5) (v := ?_) (a' := ?_) #[true, true, true, true, true, true, true, false, true, true, false] rfl rfl (by kernel_rfl) (fun _ _ _ h => h) (Or.inl ⟨by rfl, ?_⟩) ?_ ?_
     rotate_left
     ·intro w'
      go_simp
      with_reducible rfl
     rotate_left
     ·simp only [Act.put, List.setIfInBounds_toArray, List.set_cons_zero, List.set_cons_succ, i64_w, i32_w]
      rfl
     refine take_ (i := 7) (N := some 41) (v := ?_) (a' := ?_) #[true, true, true, true, true, true, true, true, true, true, false] rfl rfl (by kernel_rfl) (fun _ _ _ h => h) (Or.inl ⟨by rfl, ?_⟩) hHeld ?_ ?_
     rotate_left
     ·rintro w' ⟨s0, s1⟩
      go_simp
      with_reducible rfl
     rotate_left
     ·simp only [Act.put, List.setIfInBounds_toArray, List.set_cons_zero, List.set_cons_succ, i64_w, i32_w]
      rfl
     refine pure_ (i := 10) (N := some 6) (v := ?_) (a' := ?_) #[true, true, true, true, true, true, true, true, true, true, true] rfl rfl (by kernel_rfl) (fun _ _ _ h => h) (Or.inl ⟨by rfl, ?_⟩) ?_ ?_
     rotate_left
     ·intro w'
      go_simp
      with_reducible rfl
     rotate_left
     ·simp only [Act.put, List.setIfInBounds_toArray, List.set_cons_zero, List.set_cons_succ, i64_w, i32_w]
      rfl
     refine done_ (by kernel_rfl) ?_
     go_wp2
     go_ret3
     cases HR.out
     exact ⟨_, rfl, R_nil_ _ _, (HS1.out.2.2.2.2.2).drew⟩
   | true =>
    rw [if_pos rfl] at hr
    obtain ⟨⟨p2, b2⟩, hp2, hr⟩ := Option.bind_eq_some_iff.1 hr
    have HP2 := Aside0.mk hp2
    clear hp2
    cases b2 with
    | true =>
     have HR := Aside0.mk (show some (p2.out, (p2.i : Int), 0) = some (r1, r2, r3) by rw [if_pos rfl] at hr; exact hr)
     clear hr
     obtain ⟨s2, hs2⟩ : ∃ s2, p2 = s2 := ⟨_, rfl⟩
     rw [hs2] at HR HP2
     clear hs2
     go_wp2_with (first | (go_at_call 24; (with_reducible refine (rd_part k1 w _ g l0 s p true HS0.out G1.out G2.out HP.out).mono ?_); rintro e w1 ⟨rfl, h1⟩; have HS1 := Aside0.mk h1; clear h1) | (go_at_call 25; (with_reducible refine (rd_whole k1 w _ g l0 p s2 true HS1.out HP2.out).mono ?_); rintro e w2 ⟨rfl, h2⟩; obtain ⟨A1, c1, vo, vs, H2⟩ := h2; have r1' := H2.cell.2.1; have r2' := H2.cell.2.2.1; have HS2 := Aside0.mk H2; clear H2))
     refine start_ (n := 11) (S := fun w' => w'.cell? ⟨g, 2, none⟩ = some vo ∧ w'.cell? ⟨g, 1, none⟩ = some (.int .i64 (s2.i : Int))) (ds := []) #[false, false, false, false, false, false, false, false, false, false, false] (by kernel_rfl) rfl rfl ⟨r2', r1'⟩ (fun hHeld => ?_)
     refine pure_ (i := 0) (N := some 21) (v := ?_) (a' := ?_) #[true, false, false, false, false, false, false, false, false, false, false] rfl rfl (by kernel_rfl) (fun _ _ _ h => h) (Or.inl ⟨by rfl, ?_⟩) ?_ ?_
     rotate_left
     ·intro w'
      go_simp
      with_reducible rfl
     rotate_left
     ·simp only [Act.put, List.setIfInBounds_toArray, List.set_cons_zero, List.set_cons_succ, i64_w, i32_w]
      rfl
     refine pure_ (i := 1) (N := some 22) (v := ?_) (a' := ?_) #[true, true, false, false, false, false, false, false, false, false, false] rfl rfl (by kernel_rfl) (fun _ _ _ h => h) (Or.inl ⟨by rfl, ?_⟩) ?_ ?_
     rotate_left
     ·intro w'
      go_simp
      with_reducible rfl
     rotate_left
     ·simp only [Act.put, List.setIfInBounds_toArray, List.set_cons_zero, List.set_cons_succ, i64_w, i32_w]
      rfl
     refine pure_ (i := 2) (N := some 23) (v := ?_) (a' := ?_) #[true, true, true, false, false, false, false, false, false, false, false] rfl rfl (by kernel_rfl) (fun _ _ _ h => h) (Or.inl ⟨by rfl, ?_⟩) ?_ ?_
     rotate_left
     ·intro w'
      go_simp
      with_reducible rfl
     rotate_left
     ·simp only [Act.put, List.setIfInBounds_toArray, List.set_cons_zero, List.set_cons_succ, i64_w, i32_w]
      rfl
     refine pure_ (i := 4) (N := some 25) (v := ?_) (a' := ?_) #[true, true, true, false, true, false, false, false, false, false, false] rfl rfl (by kernel_rfl) (fun _ _ _ h => h) (Or.inl ⟨by rfl, ?_⟩) ?_ ?_
     rotate_left
     ·intro w'
      go_simp
      with_reducible rfl
     rotate_left
     ·simp only [Act.put, List.setIfInBounds_toArray, List.set_cons_zero, List.set_cons_succ, i64_w, i32_w]
      rfl
     refine pure_ (i := 5) (N := some 26) (v := ?_) (a' := ?_) #[true, true, true, false, true, true, false, false, false, false, false] rfl rfl (by kernel_rfl) (fun _ _ _ h => h) (Or.inl ⟨by rfl, ?_⟩) ?_ ?_
     rotate_left
     ·intro w'
      go_simp
      with_reducible rfl
     rotate_left
     ·simp only [Act.put, List.setIfInBounds_toArray, List.set_cons_zero, List.set_cons_succ, i64_w, i32_w]
      rfl
     refine pure_ (i := 6) (N := some 27) (v := ?_) (a' := ?_) #[true, true, true, false, true, true, true, false, false, false, false] rfl rfl (by kernel_rfl) (fun _ _ _ h => h) (Or.inl ⟨by rfl, ?_⟩) ?_ ?_
     rotate_left
     ·intro w'
      go_simp
      with_reducible rfl
     rotate_left
     ·simp only [Act.put, List.setIfInBounds_toArray, List.set_cons_zero, List.set_cons_succ, i64_w, i32_w]
      rfl
     refine take_ (i := 3) (N := some 24) (v := ?_) (a' := ?_) #[true, true, true, true, true, true, true, false, false, false, false] rfl rfl (by kernel_rfl) (fun _ _ _ h => h) (Or.inl ⟨by rfl, ?_⟩) hHeld ?_ ?_
     rotate_left
     ·rintro w' ⟨s0, s1⟩
      go_simp
      with_reducible rfl
     rotate_left
     ·simp only [Act.put, List.setIfInBounds_toArray, List.set_cons_zero, List.set_cons_succ, i64_w, i32_w]
      rfl
     refine pure_ (i := 8) (N := some 4) (v := ?_) (a' := ?_) #[true, true, true, true, true, true, true, false, true, false, false] rfl rfl (by kernel_rfl) (fun _ _ _ h => h) (Or.inl ⟨by rfl, ?_⟩) ?_ ?_
     rotate_left
     ·intro w'
      go_simp
      with_reducible rfl
     rotate_left
     ·simp only [Act.put, List.setIfInBounds_toArray, List.set_cons_zero, List.set_cons_succ, i64_w, i32_w]
      rfl
     refine take_ (i := 7) (N := some 28) (v := ?_) (a' := ?_) #[true, true, true, true, true, true, true, true, true, false, false] rfl rfl (by kernel_rfl) (fun _ _ _ h => h) (Or.inl ⟨by rfl, ?_⟩) hHeld ?_ ?_
     rotate_left
     ·rintro w' ⟨s0, s1⟩
      go_simp
      with_reducible rfl
     rotate_left
     ·simp only [Act.put, List.setIfInBounds_toArray, List.set_cons_zero, List.set_cons_succ, i64_w, i32_w]
      rfl
     refine pure_ (i := 9) (N := some 5) (v := ?_) (a' := ?_) #[true, true, true, true, true, true, true, true, true, true, false] rfl rfl (by kernel_rfl) (fun _ _ _ h => h) (Or.inl ⟨by rfl, ?_⟩) ?_ ?_
     rotate_left
     ·intro w'
      go_simp
      with_reducible rfl
     rotate_left
     ·simp only [Act.put, List.setIfInBounds_toArray, List.set_cons_zero, List.set_cons_succ, i64_w, i32_w]
      rfl
     refine pure_ (i := 10) (N := some 6) (v := ?_) (a' := ?_) #[true, true, true, true, true, true, true, true, true, true, true] rfl rfl (by kernel_rfl) (fun _ _ _ h => h) (Or.inl ⟨by rfl, ?_⟩) ?_ ?_
     rotate_left
     ·intro w'
      go_simp
      with_reducible rfl
     rotate_left
     ·simp only [Act.put, List.setIfInBounds_toArray, List.set_cons_zero, List.set_cons_succ, i64_w, i32_w]
      rfl
     refine done_ (by kernel_rfl) ?_
     go_wp2
     go_ret3
     cases HR.out
     exact ⟨_, rfl, RS.own (HS2.out.below (below_drew (Below.refl _ _))), (HS2.out.2.2.2.2.2).drew⟩
    | false =>
     rw [if_neg (by simp)] at hr
     by_cases c : p2.e = 0
     ·have cb := beq_iff_eq.mpr c
      have cc := bne_eq_false_iff_eq.mpr c
      have HR := Aside0.mk (show Rd.read l0 k1 p2 = some (r1, r2, r3) by rw [if_pos c] at hr; exact hr)
      clear c hr
      go_wp2_with (first | (go_at_call 24; (with_reducible refine (rd_part k1 w _ g l0 s p true HS0.out G1.out G2.out HP.out).mono ?_); rintro e w1 ⟨rfl, h1⟩; have HS1 := Aside0.mk h1; clear h1) | (go_at_call 25; (with_reducible refine (rd_whole k1 w _ g l0 p p2 false HS1.out HP2.out).mono ?_); rintro e w2 ⟨rfl, h2⟩; have HS2 := Aside0.mk h2; obtain ⟨A1, c1, vo, vs, H2⟩ := h2; have r4 := H2.cell.2.2.2.2; clear H2))
      go_roundg k1
      case measure => have := HK1.out; omega
      case rel => exact ⟨p2, HR, ⟨by have := HK1.out; omega⟩, HS2⟩
     ·have cb := beq_eq_false_iff_ne.mpr c
      have cc := bne_iff_ne.mpr c
      have HR := Aside0.mk (show some ([], (p2.i : Int), p2.e) = some (r1, r2, r3) by rw [if_neg c] at hr; exact hr)
      clear c hr
      obtain ⟨s2, hs2⟩ : ∃ s2, p2 = s2 := ⟨_, rfl⟩
      rw [hs2] at HR HP2 cb cc
      clear hs2
      go_wp2_with (first | (go_at_call 24; (with_reducible refine (rd_part k1 w _ g l0 s p true HS0.out G1.out G2.out HP.out).mono ?_); rintro e w1 ⟨rfl, h1⟩; have HS1 := Aside0.mk h1; clear h1) | (go_at_call 25; (with_reducible refine (rd_whole k1 w _ g l0 p s2 false HS1.out HP2.out).mono ?_); rintro e w2 ⟨rfl, h2⟩; obtain ⟨A1, c1, vo, vs, H2⟩ := h2; have r4 := H2.cell.2.2.2.2; have r1' := H2.cell.2.1; have HS2 := Aside0.mk H2; clear H2))
      refine start_ (n := 11) (S := fun w' => w'.cell? ⟨g, 1, none⟩ = some (.int .i64 (s2.i : Int)) ∧ w'.cell? ⟨g, 4, none⟩ = some (.int .i64 s2.e)) (ds := []) #[false, false, false, false, false, false, false, false, false, false, false] (by kernel_rfl) rfl rfl ⟨r1', r4⟩ (fun hHeld => ?_)
      refine pure_ (i := 0) (N := some 34) (v := ?_) (a' := ?_) #[true, false, false, false, false, false, false, false, false, false, false] rfl rfl (by kernel_rfl) (fun _ _ _ h => h) (Or.inl ⟨by rfl, ?_⟩) ?_ ?_
      rotate_left
      ·intro w'
       go_simp
       with_reducible rfl
      rotate_left
      ·simp only [Act.put, List.setIfInBounds_toArray, List.set_cons_zero, List.set_cons_succ, i64_w, i32_w]
       rfl
      refine pure_ (i := 1) (N := some 35) (v := ?_) (a' := ?_) #[true, true, false, false, false, false, false, false, false, false, false] rfl rfl (by kernel_rfl) (fun _ _ _ h => h) (Or.inl ⟨by rfl, ?_⟩) ?_ ?_
      rotate_left
      ·intro w'
       go_simp
       with_reducible rfl
      rotate_left
      ·simp only [Act.put, List.setIfInBounds_toArray, List.set_cons_zero, List.set_cons_succ, i64_w, i32_w]
       rfl
      refine pure_ (i := 2) (N := some 36) (v := ?_) (a' := ?_) #[true, true, true, false, false, false, false, false, false, false, false] rfl rfl (by kernel_rfl) (fun _ _ _ h => h) (Or.inl ⟨by rfl, ?_⟩) ?_ ?_
      rotate_left
      ·intro w'
       go_simp
       with_reducible rfl
      rotate_left
      ·simp only [Act.put, List.setIfInBounds_toArray, List.set_cons_zero, List.set_cons_succ, i64_w, i32_w]
       rfl
      refine pure_ (i := 4) (N := some 38) (v := ?_) (a' := ?_) #[true, true, true, false, true, false, false, false, false, false, false] rfl rfl (by kernel_rfl) (fun _ _ _ h => h) (Or.inl ⟨by rfl, ?_⟩) ?_ ?_
      rotate_left
      ·intro w'
       go_simp
       with_reducible rfl
      rotate_left
      ·simp only [Act.put, List.setIfInBounds_toArray, List.set_cons_zero, List.set_cons_succ, i64_w, i32_w]
       rfl
      refine pure_ (i := 5) (N := some 39) (v := ?_) (a' := ?_) #[true, true, true, false, true, true, false, false, false, false, false] rfl rfl (by kernel_rfl) (fun _ _ _ h => h) (Or.inl ⟨by rfl, ?_⟩) ?_ ?_
      rotate_left
      ·intro w'
       go_simp
       with_reducible rfl
      rotate_left
      ·simp only [Act.put, List.setIfInBounds_toArray, List.set_cons_zero, List.set_cons_succ, i64_w, i32_w]
       rfl
      refine pure_ (i := 6) (N := some 40) (v := ?_) (a' := ?_) #[true, true, true, false, true, true, true, false, false, false, false] rfl rfl (by kernel_rfl) (fun _ _ _ h => h) (Or.inl ⟨by rfl, ?_⟩) ?_ ?_
      rotate_left
      ·intro w'
       go_simp
       with_reducible rfl
      rotate_left
      ·simp only [Act.put, List.setIfInBounds_toArray, List.set_cons_zero, List.set_cons_succ, i64_w, i32_w]
       rfl
      refine pure_ (i := 8) (N := some 4) (v := ?_) (a' := ?_) #[true, true, true, false, true, true, true, false, true, false, false] rfl rfl (by kernel_rfl) (fun _ _ _ h => h) (Or.inl ⟨by rfl, ?_⟩) ?_ ?_
      rotate_left
      ·intro w'
       go_simp
       with_reducible rfl
      rotate_left
      ·simp only [Act.put, List.setIfInBounds_toArray, List.set_cons_zero, List.set_cons_succ, i64_w, i32_w]
       rfl
      refine take_ (i := 3) (N := some 37) (v := ?_) (a' := ?_) #[true, true, true, true, true, true, true, false, true, false, false] rfl rfl (by kernel_rfl) (fun _ _ _ h => h) (Or.inl ⟨by rfl, ?_⟩) hHeld ?_ ?_
      rotate_left
      ·rintro w' ⟨s0, s1⟩
       go_simp
       with_reducible rfl
      rotate_left
      ·simp only [Act.put, List.setIfInBounds_toArray, List.set_cons_zero, List.set_cons_succ, i64_w, i32_w]
       rfl
      refine pure_ (i := 9) (N := some 5) (v := ?_) (a' := ?_) #[true, true, true, true, true, true, true, false, true, true, false] rfl rfl (by kernel_rfl) (fun _ _ _ h => h) (Or.inl ⟨by rfl, ?_⟩) ?_ ?_
      rotate_left
      ·intro w'
       go_simp
       with_reducible rfl
      rotate_left
      ·simp only [Act.put, List.setIfInBounds_toArray, List.set_cons_zero, List.set_cons_succ, i64_w, i32_w]
       rfl
      refine take_ (i := 7) (N := some 41) (v := ?_) (a' := ?_) #[true, true, true, true, true, true, true, true, true, true, false] rfl rfl (by kernel_rfl) (fun _ _ _ h => h) (Or.inl ⟨by rfl, ?_⟩) hHeld ?_ ?_
      rotate_left
      ·rintro w' ⟨s0, s1⟩
       go_simp
       with_reducible rfl
      rotate_left
      ·simp only [Act.put, List.setIfInBounds_toArray, List.set_cons_zero, List.set_cons_succ, i64_w, i32_w]
       rfl
      refine pure_ (i := 10) (N := some 6) (v := ?_) (a' := ?_) #[true, true, true, true, true, true, true, true, true, true, true] rfl rfl (by kernel_rfl) (fun _ _ _ h => h) (Or.inl ⟨by rfl, ?_⟩) ?_ ?_
      rotate_left
      ·intro w'
       go_simp
       with_reducible rfl
      rotate_left
      ·simp only [Act.put, List.setIfInBounds_toArray, List.set_cons_zero, List.set_cons_succ, i64_w, i32_w]
       rfl
      refine done_ (by kernel_rfl) ?_
      go_wp2
      go_ret3
      cases HR.out
      exact ⟨_, rfl, R_nil_ _ _, (HS2.out.2.2.2.2.2).drew⟩
end Go.Proofs.YtniaooodlccmcaaGreatDoor.Q

