import Derived.Test.YtniaooodlccmcaaGreatDoorWWords
import Derived.Deep.Slices
import Derived.ChangeArms
import Derived.SizedLaws
set_option linter.unusedVariables false
set_option linter.unusedSimpArgs false
namespace Go.Proofs.YtniaooodlccmcaaGreatDoor.O
open Go.RowKit Go.Proofs.YtniaooodlccmcaaGreatDoorW.PrintWords Go.ChangeShapes Go.WideShapes
structure Opens {α : Type} (P : Program) (T : TypeId) (d : Kd α) (Ok : α → Prop) : Prop where
 out : ∀ {H : Type} {enc : TypeId × Value → H} {w : World} {base : Nat} {spare : Nat → Bool} {held : Bool} {fuel : Nat} {cs : List Value} {x : DataW H × List MemPlace},
  DataW.trod enc P w base spare held fuel T cs = some x → (∀ n ∈ x.1.weights P T, n ≤ reachBytes) → ∃ v : α, d.K w v cs ∧ Ok v
section
variable {P : Program} {T e : TypeId}
theorem Opens.int {k : IntKind} (ht : P.underlying T = some (.int k)) : Opens P T (Kd.int k) (fun n => (Lit.int k n).wf = true) := by
 constructor
 intro H enc w base spare held fuel cs x h _
 obtain ⟨n, rfl, _, hw⟩ := DataW.trod_int ht h
 exact ⟨n, rfl, hw⟩
theorem Opens.bool (ht : P.underlying T = some .bool) : Opens P T Kd.bool (fun _ => True) := by
 constructor
 intro H enc w base spare held fuel cs x h _
 obtain ⟨b, rfl, _⟩ := DataW.trod_bool ht h
 exact ⟨b, rfl, trivial⟩
theorem Opens.string (ht : P.underlying T = some .string) : Opens P T Kd.string (fun s => s.size ≤ 140737488351232) := by
 constructor
 intro H enc w base spare held fuel cs x h hw
 obtain ⟨s, rfl, rfl, _⟩ := DataW.trod_string ht h
 refine ⟨s, rfl, ?_⟩
 have := hw s.data.toList.length (by simp [DataW.weights])
 rw [Array.length_toList] at this
 exact this
theorem weights_elem {H : Type} (P : Program) (e : TypeId) : ∀ (l : List (DataW H)) (d : DataW H), d ∈ l → ∀ n ∈ d.weights P e, n ∈ DataW.weightsAll P e l
 | a :: r, d, hd, n, hn => by
  unfold DataW.weightsAll
  rw [List.mem_append]
  rcases List.mem_cons.1 hd with rfl | hd
  ·exact .inl hn
  ·exact .inr (weights_elem P e r d hd n hn)
theorem list_of {α : Type} : ∀ (n : Nat) (p : Nat → α → Prop), (∀ i, i < n → ∃ v, p i v) → ∃ l : List α, l.length = n ∧ ∀ i v, l[i]? = some v → p i v
 | 0, p, _ => ⟨[], rfl, fun i v h => by simp at h⟩
 | n + 1, p, h => by
  obtain ⟨l, hl, hp⟩ := list_of n p (fun i hi => h i (by omega))
  obtain ⟨v, hv⟩ := h n (by omega)
  refine ⟨l ++ [v], by rw [List.length_append, hl]; rfl, fun i u hu => ?_⟩
  rcases Nat.lt_or_ge i l.length with h1 | h1
  ·rw [List.getElem?_append_left h1] at hu; exact hp i u hu
  ·have hi : i < (l ++ [v]).length := (List.getElem?_eq_some_iff.1 hu).1
   rw [List.length_append, List.length_singleton] at hi
   obtain rfl : i = n := by omega
   rw [← hl, List.getElem?_concat_length] at hu
   obtain rfl := Option.some.inj hu
   exact hv
theorem Opens.slice {α : Type} {d : Kd α} {Ok : α → Prop} (ht : P.underlying T = some (.slice e)) (hc : P.cellsOf e = d.sz) {B : Nat} (hB : P.bytesOf e = B) (h1 : Opens P e d Ok) :
  Opens P T (Kd.slice e d) (fun l => l.length * B ≤ 140737488351232 ∧ l.length ≤ 9223372036854775807 ∧ ∀ x ∈ l, Ok x) := by
 constructor
 intro H enc w base spare held fuel cs x h hw
 rcases Go.Deep.open_slice ht h with ⟨rfl, rfl⟩ | ⟨a, len, cap, m, n, D, Pl, rfl, hb, hl, hm, hmm, rfl, hx⟩
 ·exact ⟨[], ⟨none, 0, rfl, Nat.le_refl _, Kd.C_nil d w⟩, by simp⟩
 ·have hle : len ≤ m := by rw [hmm]; split <;> omega
  simp only [DataW.weights, ht] at hw
  have hone : ∀ i, i < len → ∃ v : α, Ok v ∧ ∃ c, c.length = d.sz ∧ d.K w v c ∧ ∀ j u, c[j]? = some u → w.cell? (a.add (i * d.sz + j)) = some u := by
   intro i hi
   obtain ⟨cs', hc1, hc2⟩ := hx i (by omega)
   obtain ⟨v, hK, hO⟩ := h1.out hc2 (fun q hq => hw q (by
    refine List.mem_cons_of_mem _ (List.mem_append_left _ ?_)
    exact weights_elem P e _ (D i) (List.mem_map.2 ⟨i, List.mem_range.2 hi, rfl⟩) q hq))
   obtain ⟨_, hlen, hcell⟩ := World.cells?_some hc1
   refine ⟨v, hO, cs', by rw [hlen, hc], hK, fun j u hu => ?_⟩
   have hj : j < P.cellsOf e := by rw [← hlen]; exact (List.getElem?_eq_some_iff.1 hu).1
   have := hcell j hj
   rw [Go.Deep.add_add, hu, hc] at this
   exact this
  obtain ⟨l, hll, hl2⟩ := list_of len _ hone
  have hmax : len ≤ 9223372036854775807 := by have : cap ≤ maxLen := hm; unfold maxLen at this; omega
  refine ⟨l, ⟨some a, cap, by rw [hll], by omega, by rw [hll], by omega, fun _ => ⟨a, rfl, fun j p hp => ?_⟩⟩, ?_, by omega, ?_⟩
  ·obtain ⟨_, c, h2, h3, h4⟩ := hl2 j p hp
   exact ⟨c, h2, h3, h4⟩
  ·have := hw ((((List.range len).map D).length + ((List.range (m - len)).map fun j => D (len + j)).length) * P.bytesOf e) (by simp)
   rw [hB] at this
   have h2 : len * B ≤ (((List.range len).map D).length + ((List.range (m - len)).map fun j => D (len + j)).length) * B := Nat.mul_le_mul_right _ (by simp)
   rw [hll]
   exact Nat.le_trans h2 this
  ·intro v hv
   obtain ⟨j, hj⟩ := List.mem_iff_getElem?.1 hv
   exact (hl2 j v hj).1
structure OpensF {α : Type} (P : Program) (fs : List Field) (o : Nat) (d : Kd α) (Ok : α → Prop) : Prop where
 out : ∀ {H : Type} {enc : TypeId × Value → H} {w : World} {base : Nat} {spare : Nat → Bool} {held : Bool} {fuel : Nat} {cs : List Value} (xs : List (DataW H × List MemPlace)),
  cs.length = o + d.sz → xs.length = fs.length → (∀ (i : Nat) (f : Field), fs[i]? = some f → DataW.trod enc P w base spare held fuel f.type ((cs.drop f.offset).take (P.cellsOf f.type)) = xs[i]?) →
  (∀ n ∈ DataW.weightsEach P (fs.map (·.type)) (xs.map (·.1)), n ≤ reachBytes) → ∃ v : α, d.K w v (cs.drop o) ∧ Ok v
theorem OpensF.last {α : Type} {f : Field} {o : Nat} {d : Kd α} {Ok : α → Prop} (ho : f.offset = o) (hc : P.cellsOf f.type = d.sz) (h1 : Opens P f.type d Ok) : OpensF P [f] o d Ok := by
 constructor
 intro H enc w base spare held fuel cs xs hl hx h hw
 match xs, hx with
 | [x], _ =>
  have h2 := h 0 f rfl
  rw [ho, hc, List.take_of_length_le (by rw [List.length_drop]; omega)] at h2
  exact h1.out h2 (fun n hn => hw n (by simp [DataW.weightsEach]; exact hn))
theorem OpensF.cons {α β : Type} {f : Field} {fs : List Field} {o : Nat} {d : Kd α} {d2 : Kd β} {Ok : α → Prop} {Ok2 : β → Prop} (ho : f.offset = o) (hc : P.cellsOf f.type = d.sz) (h1 : Opens P f.type d Ok) (h2 : OpensF P fs (o + d.sz) d2 Ok2) :
  OpensF P (f :: fs) o (Kd.pair d d2) (fun v => Ok v.1 ∧ Ok2 v.2) := by
 constructor
 intro H enc w base spare held fuel cs xs hl hx h hw
 match xs, hx with
 | x :: xs, hx =>
  have hl' : cs.length = o + (d.sz + d2.sz) := hl
  have h3 := h 0 f rfl
  rw [ho, hc] at h3
  obtain ⟨v, hK, hO⟩ := h1.out h3 (fun n hn => hw n (by simp only [List.map_cons, DataW.weightsEach, List.mem_append]; exact .inl hn))
  obtain ⟨u, hK2, hO2⟩ := h2.out (cs := cs) xs (by omega) (by simpa using hx) (fun i g hg => h (i + 1) g hg) (fun n hn => hw n (by simp only [List.map_cons, DataW.weightsEach, List.mem_append]; exact .inr hn))
  refine ⟨(v, u), ⟨(cs.drop o).take d.sz, cs.drop (o + d.sz), ?_, hK, hK2⟩, hO, hO2⟩
  rw [← List.drop_drop, List.take_append_drop]
theorem Opens.struct {α β : Type} {fs : Array Field} {d : Kd α} {Ok : α → Prop} (ht : P.underlying T = some (.struct fs)) (hc : P.cellsOf T = d.sz) (h1 : OpensF P fs.toList 0 d Ok) (f : β → α) (g : α → β) (hfg : ∀ a, f (g a) = a) : Opens P T (Kd.iso d f) (fun v => Ok (f v)) := by
 constructor
 intro H enc w base spare held fuel cs x h hw
 obtain ⟨xs, n, rfl, rfl, hl, hx, hf⟩ := DataW.trod_struct ht h
 simp only [DataW.weights, ht] at hw
 obtain ⟨v, hK, hO⟩ := h1.out (cs := cs) xs (by omega) (by simpa using hx) (fun i fl hfl => hf i fl (by simpa using hfl)) hw
 refine ⟨g v, ?_, by show Ok (f (g v)); rw [hfg]; exact hO⟩
 show d.K w (f (g v)) cs
 rw [hfg]
 exact hK
end
end Go.Proofs.YtniaooodlccmcaaGreatDoor.O

