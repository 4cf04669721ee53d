import Derived.Test.YtniaooodlccmcaaGreatDoorDz
import Derived.Test.YtniaooodlccmcaaGreatDoorQx7
import Derived.Test.YtniaooodlccmcaaGreatDoorQx8
import Derived.Test.YtniaooodlccmcaaGreatDoorM
import Derived.Lib.Strings
import Derived.Lib.Atoi
import Derived.Lib.SmallJoins
set_option linter.unusedVariables false
set_option linter.unusedSimpArgs false
namespace Go.Proofs.YtniaooodlccmcaaGreatDoor.L
open Go.RowKit Go.Proofs.YtniaooodlccmcaaGreatDoorW.PrintWords Go.Proofs.YtniaooodlccmcaaGreatDoorW.PrintLast
open Go.Proofs.YtniaooodlccmcaaGreatDoor.Q Go.Proofs.YtniaooodlccmcaaGreatDoor.M
theorem Ev.ite_pos {α : Type} {c : Prop} [Decidable c] {g f : Nat → Option α} {r : α} (hc : c) (h : Ev g r) : Ev (fun k => if c then g k else f k) r := by
 obtain ⟨K, h⟩ := h
 exact ⟨K, fun k hk => by show (if c then g k else f k) = some r; rw [if_pos hc]; exact h k hk⟩
theorem Ev.ite_neg {α : Type} {c : Prop} [Decidable c] {g f : Nat → Option α} {r : α} (hc : ¬ c) (h : Ev f r) : Ev (fun k => if c then g k else f k) r := by
 obtain ⟨K, h⟩ := h
 exact ⟨K, fun k hk => by show (if c then g k else f k) = some r; rw [if_neg hc]; exact h k hk⟩
theorem Ev.cases_ite {α : Type} {c : Prop} [Decidable c] {g f : Nat → Option α} {r : α} (h1 : c → Ev g r) (h2 : ¬ c → Ev f r) : Ev (fun k => if c then g k else f k) r := by
 by_cases hc : c
 ·exact Ev.ite_pos hc (h1 hc)
 ·exact Ev.ite_neg hc (h2 hc)
theorem ev_eq {α : Type} {g : Nat → Option α} {r r' : α} (h : Ev g r) (e : r = r') : Ev g r' := e ▸ h
def B (l : Bytes) : ByteArray := ⟨l.toArray⟩
theorem B_of (a : ByteArray) : a = B a.data.toList := by cases a; rfl
theorem B_data (l : Bytes) : (B l).data.toList = l := rfl
theorem B_toList (l : Bytes) : (B l).toList = l := by rw [Lib.toList_data]; rfl
theorem B_size (l : Bytes) : (B l).size = l.length := by show l.toArray.size = l.length; simp
theorem B_append (l m : Bytes) : B l ++ B m = B (l ++ m) := by
 have h : (B l ++ B m).data.toList = l ++ m := Joins.data_append (B l) (B m)
 rw [B_of (B l ++ B m), h]
theorem B_extract (l : Bytes) (i j : Nat) : (B l).extract i j = B ((l.drop i).take (j - i)) := by
 rw [B_of ((B l).extract i j), Lib.extract_data]; rfl
theorem bt_B (l : Bytes) (n : Nat) (c : UInt8) (h : l[n]? = some c) : bt (B l) (n : Int) = (c.toNat : Int) := by
 obtain ⟨hn, rfl⟩ := List.getElem?_eq_some_iff.1 h
 have hs : (n : Int).toNat < (B l).size := by rw [B_size]; omega
 unfold bt
 rw [dif_pos hs]
 rfl
theorem wrap64_nat {x : Int} (h0 : -9223372036854775808 ≤ x) (h1 : x ≤ 9223372036854775807) : wrap64 x = x := by
 unfold wrap64; omega
theorem toU8 (x : UInt8) : ((x.toNat : Int).toNat).toUInt8 = x := by simp
theorem all_bytes {p : UInt8 → Bool} (h : ∀ n : Fin 256, p (UInt8.ofNat n.val) = true) (x : UInt8) : p x = true := by
 have := h ⟨x.toNat, x.toNat_lt⟩
 simpa using this
theorem indexByte_contains (l : Bytes) (c : UInt8) : decide (Lib.indexByte l c ≥ 0) = l.contains c := by
 induction l with
 | nil => simp [Lib.indexByte]
 | cons b t ih =>
  have hg := Lib.indexByte_ge t c
  rw [List.contains_cons]
  unfold Lib.indexByte
  by_cases h : (b == c) = true
  ·rw [if_pos h]
   have : (c == b) = true := by rw [beq_iff_eq] at h ⊢; exact h.symm
   rw [this]; simp
  ·rw [if_neg h]
   have h' : (c == b) = false := by
    rw [beq_eq_false_iff_ne]; intro e; exact h (by rw [beq_iff_eq]; exact e.symm)
   rw [h', Bool.false_or, ← ih]
   by_cases h2 : (Lib.indexByte t c == -1) = true
   ·rw [if_pos h2]
    rw [beq_iff_eq] at h2
    rw [h2]
   ·rw [if_neg h2]
    have h3 : ¬ Lib.indexByte t c = -1 := by simpa using h2
    rw [decide_eq_decide]
    omega
theorem index_link (cs : Bytes) (x : UInt8) : strings_IndexByte.f (B cs) (x.toNat : Int) = some (Lib.indexByte cs x) := by
 unfold strings_IndexByte.f; rw [B_data, toU8]
theorem has_link (cs : Bytes) (x : UInt8) : lex_kind_has.f (B cs) (x.toNat : Int) = some (cs.contains x) := by
 unfold lex_kind_has.f; rw [index_link, Option.bind_some, indexByte_contains]
def figC : Bytes := [48, 49, 50, 51, 52, 53, 54, 55, 56, 57]
def sigC : Bytes := [40, 41, 44, 124, 38, 126, 43, 45, 61, 42, 123, 125, 59, 58]
theorem figC_is (x : UInt8) : figC.contains x = fig x := by
 have := all_bytes (p := fun x => figC.contains x == fig x) Zz19 x
 simpa using this
theorem far_l0 (cs : Bytes) (p : UInt8 → Bool) (hp : ∀ x, cs.contains x = p x) (l : Bytes) (hl : l.length ≤ 1000000) : ∀ (d n : Nat), n + d = l.length →
  Ev (fun k => lex_far.l0 k (B cs) (B l) (n : Int)) (((n + ((l.drop n).takeWhile p).length : Nat)) : Int) := by
 intro d
 induction d with
 | zero =>
  intro n hn
  refine Ev.step (fun k => lex_far.l0.eq_2 _ _ _ k) ?_
  refine Ev.ite_neg Zz14 ?_
  rw [List.drop_of_length_le (by omega)]
  exact Ev.now _
 | succ d ih =>
  intro n hn
  have hlt : n < l.length := by omega
  refine Ev.step (fun k => lex_far.l0.eq_2 _ _ _ k) ?_
  refine Ev.ite_pos Zz14 (Ev.ite_pos (by omega) ?_)
  rw [bt_B l n l[n] (List.getElem?_eq_getElem hlt), has_link, hp]
  refine Ev.bind (Ev.now _) ?_
  rw [List.drop_eq_getElem_cons hlt, List.takeWhile_cons]
  by_cases h : p l[n] = true
  ·refine Ev.ite_pos h ?_
   rw [if_pos h, wrap64_nat (by omega) (by omega)]
   have := ih (n + 1) (by omega)
   rw [show ((n : Int) + 1) = ((n + 1 : Nat) : Int) from by omega]
   refine ev_eq this ?_
   rw [List.length_cons]; omega
  ·refine Ev.ite_neg h ?_
   rw [if_neg h]
   exact Ev.now _
theorem far_link (cs : Bytes) (p : UInt8 → Bool) (hp : ∀ x, cs.contains x = p x) (l : Bytes) (hl : l.length ≤ 1000000) :
  Ev (fun k => lex_far.f k (B l) (Value.func (Fn.func 71) #[.string (B cs)] #[])) ((l.takeWhile p).length : Int) := by
 refine Ev.congr (fun k => ?_) (ev_eq (far_l0 cs p hp l hl l.length 0 (by omega)) (by rw [List.drop_zero, Nat.zero_add]))
 show (lex_far.key _).bind _ = _
 rw [lex_far.key_of]; rfl
theorem takeWhile_full {α : Type} (p : α → Bool) (l : List α) : (l.takeWhile p).length = l.length ↔ l.all p = true := by
 induction l with
 | nil => simp
 | cons a t ih =>
  rw [List.takeWhile_cons, List.all_cons]
  by_cases h : p a = true
  ·rw [if_pos h, h, Bool.true_and, ← ih, List.length_cons, List.length_cons]; omega
  ·rw [if_neg h]
   have := takeWhile_le p t
   simp [h]
theorem fig_val (c : UInt8) (h : fig c = true) : Lib.digitVal c = some (c.toNat - 48) := by
 simp only [fig, Bool.and_eq_true, decide_eq_true_eq] at h
 unfold Lib.digitVal; rw [if_pos h]
theorem decFrom_val : ∀ (l : Bytes) (acc : Nat), l.all fig = true → Lib.decFrom acc l = some (val acc l)
 | [], acc, _ => rfl
 | c :: r, acc, h => by
  rw [List.all_cons, Bool.and_eq_true] at h
  unfold Lib.decFrom
  rw [fig_val c h.1]
  exact decFrom_val r _ h.2
theorem atoi_val (l : Bytes) (h0 : l ≠ []) (h : l.all fig = true) : Lib.atoi l = some (val 0 l : Int) := by
 cases l with
 | nil => exact absurd rfl h0
 | cons c r =>
  have hc : fig c = true := by rw [List.all_cons, Bool.and_eq_true] at h; exact h.1
  simp only [fig, Bool.and_eq_true, decide_eq_true_eq] at hc
  have h1 : (c == 45) = false := by rw [beq_eq_false_iff_ne]; rintro rfl; simp at hc
  have h2 : (c == 43) = false := by rw [beq_eq_false_iff_ne]; rintro rfl; simp at hc
  simp only [Lib.atoi, h1, h2, Bool.false_eq_true, if_false, Lib.decNat, List.isEmpty_cons]
  rw [decFrom_val _ 0 h]; rfl
def num (l : Bytes) : Int × Bool := if numOk l = true then ((val 0 l : Int), true) else (0, false)
theorem num_no {l : Bytes} (h : numOk l = false) : num l = (0, false) := by unfold num; rw [h]; rfl
theorem num_yes {l : Bytes} (h : numOk l = true) : num l = ((val 0 l : Int), true) := by unfold num; rw [if_pos h]
theorem Number_link (l : Bytes) (hl : l.length ≤ 1000000) : Ev (fun k => lex_Number.f k (B l)) (num l) := by
 have hg : ∀ k, lex_Number.f k (B l) = _ := fun k => rfl
 unfold lex_Number.f
 refine Ev.cases_ite (fun h => ?_) (fun h => ?_)
 ·rw [B_toList] at h; subst h
  exact ev_eq (Ev.now _) (num_no (by simp [numOk])).symm
 rw [B_toList] at h
 rw [B_size]
 refine Ev.cases_ite (fun h1 => ?_) (fun h1 => ?_)
 ·exact ev_eq (Ev.now _) (num_no (by simp [numOk]; omega)).symm
 refine Ev.bind (far_link figC fig figC_is l hl) ?_
 have hlen : 0 < l.length := List.length_pos_iff.2 h
 have hle := takeWhile_le fig l
 refine Ev.cases_ite (fun h2 => ?_) (fun h2 => ?_)
 ·refine ev_eq (Ev.now _) (num_no ?_).symm
  have : ¬ l.all fig = true := by rw [← takeWhile_full]; omega
  simp [numOk, this]
 have hall : l.all fig = true := by rw [← takeWhile_full]; omega
 refine Ev.ite_pos (by omega) ?_
 obtain ⟨c, r, rfl⟩ : ∃ c r, l = c :: r := by cases l with | nil => exact absurd rfl h | cons c r => exact ⟨c, r, rfl⟩
 rw [show (0 : Int) = ((0 : Nat) : Int) from rfl, bt_B (c :: r) 0 c rfl]
 have hat : strconv_Atoi.f (B (c :: r)) = some ((val 0 (c :: r) : Int), none) := by
  unfold strconv_Atoi.f
  rw [if_pos Zz14, B_data, atoi_val _ h hall]; rfl
 rw [hat]
 have hc48 : (c.toNat : Int) = 48 ↔ (c :: r).head? = some 48 := by
  rw [List.head?_cons, Option.some.injEq]
  constructor
  ·intro e; apply UInt8.toNat_inj.1; simp; omega
  ·rintro rfl; simp
 refine Ev.cases_ite (fun h3 => ?_) (fun h3 => ?_)
 ·have hh := hc48.1 h3
  refine Ev.cases_ite (fun h4 => ?_) (fun h4 => ?_)
  ·refine ev_eq (Ev.now _) (num_no ?_).symm
   have h5 : 1 < (c :: r).length := by omega
   simp only [numOk, hh, h5]; simp
  ·refine Ev.bind (Ev.now _) (Ev.ite_pos rfl (ev_eq (Ev.now _) (num_yes ?_).symm))
   have h5 : ¬ 1 < (c :: r).length := by omega
   have h9 : r.length + 1 ≤ 9 := by rw [← List.length_cons (a := c)]; omega
   simp only [numOk, hall, h5]; simp; omega
 ·have hh : ¬ (c :: r).head? = some 48 := fun e => h3 (hc48.2 e)
  refine Ev.bind (Ev.now _) (Ev.ite_pos rfl (ev_eq (Ev.now _) (num_yes ?_).symm))
  have h9 : r.length + 1 ≤ 9 := by rw [← List.length_cons (a := c)]; omega
  simp only [numOk, hall, hh]; simp; omega
def enc (t : Tk) : S48 := ⟨(t.kind : Int), B t.text, (t.pos : Int)⟩
def res (acc : List S48) : Except Nat (List Tk) → List S48 × Int × Int
 | .ok m => (acc ++ m.map enc, 0, 0)
 | .error e => ([], (e : Int), 2)
def toksR (l : Bytes) : List S48 × Int × Int := if 2000 < l.length then ([], 0, 7) else res [] (scan l 0 0)
end Go.Proofs.YtniaooodlccmcaaGreatDoor.L

