/-
  What the program's functions of texts come to: the model of YtfjhnljidfdhjaaDoorM. (Mine.)
-/
import Derived.Test.YtfjhnljidfdhjaaDoorQx6
import Derived.Test.YtfjhnljidfdhjaaDoorM
import Derived.Lib.Strings
import Derived.Lib.Atoi
import Derived.Lib.SmallJoins
set_option linter.unusedVariables false
set_option linter.unusedSimpArgs false
namespace Go.Proofs.YtfjhnljidfdhjaaDoor.L
open Go.RowKit Go.Proofs.YtfjhnljidfdhjaaDoorW.PrintWords Go.Proofs.YtfjhnljidfdhjaaDoorW.PrintLast
open Go.Proofs.YtfjhnljidfdhjaaDoor.Q Go.Proofs.YtfjhnljidfdhjaaDoor.M

/-! ### rounds -/
theorem Ev.ite_pos {α : Type} {c : Prop} [Decidable c] {g f : Nat → Option α} {r : α} (hc : c) (h : Ev g r) : Ev (fun k => if c then g k else f k) r := by
  obtain ⟨K, h⟩ := h
  exact ⟨K, fun k hk => by show (if c then g k else f k) = some r; rw [if_pos hc]; exact h k hk⟩
theorem Ev.ite_neg {α : Type} {c : Prop} [Decidable c] {g f : Nat → Option α} {r : α} (hc : ¬ c) (h : Ev f r) : Ev (fun k => if c then g k else f k) r := by
  obtain ⟨K, h⟩ := h
  exact ⟨K, fun k hk => by show (if c then g k else f k) = some r; rw [if_neg hc]; exact h k hk⟩
theorem Ev.const {α : Type} {x : Option α} {r : α} (h : x = some r) : Ev (fun _ => x) r := ⟨0, fun _ _ => h⟩
theorem Ev.cases_ite {α : Type} {c : Prop} [Decidable c] {g f : Nat → Option α} {r : α} (h1 : c → Ev g r) (h2 : ¬ c → Ev f r) : Ev (fun k => if c then g k else f k) r := by
  by_cases hc : c
  · exact Ev.ite_pos hc (h1 hc)
  · exact Ev.ite_neg hc (h2 hc)
theorem ev_eq {α : Type} {g : Nat → Option α} {r r' : α} (h : Ev g r) (e : r = r') : Ev g r' := e ▸ h

/-! ### texts as lists of bytes -/
def B (l : Bytes) : ByteArray := ⟨l.toArray⟩
theorem B_of (a : ByteArray) : a = B a.data.toList := by cases a; rfl
theorem B_data (l : Bytes) : (B l).data.toList = l := rfl
theorem B_toList (l : Bytes) : (B l).toList = l := by rw [Lib.toList_data]; rfl
theorem B_size (l : Bytes) : (B l).size = l.length := by show l.toArray.size = l.length; simp
theorem B_inj {l m : Bytes} (h : B l = B m) : l = m := by have := congrArg ByteArray.toList h; rwa [B_toList, B_toList] at this
theorem B_append (l m : Bytes) : B l ++ B m = B (l ++ m) := by
  have h : (B l ++ B m).data.toList = l ++ m := Joins.data_append (B l) (B m)
  rw [B_of (B l ++ B m), h]
theorem B_extract (l : Bytes) (i j : Nat) : (B l).extract i j = B ((l.drop i).take (j - i)) := by
  rw [B_of ((B l).extract i j), Lib.extract_data]; rfl
theorem B_extract_end (l : Bytes) (i : Nat) : (B l).extract i (B l).size = B (l.drop i) := by
  rw [B_extract, B_size, List.take_of_length_le (by rw [List.length_drop]; exact Nat.le_refl _)]
theorem bt_B (l : Bytes) (n : Nat) (c : UInt8) (h : l[n]? = some c) : bt (B l) (n : Int) = (c.toNat : Int) := by
  obtain ⟨hn, rfl⟩ := List.getElem?_eq_some_iff.1 h
  have hs : (n : Int).toNat < (B l).size := by rw [B_size]; omega
  unfold bt
  rw [dif_pos hs]
  rfl
theorem wrap64_nat {x : Int} (h0 : -9223372036854775808 ≤ x) (h1 : x ≤ 9223372036854775807) : wrap64 x = x := by
  unfold wrap64; omega

/-! ### the classes of bytes -/
theorem toU8 (x : UInt8) : ((x.toNat : Int).toNat).toUInt8 = x := by simp
theorem all_bytes {p : UInt8 → Bool} (h : ∀ n : Fin 256, p (UInt8.ofNat n.val) = true) (x : UInt8) : p x = true := by
  have := h ⟨x.toNat, x.toNat_lt⟩
  simpa using this
theorem indexByte_contains (l : Bytes) (c : UInt8) : decide (Lib.indexByte l c ≥ 0) = l.contains c := by
  induction l with
  | nil => simp [Lib.indexByte]
  | cons b t ih =>
    have hg := Lib.indexByte_ge t c
    rw [List.contains_cons]
    unfold Lib.indexByte
    by_cases h : (b == c) = true
    · rw [if_pos h]
      have : (c == b) = true := by rw [beq_iff_eq] at h ⊢; exact h.symm
      rw [this]; simp
    · rw [if_neg h]
      have h' : (c == b) = false := by
        rw [beq_eq_false_iff_ne]; intro e; exact h (by rw [beq_iff_eq]; exact e.symm)
      rw [h', Bool.false_or, ← ih]
      by_cases h2 : (Lib.indexByte t c == -1) = true
      · rw [if_pos h2]
        rw [beq_iff_eq] at h2
        rw [h2]
      · rw [if_neg h2]
        have h3 : ¬ Lib.indexByte t c = -1 := by simpa using h2
        rw [decide_eq_decide]
        omega
theorem index_link (cs : Bytes) (x : UInt8) : strings_IndexByte.f (B cs) (x.toNat : Int) = some (Lib.indexByte cs x) := by
  unfold strings_IndexByte.f; rw [B_data, toU8]
theorem has_link (cs : Bytes) (x : UInt8) : lex_kind_has.f (B cs) (x.toNat : Int) = some (cs.contains x) := by
  unfold lex_kind_has.f; rw [index_link, Option.bind_some, indexByte_contains]
def figC : Bytes := [48, 49, 50, 51, 52, 53, 54, 55, 56, 57]
def letC : Bytes := [97, 98, 99, 100, 101, 102, 103, 104, 105, 106, 107, 108, 109, 110, 111, 112, 113, 114, 115, 116, 117, 118, 119, 120, 121, 122, 65, 66, 67, 68, 69, 70, 71, 72, 73, 74, 75, 76, 77, 78, 79, 80, 81, 82, 83, 84, 85, 86, 87, 88, 89, 90]
def innC : Bytes := [97, 98, 99, 100, 101, 102, 103, 104, 105, 106, 107, 108, 109, 110, 111, 112, 113, 114, 115, 116, 117, 118, 119, 120, 121, 122, 65, 66, 67, 68, 69, 70, 71, 72, 73, 74, 75, 76, 77, 78, 79, 80, 81, 82, 83, 84, 85, 86, 87, 88, 89, 90, 48, 49, 50, 51, 52, 53, 54, 55, 56, 57, 95]
def blaC : Bytes := [32, 9, 10]
def sigC : Bytes := [40, 41, 44, 124, 38, 126, 43, 45, 61, 42, 123, 125, 59, 58]
theorem figC_is (x : UInt8) : figC.contains x = fig x := by
  have := all_bytes (p := fun x => figC.contains x == fig x) (by decide +kernel) x
  simpa using this
theorem letC_is (x : UInt8) : letC.contains x = letter x := by
  have := all_bytes (p := fun x => letC.contains x == letter x) (by decide +kernel) x
  simpa using this
theorem innC_is (x : UInt8) : innC.contains x = inner x := by
  have := all_bytes (p := fun x => innC.contains x == inner x) (by decide +kernel) x
  simpa using this
theorem blaC_is (x : UInt8) : blaC.contains x = blk x := by
  have := all_bytes (p := fun x => blaC.contains x == blk x) (by decide +kernel) x
  simpa using this

/-! ### far -/
theorem far_l0 (cs : Bytes) (p : UInt8 → Bool) (hp : ∀ x, cs.contains x = p x) (l : Bytes) (hl : l.length ≤ 1000000) : ∀ (d n : Nat), n + d = l.length →
    Ev (fun k => lex_far.l0 k (B cs) (B l) (n : Int)) (((n + ((l.drop n).takeWhile p).length : Nat)) : Int) := by
  intro d
  induction d with
  | zero =>
    intro n hn
    refine Ev.step (fun k => lex_far.l0.eq_2 _ _ _ k) ?_
    refine Ev.ite_neg (by rw [B_size]; omega) ?_
    rw [List.drop_of_length_le (by omega)]
    exact Ev.now _
  | succ d ih =>
    intro n hn
    have hlt : n < l.length := by omega
    refine Ev.step (fun k => lex_far.l0.eq_2 _ _ _ k) ?_
    refine Ev.ite_pos (by rw [B_size]; omega) (Ev.ite_pos (by omega) ?_)
    rw [bt_B l n l[n] (List.getElem?_eq_getElem hlt), has_link, hp]
    refine Ev.bind (Ev.now _) ?_
    rw [List.drop_eq_getElem_cons hlt, List.takeWhile_cons]
    by_cases h : p l[n] = true
    · refine Ev.ite_pos h ?_
      rw [if_pos h, wrap64_nat (by omega) (by omega)]
      have := ih (n + 1) (by omega)
      rw [show ((n : Int) + 1) = ((n + 1 : Nat) : Int) from by omega]
      refine ev_eq this ?_
      rw [List.length_cons]; omega
    · refine Ev.ite_neg h ?_
      rw [if_neg h]
      exact Ev.now _
theorem far_link (cs : Bytes) (p : UInt8 → Bool) (hp : ∀ x, cs.contains x = p x) (l : Bytes) (hl : l.length ≤ 1000000) :
    Ev (fun k => lex_far.f k (B l) (Value.func (Fn.func 21) #[.string (B cs)] #[])) ((l.takeWhile p).length : Int) := by
  refine Ev.congr (fun k => ?_) (ev_eq (far_l0 cs p hp l hl l.length 0 (by omega)) (by rw [List.drop_zero, Nat.zero_add]))
  show (lex_far.key _).bind _ = _
  rw [lex_far.key_of]; rfl

/-! ### Number -/
theorem takeWhile_full {α : Type} (p : α → Bool) (l : List α) : (l.takeWhile p).length = l.length ↔ l.all p = true := by
  induction l with
  | nil => simp
  | cons a t ih =>
    rw [List.takeWhile_cons, List.all_cons]
    by_cases h : p a = true
    · rw [if_pos h, h, Bool.true_and, ← ih, List.length_cons, List.length_cons]; omega
    · rw [if_neg h]
      have := takeWhile_le p t
      simp [h]
theorem fig_val (c : UInt8) (h : fig c = true) : Lib.digitVal c = some (c.toNat - 48) := by
  simp only [fig, Bool.and_eq_true, decide_eq_true_eq] at h
  unfold Lib.digitVal; rw [if_pos h]
theorem decFrom_val : ∀ (l : Bytes) (acc : Nat), l.all fig = true → Lib.decFrom acc l = some (val acc l)
  | [], acc, _ => rfl
  | c :: r, acc, h => by
    rw [List.all_cons, Bool.and_eq_true] at h
    unfold Lib.decFrom
    rw [fig_val c h.1]
    exact decFrom_val r _ h.2
theorem atoi_val (l : Bytes) (h0 : l ≠ []) (h : l.all fig = true) : Lib.atoi l = some (val 0 l : Int) := by
  cases l with
  | nil => exact absurd rfl h0
  | cons c r =>
    have hc : fig c = true := by rw [List.all_cons, Bool.and_eq_true] at h; exact h.1
    simp only [fig, Bool.and_eq_true, decide_eq_true_eq] at hc
    have h1 : (c == 45) = false := by rw [beq_eq_false_iff_ne]; rintro rfl; simp at hc
    have h2 : (c == 43) = false := by rw [beq_eq_false_iff_ne]; rintro rfl; simp at hc
    simp only [Lib.atoi, h1, h2, Bool.false_eq_true, if_false, Lib.decNat, List.isEmpty_cons]
    rw [decFrom_val _ 0 h]; rfl
def num (l : Bytes) : Int × Bool := if numOk l = true then ((val 0 l : Int), true) else (0, false)
theorem num_no {l : Bytes} (h : numOk l = false) : num l = (0, false) := by unfold num; rw [h]; rfl
theorem num_yes {l : Bytes} (h : numOk l = true) : num l = ((val 0 l : Int), true) := by unfold num; rw [if_pos h]
theorem Number_link (l : Bytes) (hl : l.length ≤ 1000000) : Ev (fun k => lex_Number.f k (B l)) (num l) := by
  have hg : ∀ k, lex_Number.f k (B l) = _ := fun k => rfl
  unfold lex_Number.f
  refine Ev.cases_ite (fun h => ?_) (fun h => ?_)
  · rw [B_toList] at h; subst h
    exact ev_eq (Ev.now _) (num_no (by simp [numOk])).symm
  rw [B_toList] at h
  rw [B_size]
  refine Ev.cases_ite (fun h1 => ?_) (fun h1 => ?_)
  · exact ev_eq (Ev.now _) (num_no (by simp [numOk]; omega)).symm
  refine Ev.bind (far_link figC fig figC_is l hl) ?_
  have hlen : 0 < l.length := List.length_pos_iff.2 h
  have hle := takeWhile_le fig l
  refine Ev.cases_ite (fun h2 => ?_) (fun h2 => ?_)
  · refine ev_eq (Ev.now _) (num_no ?_).symm
    have : ¬ l.all fig = true := by rw [← takeWhile_full]; omega
    simp [numOk, this]
  have hall : l.all fig = true := by rw [← takeWhile_full]; omega
  refine Ev.ite_pos (by omega) ?_
  obtain ⟨c, r, rfl⟩ : ∃ c r, l = c :: r := by cases l with | nil => exact absurd rfl h | cons c r => exact ⟨c, r, rfl⟩
  rw [show (0 : Int) = ((0 : Nat) : Int) from rfl, bt_B (c :: r) 0 c rfl]
  have hat : strconv_Atoi.f (B (c :: r)) = some ((val 0 (c :: r) : Int), none) := by
    unfold strconv_Atoi.f
    rw [if_pos (by rw [B_size]; omega), B_data, atoi_val _ h hall]; rfl
  rw [hat]
  have hc48 : (c.toNat : Int) = 48 ↔ (c :: r).head? = some 48 := by
    rw [List.head?_cons, Option.some.injEq]
    constructor
    · intro e; apply UInt8.toNat_inj.1; simp; omega
    · rintro rfl; simp
  refine Ev.cases_ite (fun h3 => ?_) (fun h3 => ?_)
  · have hh := hc48.1 h3
    refine Ev.cases_ite (fun h4 => ?_) (fun h4 => ?_)
    · refine ev_eq (Ev.now _) (num_no ?_).symm
      have h5 : 1 < (c :: r).length := by omega
      simp only [numOk, hh, h5]; simp
    · refine Ev.bind (Ev.now _) (Ev.ite_pos rfl (ev_eq (Ev.now _) (num_yes ?_).symm))
      have h5 : ¬ 1 < (c :: r).length := by omega
      have h9 : r.length + 1 ≤ 9 := by rw [← List.length_cons (a := c)]; omega
      simp only [numOk, hall, h5]; simp; omega
  · have hh : ¬ (c :: r).head? = some 48 := fun e => h3 (hc48.2 e)
    refine Ev.bind (Ev.now _) (Ev.ite_pos rfl (ev_eq (Ev.now _) (num_yes ?_).symm))
    have h9 : r.length + 1 ≤ 9 := by rw [← List.length_cons (a := c)]; omega
    simp only [numOk, hall, hh]; simp; omega

/-! ### token -/
theorem prefix_link (l : Bytes) (x y : UInt8) : strings_HasPrefix.f (B l) (B [x, y]) = some (l.take 2 == [x, y]) := by
  unfold strings_HasPrefix.f stringslite_HasPrefix.f
  simp only [B_size, List.length_cons, List.length_nil, Nat.zero_add, Nat.reduceAdd]
  by_cases h : (l.length : Int) ≥ ((2 : Nat) : Int)
  · rw [if_pos h, if_pos (by omega), if_pos (by omega)]
    simp only [Option.bind_some]
    rw [show ((2 : Nat) : Int).toNat = 2 from rfl, B_extract, B_toList, B_toList]; rfl
  · rw [if_neg h]
    simp only [Option.bind_some]
    congr 1
    symm
    rw [beq_eq_false_iff_ne]
    intro e
    have := congrArg List.length e
    rw [List.length_take] at this
    simp only [List.length_cons, List.length_nil] at this
    omega
theorem take2 (c x : UInt8) (r : Bytes) : ((c :: r).take 2 == [x, 61]) = decide (c = x ∧ r.head? = some 61) := by
  rw [Bool.eq_iff_iff, beq_iff_eq, decide_eq_true_eq]
  cases r with
  | nil => simp
  | cons d t => simp
def tokV (l : Bytes) : Int × ByteArray := match tk1 l with | none => (0, B []) | some (k, n) => ((k : Int), B (l.take n))
theorem tokV_some {l : Bytes} {k n : Nat} (h : tk1 l = some (k, n)) : tokV l = ((k : Int), B (l.take n)) := by unfold tokV; rw [h]
theorem tokV_none {l : Bytes} (h : tk1 l = none) : tokV l = (0, B []) := by unfold tokV; rw [h]
theorem token_link (l : Bytes) (hl : l.length ≤ 1000000) (h0 : l ≠ []) : Ev (fun k => lex_token.f k (B l)) (tokV l) := by
  obtain ⟨c, r, rfl⟩ : ∃ c r, l = c :: r := by cases l with | nil => exact absurd rfl h0 | cons c r => exact ⟨c, r, rfl⟩
  have hlen : 0 < (c :: r).length := by simp
  have hbt := bt_B (c :: r) 0 c rfl
  have hsz := B_size (c :: r)
  unfold lex_token.f
  refine Ev.ite_pos (by rw [hsz]; omega) ?_
  rw [show bt (B (c :: r)) 0 = (c.toNat : Int) from hbt]
  have hL : lex_kind_has.f (⟨#[97, 98, 99, 100, 101, 102, 103, 104, 105, 106, 107, 108, 109, 110, 111, 112, 113, 114, 115, 116, 117, 118, 119, 120, 121, 122, 65, 66, 67, 68, 69, 70, 71, 72, 73, 74, 75, 76, 77, 78, 79, 80, 81, 82, 83, 84, 85, 86, 87, 88, 89, 90]⟩ : ByteArray) (c.toNat : Int) = some (letter c) := by
    rw [← letC_is]; exact has_link letC c
  have hF : lex_kind_has.f (⟨#[48, 49, 50, 51, 52, 53, 54, 55, 56, 57]⟩ : ByteArray) (c.toNat : Int) = some (fig c) := by
    rw [← figC_is]; exact has_link figC c
  rw [hL, hF]
  refine Ev.bind (Ev.now _) ?_
  have hle1 := takeWhile_le inner (c :: r)
  have hle2 := takeWhile_le fig (c :: r)
  refine Ev.cases_ite (fun h1 => ?_) (fun h1 => ?_)
  · refine Ev.bind (far_link innC inner innC_is _ hl) (Ev.ite_pos (by omega) (Ev.ite_pos (by rw [hsz]; omega) ?_))
    refine ev_eq (Ev.now _) ?_
    have hi : inner c = true := by simp [inner, h1]
    have ht : tk1 (c :: r) = some (1, 1 + (r.takeWhile inner).length) := by simp only [tk1]; rw [if_pos h1]
    rw [tokV_some ht, B_extract, Int.toNat_natCast, List.takeWhile_cons, if_pos hi, List.length_cons, Nat.add_comm 1]; rfl
  refine Ev.bind (Ev.now _) ?_
  refine Ev.cases_ite (fun h2 => ?_) (fun h2 => ?_)
  · refine Ev.bind (far_link figC fig figC_is _ hl) (Ev.ite_pos (by omega) (Ev.ite_pos (by rw [hsz]; omega) ?_))
    rw [Int.toNat_natCast]
    have he : (B (c :: r)).extract 0 ((c :: r).takeWhile fig).length = B ((c :: r).takeWhile fig) := by
      rw [B_extract, List.drop_zero, Nat.sub_zero, takeWhile_take_len]
    rw [he]
    refine Ev.bind (Number_link _ (by omega)) ?_
    have hcf : (c :: r).takeWhile fig = c :: r.takeWhile fig := by rw [List.takeWhile_cons, if_pos h2]
    have ht : tk1 (c :: r) = if numOk (c :: r.takeWhile fig) = true then some (2, 1 + (r.takeWhile fig).length) else none := by
      simp only [tk1]; rw [if_neg h1, if_pos h2]
    rw [hcf]
    by_cases h3 : numOk (c :: r.takeWhile fig) = true
    · rw [num_yes h3]
      rw [if_pos h3] at ht
      refine Ev.ite_pos rfl (ev_eq (Ev.now _) ?_)
      rw [tokV_some ht, Nat.add_comm 1, List.take_succ_cons, takeWhile_take_len]; rfl
    · rw [num_no (by simpa using h3)]
      rw [if_neg h3] at ht
      refine Ev.ite_neg (by simp) (ev_eq (Ev.now _) ?_)
      rw [tokV_none ht]; rfl
  have hp1 : strings_HasPrefix.f (B (c :: r)) (⟨#[60, 61]⟩ : ByteArray) = some (decide (c = 60 ∧ r.head? = some 61)) := by rw [← take2]; exact prefix_link _ 60 61
  have hp2 : strings_HasPrefix.f (B (c :: r)) (⟨#[58, 61]⟩ : ByteArray) = some (decide (c = 58 ∧ r.head? = some 61)) := by rw [← take2]; exact prefix_link _ 58 61
  rw [hp1, hp2]
  have ht0 : tk1 (c :: r) = if (c.toNat = 60 ∨ c.toNat = 58) ∧ r.head? = some 61 then some (3, 2) else if signB c = true then some (3, 1) else none := by
    simp only [tk1]; rw [if_neg h1, if_neg h2]
  have e60 : c = 60 ↔ c.toNat = 60 := ⟨fun e => by rw [e]; rfl, fun e => UInt8.toNat_inj.1 (by rw [e]; rfl)⟩
  have e58 : c = 58 ↔ c.toNat = 58 := ⟨fun e => by rw [e]; rfl, fun e => UInt8.toNat_inj.1 (by rw [e]; rfl)⟩
  have yes : (c.toNat = 60 ∨ c.toNat = 58) ∧ r.head? = some 61 → Ev (fun k => lex_token.j0 k (B (c :: r)) true) (tokV (c :: r)) := by
    intro hc
    rw [if_pos hc] at ht0
    have h2l : 2 ≤ (c :: r).length := by
      cases r with
      | nil => simp at hc
      | cons d t => simp
    refine Ev.step (fun k => lex_token.j0.eq_2 _ _ k) (Ev.ite_pos rfl (Ev.ite_pos (by omega) (Ev.ite_pos (by rw [hsz]; omega) (ev_eq (Ev.now _) ?_))))
    rw [tokV_some ht0, B_extract]; rfl
  have no : ¬ ((c.toNat = 60 ∨ c.toNat = 58) ∧ r.head? = some 61) → Ev (fun k => lex_token.j0 k (B (c :: r)) false) (tokV (c :: r)) := by
    intro hc
    rw [if_neg hc] at ht0
    refine Ev.step (fun k => lex_token.j0.eq_2 _ _ k) (Ev.ite_neg (by simp) (Ev.ite_pos (by rw [hsz]; omega) ?_))
    rw [show bt (B (c :: r)) 0 = (c.toNat : Int) from hbt]
    rw [show strings_IndexByte.f (⟨#[40, 41, 44, 124, 38, 126, 43, 45, 61, 42, 123, 125, 59, 58]⟩ : ByteArray) (c.toNat : Int) = some (Lib.indexByte sigC c) from index_link sigC c]
    refine Ev.bind (Ev.now _) ?_
    have hs : decide (Lib.indexByte sigC c ≥ 0) = signB c := indexByte_contains sigC c
    refine Ev.cases_ite (fun h3 => ?_) (fun h3 => ?_)
    · have h4 : signB c = true := by rw [← hs]; exact decide_eq_true h3
      rw [if_pos h4] at ht0
      refine Ev.ite_pos (by omega) (Ev.ite_pos (by rw [hsz]; omega) (ev_eq (Ev.now _) ?_))
      rw [tokV_some ht0, B_extract]; rfl
    · have h4 : ¬ signB c = true := by rw [← hs]; simpa using h3
      rw [if_neg h4] at ht0
      refine ev_eq (Ev.now _) ?_
      rw [tokV_none ht0]; rfl
  refine Ev.bind (Ev.now _) ?_
  by_cases h3 : c = 60 ∧ r.head? = some 61
  · rw [decide_eq_true h3]
    exact Ev.ite_pos rfl (yes ⟨.inl (e60.1 h3.1), h3.2⟩)
  · rw [decide_eq_false h3]
    refine Ev.ite_neg (by simp) (Ev.bind (Ev.now _) ?_)
    by_cases h4 : c = 58 ∧ r.head? = some 61
    · rw [decide_eq_true h4]
      exact yes ⟨.inr (e58.1 h4.1), h4.2⟩
    · rw [decide_eq_false h4]
      refine no ?_
      rintro ⟨h5 | h5, h6⟩
      · exact h3 ⟨e60.2 h5, h6⟩
      · exact h4 ⟨e58.2 h5, h6⟩

/-! ### Toks -/
def enc (t : Tk) : S32 := ⟨(t.kind : Int), B t.text, (t.pos : Int)⟩
def res (acc : List S32) : Except Nat (List Tk) → List S32 × Int × Int
  | .ok m => (acc ++ m.map enc, 0, 0)
  | .error e => ([], (e : Int), 2)
theorem Toks_l0 (l : Bytes) (hl : l.length ≤ 1000000) : ∀ (d n : Nat) (acc : List S32), n + d = l.length → acc.length ≤ n →
    Ev (fun k => lex_Toks.l0 k (B l) acc (n : Int) false) (res acc (scan (l.drop n) 0 n)) := by
  intro d
  induction d using Nat.strongRecOn with
  | _ d ih =>
  intro n acc hn hacc
  have hsz := B_size l
  refine Ev.step (fun k => lex_Toks.l0.eq_2 _ _ _ _ k) ?_
  refine Ev.ite_pos (by omega) (Ev.ite_pos (by rw [hsz]; omega) ?_)
  rw [Int.toNat_natCast, B_extract_end]
  refine Ev.bind (far_link blaC blk blaC_is (l.drop n) (by rw [List.length_drop]; omega)) ?_
  rw [scan_blanks (l.drop n) n, List.drop_drop]
  have hm := takeWhile_le blk (l.drop n)
  rw [List.length_drop] at hm
  have hstop := takeWhile_stop blk (l.drop n)
  generalize ((l.drop n).takeWhile blk).length = m at hm hstop
  rw [List.getElem?_drop] at hstop
  rw [wrap64_nat (by omega) (by omega)]
  refine Ev.cases_ite (fun h1 => ?_) (fun h1 => ?_)
  · rw [hsz] at h1
    refine Ev.ite_neg (by simp) (ev_eq (Ev.now _) ?_)
    rw [List.drop_of_length_le (by omega)]
    simp [scan, res]
  · rw [hsz] at h1
    have hlt : n + m < l.length := by omega
    refine Ev.ite_pos (by omega) (Ev.ite_pos (by rw [hsz]; omega) ?_)
    rw [show ((n : Int) + (m : Int)) = ((n + m : Nat) : Int) from by omega, Int.toNat_natCast, B_extract_end]
    have hne : l.drop (n + m) ≠ [] := by
      intro e
      have := congrArg List.length e
      rw [List.length_drop] at this
      simp at this; omega
    refine Ev.bind (token_link (l.drop (n + m)) (by rw [List.length_drop]; omega) hne) ?_
    have hhead : ∀ c, (l.drop (n + m)).head? = some c → blk c = false := by
      intro c hc
      rw [List.head?_drop] at hc
      exact hstop c hc
    cases ht : tk1 (l.drop (n + m)) with
    | none =>
      rw [tokV_none ht]
      refine Ev.ite_pos (by rw [B_toList]) (ev_eq (Ev.now _) ?_)
      cases hd : l.drop (n + m) with
      | nil => exact absurd hd hne
      | cons c r =>
        rw [hd] at ht hhead
        rw [scan_none c r (n + m) (hhead c rfl) ht]; rfl
    | some kn =>
      obtain ⟨kd, q⟩ := kn
      have hq := tok_len ht
      rw [List.length_drop] at hq
      rw [tokV_some ht, scan_tok _ _ _ _ hhead ht, List.drop_drop]
      have htl : ((l.drop (n + m)).take q).length = q := by rw [List.length_take, List.length_drop]; omega
      refine Ev.ite_neg ?_ (Ev.ite_pos (by omega) ?_)
      · rw [B_toList]
        intro e
        have := congrArg List.length e
        rw [htl] at this
        simp at this; omega
      rw [B_size, htl, wrap64_nat (by omega) (by omega)]
      have := ih (l.length - (n + m + q)) (by omega) (n + m + q) (acc ++ [⟨(kd : Int), B ((l.drop (n + m)).take q), ((n + m : Nat) : Int)⟩]) (by omega) (by rw [List.length_append]; simp; omega)
      rw [show (((n + m : Nat) : Int) + (q : Int)) = ((n + m + q : Nat) : Int) from by omega]
      refine ev_eq this ?_
      cases scan (l.drop (n + m + q)) 0 (n + m + q) with
      | error e => rfl
      | ok z => simp [res, enc]
def toksR (l : Bytes) : List S32 × Int × Int := if 2000 < l.length then ([], 0, 7) else res [] (scan l 0 0)
theorem Toks_link (l : Bytes) (hl : l.length ≤ 1000000) : Ev (fun k => lex_Toks.f k (B l)) (toksR l) := by
  unfold lex_Toks.f toksR
  rw [B_size]
  refine Ev.cases_ite (fun h => ?_) (fun h => ?_)
  · rw [if_pos (by omega)]; exact Ev.now _
  · rw [if_neg (by omega)]
    have := Toks_l0 l hl l.length 0 [] (by omega) (by simp)
    rwa [List.drop_zero] at this
end Go.Proofs.YtfjhnljidfdhjaaDoor.L
