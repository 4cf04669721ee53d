import Derived.Test.YtniaooodlccmcaaGreatDoorDz
import Derived.Test.YtniaooodlccmcaaGreatDoorR
import Derived.Test.YtniaooodlccmcaaGreatDoorQx8
import Derived.Test.YtniaooodlccmcaaGreatDoorQx9
import Derived.Test.YtniaooodlccmcaaGreatDoorQx13
set_option linter.unusedVariables false
set_option linter.unusedSimpArgs false
namespace Go.Proofs.YtniaooodlccmcaaGreatDoor.E
open Go.RowKit Go.Proofs.YtniaooodlccmcaaGreatDoorW.PrintWords Go.Proofs.YtniaooodlccmcaaGreatDoorW.PrintLast
open Go.Proofs.YtniaooodlccmcaaGreatDoor.Q Go.Proofs.YtniaooodlccmcaaGreatDoor.M Go.Proofs.YtniaooodlccmcaaGreatDoor.L
def nameOk (lo hi : Nat) (n : Bytes) : Bool := (decide (n.length ≤ 20) && (match n with | [] => false | c :: _ => decide (lo ≤ c.toNat ∧ c.toNat ≤ hi))) && n.all inner
def varOk (n : Bytes) : Bool := nameOk 65 90 n
def conOk (n : Bytes) : Bool := nameOk 97 122 n
theorem con_not_var {n : Bytes} (h : conOk n = true) : varOk n = false := by
 cases n with
 | nil => rfl
 | cons c r =>
  simp only [conOk, nameOk, Bool.and_eq_true, decide_eq_true_eq] at h
  have : ¬ (65 ≤ c.toNat ∧ c.toNat ≤ 90) := by omega
  simp [varOk, nameOk, this]
theorem has_is (a b : Nat) (c : UInt8) : sig_letters_has.f (a : Int) (b : Int) (c.toNat : Int) = some (decide (a ≤ c.toNat ∧ c.toNat ≤ b)) := by
 unfold sig_letters_has.f
 by_cases h : (c.toNat : Int) ≥ (a : Int)
 ·rw [if_pos h]
  congr 1
  rw [Bool.eq_iff_iff, decide_eq_true_eq, decide_eq_true_eq]; omega
 ·rw [if_neg h]
  congr 1
  symm
  rw [decide_eq_false_iff_not]; omega
theorem inner_is (c : UInt8) : sig_inner.f (c.toNat : Int) = some (inner c) := by
 have h1 : sig_letters_has.f 97 122 (c.toNat : Int) = some (decide (97 ≤ c.toNat ∧ c.toNat ≤ 122)) := has_is 97 122 c
 have h2 : sig_letters_has.f 65 90 (c.toNat : Int) = some (decide (65 ≤ c.toNat ∧ c.toNat ≤ 90)) := has_is 65 90 c
 have h3 : sig_letters_has.f 48 57 (c.toNat : Int) = some (decide (48 ≤ c.toNat ∧ c.toNat ≤ 57)) := has_is 48 57 c
 unfold sig_inner.f sig_lower.f sig_upper.f
 simp only [Option.bind_some, h1, h2, h3, decide_eq_true_eq]
 have h95 : ((c.toNat : Int) == 95) = decide (c.toNat = 95) := by
  rw [Bool.eq_iff_iff, beq_iff_eq, decide_eq_true_eq]; omega
 rw [h95]
 unfold inner letter fig
 by_cases a : 97 ≤ c.toNat ∧ c.toNat ≤ 122
 ·rw [if_pos a]; simp [a]
 rw [if_neg a]
 by_cases b : 65 ≤ c.toNat ∧ c.toNat ≤ 90
 ·rw [if_pos b]; simp [b]
 rw [if_neg b]
 by_cases d : 48 ≤ c.toNat ∧ c.toNat ≤ 57
 ·rw [if_pos d]; simp [d]
 rw [if_neg d]
 congr 1
 rw [Bool.eq_iff_iff]
 simp only [Bool.or_eq_true, Bool.and_eq_true, decide_eq_true_eq]
 omega
theorem idx_link (n : Bytes) (hn : n.length ≤ 20) : ∀ (d i k : Nat), i + d = n.length → d < k → ∃ r : Int, sig_idx k (bytesOf (B n)) (i : Int) = some r ∧ decide (0 ≤ r) = !((n.drop i).all inner) := by
 have hl : (bytesOf (B n)).length = n.length := by simp [bytesOf, B_data]
 intro d
 induction d with
 | zero =>
  intro i k hi hk
  obtain ⟨k, rfl⟩ : ∃ m, k = m + 1 := ⟨k - 1, by omega⟩
  refine ⟨-1, ?_, ?_⟩
  ·rw [sig_idx, if_neg (by rw [hl]; omega)]
  ·rw [List.drop_of_length_le (by omega)]; rfl
 | succ d ih =>
  intro i k hi hk
  obtain ⟨k, rfl⟩ : ∃ m, k = m + 1 := ⟨k - 1, by omega⟩
  have hlt : i < n.length := by omega
  rw [List.drop_eq_getElem_cons hlt, List.all_cons]
  rw [sig_idx, if_pos (by rw [hl]; omega), if_pos (by omega), rd_bytesOf, bt_B n i n[i] (List.getElem?_eq_getElem hlt), inner_is, Option.bind_some]
  by_cases h : inner n[i] = true
  ·rw [if_pos h, h, Bool.true_and, show wrap64 ((i : Int) + 1) = ((i + 1 : Nat) : Int) from by unfold wrap64; omega]
   exact ih (i + 1) k (by omega) (by omega)
  ·rw [if_neg h]
   refine ⟨_, rfl, ?_⟩
   rw [Bool.eq_false_iff.2 h]
   simp
theorem named_link (lo hi : Nat) (n : Bytes) : sig_named.f (lo : Int) (hi : Int) (B n) = some (nameOk lo hi n) := by
 unfold sig_named.f
 rw [B_size]
 cases n with
 | nil => rfl
 | cons c r =>
  rw [if_neg (by simp)]
  by_cases h : 20 < (c :: r).length
  ·rw [if_pos h]
   have : ¬ (c :: r).length ≤ 20 := by omega
   simp [nameOk]
   intro h'; simp at h; omega
  ·rw [if_neg h, show (0 : Int) = ((0 : Nat) : Int) from rfl, bt_B (c :: r) 0 c rfl, has_is, Option.bind_some]
   have hle : (c :: r).length ≤ 20 := by omega
   have e : nameOk lo hi (c :: r) = (decide (lo ≤ c.toNat ∧ c.toNat ≤ hi) && (c :: r).all inner) := by
    unfold nameOk
    rw [decide_eq_true hle, Bool.true_and]
   rw [e]
   by_cases h1 : lo ≤ c.toNat ∧ c.toNat ≤ hi
   ·rw [decide_eq_true h1, if_pos rfl]
    obtain ⟨q, hq, hq2⟩ := idx_link (c :: r) hle (c :: r).length 0 21 (by omega) (by omega)
    rw [hq, Option.bind_some]
    have hq2' : decide (((0 : Nat) : Int) ≤ q) = !(((c :: r).drop 0).all inner) := hq2
    rw [hq2', Bool.not_not, Bool.true_and, List.drop_zero]
   ·rw [decide_eq_false h1, if_neg (by decide)]; rfl
theorem IsVar_link (n : Bytes) : sig_IsVar.f (B n) = some (varOk n) := named_link 65 90 n
theorem IsCon_link (n : Bytes) : sig_IsCon.f (B n) = some (conOk n) := named_link 97 122 n
abbrev TT := Nat × Bytes
def isT (l : List S48) (i : Nat) (t : TT) : Prop := ∃ x, l[i]? = some x ∧ x.f0 = (t.1 : Int) ∧ x.f1 = B t.2
def At (l : List S48) : Nat → List TT → Prop
 | _, [] => True
 | i, t :: r => isT l i t ∧ At l (i + 1) r
theorem At_append {l : List S48} : ∀ (a b : List TT) (i : Nat), At l i (a ++ b) ↔ At l i a ∧ At l (i + a.length) b
 | [], b, i => by simp [At]
 | t :: a, b, i => by
  have h := At_append (l := l) a b (i + 1)
  simp only [List.cons_append, At, h, List.length_cons, and_assoc]
  rw [show i + 1 + a.length = i + (a.length + 1) from by omega]
theorem isT_lt {l : List S48} {i : Nat} {t : TT} (h : isT l i t) : i < l.length := by
 obtain ⟨x, h, _⟩ := h
 exact (List.getElem?_eq_some_iff.1 h).1
theorem At_le {l : List S48} : ∀ (a : List TT) (i : Nat), At l i a → i ≤ l.length → i + a.length ≤ l.length
 | [], i, _, h => h
 | t :: a, i, h, hi => by
  have := At_le a (i + 1) h.2 (isT_lt h.1)
  simp only [List.length_cons]; omega
theorem sg_is {l : List S48} {i : Nat} {t : TT} (h : isT l i t) (c : Bytes) : sg l i (B c) = (decide (t.1 = 3) && decide (t.2 = c)) := by
 obtain ⟨x, h1, h2, h3⟩ := h
 unfold sg
 rw [h1]
 show (x.f0 == 3 && x.f1.toList == (B c).toList) = _
 rw [h2, h3, B_toList, B_toList]
 congr 1
 ·rw [Bool.eq_iff_iff, beq_iff_eq, decide_eq_true_eq]; omega
 ·rw [Bool.eq_iff_iff, beq_iff_eq, decide_eq_true_eq]
theorem sg_end {l : List S48} {i : Nat} (h : l.length ≤ i) (c : ByteArray) : sg l i c = false := sg_ge h c
abbrev Res := List S38 × Int × Int
def cont (l : List S48) (k : Nat) (q : Rd × Bool) : Option Res := if q.2 = true then some (q.1.out, (q.1.i : Int), 0) else if q.1.e = 0 then Rd.read l k q.1 else some ([], (q.1.i : Int), q.1.e)
def PM (l : List S48) (s : Rd) (r : Res) : Prop := Ev (fun k => Rd.read l k s) r
def WM (l : List S48) (s : Rd) (r : Res) : Prop := Ev (fun k => (Rd.whole l k s).bind (cont l k)) r
def TM (l : List S48) (q : List S51) (t : S51) (s : Rd) (r : Res) : Prop := Ev (fun k => (Rd.turn l q t s (Rd.whole l k)).bind (cont l k)) r
theorem cont_mono (l : List S48) (k : Nat) (q : Rd × Bool) : LeO (cont l k q) (cont l (k + 1) q) := by
 unfold cont
 exact LeO.ite (LeO.refl _) (LeO.ite (Rd.read_mono l k q.1) (LeO.refl _))
theorem WM_of {l : List S48} {q : List S51} {t : S51} {s : Rd} {r : Res} (hs : s.st = q ++ [t]) (b1 : s.i ≤ 1000000000000) (b2 : (s.out.length + 2) * 32 ≤ 140737488355328) (b3 : q.length ≤ 1000) (h : TM l q t (s.joined t.f1) r) : WM l s r := by
 obtain ⟨K, h⟩ := h
 refine ⟨K + 1, fun k hk => ?_⟩
 obtain ⟨k, rfl⟩ : ∃ m, k = m + 1 := ⟨k - 1, by omega⟩
 have hw : Rd.whole l (k + 1) s = Rd.turn l q t (s.joined t.f1) (Rd.whole l k) := by
  rw [Rd.whole, hs]
  simp only [List.reverse_append, List.reverse_cons, List.reverse_nil, List.nil_append, List.singleton_append, List.length_reverse, List.reverse_reverse]
  rw [if_pos ⟨b1, b2, b3⟩]
 show (Rd.whole l (k + 1) s).bind (cont l (k + 1)) = some r
 rw [hw]
 obtain ⟨p, hp, hc⟩ := Option.bind_eq_some_iff.1 (h k (by omega))
 rw [hp]
 exact cont_mono l k p r hc
theorem PM_part {l : List S48} {s s' : Rd} {r : Res} (hp : Ev (fun k => s.part k l) (s', true)) (b1 : s.i ≤ 1000000000000) (b2 : (s.out.length + 1) * 32 ≤ 140737488355328) (h : WM l s' r) : PM l s r := by
 obtain ⟨K, hp⟩ := hp
 obtain ⟨K2, h⟩ := h
 refine ⟨K + K2 + 1, fun k hk => ?_⟩
 obtain ⟨k, rfl⟩ : ∃ m, k = m + 1 := ⟨k - 1, by omega⟩
 show Rd.read l (k + 1) s = some r
 rw [Rd.read, if_pos ⟨b1, b2⟩, show Rd.part k l s = some (s', true) from hp k (by omega)]
 exact h k (by omega)
theorem PM_push {l : List S48} {s s' : Rd} {r : Res} (hp : Ev (fun k => s.part k l) (s', false)) (b1 : s.i ≤ 1000000000000) (b2 : (s.out.length + 1) * 32 ≤ 140737488355328) (he : s'.e = 0) (h : PM l s' r) : PM l s r := by
 obtain ⟨K, hp⟩ := hp
 obtain ⟨K2, h⟩ := h
 refine ⟨K + K2 + 1, fun k hk => ?_⟩
 obtain ⟨k, rfl⟩ : ∃ m, k = m + 1 := ⟨k - 1, by omega⟩
 show Rd.read l (k + 1) s = some r
 rw [Rd.read, if_pos ⟨b1, b2⟩, show Rd.part k l s = some (s', false) from hp k (by omega)]
 simp only [Option.bind_some, Bool.false_eq_true, if_false]
 rw [if_pos he]
 exact h k (by omega)
theorem PM_fail {l : List S48} {s s' : Rd} (hp : Ev (fun k => s.part k l) (s', false)) (b1 : s.i ≤ 1000000000000) (b2 : (s.out.length + 1) * 32 ≤ 140737488355328) (he : s'.e ≠ 0) : PM l s ([], (s'.i : Int), s'.e) := by
 obtain ⟨K, hp⟩ := hp
 refine ⟨K + 1, fun k hk => ?_⟩
 obtain ⟨k, rfl⟩ : ∃ m, k = m + 1 := ⟨k - 1, by omega⟩
 show Rd.read l (k + 1) s = _
 rw [Rd.read, if_pos ⟨b1, b2⟩, show Rd.part k l s = some (s', false) from hp k (by omega)]
 simp only [Option.bind_some, Bool.false_eq_true, if_false]
 rw [if_neg he]
theorem B1 (c : UInt8) : (⟨#[c]⟩ : ByteArray) = B [c] := rfl
theorem B0 : (⟨#[]⟩ : ByteArray) = B [] := rfl
theorem sg_isB {l : List S48} {i : Nat} {t : TT} (h : isT l i t) (c : UInt8) : sg l i ⟨#[c]⟩ = (decide (t.1 = 3) && decide (t.2 = [c])) := sg_is h [c]
def s2 (u : Bool) : UInt8 := if u then 124 else 38
def k2 (u : Bool) : Int := if u then 4 else 5
theorem TM_op {l : List S48} {q : List S51} {t : S51} {s : Rd} {r : Res} (u : Bool) (hi : isT l s.i (3, [s2 u])) (ho : t.f1 = B [] ∨ t.f1 = B [s2 u]) (he : s.e = 0) (h : PM l { s with st := q ++ [⟨t.f0, B [s2 u]⟩], i := s.i + 1 } r) : TM l q t s r := by
 obtain ⟨K, h⟩ := h
 refine ⟨K, fun k hk => ?_⟩
 have hb : Rd.turn l q t s (Rd.whole l k) = some ({ s with st := q ++ [⟨t.f0, B [s2 u]⟩], i := s.i + 1 }, false) := by
  unfold Rd.turn
  rw [sg_isB hi, sg_isB hi]
  cases u
  ·rw [if_neg (by simp [s2])]
   rw [if_pos (by rcases ho with ho | ho <;> rw [ho, B_toList] <;> simp [s2])]
   rfl
  ·rw [if_pos (by rcases ho with ho | ho <;> rw [ho, B_toList] <;> simp [s2])]
   rfl
 show (Rd.turn l q t s (Rd.whole l k)).bind (cont l k) = some r
 rw [hb]
 simp only [Option.bind_some, cont, Bool.false_eq_true, if_false]
 rw [if_pos he]
 exact h k hk
theorem TM_close {l : List S48} {q : List S51} {t : S51} {s : Rd} {r : Res} (hi : isT l s.i (3, [41])) (hq : q ≠ []) (h : WM l (if t.f0.f0 = -1 then { s with st := q, i := s.i + 1 } else { s.emit t.f0 with st := q, i := s.i + 1 }) r) : TM l q t s r := by
 obtain ⟨K, h⟩ := h
 refine ⟨K, fun k hk => ?_⟩
 show (Rd.turn l q t s (Rd.whole l k)).bind (cont l k) = some r
 have hb : Rd.turn l q t s (Rd.whole l k) = Rd.whole l k (if t.f0.f0 = -1 then { s with st := q, i := s.i + 1 } else { s.emit t.f0 with st := q, i := s.i + 1 }) := by
  unfold Rd.turn
  rw [sg_isB hi, sg_isB hi, sg_isB hi, sg_isB hi, if_neg (by simp), if_neg (by simp), if_neg (by simpa using hq), if_neg (by simp), if_pos (by simp)]
 rw [hb]
 exact h k hk
theorem TM_comma {l : List S48} {q : List S51} {t : S51} {s : Rd} {r : Res} (hi : isT l s.i (3, [44])) (hq : q ≠ []) (h3 : t.f0.f0 = 3) (h8 : t.f0.f2 ≠ 8) (he : s.e = 0) (h : PM l { s with st := q ++ [⟨⟨t.f0.f0, t.f0.f1, wrap64 (t.f0.f2 + 1)⟩, B []⟩], i := s.i + 1 } r) : TM l q t s r := by
 obtain ⟨K, h⟩ := h
 refine ⟨K, fun k hk => ?_⟩
 have hb : Rd.turn l q t s (Rd.whole l k) = some ({ s with st := q ++ [⟨⟨t.f0.f0, t.f0.f1, wrap64 (t.f0.f2 + 1)⟩, B []⟩], i := s.i + 1 }, false) := by
  unfold Rd.turn
  rw [sg_isB hi, sg_isB hi, sg_isB hi, if_neg (by simp), if_neg (by simp), if_neg (by simpa using hq), if_pos (by simp [h3]), if_neg h8]
  rfl
 show (Rd.turn l q t s (Rd.whole l k)).bind (cont l k) = some r
 rw [hb]
 simp only [Option.bind_some, cont, Bool.false_eq_true, if_false]
 rw [if_pos he]
 exact h k hk
theorem TM_end {l : List S48} {t : S51} {s : Rd} (hi : l.length ≤ s.i) : TM l [] t s (s.out, (s.i : Int), 0) := by
 refine ⟨0, fun k hk => ?_⟩
 show (Rd.turn l [] t s (Rd.whole l k)).bind (cont l k) = _
 unfold Rd.turn
 rw [sg_end hi, sg_end hi, if_neg (by simp), if_neg (by simp), if_pos List.length_nil]
 rfl
section
variable {l : List S48} {s : Rd}
theorem part_open (h : isT l s.i (3, [40])) (k : Nat) : s.part k l = some (s.push ⟨-1, ⟨#[]⟩, 0⟩ 0, false) := by
 have h' := sg_isB h 40
 obtain ⟨x, h1, h2, h3⟩ := h
 unfold Rd.part
 rw [h1]
 simp only [h', decide_true, Bool.and_self, if_true]
theorem part_num (c : UInt8) (m : Int) (hc : c = 48 ∧ m = 0 ∨ c = 49 ∧ m = 1) (h : isT l s.i (2, [c])) (k : Nat) : s.part k l = some ((s.emit ⟨m, ⟨#[]⟩, 0⟩).next, true) := by
 have h' := sg_isB h 40
 obtain ⟨x, h1, h2, h3⟩ := h
 unfold Rd.part
 rw [h1]
 simp only [h']
 rw [if_neg (by simp)]
 have hl : x.f1.toList = [c] := by rw [h3, B_toList]
 have h2' : x.f0 = 2 := h2
 rcases hc with ⟨rfl, rfl⟩ | ⟨rfl, rfl⟩
 ·rw [if_pos ⟨h2', by rw [hl]; rfl⟩]
 ·rw [if_neg (by rw [hl]; intro e; exact absurd e.2 (by decide)), if_pos ⟨h2', by rw [hl]; rfl⟩]
theorem part_name {n : Bytes} (h : isT l s.i (1, n)) (k : Nat) : s.part k l = (sig_IsVar.f (B n)).bind fun v => if v = true then some ((s.emit ⟨2, B n, 0⟩).next, true) else
    (sig_IsCon.f (B n)).bind fun c => if c = true then
     (if sg l (s.i + 1) ⟨#[40]⟩ = true then some (s.push ⟨3, B n, 1⟩ 1, false)
     else if sg l (s.i + 1) ⟨#[126]⟩ = true then (s.proj k l (B n)).bind fun r => some (r, false)
     else some ((s.emit ⟨3, B n, 0⟩).next, true))
    else some ({ s with e := 3 }, false) := by
 have h' := sg_isB h 40
 obtain ⟨x, h1, h2, h3⟩ := h
 have h2' : x.f0 = 1 := h2
 have h3' : x.f1 = B n := h3
 unfold Rd.part
 rw [h1]
 simp only [h']
 rw [if_neg (by simp), if_neg (by rw [h2']; intro e; exact absurd e.1 (by decide)), if_neg (by rw [h2']; intro e; exact absurd e.1 (by decide)), if_pos h2', h3']
end
def isTwo (k : Int) : Bool := k == 4 || k == 5
def oddL (u : Bool) (k : Int) : Bool := isTwo k && k != k2 u
def brT (b : Bool) (ts : List TT) : List TT := if b = true then (3, [40]) :: (ts ++ [(3, [41])]) else ts
def brX (b : Bool) (x : Bytes) : Bytes := if b = true then 40 :: (x ++ [41]) else x
def brD (b : Bool) (d : Nat) : Nat := if b = true then d + 1 else d
def nd (k : Int) (n : Bytes) (m : Int) : S38 := ⟨k, B n, m⟩
def fg (p : Nat) : UInt8 := UInt8.ofNat (48 + p)
inductive Ex : Option Nat → Int → List S38 → List TT → Bytes → Nat → Prop
 | zero : Ex none 0 [nd 0 [] 0] [(2, [48])] [48] 0
 | one : Ex none 1 [nd 1 [] 0] [(2, [49])] [49] 0
 | var (n : Bytes) (h : varOk n = true) : Ex none 2 [nd 2 n 0] [(1, n)] n 0
 | con (n : Bytes) (h : conOk n = true) : Ex none 3 [nd 3 n 0] [(1, n)] n 0
 | call (n : Bytes) (h : conOk n = true) {m : Nat} {ns : List S38} {ts : List TT} {x : Bytes} {d : Nat} (hm : m ≤ 8) (a : Ex (some m) 0 ns ts x d) :
   Ex none 3 (ns ++ [nd 3 n m]) ((1, n) :: (3, [40]) :: (ts ++ [(3, [41])])) (n ++ 40 :: (x ++ [41])) (d + 1)
 | proj (n : Bytes) (h : conOk n = true) {p : Nat} (h1 : 1 ≤ p) (h8 : p ≤ 8) {k : Int} {ns : List S38} {ts : List TT} {x : Bytes} {d : Nat} (a : Ex none k ns ts x d) :
   Ex none 6 (ns ++ [nd 6 n p]) ((1, n) :: (3, [126]) :: (2, [fg p]) :: (3, [40]) :: (ts ++ [(3, [41])])) (n ++ 126 :: fg p :: 40 :: (x ++ [41])) (d + 1)
 | two (u : Bool) {ka : Int} {na : List S38} {ta : List TT} {xa : Bytes} {da : Nat} {kb : Int} {nb : List S38} {tb : List TT} {xb : Bytes} {db : Nat} (a : Ex none ka na ta xa da) (b : Ex none kb nb tb xb db) :
   Ex none (k2 u) (na ++ nb ++ [nd (k2 u) [] 2]) (brT (oddL u ka) ta ++ (3, [s2 u]) :: brT (isTwo kb) tb) (brX (oddL u ka) xa ++ s2 u :: brX (isTwo kb) xb) (max (brD (oddL u ka) da) (brD (isTwo kb) db))
 | arg1 {k : Int} {ns : List S38} {ts : List TT} {x : Bytes} {d : Nat} (a : Ex none k ns ts x d) : Ex (some 1) 0 ns ts x d
 | argN {m : Nat} {ns : List S38} {ts : List TT} {x : Bytes} {d : Nat} (a : Ex (some m) 0 ns ts x d) {k : Int} {ns' : List S38} {ts' : List TT} {x' : Bytes} {d' : Nat} (b : Ex none k ns' ts' x' d') :
   Ex (some (m + 1)) 0 (ns ++ ns') (ts ++ (3, [44]) :: ts') (x ++ 44 :: x') (max d d')
def opOf (k : Int) : Bytes := if k = 4 then [124] else if k = 5 then [38] else []
def OKr (l : List S48) (q : List S51) (d : Nat) (s : Rd) (C : Res → Prop) : Prop := (41 < q.length + 1 + d ∧ ∃ at_ : Int, PM l s ([], at_, 7)) ∨ ∀ r, C r → PM l s r
theorem OKr.imp {l : List S48} {q : List S51} {d d' : Nat} {s : Rd} {C C' : Res → Prop} (h : OKr l q d s C) (hd : d ≤ d') (hC : ∀ r, C' r → C r) : OKr l q d' s C' := by
 rcases h with ⟨h1, h2⟩ | h
 ·exact .inl ⟨by omega, h2⟩
 ·exact .inr fun r hr => h r (hC r hr)
theorem OKr.comp {l : List S48} {q q' : List S51} {d d' dd : Nat} {s s' : Rd} {C C' : Res → Prop} (h : OKr l q d s C) (h' : OKr l q' d' s' C') (hd : d ≤ dd) (hd' : q'.length + d' ≤ q.length + dd) (link : ∀ r, PM l s' r → C r) : OKr l q dd s C' := by
 rcases h with ⟨h1, h2⟩ | h
 ·exact .inl ⟨by omega, h2⟩
 rcases h' with ⟨h1, a, h2⟩ | h'
 ·exact .inl ⟨by omega, a, h _ (link _ h2)⟩
 ·exact .inr fun r hr => h r (link r (h' r hr))
theorem OKr.pre {l : List S48} {q q' : List S51} {d d' : Nat} {s s' : Rd} {C : Res → Prop} (h : OKr l q' d' s' C) (hd : q'.length + d' ≤ q.length + d) (link : ∀ r, PM l s' r → PM l s r) : OKr l q d s C := by
 rcases h with ⟨h1, a, h2⟩ | h
 ·exact .inl ⟨by omega, a, link _ h2⟩
 ·exact .inr fun r hr => link r (h r hr)
theorem push_ok {l : List S48} {q : List S51} {t : S51} {i : Nat} {out : List S38} {n : S38} {far d : Nat} {C : Res → Prop} (hp : Ev (fun k => Rd.part k l ⟨i, out, q ++ [t], 0⟩) ((⟨i, out, q ++ [t], 0⟩ : Rd).push n far, false)) (hi : i ≤ 1000000) (ho : out.length ≤ 1000000)
  (h : q.length < 40 → OKr l (q ++ [t]) d ⟨i + far + 1, out, (q ++ [t]) ++ [⟨n, B []⟩], 0⟩ C) : OKr l q (d + 1) ⟨i, out, q ++ [t], 0⟩ C := by
 by_cases hq : q.length < 40
 ·have e : (⟨i, out, q ++ [t], 0⟩ : Rd).push n far = ⟨i + far + 1, out, (q ++ [t]) ++ [⟨n, B []⟩], 0⟩ := by
   unfold Rd.push
   rw [if_neg Zz21]
   rfl
  rw [e] at hp
  exact (h hq).pre Zz21 fun r hr => PM_push hp (by show i ≤ _; omega) Zz28 rfl hr
 ·have e : (⟨i, out, q ++ [t], 0⟩ : Rd).push n far = ⟨i + far, out, q ++ [t], 7⟩ := by
   unfold Rd.push
   rw [if_pos Zz21]
  rw [e] at hp
  exact .inl ⟨by omega, _, PM_fail hp (by show i ≤ _; omega) Zz28 (show (7 : Int) ≠ 0 by decide)⟩
def Nx (l : List S48) (j : Nat) : Prop := sg l j ⟨#[40]⟩ = false ∧ sg l j ⟨#[126]⟩ = false
theorem Nx_of {l : List S48} {j : Nat} {c : UInt8} (h : isT l j (3, [c])) (hc : c ≠ 40 ∧ c ≠ 126) : Nx l j :=
 ⟨by rw [sg_isB h]; simp [hc.1], by rw [sg_isB h]; simp [hc.2]⟩
theorem Nx_end {l : List S48} {j : Nat} (h : l.length ≤ j) : Nx l j := ⟨sg_end h _, sg_end h _⟩
def PartP (two : Bool) (ns : List S38) (ts : List TT) (d : Nat) : Prop := ∀ (l : List S48) (i : Nat) (out : List S38) (q : List S51) (f : S38) (o : ByteArray), At l i (brT two ts) → Nx l (i + (brT two ts).length) → l.length ≤ 1000000 → i ≤ l.length → out.length + ns.length ≤ 1000000 → q.length ≤ 40 →
 OKr l q (brD two d) ⟨i, out, q ++ [⟨f, o⟩], 0⟩ (WM l ⟨i + (brT two ts).length, out ++ ns, q ++ [⟨f, o⟩], 0⟩)
def ExprP (k : Int) (ns : List S38) (ts : List TT) (d : Nat) : Prop := ∀ (l : List S48) (i : Nat) (out : List S38) (q : List S51) (f : S38), At l i ts → Nx l (i + ts.length) → l.length ≤ 1000000 → i ≤ l.length → out.length + ns.length ≤ 1000000 → q.length ≤ 40 →
 OKr l q d ⟨i, out, q ++ [⟨f, B []⟩], 0⟩ (TM l q ⟨f, B (opOf k)⟩ ⟨i + ts.length, out ++ ns, q ++ [⟨f, B (opOf k)⟩], 0⟩)
def ArgsP (m : Nat) (ns : List S38) (ts : List TT) (d : Nat) : Prop := ∀ (l : List S48) (i : Nat) (out : List S38) (q : List S51) (n : ByteArray) (c : Nat), At l i ts → Nx l (i + ts.length) → l.length ≤ 1000000 → i ≤ l.length → out.length + ns.length ≤ 1000000 → q.length ≤ 40 → q ≠ [] → 1 ≤ c → c + m ≤ 9 →
 ∃ o, OKr l q d ⟨i, out, q ++ [⟨⟨3, n, (c : Int)⟩, B []⟩], 0⟩ (TM l q ⟨⟨3, n, ((c + m : Nat) : Int) - 1⟩, o⟩ ⟨i + ts.length, out ++ ns, q ++ [⟨⟨3, n, ((c + m : Nat) : Int) - 1⟩, o⟩], 0⟩)
theorem joined_no (s : Rd) : s.joined (B []) = s := by
 unfold Rd.joined
 rw [B_toList, if_neg (by decide), if_neg (by decide)]
theorem joined_two (s : Rd) (u : Bool) : s.joined (B [s2 u]) = s.emit (nd (k2 u) [] 2) := by
 unfold Rd.joined
 rw [B_toList]
 cases u
 ·rw [if_neg (by decide), if_pos (by decide)]; rfl
 ·rw [if_pos (by decide)]; rfl
theorem opOf_no {k : Int} (h : isTwo k = false) : opOf k = [] := by
 simp only [isTwo, Bool.or_eq_false_iff, beq_eq_false_iff_ne] at h
 unfold opOf
 rw [if_neg h.1, if_neg h.2]
theorem opOf_two (u : Bool) : opOf (k2 u) = [s2 u] := by cases u <;> rfl
theorem isTwo_two (u : Bool) : isTwo (k2 u) = true := by cases u <;> rfl
theorem expr_of_part {k : Int} {ns : List S38} {ts : List TT} {d : Nat} (hk : isTwo k = false) (h : PartP (isTwo k) ns ts d) : ExprP k ns ts d := by
 intro l i out q f ha hx hl hi ho hq
 rw [hk] at h
 have hle := At_le ts i ha hi
 refine (h l i out q f (B []) ha hx hl hi ho hq).imp (Nat.le_refl _) fun r hr => ?_
 rw [opOf_no hk] at hr
 refine WM_of (q := q) (t := ⟨f, B []⟩) rfl (by show i + ts.length ≤ _; omega) Zz22 (by omega) ?_
 rw [joined_no]
 exact hr
theorem brackets {k : Int} {ns : List S38} {ts : List TT} {d : Nat} (h : ExprP k ns ts d) : PartP true ns ts d := by
 intro l i out q f o ha _ hl hi ho hq
 have ha' : isT l i (3, [40]) ∧ At l (i + 1) (ts ++ [(3, [41])]) := ha
 rw [At_append] at ha'
 have h41 : isT l (i + 1 + ts.length) (3, [41]) := ha'.2.2.1
 refine push_ok (n := ⟨-1, B [], 0⟩) (far := 0) ⟨0, fun k _ => part_open ha'.1 k⟩ (by omega) (by omega) fun hq' => ?_
 have hlt := isT_lt h41
 refine (h l (i + 1) out (q ++ [⟨f, o⟩]) ⟨-1, B [], 0⟩ ha'.2.1 (Nx_of h41 (by decide)) hl (by have := isT_lt ha'.1; omega) ho (by simp; omega)).imp (Nat.le_refl _) fun r hr => ?_
 refine TM_close h41 (by simp) ?_
 rw [if_pos rfl]
 have e : i + (brT true ts).length = i + 1 + ts.length + 1 := by
  show i + ((3, [40]) :: (ts ++ [(3, [41])]) : List TT).length = _
  simp only [List.length_cons, List.length_append, List.length_nil]; omega
 rw [e] at hr
 exact hr
theorem part_of_expr {k : Int} {ns : List S38} {ts : List TT} {d : Nat} (hk : isTwo k = true) (h : ExprP k ns ts d) : PartP (isTwo k) ns ts d := by
 rw [hk]; exact brackets h
theorem atom {ts : List TT} {n : S38} {k : Int} (hk : isTwo k = false) (hts : ts.length = 1) (hp : ∀ (l : List S48) (i : Nat) (out : List S38) (st : List S51), At l i ts → Nx l (i + 1) → ∀ j, Rd.part j l ⟨i, out, st, 0⟩ = some (⟨i + 1, out ++ [n], st, 0⟩, true)) : PartP (isTwo k) [n] ts 0 := by
 rw [hk]
 intro l i out q f o ha hx hl hi ho hq
 have ha' : At l i ts := ha
 have hx' : Nx l (i + ts.length) := hx
 rw [hts] at hx'
 refine .inr fun r hr => PM_part ⟨0, fun j _ => hp l i out (q ++ [⟨f, o⟩]) ha' hx' j⟩ (by show i ≤ _; omega) Zz28 ?_
 have e : (brT false ts).length = 1 := hts
 rw [e] at hr
 exact hr
def Cl : Option Nat → Int → List S38 → List TT → Nat → Prop
 | none, k, ns, ts, d => PartP (isTwo k) ns ts d ∧ ExprP k ns ts d
 | some m, _, ns, ts, d => ArgsP m ns ts d
theorem two_ok (u : Bool) {ka kb : Int} {na nb : List S38} {ta tb : List TT} {da db : Nat} (ia : PartP (isTwo ka) na ta da ∧ ExprP ka na ta da) (ib : PartP (isTwo kb) nb tb db) :
  ExprP (k2 u) (na ++ nb ++ [nd (k2 u) [] 2]) (brT (oddL u ka) ta ++ (3, [s2 u]) :: brT (isTwo kb) tb) (max (brD (oddL u ka) da) (brD (isTwo kb) db)) := by
 intro l i out q f ha hx hl hi ho hq
 rw [At_append] at ha
 obtain ⟨h1, h2, h3⟩ := ha
 have hlt := isT_lt h2
 have hx1 : Nx l (i + (brT (oddL u ka) ta).length) := Nx_of h2 (by cases u <;> decide)
 have e1 : i + (brT (oddL u ka) ta ++ (3, [s2 u]) :: brT (isTwo kb) tb).length = i + (brT (oddL u ka) ta).length + 1 + (brT (isTwo kb) tb).length := by
  simp only [List.length_append, List.length_cons]; omega
 rw [e1] at hx
 simp only [List.length_append, List.length_cons, List.length_nil] at ho
 have h3le := At_le _ _ h3 (by omega)
 have left : ∃ o1, (o1 = B [] ∨ o1 = B [s2 u]) ∧ OKr l q (brD (oddL u ka) da) ⟨i, out, q ++ [⟨f, B []⟩], 0⟩ (TM l q ⟨f, o1⟩ ⟨i + (brT (oddL u ka) ta).length, out ++ na, q ++ [⟨f, o1⟩], 0⟩) := by
  cases hodd : oddL u ka with
  | false =>
   rw [hodd] at h1 hx1
   refine ⟨B (opOf ka), ?_, ia.2 l i out q f h1 hx1 hl hi (by omega) hq⟩
   cases ht : isTwo ka with
   | false => left; rw [opOf_no ht]
   | true =>
    right
    have : ka = k2 u := by simpa [oddL, ht] using hodd
    rw [this, opOf_two]
  | true =>
   rw [hodd] at h1 hx1
   refine ⟨B [], .inl rfl, (brackets ia.2 l i out q f (B []) h1 hx1 hl hi (by omega) hq).imp (Nat.le_refl _) fun r hr => ?_⟩
   refine WM_of (q := q) (t := ⟨f, B []⟩) rfl (by rw [hodd] at hlt; show i + _ ≤ _; omega) Zz22 (by omega) ?_
   rw [joined_no]
   exact hr
 obtain ⟨o1, ho1, left⟩ := left
 refine left.comp (q' := q) (d' := brD (isTwo kb) db) (s' := ⟨i + (brT (oddL u ka) ta).length + 1, out ++ na, q ++ [⟨f, B [s2 u]⟩], 0⟩) ?_ (Nat.le_max_left _ _) (by have := Nat.le_max_right (brD (oddL u ka) da) (brD (isTwo kb) db); omega) fun r hr => TM_op u h2 ho1 rfl hr
 refine (ib l _ (out ++ na) q f (B [s2 u]) h3 hx hl (by omega) Zz22 hq).imp (Nat.le_refl _) fun r hr => ?_
 refine WM_of (q := q) (t := ⟨f, B [s2 u]⟩) rfl (by show i + _ + 1 + _ ≤ _; omega) Zz22 (by omega) ?_
 rw [joined_two]
 rw [opOf_two] at hr
 rw [e1] at hr
 have e2 : out ++ (na ++ nb ++ [nd (k2 u) [] 2]) = out ++ na ++ nb ++ [nd (k2 u) [] 2] := by simp only [List.append_assoc]
 rw [e2] at hr
 exact hr
theorem args_pos {mo : Option Nat} {k : Int} {ns : List S38} {ts : List TT} {x : Bytes} {d : Nat} (h : Ex mo k ns ts x d) : ∀ m, mo = some m → 1 ≤ m := by
 induction h with
 | arg1 a _ => intro m hm; cases hm; omega
 | argN a b _ _ => intro m hm; cases hm; omega
 | _ => intro m hm; cases hm
theorem arg1_ok {k : Int} {ns : List S38} {ts : List TT} {d : Nat} (h : ExprP k ns ts d) : ArgsP 1 ns ts d := by
 intro l i out q n c ha hx hl hi ho hq hq0 hc hc9
 refine ⟨B (opOf k), ?_⟩
 rw [show ((c + 1 : Nat) : Int) - 1 = (c : Int) from by omega]
 exact h l i out q ⟨3, n, (c : Int)⟩ ha hx hl hi ho hq
theorem argN_ok {m : Nat} {k : Int} {ns ns' : List S38} {ts ts' : List TT} {d d' : Nat} (h : ArgsP m ns ts d) (h' : ExprP k ns' ts' d') : ArgsP (m + 1) (ns ++ ns') (ts ++ (3, [44]) :: ts') (max d d') := by
 intro l i out q n c ha hx hl hi ho hq hq0 hc hc9
 rw [At_append] at ha
 obtain ⟨h1, h2, h3⟩ := ha
 have hlt := isT_lt h2
 have e1 : i + (ts ++ (3, [44]) :: ts').length = i + ts.length + 1 + ts'.length := by
  simp only [List.length_append, List.length_cons]; omega
 rw [e1] at hx
 simp only [List.length_append] at ho
 obtain ⟨o, left⟩ := h l i out q n c h1 (Nx_of h2 (by decide)) hl hi (by omega) hq hq0 hc (by omega)
 refine ⟨B (opOf k), left.comp (q' := q) (d' := d') (s' := ⟨i + ts.length + 1, out ++ ns, q ++ [⟨⟨3, n, ((c + m : Nat) : Int)⟩, B []⟩], 0⟩) ?_ (Nat.le_max_left _ _) (by have := Nat.le_max_right d d'; omega) fun r hr => ?_⟩
 ·refine (h' l _ (out ++ ns) q ⟨3, n, ((c + m : Nat) : Int)⟩ h3 hx hl (by omega) Zz22 hq).imp (Nat.le_refl _) fun r hr => ?_
  rw [e1, show ((c + (m + 1) : Nat) : Int) - 1 = ((c + m : Nat) : Int) from by omega, ← List.append_assoc] at hr
  exact hr
 ·refine TM_comma h2 hq0 rfl (by show ((c + m : Nat) : Int) - 1 ≠ 8; omega) rfl ?_
  have e2 : wrap64 (((c + m : Nat) : Int) - 1 + 1) = ((c + m : Nat) : Int) := by unfold wrap64; omega
  show PM l ⟨i + ts.length + 1, out ++ ns, q ++ [⟨⟨3, n, wrap64 (((c + m : Nat) : Int) - 1 + 1)⟩, B []⟩], 0⟩ r
  rw [e2]
  exact hr
theorem call_ok {n : Bytes} (hn : conOk n = true) {m : Nat} (hm : m ≤ 8) {ns : List S38} {ts : List TT} {d : Nat} (h : ArgsP m ns ts d) (hp : ∀ j, some m = some j → 1 ≤ j) : PartP (isTwo 3) (ns ++ [nd 3 n m]) ((1, n) :: (3, [40]) :: (ts ++ [(3, [41])])) (d + 1) := by
 have hm1 := hp m rfl
 rw [show isTwo 3 = false from rfl]
 intro l i out q f o ha hx hl hi ho hq
 have ha' : isT l i (1, n) ∧ isT l (i + 1) (3, [40]) ∧ At l (i + 1 + 1) (ts ++ [(3, [41])]) := ha
 rw [At_append] at ha'
 have h41 : isT l (i + 1 + 1 + ts.length) (3, [41]) := ha'.2.2.2.1
 have hlt := isT_lt h41
 simp only [List.length_append, List.length_cons, List.length_nil] at ho
 refine push_ok (n := ⟨3, B n, 1⟩) (far := 1) (d := d) ⟨0, fun k _ => ?_⟩ (by omega) (by omega) fun hq' => ?_
 ·show Rd.part k l _ = _
  rw [part_name (s := (⟨i, out, q ++ [(⟨f, o⟩ : S51)], 0⟩ : Rd)) ha'.1 k, IsVar_link, con_not_var hn, IsCon_link, hn]
  have h40 : sg l (i + 1) ⟨#[40]⟩ = true := by rw [sg_isB ha'.2.1]; simp
  simp only [Option.bind_some, Bool.false_eq_true, if_false, if_true, h40]
 ·obtain ⟨o2, hA⟩ := h l (i + 1 + 1) out (q ++ [⟨f, o⟩]) (B n) 1 ha'.2.2.1 (Nx_of h41 (by decide)) hl (by omega) (by omega) (by simp; omega) (by simp) (by omega) (by omega)
  refine hA.imp (Nat.le_refl _) fun r hr => ?_
  refine TM_close h41 (by simp) ?_
  rw [if_neg (show ¬ ((3 : Int) = -1) by decide)]
  have e : i + (brT false ((1, n) :: (3, [40]) :: (ts ++ [(3, [41])]))).length = i + 1 + 1 + ts.length + 1 := by
   show i + ((1, n) :: (3, [40]) :: (ts ++ [(3, [41])]) : List TT).length = _
   simp only [List.length_cons, List.length_append, List.length_nil]; omega
  rw [e, ← List.append_assoc] at hr
  have e3 : ((1 + m : Nat) : Int) - 1 = (m : Int) := by omega
  show WM l ⟨i + 1 + 1 + ts.length + 1, out ++ ns ++ [⟨3, B n, ((1 + m : Nat) : Int) - 1⟩], q ++ [⟨f, o⟩], 0⟩ r
  rw [e3]
  exact hr
theorem num_fg (p : Nat) (h1 : 1 ≤ p) (h8 : p ≤ 8) : num [fg p] = ((p : Int), true) := by
 have : ∀ p : Fin 9, 1 ≤ p.1 → num [fg p.1] = ((p.1 : Int), true) := by decide +kernel
 exact this ⟨p, by omega⟩ h1
theorem proj_ok {n : Bytes} (hn : conOk n = true) {p : Nat} (h1 : 1 ≤ p) (h8 : p ≤ 8) {k : Int} {ns : List S38} {ts : List TT} {d : Nat} (h : ExprP k ns ts d) : PartP (isTwo 6) (ns ++ [nd 6 n p]) ((1, n) :: (3, [126]) :: (2, [fg p]) :: (3, [40]) :: (ts ++ [(3, [41])])) (d + 1) := by
 rw [show isTwo 6 = false from rfl]
 intro l i out q f o ha hx hl hi ho hq
 have ha' : isT l i (1, n) ∧ isT l (i + 1) (3, [126]) ∧ isT l (i + 1 + 1) (2, [fg p]) ∧ isT l (i + 1 + 1 + 1) (3, [40]) ∧ At l (i + 1 + 1 + 1 + 1) (ts ++ [(3, [41])]) := ha
 rw [At_append] at ha'
 have h41 : isT l (i + 1 + 1 + 1 + 1 + ts.length) (3, [41]) := ha'.2.2.2.2.2.1
 have hlt := isT_lt h41
 simp only [List.length_append, List.length_cons, List.length_nil] at ho
 refine push_ok (n := ⟨6, B n, p⟩) (far := 3) (d := d) ?_ (by omega) (by omega) fun hq' => ?_
 ·have hN := Number_link [fg p] (by simp)
  rw [num_fg p h1 h8] at hN
  obtain ⟨K, hN⟩ := hN
  refine ⟨K, fun k hk => ?_⟩
  show Rd.part k l _ = _
  rw [part_name (s := (⟨i, out, q ++ [(⟨f, o⟩ : S51)], 0⟩ : Rd)) ha'.1 k, IsVar_link, con_not_var hn, IsCon_link, hn]
  have h40 : sg l (i + 1) ⟨#[40]⟩ = false := by rw [sg_isB ha'.2.1]; simp
  have h126 : sg l (i + 1) ⟨#[126]⟩ = true := by rw [sg_isB ha'.2.1]; simp
  have h43 : sg l (i + 3) ⟨#[40]⟩ = true := by rw [sg_isB (i := i + 3) ha'.2.2.2.1]; simp
  simp only [Option.bind_some, Bool.false_eq_true, if_false, if_true, h40, h126]
  obtain ⟨x, x1, x2, x3⟩ := ha'.2.2.1
  have x2' : x.f0 = 2 := x2
  have x3' : x.f1 = B [fg p] := x3
  have hN' : lex_Number.f k (B [fg p]) = some ((p : Int), true) := hN k hk
  unfold Rd.proj
  rw [show (⟨i, out, q ++ [⟨f, o⟩], 0⟩ : Rd).i + 2 = i + 1 + 1 from rfl, x1]
  simp only [x2', x3', if_true, hN', Option.bind_some, h43]
  rw [if_neg (by omega), if_neg (by omega)]
  rfl
 ·refine (h l (i + 1 + 1 + 1 + 1) out (q ++ [⟨f, o⟩]) ⟨6, B n, p⟩ ha'.2.2.2.2.1 (Nx_of h41 (by decide)) hl (by omega) (by omega) (by simp; omega)).imp (Nat.le_refl _) fun r hr => ?_
  refine TM_close h41 (by simp) ?_
  rw [if_neg (show ¬ ((6 : Int) = -1) by decide)]
  have e : i + (brT false ((1, n) :: (3, [126]) :: (2, [fg p]) :: (3, [40]) :: (ts ++ [(3, [41])]))).length = i + 1 + 1 + 1 + 1 + ts.length + 1 := by
   show i + ((1, n) :: (3, [126]) :: (2, [fg p]) :: (3, [40]) :: (ts ++ [(3, [41])]) : List TT).length = _
   simp only [List.length_cons, List.length_append, List.length_nil]; omega
  rw [e, ← List.append_assoc] at hr
  exact hr
theorem read_all {mo : Option Nat} {k : Int} {ns : List S38} {ts : List TT} {x : Bytes} {d : Nat} (h : Ex mo k ns ts x d) : Cl mo k ns ts d := by
 induction h with
 | zero =>
  have : PartP (isTwo 0) [nd 0 [] 0] [(2, [48])] 0 := atom rfl rfl fun l i out st ha hx j => part_num (s := ⟨i, out, st, 0⟩) 48 0 (.inl ⟨rfl, rfl⟩) ha.1 j
  exact ⟨this, expr_of_part rfl this⟩
 | one =>
  have : PartP (isTwo 1) [nd 1 [] 0] [(2, [49])] 0 := atom rfl rfl fun l i out st ha hx j => part_num (s := ⟨i, out, st, 0⟩) 49 1 (.inr ⟨rfl, rfl⟩) ha.1 j
  exact ⟨this, expr_of_part rfl this⟩
 | var n hn =>
  have : PartP (isTwo 2) [nd 2 n 0] [(1, n)] 0 := atom rfl rfl fun l i out st ha hx j => by
   rw [part_name (s := ⟨i, out, st, 0⟩) ha.1 j, IsVar_link, hn]; rfl
  exact ⟨this, expr_of_part rfl this⟩
 | con n hn =>
  have : PartP (isTwo 3) [nd 3 n 0] [(1, n)] 0 := atom rfl rfl fun l i out st ha hx j => by
   rw [part_name (s := ⟨i, out, st, 0⟩) ha.1 j, IsVar_link, con_not_var hn, IsCon_link, hn]
   simp only [Option.bind_some, Bool.false_eq_true, if_false, if_true, hx.1, hx.2]
   rfl
  exact ⟨this, expr_of_part rfl this⟩
 | call n hn hm a ia =>
  have := call_ok hn hm ia (args_pos a)
  exact ⟨this, expr_of_part rfl this⟩
 | proj n hn h1 h8 a ia =>
  have := proj_ok hn h1 h8 ia.2
  exact ⟨this, expr_of_part rfl this⟩
 | two u a b ia ib =>
  have := two_ok u ia ib.1
  exact ⟨part_of_expr (isTwo_two u) this, this⟩
 | arg1 a ia => exact arg1_ok ia.2
 | argN a b ia ib => exact argN_ok ia ib.2
def key (t : Tk) : TT := (t.kind, t.text)
def Gd (y : Bytes) : Prop := ∀ a, y.head? = some a → inner a = false
def Sc (x : Bytes) (ts : List TT) : Prop := ∀ (y : Bytes) (p : Nat), Gd y → ∃ m : List Tk, m.map key = ts ∧ scan (x ++ y) 0 p = (match scan y 0 (p + x.length) with | .error e => .error e | .ok z => .ok (m ++ z))
theorem Sc.app {x x' : Bytes} {ts ts' : List TT} (h : Sc x ts) (h' : Sc x' ts') (hg : Gd x' ∧ x' ≠ []) : Sc (x ++ x') (ts ++ ts') := by
 intro y p hy
 obtain ⟨m, hm, e⟩ := h (x' ++ y) p (fun a ha => hg.1 a (by
  obtain ⟨c, r, rfl⟩ := List.exists_cons_of_ne_nil hg.2
  exact ha))
 obtain ⟨m', hm', e'⟩ := h' y (p + x.length) hy
 refine ⟨m ++ m', by rw [List.map_append, hm, hm'], ?_⟩
 rw [List.append_assoc, e, e', List.length_append, ← Nat.add_assoc]
 cases scan y 0 (p + x.length + x'.length) with
 | error e => rfl
 | ok z => simp
def sgl (c : UInt8) : Bool := c == 40 || c == 41 || c == 44 || c == 124 || c == 38 || c == 126
theorem sgl_is {c : UInt8} (h : sgl c = true) : letter c = false ∧ fig c = false ∧ blk c = false ∧ inner c = false ∧ signB c = true ∧ ¬ (c.toNat = 60 ∨ c.toNat = 58) := by
 have : ∀ c : UInt8, (!sgl c || (!letter c && !fig c && !blk c && !inner c && signB c && !(decide (c.toNat = 60) || decide (c.toNat = 58)))) = true := all_bytes Zz19
 have := this c
 rw [h] at this
 simpa [and_assoc] using this
theorem tk1_sign {c : UInt8} (h : sgl c = true) (r : Bytes) : tk1 (c :: r) = some (3, 1) := by
 obtain ⟨h1, h2, _, _, h5, h6⟩ := sgl_is h
 simp only [tk1, h1, h2, h5, Bool.false_eq_true, if_false, if_true]
 rw [if_neg (fun e => h6 e.1)]
theorem scan_sign {c : UInt8} (h : sgl c = true) (r : Bytes) (p : Nat) : scan (c :: r) 0 p = (match scan r 0 (p + 1) with | .error e => .error e | .ok z => .ok (⟨3, [c], p⟩ :: z)) := by
 rw [scan_tok (c :: r) p 3 1 (fun a ha => by cases ha; exact (sgl_is h).2.2.1) (tk1_sign h r)]
 rfl
theorem Sc.sign {c : UInt8} (h : sgl c = true) {x : Bytes} {ts : List TT} (hx : Sc x ts) : Sc (c :: x) ((3, [c]) :: ts) := by
 intro y p hy
 obtain ⟨m, hm, e⟩ := hx y (p + 1) hy
 refine ⟨⟨3, [c], p⟩ :: m, by rw [List.map_cons, hm]; rfl, ?_⟩
 rw [List.cons_append, scan_sign h, e, List.length_cons, show p + (x.length + 1) = p + 1 + x.length from by omega]
 cases scan y 0 (p + 1 + x.length) <;> rfl
theorem Sc.nil : Sc [] [] := by
 intro y p hy
 refine ⟨[], rfl, ?_⟩
 rw [List.nil_append, List.length_nil, Nat.add_zero]
 cases scan y 0 p <;> rfl
theorem Sc.one {c : UInt8} (h : sgl c = true) : Sc [c] [(3, [c])] := Sc.sign h Sc.nil
theorem Sc.tok {x : Bytes} {k : Nat} (hb : ∀ c, x.head? = some c → blk c = false) (hx : x ≠ []) (h : ∀ y, Gd y → tk1 (x ++ y) = some (k, x.length)) : Sc x [(k, x)] := by
 intro y p hy
 refine ⟨[⟨k, x, p⟩], rfl, ?_⟩
 rw [scan_tok (x ++ y) p k x.length (fun c hc => hb c (by
  obtain ⟨a, r, rfl⟩ := List.exists_cons_of_ne_nil hx
  exact hc)) (h y hy), List.drop_left, List.take_left']
 ·cases scan y 0 (p + x.length) <;> rfl
 ·rfl
theorem fig_inner {c : UInt8} (h : inner c = false) : fig c = false := by
 simp only [inner, Bool.or_eq_false_iff] at h
 exact h.1.2
theorem Sc.figure {c : UInt8} (h : fig c = true) : Sc [c] [(2, [c])] := by
 have hc : letter c = false ∧ blk c = false := by
  have : ∀ c : UInt8, (!fig c || (!letter c && !blk c)) = true := all_bytes Zz19
  have := this c
  rw [h] at this
  simpa using this
 refine Sc.tok (fun a ha => by cases ha; exact hc.2) (by simp) fun y hy => ?_
 show tk1 (c :: y) = some (2, 1)
 have ht : y.takeWhile fig = [] := by
  cases y with
  | nil => rfl
  | cons a r => rw [List.takeWhile_cons, if_neg]; rw [fig_inner (hy a rfl)]; decide
 simp only [tk1, hc.1, h, ht, Bool.false_eq_true, if_false, if_true]
 rw [if_pos (by simp [numOk, h])]
 rfl
theorem name_head {n : Bytes} (h : varOk n = true ∨ conOk n = true) : ∃ c r, n = c :: r ∧ letter c = true ∧ blk c = false ∧ r.all inner = true := by
 have hv : ∃ c r, n = c :: r ∧ ((65 ≤ c.toNat ∧ c.toNat ≤ 90) ∨ (97 ≤ c.toNat ∧ c.toNat ≤ 122)) ∧ n.all inner = true := by
  cases n with
  | nil => rcases h with h | h <;> simp [varOk, conOk, nameOk] at h
  | cons c r =>
   refine ⟨c, r, rfl, ?_⟩
   rcases h with h | h
   ·simp only [varOk, nameOk, Bool.and_eq_true, decide_eq_true_eq] at h
    exact ⟨.inl h.1.2, h.2⟩
   ·simp only [conOk, nameOk, Bool.and_eq_true, decide_eq_true_eq] at h
    exact ⟨.inr h.1.2, h.2⟩
 obtain ⟨c, r, rfl, hc, ha⟩ := hv
 rw [List.all_cons, Bool.and_eq_true] at ha
 refine ⟨c, r, rfl, ?_, ?_, ha.2⟩
 ·simp only [letter, Bool.or_eq_true, Bool.and_eq_true, decide_eq_true_eq]; omega
 ·simp only [blk, Bool.or_eq_false_iff, decide_eq_false_iff_not]; omega
theorem takeWhile_app_all {p : UInt8 → Bool} : ∀ (r y : Bytes), r.all p = true → (∀ a, y.head? = some a → p a = false) → (r ++ y).takeWhile p = r
 | [], y, _, hy => by
  cases y with
  | nil => rfl
  | cons a t => rw [List.nil_append, List.takeWhile_cons, hy a rfl]; rfl
 | c :: r, y, h, hy => by
  rw [List.all_cons, Bool.and_eq_true] at h
  rw [List.cons_append, List.takeWhile_cons, if_pos h.1, takeWhile_app_all r y h.2 hy]
theorem Sc.name {n : Bytes} (h : varOk n = true ∨ conOk n = true) : Sc n [(1, n)] := by
 obtain ⟨c, r, rfl, h1, h2, h3⟩ := name_head h
 refine Sc.tok (fun a ha => by cases ha; exact h2) (by simp) fun y hy => ?_
 rw [List.cons_append]
 simp only [tk1, h1, if_true]
 rw [takeWhile_app_all r y h3 hy, List.length_cons, Nat.add_comm]
theorem Gd_sign {c : UInt8} (h : sgl c = true) (r : Bytes) : Gd (c :: r) ∧ (c :: r) ≠ [] := ⟨fun a ha => by cases ha; exact (sgl_is h).2.2.2.1, by simp⟩
theorem s2_sgl (u : Bool) : sgl (s2 u) = true := by cases u <;> decide
theorem fg_fig {p : Nat} (h1 : 1 ≤ p) (h8 : p ≤ 8) : fig (fg p) = true := by
 have : ∀ p : Fin 9, fig (fg p.1) = true := by decide +kernel
 exact this ⟨p, by omega⟩
theorem Sc.br {b : Bool} {x : Bytes} {ts : List TT} (h : Sc x ts) : Sc (brX b x) (brT b ts) := by
 cases b
 ·exact h
 ·exact Sc.sign (by decide) (Sc.app h (Sc.one (by decide)) (Gd_sign (by decide) _))
theorem text_scan {mo : Option Nat} {k : Int} {ns : List S38} {ts : List TT} {x : Bytes} {d : Nat} (h : Ex mo k ns ts x d) : Sc x ts := by
 induction h with
 | zero => exact Sc.figure (by decide)
 | one => exact Sc.figure (by decide)
 | var n hn => exact Sc.name (.inl hn)
 | con n hn => exact Sc.name (.inr hn)
 | call n hn hm a ia => exact Sc.app (ts := [(1, n)]) (Sc.name (.inr hn)) (Sc.sign (by decide) (Sc.app ia (Sc.one (by decide)) (Gd_sign (by decide) _))) (Gd_sign (by decide) _)
 | proj n hn h1 h8 a ia =>
  refine Sc.app (ts := [(1, n)]) (Sc.name (.inr hn)) (Sc.sign (by decide) ?_) (Gd_sign (by decide) _)
  exact Sc.app (x := [fg _]) (ts := [(2, [fg _])]) (Sc.figure (fg_fig h1 h8)) (Sc.sign (by decide) (Sc.app ia (Sc.one (by decide)) (Gd_sign (by decide) _))) (Gd_sign (by decide) _)
 | two u a b ia ib => exact Sc.app ia.br (Sc.sign (s2_sgl u) ib.br) (Gd_sign (s2_sgl u) _)
 | arg1 a ia => exact ia
 | argN a b ia ib => exact Sc.app ia (Sc.sign (by decide) ib) (Gd_sign (by decide) _)
theorem text_toks {k : Int} {ns : List S38} {ts : List TT} {x : Bytes} {d : Nat} (h : Sc x ts) (hx : x.length ≤ 2000) : ∃ l : List S48, toksR x = (l, 0, 0) ∧ l.length = ts.length ∧ At l 0 ts := by
 obtain ⟨m, hm, e⟩ := h [] 0 (fun a ha => by cases ha)
 rw [List.append_nil] at e
 have e' : scan x 0 0 = .ok m := by rw [e]; simp [scan]
 refine ⟨m.map enc, ?_, by rw [List.length_map, ← hm, List.length_map], ?_⟩
 ·unfold toksR
  rw [if_neg (by omega), e']
  rfl
 ·have : ∀ (m : List Tk) (p : List S48), At (p ++ m.map enc) p.length (m.map key) := by
   intro m
   induction m with
   | nil => intro p; trivial
   | cons t r ih =>
    intro p
    refine ⟨⟨enc t, by simp, rfl, rfl⟩, ?_⟩
    have := ih (p ++ [enc t])
    rw [List.append_assoc, List.length_append] at this
    exact this
  rw [← hm]
  exact this m []
def opn : Int → Bytes → Option Int
 | c, [] => some c
 | c, a :: r => if a = 40 then (if c + 1 > 40 then none else opn (c + 1) r) else if a = 41 then opn (c - 1) r else opn c r
def Op (x : Bytes) (d : Nat) : Prop := ∀ (c : Int) (y : Bytes), c ≤ 40 → opn c (x ++ y) = if c + (d : Int) ≤ 40 then opn c y else none
theorem Op.app {x x' : Bytes} {d d' : Nat} (h : Op x d) (h' : Op x' d') : Op (x ++ x') (max d d') := by
 intro c y hc
 rw [List.append_assoc, h c _ hc]
 by_cases h1 : c + (d : Int) ≤ 40
 ·rw [if_pos h1, h' c y hc]
  by_cases h2 : c + (d' : Int) ≤ 40
  ·rw [if_pos h2, if_pos (by omega)]
  ·rw [if_neg h2, if_neg (by omega)]
 ·rw [if_neg h1, if_neg (by omega)]
theorem Op.byte {a : UInt8} (h : a ≠ 40 ∧ a ≠ 41) {x : Bytes} {d : Nat} (hx : Op x d) : Op (a :: x) d := by
 intro c y hc
 rw [List.cons_append, opn, if_neg h.1, if_neg h.2]
 exact hx c y hc
theorem Op.nil : Op [] 0 := by
 intro c y hc
 rw [if_pos (by omega)]; rfl
theorem Op.plain : ∀ (x : Bytes), (∀ a ∈ x, a ≠ 40 ∧ a ≠ 41) → Op x 0
 | [], _ => Op.nil
 | a :: x, h => Op.byte (h a (by simp)) (Op.plain x fun b hb => h b (by simp [hb]))
theorem Op.wrap {x : Bytes} {d : Nat} (h : Op x d) : Op (40 :: (x ++ [41])) (d + 1) := by
 intro c y hc
 rw [List.cons_append, opn, if_pos rfl]
 by_cases h1 : c + 1 > 40
 ·rw [if_pos h1, if_neg (by omega)]
 ·rw [if_neg h1, List.append_assoc, h (c + 1) _ (by omega)]
  by_cases h2 : c + 1 + (d : Int) ≤ 40
  ·rw [if_pos h2, if_pos (by omega)]
   show (if (41 : UInt8) = 40 then _ else if (41 : UInt8) = 41 then opn (c + 1 - 1) y else _) = _
   rw [if_neg (by decide), if_pos rfl, Int.add_sub_cancel]
  ·rw [if_neg h2, if_neg (by omega)]
theorem Op.br {b : Bool} {x : Bytes} {d : Nat} (h : Op x d) : Op (brX b x) (brD b d) := by
 cases b
 ·exact h
 ·exact h.wrap
theorem Op.name {n : Bytes} (h : varOk n = true ∨ conOk n = true) : Op n 0 := by
 obtain ⟨c, r, rfl, h1, h2, h3⟩ := name_head h
 have hb : ∀ a : UInt8, (!inner a || !(a == 40) && !(a == 41)) = true := all_bytes Zz19
 have hi : ∀ a : UInt8, inner a = true → a ≠ 40 ∧ a ≠ 41 := by
  intro a ha
  have := hb a
  rw [ha] at this
  simpa using this
 refine Op.plain _ fun a ha => ?_
 rcases List.mem_cons.1 ha with rfl | ha
 ·exact hi _ (by simp [inner, h1])
 ·exact hi a (List.all_eq_true.1 h3 a ha)
theorem text_open {mo : Option Nat} {k : Int} {ns : List S38} {ts : List TT} {x : Bytes} {d : Nat} (h : Ex mo k ns ts x d) : Op x d := by
 induction h with
 | zero => exact Op.plain _ (by decide)
 | one => exact Op.plain _ (by decide)
 | var n hn => exact Op.name (.inl hn)
 | con n hn => exact Op.name (.inr hn)
 | call n hn hm a ia =>
  have := (Op.name (.inr hn)).app ia.wrap
  rwa [Nat.zero_max] at this
 | proj n hn h1 h8 a ia =>
  have hf : ∀ p : Fin 9, fg p.1 ≠ 40 ∧ fg p.1 ≠ 41 := by decide +kernel
  have := (Op.name (.inr hn)).app (Op.byte (a := 126) (by decide) (Op.byte (hf ⟨_, Nat.lt_succ_of_le h8⟩) ia.wrap))
  rwa [Nat.zero_max] at this
 | two u a b ia ib => exact ia.br.app (Op.byte (by cases u <;> decide) ib.br)
 | arg1 a ia => exact ia
 | argN a b ia ib => exact ia.app (Op.byte (by decide) ib)
theorem text_deep {mo : Option Nat} {k : Int} {ns : List S38} {ts : List TT} {x : Bytes} {d : Nat} (h : Ex mo k ns ts x d) : (opn 0 x).isSome = decide (d ≤ 40) := by
 have := text_open h 0 [] (by omega)
 rw [List.append_nil, Int.zero_add] at this
 rw [this]
 by_cases h : d ≤ 40
 ·rw [if_pos (by omega)]; simp [opn, h]
 ·rw [if_neg (by omega)]; simp [h]
def much (l : List S38) : Nat := (l.map fun n => 1 + n.f1.size).sum
theorem much_app (a b : List S38) : much (a ++ b) = much a + much b := by simp [much]
theorem much_one (k : Int) (n : Bytes) (m : Int) : much [nd k n m] = 1 + n.length := by simp [much, nd, B_size]
theorem brX_len (b : Bool) (x : Bytes) : (brX b x).length ≤ x.length + 2 := by
 cases b
 ·exact Nat.le_add_right _ _
 ·show (40 :: (x ++ [41])).length ≤ _
  simp
theorem text_len {mo : Option Nat} {k : Int} {ns : List S38} {ts : List TT} {x : Bytes} {d : Nat} (h : Ex mo k ns ts x d) : x.length + 2 ≤ 3 * much ns := by
 induction h with
 | zero => rw [much_one]; simp
 | one => rw [much_one]; simp
 | var n hn => rw [much_one]; omega
 | con n hn => rw [much_one]; omega
 | call n hn hm a ia =>
  obtain ⟨c, r, rfl, _⟩ := name_head (.inr hn)
  rw [much_app, much_one]
  simp only [List.length_append, List.length_cons, List.length_nil]; omega
 | proj n hn h1 h8 a ia =>
  obtain ⟨c, r, rfl, _⟩ := name_head (.inr hn)
  rw [much_app, much_one]
  simp only [List.length_append, List.length_cons, List.length_nil]; omega
 | @two u ka na ta xa da kb nb tb xb db a b ia ib =>
  rw [much_app, much_app, much_one]
  have h1 := brX_len (oddL u ka) xa
  have h2 := brX_len (isTwo kb) xb
  simp only [List.length_append, List.length_cons, List.length_nil]; omega
 | arg1 a ia => exact ia
 | argN a b ia ib =>
  rw [much_app]
  simp only [List.length_append, List.length_cons]; omega
end Go.Proofs.YtniaooodlccmcaaGreatDoor.E

