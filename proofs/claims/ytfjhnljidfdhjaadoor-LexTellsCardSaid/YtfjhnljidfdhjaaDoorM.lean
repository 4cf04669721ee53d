/-
  What the words of a text are, over plain lists of bytes: no Go and no memory. (Mine.)
-/
set_option linter.unusedSimpArgs false
set_option linter.unusedVariables false
namespace Go.Proofs.YtfjhnljidfdhjaaDoor.M
abbrev Bytes := List UInt8
def fig (c : UInt8) : Bool := decide (48 ≤ c.toNat) && decide (c.toNat ≤ 57)
def letter (c : UInt8) : Bool := (decide (97 ≤ c.toNat) && decide (c.toNat ≤ 122)) || (decide (65 ≤ c.toNat) && decide (c.toNat ≤ 90))
def blk (c : UInt8) : Bool := decide (c.toNat = 32) || decide (c.toNat = 9) || decide (c.toNat = 10)
def inner (c : UInt8) : Bool := letter c || fig c || decide (c.toNat = 95)
def signB (c : UInt8) : Bool := [40, 41, 44, 124, 38, 126, 43, 45, 61, 42, 123, 125, 59, 58].contains c
/-- Is a text a number: not empty, nine figures at most, no nought ahead. -/
def numOk (x : Bytes) : Bool := decide (0 < x.length) && decide (x.length ≤ 9) && x.all fig && !(decide (1 < x.length) && decide (x.head? = some 48))
/-- The number that figures are, behind others. -/
def val (acc : Nat) : Bytes → Nat
  | [] => acc
  | c :: r => val (acc * 10 + (c.toNat - 48)) r
/-- The token that a text begins with: its kind and how long it is. -/
def tk1 : Bytes → Option (Nat × Nat)
  | [] => none
  | c :: r =>
    if letter c = true then some (1, 1 + (r.takeWhile inner).length)
    else if fig c = true then (if numOk (c :: r.takeWhile fig) = true then some (2, 1 + (r.takeWhile fig).length) else none)
    else if (c.toNat = 60 ∨ c.toNat = 58) ∧ r.head? = some 61 then some (3, 2)
    else if signB c = true then some (3, 1) else none
/-- Texts with a blank between. -/
def jn : List Bytes → Bytes
  | [] => []
  | [x] => x
  | x :: y :: r => x ++ 32 :: jn (y :: r)
structure Tk where
  kind : Nat
  text : Bytes
  pos : Nat
/-- What is read of a text, of which so many bytes belong to what was read last, from a place on: the tokens, or where there is none. -/
def scan : Bytes → Nat → Nat → Except Nat (List Tk)
  | [], _, _ => .ok []
  | _ :: r, s + 1, p => scan r s (p + 1)
  | c :: r, 0, p =>
    if blk c = true then scan r 0 (p + 1)
    else match tk1 (c :: r) with
      | none => .error p
      | some (k, n) => match scan r (n - 1) (p + 1) with
        | .error e => .error e
        | .ok l => .ok (⟨k, (c :: r).take n, p⟩ :: l)

theorem takeWhile_le {α : Type} (p : α → Bool) (l : List α) : (l.takeWhile p).length ≤ l.length := by
  induction l with
  | nil => simp
  | cons a t ih =>
    rw [List.takeWhile_cons]
    split
    · simp only [List.length_cons]; omega
    · simp
theorem takeWhile_append_stop {α : Type} (p : α → Bool) (l y : List α) (hy : ∀ a, y.head? = some a → p a = false) : (l ++ y).takeWhile p = l.takeWhile p := by
  induction l with
  | nil =>
    cases y with
    | nil => rfl
    | cons a t => rw [List.nil_append, List.takeWhile_cons, hy a rfl]; rfl
  | cons a t ih =>
    rw [List.cons_append, List.takeWhile_cons, List.takeWhile_cons, ih]
theorem takeWhile_take_len {α : Type} (p : α → Bool) (l : List α) : l.take (l.takeWhile p).length = l.takeWhile p := by
  induction l with
  | nil => rfl
  | cons a t ih =>
    rw [List.takeWhile_cons]
    split
    · rw [List.length_cons, List.take_succ_cons, ih]
    · rfl
theorem takeWhile_self {α : Type} (p : α → Bool) (l : List α) : (l.takeWhile p).takeWhile p = l.takeWhile p := by
  induction l with
  | nil => rfl
  | cons a t ih =>
    rw [List.takeWhile_cons]
    split
    · rename_i h; rw [List.takeWhile_cons, h]; simp only [if_true]; rw [ih]
    · rfl
theorem takeWhile_stop {α : Type} (p : α → Bool) (l : List α) : ∀ a, l[(l.takeWhile p).length]? = some a → p a = false := by
  induction l with
  | nil => intro a h; simp at h
  | cons b t ih =>
    intro a h
    rw [List.takeWhile_cons] at h
    split at h
    · rw [List.length_cons, List.getElem?_cons_succ] at h
      exact ih a h
    · rename_i hb
      rw [List.length_nil, List.getElem?_cons_zero] at h
      obtain rfl := Option.some.inj h
      simpa using hb
theorem takeWhile_all {α : Type} (p : α → Bool) (l : List α) : (l.takeWhile p).all p = true := by
  induction l with
  | nil => rfl
  | cons a t ih =>
    rw [List.takeWhile_cons]
    split
    · rename_i h; rw [List.all_cons, h, ih]; rfl
    · rfl

theorem tok_nil : tk1 [] = none := rfl
theorem tok_len {l : Bytes} {k n : Nat} (h : tk1 l = some (k, n)) : 1 ≤ n ∧ n ≤ l.length := by
  cases l with
  | nil => cases h
  | cons c r =>
    simp only [tk1] at h
    have h1 := takeWhile_le inner r
    have h2 := takeWhile_le fig r
    rw [List.length_cons]
    split at h
    · simp only [Option.some.injEq, Prod.mk.injEq] at h; omega
    split at h
    · split at h
      · simp only [Option.some.injEq, Prod.mk.injEq] at h; omega
      · cases h
    split at h
    · rename_i hc
      simp only [Option.some.injEq, Prod.mk.injEq] at h
      cases r with
      | nil => simp at hc
      | cons d t => rw [List.length_cons]; omega
    split at h
    · simp only [Option.some.injEq, Prod.mk.injEq] at h; omega
    · cases h
/-- Behind the token stands what cannot belong to it: the token is the same. -/
theorem tok_append (l y : Bytes) (hl : l ≠ []) (hy : ∀ a, y.head? = some a → blk a = true) : tk1 (l ++ y) = tk1 l := by
  cases l with
  | nil => exact absurd rfl hl
  | cons c r =>
    have hb : ∀ a : UInt8, blk a = true → a.toNat = 32 ∨ a.toNat = 9 ∨ a.toNat = 10 := by
      intro a h; simp [blk] at h; omega
    have hi : ∀ a, y.head? = some a → inner a = false := by
      intro a h
      have := hb a (hy a h)
      simp only [inner, letter, fig, Bool.or_eq_false_iff, Bool.and_eq_false_iff, decide_eq_false_iff_not]
      omega
    have hf : ∀ a, y.head? = some a → fig a = false := by
      intro a h
      have := hb a (hy a h)
      simp only [fig, Bool.and_eq_false_iff, decide_eq_false_iff_not]
      omega
    have h61 : ((r ++ y).head? = some 61) ↔ (r.head? = some 61) := by
      cases r with
      | nil =>
        simp only [List.nil_append, List.head?_nil, reduceCtorEq, iff_false]
        intro h
        have := hb 61 (hy 61 h)
        simp at this
      | cons d t => simp
    simp only [List.cons_append, tk1]
    rw [takeWhile_append_stop inner r y hi, takeWhile_append_stop fig r y hf]
    simp only [h61]
theorem take_takeWhile_cons {p : UInt8 → Bool} (r : Bytes) : r.take (1 + (r.takeWhile p).length - 1) = r.takeWhile p := by
  rw [Nat.add_sub_cancel_left, takeWhile_take_len]
/-- A token, alone, is that token. -/
theorem tok_take {l : Bytes} {k n : Nat} (h : tk1 l = some (k, n)) : tk1 (l.take n) = some (k, n) := by
  cases l with
  | nil => cases h
  | cons c r =>
    have hn := (tok_len h).1
    obtain ⟨m, rfl⟩ : ∃ m, n = m + 1 := ⟨n - 1, by omega⟩
    rw [List.take_succ_cons]
    simp only [tk1] at h ⊢
    by_cases h1 : letter c = true
    · rw [if_pos h1] at h ⊢
      simp only [Option.some.injEq, Prod.mk.injEq] at h
      obtain ⟨rfl, hm⟩ := h
      obtain rfl : m = (r.takeWhile inner).length := by omega
      rw [takeWhile_take_len, takeWhile_self]
      simp; omega
    rw [if_neg h1] at h ⊢
    by_cases h2 : fig c = true
    · rw [if_pos h2] at h ⊢
      split at h
      · rename_i h3
        simp only [Option.some.injEq, Prod.mk.injEq] at h
        obtain ⟨rfl, hm⟩ := h
        obtain rfl : m = (r.takeWhile fig).length := by omega
        rw [takeWhile_take_len, takeWhile_self, if_pos h3]
        simp; omega
      · cases h
    rw [if_neg h2] at h ⊢
    by_cases h3 : (c.toNat = 60 ∨ c.toNat = 58) ∧ r.head? = some 61
    · rw [if_pos h3] at h
      simp only [Option.some.injEq, Prod.mk.injEq] at h
      obtain ⟨rfl, hm⟩ := h
      obtain rfl : m = 1 := by omega
      have h4 : (r.take 1).head? = r.head? := by cases r <;> simp
      rw [if_pos ⟨h3.1, by rw [h4]; exact h3.2⟩]
    rw [if_neg h3] at h
    split at h
    · rename_i h4
      simp only [Option.some.injEq, Prod.mk.injEq] at h
      obtain ⟨rfl, hm⟩ := h
      obtain rfl : m = 0 := by omega
      rw [List.take_zero, if_neg (by simp), if_pos h4]
    · cases h

theorem scan_skip : ∀ (l : Bytes) (s p : Nat), s ≤ l.length → scan l s p = scan (l.drop s) 0 (p + s)
  | l, 0, p, _ => rfl
  | [], s + 1, p, h => by simp at h
  | c :: r, s + 1, p, h => by
    have h1 := scan_skip r s (p + 1) (by simp only [List.length_cons] at h; omega)
    simp only [scan, List.drop_succ_cons]
    rw [h1]
    congr 1
    omega
theorem scan_blank (c : UInt8) (r : Bytes) (p : Nat) (h : blk c = true) : scan (c :: r) 0 p = scan r 0 (p + 1) := by
  simp only [scan]; rw [if_pos h]
theorem scan_none (c : UInt8) (r : Bytes) (p : Nat) (hb : blk c = false) (h : tk1 (c :: r) = none) : scan (c :: r) 0 p = .error p := by
  simp only [scan]; rw [if_neg (by simp [hb]), h]
theorem scan_tok (l : Bytes) (p k n : Nat) (hb : ∀ c, l.head? = some c → blk c = false) (h : tk1 l = some (k, n)) :
    scan l 0 p = match scan (l.drop n) 0 (p + n) with | .error e => .error e | .ok m => .ok (⟨k, l.take n, p⟩ :: m) := by
  cases l with
  | nil => cases h
  | cons c r =>
    have h1 := tok_len h
    have hbc := hb c rfl
    obtain ⟨m, rfl⟩ : ∃ m, n = m + 1 := ⟨n - 1, by omega⟩
    have h2 := scan_skip r m (p + 1) (by have := h1.2; simp only [List.length_cons] at this; omega)
    simp only [scan, Nat.add_sub_cancel, List.drop_succ_cons]
    rw [if_neg (by simp [hbc]), h]
    simp only [Nat.add_sub_cancel]
    rw [h2, show p + (m + 1) = p + 1 + m from by omega]
theorem scan_blanks : ∀ (l : Bytes) (p : Nat), scan l 0 p = scan (l.drop (l.takeWhile blk).length) 0 (p + (l.takeWhile blk).length)
  | [], p => rfl
  | c :: r, p => by
    by_cases h : blk c = true
    · rw [scan_blank c r p h, List.takeWhile_cons, if_pos h, List.length_cons, List.drop_succ_cons, scan_blanks r (p + 1)]
      congr 1
      omega
    · rw [List.takeWhile_cons, if_neg h]; rfl
/-- The places are counted from where the reading began. -/
def shift (d : Nat) (t : Tk) : Tk := ⟨t.kind, t.text, t.pos + d⟩
theorem scan_shift : ∀ (l : Bytes) (s p d : Nat), scan l s (p + d) = match scan l s p with | .error e => .error (e + d) | .ok m => .ok (m.map (shift d))
  | [], s, p, d => by simp [scan]
  | c :: r, s + 1, p, d => by
    simp only [scan]
    rw [show p + d + 1 = p + 1 + d from by omega]
    exact scan_shift r s (p + 1) d
  | c :: r, 0, p, d => by
    simp only [scan]
    by_cases hb : blk c = true
    · rw [if_pos hb, if_pos hb, show p + d + 1 = p + 1 + d from by omega]
      exact scan_shift r 0 (p + 1) d
    · rw [if_neg hb, if_neg hb]
      cases ht : tk1 (c :: r) with
      | none => rfl
      | some kn =>
        obtain ⟨k, n⟩ := kn
        simp only
        rw [show p + d + 1 = p + 1 + d from by omega, scan_shift r (n - 1) (p + 1) d]
        cases hs : scan r (n - 1) (p + 1) with
        | error e => rfl
        | ok m => simp [shift]
/-- A text behind which blanks stand, or nothing: first its own tokens, then what is behind. -/
theorem scan_append (y : Bytes) (hy : ∀ a, y.head? = some a → blk a = true) : ∀ (l : Bytes) (s p : Nat), s ≤ l.length →
    scan (l ++ y) s p = match scan l s p with | .error e => .error e | .ok m => (match scan y 0 (p + l.length) with | .error e => .error e | .ok z => .ok (m ++ z))
  | [], s, p, h => by
    simp only [List.length_nil, Nat.le_zero] at h
    subst h
    simp only [List.nil_append, scan, List.length_nil, Nat.add_zero]
    cases scan y 0 p <;> rfl
  | c :: r, s + 1, p, h => by
    simp only [List.cons_append, scan]
    rw [scan_append y hy r s (p + 1) (by simp only [List.length_cons] at h; omega), show p + (c :: r).length = p + 1 + r.length from by simp only [List.length_cons]; omega]
  | c :: r, 0, p, h => by
    have hl : p + (c :: r).length = p + 1 + r.length := by simp only [List.length_cons]; omega
    rw [hl]
    have htk := tok_append (c :: r) y (by simp) hy
    rw [List.cons_append] at htk
    simp only [List.cons_append, scan]
    by_cases hb : blk c = true
    · rw [if_pos hb, if_pos hb]
      exact scan_append y hy r 0 (p + 1) (Nat.zero_le _)
    · rw [if_neg hb, if_neg hb, htk]
      cases ht : tk1 (c :: r) with
      | none => rfl
      | some kn =>
        obtain ⟨k, n⟩ := kn
        have hn := tok_len ht
        simp only [List.length_cons] at hn
        simp only
        rw [scan_append y hy r (n - 1) (p + 1) (by omega)]
        cases hs : scan r (n - 1) (p + 1) with
        | error e => rfl
        | ok m =>
          simp only
          have htake : (c :: (r ++ y)).take n = (c :: r).take n := by
            rw [← List.cons_append, List.take_append_of_le_length (by simp only [List.length_cons]; omega)]
          cases scan y 0 (p + 1 + r.length) with
          | error e => rfl
          | ok z => simp [htake]
/-- Blanks alone are no token. -/
theorem scan_all_blank : ∀ (l : Bytes) (p : Nat), l.all blk = true → scan l 0 p = .ok []
  | [], p, _ => rfl
  | c :: r, p, h => by
    rw [List.all_cons, Bool.and_eq_true] at h
    rw [scan_blank c r p h.1]
    exact scan_all_blank r (p + 1) h.2
theorem scan_blank_ahead : ∀ (a l : Bytes) (p : Nat), a.all blk = true → scan (a ++ l) 0 p = scan l 0 (p + a.length)
  | [], l, p, _ => rfl
  | c :: r, l, p, h => by
    rw [List.all_cons, Bool.and_eq_true] at h
    rw [List.cons_append, scan_blank c (r ++ l) p h.1, scan_blank_ahead r l (p + 1) h.2]
    congr 1
    simp only [List.length_cons]; omega
end Go.Proofs.YtfjhnljidfdhjaaDoor.M
