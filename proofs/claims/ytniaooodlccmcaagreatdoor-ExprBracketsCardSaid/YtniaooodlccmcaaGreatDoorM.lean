set_option linter.unusedSimpArgs false
set_option linter.unusedVariables false
namespace Go.Proofs.YtniaooodlccmcaaGreatDoor.M
abbrev Bytes := List UInt8
def fig (c : UInt8) : Bool := decide (48 ≤ c.toNat) && decide (c.toNat ≤ 57)
def letter (c : UInt8) : Bool := (decide (97 ≤ c.toNat) && decide (c.toNat ≤ 122)) || (decide (65 ≤ c.toNat) && decide (c.toNat ≤ 90))
def blk (c : UInt8) : Bool := decide (c.toNat = 32) || decide (c.toNat = 9) || decide (c.toNat = 10)
def inner (c : UInt8) : Bool := letter c || fig c || decide (c.toNat = 95)
def signB (c : UInt8) : Bool := [40, 41, 44, 124, 38, 126, 43, 45, 61, 42, 123, 125, 59, 58].contains c
def numOk (x : Bytes) : Bool := decide (0 < x.length) && decide (x.length ≤ 9) && x.all fig && !(decide (1 < x.length) && decide (x.head? = some 48))
def val (acc : Nat) : Bytes → Nat
 | [] => acc
 | c :: r => val (acc * 10 + (c.toNat - 48)) r
def tk1 : Bytes → Option (Nat × Nat)
 | [] => none
 | c :: r =>
  if letter c = true then some (1, 1 + (r.takeWhile inner).length)
  else if fig c = true then (if numOk (c :: r.takeWhile fig) = true then some (2, 1 + (r.takeWhile fig).length) else none)
  else if (c.toNat = 60 ∨ c.toNat = 58) ∧ r.head? = some 61 then some (3, 2)
  else if signB c = true then some (3, 1) else none
structure Tk where
 kind : Nat
 text : Bytes
 pos : Nat
def scan : Bytes → Nat → Nat → Except Nat (List Tk)
 | [], _, _ => .ok []
 | _ :: r, s + 1, p => scan r s (p + 1)
 | c :: r, 0, p =>
  if blk c = true then scan r 0 (p + 1)
  else match tk1 (c :: r) with
   | none => .error p
   | some (k, n) => match scan r (n - 1) (p + 1) with
    | .error e => .error e
    | .ok l => .ok (⟨k, (c :: r).take n, p⟩ :: l)
theorem takeWhile_le {α : Type} (p : α → Bool) (l : List α) : (l.takeWhile p).length ≤ l.length := by
 induction l with
 | nil => simp
 | cons a t ih =>
  rw [List.takeWhile_cons]
  split
  ·simp only [List.length_cons]; omega
  ·simp
theorem takeWhile_take_len {α : Type} (p : α → Bool) (l : List α) : l.take (l.takeWhile p).length = l.takeWhile p := by
 induction l with
 | nil => rfl
 | cons a t ih =>
  rw [List.takeWhile_cons]
  split
  ·rw [List.length_cons, List.take_succ_cons, ih]
  ·rfl
theorem tok_len {l : Bytes} {k n : Nat} (h : tk1 l = some (k, n)) : 1 ≤ n ∧ n ≤ l.length := by
 cases l with
 | nil => cases h
 | cons c r =>
  simp only [tk1] at h
  have h1 := takeWhile_le inner r
  have h2 := takeWhile_le fig r
  rw [List.length_cons]
  split at h
  ·simp only [Option.some.injEq, Prod.mk.injEq] at h; omega
  split at h
  ·split at h
   ·simp only [Option.some.injEq, Prod.mk.injEq] at h; omega
   ·cases h
  split at h
  ·rename_i hc
   simp only [Option.some.injEq, Prod.mk.injEq] at h
   cases r with
   | nil => simp at hc
   | cons d t => rw [List.length_cons]; omega
  split at h
  ·simp only [Option.some.injEq, Prod.mk.injEq] at h; omega
  ·cases h
theorem scan_skip : ∀ (l : Bytes) (s p : Nat), s ≤ l.length → scan l s p = scan (l.drop s) 0 (p + s)
 | l, 0, p, _ => rfl
 | [], s + 1, p, h => by simp at h
 | c :: r, s + 1, p, h => by
  have h1 := scan_skip r s (p + 1) (by simp only [List.length_cons] at h; omega)
  simp only [scan, List.drop_succ_cons]
  rw [h1]
  congr 1
  omega
theorem scan_blank (c : UInt8) (r : Bytes) (p : Nat) (h : blk c = true) : scan (c :: r) 0 p = scan r 0 (p + 1) := by
 simp only [scan]; rw [if_pos h]
theorem scan_none (c : UInt8) (r : Bytes) (p : Nat) (hb : blk c = false) (h : tk1 (c :: r) = none) : scan (c :: r) 0 p = .error p := by
 simp only [scan]; rw [if_neg (by simp [hb]), h]
theorem scan_tok (l : Bytes) (p k n : Nat) (hb : ∀ c, l.head? = some c → blk c = false) (h : tk1 l = some (k, n)) :
  scan l 0 p = match scan (l.drop n) 0 (p + n) with | .error e => .error e | .ok m => .ok (⟨k, l.take n, p⟩ :: m) := by
 cases l with
 | nil => cases h
 | cons c r =>
  have h1 := tok_len h
  have hbc := hb c rfl
  obtain ⟨m, rfl⟩ : ∃ m, n = m + 1 := ⟨n - 1, by omega⟩
  have h2 := scan_skip r m (p + 1) (by have := h1.2; simp only [List.length_cons] at this; omega)
  simp only [scan, Nat.add_sub_cancel, List.drop_succ_cons]
  rw [if_neg (by simp [hbc]), h]
  simp only [Nat.add_sub_cancel]
  rw [h2, show p + (m + 1) = p + 1 + m from by omega]
end Go.Proofs.YtniaooodlccmcaaGreatDoor.M

