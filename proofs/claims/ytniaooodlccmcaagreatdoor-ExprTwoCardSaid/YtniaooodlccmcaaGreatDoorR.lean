import Derived.Test.YtniaooodlccmcaaGreatDoorDz
import Derived.Test.YtniaooodlccmcaaGreatDoorL
import Derived.Test.YtniaooodlccmcaaGreatDoorQx9
set_option linter.unusedVariables false
set_option linter.unusedSimpArgs false
namespace Go.Proofs.YtniaooodlccmcaaGreatDoor.L
open Go.RowKit Go.Proofs.YtniaooodlccmcaaGreatDoorW.PrintWords Go.Proofs.YtniaooodlccmcaaGreatDoorW.PrintLast
open Go.Proofs.YtniaooodlccmcaaGreatDoor.Q Go.Proofs.YtniaooodlccmcaaGreatDoor.M
theorem refNumber_l0 (l : Bytes) (hl : l.length ≤ 9) : ∀ (d i acc : Nat), i + d = l.length → acc < 10 ^ i →
  Ev (fun k => tammyref06_Number.l0 k (B l) (acc : Int) (i : Int)) (if (l.drop i).all fig = true then ((val acc (l.drop i) : Int), true) else (0, false)) := by
 intro d
 induction d with
 | zero =>
  intro i acc hi ha
  refine Ev.step (fun k => tammyref06_Number.l0.eq_2 _ _ _ k) ?_
  refine Ev.ite_neg Zz14 ?_
  rw [List.drop_of_length_le (by omega)]
  exact Ev.now _
 | succ d ih =>
  intro i acc hi ha
  have hlt : i < l.length := by omega
  refine Ev.step (fun k => tammyref06_Number.l0.eq_2 _ _ _ k) ?_
  refine Ev.ite_pos Zz14 (Ev.ite_pos (by omega) ?_)
  rw [bt_B l i l[i] (List.getElem?_eq_getElem hlt), List.drop_eq_getElem_cons hlt, List.all_cons]
  have hr : l[i].toNat < 256 := l[i].toNat_lt
  refine Ev.cases_ite (fun h1 => ?_) (fun h1 => ?_)
  ·have : fig l[i] = false := by simp [fig]; omega
   rw [this]; exact Ev.now _
  refine Ev.cases_ite (fun h2 => ?_) (fun h2 => ?_)
  ·have : fig l[i] = false := by simp [fig]; omega
   rw [this]; exact Ev.now _
  have hf : fig l[i] = true := by simp [fig]; omega
  rw [hf, Bool.true_and]
  have hp : 10 ^ i ≤ 10 ^ 9 := Nat.pow_le_pow_right (by omega) (by omega)
  have hp9 : (10 : Nat) ^ 9 = 1000000000 := rfl
  rw [wrap64_nat (x := (acc : Int) * 10) (by omega) (by omega), wrap64_nat (by omega) (by omega), wrap64_nat (by omega) (by omega)]
  have := ih (i + 1) (acc * 10 + (l[i].toNat - 48)) (by omega) (by rw [Nat.pow_succ]; omega)
  rw [show (acc : Int) * 10 + ((l[i].toNat : Int) - 48) % 256 = ((acc * 10 + (l[i].toNat - 48) : Nat) : Int) from by omega, show ((i : Int) + 1) = ((i + 1 : Nat) : Int) from by omega]
  exact this
theorem refNumber_link (l : Bytes) (hl : l.length ≤ 1000000) : Ev (fun k => tammyref06_Number.f k (B l)) (num l) := by
 unfold tammyref06_Number.f
 rw [B_size]
 have yes : numOk l = false → Ev (fun k => tammyref06_Number.j0 k (B l) true) (num l) := fun h =>
  Ev.step (fun k => tammyref06_Number.j0.eq_2 _ _ k) (Ev.ite_pos rfl (ev_eq (Ev.now _) (num_no h).symm))
 refine Ev.cases_ite (fun h => yes ?_) (fun h => ?_)
 ·have : ¬ 0 < l.length := by omega
  simp [numOk, this]
 refine Ev.cases_ite (fun h1 => yes ?_) (fun h1 => ?_)
 ·have : ¬ l.length ≤ 9 := by omega
  simp [numOk, this]
 refine Ev.ite_pos (by omega) ?_
 obtain ⟨c, r, rfl⟩ : ∃ c r, l = c :: r := by cases l with | nil => simp at h | cons c r => exact ⟨c, r, rfl⟩
 rw [show (0 : Int) = ((0 : Nat) : Int) from rfl, bt_B (c :: r) 0 c rfl]
 have hc48 : (c.toNat : Int) = 48 ↔ (c :: r).head? = some 48 := by
  rw [List.head?_cons, Option.some.injEq]
  constructor
  ·intro e; apply UInt8.toNat_inj.1; simp; omega
  ·rintro rfl; simp
 have hlen : 0 < (c :: r).length := by simp
 have no : (1 < (c :: r).length → ¬ (c :: r).head? = some 48) → Ev (fun k => tammyref06_Number.j0 k (B (c :: r)) false) (num (c :: r)) := by
  intro hh
  refine Ev.step (fun k => tammyref06_Number.j0.eq_2 _ _ k) (Ev.ite_neg (by simp) ?_)
  refine ev_eq (refNumber_l0 (c :: r) (by omega) (c :: r).length 0 0 (by omega) (by simp)) ?_
  rw [List.drop_zero]
  have hok : numOk (c :: r) = (c :: r).all fig := by
   have h9 : (c :: r).length ≤ 9 := by omega
   unfold numOk
   rw [decide_eq_true hlen, decide_eq_true h9, Bool.true_and, Bool.true_and]
   by_cases h2 : 1 < (c :: r).length
   ·rw [decide_eq_false (hh h2)]; simp
   ·rw [decide_eq_false h2]; simp
  unfold num
  rw [hok]
 refine Ev.cases_ite (fun h3 => ?_) (fun h3 => ?_)
 ·by_cases h4 : ((c :: r).length : Int) > 1
  ·rw [decide_eq_true h4]
   refine yes ?_
   have h5 : 1 < (c :: r).length := by omega
   simp only [numOk, hc48.1 h3, h5]; simp
  ·rw [decide_eq_false h4]
   exact no (fun h5 => absurd h5 (by omega))
 ·exact no (fun _ e => h3 (hc48.2 e))
theorem letter_link (c : UInt8) : tammyref06_letter.f (c.toNat : Int) = some (letter c) := by
 have hr : c.toNat < 256 := c.toNat_lt
 unfold tammyref06_letter.f letter
 repeat' split
 all_goals (rw [Option.some.injEq, Bool.eq_iff_iff]; (try simp) <;> omega)
theorem figure_link (c : UInt8) : tammyref06_figure.f (c.toNat : Int) = some (fig c) := by
 unfold tammyref06_figure.f fig
 repeat' split
 all_goals (rw [Option.some.injEq, Bool.eq_iff_iff]; (try simp) <;> omega)
theorem sign_l0 (c : UInt8) : ∀ (d i : Nat), i + d = 14 → Ev (fun k => tammyref06_sign.l0 k (c.toNat : Int) (i : Int)) ((sigC.drop i).contains c) := by
 intro d
 induction d with
 | zero =>
  intro i hi
  refine Ev.step (fun k => tammyref06_sign.l0.eq_2 _ _ k) (Ev.ite_neg (by omega) ?_)
  obtain rfl : i = 14 := by omega
  exact ev_eq (Ev.now _) (by simp [sigC])
 | succ d ih =>
  intro i hi
  have hlt : i < sigC.length := by show i < 14; omega
  refine Ev.step (fun k => tammyref06_sign.l0.eq_2 _ _ k) (Ev.ite_pos (by omega) (Ev.ite_pos (by omega) ?_))
  rw [show bt (⟨#[40, 41, 44, 124, 38, 126, 43, 45, 61, 42, 123, 125, 59, 58]⟩ : ByteArray) (i : Int) = (sigC[i].toNat : Int) from bt_B sigC i sigC[i] (List.getElem?_eq_getElem hlt)]
  rw [List.drop_eq_getElem_cons hlt, List.contains_cons]
  refine Ev.cases_ite (fun h => ?_) (fun h => ?_)
  ·have : c = sigC[i] := UInt8.toNat_inj.1 (by omega)
   rw [beq_iff_eq.2 this]; exact Ev.now _
  ·have : ¬ c = sigC[i] := fun e => h (by rw [e])
   rw [beq_eq_false_iff_ne.2 this, Bool.false_or, wrap64_nat (by omega) (by omega), show ((i : Int) + 1) = ((i + 1 : Nat) : Int) from by omega]
   exact ih (i + 1) (by omega)
theorem sign_link (c : UInt8) : Ev (fun k => tammyref06_sign.f k (c.toNat : Int)) (signB c) := sign_l0 c 14 0 rfl
theorem reftoken_l0 (l : Bytes) (hl : l.length ≤ 1000000) : ∀ (d n : Nat), n + d = l.length →
  Ev (fun k => tammyref06_token.l0 k (B l) (n : Int)) (1, ((n + ((l.drop n).takeWhile inner).length : Nat) : Int)) := by
 intro d
 induction d with
 | zero =>
  intro n hn
  refine Ev.step (fun k => tammyref06_token.l0.eq_2 _ _ k) (Ev.ite_neg Zz14 ?_)
  rw [List.drop_of_length_le (by omega)]
  exact Ev.now _
 | succ d ih =>
  intro n hn
  have hlt : n < l.length := by omega
  refine Ev.step (fun k => tammyref06_token.l0.eq_2 _ _ k) (Ev.ite_pos Zz14 (Ev.ite_pos (by omega) ?_))
  rw [bt_B l n l[n] (List.getElem?_eq_getElem hlt), letter_link, figure_link]
  rw [List.drop_eq_getElem_cons hlt, List.takeWhile_cons]
  have go : inner l[n] = true → Ev (fun k => tammyref06_token.l0 k (B l) (wrap64 ((n : Int) + 1))) (1, ((n + (if inner l[n] = true then l[n] :: (l.drop (n + 1)).takeWhile inner else []).length : Nat) : Int)) := by
   intro h
   rw [if_pos h, wrap64_nat (by omega) (by omega), show ((n : Int) + 1) = ((n + 1 : Nat) : Int) from by omega]
   refine ev_eq (ih (n + 1) (by omega)) ?_
   rw [List.length_cons]
   congr 2; omega
  refine Ev.bind (Ev.now _) (Ev.cases_ite (fun h1 => go (by simp [inner, h1])) (fun h1 => ?_))
  refine Ev.bind (Ev.now _) (Ev.cases_ite (fun h2 => go (by simp [inner, h2])) (fun h2 => ?_))
  refine Ev.cases_ite (fun h3 => go ?_) (fun h3 => ?_)
  ·have : l[n].toNat = 95 := by omega
   simp [inner, this]
  ·have : inner l[n] = false := by
    have h4 : ¬ l[n].toNat = 95 := by omega
    simp only [inner, h4]; simp [h1, h2]
   rw [this]; exact Ev.now _
def rtokV (l : Bytes) (n : Nat) : Int × Int := match tk1 (l.drop n) with | none => (0, (n : Int)) | some (k, q) => ((k : Int), ((n + q : Nat) : Int))
theorem rtokV_some {l : Bytes} {n k q : Nat} (h : tk1 (l.drop n) = some (k, q)) : rtokV l n = ((k : Int), ((n + q : Nat) : Int)) := by unfold rtokV; rw [h]
theorem rtokV_none {l : Bytes} {n : Nat} (h : tk1 (l.drop n) = none) : rtokV l n = (0, (n : Int)) := by unfold rtokV; rw [h]
theorem reftoken_l1 (l : Bytes) (hl : l.length ≤ 1000000) (a : Nat) : ∀ (d n : Nat), n + d = l.length → a ≤ n →
  Ev (fun k => tammyref06_token.l1 k (B l) (a : Int) (n : Int))
   (if numOk ((l.take (n + ((l.drop n).takeWhile fig).length)).drop a) = true then (2, ((n + ((l.drop n).takeWhile fig).length : Nat) : Int)) else (0, (a : Int))) := by
 have fin : ∀ n : Nat, a ≤ n → n ≤ l.length → Ev (fun k => if 0 ≤ (a : Int) then (if (a : Int) ≤ (n : Int) then (if (n : Int) ≤ ((B l).size : Int) then ((tammyref06_Number.f k ((B l).extract ((a : Int) : Int).toNat ((n : Int) : Int).toNat)).bind fun b => (if b.2 = true then (some ((2 : Int), (n : Int))) else (some ((0 : Int), (a : Int))))) else (none)) else (none)) else (none))
   (if numOk ((l.take n).drop a) = true then ((2 : Int), (n : Int)) else ((0 : Int), (a : Int))) := by
  intro n h1 h2
  refine Ev.ite_pos (by omega) (Ev.ite_pos (by omega) (Ev.ite_pos Zz14 ?_))
  rw [Int.toNat_natCast, Int.toNat_natCast, B_extract]
  have he : (l.drop a).take (n - a) = (l.take n).drop a := by rw [List.drop_take]
  rw [he]
  refine Ev.bind (refNumber_link _ (by rw [List.length_drop, List.length_take]; omega)) ?_
  by_cases h3 : numOk ((l.take n).drop a) = true
  ·rw [num_yes h3, if_pos h3]; exact Ev.ite_pos rfl (Ev.now _)
  ·rw [num_no (by simpa using h3), if_neg h3]; exact Ev.ite_neg (by simp) (Ev.now _)
 intro d
 induction d with
 | zero =>
  intro n hn ha
  refine Ev.step (fun k => tammyref06_token.l1.eq_2 _ _ _ k) (Ev.ite_neg Zz14 ?_)
  have e0 : l.drop n = [] := List.drop_of_length_le (by omega)
  rw [e0]
  exact fin n ha (by omega)
 | succ d ih =>
  intro n hn ha
  have hlt : n < l.length := by omega
  refine Ev.step (fun k => tammyref06_token.l1.eq_2 _ _ _ k) (Ev.ite_pos Zz14 (Ev.ite_pos (by omega) ?_))
  rw [bt_B l n l[n] (List.getElem?_eq_getElem hlt), List.drop_eq_getElem_cons hlt, List.takeWhile_cons]
  refine Ev.cases_ite (fun h1 => ?_) (fun h1 => ?_)
  ·refine Ev.cases_ite (fun h2 => ?_) (fun h2 => ?_)
   ·have : fig l[n] = true := by simp [fig]; omega
    rw [if_pos this, wrap64_nat (by omega) (by omega), show ((n : Int) + 1) = ((n + 1 : Nat) : Int) from by omega, List.length_cons]
    have e : n + (((l.drop (n + 1)).takeWhile fig).length + 1) = n + 1 + ((l.drop (n + 1)).takeWhile fig).length := by omega
    rw [e]
    exact ih (n + 1) (by omega) (by omega)
   ·have : ¬ fig l[n] = true := by simp [fig]; omega
    rw [if_neg this]
    exact fin n ha (by omega)
  ·have : ¬ fig l[n] = true := by simp [fig]; omega
   rw [if_neg this]
   exact fin n ha (by omega)
theorem reftoken_link (l : Bytes) (hl : l.length ≤ 1000000) (n : Nat) (hn : n < l.length) : Ev (fun k => tammyref06_token.f k (B l) (n : Int)) (rtokV l n) := by
 have hsz := B_size l
 have hd := List.drop_eq_getElem_cons hn
 have hbt := bt_B l n l[n] (List.getElem?_eq_getElem hn)
 unfold tammyref06_token.f
 refine Ev.ite_pos (by omega) (Ev.ite_pos (by omega) ?_)
 rw [hbt, letter_link]
 have hw : wrap64 ((n : Int) + 1) = ((n + 1 : Nat) : Int) := by rw [wrap64_nat (by omega) (by omega)]; omega
 rw [hw]
 generalize hr : l.drop (n + 1) = r at *
 have hrl : r.length + (n + 1) = l.length := by rw [← hr, List.length_drop]; omega
 have ht : tk1 (l.drop n) = tk1 (l[n] :: r) := by rw [hd]
 have hnx : ∀ x, r.head? = some x → bt (B l) ((n + 1 : Nat) : Int) = (x.toNat : Int) := by
  intro x hx
  rw [← hr, List.head?_drop] at hx
  exact bt_B l (n + 1) x hx
 refine Ev.bind (Ev.now _) (Ev.cases_ite (fun h1 => ?_) (fun h1 => ?_))
 ·have h2 : tk1 (l[n] :: r) = some (1, 1 + (r.takeWhile inner).length) := by simp only [tk1]; rw [if_pos h1]
  rw [rtokV_some (ht.trans h2)]
  refine ev_eq (reftoken_l0 l hl (l.length - (n + 1)) (n + 1) (by omega)) ?_
  rw [hr]
  congr 2; omega
 have j3 : ∀ b : Bool, fig l[n] = false → (b = true ↔ ((l[n].toNat = 60 ∨ l[n].toNat = 58) ∧ r.head? = some 61)) → Ev (fun k => tammyref06_token.j3 k (B l) (n : Int) ((n + 1 : Nat) : Int) b) (rtokV l n) := by
  intro b hf hb
  have ht0 : tk1 (l[n] :: r) = if (l[n].toNat = 60 ∨ l[n].toNat = 58) ∧ r.head? = some 61 then some (3, 2) else if signB l[n] = true then some (3, 1) else none := by
   simp only [tk1]; rw [if_neg h1, if_neg (by simp [hf])]
  refine Ev.step (fun k => tammyref06_token.j3.eq_2 _ _ _ _ k) (Ev.cases_ite (fun h3 => ?_) (fun h3 => ?_))
  ·rw [if_pos (hb.1 h3)] at ht0
   rw [rtokV_some (ht.trans ht0)]
   refine ev_eq (Ev.now _) ?_
   rw [wrap64_nat (by omega) (by omega)]
   congr 1
  ·rw [if_neg (fun h => h3 (hb.2 h))] at ht0
   refine Ev.ite_pos (by omega) (Ev.ite_pos (by omega) ?_)
   rw [hbt]
   refine Ev.bind (sign_link _) (Ev.cases_ite (fun h4 => ?_) (fun h4 => ?_))
   ·rw [if_pos h4] at ht0
    rw [rtokV_some (ht.trans ht0)]
    exact Ev.now _
   ·rw [if_neg h4] at ht0
    rw [rtokV_none (ht.trans ht0)]
    exact Ev.now _
 have nofig : fig l[n] = false → Ev (fun k => tammyref06_token.j1 k (B l) (n : Int) ((n + 1 : Nat) : Int) false) (rtokV l n) := by
  intro hf
  refine Ev.step (fun k => tammyref06_token.j1.eq_2 _ _ _ _ k) (Ev.ite_neg (by simp) ?_)
  refine Ev.cases_ite (fun h3 => ?_) (fun h3 => ?_)
  ·obtain ⟨x, hx⟩ : ∃ x, r.head? = some x := by
    cases r with
    | nil => simp only [List.length_nil] at hrl; omega
    | cons x t => exact ⟨x, rfl⟩
   refine Ev.ite_pos (by omega) ?_
   rw [hnx x hx, hbt]
   refine Ev.cases_ite (fun h4 => ?_) (fun h4 => ?_)
   ·have h61 : r.head? = some 61 := by rw [hx]; congr 1; exact UInt8.toNat_inj.1 (by show x.toNat = 61; omega)
    refine Ev.ite_pos (by omega) (Ev.ite_pos (by omega) ?_)
    refine Ev.cases_ite (fun h5 => j3 true hf ?_) (fun h5 => j3 _ hf ?_)
    ·simp only [h61, and_true, true_iff]; omega
    ·rw [h61, beq_iff_eq]; constructor
     ·intro h; exact ⟨by omega, rfl⟩
     ·rintro ⟨h, _⟩; omega
   ·refine j3 false hf ?_
    simp only [Bool.false_eq_true, false_iff, not_and]
    intro _ h
    rw [hx] at h
    obtain rfl := Option.some.inj h
    exact h4 rfl
  ·refine j3 false hf ?_
   have : r = [] := List.eq_nil_of_length_eq_zero (by omega)
   simp [this]
 refine Ev.cases_ite (fun h2 => ?_) (fun h2 => ?_)
 ·by_cases h3 : ((l[n].toNat : Int) ≤ 57)
  ·have hf : fig l[n] = true := by simp [fig]; omega
   rw [decide_eq_true h3]
   refine Ev.step (fun k => tammyref06_token.j1.eq_2 _ _ _ _ k) (Ev.ite_pos rfl ?_)
   refine ev_eq (reftoken_l1 l hl n (l.length - (n + 1)) (n + 1) (by omega) (by omega)) ?_
   rw [hr]
   have he : (l.take (n + 1 + (r.takeWhile fig).length)).drop n = l[n] :: r.takeWhile fig := by
    rw [List.drop_take, hd, show n + 1 + (r.takeWhile fig).length - n = (r.takeWhile fig).length + 1 from by omega, List.take_succ_cons, takeWhile_take_len]
   rw [he]
   have h2 : tk1 (l[n] :: r) = if numOk (l[n] :: r.takeWhile fig) = true then some (2, 1 + (r.takeWhile fig).length) else none := by
    simp only [tk1]; rw [if_neg h1, if_pos hf]
   by_cases h4 : numOk (l[n] :: r.takeWhile fig) = true
   ·rw [if_pos h4] at h2 ⊢
    rw [rtokV_some (ht.trans h2)]
    congr 2; omega
   ·rw [if_neg h4] at h2 ⊢
    rw [rtokV_none (ht.trans h2)]
  ·rw [decide_eq_false h3]
   exact nofig (by simp [fig]; omega)
 ·exact nofig (by simp [fig]; omega)
theorem refToks_l0 (l : Bytes) (hl : l.length ≤ 1000000) : ∀ (d n : Nat) (acc : List S48), n + d = l.length → acc.length ≤ n →
  Ev (fun k => tammyref06_Toks.l0 k (B l) acc (n : Int)) (res acc (scan (l.drop n) 0 n)) := by
 intro d
 induction d using Nat.strongRecOn with
 | _ d ih =>
 intro n acc hn hacc
 have hsz := B_size l
 refine Ev.step (fun k => tammyref06_Toks.l0.eq_2 _ _ _ k) ?_
 refine Ev.cases_ite (fun h1 => ?_) (fun h1 => ?_)
 ·rw [hsz] at h1
  have hlt : n < l.length := by omega
  have hd := List.drop_eq_getElem_cons hlt
  refine Ev.ite_pos (by omega) ?_
  rw [bt_B l n l[n] (List.getElem?_eq_getElem hlt)]
  have yes : blk l[n] = true → Ev (fun k => tammyref06_Toks.j1 k (B l) acc (n : Int) true) (res acc (scan (l.drop n) 0 n)) := by
   intro hb
   refine Ev.step (fun k => tammyref06_Toks.j1.eq_2 _ _ _ _ k) (Ev.ite_pos rfl ?_)
   rw [hd, scan_blank _ _ _ hb, wrap64_nat (by omega) (by omega), show ((n : Int) + 1) = ((n + 1 : Nat) : Int) from by omega]
   exact ih (l.length - (n + 1)) (by omega) (n + 1) acc (by omega) (by omega)
  refine Ev.cases_ite (fun h2 => yes ?_) (fun h2 => Ev.cases_ite (fun h3 => yes ?_) (fun h3 => ?_))
  ·have : l[n].toNat = 32 := by omega
   simp [blk, this]
  ·have : l[n].toNat = 9 := by omega
   simp [blk, this]
  ·by_cases h4 : (l[n].toNat : Int) = 10
   ·rw [beq_iff_eq.2 h4]
    have : l[n].toNat = 10 := by omega
    exact yes (by simp [blk, this])
   ·rw [beq_eq_false_iff_ne.2 h4]
    have hb : blk l[n] = false := by simp [blk]; omega
    refine Ev.step (fun k => tammyref06_Toks.j1.eq_2 _ _ _ _ k) (Ev.ite_neg (by simp) ?_)
    refine Ev.bind (reftoken_link l hl n hlt) ?_
    cases ht : tk1 (l.drop n) with
    | none =>
     rw [rtokV_none ht]
     refine Ev.ite_pos rfl (ev_eq (Ev.now _) ?_)
     rw [hd] at ht ⊢
     rw [scan_none _ _ _ hb ht]; rfl
    | some kn =>
     obtain ⟨kd, q⟩ := kn
     have hq := tok_len ht
     rw [List.length_drop] at hq
     rw [rtokV_some ht]
     have hk : kd ≠ 0 := by
      rw [hd] at ht
      simp only [tk1] at ht
      intro e
      repeat' split at ht
      all_goals (first | (simp only [Option.some.injEq, Prod.mk.injEq] at ht; omega) | cases ht)
     refine Ev.ite_neg (by show ¬ (kd : Int) = 0; omega) (Ev.ite_pos (by omega) (Ev.ite_pos (by show (n : Int) ≤ ((n + q : Nat) : Int); omega) (Ev.ite_pos (by show ((n + q : Nat) : Int) ≤ ((B l).size : Int); omega) (Ev.ite_pos (by omega) ?_))))
     have hs := scan_tok (l.drop n) n kd q (by intro c hc; rw [hd] at hc; obtain rfl := Option.some.inj hc; exact hb) ht
     rw [hs, List.drop_drop]
     show Ev (fun k => tammyref06_Toks.l0 k (B l) (acc ++ [(⟨(kd : Int), (B l).extract ((n : Int) : Int).toNat (((n + q : Nat) : Int) : Int).toNat, (n : Int)⟩ : S48)]) ((n + q : Nat) : Int)) _
     rw [Int.toNat_natCast, Int.toNat_natCast, B_extract, show n + q - n = q from by omega]
     refine ev_eq (ih (l.length - (n + q)) (by omega) (n + q) _ (by omega) (by rw [List.length_append]; simp; omega)) ?_
     cases scan (l.drop (n + q)) 0 (n + q) with
     | error e => rfl
     | ok z => simp [res, enc]
 ·rw [hsz] at h1
  rw [List.drop_of_length_le (by omega)]
  exact ev_eq (Ev.now _) (by simp [scan, res])
theorem refToks_link (l : Bytes) (hl : l.length ≤ 1000000) : Ev (fun k => tammyref06_Toks.f k (B l)) (toksR l) := by
 unfold tammyref06_Toks.f toksR
 rw [B_size]
 refine Ev.cases_ite (fun h => ?_) (fun h => ?_)
 ·rw [if_pos (by omega)]; exact Ev.now _
 ·rw [if_neg (by omega)]
  have := refToks_l0 l hl l.length 0 [] (by omega) (by simp)
  rwa [List.drop_zero] at this
end Go.Proofs.YtniaooodlccmcaaGreatDoor.L

