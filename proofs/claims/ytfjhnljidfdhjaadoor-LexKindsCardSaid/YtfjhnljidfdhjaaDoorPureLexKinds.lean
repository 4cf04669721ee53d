/-
  LexKinds, over numbers and lists alone: a token's kind is told by its first byte; names and numbers are as long as they can be. (Mine.)
-/
import Derived.Test.YtfjhnljidfdhjaaDoorS
import Derived.Test.YtfjhnljidfdhjaaDoorQx10
set_option linter.unusedVariables false
set_option linter.unusedSimpArgs false
namespace Go.Proofs.YtfjhnljidfdhjaaDoor.Pure
open Go.RowKit Go.Proofs.YtfjhnljidfdhjaaDoorW.PrintWords Go.Proofs.YtfjhnljidfdhjaaDoorW.PrintLast
open Go.Proofs.YtfjhnljidfdhjaaDoor.Q Go.Proofs.YtfjhnljidfdhjaaDoor.M Go.Proofs.YtfjhnljidfdhjaaDoor.L
/-- What a token of a text is: where it stands, its kind, what follows. -/
structure Good (l : Bytes) (t : Tk) : Prop where
  at_ : t.pos + t.text.length ≤ l.length
  text : (l.drop t.pos).take t.text.length = t.text
  tok : tk1 (l.drop t.pos) = some (t.kind, t.text.length)
theorem Good.cons {l : Bytes} {t : Tk} (c : UInt8) (h : Good l t) : Good (c :: l) (shift 1 t) := by
  refine ⟨?_, ?_, ?_⟩
  · have := h.at_; simp only [shift, List.length_cons]; omega
  · simp only [shift, List.drop_succ_cons]; exact h.text
  · simp only [shift, List.drop_succ_cons]; exact h.tok
theorem scan_good : ∀ (l : Bytes) (s : Nat) (m : List Tk), scan l s 0 = .ok m → ∀ t ∈ m, Good l t
  | [], s, m, h => by simp only [scan, Except.ok.injEq] at h; subst h; simp
  | c :: r, s + 1, m, h => by
    simp only [scan] at h
    rw [show 0 + 1 = 0 + 1 from rfl, scan_shift r s 0 1] at h
    cases hs : scan r s 0 with
    | error e => rw [hs] at h; cases h
    | ok z =>
      rw [hs] at h
      simp only [Except.ok.injEq] at h
      subst h
      intro t ht
      obtain ⟨u, hu, rfl⟩ := List.mem_map.1 ht
      exact (scan_good r s z hs u hu).cons c
  | c :: r, 0, m, h => by
    simp only [scan] at h
    split at h
    · rw [scan_shift r 0 0 1] at h
      cases hs : scan r 0 0 with
      | error e => rw [hs] at h; cases h
      | ok z =>
        rw [hs] at h
        simp only [Except.ok.injEq] at h
        subst h
        intro t ht
        obtain ⟨u, hu, rfl⟩ := List.mem_map.1 ht
        exact (scan_good r 0 z hs u hu).cons c
    · split at h
      · cases h
      · rename_i k n hk
        rw [scan_shift r (n - 1) 0 1] at h
        cases hs : scan r (n - 1) 0 with
        | error e => rw [hs] at h; cases h
        | ok z =>
          rw [hs] at h
          simp only [Except.ok.injEq] at h
          subst h
          intro t ht
          rcases List.mem_cons.1 ht with rfl | ht
          · have hl := tok_len hk
            have htl : ((c :: r).take n).length = n := by rw [List.length_take]; omega
            refine ⟨?_, ?_, ?_⟩
            · simp only; rw [htl]; omega
            · simp only [List.drop_zero]; rw [htl]
            · simp only [List.drop_zero]; rw [htl]; exact hk
          · obtain ⟨u, hu, rfl⟩ := List.mem_map.1 ht
            exact (scan_good r (n - 1) z hs u hu).cons c
/-- What a token's kind says of its first byte, of its length, and of the byte behind it. -/
theorem tok_kind {l : Bytes} {k n : Nat} (h : tk1 l = some (k, n)) : ∃ c r, l = c :: r ∧ ((k = 2 ∧ fig c = true ∧ letter c = false) ∨ (k = 1 ∧ fig c = false ∧ letter c = true) ∨ (k = 3 ∧ fig c = false ∧ letter c = false ∧ n ≤ 2)) ∧
    (k = 2 → ∀ d, l[n]? = some d → fig d = false) ∧ (k = 1 → ∀ d, l[n]? = some d → inner d = false) := by
  cases l with
  | nil => cases h
  | cons c r =>
    refine ⟨c, r, rfl, ?_⟩
    simp only [tk1] at h
    by_cases h1 : letter c = true
    · rw [if_pos h1] at h
      simp only [Option.some.injEq, Prod.mk.injEq] at h
      obtain ⟨rfl, rfl⟩ := h
      have hf : fig c = false := by
        simp only [letter, Bool.or_eq_true, Bool.and_eq_true, decide_eq_true_eq] at h1
        simp only [fig, Bool.and_eq_false_iff, decide_eq_false_iff_not]; omega
      refine ⟨.inr (.inl ⟨rfl, hf, h1⟩), by simp, fun _ d hd => ?_⟩
      rw [Nat.add_comm, List.getElem?_cons_succ] at hd
      exact takeWhile_stop inner r d hd
    rw [if_neg h1] at h
    have h1' : letter c = false := by simpa using h1
    by_cases h2 : fig c = true
    · rw [if_pos h2] at h
      split at h
      · simp only [Option.some.injEq, Prod.mk.injEq] at h
        obtain ⟨rfl, rfl⟩ := h
        refine ⟨.inl ⟨rfl, h2, h1'⟩, fun _ d hd => ?_, by simp⟩
        rw [Nat.add_comm, List.getElem?_cons_succ] at hd
        exact takeWhile_stop fig r d hd
      · cases h
    rw [if_neg h2] at h
    have h2' : fig c = false := by simpa using h2
    split at h
    · simp only [Option.some.injEq, Prod.mk.injEq] at h
      obtain ⟨rfl, rfl⟩ := h
      exact ⟨.inr (.inr ⟨rfl, h2', h1', by omega⟩), by simp, by simp⟩
    split at h
    · simp only [Option.some.injEq, Prod.mk.injEq] at h
      obtain ⟨rfl, rfl⟩ := h
      exact ⟨.inr (.inr ⟨rfl, h2', h1', by omega⟩), by simp, by simp⟩
    · cases h
theorem fig_int (c : UInt8) : fig c = (decide ((c.toNat : Int) ≥ 48) && decide ((c.toNat : Int) ≤ 57)) := by
  unfold fig; congr 1 <;> rw [decide_eq_decide] <;> omega
theorem letter_int (c : UInt8) : letter c = ((decide ((c.toNat : Int) ≥ 97) && decide ((c.toNat : Int) ≤ 122)) || (decide ((c.toNat : Int) ≥ 65) && decide ((c.toNat : Int) ≤ 90))) := by
  unfold letter; congr 1 <;> congr 1 <;> rw [decide_eq_decide] <;> omega
set_option maxRecDepth 100000 in
theorem round (l : Bytes) (hl : l.length ≤ 1000) (ts : List Tk) (hg : ∀ t ∈ ts, Good l t) (i : Nat) (hi : i < ts.length)
    (next : Ev (fun k => tammylaw06_LexKinds.l0 k (B l) true (ts.map enc) (wrap64 ((i : Int) + 1))) true) :
    Ev (fun k => tammylaw06_LexKinds.l0 k (B l) true (ts.map enc) (i : Int)) true := by
  have hG := hg ts[i] (List.getElem_mem hi)
  have hrd : rd_T32 (ts.map enc) (i : Int) = enc ts[i] := by rw [rd_at _ i (by rw [List.length_map]; exact hi), List.getElem_map]
  obtain ⟨c, r, hd, hk, hf2, hf1⟩ := tok_kind hG.tok
  have hlen := tok_len hG.tok
  have hat := hG.at_
  have htx : ts[i].text.head? = some c := by
    rw [← hG.text, hd]
    obtain ⟨m, hm⟩ : ∃ m, ts[i].text.length = m + 1 := ⟨ts[i].text.length - 1, by omega⟩
    rw [hm]; rfl
  have hne : ts[i].text ≠ [] := by intro e; rw [e] at htx; cases htx
  have hbt0 : bt (B ts[i].text) 0 = (c.toNat : Int) := bt_B ts[i].text 0 c (by rw [← List.head?_eq_getElem?]; exact htx)
  refine Ev.step (fun k => tammylaw06_LexKinds.l0.eq_2 _ _ _ _ k) (Ev.ite_pos (by rw [List.length_map]; omega) (Ev.ite_pos (by omega) ?_))
  rw [hrd]
  simp only [enc]
  refine Ev.ite_neg (by rw [B_toList]; exact hne) (Ev.ite_neg (by omega) ?_)
  have hw : wrap64 ((ts[i].pos : Int) + ((B ts[i].text).size : Int)) = ((ts[i].pos + ts[i].text.length : Nat) : Int) := by
    rw [B_size, wrap64_nat (by omega) (by omega)]; omega
  have hdec : decide (((ts[i].pos + ts[i].text.length : Nat) : Int) > ((B l).size : Int)) = false := decide_eq_false (by rw [B_size]; omega)
  simp only [hw, hdec]
  refine Ev.step (fun k => tammylaw06_LexKinds.j1.eq_2 _ _ _ _ _ _ _ _ k) (Ev.ite_neg (by simp) (Ev.ite_pos (by rw [B_size]; omega) ?_))
  rw [hbt0]
  have behind : ∀ d, l[ts[i].pos + ts[i].text.length]? = some d → (ts[i].kind = 2 → fig d = false) ∧ (ts[i].kind = 1 → inner d = false) := by
    intro d hd'
    rw [← List.getElem?_drop] at hd'
    exact ⟨fun h => hf2 h d hd', fun h => hf1 h d hd'⟩
  have j4 : Ev (fun k => tammylaw06_LexKinds.j4 k (B l) true (ts.map enc) (i : Int) (fig c) (letter c) false (ts[i].kind : Int) (B ts[i].text) (ts[i].pos : Int)) true := by
    refine Ev.step (fun k => tammylaw06_LexKinds.j4.eq_2 _ _ _ _ _ _ _ _ _ _ k) (Ev.ite_neg (by simp) ?_)
    rw [hw]
    refine Ev.cases_ite (fun h1 => ?_) (fun _ => next)
    rw [B_size] at h1
    refine Ev.ite_pos (by omega) ?_
    have hlt : ts[i].pos + ts[i].text.length < l.length := by omega
    rw [bt_B l _ _ (List.getElem?_eq_getElem hlt)]
    have hb := behind _ (List.getElem?_eq_getElem hlt)
    generalize l[ts[i].pos + ts[i].text.length] = d at hb
    rcases hk with ⟨h2, h3, h4⟩ | ⟨h2, h3, h4⟩ | ⟨h2, h3, h4, _⟩
    · have hf := hb.1 h2
      simp only [fig, Bool.and_eq_false_iff, decide_eq_false_iff_not] at hf
      rw [h3, h4]
      repeat' (refine Ev.cases_ite (fun h => ?_) (fun h => ?_))
      all_goals first | exact next | exact absurd ‹false = true› (by simp) | exact absurd rfl ‹¬ true = true› | (exfalso; omega)
    · have hf := hb.2 h2
      simp only [inner, letter, fig, Bool.or_eq_false_iff, Bool.and_eq_false_iff, decide_eq_false_iff_not] at hf
      rw [h3, h4]
      repeat' (refine Ev.cases_ite (fun h => ?_) (fun h => ?_))
      all_goals first | exact next | exact absurd ‹false = true› (by simp) | exact absurd rfl ‹¬ true = true› | (exfalso; omega)
    · rw [h3, h4]
      repeat' (refine Ev.cases_ite (fun h => ?_) (fun h => ?_))
      all_goals first | exact next | exact absurd ‹false = true› (by simp) | exact absurd rfl ‹¬ true = true› | (exfalso; omega)
  have j3 : Ev (fun k => tammylaw06_LexKinds.j3 k (B l) true (ts.map enc) (i : Int) (fig c) (letter c) (ts[i].kind : Int) (B ts[i].text) (ts[i].pos : Int)) true := by
    refine Ev.step (fun k => tammylaw06_LexKinds.j3.eq_2 _ _ _ _ _ _ _ _ _ k) ?_
    rcases hk with ⟨h2, h3, h4⟩ | ⟨h2, h3, h4⟩ | ⟨h2, h3, h4, h5⟩
    · rw [h2] at j4 ⊢
      refine Ev.ite_neg (by rw [h3]; decide) (Ev.ite_neg (by rw [h4]; decide) (Ev.ite_neg (by decide) j4))
    · rw [h2] at j4 ⊢
      refine Ev.ite_neg (by rw [h3]; decide) (Ev.ite_neg (by rw [h4]; decide) (Ev.ite_neg (by decide) j4))
    · rw [h2] at j4 ⊢
      refine Ev.ite_neg (by rw [h3]; decide) (Ev.ite_neg (by rw [h4]; decide) (Ev.ite_pos (by decide) ?_))
      rw [decide_eq_false (by rw [B_size]; omega)]
      exact j4
  have j2 : Ev (fun k => tammylaw06_LexKinds.j2 k (B l) true (ts.map enc) (i : Int) (c.toNat : Int) (fig c) (ts[i].kind : Int) (B ts[i].text) (ts[i].pos : Int)) true := by
    refine Ev.step (fun k => tammylaw06_LexKinds.j2.eq_2 _ _ _ _ _ _ _ _ _ k) ?_
    have hL := letter_int c
    refine Ev.cases_ite (fun h1 => ?_) (fun h1 => ?_)
    · refine Ev.cases_ite (fun h2 => ?_) (fun h2 => ?_)
      · rw [decide_eq_true h1, decide_eq_true h2] at hL
        rw [show letter c = true from hL] at j3; exact j3
      · rw [decide_eq_true h1, decide_eq_false h2] at hL
        refine Ev.cases_ite (fun h3 => ?_) (fun h3 => ?_)
        · rw [decide_eq_true h3] at hL
          rw [show letter c = decide ((c.toNat : Int) ≤ 90) from by rw [hL]; simp] at j3; exact j3
        · exfalso; omega
    · rw [decide_eq_false h1] at hL
      refine Ev.cases_ite (fun h3 => ?_) (fun h3 => ?_)
      · rw [decide_eq_true h3] at hL
        rw [show letter c = decide ((c.toNat : Int) ≤ 90) from by rw [hL]; simp] at j3; exact j3
      · rw [decide_eq_false h3] at hL
        rw [show letter c = false from by rw [hL]; simp] at j3; exact j3
  have hF := fig_int c
  refine Ev.cases_ite (fun h1 => ?_) (fun h1 => ?_)
  · rw [decide_eq_true h1, Bool.true_and] at hF
    rw [hF] at j2; exact j2
  · rw [decide_eq_false h1, Bool.false_and] at hF
    rw [hF] at j2; exact j2
theorem rounds (l : Bytes) (hl : l.length ≤ 1000) (ts : List Tk) (hm : ts.length ≤ 1000) (hg : ∀ t ∈ ts, Good l t) : ∀ (d i : Nat), i + d = ts.length →
    Ev (fun k => tammylaw06_LexKinds.l0 k (B l) true (ts.map enc) (i : Int)) true := by
  intro d
  induction d with
  | zero =>
    intro i hi
    exact Ev.step (fun k => tammylaw06_LexKinds.l0.eq_2 _ _ _ _ k) (Ev.ite_neg (by rw [List.length_map]; omega) (Ev.now _))
  | succ d ih =>
    intro i hi
    refine round l hl ts hg i (by omega) ?_
    rw [wrap64_nat (by omega) (by omega), show ((i : Int) + 1) = ((i + 1 : Nat) : Int) from by omega]
    exact ih (i + 1) (by omega)
theorem LexKinds : tammylaw06_LexKinds.Pure := by
  intro a0 _
  obtain ⟨l, rfl⟩ : ∃ l, a0 = B l := ⟨_, B_of a0⟩
  refine Ev.rounds ?_
  unfold tammylaw06_LexKinds.f
  refine Ev.bind shown_link (Ev.cases_ite (fun h => Ev.now _) (fun h => ?_))
  rw [B_size] at h
  refine Ev.bind (Toks_link l (by omega)) ?_
  unfold toksR
  rw [if_neg (by omega)]
  cases hs : scan l 0 0 with
  | error e => exact rounds l (by omega) [] (by simp) (by simp) 0 0 rfl
  | ok m =>
    have := scan_many l 0 0 m hs
    exact rounds l (by omega) m (by omega) (scan_good l 0 m hs) m.length 0 (by omega)
end Go.Proofs.YtfjhnljidfdhjaaDoor.Pure
