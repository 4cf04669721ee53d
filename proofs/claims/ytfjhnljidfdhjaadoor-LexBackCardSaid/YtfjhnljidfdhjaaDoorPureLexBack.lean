/-
  LexBack, over numbers and lists alone: tokens stand in their text where they say, one behind the other; the text of them has them again. (Mine.)
-/
import Derived.Test.YtfjhnljidfdhjaaDoorS
import Derived.Test.YtfjhnljidfdhjaaDoorQx7
set_option linter.unusedVariables false
set_option linter.unusedSimpArgs false
namespace Go.Proofs.YtfjhnljidfdhjaaDoor.Pure
open Go.RowKit Go.Proofs.YtfjhnljidfdhjaaDoorW.PrintWords Go.Proofs.YtfjhnljidfdhjaaDoorW.PrintLast
open Go.Proofs.YtfjhnljidfdhjaaDoor.Q Go.Proofs.YtfjhnljidfdhjaaDoor.M Go.Proofs.YtfjhnljidfdhjaaDoor.L
theorem takeWhile_at {α : Type} (p : α → Bool) : ∀ (l : List α) (i : Nat), i < (l.takeWhile p).length → ∀ c, l[i]? = some c → p c = true
  | [], i, h, c, hc => by simp at hc
  | a :: t, i, h, c, hc => by
    rw [List.takeWhile_cons] at h
    split at h
    · rename_i ha
      cases i with
      | zero => rw [List.getElem?_cons_zero] at hc; obtain rfl := Option.some.inj hc; exact ha
      | succ i => rw [List.getElem?_cons_succ] at hc; exact takeWhile_at p t i (by simp only [List.length_cons] at h; omega) c hc
    · simp at h
theorem tok_not_blank {c : UInt8} {r : Bytes} {kn : Nat × Nat} (h : tk1 (c :: r) = some kn) : blk c = false := by
  cases hb : blk c with
  | false => rfl
  | true =>
    exfalso
    have hn : c.toNat = 32 ∨ c.toNat = 9 ∨ c.toNat = 10 := by simp [blk] at hb; omega
    have h1 : letter c = false := by simp only [letter, Bool.or_eq_false_iff, Bool.and_eq_false_iff, decide_eq_false_iff_not]; omega
    have h2 : fig c = false := by simp only [fig, Bool.and_eq_false_iff, decide_eq_false_iff_not]; omega
    have h3 : signB c = false := by
      have e : c = 32 ∨ c = 9 ∨ c = 10 := by
        rcases hn with h | h | h
        · exact .inl (UInt8.toNat_inj.1 h)
        · exact .inr (.inl (UInt8.toNat_inj.1 h))
        · exact .inr (.inr (UInt8.toNat_inj.1 h))
      rcases e with rfl | rfl | rfl <;> rfl
    simp only [tk1] at h
    rw [if_neg (by simp [h1]), if_neg (by simp [h2]), if_neg (by omega), if_neg (by simp [h3])] at h
    cases h
/-- The tokens stand one behind the other, from a place on, blanks alone between. -/
def Chain (l : Bytes) : Nat → List Tk → Prop
  | _, [] => True
  | e, t :: ts => e ≤ t.pos ∧ (∀ j, e ≤ j → j < t.pos → ∀ c, l[j]? = some c → blk c = true) ∧ t.pos + t.text.length ≤ l.length ∧ (l.drop t.pos).take t.text.length = t.text ∧ tk1 t.text = some (t.kind, t.text.length) ∧ Chain l (t.pos + t.text.length) ts
theorem chain_of (l : Bytes) : ∀ (d n : Nat) (m : List Tk), n + d = l.length → scan (l.drop n) 0 n = .ok m → Chain l n m := by
  intro d
  induction d using Nat.strongRecOn with
  | _ d ih =>
  intro n m hn h
  rw [scan_blanks (l.drop n) n, List.drop_drop] at h
  have hm := takeWhile_le blk (l.drop n)
  rw [List.length_drop] at hm
  have hstop := takeWhile_stop blk (l.drop n)
  have hgap := takeWhile_at blk (l.drop n)
  generalize ((l.drop n).takeWhile blk).length = q at h hm hstop hgap
  rw [List.getElem?_drop] at hstop
  by_cases hlt : n + q < l.length
  · have hhead : ∀ c, (l.drop (n + q)).head? = some c → blk c = false := by
      intro c hc
      rw [List.head?_drop] at hc
      exact hstop c hc
    cases ht : tk1 (l.drop (n + q)) with
    | none =>
      cases hd : l.drop (n + q) with
      | nil =>
        have := congrArg List.length hd
        rw [List.length_drop] at this
        simp at this; omega
      | cons c r =>
        rw [hd] at ht hhead h
        rw [scan_none c r (n + q) (hhead c rfl) ht] at h
        cases h
    | some kn =>
      obtain ⟨k, w⟩ := kn
      have hw := tok_len ht
      rw [List.length_drop] at hw
      rw [scan_tok _ _ _ _ hhead ht, List.drop_drop] at h
      have htl : ((l.drop (n + q)).take w).length = w := by rw [List.length_take, List.length_drop]; omega
      cases hs : scan (l.drop (n + q + w)) 0 (n + q + w) with
      | error e => rw [hs] at h; cases h
      | ok z =>
        rw [hs] at h
        simp only [Except.ok.injEq] at h
        subst h
        refine ⟨by simp only; omega, ?_, ?_, ?_, ?_, ?_⟩
        · intro j h1 h2 c hc
          simp only at h2
          refine hgap (j - n) (by omega) c ?_
          rw [List.getElem?_drop, show n + (j - n) = j from by omega]; exact hc
        · simp only; rw [htl]; omega
        · simp only; rw [htl]
        · simp only; rw [htl]; exact tok_take ht
        · simp only; rw [htl]
          exact ih (l.length - (n + q + w)) (by omega) (n + q + w) z (by omega) hs
  · have : l.drop (n + q) = [] := List.drop_of_length_le (by omega)
    rw [this] at h
    simp only [scan, Except.ok.injEq] at h
    subst h
    trivial
theorem chain_len (l : Bytes) : ∀ (m : List Tk) (e : Nat), e ≤ l.length → Chain l e m → (jn (m.map (·.text))).length ≤ 2 * (l.length - e)
  | [], e, he, h => by simp [jn]
  | [t], e, he, h => by
    obtain ⟨h1, _, h2, _, _, _⟩ := h
    simp only [List.map_cons, List.map_nil, jn]; omega
  | t :: u :: r, e, he, h => by
    obtain ⟨h1, _, h2, _, h3, h4⟩ := h
    have := chain_len l (u :: r) _ h2 h4
    have h5 := (tok_len h3).1
    simp only [List.map_cons] at this ⊢
    simp only [jn, List.length_append, List.length_cons]
    omega
/-- The tokens' text has them again. -/
theorem scan_one (x : Bytes) (k p : Nat) (h : tk1 x = some (k, x.length)) : scan x 0 p = .ok [⟨k, x, p⟩] := by
  cases x with
  | nil => cases h
  | cons c r =>
    rw [scan_tok (c :: r) p k _ (by intro a ha; obtain rfl := Option.some.inj ha; exact tok_not_blank h) h, List.drop_of_length_le (Nat.le_refl _), List.take_of_length_le (Nat.le_refl _)]
    rfl
theorem scan_jn : ∀ (m : List Tk) (p : Nat), (∀ t ∈ m, tk1 t.text = some (t.kind, t.text.length)) →
    ∃ z, scan (jn (m.map (·.text))) 0 p = .ok z ∧ z.map (fun t => (t.kind, t.text)) = m.map (fun t => (t.kind, t.text))
  | [], p, h => ⟨[], rfl, rfl⟩
  | [t], p, h => ⟨[⟨t.kind, t.text, p⟩], scan_one t.text t.kind p (h t (by simp)), rfl⟩
  | t :: u :: r, p, h => by
    obtain ⟨z, hz, he⟩ := scan_jn (u :: r) (p + t.text.length + 1) (fun v hv => h v (by simp [hv]))
    refine ⟨⟨t.kind, t.text, p⟩ :: z, ?_, by rw [List.map_cons, he]; rfl⟩
    simp only [List.map_cons] at hz ⊢
    simp only [jn]
    rw [scan_append (32 :: jn (u.text :: r.map (·.text))) (by intro c hc; obtain rfl := Option.some.inj hc; rfl) t.text 0 p (Nat.zero_le _), scan_one t.text t.kind p (h t (by simp)), scan_blank 32 _ _ rfl, hz]
    rfl
theorem chain_tok (l : Bytes) : ∀ (m : List Tk) (e : Nat), Chain l e m → ∀ t ∈ m, tk1 t.text = some (t.kind, t.text.length)
  | [], e, h, t, ht => by simp at ht
  | u :: r, e, h, t, ht => by
    obtain ⟨_, _, _, _, h3, h4⟩ := h
    rcases List.mem_cons.1 ht with rfl | ht
    · exact h3
    · exact chain_tok l r _ h4 t ht
theorem back_l2 (m z : List Tk) (hm : m.length ≤ 1000000) (h : z.map (fun t => (t.kind, t.text)) = m.map (fun t => (t.kind, t.text))) : ∀ (d i : Nat), i + d = m.length →
    Ev (fun k => tammylaw06_LexBack.l2 k true (m.map enc) (z.map enc) (i : Int)) true := by
  have hl : z.length = m.length := by have := congrArg List.length h; simpa using this
  intro d
  induction d with
  | zero =>
    intro i hi
    exact Ev.step (fun k => tammylaw06_LexBack.l2.eq_2 _ _ _ _ k) (Ev.ite_neg (by rw [List.length_map]; omega) (Ev.now _))
  | succ d ih =>
    intro i hi
    have h1 : i < m.length := by omega
    have h2 : i < z.length := by omega
    have he : (z[i].kind, z[i].text) = (m[i].kind, m[i].text) := by
      have h3 := congrArg (fun l => l[i]?) h
      simp only [List.getElem?_map, List.getElem?_eq_getElem h1, List.getElem?_eq_getElem h2, Option.map_some, Option.some.injEq] at h3
      exact h3
    simp only [Prod.mk.injEq] at he
    refine Ev.step (fun k => tammylaw06_LexBack.l2.eq_2 _ _ _ _ k) (Ev.ite_pos (by rw [List.length_map]; omega) (Ev.ite_pos (by omega) (Ev.ite_pos (by rw [List.length_map]; omega) ?_)))
    rw [rd_at _ i (by rw [List.length_map]; omega), rd_at _ i (by rw [List.length_map]; omega), List.getElem_map, List.getElem_map]
    refine Ev.ite_pos (by simp only [enc]; rw [he.1]) (Ev.ite_pos (by simp only [enc]; rw [he.2]) ?_)
    rw [wrap64_nat (by omega) (by omega), show ((i : Int) + 1) = ((i + 1 : Nat) : Int) from by omega]
    exact ih (i + 1) (by omega)
theorem back_l1 (l : Bytes) (hl : l.length ≤ 1000) (ts : List S32) (i : Int) (t : Tk) (ht : t.pos + t.text.length ≤ l.length)
    (next : Ev (fun k => tammylaw06_LexBack.l0 k (B l) true ts ((t.pos + t.text.length : Nat) : Int) (wrap64 (i + 1))) true) : ∀ (d n : Nat), n + d = t.pos → (∀ j, n ≤ j → j < t.pos → ∀ c, l[j]? = some c → blk c = true) →
    Ev (fun k => tammylaw06_LexBack.l1 k (B l) true ts i (n : Int) (t.kind : Int) (B t.text) (t.pos : Int)) true := by
  intro d
  induction d with
  | zero =>
    intro n hn _
    refine Ev.step (fun k => tammylaw06_LexBack.l1.eq_2 _ _ _ _ _ _ _ _ k) (Ev.ite_neg (by omega) ?_)
    rw [B_size, wrap64_nat (x := (t.pos : Int) + (t.text.length : Int)) (by omega) (by omega), show ((t.pos : Int) + (t.text.length : Int)) = ((t.pos + t.text.length : Nat) : Int) from by omega]
    exact next
  | succ d ih =>
    intro n hn hg
    have hlt : n < l.length := by omega
    refine Ev.step (fun k => tammylaw06_LexBack.l1.eq_2 _ _ _ _ _ _ _ _ k) (Ev.ite_pos (by omega) (Ev.ite_pos (by omega) (Ev.ite_pos (by rw [B_size]; omega) ?_)))
    rw [bt_B l n l[n] (List.getElem?_eq_getElem hlt), wrap64_nat (by omega) (by omega), show ((n : Int) + 1) = ((n + 1 : Nat) : Int) from by omega]
    have go := ih (n + 1) (by omega) (fun j h1 h2 => hg j (by omega) h2)
    have hb := hg n (Nat.le_refl _) (by omega) l[n] (List.getElem?_eq_getElem hlt)
    have hn3 : l[n].toNat = 32 ∨ l[n].toNat = 9 ∨ l[n].toNat = 10 := by simp [blk] at hb; omega
    refine Ev.cases_ite (fun _ => go) (fun h1 => Ev.cases_ite (fun _ => go) (fun h2 => Ev.cases_ite (fun _ => go) (fun h3 => ?_)))
    exfalso; omega
theorem back_l0 (l : Bytes) (hl : l.length ≤ 1000) (m : List Tk) (hm : m.length ≤ 1000)
    (fin : ∀ e : Nat, Ev (fun k => (lex_Text.f k (m.map enc)).bind fun t178 => ((lex_Toks.f k t178).bind fun bt179 => (if bt179.2.2 = 0 then (tammylaw06_LexBack.j3 k true (m.map enc) bt179.1 ((bt179.1.length : Int) != ((m.map enc).length : Int))) else (tammylaw06_LexBack.j3 k true (m.map enc) bt179.1 true)))) true) :
    ∀ (d i e : Nat), i + d = m.length → Chain l e (m.drop i) →
    Ev (fun k => tammylaw06_LexBack.l0 k (B l) true (m.map enc) (e : Int) (i : Int)) true := by
  intro d
  induction d with
  | zero =>
    intro i e hi _
    exact Ev.step (fun k => tammylaw06_LexBack.l0.eq_2 _ _ _ _ _ k) (Ev.ite_neg (by rw [List.length_map]; omega) (fin e))
  | succ d ih =>
    intro i e hi hc
    have hlt : i < m.length := by omega
    rw [List.drop_eq_getElem_cons hlt] at hc
    obtain ⟨h1, h2, h3, h4, h5, h6⟩ := hc
    refine Ev.step (fun k => tammylaw06_LexBack.l0.eq_2 _ _ _ _ _ k) (Ev.ite_pos (by rw [List.length_map]; omega) (Ev.ite_pos (by omega) ?_))
    rw [rd_at _ i (by rw [List.length_map]; omega), List.getElem_map]
    generalize m[i] = t at h1 h2 h3 h4 h5 h6
    have h7 := (tok_len h5).1
    have next : Ev (fun k => tammylaw06_LexBack.l0 k (B l) true (m.map enc) ((t.pos + t.text.length : Nat) : Int) (wrap64 ((i : Int) + 1))) true := by
      rw [wrap64_nat (by omega) (by omega), show ((i : Int) + 1) = ((i + 1 : Nat) : Int) from by omega]
      exact ih (i + 1) _ (by omega) h6
    simp only [enc]
    have hw : wrap64 ((t.pos : Int) + ((B t.text).size : Int)) = ((t.pos + t.text.length : Nat) : Int) := by
      rw [B_size, wrap64_nat (by omega) (by omega)]; omega
    simp only [hw]
    have hne : ((B l).extract ((t.pos : Int) : Int).toNat (((t.pos + t.text.length : Nat) : Int) : Int).toNat).toList = t.text := by
      rw [Int.toNat_natCast, Int.toNat_natCast, B_extract, B_toList, show t.pos + t.text.length - t.pos = t.text.length from by omega]; exact h4
    refine Ev.ite_neg (by omega) (Ev.ite_neg ?_ (Ev.ite_neg (by rw [B_size]; omega) (Ev.ite_pos (by omega) (Ev.ite_pos (by omega) (Ev.ite_pos (by rw [B_size]; omega) ?_)))))
    · rw [B_toList]; intro e0; rw [e0] at h7; simp at h7
    · rw [hne, B_toList]
      have hb : (t.text != t.text) = false := by simp
      rw [hb]
      refine Ev.step (fun k => tammylaw06_LexBack.j1.eq_2 _ _ _ _ _ _ _ _ _ k) (Ev.ite_neg (by simp) ?_)
      exact back_l1 l hl (m.map enc) (i : Int) t h3 next (t.pos - e) e (by omega) h2
theorem LexBack : tammylaw06_LexBack.Pure := by
  intro a0 _
  obtain ⟨l, rfl⟩ : ∃ l, a0 = B l := ⟨_, B_of a0⟩
  refine Ev.rounds ?_
  unfold tammylaw06_LexBack.f
  refine Ev.bind shown_link (Ev.cases_ite (fun h => Ev.now _) (fun h => ?_))
  rw [B_size] at h ⊢
  refine Ev.bind (Toks_link l (by omega)) ?_
  unfold toksR
  rw [if_neg (by omega)]
  cases hs : scan l 0 0 with
  | error e =>
    have he : e < l.length := by
      have key : ∀ (l : Bytes) (s p e : Nat), scan l s p = .error e → p ≤ e ∧ e < p + l.length := by
        intro l
        induction l with
        | nil => intro s p e h; simp [scan] at h
        | cons c r ih =>
          intro s p e h
          cases s with
          | succ s => simp only [scan] at h; have := ih s (p + 1) e h; simp only [List.length_cons]; omega
          | zero =>
            simp only [scan] at h
            split at h
            · have := ih 0 (p + 1) e h; simp only [List.length_cons]; omega
            · split at h
              · simp only [Except.error.injEq] at h; simp only [List.length_cons]; omega
              · rename_i k n _
                cases hs : scan r (n - 1) (p + 1) with
                | ok z => rw [hs] at h; cases h
                | error e' =>
                  rw [hs] at h
                  simp only [Except.error.injEq] at h
                  have := ih (n - 1) (p + 1) e' hs
                  simp only [List.length_cons]; omega
      have := key l 0 0 e hs
      omega
    refine Ev.ite_neg (by simp [res]) (Ev.ite_pos rfl (Ev.ite_pos rfl (Ev.ite_pos rfl (Ev.ite_pos ?_ (ev_eq (Ev.now _) ?_)))))
    · simp only [res]; omega
    · simp only [res]; simp; omega
  | ok m =>
    have hm := scan_many l 0 0 m hs
    have hc : Chain l 0 m := chain_of l l.length 0 m (by omega) (by rw [List.drop_zero]; exact hs)
    have hlen := chain_len l m 0 (Nat.zero_le _) hc
    refine Ev.ite_pos rfl ?_
    simp only [res, List.nil_append]
    have htxt : txt (m.map enc) = m.map (·.text) := by
      unfold txt; rw [List.map_map]; apply List.map_congr_left; intro t _; rfl
    refine back_l0 l (by omega) m (by omega) (fun e => ?_) m.length 0 0 (by omega) (by rw [List.drop_zero]; exact hc)
    refine Ev.bind (Text_link (m.map enc) (by rw [List.length_map]; omega) (by rw [htxt]; omega)) ?_
    rw [htxt]
    refine Ev.bind (Toks_link _ (by omega)) ?_
    obtain ⟨z, hz, he⟩ := scan_jn m 0 (chain_tok l m 0 hc)
    have hzl : z.length = m.length := by have := congrArg List.length he; simpa using this
    unfold toksR
    rw [if_neg (by omega), hz]
    refine Ev.ite_pos rfl ?_
    simp only [res, List.nil_append]
    have hb : ((((z.map enc).length : Nat) : Int) != (((m.map enc).length : Nat) : Int)) = false := by simp [hzl]
    rw [hb]
    refine Ev.step (fun k => tammylaw06_LexBack.j3.eq_2 _ _ _ _ k) (Ev.ite_neg (by simp) ?_)
    exact back_l2 m z (by omega) he m.length 0 (by omega)
end Go.Proofs.YtfjhnljidfdhjaaDoor.Pure
