/-
  LexTells of the given program answers true for every input, and each argument reads behind the call as it read before. Conditions: none but the row's own; the listed variables of Go's library are tied to the program's text by the card. (The row's frame: by the kit's print, turned by a program of the prover's into the card's.)
-/
import Derived.Test.YtfjhnljidfdhjaaDoorRows
import Derived.Test.YtfjhnljidfdhjaaDoorCards
import Derived.Test.YtfjhnljidfdhjaaDoorTie
import Derived.Test.YtfjhnljidfdhjaaDoorQx12
import Derived.Test.YtfjhnljidfdhjaaDoorO
import Derived.Test.YtfjhnljidfdhjaaDoorPureLexTells
import Derived.WalkKit
import Derived.LaidMore
import Derived.Stop.Joined
import Derived.SevenTiedAt
import Derived.ProofKit
import Derived.OpenShut
import Derived.ShutString
import Derived.ChangeOld
import Derived.Below
import Derived.SizedLaws
namespace Go.Proofs.YtfjhnljidfdhjaaDoor
open Go.Proofs.YtfjhnljidfdhjaaDoorW.PrintWords
def Q.tokSlice : Kd (List Q.S32) := Kd.slice 32 Q.k32
def O.TokOk (l : List Q.S32) : Prop := l.length ≤ 140737488355328 ∧ ∀ t ∈ l, t.f1.size ≤ 140737488351232
theorem O.tok32 : O.Opens Tryd.prog 32 Q.k32 (fun v : Q.S32 => v.f1.size ≤ 140737488351232) := by
  constructor
  intro H enc w base spare held fuel cs x h hw
  obtain ⟨v, h1, h2⟩ := (O.Opens.struct (g := fun v : Int × ByteArray × Int => (⟨v.1, v.2.1, v.2.2⟩ : Q.S32)) (f := fun x : Q.S32 => (x.f0, x.f1, x.f2)) Tryd.underlying32 (by kernel_rfl)
    (O.OpensF.cons rfl (by kernel_rfl) (O.Opens.int Tryd.underlying3) (O.OpensF.cons rfl (by kernel_rfl) (O.Opens.string Tryd.underlying9) (O.OpensF.last rfl (by kernel_rfl) (O.Opens.int Tryd.underlying3)))) (fun _ => rfl)).out h hw
  exact ⟨v, h1, h2.2.1⟩
theorem O.tok_opens {H : Type} {enc : TypeId × Value → H} {w : World} {base : Nat} {spare : Nat → Bool} {held : Bool} {fuel : Nat} {cs : List Value} {x : DataW H × List MemPlace}
    (h : DataW.trod enc Tryd.prog w base spare held fuel 23 cs = some x) (hw : ∀ n ∈ x.1.weights Tryd.prog 23, n ≤ reachBytes) : ∃ l, Q.tokSlice.K w l cs ∧ O.TokOk l := by
  obtain ⟨l, h1, h2, h3, h4⟩ := (O.Opens.slice Tryd.underlying23 (by kernel_rfl) (B := 32) (by kernel_rfl) O.tok32).out h hw
  exact ⟨l, h1, by omega, h4⟩
end Go.Proofs.YtfjhnljidfdhjaaDoor
namespace Go.Proofs.YtfjhnljidfdhjaaDoor.lexTells
open Go.ChangeShapes Go.WideShapes Go.ChangeAt Go.RowKit
open Go.ChangeMaps (open_string shut_string)
set_option linter.unusedVariables false
theorem own : ownKnob Tryd.prog.godebug = none := by kernel_rfl
theorem laidOut : laidOutB Tryd.prog = true := by kernel_rfl
/-- The door's own heap meets the condition: closed facts. -/
theorem door_met (os : Os) (args : Array Value) : laidMetH Tryd.prog Rows.lexTellsRow.laid ((World.doorLaid Tryd.prog 62 os).forCall (fun _ _ => 0) ⟨#[], args, []⟩).memory :=
  laidMetH_of_parts3 (fuel := 8) (laidMet_of_run' 8 (by kernel_rfl) (by kernel_rfl)) (by kernel_rfl) (by kernel_rfl)
set_option maxRecDepth 100000 in
theorem lifted (os : Os) (started : os.Started) (H : Type) (enc : TypeId × Value → H) :
    ReturnsInHanded {} Tryd.checked os 9 .any (fun w args => (Rows.lexTellsSpec.pre enc Tryd.prog Tryd.f9 Rows.lexTellsRow.domain false w args ∧ laidMetH Tryd.prog Rows.lexTellsRow.laid w) ∧ sizedMet enc Tryd.prog Tryd.f9 (OpenSpec.ofChange Rows.lexTellsSpec) false w args) (Rows.lexTellsSpec.post enc Tryd.prog Tryd.f9 false true false false) := by
  refine returnsInHanded_of_change_and (C := Tryd.checked) (X := fun w _ => laidMetH Tryd.prog Rows.lexTellsRow.laid w) (fun _ _ _ hh h => h.of_heap hh) own started (by kernel_rfl) Tryd.func9
    (ChangeSpec.witness_shaped (enc := enc) (C := Tryd.checked) (os := os) (X := fun w _ => laidMetH Tryd.prog Rows.lexTellsRow.laid w) false (World.doorLaid Tryd.prog 62 os) #[.slice none 0 0, .slice none 0 0, .string ByteArray.empty] 8 rfl (World.shaped_of_RefB (by kernel_rfl) (by kernel_rfl)) (by kernel_rfl) (by kernel_rfl) (by kernel_rfl) (door_met os _)) ?_
  intro W base args ds gs before hval0 hW hcnd hsz0 hL _
  have hsz : (DataW.weightsEach Tryd.prog (Tryd.f9.params.toList ++ Rows.lexTellsSpec.plain.varTypes Tryd.prog) (ds ++ gs)).all (· ≤ reachBytes) = true := hsz0
  have hval : ∀ (j : Nat) t v, Tryd.f9.params[j]? = some t → args[j]? = some v → Value.okWide Tryd.prog W .any base t v := hval0
  have hW' := hW
  obtain ⟨p, q, hA0, hV, rfl, hfz, hnd⟩ := hW
  have hA : DataW.TrodAll enc Tryd.prog W 0 (fun _ => true) true Tryd.f9.params.toList args.toList ds p := hA0
  rw [Tryd.params9] at hA hval hsz
  obtain ⟨v0, vs0, d0, ds0, p0, q0, hargs, rfl, rfl, h0, r0⟩ := trodAll_cons hA
  obtain ⟨v1, vs1, d1, ds1, p1, q1, rfl, rfl, rfl, h1, r1⟩ := trodAll_cons r0
  obtain ⟨v2, vs2, d2, ds2, p2, q2, rfl, rfl, rfl, h2, r2⟩ := trodAll_cons r1
  obtain ⟨rfl, rfl, rfl⟩ := trodAll_nil r2
  obtain rfl : args = #[v0, v1, v2] := by cases args; simp_all
  obtain ⟨rfl, rfl⟩ := trodVars_none hV
  obtain ⟨a0, len0, cap0, rfl⟩ := okWide_slice Tryd.underlying23 (hval 0 23 v0 rfl rfl)
  obtain ⟨a1, len1, cap1, rfl⟩ := okWide_slice Tryd.underlying23 (hval 1 23 v1 rfl rfl)
  obtain ⟨a2, rfl, rfl, rfl, y2⟩ := open_string Tryd.underlying9 (hval 2 9 v2 rfl rfl) h2
  have lt0 : ∀ x ∈ p0, x.block < W.heap.size := by obtain ⟨m, hm⟩ := h0; exact DataW.trod_lt m _ _ _ hm
  have lt1 : ∀ x ∈ p1, x.block < W.heap.size := by obtain ⟨m, hm⟩ := h1; exact DataW.trod_lt m _ _ _ hm
  have hall : ∀ (j : Nat) (t : TypeId) (d : DataW H), (Tryd.f9.params.toList ++ Rows.lexTellsSpec.plain.varTypes Tryd.prog)[j]? = some t → ([d0, d1, DataW.lit (.string a2.data.toList)] ++ [])[j]? = some d → ∀ n ∈ d.weights Tryd.prog t, n ≤ reachBytes := by
    intro j t d ht hd n hn
    have := List.all_eq_true.1 hsz n (DataW.weights_mem_each ht hd n hn)
    simpa using this
  have k0 := h0
  have k1 := h1
  obtain ⟨l0, ⟨A0, c0, e0, hc0, hC0⟩, hO0⟩ : ∃ l, (Q.tokSlice).K W l [.slice a0 len0 cap0] ∧ O.TokOk l := by
    obtain ⟨fuel, hf⟩ := h0
    exact O.tok_opens hf (hall 0 23 d0 rfl rfl)
  obtain ⟨l1, ⟨A1, c1, e1, hc1, hC1⟩, hO1⟩ : ∃ l, (Q.tokSlice).K W l [.slice a1 len1 cap1] ∧ O.TokOk l := by
    obtain ⟨fuel, hf⟩ := h1
    exact O.tok_opens hf (hall 1 23 d1 rfl rfl)
  simp only [List.cons.injEq, Value.slice.injEq, and_true] at e0 e1
  obtain ⟨rfl, rfl, rfl⟩ := e0
  obtain ⟨rfl, rfl, rfl⟩ := e1
  obtain ⟨k, hk⟩ := Pure.LexTells l0 l1 a2 hO0.1 hO1.1 hO0.2 hO1.2
  clear hA0 hval0 hsz0 hsz
  refine (Q.tammylaw06_LexTells.calls k _ _ l0 _ _ l1 a2 true W hC0 hc0 hC1 hc1 hk).mono fun e W' ⟨he, bel⟩ => ?_
  subst he
  exact ⟨_, rfl, _, _, _, [], _, [], hW', trodAll_mk1 (shut_bool Tryd.underlying4 _), (trodAll_cons_mk (Below.trod laidOut (by kernel_rfl) (of_decide_eq_true (by kernel_rfl)) k0 bel lt0) (trodAll_cons_mk (Below.trod laidOut (by kernel_rfl) (of_decide_eq_true (by kernel_rfl)) k1 bel lt1) (trodAll_cons_mk (shut_string Tryd.underlying9 y2) trodAll_mk0))), rfl, bel.frame _, fun h => by cases h⟩
theorem over : Rows.lexTellsRow.holds Tryd.pinned (OpenSpec.ofChange Rows.lexTellsSpec) :=
  OpenClaim.holds_of_wide 9 Tryd.f9 rfl rfl rfl rfl rfl rfl rfl ⟨rfl, rfl, rfl, rfl, rfl⟩ rfl rfl rfl rfl rfl (by kernel_rfl) Tryd.func9 (by kernel_rfl)
    (of_decide_eq_true (by kernel_rfl)) (by unfold Func.isWrapper; first | (rw [if_pos (by decide +kernel)]; kernel_rfl) | (rw [if_neg (by decide +kernel)]; exact ⟨rfl, rfl⟩))
    (fun os started H enc _ => lifted os started H enc)
theorem proved : Rows.LexTellsSaid := over

theorem card : Rows.LexTellsCardSaid :=
  Claim7.holds_tied_plain_at .later [] [.data, .data, .data, .sentinel, .sentinel] true (true, "86450f7b1d6e06000552b0c0a64a775caf93cade47a2c08b5abe1cf14b611c5d") true
    proved (fun _ h => by cases h) (by kernel_rfl) (fun _ h => by cases h) lexTells_row_tie rfl ⟨rfl, rfl⟩ (by kernel_rfl) rfl
    (fun f fn hf hfn => by
      obtain rfl : f = 9 := Option.some.inj ((show Tryd.prog.funcNamed "tammy/tammylaw06.LexTells" = some 9 by kernel_rfl).symm.trans hf) |>.symm
      obtain rfl : fn = Tryd.f9 := (Option.some.inj (Tryd.func9.symm.trans hfn)).symm
      exact ⟨by kernel_rfl, fun j t ht => by
        rw [Tryd.params9] at ht
        have hm : t ∈ [23, 23, 9] := by simpa using Array.mem_of_getElem? ht
        have hall : ([23, 23, 9].all fun u => !Tryd.prog.wantsStandIn u) = true := by kernel_rfl
        exact (show Tryd.prog.wantsStandIn t = false by simpa using List.all_eq_true.1 hall t hm)⟩)
    (by kernel_rfl)
#print axioms card
end Go.Proofs.YtfjhnljidfdhjaaDoor.lexTells
namespace Go.Proofs.YtfjhnljidfdhjaaDoor
/-- The row, under a short name, for the claim. -/
theorem lexTells_card : Rows.LexTellsCardSaid := lexTells.card
end Go.Proofs.YtfjhnljidfdhjaaDoor
