import Derived.Test.YtniaooodlccmcaaGreatDoorRows
import Derived.Test.YtniaooodlccmcaaGreatDoorCards
import Derived.Test.YtniaooodlccmcaaGreatDoorTie
import Derived.Test.YtniaooodlccmcaaGreatDoorO
import Derived.Test.YtniaooodlccmcaaGreatDoorO2
import Derived.Test.YtniaooodlccmcaaGreatDoorPExprBrackets
import Derived.WalkKit
import Derived.LaidMore
import Derived.Stop.Joined
import Derived.SevenTiedAt
import Derived.ProofKit
import Derived.OpenShut
import Derived.ShutString
import Derived.ChangeOld
import Derived.Below
import Derived.SizedLaws
namespace Go.Proofs.YtniaooodlccmcaaGreatDoor.exprBrackets
open Go.ChangeShapes Go.WideShapes Go.ChangeAt Go.RowKit
open Go.ChangeMaps (open_string shut_string)
set_option linter.unusedVariables false
theorem own : ownKnob Tryz.prog.godebug = none := by kernel_rfl
theorem laidOut : laidOutB Tryz.prog = true := by kernel_rfl
theorem door_met (os : Os) (args : Array Value) : laidMetH Tryz.prog Rows.exprBracketsRow.laid ((World.doorLaid Tryz.prog 62 os).forCall (fun _ _ => 0) ⟨#[], args, []⟩).memory :=
 laidMetH_of_parts3 (fuel := 8) (laidMet_of_run' 8 (by kernel_rfl) (by kernel_rfl)) (by kernel_rfl) (by kernel_rfl)
set_option maxRecDepth 100000 in
theorem lifted (os : Os) (started : os.Started) (H : Type) (enc : TypeId × Value → H) :
  ReturnsInHanded {} Tryz.checked os 5 .any (fun w args => (Rows.exprBracketsSpec.pre enc Tryz.prog Tryz.f5 Rows.exprBracketsRow.domain false w args ∧ laidMetH Tryz.prog Rows.exprBracketsRow.laid w) ∧ sizedMet enc Tryz.prog Tryz.f5 (OpenSpec.ofChange Rows.exprBracketsSpec) false w args) (Rows.exprBracketsSpec.post enc Tryz.prog Tryz.f5 false true false false) := by
 refine returnsInHanded_of_change_and (C := Tryz.checked) (X := fun w _ => laidMetH Tryz.prog Rows.exprBracketsRow.laid w) (fun _ _ _ hh h => h.of_heap hh) own started (by kernel_rfl) Tryz.func5
  (ChangeSpec.witness_shaped (enc := enc) (C := Tryz.checked) (os := os) (X := fun w _ => laidMetH Tryz.prog Rows.exprBracketsRow.laid w) false (World.doorLaid Tryz.prog 62 os) #[.slice none 0 0, .int .u8 0] 8 rfl (World.shaped_of_RefB (by kernel_rfl) (by kernel_rfl)) (by kernel_rfl) (by kernel_rfl) (by kernel_rfl) (door_met os _)) ?_
 intro W base args ds gs before hval0 hW hcnd hsz0 hL _
 have hsz : (DataW.weightsEach Tryz.prog (Tryz.f5.params.toList ++ Rows.exprBracketsSpec.plain.varTypes Tryz.prog) (ds ++ gs)).all (· ≤ reachBytes) = true := hsz0
 have hval : ∀ (j : Nat) t v, Tryz.f5.params[j]? = some t → args[j]? = some v → Value.okWide Tryz.prog W .any base t v := hval0
 have hW' := hW
 obtain ⟨p, q, hA0, hV, rfl, hfz, hnd⟩ := hW
 have hA : DataW.TrodAll enc Tryz.prog W 0 (fun _ => true) true Tryz.f5.params.toList args.toList ds p := hA0
 rw [Tryz.params5] at hA hval hsz
 obtain ⟨v0, vs0, d0, ds0, p0, q0, hargs, rfl, rfl, h0, r0⟩ := trodAll_cons hA
 obtain ⟨v1, vs1, d1, ds1, p1, q1, rfl, rfl, rfl, h1, r1⟩ := trodAll_cons r0
 obtain ⟨rfl, rfl, rfl⟩ := trodAll_nil r1
 obtain rfl : args = #[v0, v1] := by cases args; simp_all
 obtain ⟨rfl, rfl⟩ := trodVars_none hV
 obtain ⟨a0, len0, cap0, rfl⟩ := okWide_slice Tryz.underlying22 (hval 0 22 v0 rfl rfl)
 have lt0 : ∀ x ∈ p0, x.block < W.heap.size := by obtain ⟨m, hm⟩ := h0; exact DataW.trod_lt m _ _ _ hm
 have k0 := h0
 obtain ⟨a1, rfl, rfl, rfl, w1⟩ := open_int Tryz.underlying5 (hval 1 5 v1 rfl rfl) h1
 have hall : ∀ (j : Nat) (t : TypeId) (d : DataW H), (Tryz.f5.params.toList ++ Rows.exprBracketsSpec.plain.varTypes Tryz.prog)[j]? = some t → ([d0, DataW.lit (.int .u8 a1)] ++ [])[j]? = some d → ∀ n ∈ d.weights Tryz.prog t, n ≤ reachBytes := by
  intro j t d ht hd n hn
  have := List.all_eq_true.1 hsz n (DataW.weights_mem_each ht hd n hn)
  simpa using this
 obtain ⟨l0, ⟨A0, c0, e0, hc0, hC0⟩, hO0⟩ : ∃ l, (Q.nodeSlice).K W l [.slice a0 len0 cap0] ∧ O.NodeOk l := by
  obtain ⟨fuel, hf⟩ := h0
  exact O.node_opens hf (hall 0 22 d0 rfl rfl)
 simp only [List.cons.injEq, Value.slice.injEq, and_true] at e0
 obtain ⟨rfl, rfl, rfl⟩ := e0
 have b1 : 0 ≤ a1 ∧ a1 ≤ 255 := by
  have h : (decide ((0 : Int) ≤ a1) && decide (a1 ≤ 255)) = true := w1
  rw [Bool.and_eq_true, decide_eq_true_eq, decide_eq_true_eq] at h
  exact h
 obtain ⟨k, hk⟩ := E.law_brackets l0 a1 hO0.1 hO0.2 b1.1 b1.2
 clear hA0 hval0 hsz0 hsz
 refine (Q.tammylaw07_ExprBrackets.calls k _ _ l0 a1 true W hC0 hc0 hk).mono fun e W' ⟨he, bel⟩ => ?_
 subst he
 exact ⟨_, rfl, _, _, _, [], _, [], hW', trodAll_mk1 (shut_bool Tryz.underlying4 _), (trodAll_cons_mk (Below.trod laidOut (by kernel_rfl) (of_decide_eq_true (by kernel_rfl)) k0 bel lt0) (trodAll_cons_mk (shut_int Tryz.underlying5 w1) trodAll_mk0)), rfl, bel.frame _, fun h => by cases h⟩
theorem over : Rows.exprBracketsRow.holds Tryz.pinned (OpenSpec.ofChange Rows.exprBracketsSpec) :=
 OpenClaim.holds_of_wide 5 Tryz.f5 rfl rfl rfl rfl rfl rfl rfl ⟨rfl, rfl, rfl, rfl, rfl⟩ rfl rfl rfl rfl rfl (by kernel_rfl) Tryz.func5 (by kernel_rfl)
  (of_decide_eq_true (by kernel_rfl)) (by unfold Func.isWrapper; first | (rw [if_pos (by decide +kernel)]; kernel_rfl) | (rw [if_neg (by decide +kernel)]; exact ⟨rfl, rfl⟩))
  (fun os started H enc _ => lifted os started H enc)
theorem proved : Rows.ExprBracketsSaid := over
theorem card : Rows.ExprBracketsCardSaid :=
 Claim7.holds_tied_plain_at .later [] [.data, .data, .data, .sentinel, .sentinel] true (true, "ccb3f892ad10696752e9326ebfe83f9fd9dc1ea9c7225d610c2c3c134acba6cb") true
  proved (fun _ h => by cases h) (by kernel_rfl) (fun _ h => by cases h) exprBrackets_row_tie rfl ⟨rfl, rfl⟩ (by kernel_rfl) rfl
  (fun f fn hf hfn => by
   obtain rfl : f = 5 := Option.some.inj ((show Tryz.prog.funcNamed "tammy/tammylaw07.ExprBrackets" = some 5 by kernel_rfl).symm.trans hf) |>.symm
   obtain rfl : fn = Tryz.f5 := (Option.some.inj (Tryz.func5.symm.trans hfn)).symm
   exact ⟨by kernel_rfl, fun j t ht => by
    rw [Tryz.params5] at ht
    have hm : t ∈ [22, 5] := by simpa using Array.mem_of_getElem? ht
    have hall : ([22, 5].all fun u => !Tryz.prog.wantsStandIn u) = true := by kernel_rfl
    exact (show Tryz.prog.wantsStandIn t = false by simpa using List.all_eq_true.1 hall t hm)⟩)
  (by kernel_rfl)
#print axioms card
end Go.Proofs.YtniaooodlccmcaaGreatDoor.exprBrackets
namespace Go.Proofs.YtniaooodlccmcaaGreatDoor
theorem exprBrackets_card : Rows.ExprBracketsCardSaid := exprBrackets.card
end Go.Proofs.YtniaooodlccmcaaGreatDoor

