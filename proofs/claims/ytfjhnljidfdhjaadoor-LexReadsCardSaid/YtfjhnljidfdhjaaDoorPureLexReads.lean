/-
  LexReads, over numbers and lists alone: the program's tokens of a text are the document's. (Mine.)
-/
import Derived.Test.YtfjhnljidfdhjaaDoorS
set_option linter.unusedVariables false
namespace Go.Proofs.YtfjhnljidfdhjaaDoor.Pure
open Go.RowKit Go.Proofs.YtfjhnljidfdhjaaDoorW.PrintWords Go.Proofs.YtfjhnljidfdhjaaDoorW.PrintLast
open Go.Proofs.YtfjhnljidfdhjaaDoor.Q Go.Proofs.YtfjhnljidfdhjaaDoor.M Go.Proofs.YtfjhnljidfdhjaaDoor.L
theorem LexReads : tammylaw06_LexReads.Pure := by
  intro a0 _
  obtain ⟨l, rfl⟩ : ∃ l, a0 = B l := ⟨_, B_of a0⟩
  refine Ev.rounds ?_
  unfold tammylaw06_LexReads.f
  refine Ev.bind shown_link (Ev.cases_ite (fun h => Ev.now _) (fun h => ?_))
  rw [B_size] at h
  have hm := toksR_many l
  refine Ev.bind (Toks_link l (by omega)) (Ev.bind (refToks_link l (by omega)) (Ev.ite_pos rfl (Ev.bind (Same_link _ _ (by omega)) (Ev.ite_pos (sm_refl _) (Ev.ite_pos rfl ?_)))))
  exact ev_eq (Ev.now _) (by simp)
end Go.Proofs.YtfjhnljidfdhjaaDoor.Pure
