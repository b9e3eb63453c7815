/- The plain law of DriveChecks. -/
import Derived.Test.YtjfmnkmgnbbfgaaA5
import Derived.Test.YtjfmnkmgnbbfgaaD1
set_option linter.unusedVariables false
namespace Go.Proofs.Ytjfmnkmgnbbfgaa.A
open Go.RowKit Go.Proofs.YtjfmnkmgnbbfgaaW.PrintWords Go.Proofs.YtjfmnkmgnbbfgaaW.PrintLast Go.Proofs.YtjfmnkmgnbbfgaaW.PrintMore
theorem DriveChecks_pure (l0 : List ByteArray) (l1 : List S27) (a n : Int) : ∃ k, hibernaclelaw15_DriveChecks.f k l0 l1 a n = some true := by
  obtain ⟨v, hv, hc⟩ := great_some l0 l1 a
  refine Ev.rounds (r := true) ?_
  unfold hibernaclelaw15_DriveChecks.f
  refine Ev.bind hv ?_
  rcases hc with rfl | ⟨rfl, h0, h1, h2, h3⟩
  · exact ⟨0, fun k _ => by rfl⟩
  · simp only [gt_iff_lt, Int.lt_irrefl, if_false]
    refine Ev.bind (drive_New_some n) (Ev.bind (hibernacleref15_New_some n) ?_)
    have hf : hibernaclelaw15_fixed.f = some true := rfl
    have hck : drive_Check.f l0 l1 a = some (checkV l0 l1) := by unfold drive_Check.f; rw [if_pos (by omega)]
    simp only [hf, Option.bind_some, if_true, hck]
    refine Ev.bind (rcheck_some l0 l1 a (by omega)) ?_
    simp only [if_true]
    split
    · next h => exact Ev.bind (same_some [] [] 0 (by simp) (by simp)) (Ev.now true)
    · next h =>
      refine Ev.bind (same_some (List.replicate n.toNat zeroS) [] (-1) ?_ (by simp)) (Ev.now true)
      rw [List.length_replicate]
      omega
end Go.Proofs.Ytjfmnkmgnbbfgaa.A
