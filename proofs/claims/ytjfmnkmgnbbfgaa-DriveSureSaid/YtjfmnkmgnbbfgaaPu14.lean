/- The plain law of DriveSure. -/
import Derived.Test.YtjfmnkmgnbbfgaaA14
import Derived.Test.YtjfmnkmgnbbfgaaD1s
import Derived.Test.YtjfmnkmgnbbfgaaD2
set_option linter.unusedVariables false
namespace Go.Proofs.Ytjfmnkmgnbbfgaa.A
open Go.RowKit Go.Proofs.YtjfmnkmgnbbfgaaW.PrintWords Go.Proofs.YtjfmnkmgnbbfgaaW.PrintLast Go.Proofs.YtjfmnkmgnbbfgaaW.PrintMore
theorem copied_some (b : List ByteArray) (p : List S27) (a : Int) (hb : b.length ≤ 256) (hp : p.length ≤ 60) : drive_copied.f b p a = some (b, p, a) := by
  unfold drive_copied.f slices_Clone_string_string.f api_Write_111.f
  rw [if_pos (by omega), Option.bind_some, if_pos (by omega), Option.bind_some]
theorem through_some (b : List ByteArray) (p : List S27) (a : Int) (hb : b.length ≤ 256) (hp : p.length ≤ 60) : drive_through.f b p a = some (b, p, if a = 0 then a else if a > 0 then wrap64 (a - 1) else a, if a = 0 then 17 else 0) := by
  unfold drive_through.f
  rw [copied_some b p a hb hp, Option.bind_some]
  dsimp only
  by_cases h0 : a = 0
  · simp [h0]
  · by_cases h1 : a > 0
    · simp [h0, h1]
    · simp [h0, h1]
theorem sure_l0 (b b2 : List ByteArray) (p : List S27) (a a2 : Int) (hb : b.length ≤ 256) (hp : p.length ≤ 60) (hl : b2.length = b.length) (hg : ∀ i : Int, 0 ≤ i → i < b.length → rdOf ByteArray.empty b2 i = getV b p i) (d : Nat) : ∀ k i, i + d = b.length → d < k →
    hibernaclelaw15_DriveSure.l0 k (b.length : Int) (i : Int) b p a b2 [] a2 = some true := by
  induction d with
  | zero =>
    intro k i hi hk
    obtain ⟨k, rfl⟩ : ∃ m, k = m + 1 := ⟨k - 1, by omega⟩
    simp only [hibernaclelaw15_DriveSure.l0]
    rw [if_neg (by omega)]
    rfl
  | succ d ih =>
    intro k i hi hk
    obtain ⟨k, rfl⟩ : ∃ m, k = m + 1 := ⟨k - 1, by omega⟩
    simp only [hibernaclelaw15_DriveSure.l0]
    have g1 : drive_Get.f b p a (i : Int) = some (getV b p i, 0) := by unfold drive_Get.f; rw [if_pos (by omega), if_neg (by omega)]
    have g2 : drive_Get.f b2 [] a2 (i : Int) = some (getV b p i, 0) := by
      unfold drive_Get.f
      rw [if_pos (by simp), if_neg (by omega), getV_nil, hg i (by omega) (by omega)]
    rw [if_pos (by omega), g1, g2, wrapS (by omega)]
    simp only [Option.bind_some, if_true]
    exact ih k (i + 1) (by omega) (by omega)
theorem DriveSure_pure (b : List ByteArray) (p : List S27) (a : Int) (lp : List Int) : ∃ k, hibernaclelaw15_DriveSure.f k b p a lp = some true := by
  obtain ⟨v, hv, hc⟩ := great_some b p a
  have hf : hibernaclelaw15_fixed.f = some true := rfl
  have hjt : ∀ k, hibernaclelaw15_DriveSure.j0 (k + 1) lp true b p a = some true := fun k => by
    simp only [hibernaclelaw15_DriveSure.j0, if_true, hf, Option.bind_some]
  refine Ev.rounds (r := true) ?_
  unfold hibernaclelaw15_DriveSure.f
  refine Ev.bind hv ?_
  rcases hc with rfl | ⟨rfl, h0, h1, h2, h3⟩
  · refine ⟨1, fun k hk => ?_⟩
    obtain ⟨k, rfl⟩ : ∃ m, k = m + 1 := ⟨k - 1, by omega⟩
    exact hjt k
  · have hck : drive_Check.f b p a = some (checkV b p) := by unfold drive_Check.f; rw [if_pos (by omega)]
    simp only [gt_iff_lt, Int.lt_irrefl, if_false, hck, Option.bind_some]
    by_cases hz : checkV b p = 0
    · rw [hz]
      simp only [if_true]
      have hvd := check_valid b p hz
      by_cases hlp : (100 : Int) < (lp.length : Int)
      · refine ⟨1, fun k hk => ?_⟩
        obtain ⟨k, rfl⟩ : ∃ m, k = m + 1 := ⟨k - 1, by omega⟩
        rw [decide_eq_true hlp]
        exact hjt k
      · refine ⟨b.length + p.length + 10, fun k hk => ?_⟩
        obtain ⟨k, rfl⟩ : ∃ m, k = m + 1 + 1 := ⟨k - 2, by omega⟩
        rw [decide_eq_false hlp]
        simp only [hibernaclelaw15_DriveSure.j0]
        rw [if_neg (by simp)]
        have hfl : drive_Flush.f b p a = some (if a = 0 then (b, p, a, 17) else (landTo b.length (fun _ => 1) 0 p b, [], if a > 0 then wrap64 (a - 1) else a, 0)) := by
          unfold drive_Flush.f
          rw [through_some b p a hvd.1 h1, Option.bind_some]
          dsimp only
          by_cases ha : a = 0
          · simp [ha]
          · simp only [ha, if_false, if_true]
            rw [if_pos (by omega)]
        rw [hfl, Option.bind_some]
        by_cases ha : a = 0
        · subst ha
          simp only [if_true]
          rw [if_neg (by decide)]
          rw [hf]
          simp only [Option.bind_some, if_true]
          have hs : hibernacleref15_Same.f (k + 1) b p 0 b p 0 = some true := by
            unfold hibernacleref15_Same.f
            rw [if_pos rfl, if_pos rfl]
            simp only [hibernacleref15_Same.j0]
            rw [if_neg (by simp)]
            exact same_l0 b 0 0 p (by omega) (by omega) b.length _ 0 (by omega) (by omega)
          rw [hs]
          rfl
        · simp only [ha, if_false]
          rw [if_pos trivial]
          obtain ⟨z1, z2, z3⟩ := land_whole p 0 b hvd
          generalize landTo b.length (fun _ => 1) 0 p b = b2 at z1 z2 z3
          generalize (if a > 0 then wrap64 (a - 1) else a) = a2
          have hcr : drive_Crash.f b2 [] a2 lp = some (b2, [], -1) := by
            unfold drive_Crash.f
            rw [copied_some b2 [] a2 (by have := hvd.1; omega) (by simp), Option.bind_some]
            rfl
          have hv2 : Valid b2 [] := ⟨by have := hvd.1; omega, z2, by simp⟩
          have hck2 : drive_Check.f b2 [] (-1) = some 0 := by unfold drive_Check.f; rw [if_pos (by simp), valid_check b2 [] hv2]
          rw [hcr, Option.bind_some]
          dsimp only
          rw [if_pos (by simp), if_pos (by omega), hck2, Option.bind_some, if_pos rfl, if_pos (by simp)]
          simp only [hibernaclelaw15_DriveSure.j1]
          rw [if_neg (by simp)]
          exact sure_l0 b b2 p a (-1) hvd.1 h1 z1 z3 b.length k 0 (by omega) (by omega)
    · simp only [hz, if_false]
      refine ⟨1, fun k hk => ?_⟩
      obtain ⟨k, rfl⟩ : ∃ m, k = m + 1 := ⟨k - 1, by omega⟩
      exact hjt k
end Go.Proofs.Ytjfmnkmgnbbfgaa.A
