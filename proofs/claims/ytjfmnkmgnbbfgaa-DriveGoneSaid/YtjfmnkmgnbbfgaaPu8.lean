/- The plain law of DriveGone. -/
import Derived.Test.YtjfmnkmgnbbfgaaA8
import Derived.Test.YtjfmnkmgnbbfgaaD2
set_option linter.unusedVariables false
set_option maxRecDepth 100000
namespace Go.Proofs.Ytjfmnkmgnbbfgaa.A
open Go.RowKit Go.Proofs.YtjfmnkmgnbbfgaaW.PrintWords Go.Proofs.YtjfmnkmgnbbfgaaW.PrintLast Go.Proofs.YtjfmnkmgnbbfgaaW.PrintMore
theorem copied_some3 (b : List ByteArray) (p : List S27) (a : Int) (hb : b.length ≤ 256) (hp : p.length ≤ 1000) : drive_copied.f b p a = some (b, p, a) := by
  unfold drive_copied.f slices_Clone_string_string.f api_Write_111.f
  rw [if_pos (by omega), Option.bind_some, if_pos (by omega), Option.bind_some]
theorem through_some3 (b : List ByteArray) (p : List S27) (a : Int) (hb : b.length ≤ 256) (hp : p.length ≤ 1000) : drive_through.f b p a = some (b, p, if a = 0 then a else if a > 0 then wrap64 (a - 1) else a, if a = 0 then 17 else 0) := by
  unfold drive_through.f
  rw [copied_some3 b p a hb hp, Option.bind_some]
  dsimp only
  by_cases h0 : a = 0
  · simp [h0]
  · by_cases h1 : a > 0
    · simp [h0, h1]
    · simp [h0, h1]
theorem flush_some3 (b : List ByteArray) (p : List S27) (a : Int) (hb : b.length ≤ 256) (hp : p.length ≤ 1000) : drive_Flush.f b p a = some (if a = 0 then (b, p, a, 17) else (landTo b.length (fun _ => 1) 0 p b, [], if a > 0 then wrap64 (a - 1) else a, 0)) := by
  unfold drive_Flush.f
  rw [through_some3 b p a hb hp, Option.bind_some]
  dsimp only
  by_cases ha : a = 0
  · simp [ha]
  · simp only [ha, if_false, if_true]
    rw [if_pos (by omega)]
theorem put_some3 (b : List ByteArray) (p : List S27) (a : Int) (hb : b.length ≤ 256) (hb0 : 0 < b.length) (hp : p.length ≤ 1000) (k : Nat) : drive_Put.f (k + 2) b p a 0 onesS = some (if a = 0 then (b, p, a, 17) else (b, p ++ [(⟨0, onesS⟩ : S27)], if a > 0 then wrap64 (a - 1) else a, 0)) := by
  unfold drive_Put.f
  have hlk : drive_look.f (k + 2) b p a 0 onesS = some 0 := by
    have h := look_some b p a 0 onesS
    have e : lookV b.length 0 onesS = 0 := by
      unfold lookV
      rw [if_neg (by omega), if_neg (by decide)]
    rw [e] at h
    exact at_rounds (g := fun k => drive_look.f k b p a 0 onesS) (fun k => drive_look.mono _ _ _ _ _ k) (by omega) h
  rw [hlk, Option.bind_some, if_pos rfl, through_some3 b p a hb hp, Option.bind_some]
  dsimp only
  by_cases ha : a = 0
  · simp [ha]
  · simp only [ha, if_false, if_true]
    rw [if_pos (by omega)]
theorem ones_many (k : Nat) : hibernaclelaw15_ones.f (k + 130) = some onesS := at_rounds (g := fun k => hibernaclelaw15_ones.f k) (fun k => hibernaclelaw15_ones.mono k) (by omega) ones_v
/-- what is left behind n calls -/
def leftN (a : Int) (n : Nat) : Int := if a < 0 then a else if (n : Int) ≤ a then a - n else 0
theorem leftN_zero (a : Int) (n : Nat) : leftN a n = 0 ↔ ¬ (a < 0 ∨ (n : Int) < a) := by
  unfold leftN
  split
  · omega
  · split <;> omega
theorem leftN_next (a : Int) (n : Nat) (ha : a ≤ 9223372036854775807) (h : leftN a n ≠ 0) : (if leftN a n > 0 then wrap64 (leftN a n - 1) else leftN a n) = leftN a (n + 1) := by
  have h2 : a < 0 ∨ (n : Int) < a := by
    have := (not_congr (leftN_zero a n)).1 h
    omega
  unfold leftN
  by_cases h0 : a < 0
  · rw [if_pos h0, if_pos h0, if_neg (by omega)]
  · rw [if_neg h0, if_neg h0, if_pos (by omega), if_pos (by omega), if_pos (by omega)]
    unfold wrap64
    omega
theorem leftN_stay (a : Int) (n : Nat) (h : leftN a n = 0) : leftN a (n + 1) = 0 := by
  rw [leftN_zero] at h ⊢
  omega
theorem gone_j2 (k : Nat) (a : Int) (n : Nat) (e m : Int) (b : List ByteArray) (p : List S27) (c : Int) (b2 : List ByteArray) (p2 : List S27) (c2 : Int) (he : e = if leftN a n = 0 then 17 else 0) :
    hibernaclelaw15_DriveGone.j2 (k + 1 + 1) a (n : Int) e m (n : Int) b p c b2 p2 c2 = if e = 0 then hibernaclelaw15_DriveGone.l0 k a m (wrap64 ((n : Int) + 1)) b2 p2 c2 else hibernaclelaw15_DriveGone.l0 k a m (wrap64 ((n : Int) + 1)) b p c := by
  simp only [hibernaclelaw15_DriveGone.j2, hibernaclelaw15_DriveGone.j3]
  have hz := leftN_zero a n
  by_cases h0 : leftN a n = 0
  · have h1 := hz.1 h0
    rw [if_pos h0] at he
    subst he
    have h2 : ¬ a < 0 := by omega
    have h3 : ¬ (n : Int) < a := by omega
    simp [h2, h3]
  · have h1 : a < 0 ∨ (n : Int) < a := by have := (not_congr hz).1 h0; omega
    rw [if_neg h0] at he
    subst he
    by_cases h2 : a < 0
    · simp [h2]
    · have h3 : (n : Int) < a := by omega
      simp [h2, h3]
theorem gone_l0 (a : Int) (m : Nat) (ha : a ≤ 9223372036854775807) (hm : m ≤ 40) (d : Nat) : ∀ k n (b : List ByteArray) (p : List S27), n + d = m → d * 3 + 140 < k → Valid b p → 0 < b.length → p.length ≤ 60 + n →
    hibernaclelaw15_DriveGone.l0 k a (m : Int) (n : Int) b p (leftN a n) = some true := by
  induction d with
  | zero =>
    intro k n b p hi hk hv hb hp
    obtain ⟨k, rfl⟩ : ∃ m, k = m + 1 := ⟨k - 1, by omega⟩
    simp only [hibernaclelaw15_DriveGone.l0]
    rw [if_neg (by omega)]
    rfl
  | succ d ih =>
    intro k n b p hi hk hv hb hp
    obtain ⟨k, rfl⟩ : ∃ m, k = m + 130 + 1 := ⟨k - 131, by omega⟩
    have hlk : lookV b.length 0 onesS = 0 := by
      unfold lookV
      rw [if_neg (by omega), if_neg (by decide)]
    simp only [hibernaclelaw15_DriveGone.l0]
    rw [if_pos (by omega), flush_some3 b p (leftN a n) hv.1 (by omega), Option.bind_some]
    by_cases ht : Int.tmod (n : Int) 2 = 0
    · rw [if_pos ht, ones_many k, Option.bind_some, show k + 130 = (k + 128) + 2 by omega, put_some3 b p (leftN a n) hv.1 hb (by omega) (k + 128), Option.bind_some]
      by_cases h0 : leftN a n = 0
      · simp only [h0, if_true]
        rw [show k + 128 + 2 = (k + 128) + 1 + 1 by omega, gone_j2 (k + 128) a n 17 _ b p _ b p _ (by rw [if_pos h0]), if_neg (by decide), wrapS (by omega)]
        have := ih (k + 128) (n + 1) b p (by omega) (by omega) hv hb (by omega)
        rw [leftN_stay a n h0] at this
        exact this
      · simp only [h0, if_false]
        rw [show k + 128 + 2 = (k + 128) + 1 + 1 by omega, gone_j2 (k + 128) a n 0 _ b p _ b _ _ (by rw [if_neg h0]), if_pos rfl, wrapS (by omega), leftN_next a n ha h0]
        refine ih (k + 128) (n + 1) b _ (by omega) (by omega) ⟨hv.1, hv.2.1, fun x hx => ?_⟩ hb (by simp; omega)
        rcases List.mem_append.1 hx with hx | hx
        · exact hv.2.2 x hx
        · obtain rfl : x = (⟨0, onesS⟩ : S27) := by simpa using hx
          exact hlk
    · rw [if_neg ht]
      by_cases h0 : leftN a n = 0
      · simp only [h0, if_true]
        rw [show k + 130 = (k + 128) + 1 + 1 by omega, gone_j2 (k + 128) a n 17 _ b p _ b p _ (by rw [if_pos h0]), if_neg (by decide), wrapS (by omega)]
        have := ih (k + 128) (n + 1) b p (by omega) (by omega) hv hb (by omega)
        rw [leftN_stay a n h0] at this
        exact this
      · simp only [h0, if_false]
        obtain ⟨z1, z2, z3⟩ := land_whole p 0 b hv
        rw [show k + 130 = (k + 128) + 1 + 1 by omega, gone_j2 (k + 128) a n 0 _ b p _ _ [] _ (by rw [if_neg h0]), if_pos rfl, wrapS (by omega), leftN_next a n ha h0]
        exact ih (k + 128) (n + 1) _ [] (by omega) (by omega) ⟨by rw [z1]; exact hv.1, z2, by simp⟩ (by rw [z1]; exact hb) (by simp)
theorem DriveGone_pure (b : List ByteArray) (p : List S27) (a n : Int) (ha : a ≤ 9223372036854775807) (h0n : 0 ≤ n) (hn : n ≤ 255) : ∃ k, hibernaclelaw15_DriveGone.f k b p a n = some true := by
  obtain ⟨v, hv, hc⟩ := great_some b p a
  have hf : hibernaclelaw15_fixed.f = some true := rfl
  have hjt : ∀ k, hibernaclelaw15_DriveGone.j0 (k + 1) n true b p a = some true := fun k => by
    simp only [hibernaclelaw15_DriveGone.j0, if_true, hf, Option.bind_some]
  refine Ev.rounds (r := true) ?_
  unfold hibernaclelaw15_DriveGone.f
  refine Ev.bind hv ?_
  rcases hc with rfl | ⟨rfl, h0, h1, h2, h3⟩
  · refine ⟨1, fun k hk => ?_⟩
    obtain ⟨k, rfl⟩ : ∃ m, k = m + 1 := ⟨k - 1, by omega⟩
    exact hjt k
  · have hck : drive_Check.f b p a = some (checkV b p) := by unfold drive_Check.f; rw [if_pos (by omega)]
    simp only [gt_iff_lt, Int.lt_irrefl, if_false, hck, Option.bind_some]
    by_cases hz : checkV b p = 0
    · simp only [hz, if_true]
      have hvd := check_valid b p hz
      by_cases hb : b.length = 0
      · refine ⟨1, fun k hk => ?_⟩
        obtain ⟨k, rfl⟩ : ∃ m, k = m + 1 := ⟨k - 1, by omega⟩
        rw [hb]
        exact hjt k
      · refine ⟨1000, fun k hk => ?_⟩
        obtain ⟨k, rfl⟩ : ∃ m, k = m + 1 := ⟨k - 1, by omega⟩
        have hbb : ((b.length : Int) == 0) = false := beq_eq_false_iff_ne.mpr (by omega)
        rw [hbb]
        simp only [hibernaclelaw15_DriveGone.j0]
        rw [if_neg (by simp)]
        have hw : wrap64 n = n := by unfold wrap64; omega
        obtain ⟨m, hm⟩ : ∃ m : Nat, Int.tmod n 40 = (m : Int) := ⟨(Int.tmod n 40).toNat, by have := Int.tmod_nonneg 40 h0n; omega⟩
        have hm2 := Int.tmod_lt_of_pos n (by decide : (0 : Int) < 40)
        rw [hw, hm]
        have hl : leftN a 0 = a := by unfold leftN; split; rfl; split <;> omega
        have := gone_l0 a m ha (by omega) m k 0 b p (by omega) (by omega) hvd (by omega) (by omega)
        rw [hl] at this
        exact this
    · simp only [hz, if_false]
      refine ⟨1, fun k hk => ?_⟩
      obtain ⟨k, rfl⟩ : ∃ m, k = m + 1 := ⟨k - 1, by omega⟩
      exact hjt k
end Go.Proofs.Ytjfmnkmgnbbfgaa.A
