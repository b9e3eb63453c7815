/- The plain law of DriveReads. -/
import Derived.Test.YtjfmnkmgnbbfgaaA13
import Derived.Test.YtjfmnkmgnbbfgaaD1s
import Derived.Test.YtjfmnkmgnbbfgaaD2
set_option linter.unusedVariables false
namespace Go.Proofs.Ytjfmnkmgnbbfgaa.A
open Go.RowKit Go.Proofs.YtjfmnkmgnbbfgaaW.PrintWords Go.Proofs.YtjfmnkmgnbbfgaaW.PrintLast Go.Proofs.YtjfmnkmgnbbfgaaW.PrintMore
theorem copied_some2 (b : List ByteArray) (p : List S27) (a : Int) (hb : b.length ≤ 256) (hp : p.length ≤ 1000) : drive_copied.f b p a = some (b, p, a) := by
  unfold drive_copied.f slices_Clone_string_string.f api_Write_111.f
  rw [if_pos (by omega), Option.bind_some, if_pos (by omega), Option.bind_some]
theorem through_some2 (b : List ByteArray) (p : List S27) (a : Int) (hb : b.length ≤ 256) (hp : p.length ≤ 1000) : drive_through.f b p a = some (b, p, if a = 0 then a else if a > 0 then wrap64 (a - 1) else a, if a = 0 then 17 else 0) := by
  unfold drive_through.f
  rw [copied_some2 b p a hb hp, Option.bind_some]
  dsimp only
  by_cases h0 : a = 0
  · simp [h0]
  · by_cases h1 : a > 0
    · simp [h0, h1]
    · simp [h0, h1]
theorem flush_some2 (b : List ByteArray) (p : List S27) (a : Int) (hb : b.length ≤ 256) (hp : p.length ≤ 1000) : drive_Flush.f b p a = some (if a = 0 then (b, p, a, 17) else (landTo b.length (fun _ => 1) 0 p b, [], if a > 0 then wrap64 (a - 1) else a, 0)) := by
  unfold drive_Flush.f
  rw [through_some2 b p a hb hp, Option.bind_some]
  dsimp only
  by_cases ha : a = 0
  · simp [ha]
  · simp only [ha, if_false, if_true]
    rw [if_pos (by omega)]
theorem look_many (l0 : List ByteArray) (l1 : List S27) (a : Int) (i : Int) (s : ByteArray) (k : Nat) : drive_look.f (k + 2) l0 l1 a i s = some (lookV l0.length i s) := by
  have h := look_some l0 l1 a i s
  exact at_rounds (g := fun k => drive_look.f k l0 l1 a i s) (fun k => drive_look.mono _ _ _ _ _ k) (by omega) h
theorem getV_snoc (b : List ByteArray) (p : List S27) (x : S27) (i : Int) : getV b (p ++ [x]) i = if x.f0 = i then x.f1 else getV b p i := by
  rw [getV_rev, getV_rev, List.reverse_append, List.reverse_singleton, List.singleton_append, List.find?_cons]
  by_cases h : x.f0 = i
  · simp [h]
  · simp [h]
theorem get_ok (b : List ByteArray) (p : List S27) (a : Int) (i : Nat) (hp : p.length ≤ 1000) (hi : i < b.length) : drive_Get.f b p a (i : Int) = some (getV b p i, 0) := by
  unfold drive_Get.f
  rw [if_pos (by omega), if_neg (by omega)]
theorem reads_l0 (b : List ByteArray) (p : List S27) (a i : Int) (data : ByteArray) (a2 : Int) (b3 : List ByteArray) (p3 : List S27) (a3 e : Int) (hb : b.length ≤ 256) (hp : p.length ≤ 60) (hp3 : p3.length ≤ 1000) (hl : b3.length = b.length)
    (hg : e = 0 → ∀ j : Int, 0 ≤ j → j < b.length → getV b3 p3 j = getV b (p ++ [(⟨i, data⟩ : S27)]) j) (he : e ≠ 0 → a2 = 0) (d : Nat) : ∀ k j, j + d = b.length → d < k →
    hibernaclelaw15_DriveReads.l0 k i data e (b.length : Int) (j : Int) b p a b (p ++ [(⟨i, data⟩ : S27)]) a2 b3 p3 a3 = some true := by
  induction d with
  | zero =>
    intro k j hi hk
    obtain ⟨k, rfl⟩ : ∃ m, k = m + 1 := ⟨k - 1, by omega⟩
    have hf : hibernaclelaw15_fixed.f = some true := rfl
    simp only [hibernaclelaw15_DriveReads.l0]
    rw [if_neg (by omega), hf]
    simp only [Option.bind_some, if_true]
    by_cases h0 : e = 0
    · rw [if_pos h0]
    · rw [if_neg h0, he h0]
      rfl
  | succ d ih =>
    intro k j hi hk
    obtain ⟨k, rfl⟩ : ∃ m, k = m + 1 := ⟨k - 1, by omega⟩
    have e1 := ih k (j + 1) (by omega) (by omega)
    simp only [hibernaclelaw15_DriveReads.l0]
    rw [if_pos (by omega), get_ok b p a j (by omega) (by omega), get_ok b (p ++ [(⟨i, data⟩ : S27)]) a2 j (by simp; omega) (by omega), get_ok b3 p3 a3 j hp3 (by omega), wrapS (by omega)]
    simp only [Option.bind_some, if_true, e1]
    have g2 : getV b (p ++ [(⟨i, data⟩ : S27)]) (j : Int) = if i = (j : Int) then data else getV b p j := getV_snoc b p (⟨i, data⟩ : S27) j
    by_cases hj : (j : Int) = i
    · rw [if_pos hj]
      rw [if_pos hj.symm] at g2
      rw [if_pos (by rw [g2])]
      by_cases h0 : e = 0
      · rw [if_pos h0, if_pos (by rw [hg h0 j (by omega) (by omega), g2])]
      · rw [if_neg h0]
    · rw [if_neg hj]
      rw [if_neg (fun h => hj h.symm)] at g2
      rw [if_pos (by rw [g2])]
      by_cases h0 : e = 0
      · rw [if_pos h0, if_pos (by rw [hg h0 j (by omega) (by omega), g2])]
      · rw [if_neg h0]
theorem DriveReads_pure (b : List ByteArray) (p : List S27) (a i : Int) (data : ByteArray) : ∃ k, hibernaclelaw15_DriveReads.f k b p a i data = some true := by
  obtain ⟨v, hv, hc⟩ := great_some b p a
  have hf : hibernaclelaw15_fixed.f = some true := rfl
  have hjt : ∀ k, hibernaclelaw15_DriveReads.j0 (k + 1) i data true b p a = some true := fun k => by
    simp only [hibernaclelaw15_DriveReads.j0, if_true, hf, Option.bind_some]
  refine Ev.rounds (r := true) ?_
  unfold hibernaclelaw15_DriveReads.f
  refine Ev.bind hv ?_
  rcases hc with rfl | ⟨rfl, h0, h1, h2, h3⟩
  · refine ⟨1, fun k hk => ?_⟩
    obtain ⟨k, rfl⟩ : ∃ m, k = m + 1 := ⟨k - 1, by omega⟩
    exact hjt k
  · have hck : drive_Check.f b p a = some (checkV b p) := by unfold drive_Check.f; rw [if_pos (by omega)]
    simp only [gt_iff_lt, Int.lt_irrefl, if_false, hck, Option.bind_some]
    by_cases hz : checkV b p = 0
    · rw [hz]
      have hvd := check_valid b p hz
      refine ⟨b.length + p.length + 10, fun k hk => ?_⟩
      obtain ⟨k, rfl⟩ : ∃ m, k = m + 2 + 1 := ⟨k - 3, by omega⟩
      simp only [hibernaclelaw15_DriveReads.j0]
      rw [if_neg (by decide)]
      unfold drive_Put.f
      rw [look_many, Option.bind_some]
      by_cases hlk : lookV b.length i data = 0
      · rw [if_pos hlk, through_some2 b p a hvd.1 (by omega), Option.bind_some]
        obtain ⟨i0, i1, i2⟩ := lookV_zero hlk
        dsimp only
        by_cases ha : a = 0
        · subst ha
          simp only [if_true]
          rw [if_neg (by decide), Option.bind_some]
          dsimp only
          simp only [if_true, hf, Option.bind_some]
          have hs : hibernacleref15_Same.f (k + 2) b p 0 b p 0 = some true := by
            unfold hibernacleref15_Same.f
            rw [if_pos rfl, if_pos rfl]
            simp only [hibernacleref15_Same.j0]
            rw [if_neg (by simp)]
            exact same_l0 b 0 0 p (by omega) (by omega) b.length _ 0 (by omega) (by omega)
          rw [hs]
          rfl
        · simp only [ha, if_false, if_true]
          rw [if_pos (by omega), Option.bind_some]
          dsimp only
          rw [if_neg (by decide)]
          simp only [if_true]
          generalize (if a > 0 then wrap64 (a - 1) else a) = a2
          have hv2 : Valid b (p ++ [(⟨i, data⟩ : S27)]) := ⟨hvd.1, hvd.2.1, fun x hx => by
            rcases List.mem_append.1 hx with hx | hx
            · exact hvd.2.2 x hx
            · obtain rfl : x = (⟨i, data⟩ : S27) := by simpa using hx
              exact hlk⟩
          rw [flush_some2 b (p ++ [(⟨i, data⟩ : S27)]) a2 hvd.1 (by simp; omega), Option.bind_some]
          by_cases ha2 : a2 = 0
          · simp only [ha2, if_true]
            exact reads_l0 b p a i data 0 b (p ++ [(⟨i, data⟩ : S27)]) 0 17 hvd.1 h1 (by simp; omega) rfl (fun h => absurd h (by decide)) (fun _ => rfl) b.length _ 0 (by omega) (by omega)
          · simp only [ha2, if_false]
            obtain ⟨z1, z2, z3⟩ := land_whole (p ++ [(⟨i, data⟩ : S27)]) 0 b hv2
            exact reads_l0 b p a i data a2 _ [] _ 0 hvd.1 h1 (by simp) z1 (fun _ j j0 j1 => by rw [getV_nil]; exact z3 j j0 j1) (fun h => absurd rfl h) b.length _ 0 (by omega) (by omega)
      · rw [if_neg hlk, Option.bind_some]
        dsimp only
        have hne : lookV b.length i data ≠ 17 := by rcases lookV_is b.length i data with h | h | h <;> omega
        rw [if_neg hne, if_neg hlk, hf]
        rfl
    · have hzb : (checkV b p != 0) = true := by simpa using hz
      refine ⟨1, fun k hk => ?_⟩
      obtain ⟨k, rfl⟩ : ∃ m, k = m + 1 := ⟨k - 1, by omega⟩
      rw [hzb]
      exact hjt k
end Go.Proofs.Ytjfmnkmgnbbfgaa.A
