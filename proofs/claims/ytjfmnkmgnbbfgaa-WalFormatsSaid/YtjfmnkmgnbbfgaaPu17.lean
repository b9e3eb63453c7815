/- The plain law of WalFormats. -/
import Derived.Test.YtjfmnkmgnbbfgaaA17
import Derived.Test.YtjfmnkmgnbbfgaaF1
set_option linter.unusedVariables false
set_option linter.unusedSimpArgs false
namespace Go.Proofs.Ytjfmnkmgnbbfgaa.A
open Go.RowKit Go.Proofs.YtjfmnkmgnbbfgaaW.PrintWords Go.Proofs.YtjfmnkmgnbbfgaaW.PrintLast Go.Proofs.YtjfmnkmgnbbfgaaW.PrintMore
theorem rform_l1 (v : List ByteArray) (hn : v.length ≤ 223) (d : Nat) : ∀ k i, i + d = v.length → d < k →
    hibernacleref16_Format.l1 k v (v.length : Int) (i : Int) (List.replicate 33 zeroS ++ v.take i) (-1) = some (if whole (v.drop i) then (List.replicate 33 zeroS ++ v, [], -1, 0) else ([], [], 0, 3)) := by
  induction d with
  | zero =>
    intro k i hi hk
    obtain ⟨k, rfl⟩ : ∃ m, k = m + 1 := ⟨k - 1, by omega⟩
    simp only [hibernacleref16_Format.l1]
    rw [if_neg (by omega), List.take_of_length_le (by omega), List.drop_of_length_le (by omega)]
    rfl
  | succ d ih =>
    intro k i hi hk
    obtain ⟨k, rfl⟩ : ∃ m, k = m + 1 := ⟨k - 1, by omega⟩
    have hlt : i < v.length := by omega
    simp only [hibernacleref16_Format.l1]
    rw [if_pos (by omega), if_pos (by omega), if_pos (by omega), rdN v i hlt, List.drop_eq_getElem_cons hlt]
    by_cases h : (v[i].size : Int) = 128
    · rw [if_pos h, if_pos (by simp; omega), List.append_assoc, ← take_snocB v i hlt, wrapS (by omega), ih k (i + 1) (by omega) (by omega)]
      simp only [whole, List.all_cons, decide_eq_true h, Bool.true_and]
      rfl
    · rw [if_neg h]
      simp only [whole, List.all_cons, decide_eq_false h, Bool.false_and, Bool.false_eq_true, if_false]
theorem rform_l0 (v : List ByteArray) (hn : v.length ≤ 223) (d : Nat) : ∀ k i, i + d = 33 → v.length + d + 200 < k →
    hibernacleref16_Format.l0 k v (i : Int) (List.replicate i zeroS) (-1) = some (if whole v then (List.replicate 33 zeroS ++ v, [], -1, 0) else ([], [], 0, 3)) := by
  induction d with
  | zero =>
    intro k i hi hk
    obtain ⟨k, rfl⟩ : ∃ m, k = m + 1 := ⟨k - 1, by omega⟩
    obtain rfl : i = 33 := by omega
    simp only [hibernacleref16_Format.l0]
    rw [if_neg (by omega)]
    have := rform_l1 v hn v.length k 0 (by omega) (by omega)
    rw [List.take_zero, List.append_nil, List.drop_zero] at this
    exact this
  | succ d ih =>
    intro k i hi hk
    obtain ⟨k, rfl⟩ : ∃ m, k = m + 1 := ⟨k - 1, by omega⟩
    have hz : hibernacleref16_zeros.f k 128 = some zeroS := rzeros 128 (by omega) k (by omega)
    simp only [hibernacleref16_Format.l0]
    rw [if_pos (by omega), hz, Option.bind_some, if_pos (by simp; omega), wrapS (by omega), ← List.replicate_succ']
    exact ih k (i + 1) (by omega) (by omega)
theorem rform_some (v : List ByteArray) (k : Nat) (hk : v.length + 240 < k) : hibernacleref16_Format.f k v = some (formV v) := by
  obtain ⟨k, rfl⟩ : ∃ m, k = m + 1 := ⟨k - 1, by omega⟩
  unfold hibernacleref16_Format.f formV
  by_cases h1 : v.length < 1
  · rw [if_pos (by omega), if_pos (.inl h1)]
    simp only [hibernacleref16_Format.j0, if_true]
  · rw [if_neg (by omega)]
    by_cases h2 : 223 < v.length
    · rw [if_pos (.inr h2), decide_eq_true (by omega)]
      simp only [hibernacleref16_Format.j0, if_true]
    · rw [if_neg (by omega), decide_eq_false (by omega)]
      simp only [hibernacleref16_Format.j0, Bool.false_eq_true, if_false]
      exact rform_l0 v (by omega) 33 k 0 (by omega) (by omega)
/-- the volume of a fresh drive -/
theorem home_form (v : List ByteArray) (h0 : 1 ≤ v.length) (h1 : v.length ≤ 223) (hw : whole v = true) : homeL (List.replicate 33 zeroS ++ v) [] = v := by
  have hv := form_valid v h1 hw
  have hl : (List.replicate 33 zeroS ++ v).length = 33 + v.length := by rw [List.length_append, List.length_replicate]
  rw [homeL, if_pos (badV_valid hv (by omega)), volL, hl]
  apply List.ext_getElem
  · simp
  · intro j h2 h3
    rw [List.getElem_map, List.getElem_range, getV_nil, rdN _ (33 + j) (by omega), List.getElem_append_right (by simp)]
    simp
theorem formV_len (v : List ByteArray) (h : v.length ≤ 230) : (formV v).1.length ≤ 300 ∧ (formV v).2.1 = [] := by
  unfold formV
  split
  · exact ⟨by simp, rfl⟩
  · split
    · exact ⟨by simp; omega, rfl⟩
    · exact ⟨by simp, rfl⟩
theorem formV_zero (v : List ByteArray) (h : (formV v).2.2.2 = 0) : 1 ≤ v.length ∧ v.length ≤ 223 ∧ whole v = true ∧ formV v = (List.replicate 33 zeroS ++ v, [], -1, 0) := by
  unfold formV at h ⊢
  split at h
  · cases h
  · rename_i h1
    split at h
    · rename_i h2
      exact ⟨by omega, by omega, h2, by rw [if_neg h1, if_pos h2]⟩
    · cases h
theorem formats_end (v : List ByteArray) (hl : v.length ≤ 230) (k : Nat) (hk : 1000 < k) :
    (wal_Format.f k v).bind (fun bt657 => (hibernacleref16_Format.f k v).bind fun bt666 => if bt657.2.2.2 = bt666.2.2.2 then (hibernacleref16_SameDrive.f k bt657.1 bt657.2.1 bt657.2.2.1 bt666.1 bt666.2.1 bt666.2.2.1).bind fun t675 => hibernaclelaw16_WalFormats.j1 k v bt657.2.2.2 (!t675) bt657.1 bt657.2.1 bt657.2.2.1 else hibernaclelaw16_WalFormats.j1 k v bt657.2.2.2 true bt657.1 bt657.2.1 bt657.2.2.1) = some true := by
  obtain ⟨hf1, hf2⟩ := formV_len v hl
  rw [form_some v k (by omega), rform_some v k (by omega)]
  simp only [Option.bind_some, if_true]
  rw [samed _ _ _ (by omega) (by rw [hf2]; simp) k (by rw [hf2]; simp; omega)]
  obtain ⟨k, rfl⟩ : ∃ m, k = m + 1 := ⟨k - 1, by omega⟩
  simp only [Option.bind_some, Bool.not_true, hibernaclelaw16_WalFormats.j1, Bool.false_eq_true, if_false]
  by_cases h0 : (formV v).2.2.2 = 0
  · obtain ⟨a1, a2, a3, a4⟩ := formV_zero v h0
    rw [if_pos h0, a4]
    dsimp only
    rw [home_some _ _ _ (by simp) k (by omega), home_form v a1 a2 a3, Option.bind_some, sameb v (by omega) k (by omega), Option.bind_some, if_pos rfl]
    rfl
  · rw [if_neg h0]
    rfl
theorem formats_l0 (v : List ByteArray) (hl : v.length ≤ 230) (d : Nat) : ∀ k i, i + d = v.length → d + 1001 < k → hibernaclelaw16_WalFormats.l0 k v (i : Int) = some true := by
  induction d with
  | zero =>
    intro k i hi hk
    obtain ⟨k, rfl⟩ : ∃ m, k = m + 1 := ⟨k - 1, by omega⟩
    simp only [hibernaclelaw16_WalFormats.l0]
    rw [if_neg (by omega)]
    exact formats_end v hl k (by omega)
  | succ d ih =>
    intro k i hi hk
    obtain ⟨k, rfl⟩ : ∃ m, k = m + 1 := ⟨k - 1, by omega⟩
    simp only [hibernaclelaw16_WalFormats.l0]
    rw [if_pos (by omega), if_pos (by omega)]
    split
    · rfl
    · rw [wrapS (by omega)]
      exact ih k (i + 1) (by omega) (by omega)
theorem WalFormats_pure (v : List ByteArray) : ∃ k, hibernaclelaw16_WalFormats.f k v = some true := by
  by_cases h : v.length ≤ 230
  · refine ⟨v.length + 1010, ?_⟩
    unfold hibernaclelaw16_WalFormats.f
    rw [if_neg (by omega)]
    exact formats_l0 v h v.length _ 0 (by omega) (by omega)
  · refine ⟨1, ?_⟩
    unfold hibernaclelaw16_WalFormats.f
    rw [if_pos (by omega)]
    rfl
end Go.Proofs.Ytjfmnkmgnbbfgaa.A
