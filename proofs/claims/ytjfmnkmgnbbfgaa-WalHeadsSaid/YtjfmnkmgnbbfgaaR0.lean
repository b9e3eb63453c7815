/- Plain: the document's Format, May and Long. -/
import Derived.Test.YtjfmnkmgnbbfgaaS0
import Derived.Test.YtjfmnkmgnbbfgaaA56
import Derived.Test.YtjfmnkmgnbbfgaaA57
import Derived.Test.YtjfmnkmgnbbfgaaA62
set_option linter.unusedVariables false
set_option linter.unusedSimpArgs false
namespace Go.Proofs.Ytjfmnkmgnbbfgaa.A
open Go.RowKit Go.Proofs.YtjfmnkmgnbbfgaaW.PrintWords Go.Proofs.YtjfmnkmgnbbfgaaW.PrintLast Go.Proofs.YtjfmnkmgnbbfgaaW.PrintMore
theorem rform_l1 (v : List ByteArray) (hn : v.length ≤ 223) (d : Nat) : ∀ k i, i + d = v.length → d < k →
    hibernacleref16_Format.l1 k v (v.length : Int) (i : Int) (List.replicate 33 zeroS ++ v.take i) (-1) = some (if whole (v.drop i) then (List.replicate 33 zeroS ++ v, [], -1, 0) else ([], [], 0, 3)) := by
  induction d with
  | zero =>
    intro k i hi hk
    obtain ⟨k, rfl⟩ : ∃ m, k = m + 1 := ⟨k - 1, by omega⟩
    simp only [hibernacleref16_Format.l1]
    rw [if_neg (by omega), List.take_of_length_le (by omega), List.drop_of_length_le (by omega)]
    rfl
  | succ d ih =>
    intro k i hi hk
    obtain ⟨k, rfl⟩ : ∃ m, k = m + 1 := ⟨k - 1, by omega⟩
    have hlt : i < v.length := by omega
    simp only [hibernacleref16_Format.l1]
    rw [if_pos (by omega), if_pos (by omega), if_pos (by omega), rdN v i hlt, List.drop_eq_getElem_cons hlt]
    by_cases h : (v[i].size : Int) = 128
    · rw [if_pos h, if_pos (by simp; omega), List.append_assoc, ← take_snocB v i hlt, wrapS (by omega), ih k (i + 1) (by omega) (by omega)]
      simp only [whole, List.all_cons, decide_eq_true h, Bool.true_and]
      rfl
    · rw [if_neg h]
      simp only [whole, List.all_cons, decide_eq_false h, Bool.false_and, Bool.false_eq_true, if_false]
theorem rform_l0 (v : List ByteArray) (hn : v.length ≤ 223) (d : Nat) : ∀ k i, i + d = 33 → v.length + d + 200 < k →
    hibernacleref16_Format.l0 k v (i : Int) (List.replicate i zeroS) (-1) = some (if whole v then (List.replicate 33 zeroS ++ v, [], -1, 0) else ([], [], 0, 3)) := by
  induction d with
  | zero =>
    intro k i hi hk
    obtain ⟨k, rfl⟩ : ∃ m, k = m + 1 := ⟨k - 1, by omega⟩
    obtain rfl : i = 33 := by omega
    simp only [hibernacleref16_Format.l0]
    rw [if_neg (by omega)]
    have := rform_l1 v hn v.length k 0 (by omega) (by omega)
    rw [List.take_zero, List.append_nil, List.drop_zero] at this
    exact this
  | succ d ih =>
    intro k i hi hk
    obtain ⟨k, rfl⟩ : ∃ m, k = m + 1 := ⟨k - 1, by omega⟩
    have hz : hibernacleref16_zeros.f k 128 = some zeroS := rzeros 128 (by omega) k (by omega)
    simp only [hibernacleref16_Format.l0]
    rw [if_pos (by omega), hz, Option.bind_some, if_pos (by simp; omega), wrapS (by omega), ← List.replicate_succ']
    exact ih k (i + 1) (by omega) (by omega)
theorem rform_some (v : List ByteArray) (k : Nat) (hk : v.length + 240 < k) : hibernacleref16_Format.f k v = some (formV v) := by
  obtain ⟨k, rfl⟩ : ∃ m, k = m + 1 := ⟨k - 1, by omega⟩
  unfold hibernacleref16_Format.f formV
  by_cases h1 : v.length < 1
  · rw [if_pos (by omega), if_pos (.inl h1)]
    simp only [hibernacleref16_Format.j0, if_true]
  · rw [if_neg (by omega)]
    by_cases h2 : 223 < v.length
    · rw [if_pos (.inr h2), decide_eq_true (by omega)]
      simp only [hibernacleref16_Format.j0, if_true]
    · rw [if_neg (by omega), decide_eq_false (by omega)]
      simp only [hibernacleref16_Format.j0, Bool.false_eq_true, if_false]
      exact rform_l0 v (by omega) 33 k 0 (by omega) (by omega)
theorem may_l1 (l : List S27) (hl : l.length ≤ 32) (n : Int) (i : Nat) (hi : i < l.length) (d : Nat) : ∀ k j, j + d = i → d < k →
    hibernacleref16_May.l1 k l n (i : Int) (j : Int) (l.length : Int) (i : Int) = if l[i].f0 ∈ ((l.take i).drop j).map (·.f0) then some 8 else hibernacleref16_May.l0 (k - d - 1) l n (l.length : Int) ((i + 1 : Nat) : Int) := by
  induction d with
  | zero =>
    intro k j hj hk
    obtain ⟨k, rfl⟩ : ∃ m, k = m + 1 := ⟨k - 1, by omega⟩
    obtain rfl : j = i := by omega
    simp only [hibernacleref16_May.l1]
    rw [if_neg (by omega), wrapS (by omega), List.drop_of_length_le (by rw [List.length_take]; omega)]
    simp
  | succ d ih =>
    intro k j hj hk
    obtain ⟨k, rfl⟩ : ∃ m, k = m + 1 := ⟨k - 1, by omega⟩
    have hlt : j < (l.take i).length := by rw [List.length_take]; omega
    have e : (l.take i).drop j = l[j] :: (l.take i).drop (j + 1) := by rw [List.drop_eq_getElem_cons hlt, List.getElem_take]
    simp only [hibernacleref16_May.l1]
    rw [if_pos (by omega), if_pos (by omega), if_pos (by omega), if_pos (by omega), if_pos (by omega), rdTN l j (by omega), rdTN l i hi, wrapS (by omega), ih k (j + 1) (by omega) (by omega), e, List.map_cons]
    by_cases h : l[j].f0 = l[i].f0
    · rw [if_pos h, if_pos (by rw [h]; exact List.mem_cons_self)]
    · rw [if_neg h]
      have h2 : (l[i].f0 ∈ l[j].f0 :: ((l.take i).drop (j + 1)).map (·.f0)) = (l[i].f0 ∈ ((l.take i).drop (j + 1)).map (·.f0)) := by
        rw [List.mem_cons]
        exact propext ⟨fun hh => hh.elim (fun hh => absurd hh.symm h) id, .inr⟩
      simp only [h2, show k + 1 - (d + 1) - 1 = k - d - 1 by omega]
theorem may_l0 (l : List S27) (hl : l.length ≤ 32) (n : Int) (d : Nat) : ∀ k i, i + d = l.length → 40 * d + 40 < k →
    hibernacleref16_May.l0 k l n (l.length : Int) (i : Int) = some (mayL n ((l.take i).map (·.f0)) (l.drop i)) := by
  induction d with
  | zero =>
    intro k i hi hk
    obtain ⟨k, rfl⟩ : ∃ m, k = m + 1 := ⟨k - 1, by omega⟩
    simp only [hibernacleref16_May.l0]
    rw [if_neg (by omega), List.drop_of_length_le (by omega)]
    rfl
  | succ d ih =>
    intro k i hi hk
    obtain ⟨k, rfl⟩ : ∃ m, k = m + 1 + 1 := ⟨k - 2, by omega⟩
    have hlt : i < l.length := by omega
    have e := ih (k - i - 1) (i + 1) (by omega) (by omega)
    have e1 := may_l1 l hl n i hlt i k 0 (by omega) (by omega)
    rw [List.drop_zero] at e1
    rw [List.drop_eq_getElem_cons hlt, mayL]
    simp only [hibernacleref16_May.l0]
    rw [if_pos (by omega), if_pos (by omega), if_pos (by omega), rdTN l i hlt]
    by_cases h1 : l[i].f0 < 0
    · rw [if_pos h1, if_pos (.inl h1)]
      simp only [hibernacleref16_May.j1, if_true]
    · rw [if_neg h1]
      by_cases h2 : n ≤ l[i].f0
      · rw [decide_eq_true (by omega), if_pos (.inr h2)]
        simp only [hibernacleref16_May.j1, if_true]
      · rw [decide_eq_false (by omega), if_neg (by omega)]
        simp only [hibernacleref16_May.j1, Bool.false_eq_true, if_false]
        rw [if_pos (by omega), if_pos (by omega), rdTN l i hlt]
        by_cases h3 : l[i].f1.size = 128
        · rw [if_pos (by omega), if_pos h3]
          refine Eq.trans e1 ?_
          by_cases h4 : l[i].f0 ∈ (l.take i).map (·.f0)
          · rw [if_pos h4, if_pos h4]
          · rw [if_neg h4, if_neg h4, e, map_take_succ l i hlt]
        · rw [if_neg (by omega), if_neg h3]
theorem rmay_some (l : List S27) (n : Int) (k : Nat) (hk : 1400 < k) : hibernacleref16_May.f k l n = some (mayV l n) := by
  unfold hibernacleref16_May.f mayV
  by_cases h : 32 < l.length
  · rw [if_pos (by omega), if_pos h]
  · rw [if_neg (by omega), if_neg h]
    exact may_l0 l (by omega) n l.length k 0 (by omega) (by omega)
theorem wrapT {i : Nat} (h : i + 1 ≤ 9223372036854775807) : wrap64 ((i : Int) + 1) = ((i + 1 : Nat) : Int) := by unfold wrap64; omega
theorem long16_l0 (l : List S27) (hl : l.length ≤ 9223372036854775807) (d : Nat) : ∀ k i, i + d = l.length → d < k →
    ∃ v, hibernacleref16_Long.l0 k l (l.length : Int) (i : Int) = some v ∧ (v = 1 ∨ v = 0 ∧ l.length ≤ 40) := by
  induction d with
  | zero =>
    intro k i hi hk
    obtain ⟨k, rfl⟩ : ∃ m, k = m + 1 := ⟨k - 1, by omega⟩
    simp only [hibernacleref16_Long.l0]
    rw [if_neg (by omega)]
    by_cases h : (l.length : Int) > 40
    · rw [if_pos h]; exact ⟨1, rfl, .inl rfl⟩
    · rw [if_neg h]; exact ⟨0, rfl, .inr ⟨rfl, by omega⟩⟩
  | succ d ih =>
    intro k i hi hk
    obtain ⟨k, rfl⟩ : ∃ m, k = m + 1 := ⟨k - 1, by omega⟩
    simp only [hibernacleref16_Long.l0]
    rw [if_pos (by omega), if_pos (by omega), if_pos (by omega), wrapT (by omega)]
    split
    · exact ⟨1, rfl, .inl rfl⟩
    · exact ih k (i + 1) (by omega) (by omega)
theorem long16_some (l : List S27) (hl : l.length ≤ 9223372036854775807) (k : Nat) (hk : l.length < k) : ∃ v, hibernacleref16_Long.f k l = some v ∧ (v = 1 ∨ v = 0 ∧ l.length ≤ 40) := long16_l0 l hl l.length k 0 (by omega) hk
end Go.Proofs.Ytjfmnkmgnbbfgaa.A
