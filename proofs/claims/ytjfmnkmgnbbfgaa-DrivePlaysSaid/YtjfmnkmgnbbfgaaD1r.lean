/- The document's Check, in plain Lean. -/
import Derived.Test.YtjfmnkmgnbbfgaaBa
import Derived.Test.YtjfmnkmgnbbfgaaA35
set_option linter.unusedVariables false
set_option linter.unusedSimpArgs false
namespace Go.Proofs.Ytjfmnkmgnbbfgaa.A
open Go.RowKit Go.Proofs.YtjfmnkmgnbbfgaaW.PrintWords Go.Proofs.YtjfmnkmgnbbfgaaW.PrintLast Go.Proofs.YtjfmnkmgnbbfgaaW.PrintMore
/-! ### the reference's Check is drive.Check -/
theorem rcheck_l1 (l0 : List ByteArray) (l : List S27) (a : Int) (hl : l.length ≤ 140737488355000) (d : Nat) : ∀ k i, i + d = l.length → 2 * d < k →
    hibernacleref15_Check.l1 k (i : Int) l0 l a = some (firstErr l0.length (l.drop i)) := by
  induction d with
  | zero =>
    intro k i hi hk
    obtain ⟨k, rfl⟩ : ∃ m, k = m + 1 := ⟨k - 1, by omega⟩
    simp only [hibernacleref15_Check.l1]
    rw [if_neg (by omega), List.drop_of_length_le (by omega)]
    rfl
  | succ d ih =>
    intro k i hi hk
    obtain ⟨k, rfl⟩ : ∃ m, k = m + 1 + 1 := ⟨k - 2, by omega⟩
    have hlt : i < l.length := by omega
    have e := ih k (i + 1) (by omega) (by omega)
    rw [List.drop_eq_getElem_cons hlt]
    simp only [hibernacleref15_Check.l1, hibernacleref15_Check.j2, firstErr]
    rw [if_pos (by omega), if_pos (by omega), rdTN l i hlt, wrapS (by omega)]
    rw [e]
    unfold lookV
    by_cases h1 : l[i].f0 < 0
    · simp [h1]
    · by_cases h2 : (l0.length : Int) ≤ l[i].f0
      · simp [h1, h2]
      · by_cases h3 : (l[i].f1.size : Int) = 128
        · simp [h1, h2, h3, hlt]
        · simp [h1, h2, h3, hlt]
theorem rcheck_l0 (l0 : List ByteArray) (l : List S27) (a : Int) (h0 : l0.length ≤ 256) (hl : l.length ≤ 140737488355000) (d : Nat) : ∀ k i, i + d = l0.length → d + 2 * l.length + 2 < k →
    hibernacleref15_Check.l0 k (i : Int) l0 l a = some (if (l0.drop i).any (fun b => !decide ((b.size : Int) = 128)) then 3 else firstErr l0.length l) := by
  induction d with
  | zero =>
    intro k i hi hk
    obtain ⟨k, rfl⟩ : ∃ m, k = m + 1 := ⟨k - 1, by omega⟩
    simp only [hibernacleref15_Check.l0]
    rw [if_neg (by omega), List.drop_of_length_le (by omega)]
    have := rcheck_l1 l0 l a hl l.length k 0 (by omega) (by omega)
    simpa using this
  | succ d ih =>
    intro k i hi hk
    obtain ⟨k, rfl⟩ : ∃ m, k = m + 1 := ⟨k - 1, by omega⟩
    have hlt : i < l0.length := by omega
    have e := ih k (i + 1) (by omega) (by omega)
    rw [List.drop_eq_getElem_cons hlt]
    simp only [hibernacleref15_Check.l0]
    rw [if_pos (by omega), if_pos (by omega), rdN l0 i hlt, wrapS (by omega), e, List.any_cons]
    by_cases h3 : (l0[i].size : Int) = 128
    · rw [if_pos h3, decide_eq_true h3, Bool.not_true, Bool.false_or]
    · rw [if_neg h3, decide_eq_false h3, Bool.not_false, Bool.true_or, if_pos rfl]
theorem rcheck_some (l0 : List ByteArray) (l : List S27) (a : Int) (hl : l.length ≤ 140737488355000) : Ev (fun k => hibernacleref15_Check.f k l0 l a) (checkV l0 l) := by
  refine Ev.of (fun k => hibernacleref15_Check.mono _ _ _ k) (k := l0.length + 2 * l.length + 3) ?_
  unfold hibernacleref15_Check.f checkV
  by_cases h : (l0.length : Int) > 256
  · rw [if_pos h, if_pos (by omega)]
  · rw [if_neg h, if_neg (by omega)]
    have := rcheck_l0 l0 l a (by omega) hl l0.length (l0.length + 2 * l.length + 3) 0 (by omega) (by omega)
    simpa using this

theorem rcheck_many (b : List ByteArray) (p : List S27) (a : Int) (hl : p.length ≤ 1000) (k : Nat) (hk : b.length + 2 * p.length + 3 < k) : hibernacleref15_Check.f k b p a = some (checkV b p) := by
  unfold hibernacleref15_Check.f checkV
  by_cases h : (b.length : Int) > 256
  · rw [if_pos h, if_pos (by omega)]
  · rw [if_neg h, if_neg (by omega)]
    have := rcheck_l0 b p a (by omega) (by omega) b.length k 0 (by omega) (by omega)
    simpa using this
end Go.Proofs.Ytjfmnkmgnbbfgaa.A
