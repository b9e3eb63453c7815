/- A drive is the same as itself, in plain Lean. -/
import Derived.Test.YtjfmnkmgnbbfgaaD0
import Derived.Test.YtjfmnkmgnbbfgaaA36
set_option linter.unusedVariables false
namespace Go.Proofs.Ytjfmnkmgnbbfgaa.A
open Go.RowKit Go.Proofs.YtjfmnkmgnbbfgaaW.PrintWords Go.Proofs.YtjfmnkmgnbbfgaaW.PrintLast Go.Proofs.YtjfmnkmgnbbfgaaW.PrintMore

/-! ### the same drive -/
theorem same_l1 (l0 m0 : List ByteArray) (a b : Int) (l : List S27) (hl : l.length ≤ 140737488355000) (d : Nat) : ∀ k i, i + d = l.length → d < k →
    hibernacleref15_Same.l1 k (i : Int) l0 l a m0 l b = some true := by
  induction d with
  | zero =>
    intro k i hi hk
    obtain ⟨k, rfl⟩ : ∃ m, k = m + 1 := ⟨k - 1, by omega⟩
    simp only [hibernacleref15_Same.l1]
    rw [if_neg (by omega)]
  | succ d ih =>
    intro k i hi hk
    obtain ⟨k, rfl⟩ : ∃ m, k = m + 1 := ⟨k - 1, by omega⟩
    simp only [hibernacleref15_Same.l1]
    rw [if_pos (by omega), if_pos (by omega), if_pos (by omega), wrapS (by omega), ih k (i + 1) (by omega) (by omega)]
    simp
theorem same_l0 (l0 : List ByteArray) (a b : Int) (l : List S27) (h0 : l0.length ≤ 140737488355000) (hl : l.length ≤ 140737488355000) (d : Nat) : ∀ k i, i + d = l0.length → d + l.length + 1 < k →
    hibernacleref15_Same.l0 k (i : Int) l0 l a l0 l b = some true := by
  induction d with
  | zero =>
    intro k i hi hk
    obtain ⟨k, rfl⟩ : ∃ m, k = m + 1 := ⟨k - 1, by omega⟩
    simp only [hibernacleref15_Same.l0]
    rw [if_neg (by omega)]
    exact same_l1 l0 l0 a b l hl l.length k 0 (by omega) (by omega)
  | succ d ih =>
    intro k i hi hk
    obtain ⟨k, rfl⟩ : ∃ m, k = m + 1 := ⟨k - 1, by omega⟩
    simp only [hibernacleref15_Same.l0]
    rw [if_pos (by omega), if_pos (by omega), if_pos (by omega), wrapS (by omega), ih k (i + 1) (by omega) (by omega)]
    simp
/-- a drive is the same as itself -/
theorem same_some (l0 : List ByteArray) (l : List S27) (a : Int) (h0 : l0.length ≤ 140737488355000) (hl : l.length ≤ 140737488355000) : Ev (fun k => hibernacleref15_Same.f k l0 l a l0 l a) true := by
  refine Ev.of (fun k => hibernacleref15_Same.mono _ _ _ _ _ _ k) (k := l0.length + l.length + 4) ?_
  unfold hibernacleref15_Same.f
  rw [if_pos rfl, if_pos rfl]
  simp only [hibernacleref15_Same.j0]
  rw [if_neg (by simp)]
  exact same_l0 l0 a a l h0 hl l0.length _ 0 (by omega) (by omega)
end Go.Proofs.Ytjfmnkmgnbbfgaa.A
