/- What Great computes, in plain Lean. -/
import Derived.Test.YtjfmnkmgnbbfgaaBa
import Derived.Test.YtjfmnkmgnbbfgaaA30
import Derived.Test.YtjfmnkmgnbbfgaaXfixed
import Derived.Test.YtjfmnkmgnbbfgaaXcheck
set_option linter.unusedVariables false
namespace Go.Proofs.Ytjfmnkmgnbbfgaa.A
open Go.RowKit Go.Proofs.YtjfmnkmgnbbfgaaW.PrintWords Go.Proofs.YtjfmnkmgnbbfgaaW.PrintLast Go.Proofs.YtjfmnkmgnbbfgaaW.PrintMore

/-! ### Great -/
theorem great_l1 (l : List S27) (hl : l.length ≤ 60) (d : Nat) : ∀ k i, i + d = l.length → d < k →
    ∃ v, hibernaclelaw15_Great.l1 k l (l.length : Int) (i : Int) = some v ∧ (v = 1 ∨ v = 0 ∧ ∀ x ∈ l.drop i, x.f1.size ≤ 1000) := by
  induction d with
  | zero =>
    intro k i hi hk
    obtain ⟨k, rfl⟩ : ∃ m, k = m + 1 := ⟨k - 1, by omega⟩
    simp only [hibernaclelaw15_Great.l1]
    rw [if_neg (by omega)]
    exact ⟨0, rfl, .inr ⟨rfl, by rw [List.drop_of_length_le (by omega)]; simp⟩⟩
  | succ d ih =>
    intro k i hi hk
    obtain ⟨k, rfl⟩ : ∃ m, k = m + 1 := ⟨k - 1, by omega⟩
    have hlt : i < l.length := by omega
    simp only [hibernaclelaw15_Great.l1]
    rw [if_pos (by omega), if_pos (by omega), if_pos (by omega), rdTN l i hlt]
    by_cases h : ((l[i].f1.size : Int) > 1000)
    · rw [if_pos h]
      exact ⟨1, rfl, .inl rfl⟩
    · rw [if_neg h, wrapS (by omega)]
      obtain ⟨v, hv, hc⟩ := ih k (i + 1) (by omega) (by omega)
      refine ⟨v, hv, ?_⟩
      rcases hc with hc | ⟨hc, ha⟩
      · exact .inl hc
      · refine .inr ⟨hc, ?_⟩
        rw [List.drop_eq_getElem_cons hlt]
        intro x hx
        rcases List.mem_cons.1 hx with rfl | hx
        · omega
        · exact ha x hx
theorem great_l0 (l : List ByteArray) (l1 : List S27) (a : Int) (hl : l.length ≤ 260) (hl1 : l1.length ≤ 60) (d : Nat) : ∀ k i, i + d = l.length → d + 62 < k →
    ∃ v, hibernaclelaw15_Great.l0 k l (l.length : Int) (i : Int) l l1 a = some v ∧ (v = 1 ∨ v = 0 ∧ (∀ x ∈ l.drop i, x.size ≤ 1000) ∧ ∀ x ∈ l1, x.f1.size ≤ 1000) := by
  induction d with
  | zero =>
    intro k i hi hk
    obtain ⟨k, rfl⟩ : ∃ m, k = m + 1 := ⟨k - 1, by omega⟩
    simp only [hibernaclelaw15_Great.l0]
    rw [if_neg (by omega)]
    obtain ⟨v, hv, hc⟩ := great_l1 l1 hl1 l1.length k 0 (by omega) (by omega)
    refine ⟨v, hv, ?_⟩
    rcases hc with hc | ⟨hc, ha⟩
    · exact .inl hc
    · exact .inr ⟨hc, by rw [List.drop_of_length_le (by omega)]; simp, by simpa using ha⟩
  | succ d ih =>
    intro k i hi hk
    obtain ⟨k, rfl⟩ : ∃ m, k = m + 1 := ⟨k - 1, by omega⟩
    have hlt : i < l.length := by omega
    simp only [hibernaclelaw15_Great.l0]
    rw [if_pos (by omega), if_pos (by omega), if_pos (by omega), rdN l i hlt]
    by_cases h : ((l[i].size : Int) > 1000)
    · rw [if_pos h]
      exact ⟨1, rfl, .inl rfl⟩
    · rw [if_neg h, wrapS (by omega)]
      obtain ⟨v, hv, hc⟩ := ih k (i + 1) (by omega) (by omega)
      refine ⟨v, hv, ?_⟩
      rcases hc with hc | ⟨hc, ha, hb⟩
      · exact .inl hc
      · refine .inr ⟨hc, ?_, hb⟩
        rw [List.drop_eq_getElem_cons hlt]
        intro x hx
        rcases List.mem_cons.1 hx with rfl | hx
        · omega
        · exact ha x hx
theorem great_some (l : List ByteArray) (l1 : List S27) (a : Int) : ∃ v, Ev (fun k => hibernaclelaw15_Great.f k l l1 a) v ∧ (v = 1 ∨ v = 0 ∧ l.length ≤ 260 ∧ l1.length ≤ 60 ∧ (∀ x ∈ l, x.size ≤ 1000) ∧ ∀ x ∈ l1, x.f1.size ≤ 1000) := by
  by_cases h1 : (l.length : Int) > 260
  · refine ⟨1, Ev.of (fun k => hibernaclelaw15_Great.mono _ _ _ k) (k := 1) ?_, .inl rfl⟩
    unfold hibernaclelaw15_Great.f
    rw [if_pos h1]
    simp [hibernaclelaw15_Great.j0]
  · by_cases h2 : (l1.length : Int) > 60
    · refine ⟨1, Ev.of (fun k => hibernaclelaw15_Great.mono _ _ _ k) (k := 1) ?_, .inl rfl⟩
      unfold hibernaclelaw15_Great.f
      rw [if_neg h1, decide_eq_true h2]
      simp [hibernaclelaw15_Great.j0]
    · obtain ⟨v, hv, hc⟩ := great_l0 l l1 a (by omega) (by omega) l.length (l.length + 63) 0 (by omega) (by omega)
      refine ⟨v, Ev.of (fun k => hibernaclelaw15_Great.mono _ _ _ k) (k := l.length + 64) ?_, ?_⟩
      · unfold hibernaclelaw15_Great.f
        rw [if_neg h1, decide_eq_false h2]
        simp only [hibernaclelaw15_Great.j0]
        rw [if_neg (by simp)]
        exact hv
      · rcases hc with hc | ⟨hc, ha, hb⟩
        · exact .inl hc
        · exact .inr ⟨hc, by omega, by omega, by simpa using ha, hb⟩

end Go.Proofs.Ytjfmnkmgnbbfgaa.A
