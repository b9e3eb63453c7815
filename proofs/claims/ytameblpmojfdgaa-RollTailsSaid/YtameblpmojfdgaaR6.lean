/- Plain lemmas for the law RollTails: what is alike is cut alike. -/
import Derived.Test.YtameblpmojfdgaaR2
import Derived.Maps.OwnSet
namespace Go.Proofs.Ytameblpmojfdgaa.A
open Go.RowKit Go.Proofs.YtameblpmojfdgaaW.PrintWords Go.Proofs.YtameblpmojfdgaaW.PrintLast Go.Proofs.YtameblpmojfdgaaW.PrintMore

/-- how many bytes the chunks from i on have -/
def tot (X : List (List UInt8)) (i : Nat) : Nat := (X.drop i).flatten.length
theorem tot_end (X : List (List UInt8)) : tot X X.length = 0 := by unfold tot; rw [List.drop_length]; rfl
theorem tot_step (X : List (List UInt8)) (i : Nat) (h : i < X.length) : tot X i = (X[i]).length + tot X (i + 1) := by
  unfold tot; rw [List.drop_eq_getElem_cons h, List.flatten_cons, List.length_append]
theorem tot_le (X : List (List UInt8)) (i : Nat) : tot X i ≤ X.flatten.length := by
  have : (X.take i).flatten ++ (X.drop i).flatten = X.flatten := by rw [← List.flatten_append, List.take_append_drop]
  have := congrArg List.length this
  rw [List.length_append] at this
  unfold tot
  omega
theorem drop_tot (X : List (List UInt8)) (i : Nat) : (X.drop i).flatten = X.flatten.drop (X.flatten.length - tot X i) := by
  have h : (X.take i).flatten ++ (X.drop i).flatten = X.flatten := by rw [← List.flatten_append, List.take_append_drop]
  have hl := congrArg List.length h
  rw [List.length_append] at hl
  unfold tot
  have : X.flatten.length - (X.drop i).flatten.length = (X.take i).flatten.length := by omega
  rw [this]
  conv => rhs; rw [← h]
  rw [List.drop_left]
theorem tails_same {c0 c1 : Nat} {c2 c3 : Int} (h1 : 1 ≤ c1) (F G T : List UInt8) (i k : Nat) (hi : i ≤ (ch c0 c1 c2 c3 (F ++ T)).length) (hk : k ≤ (ch c0 c1 c2 c3 (G ++ T)).length)
    (he : tot (ch c0 c1 c2 c3 (F ++ T)) i = tot (ch c0 c1 c2 c3 (G ++ T)) k) (hle : tot (ch c0 c1 c2 c3 (G ++ T)) k ≤ T.length) :
    (ch c0 c1 c2 c3 (F ++ T)).drop i = (ch c0 c1 c2 c3 (G ++ T)).drop k := by
  rw [← ch_tail h1 (F ++ T) i hi, ← ch_tail h1 (G ++ T) k hk]
  congr 1
  rw [drop_tot, drop_tot, ch_join h1, ch_join h1, he]
  generalize tot (ch c0 c1 c2 c3 (G ++ T)) k = n at hle
  have e1 : ∀ H : List UInt8, (H ++ T).drop ((H ++ T).length - n) = T.drop (T.length - n) := by
    intro H
    have e : (H ++ T).length - n = H.length + (T.length - n) := by rw [List.length_append]; omega
    rw [e, ← List.drop_drop, List.drop_left]
  rw [e1 F, e1 G]
/-- what the map holds: at a number of bytes the place of the chunk from which on there are so many -/
def MapOk (X : List (List UInt8)) (D : DataW Unit) : Prop :=
  ∀ (n c : Int), Maps.has D (.int .i64 n) = true → D.atKey (.int .i64 n) (.lit (.int .i64 0)) = .lit (.int .i64 c) → ∃ i : Nat, c = i ∧ i < X.length ∧ n = (tot X i : Nat)
theorem mapOk_empty (X : List (List UInt8)) : MapOk X (.map []) := by
  intro n c h; cases h
theorem mapOk_put {X : List (List UInt8)} {D : DataW Unit} (h : MapOk X D) (hD : Maps.IsMap D) (i : Nat) (hi : i < X.length) : MapOk X (D.put (.int .i64 (tot X i : Nat)) (.lit (.int .i64 (i : Nat)))) := by
  intro n c h1 h2
  by_cases e : n = (tot X i : Nat)
  · subst e
    rw [Maps.atKey_put_same hD (by trivial)] at h2
    have : ((i : Nat) : Int) = c := by injection h2 with h2; injection h2
    exact ⟨i, this.symm, hi, rfl⟩
  · have hne : (Lit.int .i64 n) ≠ (Lit.int .i64 (tot X i : Nat)) := by intro h; injection h with _ h; exact e h
    rw [Maps.has_put_other hne] at h1
    rw [Maps.atKey_put_other hne] at h2
    exact h n c h1 h2
end Go.Proofs.Ytameblpmojfdgaa.A
