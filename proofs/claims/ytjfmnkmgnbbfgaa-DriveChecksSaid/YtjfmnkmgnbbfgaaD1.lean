/- What the printed functions of drive and its reference compute, in plain Lean. -/
import Derived.Test.YtjfmnkmgnbbfgaaA30
import Derived.Test.YtjfmnkmgnbbfgaaA32
import Derived.Test.YtjfmnkmgnbbfgaaA33
import Derived.Test.YtjfmnkmgnbbfgaaA35
import Derived.Test.YtjfmnkmgnbbfgaaA36
import Derived.Test.YtjfmnkmgnbbfgaaXfixed
import Derived.Test.YtjfmnkmgnbbfgaaXcheck
set_option linter.unusedVariables false
namespace Go.Proofs.Ytjfmnkmgnbbfgaa.A
open Go.RowKit Go.Proofs.YtjfmnkmgnbbfgaaW.PrintWords Go.Proofs.YtjfmnkmgnbbfgaaW.PrintLast Go.Proofs.YtjfmnkmgnbbfgaaW.PrintMore

theorem wrapS {i : Nat} (h : i ≤ 140737488355328) : wrap64 ((i : Int) + 1) = ((i + 1 : Nat) : Int) := by unfold wrap64; omega
theorem rdN (l : List ByteArray) (i : Nat) (h : i < l.length) : rdOf ByteArray.empty l (i : Int) = l[i] := by
  unfold rdOf
  rw [Int.toNat_natCast, List.getD_eq_getElem?_getD, List.getElem?_eq_getElem h, Option.getD_some]
theorem rdTN (l : List S27) (i : Nat) (h : i < l.length) : rd_T27 l (i : Int) = l[i] := by
  unfold rd_T27
  rw [Int.toNat_natCast, List.getD_eq_getElem?_getD, List.getElem?_eq_getElem h, Option.getD_some]

/-! ### Great -/
theorem great_l1 (l : List S27) (hl : l.length ≤ 60) (d : Nat) : ∀ k i, i + d = l.length → d < k →
    ∃ v, hibernaclelaw15_Great.l1 k l (l.length : Int) (i : Int) = some v ∧ (v = 1 ∨ v = 0 ∧ ∀ x ∈ l.drop i, x.f1.size ≤ 1000) := by
  induction d with
  | zero =>
    intro k i hi hk
    obtain ⟨k, rfl⟩ : ∃ m, k = m + 1 := ⟨k - 1, by omega⟩
    simp only [hibernaclelaw15_Great.l1]
    rw [if_neg (by omega)]
    exact ⟨0, rfl, .inr ⟨rfl, by rw [List.drop_of_length_le (by omega)]; simp⟩⟩
  | succ d ih =>
    intro k i hi hk
    obtain ⟨k, rfl⟩ : ∃ m, k = m + 1 := ⟨k - 1, by omega⟩
    have hlt : i < l.length := by omega
    simp only [hibernaclelaw15_Great.l1]
    rw [if_pos (by omega), if_pos (by omega), if_pos (by omega), rdTN l i hlt]
    by_cases h : ((l[i].f1.size : Int) > 1000)
    · rw [if_pos h]
      exact ⟨1, rfl, .inl rfl⟩
    · rw [if_neg h, wrapS (by omega)]
      obtain ⟨v, hv, hc⟩ := ih k (i + 1) (by omega) (by omega)
      refine ⟨v, hv, ?_⟩
      rcases hc with hc | ⟨hc, ha⟩
      · exact .inl hc
      · refine .inr ⟨hc, ?_⟩
        rw [List.drop_eq_getElem_cons hlt]
        intro x hx
        rcases List.mem_cons.1 hx with rfl | hx
        · omega
        · exact ha x hx
theorem great_l0 (l : List ByteArray) (l1 : List S27) (a : Int) (hl : l.length ≤ 260) (hl1 : l1.length ≤ 60) (d : Nat) : ∀ k i, i + d = l.length → d + 62 < k →
    ∃ v, hibernaclelaw15_Great.l0 k l (l.length : Int) (i : Int) l l1 a = some v ∧ (v = 1 ∨ v = 0 ∧ (∀ x ∈ l.drop i, x.size ≤ 1000) ∧ ∀ x ∈ l1, x.f1.size ≤ 1000) := by
  induction d with
  | zero =>
    intro k i hi hk
    obtain ⟨k, rfl⟩ : ∃ m, k = m + 1 := ⟨k - 1, by omega⟩
    simp only [hibernaclelaw15_Great.l0]
    rw [if_neg (by omega)]
    obtain ⟨v, hv, hc⟩ := great_l1 l1 hl1 l1.length k 0 (by omega) (by omega)
    refine ⟨v, hv, ?_⟩
    rcases hc with hc | ⟨hc, ha⟩
    · exact .inl hc
    · exact .inr ⟨hc, by rw [List.drop_of_length_le (by omega)]; simp, by simpa using ha⟩
  | succ d ih =>
    intro k i hi hk
    obtain ⟨k, rfl⟩ : ∃ m, k = m + 1 := ⟨k - 1, by omega⟩
    have hlt : i < l.length := by omega
    simp only [hibernaclelaw15_Great.l0]
    rw [if_pos (by omega), if_pos (by omega), if_pos (by omega), rdN l i hlt]
    by_cases h : ((l[i].size : Int) > 1000)
    · rw [if_pos h]
      exact ⟨1, rfl, .inl rfl⟩
    · rw [if_neg h, wrapS (by omega)]
      obtain ⟨v, hv, hc⟩ := ih k (i + 1) (by omega) (by omega)
      refine ⟨v, hv, ?_⟩
      rcases hc with hc | ⟨hc, ha, hb⟩
      · exact .inl hc
      · refine .inr ⟨hc, ?_, hb⟩
        rw [List.drop_eq_getElem_cons hlt]
        intro x hx
        rcases List.mem_cons.1 hx with rfl | hx
        · omega
        · exact ha x hx
theorem great_some (l : List ByteArray) (l1 : List S27) (a : Int) : ∃ v, Ev (fun k => hibernaclelaw15_Great.f k l l1 a) v ∧ (v = 1 ∨ v = 0 ∧ l.length ≤ 260 ∧ l1.length ≤ 60 ∧ (∀ x ∈ l, x.size ≤ 1000) ∧ ∀ x ∈ l1, x.f1.size ≤ 1000) := by
  by_cases h1 : (l.length : Int) > 260
  · refine ⟨1, Ev.of (fun k => hibernaclelaw15_Great.mono _ _ _ k) (k := 1) ?_, .inl rfl⟩
    unfold hibernaclelaw15_Great.f
    rw [if_pos h1]
    simp [hibernaclelaw15_Great.j0]
  · by_cases h2 : (l1.length : Int) > 60
    · refine ⟨1, Ev.of (fun k => hibernaclelaw15_Great.mono _ _ _ k) (k := 1) ?_, .inl rfl⟩
      unfold hibernaclelaw15_Great.f
      rw [if_neg h1, decide_eq_true h2]
      simp [hibernaclelaw15_Great.j0]
    · obtain ⟨v, hv, hc⟩ := great_l0 l l1 a (by omega) (by omega) l.length (l.length + 63) 0 (by omega) (by omega)
      refine ⟨v, Ev.of (fun k => hibernaclelaw15_Great.mono _ _ _ k) (k := l.length + 64) ?_, ?_⟩
      · unfold hibernaclelaw15_Great.f
        rw [if_neg h1, decide_eq_false h2]
        simp only [hibernaclelaw15_Great.j0]
        rw [if_neg (by simp)]
        exact hv
      · rcases hc with hc | ⟨hc, ha, hb⟩
        · exact .inl hc
        · exact .inr ⟨hc, by omega, by omega, by simpa using ha, hb⟩

/-! ### the reference's Check is drive.Check -/
theorem rcheck_l1 (l0 : List ByteArray) (l : List S27) (a : Int) (hl : l.length ≤ 140737488355000) (d : Nat) : ∀ k i, i + d = l.length → 2 * d < k →
    hibernacleref15_Check.l1 k (i : Int) l0 l a = some (firstErr l0.length (l.drop i)) := by
  induction d with
  | zero =>
    intro k i hi hk
    obtain ⟨k, rfl⟩ : ∃ m, k = m + 1 := ⟨k - 1, by omega⟩
    simp only [hibernacleref15_Check.l1]
    rw [if_neg (by omega), List.drop_of_length_le (by omega)]
    rfl
  | succ d ih =>
    intro k i hi hk
    obtain ⟨k, rfl⟩ : ∃ m, k = m + 1 + 1 := ⟨k - 2, by omega⟩
    have hlt : i < l.length := by omega
    have e := ih k (i + 1) (by omega) (by omega)
    rw [List.drop_eq_getElem_cons hlt]
    simp only [hibernacleref15_Check.l1, hibernacleref15_Check.j2, firstErr]
    rw [if_pos (by omega), if_pos (by omega), rdTN l i hlt, wrapS (by omega)]
    rw [e]
    unfold lookV
    by_cases h1 : l[i].f0 < 0
    · simp [h1]
    · by_cases h2 : (l0.length : Int) ≤ l[i].f0
      · simp [h1, h2]
      · by_cases h3 : (l[i].f1.size : Int) = 128
        · simp [h1, h2, h3, hlt]
        · simp [h1, h2, h3, hlt]
theorem rcheck_l0 (l0 : List ByteArray) (l : List S27) (a : Int) (h0 : l0.length ≤ 256) (hl : l.length ≤ 140737488355000) (d : Nat) : ∀ k i, i + d = l0.length → d + 2 * l.length + 2 < k →
    hibernacleref15_Check.l0 k (i : Int) l0 l a = some (if (l0.drop i).any (fun b => !decide ((b.size : Int) = 128)) then 3 else firstErr l0.length l) := by
  induction d with
  | zero =>
    intro k i hi hk
    obtain ⟨k, rfl⟩ : ∃ m, k = m + 1 := ⟨k - 1, by omega⟩
    simp only [hibernacleref15_Check.l0]
    rw [if_neg (by omega), List.drop_of_length_le (by omega)]
    have := rcheck_l1 l0 l a hl l.length k 0 (by omega) (by omega)
    simpa using this
  | succ d ih =>
    intro k i hi hk
    obtain ⟨k, rfl⟩ : ∃ m, k = m + 1 := ⟨k - 1, by omega⟩
    have hlt : i < l0.length := by omega
    have e := ih k (i + 1) (by omega) (by omega)
    rw [List.drop_eq_getElem_cons hlt]
    simp only [hibernacleref15_Check.l0]
    rw [if_pos (by omega), if_pos (by omega), rdN l0 i hlt, wrapS (by omega), e, List.any_cons]
    by_cases h3 : (l0[i].size : Int) = 128
    · rw [if_pos h3, decide_eq_true h3, Bool.not_true, Bool.false_or]
    · rw [if_neg h3, decide_eq_false h3, Bool.not_false, Bool.true_or, if_pos rfl]
theorem rcheck_some (l0 : List ByteArray) (l : List S27) (a : Int) (hl : l.length ≤ 140737488355000) : Ev (fun k => hibernacleref15_Check.f k l0 l a) (checkV l0 l) := by
  refine Ev.of (fun k => hibernacleref15_Check.mono _ _ _ k) (k := l0.length + 2 * l.length + 3) ?_
  unfold hibernacleref15_Check.f checkV
  by_cases h : (l0.length : Int) > 256
  · rw [if_pos h, if_pos (by omega)]
  · rw [if_neg h, if_neg (by omega)]
    have := rcheck_l0 l0 l a (by omega) hl l0.length (l0.length + 2 * l.length + 3) 0 (by omega) (by omega)
    simpa using this

theorem rep_zero : strings_Repeat.f (⟨#[0]⟩ : ByteArray) 128 = some zeroS := by kernel_rfl

theorem drive_New_l0 (n : Nat) (hn : n ≤ 256) (d : Nat) : ∀ k i (acc : List ByteArray), i + d = n → acc.length = i → d < k → drive_New.l0 k (n : Int) (i : Int) acc (-1) = some (acc ++ List.replicate d zeroS, [], -1, 0) := by
  induction d with
  | zero =>
    intro k i acc hi ha hk
    obtain ⟨k, rfl⟩ : ∃ m, k = m + 1 := ⟨k - 1, by omega⟩
    simp only [drive_New.l0]
    rw [if_neg (by omega)]
    simp
  | succ d ih =>
    intro k i acc hi ha hk
    obtain ⟨k, rfl⟩ : ∃ m, k = m + 1 := ⟨k - 1, by omega⟩
    simp only [drive_New.l0]
    rw [if_pos (by omega), rep_zero, Option.bind_some, if_pos (by omega), wrapS (by omega)]
    rw [ih k (i + 1) (acc ++ [zeroS]) (by omega) (by simp [ha]) (by omega), List.replicate_succ, List.append_assoc]
    rfl
theorem drive_New_some (n : Int) : Ev (fun k => drive_New.f k n) (if n < 0 ∨ 256 < n then ([], [], 0, 2) else (List.replicate n.toNat zeroS, [], -1, 0)) := by
  refine Ev.of (fun k => drive_New.mono _ k) (k := 300) ?_
  unfold drive_New.f
  by_cases h1 : n < 0
  · rw [if_pos h1, if_pos (.inl h1)]
    rfl
  · rw [if_neg h1]
    by_cases h2 : n > 256
    · rw [decide_eq_true h2, if_pos (.inr h2)]
      rfl
    · rw [decide_eq_false h2, if_neg (by omega)]
      simp only [drive_New.j0]
      rw [if_neg (by simp)]
      have := drive_New_l0 n.toNat (by omega) n.toNat 299 0 [] (by omega) rfl (by omega)
      rw [Int.toNat_of_nonneg (by omega)] at this
      exact this

theorem hibernacleref15_New_l0 (n : Nat) (hn : n ≤ 256) (d : Nat) : ∀ k i (acc : List ByteArray), i + d = n → acc.length = i → d < k → hibernacleref15_New.l0 k (n : Int) (i : Int) acc (-1) = some (acc ++ List.replicate d zeroS, [], -1, 0) := by
  induction d with
  | zero =>
    intro k i acc hi ha hk
    obtain ⟨k, rfl⟩ : ∃ m, k = m + 1 := ⟨k - 1, by omega⟩
    simp only [hibernacleref15_New.l0]
    rw [if_neg (by omega)]
    simp
  | succ d ih =>
    intro k i acc hi ha hk
    obtain ⟨k, rfl⟩ : ∃ m, k = m + 1 := ⟨k - 1, by omega⟩
    simp only [hibernacleref15_New.l0]
    rw [if_pos (by omega), if_pos (by omega), if_pos (by omega), wrapS (by omega), ← eq1_v]
    rw [ih k (i + 1) (acc ++ [zeroS]) (by omega) (by simp [ha]) (by omega), List.replicate_succ, List.append_assoc]
    rfl
theorem hibernacleref15_New_some (n : Int) : Ev (fun k => hibernacleref15_New.f k n) (if n < 0 ∨ 256 < n then ([], [], 0, 2) else (List.replicate n.toNat zeroS, [], -1, 0)) := by
  refine Ev.of (fun k => hibernacleref15_New.mono _ k) (k := 300) ?_
  unfold hibernacleref15_New.f
  by_cases h1 : n < 0
  · rw [if_pos h1, if_pos (.inl h1)]
    rfl
  · rw [if_neg h1]
    by_cases h2 : n > 256
    · rw [decide_eq_true h2, if_pos (.inr h2)]
      rfl
    · rw [decide_eq_false h2, if_neg (by omega)]
      simp only [hibernacleref15_New.j0]
      rw [if_neg (by simp)]
      have := hibernacleref15_New_l0 n.toNat (by omega) n.toNat 299 0 [] (by omega) rfl (by omega)
      rw [Int.toNat_of_nonneg (by omega)] at this
      exact this

/-! ### the same drive -/
theorem same_l1 (l0 m0 : List ByteArray) (a b : Int) (l : List S27) (hl : l.length ≤ 140737488355000) (d : Nat) : ∀ k i, i + d = l.length → d < k →
    hibernacleref15_Same.l1 k (i : Int) l0 l a m0 l b = some true := by
  induction d with
  | zero =>
    intro k i hi hk
    obtain ⟨k, rfl⟩ : ∃ m, k = m + 1 := ⟨k - 1, by omega⟩
    simp only [hibernacleref15_Same.l1]
    rw [if_neg (by omega)]
  | succ d ih =>
    intro k i hi hk
    obtain ⟨k, rfl⟩ : ∃ m, k = m + 1 := ⟨k - 1, by omega⟩
    simp only [hibernacleref15_Same.l1]
    rw [if_pos (by omega), if_pos (by omega), if_pos (by omega), wrapS (by omega), ih k (i + 1) (by omega) (by omega)]
    simp
theorem same_l0 (l0 : List ByteArray) (a b : Int) (l : List S27) (h0 : l0.length ≤ 140737488355000) (hl : l.length ≤ 140737488355000) (d : Nat) : ∀ k i, i + d = l0.length → d + l.length + 1 < k →
    hibernacleref15_Same.l0 k (i : Int) l0 l a l0 l b = some true := by
  induction d with
  | zero =>
    intro k i hi hk
    obtain ⟨k, rfl⟩ : ∃ m, k = m + 1 := ⟨k - 1, by omega⟩
    simp only [hibernacleref15_Same.l0]
    rw [if_neg (by omega)]
    exact same_l1 l0 l0 a b l hl l.length k 0 (by omega) (by omega)
  | succ d ih =>
    intro k i hi hk
    obtain ⟨k, rfl⟩ : ∃ m, k = m + 1 := ⟨k - 1, by omega⟩
    simp only [hibernacleref15_Same.l0]
    rw [if_pos (by omega), if_pos (by omega), if_pos (by omega), wrapS (by omega), ih k (i + 1) (by omega) (by omega)]
    simp
/-- a drive is the same as itself -/
theorem same_some (l0 : List ByteArray) (l : List S27) (a : Int) (h0 : l0.length ≤ 140737488355000) (hl : l.length ≤ 140737488355000) : Ev (fun k => hibernacleref15_Same.f k l0 l a l0 l a) true := by
  refine Ev.of (fun k => hibernacleref15_Same.mono _ _ _ _ _ _ k) (k := l0.length + l.length + 4) ?_
  unfold hibernacleref15_Same.f
  rw [if_pos rfl, if_pos rfl]
  simp only [hibernacleref15_Same.j0]
  rw [if_neg (by simp)]
  exact same_l0 l0 a a l h0 hl l0.length _ 0 (by omega) (by omega)
end Go.Proofs.Ytjfmnkmgnbbfgaa.A
