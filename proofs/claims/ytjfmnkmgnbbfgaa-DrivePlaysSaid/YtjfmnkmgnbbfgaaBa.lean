/- The ground of the drive's plain laws: indices, what a flush lands, Get, Put and Flush of the program. -/
import Derived.Test.YtjfmnkmgnbbfgaaXget
import Derived.Test.YtjfmnkmgnbbfgaaXland
import Derived.Test.YtjfmnkmgnbbfgaaA38
import Derived.Test.YtjfmnkmgnbbfgaaXrepeat
set_option linter.unusedVariables false
set_option linter.unusedSimpArgs false
namespace Go.Proofs.Ytjfmnkmgnbbfgaa.A
open Go.RowKit Go.Proofs.YtjfmnkmgnbbfgaaW.PrintWords Go.Proofs.YtjfmnkmgnbbfgaaW.PrintLast Go.Proofs.YtjfmnkmgnbbfgaaW.PrintMore
def zeroS : ByteArray := repB ⟨#[0]⟩ 128
theorem wrapS {i : Nat} (h : i ≤ 140737488355328) : wrap64 ((i : Int) + 1) = ((i + 1 : Nat) : Int) := by unfold wrap64; omega
theorem rdN (l : List ByteArray) (i : Nat) (h : i < l.length) : rdOf ByteArray.empty l (i : Int) = l[i] := by
  unfold rdOf
  rw [Int.toNat_natCast, List.getD_eq_getElem?_getD, List.getElem?_eq_getElem h, Option.getD_some]
theorem rdTN (l : List S27) (i : Nat) (h : i < l.length) : rd_T27 l (i : Int) = l[i] := by
  unfold rd_T27
  rw [Int.toNat_natCast, List.getD_eq_getElem?_getD, List.getElem?_eq_getElem h, Option.getD_some]


/-- a drive that may be -/
def Valid (b : List ByteArray) (p : List S27) : Prop := b.length ≤ 256 ∧ (∀ s ∈ b, (s.size : Int) = 128) ∧ ∀ x ∈ p, lookV b.length x.f0 x.f1 = 0
theorem firstErr_zero (n : Nat) (l : List S27) (h : firstErr n l = 0) : ∀ x ∈ l, lookV n x.f0 x.f1 = 0 := by
  induction l with
  | nil => simp
  | cons x l ih =>
    unfold firstErr at h
    by_cases hx : lookV n x.f0 x.f1 = 0
    · rw [if_neg (by simp [hx])] at h
      intro y hy
      rcases List.mem_cons.1 hy with rfl | hy
      · exact hx
      · exact ih h y hy
    · rw [if_pos hx] at h
      exact absurd h hx
theorem check_valid (b : List ByteArray) (p : List S27) (h : checkV b p = 0) : Valid b p := by
  unfold checkV at h
  by_cases h1 : 256 < b.length
  · rw [if_pos h1] at h; simp at h
  · rw [if_neg h1] at h
    by_cases h2 : b.any (fun b => !decide ((b.size : Int) = 128)) = true
    · rw [if_pos h2] at h; simp at h
    · rw [if_neg h2] at h
      refine ⟨by omega, ?_, firstErr_zero _ _ h⟩
      intro s hs
      have h3 : b.any (fun b => !decide ((b.size : Int) = 128)) = false := by simpa using h2
      have := List.any_eq_false.1 h3 s hs
      simpa using this
theorem valid_check (b : List ByteArray) (p : List S27) (h : Valid b p) : checkV b p = 0 := by
  unfold checkV
  rw [if_neg (by have := h.1; omega), if_neg, firstErr_none _ _ h.2.2]
  intro hc
  obtain ⟨s, hs, hn⟩ := List.any_eq_true.1 hc
  simp [h.2.1 s hs] at hn

/-- getV by the list itself -/
theorem backTo_map (zs : List S27) : (backTo zs zs.length).map (·.2) = zs.reverse := by
  apply List.ext_getElem
  · simp [backTo]
  · intro i h1 h2
    simp only [List.length_map, backTo_length] at h1
    simp only [backTo, List.getElem_map, List.getElem_range, List.getElem_reverse]
    rw [List.getD_eq_getElem?_getD, List.getElem?_eq_getElem (by omega), Option.getD_some]
theorem getV_rev (b : List ByteArray) (p : List S27) (i : Int) : getV b p i = match p.reverse.find? (fun x => decide (x.f0 = i)) with | some x => x.f1 | none => rdOf ByteArray.empty b i := by
  unfold getV
  rw [← backTo_map, List.find?_map]
  have e : (fun x : Int × S27 => decide (x.2.f0 = i)) = ((fun x : S27 => decide (x.f0 = i)) ∘ fun x : Int × S27 => x.2) := rfl
  rw [e]
  cases List.find? ((fun x : S27 => decide (x.f0 = i)) ∘ fun x : Int × S27 => x.2) (backTo p p.length) with
  | none => rfl
  | some y => rfl
theorem getV_nil (b : List ByteArray) (i : Int) : getV b [] i = rdOf ByteArray.empty b i := by rw [getV_rev]; rfl
theorem getV_cons (b b' : List ByteArray) (x : S27) (p : List S27) (i : Int) (h : rdOf ByteArray.empty b' i = if x.f0 = i then x.f1 else rdOf ByteArray.empty b i) : getV b (x :: p) i = getV b' p i := by
  rw [getV_rev, getV_rev, List.reverse_cons, List.find?_append]
  cases List.find? (fun x => decide (x.f0 = i)) p.reverse with
  | some y => rfl
  | none =>
    by_cases hx : x.f0 = i
    · simp [hx, h]
    · simp [hx, h]

theorem rd_set (b : List ByteArray) (j i : Int) (v : ByteArray) (hj : 0 ≤ j) (hj2 : j < b.length) (hi : 0 ≤ i) : rdOf ByteArray.empty (b.set j.toNat v) i = if j = i then v else rdOf ByteArray.empty b i := by
  unfold rdOf
  rw [List.getD_eq_getElem?_getD, List.getD_eq_getElem?_getD, List.getElem?_set]
  by_cases h : j = i
  · subst h
    rw [if_pos rfl, if_pos (by omega), if_pos rfl, Option.getD_some]
  · rw [if_neg h, if_neg (by omega)]
theorem rd_mem (b : List ByteArray) (i : Int) (hi : 0 ≤ i) (h : i < b.length) : rdOf ByteArray.empty b i ∈ b := by
  have := rdN b i.toNat (by omega)
  rw [Int.toNat_of_nonneg hi] at this
  rw [this]
  exact List.getElem_mem _
/-- all landed: each block as it was last written; the drive may be -/
theorem land_whole (p : List S27) : ∀ (q : Nat) (b : List ByteArray), Valid b p →
    (landTo b.length (fun _ => 1) q p b).length = b.length ∧ (∀ s ∈ landTo b.length (fun _ => 1) q p b, (s.size : Int) = 128) ∧ ∀ i : Int, 0 ≤ i → i < b.length → rdOf ByteArray.empty (landTo b.length (fun _ => 1) q p b) i = getV b p i := by
  induction p with
  | nil =>
    intro q b h
    refine ⟨rfl, h.2.1, fun i _ _ => ?_⟩
    rw [getV_nil]
    rfl
  | cons x p ih =>
    intro q b h
    obtain ⟨z0, z1, z2⟩ := lookV_zero (h.2.2 x (by simp))
    have hst : landStep b.length 1 x b = b.set x.f0.toNat x.f1 := by
      unfold landStep
      rw [if_pos ⟨h.2.2 x (by simp), h.2.1 _ (rd_mem b x.f0 z0 z1)⟩]
      rfl
    have hlen : (b.set x.f0.toNat x.f1).length = b.length := List.length_set
    have hv : Valid (b.set x.f0.toNat x.f1) p := by
      refine ⟨by rw [hlen]; exact h.1, ?_, fun y hy => by rw [hlen]; exact h.2.2 y (by simp [hy])⟩
      intro s hs
      rcases List.mem_or_eq_of_mem_set hs with hs | rfl
      · exact h.2.1 s hs
      · exact z2
    have := ih (q + 1) _ hv
    rw [hlen] at this
    obtain ⟨a1, a2, a3⟩ := this
    rw [landTo, hst]
    refine ⟨a1, a2, fun i h0 h1 => ?_⟩
    rw [a3 i h0 h1]
    exact (getV_cons _ _ _ _ _ (rd_set b x.f0 i x.f1 z0 z1 h0)).symm
theorem getV_snoc4 (b : List ByteArray) (p : List S27) (x : S27) (i : Int) : getV b (p ++ [x]) i = if x.f0 = i then x.f1 else getV b p i := by
  rw [getV_rev, getV_rev, List.reverse_append, List.reverse_singleton, List.singleton_append, List.find?_cons]
  by_cases h : x.f0 = i
  · simp [h]
  · simp [h]
theorem dget_many (b : List ByteArray) (p : List S27) (a i : Int) (hp : p.length ≤ 1000) : drive_Get.f b p a i = some (if i < 0 ∨ (b.length : Int) ≤ i then (⟨#[]⟩, 2) else (getV b p i, 0)) := by
  unfold drive_Get.f
  rw [if_pos (by omega)]
  by_cases h : i < 0 ∨ (b.length : Int) ≤ i
  · rw [if_pos h, if_pos h]
  · rw [if_neg h, if_neg h]
/-- the number of calls behind one more -/
def lessV (a : Int) : Int := if a > 0 then wrap64 (a - 1) else a
def putV (b : List ByteArray) (p : List S27) (a i : Int) (data : ByteArray) : List ByteArray × List S27 × Int × Int :=
  if lookV b.length i data = 0 then (if a = 0 then (b, p, a, 17) else (b, p ++ [(⟨i, data⟩ : S27)], lessV a, 0)) else ([], [], 0, lookV b.length i data)
theorem copied_some4 (b : List ByteArray) (p : List S27) (a : Int) (hb : b.length ≤ 256) (hp : p.length ≤ 1000) : drive_copied.f b p a = some (b, p, a) := by
  unfold drive_copied.f slices_Clone_string_string.f api_Write_111.f
  rw [if_pos (by omega), Option.bind_some, if_pos (by omega), Option.bind_some]
theorem through_some4 (b : List ByteArray) (p : List S27) (a : Int) (hb : b.length ≤ 256) (hp : p.length ≤ 1000) : drive_through.f b p a = some (b, p, lessV a, if a = 0 then 17 else 0) := by
  unfold drive_through.f lessV
  rw [copied_some4 b p a hb hp, Option.bind_some]
  dsimp only
  by_cases h0 : a = 0
  · simp [h0]
  · by_cases h1 : a > 0
    · simp [h0, h1]
    · simp [h0, h1]
theorem dput_many (b : List ByteArray) (p : List S27) (a i : Int) (data : ByteArray) (hb : b.length ≤ 256) (hp : p.length ≤ 1000) (k : Nat) (hk : 1 < k) :
    drive_Put.f k b p a i data = some (putV b p a i data) := by
  obtain ⟨k, rfl⟩ : ∃ m, k = m + 2 := ⟨k - 2, by omega⟩
  unfold drive_Put.f putV
  rw [at_rounds (g := fun k => drive_look.f k b p a i data) (fun k => drive_look.mono _ _ _ _ _ k) (by omega) (look_some b p a i data), Option.bind_some]
  by_cases h : lookV b.length i data = 0
  · rw [if_pos h, if_pos h, through_some4 b p a hb hp, Option.bind_some]
    dsimp only
    by_cases h0 : a = 0
    · rw [if_pos h0, if_pos h0, if_neg (by decide)]
      simp [lessV, h0]
    · rw [if_neg h0, if_neg h0, if_pos rfl, if_pos (by omega)]
  · rw [if_neg h, if_neg h]
def flushV (b : List ByteArray) (p : List S27) (a : Int) : List ByteArray × List S27 × Int × Int :=
  if a = 0 then (b, p, a, 17) else (landTo b.length (fun _ => 1) 0 p b, [], lessV a, 0)
theorem dflush_many (b : List ByteArray) (p : List S27) (a : Int) (hb : b.length ≤ 256) (hp : p.length ≤ 1000) : drive_Flush.f b p a = some (flushV b p a) := by
  unfold drive_Flush.f flushV
  rw [through_some4 b p a hb hp, Option.bind_some]
  dsimp only
  by_cases ha : a = 0
  · simp [ha, lessV]
  · simp only [ha, if_false, if_true]
    rw [if_pos (by omega)]
end Go.Proofs.Ytjfmnkmgnbbfgaa.A
