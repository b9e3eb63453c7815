/- Plain lemmas: the chunks of a text, as lists of bytes; what Cut here and in the document's reference come to. -/
import Derived.Test.YtameblpmojfdgaaXfirst
import Derived.Test.YtameblpmojfdgaaA10
import Derived.Test.YtameblpmojfdgaaA11
import Derived.Test.YtameblpmojfdgaaA12
import Derived.Test.YtameblpmojfdgaaA9
namespace Go.Proofs.Ytameblpmojfdgaa.A
open Go.RowKit Go.Proofs.YtameblpmojfdgaaW.PrintWords Go.Proofs.YtameblpmojfdgaaW.PrintLast Go.Proofs.YtameblpmojfdgaaW.PrintMore

/-- bytes as a text -/
def B (L : List UInt8) : ByteArray := ⟨L.toArray⟩
theorem B_eta (a : ByteArray) : B a.data.toList = a := by cases a; simp [B]
theorem B_list (L : List UInt8) : (B L).data.toList = L := by simp [B]
theorem B_toList (L : List UInt8) : (B L).toList = L := by rw [ByteArray.toList_eq]; exact B_list L
theorem B_size (L : List UInt8) : (B L).size = L.length := by simp [B, ByteArray.size]
theorem B_extract (L : List UInt8) (a b : Nat) : (B L).extract a b = B ((L.drop a).take (b - a)) := by
  rw [← B_eta ((B L).extract a b), toList_extract, B_list]
theorem B_inj {L M : List UInt8} (h : B L = B M) : L = M := by rw [← B_list L, h, B_list]

theorem firstI_bounds (L : List UInt8) (win : Nat) (mx mask : Int) : ∀ f i, i + f = L.length → i ≤ firstI L win mx mask f i ∧ firstI L win mx mask f i ≤ L.length := by
  intro f
  induction f with
  | zero => intro i h; exact ⟨Nat.le_refl _, by show i ≤ _; omega⟩
  | succ f ih =>
    intro i h
    unfold firstI
    split
    · exact ⟨Nat.le_refl _, by omega⟩
    · split
      · exact ⟨Nat.le_refl _, by omega⟩
      · split
        · exact ⟨Nat.le_refl _, by omega⟩
        · have := ih (i + 1) (by omega)
          exact ⟨by omega, this.2⟩
theorem firstI_max (L : List UInt8) (win m : Nat) (mask : Int) : ∀ f i, i ≤ m → i + f = L.length → firstI L win (m : Int) mask f i ≤ m := by
  intro f
  induction f with
  | zero => intro i h _; exact h
  | succ f ih =>
    intro i h hf
    unfold firstI
    split
    · exact h
    · split
      · omega
      · split
        · omega
        · exact ih (i + 1) (by omega) (by omega)
/-- the length of the first chunk -/
def fst1 (c0 c1 : Nat) (c2 c3 : Int) (L : List UInt8) : Nat := if L.length ≤ c1 then L.length else firstI L c0 c2 c3 (L.length - c1) c1
theorem fst1_le (c0 c1 : Nat) (c2 c3 : Int) (L : List UInt8) : fst1 c0 c1 c2 c3 L ≤ L.length := by
  unfold fst1
  split
  · omega
  · exact (firstI_bounds L c0 c2 c3 _ c1 (by omega)).2
theorem fst1_pos (c0 c1 : Nat) (c2 c3 : Int) (L : List UInt8) (h1 : 1 ≤ c1) (h : L ≠ []) : 1 ≤ fst1 c0 c1 c2 c3 L := by
  have : 0 < L.length := List.length_pos_iff.2 h
  unfold fst1
  split
  · omega
  · have := (firstI_bounds L c0 c2 c3 (L.length - c1) c1 (by omega)).1
    omega
theorem fst1_min (c0 c1 : Nat) (c2 c3 : Int) (L : List UInt8) : c1 ≤ fst1 c0 c1 c2 c3 L ∨ fst1 c0 c1 c2 c3 L = L.length := by
  unfold fst1
  split
  · exact .inr rfl
  · exact .inl (firstI_bounds L c0 c2 c3 (L.length - c1) c1 (by omega)).1
theorem fst1_max (c0 c1 m : Nat) (c3 : Int) (L : List UInt8) (h : c1 ≤ m) : fst1 c0 c1 m c3 L ≤ m := by
  unfold fst1
  split
  · omega
  · exact firstI_max L c0 m c3 _ c1 h (by omega)
def chF (c0 c1 : Nat) (c2 c3 : Int) : Nat → List UInt8 → List (List UInt8)
  | 0, _ => []
  | f + 1, L => if L = [] then [] else L.take (fst1 c0 c1 c2 c3 L) :: chF c0 c1 c2 c3 f (L.drop (fst1 c0 c1 c2 c3 L))
/-- the chunks -/
def ch (c0 c1 : Nat) (c2 c3 : Int) (L : List UInt8) : List (List UInt8) := chF c0 c1 c2 c3 L.length L
section
variable {c0 c1 : Nat} {c2 c3 : Int}
theorem chF_fuel (h1 : 1 ≤ c1) : ∀ f g (L : List UInt8), L.length ≤ f → L.length ≤ g → chF c0 c1 c2 c3 f L = chF c0 c1 c2 c3 g L := by
  intro f
  induction f with
  | zero =>
    intro g L hf _
    have : L = [] := List.length_eq_zero_iff.1 (by omega)
    subst this
    cases g with
    | zero => rfl
    | succ g => simp [chF]
  | succ f ih =>
    intro g L hf hg
    by_cases hL : L = []
    · subst hL
      cases g with
      | zero => simp [chF]
      | succ g => simp [chF]
    · have hp := fst1_pos c0 c1 c2 c3 L h1 hL
      cases g with
      | zero => exact absurd (List.length_eq_zero_iff.1 (by omega)) hL
      | succ g =>
        unfold chF
        rw [if_neg hL, if_neg hL]
        congr 1
        exact ih g _ (by rw [List.length_drop]; omega) (by rw [List.length_drop]; omega)
theorem ch_nil : ch c0 c1 c2 c3 [] = [] := rfl
theorem ch_cons (h1 : 1 ≤ c1) (L : List UInt8) (h : L ≠ []) : ch c0 c1 c2 c3 L = L.take (fst1 c0 c1 c2 c3 L) :: ch c0 c1 c2 c3 (L.drop (fst1 c0 c1 c2 c3 L)) := by
  have hp := fst1_pos c0 c1 c2 c3 L h1 h
  have h0 : 0 < L.length := List.length_pos_iff.2 h
  unfold ch
  obtain ⟨m, hm⟩ : ∃ m, L.length = m + 1 := ⟨L.length - 1, by omega⟩
  conv => lhs; rw [hm]
  conv => lhs; unfold chF
  rw [if_neg h]
  congr 1
  exact chF_fuel h1 _ _ _ (by rw [List.length_drop]; omega) (Nat.le_refl _)
/-- induction over the chunks -/
theorem ch_ind (h1 : 1 ≤ c1) {P : List UInt8 → Prop} (h0 : P []) (hs : ∀ L, L ≠ [] → P (L.drop (fst1 c0 c1 c2 c3 L)) → P L) (L : List UInt8) : P L := by
  generalize hn : L.length = n
  induction n using Nat.strongRecOn generalizing L with
  | _ n ih =>
    by_cases hL : L = []
    · subst hL; exact h0
    · have hp := fst1_pos c0 c1 c2 c3 L h1 hL
      have hl : 0 < L.length := List.length_pos_iff.2 hL
      refine hs L hL (ih _ ?_ _ rfl)
      rw [List.length_drop]
      omega
theorem ch_join (h1 : 1 ≤ c1) (L : List UInt8) : (ch c0 c1 c2 c3 L).flatten = L := by
  refine ch_ind (P := fun L => (ch c0 c1 c2 c3 L).flatten = L) (c0 := c0) (c1 := c1) (c2 := c2) (c3 := c3) h1 rfl (fun L hL ih => ?_) L
  rw [ch_cons h1 L hL, List.flatten_cons, ih, List.take_append_drop]
theorem ch_len (h1 : 1 ≤ c1) (L : List UInt8) : (ch c0 c1 c2 c3 L).length ≤ L.length := by
  refine ch_ind (P := fun L => (ch c0 c1 c2 c3 L).length ≤ L.length) (c0 := c0) (c1 := c1) (c2 := c2) (c3 := c3) h1 (Nat.le_refl _) (fun L hL ih => ?_) L
  have hp := fst1_pos c0 c1 c2 c3 L h1 hL
  have hl : 0 < L.length := List.length_pos_iff.2 hL
  rw [ch_cons h1 L hL, List.length_cons]
  rw [List.length_drop] at ih
  omega
/-- behind the end of a chunk all is cut as if the bytes began there -/
theorem ch_tail (h1 : 1 ≤ c1) (L : List UInt8) : ∀ n, n ≤ (ch c0 c1 c2 c3 L).length → ch c0 c1 c2 c3 ((ch c0 c1 c2 c3 L).drop n).flatten = (ch c0 c1 c2 c3 L).drop n := by
  refine ch_ind (P := fun L => ∀ n, n ≤ (ch c0 c1 c2 c3 L).length → ch c0 c1 c2 c3 ((ch c0 c1 c2 c3 L).drop n).flatten = (ch c0 c1 c2 c3 L).drop n) (c0 := c0) (c1 := c1) (c2 := c2) (c3 := c3) h1 ?_ (fun L hL ih => ?_) L
  · intro n _
    rw [ch_nil, List.drop_nil]
    rfl
  · intro n hn
    cases n with
    | zero => rw [List.drop_zero, ch_join h1]
    | succ n =>
      rw [ch_cons h1 L hL] at hn ⊢
      rw [List.drop_succ_cons]
      rw [List.length_cons] at hn
      exact ih n (by omega)
theorem ch_ne (h1 : 1 ≤ c1) (L : List UInt8) : ∀ x ∈ ch c0 c1 c2 c3 L, 1 ≤ x.length := by
  refine ch_ind (P := fun L => ∀ x ∈ ch c0 c1 c2 c3 L, 1 ≤ x.length) (c0 := c0) (c1 := c1) (c2 := c2) (c3 := c3) h1 ?_ (fun L hL ih => ?_) L
  · intro x hx; cases hx
  · intro x hx
    rw [ch_cons h1 L hL] at hx
    rcases List.mem_cons.1 hx with rfl | hx
    · have hp := fst1_pos c0 c1 c2 c3 L h1 hL
      have := fst1_le c0 c1 c2 c3 L
      rw [List.length_take]
      omega
    · exact ih x hx
theorem ch_max (m : Nat) (h1 : 1 ≤ c1) (hm : c1 ≤ m) (L : List UInt8) : ∀ x ∈ ch c0 c1 m c3 L, x.length ≤ m := by
  refine ch_ind (P := fun L => ∀ x ∈ ch c0 c1 m c3 L, x.length ≤ m) (c0 := c0) (c1 := c1) (c2 := m) (c3 := c3) h1 ?_ (fun L hL ih => ?_) L
  · intro x hx; cases hx
  · intro x hx
    rw [ch_cons h1 L hL] at hx
    rcases List.mem_cons.1 hx with rfl | hx
    · have := fst1_max c0 c1 m c3 L hm
      rw [List.length_take]
      omega
    · exact ih x hx
theorem ch_min (h1 : 1 ≤ c1) (L : List UInt8) : ∀ i x, (ch c0 c1 c2 c3 L)[i]? = some x → i + 1 < (ch c0 c1 c2 c3 L).length → c1 ≤ x.length := by
  refine ch_ind (P := fun L => ∀ i x, (ch c0 c1 c2 c3 L)[i]? = some x → i + 1 < (ch c0 c1 c2 c3 L).length → c1 ≤ x.length) (c0 := c0) (c1 := c1) (c2 := c2) (c3 := c3) h1 ?_ (fun L hL ih => ?_) L
  · intro i x hx _; simp [ch_nil] at hx
  · intro i x hx hi
    rw [ch_cons h1 L hL] at hx hi
    cases i with
    | zero =>
      rw [List.getElem?_cons_zero] at hx
      obtain rfl := Option.some.inj hx
      have hle := fst1_le c0 c1 c2 c3 L
      rcases fst1_min c0 c1 c2 c3 L with h | h
      · rw [List.length_take]; omega
      · exfalso
        rw [h, List.drop_of_length_le (Nat.le_refl _), ch_nil] at hi
        simp at hi
    | succ i =>
      rw [List.getElem?_cons_succ] at hx
      rw [List.length_cons] at hi
      exact ih i x hx (by omega)
end

/-! what Cut comes to -/
theorem roll_Cut.mono_ev (a0 : ByteArray) (c0 c1 c2 c3 : Int) : ∀ k, LeO (roll_Cut.f k a0 c0 c1 c2 c3) (roll_Cut.f (k + 1) a0 c0 c1 c2 c3) := fun k => roll_Cut.mono a0 c0 c1 c2 c3 k
theorem roll_Cut_l0 (m0 m1 : Nat) (c2 c3 : Int) (h0 : 1 ≤ m0) (h01 : m0 ≤ m1) (L : List UInt8) : ∀ (x : List ByteArray), x.length + L.length < 8796093022208 →
    Ev (fun k => roll_Cut.l0 k (B L) x m0 m1 c2 c3) (x ++ (ch m0 m1 c2 c3 L).map B, 0) := by
  refine ch_ind (P := fun L => ∀ (x : List ByteArray), x.length + L.length < 8796093022208 → Ev (fun k => roll_Cut.l0 k (B L) x m0 m1 c2 c3) (x ++ (ch m0 m1 c2 c3 L).map B, 0)) (c0 := m0) (c1 := m1) (c2 := c2) (c3 := c3) (by omega) ?_ (fun L hL ih => ?_) L
  · intro x hx
    refine Ev.step (f := fun _ => some (x, 0)) (fun k => ?_) ?_
    · simp only [roll_Cut.l0]
      rw [if_pos (by rw [B_toList])]
    · rw [ch_nil, List.map_nil, List.append_nil]; exact Ev.now _
  · intro x hx
    have hp := fst1_pos m0 m1 c2 c3 L (by omega) hL
    have hle := fst1_le m0 m1 c2 c3 L
    have hl : 0 < L.length := List.length_pos_iff.2 hL
    have hf : roll_first.f (B L) m0 m1 c2 c3 = some (fst1 m0 m1 c2 c3 L : Int) := by
      unfold roll_first.f
      rw [if_pos ⟨by omega, by omega, by rw [B_size]; omega⟩, B_size, B_list, Int.toNat_natCast, Int.toNat_natCast]
      unfold fst1
      by_cases h : L.length ≤ m1
      · rw [if_pos (by omega), if_pos h]
      · rw [if_neg (by omega), if_neg h]
    refine Ev.step (f := fun k => roll_Cut.l0 k (B (L.drop (fst1 m0 m1 c2 c3 L))) (x ++ [B (L.take (fst1 m0 m1 c2 c3 L))]) m0 m1 c2 c3) (fun k => ?_) ?_
    · simp only [roll_Cut.l0]
      rw [if_neg (by rw [B_toList]; exact hL), hf, Option.bind_some, if_pos (by omega), if_pos (by rw [B_size]; omega), if_pos (by omega), B_extract, B_extract, B_size, Int.toNat_natCast]
      rw [List.drop_zero, Nat.sub_zero]
      congr 2
      rw [List.take_of_length_le (by rw [List.length_drop]; exact Nat.le_refl _)]
    · have := ih (x ++ [B (L.take (fst1 m0 m1 c2 c3 L))]) (by rw [List.length_append, List.length_drop, List.length_singleton]; omega)
      rw [ch_cons (by omega) L hL, List.map_cons]
      simpa using this
theorem check_ok {c0 c1 c2 c3 : Int} (h : 1 ≤ c0 ∧ c0 ≤ 64 ∧ c0 ≤ c1 ∧ c1 ≤ c2 ∧ c2 ≤ 65536) : roll_Check.f c0 c1 c2 c3 = some 0 := by
  unfold roll_Check.f
  rw [if_neg (by omega), if_neg (by omega), if_neg (by omega), if_neg (by omega), if_neg (by omega)]
theorem check_no {c0 c1 c2 c3 : Int} (h : ¬ (1 ≤ c0 ∧ c0 ≤ 64 ∧ c0 ≤ c1 ∧ c1 ≤ c2 ∧ c2 ≤ 65536)) : roll_Check.f c0 c1 c2 c3 = some 2 := by
  unfold roll_Check.f
  repeat' split
  all_goals first | rfl | (exfalso; omega)
theorem rcheck_ok {c0 c1 c2 c3 : Int} (h : 1 ≤ c0 ∧ c0 ≤ 64 ∧ c0 ≤ c1 ∧ c1 ≤ c2 ∧ c2 ≤ 65536) : hibernacleref09_Check.f c0 c1 c2 c3 = some 0 := by
  unfold hibernacleref09_Check.f
  rw [if_neg (by omega), if_neg (by omega), if_neg (by omega), if_neg (by omega), if_neg (by omega)]
theorem rcheck_no {c0 c1 c2 c3 : Int} (h : ¬ (1 ≤ c0 ∧ c0 ≤ 64 ∧ c0 ≤ c1 ∧ c1 ≤ c2 ∧ c2 ≤ 65536)) : hibernacleref09_Check.f c0 c1 c2 c3 = some 2 := by
  unfold hibernacleref09_Check.f
  repeat' split
  all_goals first | rfl | (exfalso; omega)
theorem roll_Cut_no (a0 : ByteArray) {c0 c1 c2 c3 : Int} (h : ¬ (1 ≤ c0 ∧ c0 ≤ 64 ∧ c0 ≤ c1 ∧ c1 ≤ c2 ∧ c2 ≤ 65536)) : Ev (fun k => roll_Cut.f k a0 c0 c1 c2 c3) ([], 2) := by
  refine ⟨0, fun k _ => ?_⟩
  show roll_Cut.f k a0 c0 c1 c2 c3 = _
  unfold roll_Cut.f
  rw [check_no h, Option.bind_some, if_neg (by decide)]
theorem roll_Cut_ok (L : List UInt8) {c0 c1 c2 c3 : Int} (h : 1 ≤ c0 ∧ c0 ≤ 64 ∧ c0 ≤ c1 ∧ c1 ≤ c2 ∧ c2 ≤ 65536) (hL : L.length < 8796093022208) :
    Ev (fun k => roll_Cut.f k (B L) c0 c1 c2 c3) ((ch c0.toNat c1.toNat c2 c3 L).map B, 0) := by
  have e0 : c0 = (c0.toNat : Int) := by omega
  have e1 : c1 = (c1.toNat : Int) := by omega
  have := roll_Cut_l0 c0.toNat c1.toNat c2 c3 (by omega) (by omega) L [] (by simpa using hL)
  rw [← e0, ← e1] at this
  refine Ev.congr (f := fun k => roll_Cut.l0 k (B L) [] c0 c1 c2 c3) (fun k => ?_) (by simpa using this)
  unfold roll_Cut.f
  rw [check_ok h, Option.bind_some, if_pos rfl]
/-- two rows are one -/
theorem same_l0 (X Y : List ByteArray) (hl : X.length = Y.length) (hX : X.length ≤ 140737488355328) (d : Nat) : ∀ i, i + d = X.length →
    Ev (fun k => hibernacleref01_Same.l0 k X Y (X.length : Int) (i : Int)) (decide (X.drop i = Y.drop i)) := by
  induction d with
  | zero =>
    intro i hi
    refine Ev.step (f := fun _ => some true) (fun k => ?_) ?_
    · simp only [hibernacleref01_Same.l0]
      rw [if_neg (by omega)]
    · rw [List.drop_of_length_le (by omega), List.drop_of_length_le (by omega)]
      exact Ev.now _
  | succ d ih =>
    intro i hi
    have hx : i < X.length := by omega
    have hy : i < Y.length := by omega
    have ex : rdOf ByteArray.empty X (i : Int) = X[i] := by unfold rdOf; rw [Int.toNat_natCast]; simp [hx]
    have ey : rdOf ByteArray.empty Y (i : Int) = Y[i] := by unfold rdOf; rw [Int.toNat_natCast]; simp [hy]
    by_cases hxy : X[i] = Y[i]
    · refine Ev.step (f := fun k => hibernacleref01_Same.l0 k X Y (X.length : Int) ((i + 1 : Nat) : Int)) (fun k => ?_) ?_
      · simp only [hibernacleref01_Same.l0]
        rw [if_pos (by omega), if_pos (by omega), if_pos (by omega), if_pos (by omega), ex, ey, hxy, if_pos rfl]
        congr 1
        unfold wrap64
        omega
      · have := ih (i + 1) (by omega)
        have e : decide (X.drop i = Y.drop i) = decide (X.drop (i + 1) = Y.drop (i + 1)) := by
          rw [List.drop_eq_getElem_cons hx, List.drop_eq_getElem_cons hy, hxy, decide_eq_decide, List.cons.injEq]
          exact ⟨fun h => h.2, fun h => ⟨rfl, h⟩⟩
        rw [e]
        exact this
    · refine Ev.step (f := fun _ => some false) (fun k => ?_) ?_
      · simp only [hibernacleref01_Same.l0]
        rw [if_pos (by omega), if_pos (by omega), if_pos (by omega), if_pos (by omega), ex, ey, if_neg (fun h => hxy ?_)]
        rw [ByteArray.toList_eq, ByteArray.toList_eq] at h
        rw [← B_eta X[i], h, B_eta]
      · have e : decide (X.drop i = Y.drop i) = false := by
          rw [List.drop_eq_getElem_cons hx, List.drop_eq_getElem_cons hy, decide_eq_false_iff_not, List.cons.injEq]
          exact fun h => hxy h.1
        rw [e]
        exact Ev.now _
theorem same_ev (X Y : List ByteArray) (hX : X.length ≤ 140737488355328) : Ev (fun k => hibernacleref01_Same.f k X Y) (decide (X = Y)) := by
  by_cases hl : X.length = Y.length
  · refine Ev.congr (f := fun k => hibernacleref01_Same.l0 k X Y (X.length : Int) ((0 : Nat) : Int)) (fun k => ?_) ?_
    · unfold hibernacleref01_Same.f
      rw [if_pos (by omega)]
      rfl
    · simpa using same_l0 X Y hl hX X.length 0 (by omega)
  · refine ⟨0, fun k _ => ?_⟩
    show hibernacleref01_Same.f k X Y = _
    unfold hibernacleref01_Same.f
    rw [if_neg (by omega)]
    have : X ≠ Y := fun h => hl (by rw [h])
    simp [this]
theorem roll_Sum_ev (s : ByteArray) (hs : s.size ≤ 140737488351232) : Ev (fun k => roll_Sum.f k s) (sumB s) := by
  obtain ⟨k, hk⟩ := roll_Sum_some s hs
  exact Ev.of (fun k => roll_Sum.mono s k) hk
/-- the chapter's examples -/
theorem alive_ev : Ev (fun k => hibernaclelaw09_rollAlive.f k) true := by
  have h1 : Ev (fun k => roll_Cut.f k (⟨#[97, 98, 99]⟩ : ByteArray) 1 1 3 0) ((ch 1 1 3 0 [97, 98, 99]).map B, 0) := roll_Cut_ok [97, 98, 99] (by decide) (by decide)
  have h2 : (ch 1 1 3 0 [97, 98, 99]).map B = [(⟨#[97]⟩ : ByteArray), (⟨#[98]⟩ : ByteArray), (⟨#[99]⟩ : ByteArray)] := by decide +kernel
  have h3 := roll_Sum_ev (⟨#[97, 98]⟩ : ByteArray) (by decide)
  have h4 : sumB (⟨#[97, 98]⟩ : ByteArray) = 6768861 := by decide +kernel
  rw [h2] at h1
  rw [h4] at h3
  unfold hibernaclelaw09_rollAlive.f
  refine Ev.bind h1 ?_
  refine Ev.bind h3 ?_
  simp only [if_true]
  have h5 := same_ev [(⟨#[97]⟩ : ByteArray), (⟨#[98]⟩ : ByteArray), (⟨#[99]⟩ : ByteArray)] [(⟨#[97]⟩ : ByteArray), (⟨#[98]⟩ : ByteArray), (⟨#[99]⟩ : ByteArray)] (by decide)
  rw [decide_eq_true rfl] at h5
  refine Ev.bind h5 ?_
  simp only [if_true]
  exact ⟨0, fun k _ => by rw [check_no (by decide)]; rfl⟩
end Go.Proofs.Ytameblpmojfdgaa.A
