/- Plain lemmas: the reference's Cut comes to the same chunks; the law RollCuts. -/
import Derived.Test.YtameblpmojfdgaaR2
import Derived.Test.YtameblpmojfdgaaA3
import Derived.Test.YtameblpmojfdgaaA16
namespace Go.Proofs.Ytameblpmojfdgaa.A
open Go.RowKit Go.Proofs.YtameblpmojfdgaaW.PrintWords Go.Proofs.YtameblpmojfdgaaW.PrintLast Go.Proofs.YtameblpmojfdgaaW.PrintMore

theorem ref_Sum_l0 (s : ByteArray) (hs : s.size ≤ 140737488351232) (d : Nat) : ∀ (k i : Nat) (n : Int), i + d = s.size → d < k →
    hibernacleref09_Sum.l0 k s n (i : Int) = some (sumL n (s.data.toList.drop i)) := by
  induction d with
  | zero =>
    intro k i n hi hk
    obtain ⟨k, rfl⟩ : ∃ m, k = m + 1 := ⟨k - 1, by omega⟩
    simp only [hibernacleref09_Sum.l0]
    rw [if_neg (by omega), List.drop_of_length_le (by rw [Array.length_toList, ByteArray.size_data]; omega)]
    rfl
  | succ d ih =>
    intro k i n hi hk
    obtain ⟨k, rfl⟩ : ∃ m, k = m + 1 := ⟨k - 1, by omega⟩
    have hl : i < s.data.toList.length := by rw [Array.length_toList, ByteArray.size_data]; omega
    simp only [hibernacleref09_Sum.l0]
    rw [if_pos (by omega), if_pos (by omega)]
    have e : wrap64 ((i : Int) + 1) = ((i + 1 : Nat) : Int) := by unfold wrap64; omega
    rw [e, ih k (i + 1) _ (by omega) (by omega), List.drop_eq_getElem_cons hl, sumL_cons]
    have hb : bt s (i : Int) = ((s.data.toList[i]'hl).toNat : Int) := by
      unfold bt
      rw [dif_pos (by rw [Int.toNat_natCast]; omega)]
      rfl
    congr 2
    unfold stepS
    rw [hb]
    omega
theorem ref_Sum_ev (s : ByteArray) (hs : s.size ≤ 140737488351232) : Ev (fun k => hibernacleref09_Sum.f k s) (sumB s) :=
  Ev.of (fun k => hibernacleref09_Sum.mono s k) (k := s.size + 1) (by
    unfold hibernacleref09_Sum.f
    exact ref_Sum_l0 s hs s.size (s.size + 1) 0 0 (by omega) (by omega))

theorem w_add (a b : Nat) (h : a + b ≤ 9223372036854775807) : wrap64 ((a : Int) + b) = ((a + b : Nat) : Int) := by unfold wrap64; omega
theorem w_sub (a b : Nat) (h : b ≤ a) (h2 : a ≤ 9223372036854775807) : wrap64 ((a : Int) - b) = ((a - b : Nat) : Int) := by unfold wrap64; omega
theorem w_one (a : Nat) (h : a < 9223372036854775807) : wrap64 ((a : Int) + 1) = ((a + 1 : Nat) : Int) := by unfold wrap64; omega

theorem ref_l1_end (k : Nat) (L : List UInt8) (x : List ByteArray) (at_ n m0 m1 m2 : Nat) (c3 : Int) (hL : L.length < 8796093022208) (hn : n ≤ 65536) (hx : x.length < 8796093022208) (hat : at_ < L.length) (h : L.length ≤ at_ + n) :
    hibernacleref09_Cut.l1 (k + 1) (B L) x at_ n m0 m1 m2 c3 = hibernacleref09_Cut.l0 k (B L) (x ++ [B ((L.drop at_).take (L.length - at_))]) ((at_ + (L.length - at_) : Nat) : Int) m0 m1 m2 c3 := by
  have f1 : ¬ (((at_ + n : Nat) : Int) < (L.length : Int)) := by omega
  have f2 : (0 : Int) ≤ (at_ : Int) := by omega
  have f3 : wrap64 ((L.length : Int) - at_) = ((L.length - at_ : Nat) : Int) := w_sub _ _ (by omega) (by omega)
  have f4 : wrap64 ((at_ : Int) + ((L.length - at_ : Nat) : Int)) = ((at_ + (L.length - at_) : Nat) : Int) := w_add _ _ (by omega)
  have f5 : (at_ : Int) ≤ ((at_ + (L.length - at_) : Nat) : Int) := by omega
  have f6 : ((at_ + (L.length - at_) : Nat) : Int) ≤ (L.length : Int) := by omega
  have f7 : (at_ : Int) ≤ ((at_ + n : Nat) : Int) := by omega
  have w1 := w_add at_ n (by omega)
  by_cases hg : L.length < at_ + n
  · have f8 : ((at_ + n : Nat) : Int) > (L.length : Int) := by omega
    simp only [hibernacleref09_Cut.l1, w1, B_size, f1, f2, f3, f4, f5, f6, f8, hx, if_true, if_false, Int.toNat_natCast, B_extract, Nat.add_sub_cancel_left]
  · have f8 : ¬ (((at_ + n : Nat) : Int) > (L.length : Int)) := by omega
    have f9 : ((at_ + n : Nat) : Int) ≤ (L.length : Int) := by omega
    have f10 : n = L.length - at_ := by omega
    simp only [hibernacleref09_Cut.l1, w1, B_size, f1, f2, f7, f8, f9, hx, if_true, if_false, Int.toNat_natCast, B_extract, Nat.add_sub_cancel_left]
    rw [← f10]
theorem ref_l1_max (k : Nat) (L : List UInt8) (x : List ByteArray) (at_ n m0 m1 : Nat) (c3 : Int) (hL : L.length < 8796093022208) (hn : n ≤ 65536) (hx : x.length < 8796093022208) (h : at_ + n < L.length) :
    hibernacleref09_Cut.l1 (k + 1) (B L) x at_ n m0 m1 n c3 = hibernacleref09_Cut.l0 k (B L) (x ++ [B ((L.drop at_).take n)]) ((at_ + n : Nat) : Int) m0 m1 n c3 := by
  have f1 : ((at_ + n : Nat) : Int) < (L.length : Int) := by omega
  have f2 : (0 : Int) ≤ (at_ : Int) := by omega
  have f3 : ¬ ((n : Int) < (n : Int)) := by omega
  have f7 : (at_ : Int) ≤ ((at_ + n : Nat) : Int) := by omega
  have f8 : ¬ (((at_ + n : Nat) : Int) > (L.length : Int)) := by omega
  have f9 : ((at_ + n : Nat) : Int) ≤ (L.length : Int) := by omega
  have w1 := w_add at_ n (by omega)
  simp only [hibernacleref09_Cut.l1, w1, B_size, f1, f2, f3, f7, f8, f9, hx, if_true, if_false, Int.toNat_natCast, B_extract, Nat.add_sub_cancel_left]
theorem ref_l1_go (k : Nat) (L : List UInt8) (x : List ByteArray) (at_ n m0 m1 m2 : Nat) (c3 : Int) (hL : L.length < 8796093022208) (hn : n < m2) (hm : m2 ≤ 65536) (h0 : m0 ≤ n) (hx : x.length < 8796093022208) (h : at_ + n < L.length) :
    hibernacleref09_Cut.l1 (k + 1) (B L) x at_ n m0 m1 m2 c3 = (hibernacleref09_Sum.f k (B ((L.drop (at_ + n - m0)).take m0))).bind fun t => if Go.bits .and .u32 t c3 = c3 then hibernacleref09_Cut.l0 k (B L) (x ++ [B ((L.drop at_).take n)]) ((at_ + n : Nat) : Int) m0 m1 m2 c3 else hibernacleref09_Cut.l1 k (B L) x at_ ((n + 1 : Nat) : Int) m0 m1 m2 c3 := by
  have f1 : ((at_ + n : Nat) : Int) < (L.length : Int) := by omega
  have f2 : (0 : Int) ≤ (at_ : Int) := by omega
  have f3 : (n : Int) < (m2 : Int) := by omega
  have f7 : (at_ : Int) ≤ ((at_ + n : Nat) : Int) := by omega
  have f8 : ¬ (((at_ + n : Nat) : Int) > (L.length : Int)) := by omega
  have f9 : ((at_ + n : Nat) : Int) ≤ (L.length : Int) := by omega
  have f10 : wrap64 (((at_ + n : Nat) : Int) - (m0 : Int)) = ((at_ + n - m0 : Nat) : Int) := w_sub _ _ (by omega) (by omega)
  have f11 : (0 : Int) ≤ ((at_ + n - m0 : Nat) : Int) := by omega
  have f12 : ((at_ + n - m0 : Nat) : Int) ≤ ((at_ + n : Nat) : Int) := by omega
  have f13 : at_ + n - (at_ + n - m0) = m0 := by omega
  have w1 := w_add at_ n (by omega)
  have w2 := w_one n (by omega)
  simp only [hibernacleref09_Cut.l1, w1, w2, B_size, f1, f2, f3, f7, f8, f9, f10, f11, f12, hx, if_true, if_false, Int.toNat_natCast, B_extract, Nat.add_sub_cancel_left, f13]
/-- the inner loop of the reference's Cut -/
theorem ref_l1 (L : List UInt8) (x : List ByteArray) (at_ m0 m1 m2 : Nat) (c3 : Int) (q : List ByteArray × Int)
    (h0 : 1 ≤ m0) (h01 : m0 ≤ m1) (h12 : m1 ≤ m2) (hm : m2 ≤ 65536) (hL : L.length < 8796093022208) (hat : at_ < L.length) (hx : x.length < 8796093022208) (g : Nat) (hg : g = fst1 m0 m1 m2 c3 (L.drop at_))
    (hend : Ev (fun k => hibernacleref09_Cut.l0 k (B L) (x ++ [B ((L.drop at_).take g)]) ((at_ + g : Nat) : Int) m0 m1 m2 c3) q) :
    ∀ f n, m1 ≤ n → n ≤ m2 → ((L.drop at_).length ≤ m1 ∧ n = m1 ∨ m1 < (L.drop at_).length ∧ n + f = (L.drop at_).length ∧ firstI (L.drop at_) m0 m2 c3 f n = g) →
      Ev (fun k => hibernacleref09_Cut.l1 k (B L) x at_ n m0 m1 m2 c3) q := by
  have hR : (L.drop at_).length = L.length - at_ := List.length_drop
  intro f
  induction f with
  | zero =>
    intro n hn1 hn2 hcase
    have hge : L.length ≤ at_ + n := by omega
    have hg' : g = L.length - at_ := by
      rcases hcase with h | h
      · rw [hg]; unfold fst1; rw [if_pos h.1, hR]
      · have : n = g := h.2.2
        omega
    rw [hg'] at hend
    exact Ev.step (fun k => ref_l1_end k L x at_ n m0 m1 m2 c3 hL (by omega) hx hat hge) hend
  | succ f ih =>
    intro n hn1 hn2 hcase
    by_cases hend2 : at_ + n < L.length
    · have hc : m1 < (L.drop at_).length ∧ n + (f + 1) = (L.drop at_).length ∧ firstI (L.drop at_) m0 m2 c3 (f + 1) n = g := by
        rcases hcase with h | h
        · omega
        · exact h
      obtain ⟨hc1, hc2, hc3⟩ := hc
      by_cases hmax : n = m2
      · subst hmax
        have hg' : g = n := by rw [← hc3]; exact firstI_stop _ _ _ _ _ _ (.inr (.inl rfl))
        rw [hg'] at hend
        exact Ev.step (fun k => ref_l1_max k L x at_ n m0 m1 c3 hL hm hx hend2) hend
      · have hsum : Ev (fun k => hibernacleref09_Sum.f k (B ((L.drop (at_ + n - m0)).take m0))) (rollN (L.drop at_) m0 n) := by
          have h1 := ref_Sum_ev (B ((L.drop (at_ + n - m0)).take m0)) (by rw [B_size, List.length_take]; omega)
          have h2 : sumB (B ((L.drop (at_ + n - m0)).take m0)) = rollN (L.drop at_) m0 n := by
            unfold sumB rollN
            rw [B_list, List.drop_drop]
            congr 3
            omega
          rw [h2] at h1
          exact h1
        refine Ev.step (fun k => ref_l1_go k L x at_ n m0 m1 m2 c3 hL (by omega) hm (by omega) hx hend2) ?_
        refine Ev.bind hsum ?_
        by_cases hb : Go.bits .and .u32 (rollN (L.drop at_) m0 n) c3 = c3
        · have hg' : g = n := by rw [← hc3]; exact firstI_stop _ _ _ _ _ _ (.inl hb)
          rw [hg'] at hend
          simp only [hb, if_true]
          exact hend
        · have := ih (n + 1) (by omega) (by omega) (.inr ⟨hc1, by omega, by rw [← hc3]; exact (firstI_go _ _ _ _ _ _ hb (by omega) (by omega)).symm⟩)
          simp only [hb, if_false]
          exact this
    · have hge : L.length ≤ at_ + n := by omega
      have hg' : g = L.length - at_ := by
        rcases hcase with h | h
        · rw [hg]; unfold fst1; rw [if_pos h.1, hR]
        · omega
      rw [hg'] at hend
      exact Ev.step (fun k => ref_l1_end k L x at_ n m0 m1 m2 c3 hL (by omega) hx hat hge) hend
theorem ref_l0 (L : List UInt8) (m0 m1 m2 : Nat) (c3 : Int) (h0 : 1 ≤ m0) (h01 : m0 ≤ m1) (h12 : m1 ≤ m2) (hm : m2 ≤ 65536) (hL : L.length < 8796093022208) (R : List UInt8) :
    ∀ (x : List ByteArray) (at_ : Nat), at_ ≤ L.length → R = L.drop at_ → x.length ≤ at_ → Ev (fun k => hibernacleref09_Cut.l0 k (B L) x at_ m0 m1 m2 c3) (x ++ (ch m0 m1 m2 c3 R).map B, 0) := by
  refine ch_ind (P := fun R => ∀ (x : List ByteArray) (at_ : Nat), at_ ≤ L.length → R = L.drop at_ → x.length ≤ at_ → Ev (fun k => hibernacleref09_Cut.l0 k (B L) x at_ m0 m1 m2 c3) (x ++ (ch m0 m1 m2 c3 R).map B, 0)) (c0 := m0) (c1 := m1) (c2 := m2) (c3 := c3) (by omega) ?_ (fun R hR ih => ?_) R
  · intro x at_ hat hR hx
    have hl : L.length - at_ = 0 := by
      have := congrArg List.length hR
      rw [List.length_drop, List.length_nil] at this
      omega
    refine Ev.step (f := fun _ => some (x, 0)) (fun k => ?_) ?_
    · simp only [hibernacleref09_Cut.l0]
      rw [B_size, if_neg (by omega)]
    · rw [ch_nil, List.map_nil, List.append_nil]; exact Ev.now _
  · intro x at_ hat hRe hx
    subst hRe
    have hlen : 0 < (L.drop at_).length := List.length_pos_iff.2 hR
    rw [List.length_drop] at hlen
    have hp := fst1_pos m0 m1 m2 c3 (L.drop at_) (by omega) hR
    have hle := fst1_le m0 m1 m2 c3 (L.drop at_)
    rw [List.length_drop] at hle
    refine Ev.step (f := fun k => hibernacleref09_Cut.l1 k (B L) x at_ m1 m0 m1 m2 c3) (fun k => ?_) ?_
    · simp only [hibernacleref09_Cut.l0]
      rw [B_size, if_pos (by omega)]
    · rw [ch_cons (by omega) _ hR, List.map_cons]
      have hnext := ih (x ++ [B ((L.drop at_).take (fst1 m0 m1 m2 c3 (L.drop at_)))]) (at_ + fst1 m0 m1 m2 c3 (L.drop at_)) (by omega) (by rw [List.drop_drop]) (by rw [List.length_append, List.length_singleton]; omega)
      rw [List.append_assoc] at hnext
      refine ref_l1 L x at_ m0 m1 m2 c3 _ h0 h01 h12 hm hL (by omega) (by omega) _ rfl hnext ((L.drop at_).length - m1) m1 (Nat.le_refl _) h12 ?_
      by_cases hs : (L.drop at_).length ≤ m1
      · exact .inl ⟨hs, rfl⟩
      · refine .inr ⟨by omega, by omega, ?_⟩
        unfold fst1
        rw [if_neg hs]
theorem ref_Cut_ok (L : List UInt8) {c0 c1 c2 c3 : Int} (h : 1 ≤ c0 ∧ c0 ≤ 64 ∧ c0 ≤ c1 ∧ c1 ≤ c2 ∧ c2 ≤ 65536) (hL : L.length < 8796093022208) :
    Ev (fun k => hibernacleref09_Cut.f k (B L) c0 c1 c2 c3) ((ch c0.toNat c1.toNat c2 c3 L).map B, 0) := by
  have e0 : c0 = (c0.toNat : Int) := by omega
  have e1 : c1 = (c1.toNat : Int) := by omega
  have e2 : c2 = (c2.toNat : Int) := by omega
  have := ref_l0 L c0.toNat c1.toNat c2.toNat c3 (by omega) (by omega) (by omega) (by omega) hL L [] 0 (by omega) rfl (Nat.le_refl _)
  rw [← e0, ← e1, ← e2] at this
  refine Ev.congr (fun k => ?_) this
  unfold hibernacleref09_Cut.f
  rw [rcheck_ok h, Option.bind_some, if_pos rfl]
  rfl
theorem ref_Cut_no (a0 : ByteArray) {c0 c1 c2 c3 : Int} (h : ¬ (1 ≤ c0 ∧ c0 ≤ 64 ∧ c0 ≤ c1 ∧ c1 ≤ c2 ∧ c2 ≤ 65536)) : Ev (fun k => hibernacleref09_Cut.f k a0 c0 c1 c2 c3) ([], 2) := by
  refine ⟨0, fun k _ => ?_⟩
  show hibernacleref09_Cut.f k a0 c0 c1 c2 c3 = _
  unfold hibernacleref09_Cut.f
  rw [rcheck_no h, Option.bind_some, if_neg (by decide)]
/-- the law -/
theorem RollCuts_pure (a0 a1 : ByteArray) (c0 c1 c2 c3 : Int) : ∃ k, hibernaclelaw09_RollCuts.f k a0 a1 c0 c1 c2 c3 = some true := by
  refine Ev.rounds (g := fun k => hibernaclelaw09_RollCuts.f k a0 a1 c0 c1 c2 c3) ?_
  unfold hibernaclelaw09_RollCuts.f
  refine Ev.bind alive_ev ?_
  simp only [if_true]
  have hyes : Ev (fun k => hibernaclelaw09_RollCuts.j0 k a0 a1 true c0 c1 c2 c3) true := by
    refine Ev.step (f := fun _ => some true) (fun k => ?_) (Ev.now _)
    simp only [hibernaclelaw09_RollCuts.j0, if_true]
  by_cases hs : (a0.size : Int) > 2500
  · simp only [hs, if_true]
    exact hyes
  · simp only [hs, if_false]
    by_cases hs1 : (a1.size : Int) > 500
    · simp only [hs1, decide_true]
      exact hyes
    · simp only [hs1, decide_false]
      have hsame : ∀ X : List ByteArray, X.length ≤ 140737488355328 → Ev (fun k => hibernacleref01_Same.f k X X) true := by
        intro X hX
        have := same_ev X X hX
        rwa [decide_eq_true rfl] at this
      have hfin : ∀ (X : List ByteArray) (e : Int), X.length ≤ 140737488355328 → Ev (fun k => roll_Cut.f k a0 c0 c1 c2 c3) (X, e) → Ev (fun k => hibernacleref09_Cut.f k a0 c0 c1 c2 c3) (X, e) → (∃ q, roll_Check.f c0 c1 c2 c3 = some q ∧ hibernacleref09_Check.f c0 c1 c2 c3 = some q) → Ev (fun k => hibernaclelaw09_RollCuts.j0 k a0 a1 false c0 c1 c2 c3) true := by
        intro X e hX h1 h2 ⟨q, h3, h4⟩
        refine Ev.step (fun k => by simp only [hibernaclelaw09_RollCuts.j0, Bool.false_eq_true, if_false]; rfl) ?_
        refine Ev.bind h1 ?_
        refine Ev.bind h2 ?_
        simp only [if_true]
        refine Ev.bind (hsame X hX) ?_
        simp only [if_true, h3, h4, Option.bind_some]
        refine Ev.bind (roll_Sum_ev a1 (by omega)) ?_
        refine Ev.bind (ref_Sum_ev a1 (by omega)) ?_
        simp only [beq_self_eq_true]
        exact Ev.now _
      by_cases hc : 1 ≤ c0 ∧ c0 ≤ 64 ∧ c0 ≤ c1 ∧ c1 ≤ c2 ∧ c2 ≤ 65536
      · have hL : a0.data.toList.length = a0.size := by rw [Array.length_toList, ByteArray.size_data]
        have h1 := roll_Cut_ok (c3 := c3) a0.data.toList hc (by omega)
        have h2 := ref_Cut_ok (c3 := c3) a0.data.toList hc (by omega)
        rw [B_eta] at h1 h2
        refine hfin _ _ ?_ h1 h2 ⟨0, check_ok hc, rcheck_ok hc⟩
        have := ch_len (c0 := c0.toNat) (c1 := c1.toNat) (c2 := c2) (c3 := c3) (by omega) a0.data.toList
        rw [List.length_map]
        omega
      · exact hfin [] 2 (by decide) (roll_Cut_no a0 hc) (ref_Cut_no a0 hc) ⟨2, check_no hc, rcheck_no hc⟩
end Go.Proofs.Ytameblpmojfdgaa.A
