/- Plain lemmas: the laws RollWhole, RollBehind, RollFixed. -/
import Derived.Test.YtameblpmojfdgaaR2
import Derived.Test.YtameblpmojfdgaaXjoin
import Derived.Test.YtameblpmojfdgaaA6
import Derived.Test.YtameblpmojfdgaaA7
import Derived.Test.YtameblpmojfdgaaA8
namespace Go.Proofs.Ytameblpmojfdgaa.A
open Go.RowKit Go.Proofs.YtameblpmojfdgaaW.PrintWords Go.Proofs.YtameblpmojfdgaaW.PrintLast Go.Proofs.YtameblpmojfdgaaW.PrintMore

theorem join_nil (X : List (List UInt8)) : Lib.join X [] = X.flatten := by
  unfold Lib.join List.intercalate
  induction X with
  | nil => rfl
  | cons a X ih =>
    cases X with
    | nil => simp
    | cons b X =>
      rw [List.intersperse_cons_cons, List.flatten_cons, List.flatten_cons, ih, List.flatten_cons]
      rfl
theorem map_B (X : List (List UInt8)) : (X.map B).map (·.data.toList) = X := by
  rw [List.map_map]
  conv => rhs; rw [← List.map_id X]
  apply List.map_congr_left
  intro x _
  exact B_list x
theorem join_B (X : List (List UInt8)) (h1 : X.length ≤ 140737488355328) (h2 : X.flatten.length ≤ 140737488355328) : strings_Join.f (X.map B) (⟨#[]⟩ : ByteArray) = some (B X.flatten) := by
  have e : joinB (X.map B) (⟨#[]⟩ : ByteArray) = B X.flatten := by
    unfold joinB B
    have := map_B X
    unfold B at this
    rw [this]
    congr 1
    exact congrArg List.toArray (join_nil X)
  unfold strings_Join.f
  rw [e, if_pos ⟨by rw [List.length_map]; exact h1, by rw [B_size]; exact h2⟩]
theorem rd_B (X : List (List UInt8)) (i : Nat) (h : i < X.length) : rdOf ByteArray.empty (X.map B) (i : Int) = B X[i] := by
  unfold rdOf
  rw [Int.toNat_natCast, List.getD_eq_getElem?_getD, List.getElem?_eq_getElem (by rw [List.length_map]; exact h), List.getElem_map]
  rfl
theorem a_len (a0 : ByteArray) : a0.data.toList.length = a0.size := by rw [Array.length_toList, ByteArray.size_data]

theorem whole_l0 (a0 : ByteArray) (c0 c1 c2 c3 : Int) (X : List (List UInt8)) (hj : X.flatten = a0.data.toList) (hs : a0.size ≤ 5000) (hX : X.length ≤ 5000)
    (h1 : ∀ (i : Nat) (h : i < X.length), ((X[i]).length : Int) ≤ c2 ∧ 1 ≤ (X[i]).length ∧ (i + 1 < X.length → c1 ≤ (X[i]).length)) (d : Nat) :
    ∀ i, i + d = X.length → Ev (fun k => hibernaclelaw09_RollWhole.l0 k a0 (X.map B) (X.map B) (X.length : Int) (i : Int) c0 c1 c2 c3) true := by
  induction d with
  | zero =>
    intro i hi
    refine Ev.step (f := fun _ => some true) (fun k => ?_) (Ev.now _)
    have f1 : ¬ ((i : Int) < (X.length : Int)) := by omega
    simp only [hibernaclelaw09_RollWhole.l0, f1, if_false]
    rw [join_B X (by omega) (by rw [hj, a_len]; omega), Option.bind_some, hj, B_eta, beq_self_eq_true]
  | succ d ih =>
    intro i hi
    have hlt : i < X.length := by omega
    obtain ⟨g1, g2, g3⟩ := h1 i hlt
    have := ih (i + 1) (by omega)
    refine Ev.step (fun k => ?_) this
    have f1 : (i : Int) < (X.length : Int) := by omega
    have f2 : (0 : Int) ≤ (i : Int) := by omega
    have f3 : ¬ (((X[i]).length : Int) > c2) := by omega
    have f4 : ¬ (((X[i]).length : Int) < 1) := by omega
    have w1 : wrap64 ((i : Int) + 1) = ((i + 1 : Nat) : Int) := by unfold wrap64; omega
    have w2 : wrap64 ((X.length : Int) - 1) = ((X.length : Int) - 1) := by unfold wrap64; omega
    by_cases hm : ((X[i]).length : Int) < c1
    · have f5 : ¬ ((i : Int) < (X.length : Int) - 1) := by omega
      simp only [hibernaclelaw09_RollWhole.l0, f1, f2, f3, f4, f5, hm, w1, w2, List.length_map, rd_B X i hlt, B_size, if_true, if_false]
    · simp only [hibernaclelaw09_RollWhole.l0, f1, f2, f3, f4, hm, w1, w2, List.length_map, rd_B X i hlt, B_size, if_true, if_false]
theorem ch_facts (m0 m1 m2 : Nat) (c3 : Int) (h1 : 1 ≤ m1) (hm : m1 ≤ m2) (L : List UInt8) (i : Nat) (h : i < (ch m0 m1 m2 c3 L).length) :
    ((ch m0 m1 m2 c3 L)[i]).length ≤ m2 ∧ 1 ≤ ((ch m0 m1 m2 c3 L)[i]).length ∧ (i + 1 < (ch m0 m1 m2 c3 L).length → m1 ≤ ((ch m0 m1 m2 c3 L)[i]).length) :=
  ⟨ch_max m2 h1 hm L _ (List.getElem_mem h), ch_ne h1 L _ (List.getElem_mem h), fun hi => ch_min h1 L i _ (List.getElem?_eq_getElem h) hi⟩
/-- the law: nothing is lost -/
theorem RollWhole_pure (a0 : ByteArray) (c0 c1 c2 c3 : Int) : ∃ k, hibernaclelaw09_RollWhole.f k a0 c0 c1 c2 c3 = some true := by
  refine Ev.rounds (g := fun k => hibernaclelaw09_RollWhole.f k a0 c0 c1 c2 c3) ?_
  unfold hibernaclelaw09_RollWhole.f
  refine Ev.bind alive_ev ?_
  simp only [if_true]
  by_cases hs : (a0.size : Int) > 5000
  · simp only [hs, if_true]; exact Ev.now _
  · simp only [hs, if_false]
    by_cases hc : 1 ≤ c0 ∧ c0 ≤ 64 ∧ c0 ≤ c1 ∧ c1 ≤ c2 ∧ c2 ≤ 65536
    · have hl := a_len a0
      have h1 := roll_Cut_ok (c3 := c3) a0.data.toList hc (by omega)
      rw [B_eta] at h1
      refine Ev.bind h1 ?_
      simp only [if_true]
      have e2 : c2 = (c2.toNat : Int) := by omega
      have hlen := ch_len (c0 := c0.toNat) (c1 := c1.toNat) (c2 := c2) (c3 := c3) (by omega) a0.data.toList
      have := whole_l0 a0 c0 c1 c2 c3 (ch c0.toNat c1.toNat c2 c3 a0.data.toList) (ch_join (by omega) _) (by omega) (by omega) (fun i hi => by
        have := ch_facts c0.toNat c1.toNat c2.toNat c3 (by omega) (by omega) a0.data.toList i (by rw [← e2]; exact hi)
        simp only [← e2] at this
        exact ⟨by omega, this.2.1, fun h => by have := this.2.2 h; omega⟩) (ch c0.toNat c1.toNat c2 c3 a0.data.toList).length 0 (by omega)
      simpa using this
    · refine Ev.bind (roll_Cut_no a0 hc) ?_
      simp only [check_no hc, Option.bind_some]
      exact Ev.now _
/-- the law: a cut forgets -/
theorem RollBehind_pure (a0 : ByteArray) (c0 c1 c2 c3 a2 : Int) (h2 : 0 ≤ a2 ∧ a2 ≤ 255) : ∃ k, hibernaclelaw09_RollBehind.f k a0 c0 c1 c2 c3 a2 = some true := by
  refine Ev.rounds (g := fun k => hibernaclelaw09_RollBehind.f k a0 c0 c1 c2 c3 a2) ?_
  unfold hibernaclelaw09_RollBehind.f
  refine Ev.bind alive_ev ?_
  simp only [if_true]
  have hyes : ∀ X, Ev (fun k => hibernaclelaw09_RollBehind.j0 k a2 X true c0 c1 c2 c3) true := by
    intro X
    refine Ev.step (f := fun _ => some true) (fun k => ?_) (Ev.now _)
    simp only [hibernaclelaw09_RollBehind.j0, if_true]
  by_cases hs : (a0.size : Int) > 5000
  · simp only [hs, if_true]; exact Ev.now _
  · simp only [hs, if_false]
    by_cases hc : 1 ≤ c0 ∧ c0 ≤ 64 ∧ c0 ≤ c1 ∧ c1 ≤ c2 ∧ c2 ≤ 65536
    · have hl := a_len a0
      have h1 := roll_Cut_ok (c3 := c3) a0.data.toList hc (by omega)
      rw [B_eta] at h1
      refine Ev.bind h1 ?_
      simp only [if_true]
      have hlen := ch_len (c0 := c0.toNat) (c1 := c1.toNat) (c2 := c2) (c3 := c3) (by omega) a0.data.toList
      have hjoin := ch_join (c0 := c0.toNat) (c1 := c1.toNat) (c2 := c2) (c3 := c3) (by omega) a0.data.toList
      have htail := ch_tail (c0 := c0.toNat) (c1 := c1.toNat) (c2 := c2) (c3 := c3) (by omega) a0.data.toList
      generalize hX : ch c0.toNat c1.toNat c2 c3 a0.data.toList = X at hlen hjoin htail
      by_cases hX0 : X.length = 0
      · have f1 : (((X.map B).length : Int) == 0) = true := by rw [List.length_map, hX0]; rfl
        simp only [f1]
        exact hyes _
      · have f1 : (((X.map B).length : Int) == 0) = false := by rw [List.length_map]; exact beq_eq_false_iff_ne.2 (by omega)
        simp only [f1]
        obtain ⟨q, hq⟩ : ∃ q, q = (a2.toNat % X.length) := ⟨_, rfl⟩
        have hqlt : q < X.length := by rw [hq]; exact Nat.mod_lt _ (by omega)
        have w1 : Int.tmod (wrap64 a2) (X.length : Int) = (q : Int) := by
          have : wrap64 a2 = (a2.toNat : Int) := by unfold wrap64; omega
          rw [this, hq, Int.tmod_eq_emod_of_nonneg (by omega)]
          rfl
        have f2 : ¬ ((X.length : Int) = 0) := by omega
        have f3 : (0 : Int) ≤ (q : Int) := by omega
        have f4 : (q : Int) ≤ (X.length : Int) := by omega
        have hfl : (X.drop q).flatten.length ≤ 5000 := by
          have : (X.take q).flatten ++ (X.drop q).flatten = X.flatten := by rw [← List.flatten_append, List.take_append_drop]
          have := congrArg List.length this
          rw [List.length_append, hjoin] at this
          omega
        have hjn := join_B (X.drop q) (by rw [List.length_drop]; omega) (by omega)
        have hcut := roll_Cut_ok (c3 := c3) (X.drop q).flatten hc (by omega)
        rw [htail q (by omega)] at hcut
        have hsame := same_ev ((X.drop q).map B) ((X.drop q).map B) (by rw [List.length_map, List.length_drop]; omega)
        rw [decide_eq_true rfl] at hsame
        refine Ev.step (f := fun k => (roll_Cut.f k (B (X.drop q).flatten) c0 c1 c2 c3).bind fun b => if b.2 = 0 then ((hibernacleref01_Same.f k b.1 ((X.drop q).map B)).bind fun t => some t) else some false) (fun k => ?_) ?_
        · simp only [hibernaclelaw09_RollBehind.j0, List.length_map, w1, f2, f3, f4, Bool.false_eq_true, if_true, if_false, Int.toNat_natCast, ← List.map_drop, hjn, Option.bind_some]
        · refine Ev.bind hcut ?_
          simp only [if_true]
          refine Ev.bind hsame ?_
          exact Ev.now _
    · refine Ev.bind (roll_Cut_no a0 hc) ?_
      have f1 : ¬ ((2 : Int) = 0) := by decide
      simp only [f1, if_false]
      exact hyes _

/-! where Min is Max, or the Mask has no bits -/
theorem bits_zero (x : Int) : Go.bits .and .u32 x 0 = 0 := by
  show IntKind.u32.wrap (((BitVec.ofInt _ x &&& BitVec.ofInt _ 0 : BitVec _).toNat : Nat) : Int) = 0
  have h0 : BitVec.ofInt IntKind.u32.bits 0 = 0#(IntKind.u32.bits) := by rfl
  rw [h0, BitVec.and_zero]
  rfl
def stepm (m : Nat) (L : List UInt8) : Nat := if L.length ≤ m then L.length else m
theorem fst1_mask (c0 m : Nat) (c2 : Int) (L : List UInt8) : fst1 c0 m c2 0 L = stepm m L := by
  unfold fst1 stepm
  split
  · rfl
  · exact firstI_stop _ _ _ _ _ _ (.inl (bits_zero _))
theorem fst1_fix (c0 m : Nat) (c3 : Int) (L : List UInt8) : fst1 c0 m m c3 L = stepm m L := by
  unfold fst1 stepm
  split
  · rfl
  · exact firstI_stop _ _ _ _ _ _ (.inr (.inl rfl))
theorem chF_congr {c0 c1 d0 d1 : Nat} {c2 c3 d2 d3 : Int} (h : ∀ L, fst1 c0 c1 c2 c3 L = fst1 d0 d1 d2 d3 L) : ∀ f L, chF c0 c1 c2 c3 f L = chF d0 d1 d2 d3 f L := by
  intro f
  induction f with
  | zero => intro L; rfl
  | succ f ih => intro L; unfold chF; rw [h L, ih]
theorem ch_same (c0 m : Nat) (c2 c3 : Int) (L : List UInt8) : ch c0 m c2 0 L = ch c0 m m c3 L :=
  chF_congr (fun L => by rw [fst1_mask, fst1_fix]) _ L
theorem ch_count (c0 m : Nat) (c3 : Int) (h1 : 1 ≤ m) (L : List UInt8) : (ch c0 m m c3 L).length = (L.length + m - 1) / m := by
  refine ch_ind (P := fun L => (ch c0 m m c3 L).length = (L.length + m - 1) / m) (c0 := c0) (c1 := m) (c2 := m) (c3 := c3) h1 ?_ (fun L hL ih => ?_) L
  · show 0 = (0 + m - 1) / m
    rw [Nat.div_eq_of_lt (by omega)]
  · have hl : 0 < L.length := List.length_pos_iff.2 hL
    rw [ch_cons h1 L hL, List.length_cons, ih, List.length_drop, fst1_fix]
    unfold stepm
    split
    · rw [Nat.sub_self, Nat.div_eq_of_lt (by omega)]
      have : L.length + m - 1 = (L.length - 1) + m := by omega
      rw [this, Nat.add_div_right _ (by omega), Nat.div_eq_of_lt (by omega)]
    · have : L.length + m - 1 = (L.length - m + m - 1) + m := by omega
      rw [this, Nat.add_div_right _ (by omega)]
theorem fixed_l0 (a0 : ByteArray) (c0 c1 c2 c3 : Int) (X : List (List UInt8)) (hc1 : 1 ≤ c1 ∧ c1 ≤ 65536) (hs : a0.size ≤ 3000) (hX : X.length = (a0.size + c1.toNat - 1) / c1.toNat) (hX2 : X.length ≤ 3000)
    (h1 : ∀ (i : Nat) (h : i < X.length), ((X[i]).length : Int) ≤ c1 ∧ (i + 1 < X.length → c1 ≤ (X[i]).length)) (d : Nat) :
    ∀ i, i + d = X.length → Ev (fun k => hibernaclelaw09_RollFixed.l0 k a0 (X.map B) (X.map B) (X.length : Int) (i : Int) c0 c1 c2 c3) true := by
  induction d with
  | zero =>
    intro i hi
    refine Ev.step (f := fun _ => some true) (fun k => ?_) (Ev.now _)
    have f1 : ¬ ((i : Int) < (X.length : Int)) := by omega
    have f2 : ¬ (c1 = 0) := by omega
    have w1 : wrap64 ((a0.size : Int) + c1) = (a0.size : Int) + c1 := by unfold wrap64; omega
    have w2 : wrap64 ((a0.size : Int) + c1 - 1) = ((a0.size + c1.toNat - 1 : Nat) : Int) := by unfold wrap64; omega
    have e1 : c1 = (c1.toNat : Int) := by omega
    have w3 : Int.tdiv ((a0.size + c1.toNat - 1 : Nat) : Int) c1 = (X.length : Int) := by
      rw [hX]
      conv => lhs; rw [e1]
      rfl
    have w4 : wrap64 (X.length : Int) = (X.length : Int) := by unfold wrap64; omega
    simp only [hibernaclelaw09_RollFixed.l0, f1, f2, w1, w2, w3, w4, if_false, List.length_map, beq_self_eq_true]
  | succ d ih =>
    intro i hi
    have hlt : i < X.length := by omega
    obtain ⟨g1, g3⟩ := h1 i hlt
    have := ih (i + 1) (by omega)
    refine Ev.step (fun k => ?_) this
    have f1 : (i : Int) < (X.length : Int) := by omega
    have f2 : (0 : Int) ≤ (i : Int) := by omega
    have f3 : ¬ (((X[i]).length : Int) > c1) := by omega
    have w1 : wrap64 ((i : Int) + 1) = ((i + 1 : Nat) : Int) := by unfold wrap64; omega
    have w2 : wrap64 ((X.length : Int) - 1) = ((X.length : Int) - 1) := by unfold wrap64; omega
    by_cases hm : (i : Int) < (X.length : Int) - 1
    · have f4 : ((X[i]).length : Int) = c1 := by have := g3 (by omega); omega
      have f5 : ¬ (c1 > c1) := by omega
      simp only [hibernaclelaw09_RollFixed.l0, f1, f2, f4, f5, hm, w1, w2, List.length_map, rd_B X i hlt, B_size, if_true, if_false]
    · simp only [hibernaclelaw09_RollFixed.l0, f1, f2, f3, hm, w1, w2, List.length_map, rd_B X i hlt, B_size, if_true, if_false]
/-- the law: where Min is Max -/
theorem RollFixed_pure (a0 : ByteArray) (c0 c1 c2 c3 : Int) : ∃ k, hibernaclelaw09_RollFixed.f k a0 c0 c1 c2 c3 = some true := by
  refine Ev.rounds (g := fun k => hibernaclelaw09_RollFixed.f k a0 c0 c1 c2 c3) ?_
  unfold hibernaclelaw09_RollFixed.f
  refine Ev.bind alive_ev ?_
  simp only [if_true]
  by_cases hs : (a0.size : Int) > 3000
  · simp only [hs, if_true]; exact Ev.now _
  · simp only [hs, if_false]
    by_cases hc : 1 ≤ c0 ∧ c0 ≤ 64 ∧ c0 ≤ c1 ∧ c1 ≤ c2 ∧ c2 ≤ 65536
    · have hl := a_len a0
      have hc' : 1 ≤ c0 ∧ c0 ≤ 64 ∧ c0 ≤ c1 ∧ c1 ≤ c1 ∧ c1 ≤ 65536 := by omega
      have h1 := roll_Cut_ok (c3 := 0) a0.data.toList hc (by omega)
      have h2 := roll_Cut_ok (c3 := c3) a0.data.toList hc' (by omega)
      have e1 : c1 = (c1.toNat : Int) := by omega
      have hsm := ch_same c0.toNat c1.toNat c2 c3 a0.data.toList
      have hsm' := ch_same c0.toNat c1.toNat c2 0 a0.data.toList
      rw [← e1] at hsm hsm'
      rw [B_eta] at h1 h2
      rw [← hsm] at h2
      simp only [check_ok hc, Option.bind_some, if_true]
      refine Ev.bind h1 ?_
      refine Ev.bind h2 ?_
      simp only [if_true]
      have hlen := ch_len (c0 := c0.toNat) (c1 := c1.toNat) (c2 := c2) (c3 := 0) (by omega) a0.data.toList
      have hcnt := ch_count c0.toNat c1.toNat 0 (by omega) a0.data.toList
      have hfac : ∀ (i : Nat) (h : i < (ch c0.toNat c1.toNat c2 0 a0.data.toList).length), ((ch c0.toNat c1.toNat c2 0 a0.data.toList)[i]).length ≤ c1.toNat ∧ 1 ≤ ((ch c0.toNat c1.toNat c2 0 a0.data.toList)[i]).length ∧ (i + 1 < (ch c0.toNat c1.toNat c2 0 a0.data.toList).length → c1.toNat ≤ ((ch c0.toNat c1.toNat c2 0 a0.data.toList)[i]).length) := by
        rw [hsm', e1]
        exact ch_facts c0.toNat c1.toNat c1.toNat 0 (by omega) (Nat.le_refl _) a0.data.toList
      rw [← e1, ← hsm'] at hcnt
      generalize ch c0.toNat c1.toNat c2 0 a0.data.toList = X at hlen hcnt hfac
      have hsame := same_ev (X.map B) (X.map B) (by rw [List.length_map]; omega)
      rw [decide_eq_true rfl] at hsame
      refine Ev.bind hsame ?_
      have := fixed_l0 a0 c0 c1 c2 0 X (by omega) (by omega) (by rw [hcnt, hl]) (by omega) (fun i hi => by
        have := hfac i hi
        exact ⟨by omega, fun h => by have := this.2.2 h; omega⟩) X.length 0 (by omega)
      refine Ev.step (fun k => ?_) this
      simp only [hibernaclelaw09_RollFixed.j0, Bool.not_true, Bool.false_eq_true, if_false, List.length_map]
      rfl
    · have f1 : ¬ ((2 : Int) = 0) := by decide
      simp only [check_no hc, Option.bind_some, f1, if_false]
      refine Ev.bind (roll_Cut_no a0 hc) ?_
      exact Ev.now _
end Go.Proofs.Ytameblpmojfdgaa.A
