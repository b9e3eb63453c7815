/- Plain lemmas: the law RollGoes. -/
import Derived.Test.YtameblpmojfdgaaR2
import Derived.Test.YtameblpmojfdgaaA5
namespace Go.Proofs.Ytameblpmojfdgaa.A
open Go.RowKit Go.Proofs.YtameblpmojfdgaaW.PrintWords Go.Proofs.YtameblpmojfdgaaW.PrintLast Go.Proofs.YtameblpmojfdgaaW.PrintMore

theorem goes_plain (b y : UInt8) (l : List UInt8) :
    sumL 0 (l ++ [y]) = ((((sumL 0 (b :: l) - ((((b.toNat : Int) % 4294967296) + 1) % 4294967296 * powN l.length) % 4294967296) % 4294967296 * 69069) % 4294967296 + (y.toNat : Int) % 4294967296) % 4294967296 + 1) % 4294967296 := by
  rw [sumL_snoc, sumL_cons]
  obtain ⟨c, hc⟩ := sumL_start l (stepS 0 b)
  obtain ⟨d, hd⟩ := powN_eq l.length
  obtain ⟨q, hq⟩ := emodx (0 * 69069 + b.toNat + 1)
  rw [hc, hd]
  unfold stepS
  rw [hq]
  generalize (69069 : Int) ^ l.length = P
  generalize sumL 0 l = S
  generalize ((b.toNat : Nat) : Int) = X
  generalize ((y.toNat : Nat) : Int) = Y
  obtain ⟨g1, e1⟩ := emodx X
  rw [e1]
  obtain ⟨g2, e2⟩ := emodx (X + 4294967296 * g1 + 1)
  rw [e2]
  obtain ⟨g3, e3⟩ := emodx ((X + 4294967296 * g1 + 1 + 4294967296 * g2) * (P + 4294967296 * d))
  rw [e3]
  obtain ⟨g4, e4⟩ := emodx ((0 * 69069 + X + 1 + 4294967296 * q) * P + S + 4294967296 * c - ((X + 4294967296 * g1 + 1 + 4294967296 * g2) * (P + 4294967296 * d) + 4294967296 * g3))
  rw [e4]
  obtain ⟨g5, e5⟩ := emodx (((0 * 69069 + X + 1 + 4294967296 * q) * P + S + 4294967296 * c - ((X + 4294967296 * g1 + 1 + 4294967296 * g2) * (P + 4294967296 * d) + 4294967296 * g3) + 4294967296 * g4) * 69069)
  rw [e5]
  obtain ⟨g6, e6⟩ := emodx Y
  rw [e6]
  obtain ⟨g7, e7⟩ := emodx (((0 * 69069 + X + 1 + 4294967296 * q) * P + S + 4294967296 * c - ((X + 4294967296 * g1 + 1 + 4294967296 * g2) * (P + 4294967296 * d) + 4294967296 * g3) + 4294967296 * g4) * 69069 + 4294967296 * g5 + (Y + 4294967296 * g6))
  rw [e7]
  apply emodr
  exact ⟨-((q * P + c - (g1 + g2) * P - (X + 1 + 4294967296 * g1 + 4294967296 * g2) * d - g3 + g4) * 69069 + g5 + g6 + g7), by grind⟩
theorem strOf_one (x : Int) : strOfNums [x] = B [UInt8.ofNat x.toNat] := rfl
theorem goes_l0 (b : UInt8) (l : List UInt8) (x1 : Int) (h1 : 0 ≤ x1 ∧ x1 ≤ 255) (hl : l.length ≤ 1000) (d : Nat) : ∀ i, i + d = l.length →
    Ev (fun k => hibernaclelaw09_RollGoes.l0 k (B (b :: l)) x1 (powN i) (l.length : Int) (i : Int)) true := by
  induction d with
  | zero =>
    intro i hi
    have hil : i = l.length := by omega
    subst hil
    have f1 : ¬ ((l.length : Int) < (l.length : Int)) := by omega
    have hsz : (B (b :: l)).size = l.length + 1 := by rw [B_size, List.length_cons]
    have f2 : (1 : Int) ≤ ((B (b :: l)).size : Int) := by rw [hsz]; omega
    have f3 : (0 : Int) < ((B (b :: l)).size : Int) := by rw [hsz]; omega
    have hex : (B (b :: l)).extract 1 (B (b :: l)).size = B l := by
      rw [B_extract, hsz, List.drop_succ_cons, List.drop_zero, List.take_of_length_le (by omega)]
    have hap : B l ++ strOfNums [x1] = B (l ++ [UInt8.ofNat x1.toNat]) := by
      rw [strOf_one x1, ← B_eta (B l ++ B [UInt8.ofNat x1.toNat]), ByteArray.data_append, Array.toList_append, B_list, B_list]
    have f4 : (B l).size + (strOfNums [x1]).size ≤ 9223372036854775807 := by rw [strOf_one x1, B_size, B_size, List.length_singleton]; omega
    have s1 := roll_Sum_ev (B (l ++ [UInt8.ofNat x1.toNat])) (by rw [B_size, List.length_append, List.length_singleton]; omega)
    have s2 := roll_Sum_ev (B (b :: l)) (by rw [hsz]; omega)
    have hb : bt (B (b :: l)) 0 = (b.toNat : Int) := by
      unfold bt
      rw [dif_pos (by rw [hsz]; exact Nat.succ_pos _)]
      rfl
    have hfin : (sumB (B (l ++ [UInt8.ofNat x1.toNat])) == ((((((((sumB (B (b :: l)) - ((((((bt (B (b :: l)) 0) % 4294967296) + 1) % 4294967296) * (powN l.length)) % 4294967296)) % 4294967296) * 69069) % 4294967296) + (x1 % 4294967296)) % 4294967296) + 1) % 4294967296)) = true := by
      rw [beq_iff_eq]
      have := goes_plain b (UInt8.ofNat x1.toNat) l
      unfold sumB
      rw [B_list, B_list, this, hb]
      have hy : ((UInt8.ofNat x1.toNat).toNat : Int) = x1 := by
        rw [UInt8.toNat_ofNat_of_lt' (by show x1.toNat < 256; omega)]
        omega
      rw [hy]
    refine Ev.step (f := fun k => (roll_Sum.f k (B (l ++ [UInt8.ofNat x1.toNat]))).bind fun t164 => (roll_Sum.f k (B (b :: l))).bind fun t165 => some (t164 == ((((((((t165 - ((((((bt (B (b :: l)) 0) % 4294967296) + 1) % 4294967296) * (powN l.length)) % 4294967296)) % 4294967296) * 69069) % 4294967296) + (x1 % 4294967296)) % 4294967296) + 1) % 4294967296))) (fun k => ?_) ?_
    · simp only [hibernaclelaw09_RollGoes.l0, f1, f2, f3, f4, hex, hap, if_true, if_false, Option.bind_some]
    · refine Ev.bind s1 ?_
      refine Ev.bind s2 ?_
      simp only [hfin]
      exact Ev.now _
  | succ d ih =>
    intro i hi
    have := ih (i + 1) (by omega)
    refine Ev.step (fun k => ?_) this
    have f1 : (i : Int) < (l.length : Int) := by omega
    have w1 : wrap64 ((i : Int) + 1) = ((i + 1 : Nat) : Int) := by unfold wrap64; omega
    simp only [hibernaclelaw09_RollGoes.l0, f1, w1, if_true]
    rfl
/-- the law: how a window's sum goes on -/
theorem RollGoes_pure (a0 : ByteArray) (a1 : Int) (h1 : 0 ≤ a1 ∧ a1 ≤ 255) : ∃ k, hibernaclelaw09_RollGoes.f k a0 a1 = some true := by
  refine Ev.rounds (g := fun k => hibernaclelaw09_RollGoes.f k a0 a1) ?_
  unfold hibernaclelaw09_RollGoes.f
  refine Ev.bind alive_ev ?_
  simp only [if_true]
  have hyes : Ev (fun k => hibernaclelaw09_RollGoes.j0 k a0 a1 true) true := by
    refine Ev.step (f := fun _ => some true) (fun k => ?_) (Ev.now _)
    simp only [hibernaclelaw09_RollGoes.j0, if_true]
  by_cases h0 : (a0.size : Int) = 0
  · simp only [h0, if_true]; exact hyes
  · simp only [h0, if_false]
    by_cases h5 : (a0.size : Int) > 500
    · simp only [h5, decide_true]; exact hyes
    · simp only [h5, decide_false]
      have hl : a0.data.toList.length = a0.size := by rw [Array.length_toList, ByteArray.size_data]
      obtain ⟨b, l, hbl⟩ : ∃ b l, a0.data.toList = b :: l := by
        cases hq : a0.data.toList with
        | nil => rw [hq] at hl; simp at hl; omega
        | cons b l => exact ⟨b, l, rfl⟩
      have ha : a0 = B (b :: l) := by rw [← hbl, B_eta]
      rw [hbl, List.length_cons] at hl
      subst ha
      have := goes_l0 b l a1 h1 (by omega) l.length 0 (by omega)
      refine Ev.step (fun k => ?_) this
      have w1 : wrap64 (((B (b :: l)).size : Int) - 1) = (l.length : Int) := by rw [B_size, List.length_cons]; unfold wrap64; omega
      simp only [hibernaclelaw09_RollGoes.j0, Bool.false_eq_true, if_false, w1]
      rfl
end Go.Proofs.Ytameblpmojfdgaa.A
