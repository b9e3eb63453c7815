/- The contract of roll.first: where the first chunk of a text ends, by the sums of its windows. -/
import Derived.Test.YtameblpmojfdgaaA15
import Derived.Test.YtameblpmojfdgaaA22
import Derived.Test.YtameblpmojfdgaaR1
import Derived.Deep.QuietTactic
import Derived.BigQuiet
import Derived.Lib.Hide
namespace Go.Proofs.Ytameblpmojfdgaa.A
open Go.RowKit Go.Proofs.YtameblpmojfdgaaW.PrintWords Go.Proofs.YtameblpmojfdgaaW.PrintLast Go.Proofs.YtameblpmojfdgaaW.PrintMore

/-- the printed sums are these -/
theorem roll_Sum_l0 (s : ByteArray) (hs : s.size ≤ 140737488351232) (d : Nat) : ∀ (k i : Nat) (n : Int), i + d = s.size → d < k →
    roll_Sum.l0 k s n (s.size : Int) (i : Int) = some (sumL n (s.data.toList.drop i)) := by
  induction d with
  | zero =>
    intro k i n hi hk
    obtain ⟨k, rfl⟩ : ∃ m, k = m + 1 := ⟨k - 1, by omega⟩
    simp only [roll_Sum.l0]
    rw [if_neg (by omega), List.drop_of_length_le (by rw [Array.length_toList, ByteArray.size_data]; omega)]
    rfl
  | succ d ih =>
    intro k i n hi hk
    obtain ⟨k, rfl⟩ : ∃ m, k = m + 1 := ⟨k - 1, by omega⟩
    have hl : i < s.data.toList.length := by rw [Array.length_toList, ByteArray.size_data]; omega
    simp only [roll_Sum.l0]
    rw [if_pos (by omega), if_pos (by omega), if_pos (by omega)]
    have e : wrap64 ((i : Int) + 1) = ((i + 1 : Nat) : Int) := by unfold wrap64; omega
    rw [e, ih k (i + 1) _ (by omega) (by omega), List.drop_eq_getElem_cons hl, sumL_cons]
    have hb : bt s (i : Int) = ((s.data.toList[i]'hl).toNat : Int) := by
      unfold bt
      rw [dif_pos (by rw [Int.toNat_natCast]; omega)]
      rfl
    congr 2
    unfold stepS
    rw [hb]
    omega
theorem roll_Sum_some (s : ByteArray) (hs : s.size ≤ 140737488351232) : ∃ k, roll_Sum.f k s = some (sumB s) :=
  ⟨s.size + 1, by
    unfold roll_Sum.f
    exact roll_Sum_l0 s hs s.size (s.size + 1) 0 0 (by omega) (by omega)⟩
theorem roll_power_l0 (n : Nat) (hn : n ≤ 140737488351232) (d : Nat) : ∀ (k i : Nat), i + d = n → d < k →
    roll_power.l0 k (powN i) (n : Int) (i : Int) = some (powN n) := by
  induction d with
  | zero =>
    intro k i hi hk
    obtain ⟨k, rfl⟩ : ∃ m, k = m + 1 := ⟨k - 1, by omega⟩
    simp only [roll_power.l0]
    rw [if_neg (by omega)]
    have : i = n := by omega
    rw [this]
  | succ d ih =>
    intro k i hi hk
    obtain ⟨k, rfl⟩ : ∃ m, k = m + 1 := ⟨k - 1, by omega⟩
    simp only [roll_power.l0]
    rw [if_pos (by omega)]
    have e : wrap64 ((i : Int) + 1) = ((i + 1 : Nat) : Int) := by unfold wrap64; omega
    rw [e]
    exact ih k (i + 1) (by omega) (by omega)
theorem roll_power_some (n : Nat) (hn : n ≤ 140737488351232) : ∃ k, roll_power.f k (n : Int) = some (powN n) :=
  ⟨n + 1, by
    unfold roll_power.f
    exact roll_power_l0 n hn n (n + 1) 0 (by omega) (by omega)⟩

set_option maxHeartbeats 400000 in
/-- the closure: the sum, a byte further on -/
theorem first1_any (i c0 j : Nat) (a0 : ByteArray) (n o r : Int) (bn bd bo bc : Nat) (w : World)
    (hn : w.cell? ⟨bn, 0, none⟩ = some (.int .u32 n)) (hd : w.cell? ⟨bd, 0, none⟩ = some (.string a0))
    (ho : w.cell? ⟨bo, 0, none⟩ = some (.int .u32 o)) (hc : w.cell? ⟨bc, 0, none⟩ = some (.int .i64 c0))
    (h1 : c0 + j = i) (h2 : i < a0.size) (e4 : j < a0.size) (h3 : a0.size ≤ 140737488351232)
    (hr : (n * 69069 + (a0[i]).toNat + 1 - o * ((a0[j]).toNat + 1)) % 4294967296 = r) :
    Calls Try.prog 23 #[.int .i64 i, .pointer (some ⟨bn, 0, none⟩), .pointer (some ⟨bd, 0, none⟩), .pointer (some ⟨bo, 0, none⟩), .pointer (some ⟨bc, 0, none⟩)] w
      fun e w' => e = .returned (.int .u32 r) ∧ ∃ m, w' = w.drewN m := by
  have e1 : IntKind.i64.wrap ((i : Int) - c0) = (j : Int) := by rw [IntWalk.i64_in _ (by omega)]; omega
  have HR := Lib.hid hr
  clear h1 hr
  go_enter Try.func23, Try.ntmps23
  go_wp2
  go_quiet (fail)
  go_wp2
  go_ret
  refine ⟨?_, nq, rfl⟩
  show Ending.returned (Value.int IntKind.u32 _) = _
  have := HR.out
  rw [← this]
  congr 2
  generalize ((a0[i]).toNat : Int) = x
  generalize ((a0[j]).toNat : Int) = y
  apply emodr
  obtain ⟨c, hc⟩ := emodx (n * 69069 + x + 1)
  obtain ⟨d, hd⟩ := emodx (y + 1)
  obtain ⟨q, hq⟩ := emodx (o * ((y + 1) % 4294967296))
  rw [hq, hc, hd]
  exact ⟨c - o * d - q, by grind⟩

theorem firstI_stop (L : List UInt8) (win : Nat) (mx mask : Int) (f i : Nat) (h : Go.bits .and .u32 (rollN L win i) mask = mask ∨ (i : Int) = mx ∨ i = L.length) : firstI L win mx mask f i = i := by
  cases f with
  | zero => rfl
  | succ f =>
    unfold firstI
    by_cases a : Go.bits .and .u32 (rollN L win i) mask = mask
    · rw [if_pos a]
    · rw [if_neg a]
      by_cases b : (i : Int) = mx
      · rw [if_pos b]
      · rw [if_neg b, if_pos (by omega)]
theorem firstI_go (L : List UInt8) (win : Nat) (mx mask : Int) (f i : Nat) (h1 : ¬ Go.bits .and .u32 (rollN L win i) mask = mask) (h2 : ¬ (i : Int) = mx) (h3 : ¬ i = L.length) : firstI L win mx mask (f + 1) i = firstI L win mx mask f (i + 1) := by
  conv => lhs; unfold firstI
  rw [if_neg h1, if_neg h2, if_neg h3]

set_option maxHeartbeats 1000000 in
theorem first_short (a0 : ByteArray) (c0 c1 c2 c3 : Int) (w : World) (h1 : (a0.size : Int) ≤ c1) :
    Calls Try.prog 18 #[.string a0, .agg #[.int .i64 c0, .int .i64 c1, .int .i64 c2, .int .u32 c3]] w fun e w' => e = .returned (.int .i64 a0.size) ∧ Below w.heap.size w w' := by
  have hu24 := Try.underlying24
  go_enter Try.func18, Try.ntmps18
  go_wp2
  go_ret
  exact ⟨rfl, below_alloc (below_alloc (Below.refl _ _) _) _⟩

theorem first_next (a0 : ByteArray) (m0 q : Nat) (h0 : 1 ≤ m0) (h1 : m0 ≤ q) (hlt : q < a0.size) (hj : q - m0 < a0.size) :
    rollN a0.data.toList m0 (q + 1) = (rollN a0.data.toList m0 q * 69069 + (a0[q]'hlt).toNat + 1 - powN m0 * ((a0[q - m0]'hj).toNat + 1)) % 4294967296 :=
  rollN_next a0.data.toList m0 q (q - m0) h0 (by omega) (by rw [Array.length_toList, ByteArray.size_data]; exact hlt)
/-- the variables of the call, as a round finds them -/
def FR (w wr : World) (a0 : ByteArray) (m0 m1 : Nat) (c2 c3 n : Int) : Prop :=
  wr.cell? ⟨w.heap.size, 0, none⟩ = some (.string a0) ∧ wr.cell? ⟨w.heap.size + 1, 0, none⟩ = some (.int .i64 m0) ∧ wr.cell? ⟨w.heap.size + 1, 1, none⟩ = some (.int .i64 m1) ∧
  wr.cell? ⟨w.heap.size + 1, 2, none⟩ = some (.int .i64 c2) ∧ wr.cell? ⟨w.heap.size + 1, 3, none⟩ = some (.int .u32 c3) ∧
  wr.cell? ⟨w.heap.size + 1 + 1, 0, none⟩ = some (.int .u32 (powN m0)) ∧ wr.cell? ⟨w.heap.size + 1 + 1 + 1, 0, none⟩ = some (.int .u32 n) ∧
  wr.frozen? ⟨w.heap.size + 1 + 1 + 1, 0, none⟩ = false ∧ Below w.heap.size w wr
set_option maxHeartbeats 1000000 in
set_option maxRecDepth 100000 in
theorem first_long (a0 : ByteArray) (m0 m1 : Nat) (c2 c3 : Int) (w : World) (h0 : 1 ≤ m0) (h01 : m0 ≤ m1) (h1 : m1 < a0.size) (hs : a0.size ≤ 140737488351232) :
    Calls Try.prog 18 #[.string a0, .agg #[.int .i64 m0, .int .i64 m1, .int .i64 c2, .int .u32 c3]] w fun e w' => e = .returned (.int .i64 (firstI a0.data.toList m0 c2 c3 (a0.size - m1) m1 : Nat)) ∧ Below w.heap.size w w' := by
  have hu24 := Try.underlying24
  obtain ⟨k1, hk1⟩ := roll_power_some m0 (by omega)
  have HK1 := Lib.hid hk1
  clear hk1
  obtain ⟨S, hS⟩ : ∃ S, S = a0.extract (m1 - m0) m1 := ⟨_, rfl⟩
  have hsz : S.size ≤ 140737488351232 := by rw [hS, ByteArray.size_extract]; omega
  obtain ⟨k2, hk2⟩ := roll_Sum_some S hsz
  have hroll : sumB S = rollN a0.data.toList m0 m1 := by rw [hS]; exact sumB_window a0 _ _ _ (by omega)
  rw [hroll] at hk2
  have HK2 := Lib.hid hk2
  have HS := Lib.hid hS
  clear hk2 hS hroll hsz
  have f1 : m1 - m0 ≤ m1 := by omega
  have f2 : m1 ≤ a0.size := by omega
  have e1 : (m1 : Int) - m0 = ((m1 - m0 : Nat) : Int) := by omega
  obtain ⟨R, hR⟩ : ∃ R, R = rollN a0.data.toList m0 m1 := ⟨_, rfl⟩
  rw [← hR] at HK2
  go_enter Try.func18, Try.ntmps18
  go_wp2_with fail
  refine (roll_power.calls k1 m0 (powN m0) _ HK1.out).mono ?_
  rintro e w1 ⟨rfl, ⟨q1, rfl⟩⟩
  go_wp2_with fail
  rw [← HS.out]
  refine (roll_Sum.calls k2 S R _ HK2.out).mono ?_
  rintro e w2 ⟨rfl, ⟨q2, rfl⟩⟩
  have HR := Lib.hid hR
  clear hR
  go_wp2_with fail
  clear e1 f1 f2
  go_loopw [8] (fun i wr => ∃ q : Nat, m1 ≤ q ∧ q ≤ a0.size ∧ i = .int .i64 q ∧ Hid (firstI a0.data.toList m0 c2 c3 (a0.size - m1) m1 = firstI a0.data.toList m0 c2 c3 (a0.size - q) q) ∧ FR w wr a0 m0 m1 c2 c3 (rollN a0.data.toList m0 q)) (fun i _ => a0.size - (intOf i).toNat)
  case atStart =>
    refine ⟨m1, Nat.le_refl _, by omega, rfl, Lib.hid rfl, ?_⟩
    rw [← HR.out]
    refine ⟨by go_simp, by go_simp, by go_simp, by go_simp, by go_simp, by go_simp, by go_simp, by go_simp, ?_⟩
    exact below_alloc (pw_below_drewN (below_alloc (pw_below_drewN (below_alloc (below_alloc (Below.refl _ _) _) _) _) _) _) _
  case round =>
    obtain ⟨q, hq1, hq2, rfl, HI, g0, g1, g2, g3, g4, g5, g6, g7, hB⟩ := hrel
    obtain ⟨N, hN⟩ : ∃ N, N = rollN a0.data.toList m0 q := ⟨_, rfl⟩
    rw [← hN] at g6
    have HN := Lib.hid hN
    clear hN
    by_cases t1 : Go.bits .and .u32 N c3 = c3
    · have t1b : (Go.bits .and .u32 N c3 == c3) = true := beq_iff_eq.2 t1
      have fin : firstI a0.data.toList m0 c2 c3 (a0.size - q) q = q := firstI_stop _ _ _ _ _ _ (.inl (by rw [← HN.out]; exact t1))
      have HF := Lib.hid (HI.out.trans fin)
      clear t1 fin
      go_wp2
      go_ret
      exact ⟨by rw [HF.out]; rfl, hB⟩
    · have t1b : (Go.bits .and .u32 N c3 == c3) = false := beq_eq_false_iff_ne.2 t1
      by_cases t2 : (q : Int) = c2
      · have t2b : ((q : Int) == c2) = true := beq_iff_eq.2 t2
        have fin : firstI a0.data.toList m0 c2 c3 (a0.size - q) q = q := firstI_stop _ _ _ _ _ _ (.inr (.inl t2))
        have HF := Lib.hid (HI.out.trans fin)
        clear t1 t2 fin
        go_wp2
        go_ret
        exact ⟨by rw [HF.out]; rfl, hB⟩
      · have t2b : ((q : Int) == c2) = false := beq_eq_false_iff_ne.2 t2
        by_cases t3 : q = a0.size
        · have t3b : ((q : Int) == (a0.size : Int)) = true := beq_iff_eq.2 (by omega)
          have fin : firstI a0.data.toList m0 c2 c3 (a0.size - q) q = q := firstI_stop _ _ _ _ _ _ (.inr (.inr (by rw [Array.length_toList, ByteArray.size_data]; exact t3)))
          have HF := Lib.hid (HI.out.trans fin)
          have t3c : (q == a0.size) = true := beq_iff_eq.2 t3
          clear t1 t2 t3 fin
          go_wp2
          go_ret
          exact ⟨by rw [HF.out]; rfl, hB⟩
        · have t3b : ((q : Int) == (a0.size : Int)) = false := beq_eq_false_iff_ne.2 (by omega)
          have t3c : (q == a0.size) = false := beq_eq_false_iff_ne.2 t3
          have hlt : q < a0.size := by omega
          have hl : q < a0.data.toList.length := by rw [Array.length_toList, ByteArray.size_data]; exact hlt
          have fin : firstI a0.data.toList m0 c2 c3 (a0.size - q) q = firstI a0.data.toList m0 c2 c3 (a0.size - (q + 1)) (q + 1) := by
            have : a0.size - q = (a0.size - (q + 1)) + 1 := by omega
            rw [this]
            exact firstI_go _ _ _ _ _ _ (by rw [← HN.out]; exact t1) t2 (by rw [Array.length_toList, ByteArray.size_data]; exact t3)
          have HF := Lib.hid (HI.out.trans fin)
          have hj : q - m0 < a0.size := by omega
          have HQ : Hid (rollN a0.data.toList m0 (q + 1) = (N * 69069 + (a0[q]'hlt).toNat + 1 - powN m0 * ((a0[q - m0]'hj).toNat + 1)) % 4294967296) := by
            rw [HN.out]
            exact Lib.hid (first_next a0 m0 q h0 (by omega) hlt hj)
          have HJ : Hid (m0 + (q - m0) = q) := Lib.hid (by omega)
          clear t1 t2 t3 fin hl
          go_wp2_with (go_at_call 23; refine (first1_any q m0 (q - m0) a0 N (powN m0) (rollN a0.data.toList m0 (q + 1)) _ _ _ _ _ g6 g0 g5 g1 HJ.out hlt hj hs HQ.out.symm).mono ?_; rintro e w3 ⟨rfl, q3, rfl⟩)
          go_roundw
          case rel =>
            refine ⟨q + 1, by omega, by omega, by go_num, HF, ?_⟩
            refine ⟨by go_simp, by go_simp, by go_simp, by go_simp, by go_simp, by go_simp, by go_simp, by go_simp, ?_⟩
            exact below_set (pw_below_drewN hB _) (by omega)
          case measure => simp [intOf]; omega
theorem roll_first.calls (a0 : ByteArray) (c0 c1 c2 c3 : Int) (r : Int) (w : World) (h : roll_first.f a0 c0 c1 c2 c3 = some r) :
    Calls Try.prog 18 #[.string a0, .agg #[.int .i64 c0, .int .i64 c1, .int .i64 c2, .int .u32 c3]] w fun e w' => e = .returned (.int .i64 r) ∧ Below w.heap.size w w' := by
  unfold roll_first.f at h
  by_cases hc : 1 ≤ c0 ∧ c0 ≤ c1 ∧ a0.size ≤ 140737488351232
  · rw [if_pos hc] at h
    by_cases hs : (a0.size : Int) ≤ c1
    · rw [if_pos hs] at h
      obtain rfl := Option.some.inj h
      exact first_short a0 c0 c1 c2 c3 w hs
    · rw [if_neg hs] at h
      obtain rfl := Option.some.inj h
      obtain ⟨m0, rfl⟩ := Int.eq_ofNat_of_zero_le (show 0 ≤ c0 by omega)
      obtain ⟨m1, rfl⟩ := Int.eq_ofNat_of_zero_le (show 0 ≤ c1 by omega)
      rw [Int.toNat_natCast, Int.toNat_natCast]
      exact first_long a0 m0 m1 c2 c3 w (by omega) (by omega) (by omega) hc.2.2
  · rw [if_neg hc] at h
    cases h
end Go.Proofs.Ytameblpmojfdgaa.A
