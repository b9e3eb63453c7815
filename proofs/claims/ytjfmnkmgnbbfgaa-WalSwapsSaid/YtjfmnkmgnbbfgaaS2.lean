/- WalSwaps, walked: two commits that have no block in common leave the same volume in either order. -/
import Derived.Test.YtjfmnkmgnbbfgaaS1
import Derived.Test.YtjfmnkmgnbbfgaaW0
set_option linter.unusedVariables false
set_option linter.unusedSimpArgs false
namespace Go.Proofs.Ytjfmnkmgnbbfgaa.A
open Go.RowKit Go.Proofs.YtjfmnkmgnbbfgaaW.PrintWords Go.Proofs.YtjfmnkmgnbbfgaaW.PrintLast Go.Proofs.YtjfmnkmgnbbfgaaW.PrintMore
def hswp.T : Bool × List (List Nat × List Nat) := (true, [([], []), ([0], [0]), ([1], [1]), ([2], [2]), ([3, 2], [2, 3]), ([2, 4], [2, 4]), ([5, 2], [5]), ([6], [6]), ([7, 6], [6, 7]), ([6, 8], [6, 8]), ([9, 6], [9]), ([10], [10]), ([11, 10], [10, 11]), ([10, 12], [10, 12]), ([13, 10], [13]), ([14], [14]), ([15, 14], [14, 15]), ([14, 16], [14, 16]), ([17, 14], [17]), ([18], [18]), ([19, 18, 18], [18, 19]), ([18], [18]), ([21, 20, 18], [18, 21]), ([20, 22, 22, 18], [18, 20, 22]), ([18, 23], [18, 23]), ([24, 23], [24]), ([25, 25], [25]), ([25, 26], [25, 26]), ([27, 26, 0, 1, 2, 3, 4, 5, 6, 7, 8, 9, 10, 11, 12, 13, 14, 15, 16, 17, 18, 19, 20, 21, 22, 23, 24, 25, 26, 27], [27])])
def hswp.B : List Nat := [0, 1, 3, 7, 15, 31, 63, 127, 255, 511, 1023, 2047, 4095, 8191, 16383, 32767, 65535, 131071, 262143, 524287, 1048575, 524287, 4194303, 8388607, 16777215, 33554431, 67108863, 134217727, 268435455]
theorem hswp.tab : rtab .any (opsOf Try.f3 16) = hswp.T := by kernel_rfl
theorem hswp.bits : waitsOk hswp.T.2 hswp.B = true := by kernel_rfl
theorem far_take (l m : List S27) (i : Nat) (hi : i < l.length) (h1 : ∀ x ∈ l.take i, ∀ y ∈ m, x.f0 ≠ y.f0) (h2 : ∀ y ∈ m, l[i].f0 ≠ y.f0) : ∀ x ∈ l.take (i + 1), ∀ y ∈ m, x.f0 ≠ y.f0 := by
  intro x hx
  rw [← List.take_append_getElem hi] at hx
  rcases List.mem_append.1 hx with hx | hx
  · exact h1 x hx
  · obtain rfl := List.mem_singleton.1 hx; exact h2
theorem far_take1 (a : Int) (m : List S27) (k : Nat) (hk : k < m.length) (h1 : ∀ y ∈ m.take k, a ≠ y.f0) (h2 : a ≠ m[k].f0) : ∀ y ∈ m.take (k + 1), a ≠ y.f0 := by
  intro y hy
  rw [← List.take_append_getElem hk] at hy
  rcases List.mem_append.1 hy with hy | hy
  · exact h1 y hy
  · obtain rfl := List.mem_singleton.1 hy; exact h2
set_option maxHeartbeats 8000000 in
set_option maxRecDepth 100000 in
theorem swaps_walk (A0 : Option Addr) (c0 : Nat) (v : List ByteArray) (A1 : Option Addr) (c1 : Nat) (l : List S27) (A2 : Option Addr) (c2 : Nat) (m : List S27) (w : World)
    (hv : Kd.C Kd.string w A0 v.length v) (hc0 : v.length ≤ c0) (hl : Kd.C k27 w A1 l.length l) (hc1 : l.length ≤ c1) (hm : Kd.C k27 w A2 m.length m) (hc2 : m.length ≤ c2) :
    Calls Try.prog 3 #[.slice A0 v.length c0, .slice A1 l.length c1, .slice A2 m.length c2] w fun e w' => e = .returned (.bool true) ∧ Below w.heap.size w w' := by
  have hu29 := Try.underlying29
  have hu27 := Try.underlying27
  obtain ⟨K1, hK1⟩ : ∃ z, z = l.length + m.length + 3000 := ⟨_, rfl⟩
  obtain ⟨r1, hr1, hi1⟩ := fits_some v l hl.2.1 K1 (by omega)
  obtain ⟨r2, hr2, hi2⟩ := fits_some v m hm.2.1 K1 (by omega)
  have HV := Aside0.mk hv
  have HL := Aside0.mk hl
  have HM := Aside0.mk hm
  have HI1 := Aside0.mk hi1
  have HI2 := Aside0.mk hi2
  have HF1 := Aside0.mk hr1
  have HF2 := Aside0.mk hr2
  clear hv hl hm hr1 hr2 hK1 hi1 hi2
  go_enter Try.func3, Try.ntmps3
  cases r1 with
  | false =>
    go_wp2_with (first
      | ((with_reducible refine gate_dst (N := 19) rfl ?_); refine goesL_ (some 19) rfl rfl Try.func20 (by kernel_rfl) rfl #[.slice A0 v.length c0, .slice A1 l.length c1] rfl (by (try simp only [List.map_toArray, List.map_cons, List.map_nil]); first | done | rfl) ?_; refine (hibernaclelaw16_fits.calls K1 A0 c0 v A1 c1 l false _ HV.out hc0 HL.out hc1 HF1.out).mono ?_; rintro e w19 ⟨rfl, hb⟩; refine ⟨_, rfl, ?_⟩; have HB19 := Aside0.mk hb; clear hb)
      | ((with_reducible refine gate_dst (N := 27) rfl ?_); refine goesL_ (some 27) rfl rfl Try.func21 (by kernel_rfl) rfl #[] rfl (by (try simp only [List.map_toArray, List.map_cons, List.map_nil]); first | done | rfl) ?_; refine (hibernaclelaw16_awake.calls true _ rfl).mono ?_; rintro e wz ⟨rfl, hbz⟩; refine ⟨_, rfl, ?_⟩; have HBZ := Aside0.mk (below_step HB19.out hbz); clear hbz)
      | fail)
    go_ret
    exact ⟨rfl, HBZ.out⟩
  | true =>
    go_wp2_with (first
      | ((with_reducible refine gate_dst (N := 19) rfl ?_); refine goesL_ (some 19) rfl rfl Try.func20 (by kernel_rfl) rfl #[.slice A0 v.length c0, .slice A1 l.length c1] rfl (by (try simp only [List.map_toArray, List.map_cons, List.map_nil]); first | done | rfl) ?_; refine (hibernaclelaw16_fits.calls K1 A0 c0 v A1 c1 l true _ HV.out hc0 HL.out hc1 HF1.out).mono ?_; rintro e w19 ⟨rfl, hb⟩; refine ⟨_, rfl, ?_⟩; have HB19 := Aside0.mk hb; clear hb)
      | fail)
    refine (hibernaclelaw16_fits.calls K1 A0 c0 v A2 c2 m r2 w19 (Kd.C_below HV.out HB19.out) hc0 (Kd.C_below HM.out HB19.out) hc2 HF2.out).mono ?_
    rintro e w24 ⟨rfl, hb24⟩
    have HB24 := Aside0.mk (below_step HB19.out hb24)
    clear hb24
    cases r2 with
    | false =>
      go_wp2_with (first
        | ((with_reducible refine gate_dst (N := 27) rfl ?_); refine goesL_ (some 27) rfl rfl Try.func21 (by kernel_rfl) rfl #[] rfl (by (try simp only [List.map_toArray, List.map_cons, List.map_nil]); first | done | rfl) ?_; refine (hibernaclelaw16_awake.calls true _ rfl).mono ?_; rintro e wz ⟨rfl, hbz⟩; refine ⟨_, rfl, ?_⟩; have HBZ := Aside0.mk (below_step HB24.out hbz); clear hbz)
        | fail)
      go_ret
      exact ⟨rfl, HBZ.out⟩
    | true =>
      have HFI := Aside0.mk (HI1.out (by first | rfl | trivial))
      have HFJ := Aside0.mk (HI2.out (by first | rfl | trivial))
      clear HI1 HI2
      go_wp2
      go_loopw [7] (fun i wr => ∃ j : Nat, j ≤ l.length ∧ i = .int .i64 (j : Int) ∧ Aside0 (∀ x ∈ l.take j, ∀ y ∈ m, x.f0 ≠ y.f0) ∧ Aside0 (Below w.heap.size w wr)) (fun i _ => l.length - (intOf i).toNat)
      case atStart => exact ⟨0, Nat.zero_le _, rfl, ⟨fun x hx => by simp at hx⟩, HB24⟩
      case round =>
        obtain ⟨j, hj, rfl, HD, HBR⟩ := hrel
        have h32 := (mayOk_of l v.length (by have := HFI.out.hi; omega) HFI.out.may).len
        have h32m := (mayOk_of m v.length (by have := HFI.out.hi; omega) HFJ.out.may).len
        by_cases hlt : j < l.length
        · have hjl : (j : Int) < l.length := by omega
          have hjr : (j : Int) ≤ 140737488355328 := by omega
          obtain ⟨ad, rfl, g0, _⟩ := at_T27 (Kd.C_below HL.out HBR.out) (j : Int) (by omega) (by omega)
          rw [show rd_T27 l (j : Int) = l[j] from rdTN l j hlt] at g0
          simp only [Int.toNat_natCast] at g0
          have hft := far_take l m j hlt HD.out
          obtain ⟨x, hx⟩ : ∃ z, z = l[j].f0 := ⟨_, rfl⟩
          rw [← hx] at g0 hft
          have HG0 := Aside0.mk g0
          have HFT := Aside0.mk hft
          clear hx g0 hft HD
          go_wp2
          go_loopw [8] (fun k wq => ∃ q : Nat, q ≤ m.length ∧ k = .int .i64 (q : Int) ∧ Aside0 (∀ y ∈ m.take q, x ≠ y.f0) ∧ Aside0 (Below w.heap.size w wq) ∧ Aside0 (wq.cell? (ad.add (j * 2)) = some (.int .i64 x))) (fun k _ => m.length - (intOf k).toNat)
          case atStart => exact ⟨0, Nat.zero_le _, rfl, ⟨fun y hy => by simp at hy⟩, HBR, HG0⟩
          case round =>
            obtain ⟨q, hq, rfl, HQ, HBQ, HGQ⟩ := hrel
            have g0 := HGQ.out
            by_cases hqt : q < m.length
            · have hql : (q : Int) < m.length := by omega
              have hqr : (q : Int) ≤ 140737488355328 := by omega
              obtain ⟨am, rfl, k0, _⟩ := at_T27 (Kd.C_below HM.out HBQ.out) (q : Int) (by omega) (by omega)
              rw [show rd_T27 m (q : Int) = m[q] from rdTN m q hqt] at k0
              simp only [Int.toNat_natCast] at k0
              have hft1 := far_take1 x m q hqt HQ.out
              obtain ⟨y, hy⟩ : ∃ z, z = m[q].f0 := ⟨_, rfl⟩
              rw [← hy] at k0 hft1
              have HF1_ := Aside0.mk hft1
              clear hy hft1
              by_cases heq : x = y
              · have hb : (x == y) = true := beq_iff_eq.mpr heq
                clear heq
                go_wp2
                rename_i KK hKK
                replace hKK := Aside0.mk hKK
                have g0 : wr.drew.cell? (ad.add (j * 2)) = some (.int .i64 x) := g0
                have k0 : wr.drew.cell? (am.add (q * 2)) = some (.int .i64 y) := k0
                refine wp_region_still_lit (by kernel_rfl) (by kernel_rfl) ?_
                change wpStill _ _ wr.drew (fun a' => Exit.then KK _ Exit.normal a' wr.drew) _ _
                repeat still_step
                refine wpStill_nil ?_
                change KK _ wr.drew
                refine hKK.out _ _ ?_
                clear hKK KK
                go_wp2_with (first
                  | ((with_reducible refine gate_dst (N := 51) rfl ?_); refine goesL_ (some 51) rfl rfl Try.func21 (by kernel_rfl) rfl #[] rfl (by (try simp only [List.map_toArray, List.map_cons, List.map_nil]); first | done | rfl) ?_; refine (hibernaclelaw16_awake.calls true _ rfl).mono ?_; rintro e wz ⟨rfl, hbz⟩; refine ⟨_, rfl, ?_⟩; have HBZ := Aside0.mk (below_step HBQ.out.drew hbz); clear hbz)
                  | fail)
                go_ret
                exact ⟨rfl, HBZ.out⟩
              · have hb : (x == y) = false := beq_eq_false_iff_ne.mpr heq
                have HNE := Aside0.mk heq
                clear heq
                go_wp2
                rename_i KK hKK
                replace hKK := Aside0.mk hKK
                have g0 : wr.drew.cell? (ad.add (j * 2)) = some (.int .i64 x) := g0
                have k0 : wr.drew.cell? (am.add (q * 2)) = some (.int .i64 y) := k0
                refine wp_region_still_lit (by kernel_rfl) (by kernel_rfl) ?_
                change wpStill _ _ wr.drew (fun a' => Exit.then KK _ Exit.normal a' wr.drew) _ _
                repeat still_step
                refine wpStill_nil ?_
                change KK _ wr.drew
                refine hKK.out _ _ ?_
                clear hKK KK
                go_wp2
                go_roundw
                case rel =>
                  exact ⟨q + 1, by omega, by simp, ⟨HF1_.out HNE.out⟩, ⟨HBQ.out.drew⟩, ⟨HGQ.out⟩⟩
                case measure => simp only [intOf]; omega
            · obtain rfl : q = m.length := by omega
              have hft := HQ.out
              rw [List.take_length] at hft
              go_wp2
              go_roundw
              case rel =>
                exact ⟨j + 1, by omega, by simp, ⟨HFT.out hft⟩, HBQ⟩
              case measure => simp only [intOf]; omega
        · obtain rfl : j = l.length := by omega
          obtain ⟨wr2, hwr2⟩ : ∃ z, z = wr := ⟨_, rfl⟩
          rw [← hwr2] at HBR ⊢
          clear hwr2
          have hds := HD.out
          rw [List.take_length] at hds
          have hsw := swap_home v l m HFI.out HFJ.out hds
          have hfv := baseB_valid HFI.out.hi HFI.out.whole
          have hfl := baseB_len v
          have hlo := HFI.out.lo
          have hhi := HFI.out.hi
          have hform : wal_Format.f 300 v = some (baseB v, [], -1, 0) := by rw [form_some v 300 (by omega), fits_form HFI.out]; rfl
          obtain ⟨a1, a2, a3⟩ := after_valid hfv (by omega) hfl HFI.out.may
          obtain ⟨b1, b2, b3⟩ := after_valid hfv (by omega) hfl HFJ.out.may
          have e1 := after_eq hfv (by omega) (by omega) hfl HFI.out.may
          have e3 := after_eq hfv (by omega) (by omega) hfl HFJ.out.may
          have e2 := after_eq a1 (by omega) (by omega) a2 HFJ.out.may
          have e4 := after_eq b1 (by omega) (by omega) b2 HFI.out.may
          obtain ⟨X1, hX1⟩ : ∃ z, z = afterB (baseB v) l := ⟨_, rfl⟩
          obtain ⟨Z1, hZ1⟩ : ∃ z, z = afterB (baseB v) m := ⟨_, rfl⟩
          rw [← hX1] at e1 e2 a2 hsw
          rw [← hZ1] at e3 e4 b2 hsw
          obtain ⟨Y2, hY2⟩ : ∃ z, z = afterB X1 m := ⟨_, rfl⟩
          obtain ⟨Z2, hZ2⟩ : ∃ z, z = afterB Z1 l := ⟨_, rfl⟩
          rw [← hY2] at e2 hsw
          rw [← hZ2] at e4 hsw
          have hsb : hibernacleref16_SameBlocks.f 400 (homeL Y2 []) (homeL Z2 []) = some true := by
            rw [← hsw]
            have : (homeL Y2 []).length ≤ 300 := by
              unfold homeL
              split
              · rename_i h
                have := (badV_zero h).1.1
                simp [volL]; omega
              · simp
            exact sameb _ (by omega) 400 (by omega)
          have HE1 := Aside0.mk e1
          have HE2 := Aside0.mk e2
          have HE3 := Aside0.mk e3
          have HE4 := Aside0.mk e4
          have HX1 := Aside0.mk a2
          have HZ1 := Aside0.mk b2
          have HSB := Aside0.mk hsb
          have HFORM := Aside0.mk hform
          clear e1 e2 e3 e4 a1 a2 a3 b1 b2 b3 hX1 hZ1 hY2 hZ2 hsw hds hsb hform hfv hfl hlo hhi HD
          go_wp2_with (first
            | ((with_reducible refine gate_store (t := 29) (p := 14) rfl ?_); refine store_event (t := 29) (p := 14) (v := ?vo_u78) (w1 := ?wn_u78) ?hg ?ho ?hn ?hr ?_; (case ho => rfl); (case hg => rfl); (case hn => rfl); (case hr => first | (go_simp; done) | (go_simp; rfl)); intro u78 hw; have hX : Aside0 (u78.heap[b14]? = some (.cells #[.slice G0 Z2.length s0, .slice G1 0 s1, .int .i64 (-1)] 29 (0, 0))) := ⟨by rw [hw]; exact blk_put (blk_put (blk_put (blk_below HU14.out HB78.out) 0 _ rfl) 1 _ rfl) 2 _ rfl⟩; have hD := (HD78.out.set3 (g := b14) (fun k hk => by rcases hk with hk | hk; exact hk.2; have h2_ := blk_lt HU14.out; omega) (.slice G0 Z2.length s0) (.slice G1 0 s1) (.int .i64 (-1))); rw [← hw] at hD; have HD79 := Aside0.mk hD; have HY78 : Aside0 (Below u66.heap.size u66 u78) := ⟨by rw [hw]; exact below_set3 (below_step HYu14.out HB78.out) g14 _ _ _⟩; have HU78 := hX; clear hX hD hw m0 m1 m2 f0 f1 f2)
            | ((with_reducible refine gate_dst (N := 78) rfl ?_); refine goesL_ (some 78) rfl rfl Try.func23 (by kernel_rfl) rfl #[.agg #[.slice F0 Z1.length r0, .slice F1 0 r1, .int .i64 (-1)], .slice A1 l.length c1] rfl (by (try simp only [List.map_toArray, List.map_cons, List.map_nil]); first | done | rfl) ?_; refine (commit_walk F0 r0 Z1 F1 r1 [] (-1) A1 c1 l (fun k => k < u14.heap.size ∧ k ≠ b14) u14 HD73.out (Kd.C_below HL.out (below_step (below_step HBW.out HC66.out) HYu14.out)) hc1 (by simp) (by have h1_ := HZ1.out; have h2_ := HFI.out.hi; omega)).mono ?_; rw [HE4.out]; rintro e w78 ⟨v0, v1, rfl, hD, hb⟩; obtain ⟨G0, s0, G1, s1, rfl, rfl⟩ := hD.slices; refine ⟨_, rfl, ?_⟩; have HD78 := Aside0.mk hD; have HB78 := Aside0.mk hb; clear j0 j1 j2; have m0 := (blk_cell (blk_below HU14.out hb) 0).trans rfl; have m1 := (blk_cell (blk_below HU14.out hb) 1).trans rfl; have m2 := (blk_cell (blk_below HU14.out hb) 2).trans rfl; have f0 := blk_frozen (blk_below HU14.out hb) 0; have f1 := blk_frozen (blk_below HU14.out hb) 1; have f2 := blk_frozen (blk_below HU14.out hb) 2; clear hD hb)
            | ((with_reducible refine gate_store (t := 29) (p := 14) rfl ?_); refine store_event (t := 29) (p := 14) (v := ?vo_u14) (w1 := ?wn_u14) ?hg ?ho ?hn ?hr ?_; (case ho => rfl); (case hg => rfl); (case hn => rfl); (case hr => first | (go_simp; done) | (go_simp; rfl)); intro u14 hw; have hX : Aside0 (u14.heap[b14]? = some (.cells #[.slice F0 Z1.length r0, .slice F1 0 r1, .int .i64 (-1)] 29 (0, 0))) := ⟨by rw [hw]; exact blk_put (blk_put (blk_put HXb14.out 0 _ rfl) 1 _ rfl) 2 _ rfl⟩; have hlb := HBb14.out; have hD := ((HD72.out.below HLb14.out).set3 (g := b14) (fun k hk => by have h_ : k < w72.heap.size := hk; omega) (.slice F0 Z1.length r0) (.slice F1 0 r1) (.int .i64 (-1))); rw [← hw] at hD; have HD73 := Aside0.mk (hD.bound.mono (ok' := fun k => k < u14.heap.size ∧ k ≠ b14) (fun k hk => ⟨hk.2, by have h_ : k < w72.heap.size := hk.1; omega⟩)); have g14 : u66.heap.size ≤ b14 := (by rw [hlb]; exact HB72.out.size); have HYu14 : Aside0 (Below u66.heap.size u66 u14) := ⟨by rw [hw]; exact below_set3 (below_step HB72.out HLb14.out) g14 _ _ _⟩; have HU14 := hX; clear hX hD hw hlb m0 m1 m2 f0 f1 f2; have j0 := (blk_cell HU14.out 0).trans rfl; have j1 := (blk_cell HU14.out 1).trans rfl; have j2 := (blk_cell HU14.out 2).trans rfl; )
            | ((with_reducible refine gate_dst (N := 14) rfl ?_); refine box_event ?hg (N := 14) ?hd (cs := #[.slice none 0 0, .slice none 0 0, .int .i64 0]) (t := 29) ?hr ?_; (case hd => rfl); (case hg => rfl); (case hr => first | (go_simp; done) | (go_simp; rfl)); intro b14 hbb14 w14 hxb14 hlb14; have m0 := (blk_cell hxb14 0).trans rfl; have m1 := (blk_cell hxb14 1).trans rfl; have m2 := (blk_cell hxb14 2).trans rfl; have f0 := blk_frozen hxb14 0; have f1 := blk_frozen hxb14 1; have f2 := blk_frozen hxb14 2; have HXb14 := Aside0.mk hxb14; have HLb14 := Aside0.mk hlb14; have HBb14 := Aside0.mk hbb14; clear hxb14 hlb14 hbb14)
            | ((with_reducible refine gate_dst (N := 72) rfl ?_); refine goesL_ (some 72) rfl rfl Try.func23 (by kernel_rfl) rfl #[.agg #[.slice B0 (baseB v).length e0, .slice B1 0 e1, .int .i64 (-1)], .slice A2 m.length c2] rfl (by (try simp only [List.map_toArray, List.map_cons, List.map_nil]); first | done | rfl) ?_; refine (commit_walk B0 e0 (baseB v) B1 e1 [] (-1) A2 c2 m (fun k => k < u66.heap.size) u66 ((HDu9.out.below HC66.out).bound.mono (fun k hk => hk.2)) (Kd.C_below HM.out (below_step HBW.out HC66.out)) hc2 (by simp) (by rw [baseB_len]; have := HFI.out.hi; omega)).mono ?_; rw [HE3.out]; rintro e w72 ⟨v0, v1, rfl, hD, hb⟩; obtain ⟨F0, r0, F1, r1, rfl, rfl⟩ := hD.slices; refine ⟨_, rfl, ?_⟩; have HD72 := Aside0.mk (hD.bound.mono (ok' := fun k => k < w72.heap.size) (fun k hk => hk.2)); have HB72 := Aside0.mk hb; clear hD hb j0 j1 j2)
            | ((with_reducible refine gate_store (t := 29) (p := 11) rfl ?_); refine store_event (t := 29) (p := 11) (v := ?vo_u66) (w1 := ?wn_u66) ?hg ?ho ?hn ?hr ?_; (case ho => rfl); (case hg => rfl); (case hn => rfl); (case hr => first | (go_simp; done) | (go_simp; rfl)); intro u66 hw; have hX : Aside0 (u66.heap[b11]? = some (.cells #[.slice E0 Y2.length p0, .slice E1 0 p1, .int .i64 (-1)] 29 (0, 0))) := ⟨by rw [hw]; exact blk_put (blk_put (blk_put (blk_below HU11.out HB66.out) 0 _ rfl) 1 _ rfl) 2 _ rfl⟩; have hD := (HD66.out.set3 (g := b11) (fun k hk => by rcases hk with hk | hk; exact hk.2; have h2_ := blk_lt HU11.out; omega) (.slice E0 Y2.length p0) (.slice E1 0 p1) (.int .i64 (-1))); rw [← hw] at hD; have HD67 := Aside0.mk hD; have HC66 : Aside0 (Below u9.heap.size u9 u66) := ⟨by rw [hw]; exact below_set3 (below_step HCu11.out HB66.out) g11 _ _ _⟩; have HU66 := hX; clear hX hD hw m0 m1 m2 f0 f1 f2; have j0 := (blk_cell (blk_below HU9.out HC66.out) 0).trans rfl; have j1 := (blk_cell (blk_below HU9.out HC66.out) 1).trans rfl; have j2 := (blk_cell (blk_below HU9.out HC66.out) 2).trans rfl; )
            | ((with_reducible refine gate_dst (N := 66) rfl ?_); refine goesL_ (some 66) rfl rfl Try.func23 (by kernel_rfl) rfl #[.agg #[.slice C0 X1.length q0, .slice C1 0 q1, .int .i64 (-1)], .slice A2 m.length c2] rfl (by (try simp only [List.map_toArray, List.map_cons, List.map_nil]); first | done | rfl) ?_; refine (commit_walk C0 q0 X1 C1 q1 [] (-1) A2 c2 m (fun k => k < u11.heap.size ∧ k ≠ b11) u11 HD61.out (Kd.C_below HM.out (below_step HBW.out HCu11.out)) hc2 (by simp) (by have h1_ := HX1.out; have h2_ := HFI.out.hi; omega)).mono ?_; rw [HE2.out]; rintro e w66 ⟨v0, v1, rfl, hD, hb⟩; obtain ⟨E0, p0, E1, p1, rfl, rfl⟩ := hD.slices; refine ⟨_, rfl, ?_⟩; have HD66 := Aside0.mk hD; have HB66 := Aside0.mk hb; clear j0 j1 j2; have m0 := (blk_cell (blk_below HU11.out hb) 0).trans rfl; have m1 := (blk_cell (blk_below HU11.out hb) 1).trans rfl; have m2 := (blk_cell (blk_below HU11.out hb) 2).trans rfl; have f0 := blk_frozen (blk_below HU11.out hb) 0; have f1 := blk_frozen (blk_below HU11.out hb) 1; have f2 := blk_frozen (blk_below HU11.out hb) 2; clear hD hb)
            | ((with_reducible refine gate_store (t := 29) (p := 11) rfl ?_); refine store_event (t := 29) (p := 11) (v := ?vo_u11) (w1 := ?wn_u11) ?hg ?ho ?hn ?hr ?_; (case ho => rfl); (case hg => rfl); (case hn => rfl); (case hr => first | (go_simp; done) | (go_simp; rfl)); intro u11 hw; have hX : Aside0 (u11.heap[b11]? = some (.cells #[.slice C0 X1.length q0, .slice C1 0 q1, .int .i64 (-1)] 29 (0, 0))) := ⟨by rw [hw]; exact blk_put (blk_put (blk_put HXb11.out 0 _ rfl) 1 _ rfl) 2 _ rfl⟩; have hlb := HBb11.out; have hD := ((HD60.out.below HLb11.out).set3 (g := b11) (fun k hk => by have h_ : k < w60.heap.size := hk; omega) (.slice C0 X1.length q0) (.slice C1 0 q1) (.int .i64 (-1))); rw [← hw] at hD; have HD61 := Aside0.mk (hD.bound.mono (ok' := fun k => k < u11.heap.size ∧ k ≠ b11) (fun k hk => ⟨hk.2, by have h_ : k < w60.heap.size := hk.1; omega⟩)); have g11 : u9.heap.size ≤ b11 := (by rw [hlb]; exact HB60.out.size); have HCu11 : Aside0 (Below u9.heap.size u9 u11) := ⟨by rw [hw]; exact below_set3 (below_step HB60.out HLb11.out) g11 _ _ _⟩; have HU11 := hX; clear hX hD hw hlb m0 m1 m2 f0 f1 f2; have j0 := (blk_cell HU11.out 0).trans rfl; have j1 := (blk_cell HU11.out 1).trans rfl; have j2 := (blk_cell HU11.out 2).trans rfl; )
            | ((with_reducible refine gate_dst (N := 11) rfl ?_); refine box_event ?hg (N := 11) ?hd (cs := #[.slice none 0 0, .slice none 0 0, .int .i64 0]) (t := 29) ?hr ?_; (case hd => rfl); (case hg => rfl); (case hr => first | (go_simp; done) | (go_simp; rfl)); intro b11 hbb11 w11 hxb11 hlb11; have m0 := (blk_cell hxb11 0).trans rfl; have m1 := (blk_cell hxb11 1).trans rfl; have m2 := (blk_cell hxb11 2).trans rfl; have f0 := blk_frozen hxb11 0; have f1 := blk_frozen hxb11 1; have f2 := blk_frozen hxb11 2; have HXb11 := Aside0.mk hxb11; have HLb11 := Aside0.mk hlb11; have HBb11 := Aside0.mk hbb11; clear hxb11 hlb11 hbb11)
            | ((with_reducible refine gate_dst (N := 60) rfl ?_); refine goesL_ (some 60) rfl rfl Try.func23 (by kernel_rfl) rfl #[.agg #[.slice B0 (baseB v).length e0, .slice B1 0 e1, .int .i64 (-1)], .slice A1 l.length c1] rfl (by (try simp only [List.map_toArray, List.map_cons, List.map_nil]); first | done | rfl) ?_; refine (commit_walk B0 e0 (baseB v) B1 e1 [] (-1) A1 c1 l (fun k => k < u9.heap.size) u9 (HDu9.out.bound.mono (fun k hk => hk.2)) (Kd.C_below HL.out HBW.out) hc1 (by simp) (by rw [baseB_len]; have := HFI.out.hi; omega)).mono ?_; rw [HE1.out]; rintro e w60 ⟨v0, v1, rfl, hD, hb⟩; obtain ⟨C0, q0, C1, q1, rfl, rfl⟩ := hD.slices; refine ⟨_, rfl, ?_⟩; have HD60 := Aside0.mk (hD.bound.mono (ok' := fun k => k < w60.heap.size) (fun k hk => hk.2)); have HB60 := Aside0.mk hb; clear hD hb j0 j1 j2)
            | ((with_reducible refine gate_store (t := 29) (p := 9) rfl ?_); refine store_event (t := 29) (p := 9) (v := ?vo_u9) (w1 := ?wn_u9) ?hg ?ho ?hn ?hr ?_; (case ho => rfl); (case hg => rfl); (case hn => rfl); (case hr => first | (go_simp; done) | (go_simp; rfl)); intro u9 hw; have hX : Aside0 (u9.heap[b9]? = some (.cells #[.slice B0 (baseB v).length e0, .slice B1 0 e1, .int .i64 (-1)] 29 (0, 0))) := ⟨by rw [hw]; exact blk_put (blk_put (blk_put HXb9.out 0 _ rfl) 1 _ rfl) 2 _ rfl⟩; have hlb := HBb9.out; have hD := ((HD54.out.below HLb9.out).set3 (g := b9) (fun k hk => by have := hk.2; omega) (.slice B0 (baseB v).length e0) (.slice B1 0 e1) (.int .i64 (-1))); rw [← hw] at hD; have HDu9 := Aside0.mk hD; have g9 : w.heap.size ≤ b9 := (by rw [hlb]; exact HB54.out.size); have HBW : Aside0 (Below w.heap.size w u9) := ⟨by rw [hw]; exact below_set3 (below_step HB54.out HLb9.out) g9 _ _ _⟩; have HU9 := hX; clear hX hD hw hlb m0 m1 m2 f0 f1 f2; have j0 := (blk_cell HU9.out 0).trans rfl; have j1 := (blk_cell HU9.out 1).trans rfl; have j2 := (blk_cell HU9.out 2).trans rfl; )
            | ((with_reducible refine gate_dst (N := 9) rfl ?_); refine box_event ?hg (N := 9) ?hd (cs := #[.slice none 0 0, .slice none 0 0, .int .i64 0]) (t := 29) ?hr ?_; (case hd => rfl); (case hg => rfl); (case hr => first | (go_simp; done) | (go_simp; rfl)); intro b9 hbb9 w9 hxb9 hlb9; have m0 := (blk_cell hxb9 0).trans rfl; have m1 := (blk_cell hxb9 1).trans rfl; have m2 := (blk_cell hxb9 2).trans rfl; have f0 := blk_frozen hxb9 0; have f1 := blk_frozen hxb9 1; have f2 := blk_frozen hxb9 2; have HXb9 := Aside0.mk hxb9; have HLb9 := Aside0.mk hlb9; have HBb9 := Aside0.mk hbb9; clear hxb9 hlb9 hbb9)
            | ((with_reducible refine gate_dst (N := 54) rfl ?_); refine goesL_ (some 54) rfl rfl Try.func22 (by kernel_rfl) rfl #[.slice A0 v.length c0] rfl (by (try simp only [List.map_toArray, List.map_cons, List.map_nil]); first | done | rfl) ?_; refine (wal_Format.calls 300 A0 c0 v (baseB v) [] (-1) 0 wr2 (Kd.C_below HV.out HBR.out) hc0 HFORM.out).mono ?_; rintro e w54 ⟨v0, v1, rfl, h0, h1, hb⟩; have hD := Dr.of_R h0 h1; obtain ⟨B0, e0, B1, e1, rfl, rfl⟩ := hD.slices; refine ⟨_, rfl, ?_⟩; have HD54 := Aside0.mk hD; have HB54 := Aside0.mk (below_step HBR.out hb); clear h0 h1 hb hD)
            | fail)
          rename_i KK hKK
          replace hKK := Aside0.mk hKK
          have hS1 : u78.drew.heap[b11]? = some (.cells #[.slice E0 Y2.length p0, .slice E1 0 p1, .int .i64 (-1)] 29 (0, 0)) := blk_below HU66.out HY78.out.drew
          have hS2 : u78.drew.heap[b14]? = some (.cells #[.slice G0 Z2.length s0, .slice G1 0 s1, .int .i64 (-1)] 29 (0, 0)) := HU78.out
          have hBV : Below w.heap.size w u78.drew := (below_step (below_step HBW.out HC66.out) HY78.out).drew
          have hDY := (HD67.out.below HY78.out).below (Below.refl _ _).drew
          have hDZ := HD79.out.below (Below.refl _ _).drew
          refine start_ (n := 29) (S := fun w' => w'.heap[b11]? = some (.cells #[.slice E0 Y2.length p0, .slice E1 0 p1, .int .i64 (-1)] 29 (0, 0)) ∧ w'.heap[b14]? = some (.cells #[.slice G0 Z2.length s0, .slice G1 0 s1, .int .i64 (-1)] 29 (0, 0))) (ds := []) #[false, false, false, false, false, false, false, false, false, false, false, false, false, false, false, false, false, false, false, false, false, false, false, false, false, false, false, false, false] (by kernel_rfl) rfl rfl ⟨hS1, hS2⟩ (fun hHeld => ?_); refine with_tabW hswp.tab hswp.bits (fun HT_ HW_ => ?_)
          generalize u78.drew = V0 at hS1 hS2 hBV hDY hDZ hHeld ⊢
          refine pure_ (i := 0) (N := (some 81)) (v := ?_) (a' := ?_) #[true, false, false, false, false, false, false, false, false, false, false, false, false, false, false, false, false, false, false, false, false, false, false, false, false, false, false, false, false] rfl rfl (any_of HT_.out (by kernel_rfl)) (fun _ _ _ h => h) (Or.inl ⟨by rfl, ?_⟩) ?_ ?_
          rotate_left
          · intro w'
            go_simp
            with_reducible rfl
          rotate_left
          · simp only [Act.put, List.setIfInBounds_toArray, List.set_cons_zero, List.set_cons_succ, i64_w, i32_w]
            rfl
          refine pure_ (i := 1) (N := (some 82)) (v := ?_) (a' := ?_) #[true, true, false, false, false, false, false, false, false, false, false, false, false, false, false, false, false, false, false, false, false, false, false, false, false, false, false, false, false] rfl rfl (any_of HT_.out (by kernel_rfl)) (fun _ _ _ h => h) (Or.inl ⟨by rfl, ?_⟩) ?_ ?_
          rotate_left
          · intro w'
            go_simp
            with_reducible rfl
          rotate_left
          · simp only [Act.put, List.setIfInBounds_toArray, List.set_cons_zero, List.set_cons_succ, i64_w, i32_w]
            rfl
          refine pure_ (i := 2) (N := (some 83)) (v := ?_) (a' := ?_) #[true, true, true, false, false, false, false, false, false, false, false, false, false, false, false, false, false, false, false, false, false, false, false, false, false, false, false, false, false] rfl rfl (any_of HT_.out (by kernel_rfl)) (fun _ _ _ h => h) (Or.inl ⟨by rfl, ?_⟩) ?_ ?_
          rotate_left
          · intro w'
            go_simp
            with_reducible rfl
          rotate_left
          · simp only [Act.put, List.setIfInBounds_toArray, List.set_cons_zero, List.set_cons_succ, i64_w, i32_w]
            rfl
          refine pure_ (i := 3) (N := (some 84)) (v := ?_) (a' := ?_) #[true, true, true, true, false, false, false, false, false, false, false, false, false, false, false, false, false, false, false, false, false, false, false, false, false, false, false, false, false] rfl rfl (any_of HT_.out (by kernel_rfl)) (fun _ _ _ h => h) (Or.inl ⟨by rfl, ?_⟩) ?_ ?_
          rotate_left
          · intro w'
            go_simp
            with_reducible rfl
          rotate_left
          · simp only [Act.put, List.setIfInBounds_toArray, List.set_cons_zero, List.set_cons_succ, i64_w, i32_w]
            rfl
          refine pure_ (i := 4) (N := (some 85)) (v := ?_) (a' := ?_) #[true, true, true, true, true, false, false, false, false, false, false, false, false, false, false, false, false, false, false, false, false, false, false, false, false, false, false, false, false] rfl rfl (any_of HT_.out (by kernel_rfl)) (fun _ _ _ h => h) (Or.inl ⟨by rfl, ?_⟩) ?_ ?_
          rotate_left
          · intro w'
            go_simp
            with_reducible rfl
          rotate_left
          · simp only [Act.put, List.setIfInBounds_toArray, List.set_cons_zero, List.set_cons_succ, i64_w, i32_w]
            rfl
          refine pure_ (i := 5) (N := (some 86)) (v := ?_) (a' := ?_) #[true, true, true, true, true, true, false, false, false, false, false, false, false, false, false, false, false, false, false, false, false, false, false, false, false, false, false, false, false] rfl rfl (any_of HT_.out (by kernel_rfl)) (fun _ _ _ h => h) (Or.inl ⟨by rfl, ?_⟩) ?_ ?_
          rotate_left
          · intro w'
            go_simp
            with_reducible rfl
          rotate_left
          · simp only [Act.put, List.setIfInBounds_toArray, List.set_cons_zero, List.set_cons_succ, i64_w, i32_w]
            rfl
          refine pure_ (i := 6) (N := (some 87)) (v := ?_) (a' := ?_) #[true, true, true, true, true, true, true, false, false, false, false, false, false, false, false, false, false, false, false, false, false, false, false, false, false, false, false, false, false] rfl rfl (any_of HT_.out (by kernel_rfl)) (fun _ _ _ h => h) (Or.inl ⟨by rfl, ?_⟩) ?_ ?_
          rotate_left
          · intro w'
            go_simp
            with_reducible rfl
          rotate_left
          · simp only [Act.put, List.setIfInBounds_toArray, List.set_cons_zero, List.set_cons_succ, i64_w, i32_w]
            rfl
          refine pure_ (i := 7) (N := (some 88)) (v := ?_) (a' := ?_) #[true, true, true, true, true, true, true, true, false, false, false, false, false, false, false, false, false, false, false, false, false, false, false, false, false, false, false, false, false] rfl rfl (any_of HT_.out (by kernel_rfl)) (fun _ _ _ h => h) (Or.inl ⟨by rfl, ?_⟩) ?_ ?_
          rotate_left
          · intro w'
            go_simp
            with_reducible rfl
          rotate_left
          · simp only [Act.put, List.setIfInBounds_toArray, List.set_cons_zero, List.set_cons_succ, i64_w, i32_w]
            rfl
          refine pure_ (i := 8) (N := (some 89)) (v := ?_) (a' := ?_) #[true, true, true, true, true, true, true, true, true, false, false, false, false, false, false, false, false, false, false, false, false, false, false, false, false, false, false, false, false] rfl rfl (any_of HT_.out (by kernel_rfl)) (fun _ _ _ h => h) (Or.inl ⟨by rfl, ?_⟩) ?_ ?_
          rotate_left
          · intro w'
            go_simp
            with_reducible rfl
          rotate_left
          · simp only [Act.put, List.setIfInBounds_toArray, List.set_cons_zero, List.set_cons_succ, i64_w, i32_w]
            rfl
          refine pure_ (i := 9) (N := (some 90)) (v := ?_) (a' := ?_) #[true, true, true, true, true, true, true, true, true, true, false, false, false, false, false, false, false, false, false, false, false, false, false, false, false, false, false, false, false] rfl rfl (any_of HT_.out (by kernel_rfl)) (fun _ _ _ h => h) (Or.inl ⟨by rfl, ?_⟩) ?_ ?_
          rotate_left
          · intro w'
            go_simp
            with_reducible rfl
          rotate_left
          · simp only [Act.put, List.setIfInBounds_toArray, List.set_cons_zero, List.set_cons_succ, i64_w, i32_w]
            rfl
          refine pure_ (i := 10) (N := (some 91)) (v := ?_) (a' := ?_) #[true, true, true, true, true, true, true, true, true, true, true, false, false, false, false, false, false, false, false, false, false, false, false, false, false, false, false, false, false] rfl rfl (any_of HT_.out (by kernel_rfl)) (fun _ _ _ h => h) (Or.inl ⟨by rfl, ?_⟩) ?_ ?_
          rotate_left
          · intro w'
            go_simp
            with_reducible rfl
          rotate_left
          · simp only [Act.put, List.setIfInBounds_toArray, List.set_cons_zero, List.set_cons_succ, i64_w, i32_w]
            rfl
          refine pure_ (i := 11) (N := (some 92)) (v := ?_) (a' := ?_) #[true, true, true, true, true, true, true, true, true, true, true, true, false, false, false, false, false, false, false, false, false, false, false, false, false, false, false, false, false] rfl rfl (any_of HT_.out (by kernel_rfl)) (fun _ _ _ h => h) (Or.inl ⟨by rfl, ?_⟩) ?_ ?_
          rotate_left
          · intro w'
            go_simp
            with_reducible rfl
          rotate_left
          · simp only [Act.put, List.setIfInBounds_toArray, List.set_cons_zero, List.set_cons_succ, i64_w, i32_w]
            rfl
          refine pure_ (i := 12) (N := (some 93)) (v := ?_) (a' := ?_) #[true, true, true, true, true, true, true, true, true, true, true, true, true, false, false, false, false, false, false, false, false, false, false, false, false, false, false, false, false] rfl rfl (any_of HT_.out (by kernel_rfl)) (fun _ _ _ h => h) (Or.inl ⟨by rfl, ?_⟩) ?_ ?_
          rotate_left
          · intro w'
            go_simp
            with_reducible rfl
          rotate_left
          · simp only [Act.put, List.setIfInBounds_toArray, List.set_cons_zero, List.set_cons_succ, i64_w, i32_w]
            rfl
          refine pure_ (i := 13) (N := (some 94)) (v := ?_) (a' := ?_) #[true, true, true, true, true, true, true, true, true, true, true, true, true, true, false, false, false, false, false, false, false, false, false, false, false, false, false, false, false] rfl rfl (any_of HT_.out (by kernel_rfl)) (fun _ _ _ h => h) (Or.inl ⟨by rfl, ?_⟩) ?_ ?_
          rotate_left
          · intro w'
            go_simp
            with_reducible rfl
          rotate_left
          · simp only [Act.put, List.setIfInBounds_toArray, List.set_cons_zero, List.set_cons_succ, i64_w, i32_w]
            rfl
          refine pure_ (i := 14) (N := (some 95)) (v := ?_) (a' := ?_) #[true, true, true, true, true, true, true, true, true, true, true, true, true, true, true, false, false, false, false, false, false, false, false, false, false, false, false, false, false] rfl rfl (any_of HT_.out (by kernel_rfl)) (fun _ _ _ h => h) (Or.inl ⟨by rfl, ?_⟩) ?_ ?_
          rotate_left
          · intro w'
            go_simp
            with_reducible rfl
          rotate_left
          · simp only [Act.put, List.setIfInBounds_toArray, List.set_cons_zero, List.set_cons_succ, i64_w, i32_w]
            rfl
          refine pure_ (i := 15) (N := (some 96)) (v := ?_) (a' := ?_) #[true, true, true, true, true, true, true, true, true, true, true, true, true, true, true, true, false, false, false, false, false, false, false, false, false, false, false, false, false] rfl rfl (any_of HT_.out (by kernel_rfl)) (fun _ _ _ h => h) (Or.inl ⟨by rfl, ?_⟩) ?_ ?_
          rotate_left
          · intro w'
            go_simp
            with_reducible rfl
          rotate_left
          · simp only [Act.put, List.setIfInBounds_toArray, List.set_cons_zero, List.set_cons_succ, i64_w, i32_w]
            rfl
          refine pure_ (i := 16) (N := (some 97)) (v := ?_) (a' := ?_) #[true, true, true, true, true, true, true, true, true, true, true, true, true, true, true, true, true, false, false, false, false, false, false, false, false, false, false, false, false] rfl rfl (any_of HT_.out (by kernel_rfl)) (fun _ _ _ h => h) (Or.inl ⟨by rfl, ?_⟩) ?_ ?_
          rotate_left
          · intro w'
            go_simp
            with_reducible rfl
          rotate_left
          · simp only [Act.put, List.setIfInBounds_toArray, List.set_cons_zero, List.set_cons_succ, i64_w, i32_w]
            rfl
          refine pure_ (i := 17) (N := (some 98)) (v := ?_) (a' := ?_) #[true, true, true, true, true, true, true, true, true, true, true, true, true, true, true, true, true, true, false, false, false, false, false, false, false, false, false, false, false] rfl rfl (any_of HT_.out (by kernel_rfl)) (fun _ _ _ h => h) (Or.inl ⟨by rfl, ?_⟩) ?_ ?_
          rotate_left
          · intro w'
            go_simp
            with_reducible rfl
          rotate_left
          · simp only [Act.put, List.setIfInBounds_toArray, List.set_cons_zero, List.set_cons_succ, i64_w, i32_w]
            rfl
          refine pure_ (i := 18) (N := (some 99)) (v := ?_) (a' := ?_) #[true, true, true, true, true, true, true, true, true, true, true, true, true, true, true, true, true, true, true, false, false, false, false, false, false, false, false, false, false] rfl rfl (any_of HT_.out (by kernel_rfl)) (fun _ _ _ h => h) (Or.inl ⟨by rfl, ?_⟩) ?_ ?_
          rotate_left
          · intro w'
            go_simp
            with_reducible rfl
          rotate_left
          · simp only [Act.put, List.setIfInBounds_toArray, List.set_cons_zero, List.set_cons_succ, i64_w, i32_w]
            rfl
          refine take_ (i := 19) (N := (some 100)) (v := ?_) (a' := ?_) #[true, true, true, true, true, true, true, true, true, true, true, true, true, true, true, true, true, true, true, true, false, false, false, false, false, false, false, false, false] rfl rfl (take_ofW HT_.out HW_.out (by kernel_rfl)) (fun _ _ _ h => h) (Or.inl ⟨by rfl, ?_⟩) hHeld ?_ ?_
          rotate_left
          · rintro w' s1; have t0 := (blk_cell s1.1 0).trans rfl; have t1 := (blk_cell s1.1 1).trans rfl; have t2 := (blk_cell s1.1 2).trans rfl
            go_simp
            with_reducible rfl
          rotate_left
          · simp only [Act.put, List.setIfInBounds_toArray, List.set_cons_zero, List.set_cons_succ, i64_w, i32_w]
            rfl
          refine take_ (i := 21) (N := (some 102)) (v := ?_) (a' := ?_) #[true, true, true, true, true, true, true, true, true, true, true, true, true, true, true, true, true, true, true, true, false, true, false, false, false, false, false, false, false] rfl rfl (take_ofW HT_.out HW_.out (by kernel_rfl)) (fun _ _ _ h => h) (Or.inl ⟨by rfl, ?_⟩) hHeld ?_ ?_
          rotate_left
          · rintro w' s1; have t0 := (blk_cell s1.2 0).trans rfl; have t1 := (blk_cell s1.2 1).trans rfl; have t2 := (blk_cell s1.2 2).trans rfl
            go_simp
            with_reducible rfl
          rotate_left
          · simp only [Act.put, List.setIfInBounds_toArray, List.set_cons_zero, List.set_cons_succ, i64_w, i32_w]
            rfl
          refine one_ (i := 20) (N := (some 101)) #[true, true, true, true, true, true, true, true, true, true, true, true, true, true, true, true, true, true, true, true, true, true, false, false, false, false, false, false, false] rfl rfl (one_of HT_.out (by kernel_rfl)) (by decide) (fun K hK => ?_)
          refine goes_ Try.func25 (by kernel_rfl) rfl #[.agg #[.slice E0 Y2.length p0, .slice E1 0 p1, .int .i64 (-1)]] (by rfl) rfl rfl (by (try simp only [List.map_toArray, List.map_cons, List.map_nil]); first | done | rfl) ?_
          refine (wal_Home.calls 400 E0 p0 Y2 E1 p1 [] (-1) (homeL Y2 []) V0 (Kd.V_reads' hDY.1).2.2 (Kd.V_reads' hDY.1).2.1 (Kd.V_reads' hDY.2).2.2 (Kd.V_reads' hDY.2).2.1 (home_some Y2 [] (-1) (by simp) 400 (by omega))).mono ?_
          rintro e_ V1 ⟨v1, rfl, hr1, hc1_⟩
          obtain ⟨H1, h1_, rfl⟩ := Kd.R_slice hr1
          refine ⟨_, rfl, ?_⟩
          refine hK.out _ _ ⟨(blk_below hS1 hc1_), (blk_below hS2 hc1_)⟩ (fun hHeld => ?_)
          clear hK K
          refine norm_ (a' := ?_) ?_ ?_
          rotate_left
          · show Act.put _ (some 101) _ = _
            simp only [Act.put, List.setIfInBounds_toArray, List.set_cons_zero, List.set_cons_succ, i64_w, i32_w]
            rfl
          refine one_ (i := 22) (N := (some 103)) #[true, true, true, true, true, true, true, true, true, true, true, true, true, true, true, true, true, true, true, true, true, true, true, false, false, false, false, false, false] rfl rfl (one_of HT_.out (by kernel_rfl)) (by decide) (fun K hK => ?_)
          refine goes_ Try.func25 (by kernel_rfl) rfl #[.agg #[.slice G0 Z2.length s0, .slice G1 0 s1, .int .i64 (-1)]] (by rfl) rfl rfl (by (try simp only [List.map_toArray, List.map_cons, List.map_nil]); first | done | rfl) ?_
          have hDZ1 := hDZ.below hc1_
          refine (wal_Home.calls 400 G0 s0 Z2 G1 s1 [] (-1) (homeL Z2 []) V1 (Kd.V_reads' hDZ1.1).2.2 (Kd.V_reads' hDZ1.1).2.1 (Kd.V_reads' hDZ1.2).2.2 (Kd.V_reads' hDZ1.2).2.1 (home_some Z2 [] (-1) (by simp) 400 (by omega))).mono ?_
          rintro e_ V2 ⟨v2, rfl, hr2, hc2_⟩
          obtain ⟨H2, h2_, rfl⟩ := Kd.R_slice hr2
          refine ⟨_, rfl, ?_⟩
          refine hK.out _ _ ⟨(blk_below (blk_below hS1 hc1_) hc2_), (blk_below (blk_below hS2 hc1_) hc2_)⟩ (fun hHeld => ?_)
          clear hK K
          refine norm_ (a' := ?_) ?_ ?_
          rotate_left
          · show Act.put _ (some 103) _ = _
            simp only [Act.put, List.setIfInBounds_toArray, List.set_cons_zero, List.set_cons_succ, i64_w, i32_w]
            rfl
          refine one_ (i := 23) (N := (some 104)) #[true, true, true, true, true, true, true, true, true, true, true, true, true, true, true, true, true, true, true, true, true, true, true, true, false, false, false, false, false] rfl rfl (one_of HT_.out (by kernel_rfl)) (by decide) (fun K hK => ?_)
          refine goes_ Try.func24 (by kernel_rfl) rfl #[.slice H1 (homeL Y2 []).length h1_, .slice H2 (homeL Z2 []).length h2_] (by rfl) rfl rfl (by (try simp only [List.map_toArray, List.map_cons, List.map_nil]); first | done | rfl) ?_
          have hy1 := Kd.R_reads' (Kd.R_below hr1 hc2_)
          have hy2 := Kd.R_reads' hr2
          refine (hibernacleref16_SameBlocks.calls 400 H1 h1_ (homeL Y2 []) H2 h2_ (homeL Z2 []) true V2 hy1.2.2 hy1.2.1 hy2.2.2 hy2.2.1 HSB.out).mono ?_
          rintro e_ V3 ⟨rfl, ⟨⟨n3, hn3⟩⟩⟩
          have hc3_ : Below V2.heap.size V2 V3 := by rw [hn3]; exact pw_below_drewN (Below.refl _ _) n3
          refine ⟨_, rfl, ?_⟩
          refine hK.out _ _ ⟨(blk_below (blk_below (blk_below hS1 hc1_) hc2_) hc3_), (blk_below (blk_below (blk_below hS2 hc1_) hc2_) hc3_)⟩ (fun hHeld => ?_)
          clear hK K
          refine norm_ (a' := ?_) ?_ ?_
          rotate_left
          · show Act.put _ (some 104) _ = _
            simp only [Act.put, List.setIfInBounds_toArray, List.set_cons_zero, List.set_cons_succ, i64_w, i32_w]
            rfl
          refine pure_ (i := 24) (N := (some 105)) (v := ?_) (a' := ?_) #[true, true, true, true, true, true, true, true, true, true, true, true, true, true, true, true, true, true, true, true, true, true, true, true, true, false, false, false, false] rfl rfl (any_of HT_.out (by kernel_rfl)) (fun _ _ _ h => h) (Or.inl ⟨by rfl, ?_⟩) ?_ ?_
          rotate_left
          · intro w'
            go_simp
            with_reducible rfl
          rotate_left
          · simp only [Act.put, List.setIfInBounds_toArray, List.set_cons_zero, List.set_cons_succ, i64_w, i32_w]
            rfl
          refine pure_ (i := 25) (N := (some 106)) (v := ?_) (a' := ?_) #[true, true, true, true, true, true, true, true, true, true, true, true, true, true, true, true, true, true, true, true, true, true, true, true, true, true, false, false, false] rfl rfl (any_of HT_.out (by kernel_rfl)) (fun _ _ _ h => h) (Or.inl ⟨by rfl, ?_⟩) ?_ ?_
          rotate_left
          · intro w'
            go_simp
            with_reducible rfl
          rotate_left
          · simp only [Act.put, List.setIfInBounds_toArray, List.set_cons_zero, List.set_cons_succ, i64_w, i32_w]
            rfl
          refine one_ (i := 26) (N := (some 107)) #[true, true, true, true, true, true, true, true, true, true, true, true, true, true, true, true, true, true, true, true, true, true, true, true, true, true, true, false, false] rfl rfl (one_of HT_.out (by kernel_rfl)) (by decide) (fun K hK => ?_)
          refine goes_ Try.func21 (by kernel_rfl) rfl #[] (by rfl) rfl rfl (by (try simp only [List.map_toArray, List.map_cons, List.map_nil]); first | done | rfl) ?_
          refine (hibernaclelaw16_awake.calls true V3 rfl).mono ?_
          rintro e_ V4 ⟨rfl, hc4_⟩
          refine ⟨_, rfl, ?_⟩
          refine hK.out _ _ ⟨(blk_below (blk_below (blk_below (blk_below hS1 hc1_) hc2_) hc3_) hc4_), (blk_below (blk_below (blk_below (blk_below hS2 hc1_) hc2_) hc3_) hc4_)⟩ (fun hHeld => ?_)
          clear hK K
          refine norm_ (a' := ?_) ?_ ?_
          rotate_left
          · show Act.put _ (some 107) _ = _
            simp only [Act.put, List.setIfInBounds_toArray, List.set_cons_zero, List.set_cons_succ, i64_w, i32_w]
            rfl
          refine pure_ (i := 27) (N := (some 108)) (v := ?_) (a' := ?_) #[true, true, true, true, true, true, true, true, true, true, true, true, true, true, true, true, true, true, true, true, true, true, true, true, true, true, true, true, false] rfl rfl (any_of HT_.out (by kernel_rfl)) (fun _ _ _ h => h) (Or.inl ⟨by rfl, ?_⟩) ?_ ?_
          rotate_left
          · intro w'
            go_simp
            with_reducible rfl
          rotate_left
          · simp only [Act.put, List.setIfInBounds_toArray, List.set_cons_zero, List.set_cons_succ, i64_w, i32_w]
            rfl
          refine pure_ (i := 28) (N := (some 6)) (v := ?_) (a' := ?_) #[true, true, true, true, true, true, true, true, true, true, true, true, true, true, true, true, true, true, true, true, true, true, true, true, true, true, true, true, true] rfl rfl (any_of HT_.out (by kernel_rfl)) (fun _ _ _ h => h) (Or.inl ⟨by rfl, ?_⟩) ?_ ?_
          rotate_left
          · intro w'
            go_simp
            with_reducible rfl
          rotate_left
          · simp only [Act.put, List.setIfInBounds_toArray, List.set_cons_zero, List.set_cons_succ, i64_w, i32_w]
            rfl
          refine done_ (done_of HT_.out (by kernel_rfl)) ?_
          refine hKK.out _ _ ?_
          clear hKK KK
          go_wp2
          go_ret
          exact ⟨by simp, below_step (below_step (below_step (below_step hBV hc1_) hc2_) hc3_) hc4_⟩
end Go.Proofs.Ytjfmnkmgnbbfgaa.A
