/- WalHeads, walked: behind a commit the journal's first block is the digest of its front and the blocks, as the document lays it. -/
import Derived.Test.YtjfmnkmgnbbfgaaS1
import Derived.Test.YtjfmnkmgnbbfgaaW0
import Derived.Test.YtjfmnkmgnbbfgaaM4
set_option linter.unusedVariables false
set_option linter.unusedSimpArgs false
namespace Go.Proofs.Ytjfmnkmgnbbfgaa.A
open Go.RowKit Go.Proofs.YtjfmnkmgnbbfgaaW.PrintWords Go.Proofs.YtjfmnkmgnbbfgaaW.PrintLast Go.Proofs.YtjfmnkmgnbbfgaaW.PrintMore
theorem addr_zero {w : World} {ad : Addr} {u : Value} (h : w.cell? (ad.add (Int.toNat 0)) = some u) : w.cell? ad = some u := by
  have ha : ad.add (Int.toNat 0) = ad := by unfold Addr.add; simp
  rw [ha] at h
  exact h
theorem ext_left (a b : ByteArray) : (a ++ b).extract 0 a.size = a := by
  apply ByteArray.ext
  rw [ByteArray.data_extract, ByteArray.data_append]
  show (a.data ++ b.data).extract 0 a.data.size = a.data
  simp
theorem ext_mid (a b c : ByteArray) : (a ++ b ++ c).extract a.size (a.size + b.size) = b := by
  apply ByteArray.ext
  rw [ByteArray.data_extract, ByteArray.data_append, ByteArray.data_append]
  show (a.data ++ b.data ++ c.data).extract a.data.size (a.data.size + b.data.size) = b.data
  rw [Array.append_assoc]
  have e1 : a.data.extract a.data.size (a.data.size + b.data.size) = #[] := Array.eq_empty_of_size_eq_zero (by rw [Array.size_extract]; omega)
  rw [Array.extract_append, e1]
  simp
theorem head_front (l : List S27) (h : l.length ≤ 32) : (headV l).extract 0 70 = frontZ l := by
  have := ext_left (frontZ l) (sumV l ++ zeroB 26)
  rw [frontZ_size l h, ← ByteArray.append_assoc] at this
  exact this
theorem head_sum (l : List S27) (h : l.length ≤ 32) : (headV l).extract 70 102 = sumV l := by
  have := ext_mid (frontZ l) (sumV l) (zeroB 26)
  rw [frontZ_size l h, sumV_size] at this
  exact this
def hhds.T : Bool × List (List Nat × List Nat) := (true, [([], []), ([0], [0]), ([], []), ([2], [2]), ([1, 3], [1, 3]), ([4], [4]), ([5], [5]), ([5], [5]), ([7, 5, 5], [5, 7]), ([6, 8, 5], [5, 6, 8]), ([5, 9], [5, 9]), ([10, 8], [10]), ([11, 11], [11]), ([11, 12], [11, 12]), ([13, 12, 0, 1, 2, 3, 4, 5, 6, 7, 8, 9, 10, 11, 12, 13], [13])])
def hhds.B : List Nat := [0, 1, 0, 4, 15, 31, 63, 63, 191, 511, 1023, 2047, 4095, 8191, 16383]
theorem hhds.tab : rtab .any (opsOf Try.f19 18) = hhds.T := by kernel_rfl
theorem hhds.bits : waitsOk hhds.T.2 hhds.B = true := by kernel_rfl
set_option maxHeartbeats 8000000 in
set_option maxRecDepth 100000 in
theorem heads_walk (A0 : Option Addr) (c0 : Nat) (v : List ByteArray) (A1 : Option Addr) (c1 : Nat) (l : List S27) (w : World)
    (hv : Kd.C Kd.string w A0 v.length v) (hc0 : v.length ≤ c0) (hl : Kd.C k27 w A1 l.length l) (hc1 : l.length ≤ c1) :
    Calls Try.prog 19 #[.slice A0 v.length c0, .slice A1 l.length c1] w fun e w' => e = .returned (.bool true) ∧ Below w.heap.size w w' := by
  have hu29 := Try.underlying29
  have hu27 := Try.underlying27
  obtain ⟨K1, hK1⟩ : ∃ z, z = l.length + 3000 := ⟨_, rfl⟩
  obtain ⟨r1, hr1, hi1⟩ := fits_some v l hl.2.1 K1 (by omega)
  have HV := Aside0.mk hv
  have HL := Aside0.mk hl
  have HI1 := Aside0.mk hi1
  have HF1 := Aside0.mk hr1
  clear hv hl hr1 hK1 hi1
  go_enter Try.func19, Try.ntmps19
  cases r1 with
  | false =>
    go_wp2_with (first
      | ((with_reducible refine gate_dst (N := 15) rfl ?_); refine goesL_ (some 15) rfl rfl Try.func20 (by kernel_rfl) rfl #[.slice A0 v.length c0, .slice A1 l.length c1] rfl (by (try simp only [List.map_toArray, List.map_cons, List.map_nil]); first | done | rfl) ?_; refine (hibernaclelaw16_fits.calls K1 A0 c0 v A1 c1 l false _ HV.out hc0 HL.out hc1 HF1.out).mono ?_; rintro e w15 ⟨rfl, hb⟩; refine ⟨_, rfl, ?_⟩; have HB15 := Aside0.mk hb; clear hb)
      | ((with_reducible refine gate_dst (N := 22) rfl ?_); refine goesL_ (some 22) rfl rfl Try.func21 (by kernel_rfl) rfl #[] rfl (by (try simp only [List.map_toArray, List.map_cons, List.map_nil]); first | done | rfl) ?_; refine (hibernaclelaw16_awake.calls true _ rfl).mono ?_; rintro e wz ⟨rfl, hbz⟩; refine ⟨_, rfl, ?_⟩; have HBZ := Aside0.mk (below_step HB15.out hbz); clear hbz)
      | fail)
    go_ret
    exact ⟨rfl, HBZ.out⟩
  | true =>
    by_cases hnil : l = []
    · have hln : ((l.length : Int) == 0) = true := by rw [hnil]; rfl
      clear hnil
      go_wp2_with (first
        | ((with_reducible refine gate_dst (N := 15) rfl ?_); refine goesL_ (some 15) rfl rfl Try.func20 (by kernel_rfl) rfl #[.slice A0 v.length c0, .slice A1 l.length c1] rfl (by (try simp only [List.map_toArray, List.map_cons, List.map_nil]); first | done | rfl) ?_; refine (hibernaclelaw16_fits.calls K1 A0 c0 v A1 c1 l true _ HV.out hc0 HL.out hc1 HF1.out).mono ?_; rintro e w15 ⟨rfl, hb⟩; refine ⟨_, rfl, ?_⟩; have HB15 := Aside0.mk hb; clear hb)
        | ((with_reducible refine gate_dst (N := 22) rfl ?_); refine goesL_ (some 22) rfl rfl Try.func21 (by kernel_rfl) rfl #[] rfl (by (try simp only [List.map_toArray, List.map_cons, List.map_nil]); first | done | rfl) ?_; refine (hibernaclelaw16_awake.calls true _ rfl).mono ?_; rintro e wz ⟨rfl, hbz⟩; refine ⟨_, rfl, ?_⟩; have HBZ := Aside0.mk (below_step HB15.out hbz); clear hbz)
        | fail)
      go_ret
      exact ⟨rfl, HBZ.out⟩
    · have hln : ((l.length : Int) == 0) = false := beq_eq_false_iff_ne.mpr (by have := List.length_pos_iff.mpr hnil; omega)
      have HFI := Aside0.mk (HI1.out (by first | rfl | trivial))
      have hfv := baseB_valid HFI.out.hi HFI.out.whole
      have hfl := baseB_len v
      have hlo := HFI.out.lo
      have hhi := HFI.out.hi
      have hmo := mayOk_of l v.length (by omega) HFI.out.may
      have h32 := hmo.len
      have hform : wal_Format.f 300 v = some (baseB v, [], -1, 0) := by rw [form_some v 300 (by omega), fits_form HFI.out]; rfl
      have e1 := commit_neg hfv (by omega) (by omega) hfl HFI.out.may hnil
      have x1 := commit_len hfv hfl hmo
      have x2 := commit_head hfv (by omega) hfl hmo
      have x3 := fun k hk => commit_data hfv (by omega) hfl hmo k hk
      obtain ⟨X1, hX1⟩ : ∃ z, z = setH (landP (baseB v) l) l := ⟨_, rfl⟩
      rw [← hX1] at e1 x1 x2 x3
      have y1 := head_front l h32
      have y2 := head_sum l h32
      have y3 := headV_size l h32
      have hrh : hibernacleref16_Head.f l = some (headV l) := by unfold hibernacleref16_Head.f; rw [if_pos (fit_may _ (by omega) l HFI.out.may)]
      obtain ⟨H, hH⟩ : ∃ z, z = headV l := ⟨_, rfl⟩
      rw [← hH] at x2 y1 y2 y3 hrh
      have c33 : ((X1.length : Int) < 33) = False := eq_false (by omega)
      have HFORM := Aside0.mk hform
      have HE1 := Aside0.mk e1
      have HX1 := Aside0.mk x1
      have HXH := Aside0.mk x2
      have HXD := Aside0.mk x3
      have HY1 := Aside0.mk y1
      have HY2 := Aside0.mk y2
      have HRH := Aside0.mk hrh
      have HMO := Aside0.mk hmo
      clear hfv hfl hlo hhi hmo hform e1 x1 x2 x3 y1 y2 hrh hX1 hH HI1 hnil
      go_wp2_with (first
        | ((with_reducible refine gate_dst (N := 15) rfl ?_); refine goesL_ (some 15) rfl rfl Try.func20 (by kernel_rfl) rfl #[.slice A0 v.length c0, .slice A1 l.length c1] rfl (by (try simp only [List.map_toArray, List.map_cons, List.map_nil]); first | done | rfl) ?_; refine (hibernaclelaw16_fits.calls K1 A0 c0 v A1 c1 l true _ HV.out hc0 HL.out hc1 HF1.out).mono ?_; rintro e w15 ⟨rfl, hb⟩; refine ⟨_, rfl, ?_⟩; have HB15 := Aside0.mk hb; clear hb)
        | ((with_reducible refine gate_dst (N := 61) rfl ?_); refine Kd.R_lit Kd.string (w0 := u7) u7.heap.size 9 ?hg (N := 61) ?hd (xs := ([H.extract 0 70] : List ByteArray)) (inner := [.string (H.extract 0 70)]) (ok := fun _ => True) (okp := fun _ => True) ?hr ?hp (fun _ hk => hk) trivial (Below.refl _ _) (Nat.le_refl _) (by simp) ?_; (case hd => rfl); (case hg => rfl); (case hr => first | (go_simp; done) | (go_simp; rfl)); (case hp => exact (Reps.one (show Kd.M Kd.string _ _ _ (H.extract 0 70) [.string (H.extract 0 70)] from rfl) (Reps.none _ _))); intro v61 w61 ho61 hb61 hg_ hnew_; clear hg_ hnew_; have HO61 := Aside0.mk ho61; have HB61 := Aside0.mk hb61; clear ho61 hb61)
        | ((with_reducible refine gate_store (t := 29) (p := 7) rfl ?_); refine store_event (t := 29) (p := 7) (v := ?vo_u7) (w1 := ?wn_u7) ?hg ?ho ?hn ?hr ?_; (case ho => rfl); (case hg => rfl); (case hn => rfl); (case hr => first | (go_simp; done) | (go_simp; rfl)); intro u7 hw; have hX : Aside0 (u7.heap[b7]? = some (.cells #[.slice C0 X1.length q0, .slice C1 0 q1, .int .i64 (-1)] 29 (0, 0))) := ⟨by rw [hw]; exact blk_put (blk_put (blk_put HXb7.out 0 _ rfl) 1 _ rfl) 2 _ rfl⟩; have hlb := HBb7.out; have hD := ((HD31.out.below HLb7.out).set3 (g := b7) (fun k hk => by have h_ : k < w31.heap.size := hk; omega) (.slice C0 X1.length q0) (.slice C1 0 q1) (.int .i64 (-1))); rw [← hw] at hD; have HDx := Aside0.mk hD; have g7 : u5.heap.size ≤ b7 := (by rw [hlb]; exact HB31.out.size); have HC7 : Aside0 (Below w.heap.size w u7) := ⟨by rw [hw]; exact below_set3 (below_step (below_step HBW.out HB31.out) HLb7.out) (Nat.le_trans HBW.out.size g7) _ _ _⟩; have HU7 := hX; clear hX hD hw hlb m0 m1 m2 f0 f1 f2; have hcx := (Kd.V_reads' HDx.out.1).2.2; have hpx : (0 : Int) < (X1.length : Int) := (by have h_ := HX1.out; omega); obtain ⟨ad, hC0, hh0⟩ := Kd.at_string hcx 0 (Int.le_refl 0) hpx; subst hC0; clear hcx; rw [HXH.out] at hh0; have hh0 := addr_zero hh0; have j0 := (blk_cell HU7.out 0).trans rfl; have j1 := (blk_cell HU7.out 1).trans rfl; have j2 := (blk_cell HU7.out 2).trans rfl; )
        | ((with_reducible refine gate_dst (N := 7) rfl ?_); refine box_event ?hg (N := 7) ?hd (cs := #[.slice none 0 0, .slice none 0 0, .int .i64 0]) (t := 29) ?hr ?_; (case hd => rfl); (case hg => rfl); (case hr => first | (go_simp; done) | (go_simp; rfl)); intro b7 hbb7 w7 hxb7 hlb7; have m0 := (blk_cell hxb7 0).trans rfl; have m1 := (blk_cell hxb7 1).trans rfl; have m2 := (blk_cell hxb7 2).trans rfl; have f0 := blk_frozen hxb7 0; have f1 := blk_frozen hxb7 1; have f2 := blk_frozen hxb7 2; have HXb7 := Aside0.mk hxb7; have HLb7 := Aside0.mk hlb7; have HBb7 := Aside0.mk hbb7; clear hxb7 hlb7 hbb7)
        | ((with_reducible refine gate_dst (N := 31) rfl ?_); refine goesL_ (some 31) rfl rfl Try.func23 (by kernel_rfl) rfl #[.agg #[.slice B0 (baseB v).length e0, .slice B1 0 e1, .int .i64 (-1)], .slice A1 l.length c1] rfl (by (try simp only [List.map_toArray, List.map_cons, List.map_nil]); first | done | rfl) ?_; refine (commit_walk B0 e0 (baseB v) B1 e1 [] (-1) A1 c1 l (fun k => k < u5.heap.size) u5 (HDu5.out.bound.mono (fun k hk => hk.2)) (Kd.C_below HL.out HBW.out) hc1 (by simp) (by rw [baseB_len]; have h_ := HFI.out.hi; omega)).mono ?_; rw [HE1.out]; rintro e w31 ⟨v0, v1, rfl, hD, hb⟩; obtain ⟨C0, q0, C1, q1, rfl, rfl⟩ := hD.slices; refine ⟨_, rfl, ?_⟩; have HD31 := Aside0.mk (hD.bound.mono (ok' := fun k => k < w31.heap.size) (fun k hk => hk.2)); have HB31 := Aside0.mk hb; clear hD hb j0 j1 j2)
        | ((with_reducible refine gate_store (t := 29) (p := 5) rfl ?_); refine store_event (t := 29) (p := 5) (v := ?vo_u5) (w1 := ?wn_u5) ?hg ?ho ?hn ?hr ?_; (case ho => rfl); (case hg => rfl); (case hn => rfl); (case hr => first | (go_simp; done) | (go_simp; rfl)); intro u5 hw; have hX : Aside0 (u5.heap[b5]? = some (.cells #[.slice B0 (baseB v).length e0, .slice B1 0 e1, .int .i64 (-1)] 29 (0, 0))) := ⟨by rw [hw]; exact blk_put (blk_put (blk_put HXb5.out 0 _ rfl) 1 _ rfl) 2 _ rfl⟩; have hlb := HBb5.out; have hD := ((HD25.out.below HLb5.out).set3 (g := b5) (fun k hk => by have h_ := hk.2; omega) (.slice B0 (baseB v).length e0) (.slice B1 0 e1) (.int .i64 (-1))); rw [← hw] at hD; have HDu5 := Aside0.mk hD; have g5 : w.heap.size ≤ b5 := (by rw [hlb]; exact HB25.out.size); have HBW : Aside0 (Below w.heap.size w u5) := ⟨by rw [hw]; exact below_set3 (below_step HB25.out HLb5.out) g5 _ _ _⟩; have HU5 := hX; clear hX hD hw hlb m0 m1 m2 f0 f1 f2; have j0 := (blk_cell HU5.out 0).trans rfl; have j1 := (blk_cell HU5.out 1).trans rfl; have j2 := (blk_cell HU5.out 2).trans rfl; )
        | ((with_reducible refine gate_dst (N := 5) rfl ?_); refine box_event ?hg (N := 5) ?hd (cs := #[.slice none 0 0, .slice none 0 0, .int .i64 0]) (t := 29) ?hr ?_; (case hd => rfl); (case hg => rfl); (case hr => first | (go_simp; done) | (go_simp; rfl)); intro b5 hbb5 w5 hxb5 hlb5; have m0 := (blk_cell hxb5 0).trans rfl; have m1 := (blk_cell hxb5 1).trans rfl; have m2 := (blk_cell hxb5 2).trans rfl; have f0 := blk_frozen hxb5 0; have f1 := blk_frozen hxb5 1; have f2 := blk_frozen hxb5 2; have HXb5 := Aside0.mk hxb5; have HLb5 := Aside0.mk hlb5; have HBb5 := Aside0.mk hbb5; clear hxb5 hlb5 hbb5)
        | ((with_reducible refine gate_dst (N := 25) rfl ?_); refine goesL_ (some 25) rfl rfl Try.func22 (by kernel_rfl) rfl #[.slice A0 v.length c0] rfl (by (try simp only [List.map_toArray, List.map_cons, List.map_nil]); first | done | rfl) ?_; refine (wal_Format.calls 300 A0 c0 v (baseB v) [] (-1) 0 w15 (Kd.C_below HV.out HB15.out) hc0 HFORM.out).mono ?_; rintro e w25 ⟨v0, v1, rfl, h0, h1, hb⟩; have hD := Dr.of_R h0 h1; obtain ⟨B0, e0, B1, e1, rfl, rfl⟩ := hD.slices; refine ⟨_, rfl, ?_⟩; have HD25 := Aside0.mk hD; have HB25 := Aside0.mk (below_step HB15.out hb); clear h0 h1 hb hD)
        | fail)
      obtain ⟨B61, d61, rfl⟩ := Kd.R_slice HO61.out
      go_loopw [10, 11] (fun r i wr => ∃ j : Nat, j ≤ l.length ∧ i = .int .i64 (j : Int) ∧ Aside0 (Kd.R Kd.string 9 wr u7.heap.size (fun _ => True) r (H.extract 0 70 :: (l.take j).map (·.f1))) ∧ Aside0 (Below u7.heap.size u7 wr)) (fun _ i _ => l.length - (intOf i).toNat)
      case atStart => exact ⟨0, Nat.zero_le _, rfl, HO61, HB61⟩
      case round =>
        obtain ⟨j, hj, rfl, HR, HB⟩ := hrel
        by_cases hlt : j < l.length
        · have hjl : (j : Int) < l.length := by omega
          have hjr : (j : Int) ≤ 140737488355328 := by omega
          obtain ⟨al, rfl, _, g1⟩ := at_T27 (Kd.C_below HL.out (below_step HC7.out HB.out)) (j : Int) (by omega) (by omega)
          rw [show rd_T27 l (j : Int) = l[j] from rdTN l j hlt] at g1
          simp only [Int.toNat_natCast] at g1
          obtain ⟨ad2, had2, k1⟩ := Kd.at_string (Kd.C_below (Kd.V_reads' HDx.out.1).2.2 HB.out) ((j : Int) + 1) (by omega) (by have := HX1.out; omega)
          cases had2
          rw [HXD.out j hlt, show ((j : Int) + 1).toNat = j + 1 by omega] at k1
          have hts : (l.take (j + 1)).map (·.f1) = (l.take j).map (·.f1) ++ [l[j].f1] := by rw [← List.take_append_getElem hlt, List.map_append]; rfl
          obtain ⟨x, hx⟩ : ∃ z, z = l[j] := ⟨_, rfl⟩
          rw [← hx] at g1 k1 hts
          have HT := Aside0.mk hts
          have hjx : (j : Int) + 1 < (X1.length : Int) := by have := HX1.out; omega
          have hjy : 0 ≤ (j : Int) + 1 := by omega
          have hjw : IntKind.i64.wrap ((j : Int) + 1) = (j : Int) + 1 := by rw [i64_w]; unfold wrap64; omega
          have hjz : j + 1 < X1.length := by omega
          have hY := blk_below HU7.out HB.out
          have j0 := (blk_cell hY 0).trans rfl
          clear hx hts
          go_wp2
          rename_i KK hKK
          replace hKK := Aside0.mk hKK
          have j0 : wr.drew.cell? ⟨b7, 0, none⟩ = some (.slice (some ad) X1.length q0) := j0
          have k3 : wr.cell? { block := ad.block, off := ad.off + (j + 1) } = some (.string x.f1) := by
            have ea : ad.add (j + 1) = { block := ad.block, off := ad.off + (j + 1) } := by unfold Addr.add; simp
            rw [← ea]; exact k1
          have k1 : wr.drew.cell? (ad.add (j + 1)) = some (.string x.f1) := k1
          have g1 : wr.drew.cell? ⟨(al.add (j * 2)).block, (al.add (j * 2)).off + 1, none⟩ = some (.string x.f1) := g1
          refine wp_region_still_lit (by kernel_rfl) (by kernel_rfl) ?_
          change wpStill _ _ wr.drew (fun a' => Exit.then KK _ Exit.normal a' wr.drew) _ _
          repeat still_step
          refine wpStill_nil ?_
          change KK _ wr.drew
          refine hKK.out _ _ ?_
          clear hKK KK
          have HR0 := Aside0.mk (Kd.R_drew HR.out)
          have HB0 : Aside0 (Below u7.heap.size u7 wr.drew) := ⟨HB.out.drew⟩
          go_wp2_with (first
            | ((with_reducible refine gate_builtin (b := .append) (xs := #[.tmp 80, .tmp 86]) rfl ?_); at_builtin; refine Kd.R_append Kd.string (w0 := u7) u7.heap.size rfl (.tmp 80) (.tmp 86) 22 9 (.string ⟨#[]⟩) 16 rfl Try.underlying22 info9 rfl (by decide) (by omega) u10 (H.extract 0 70 :: (l.take j).map (·.f1)) x.f1 [.string x.f1] (fun _ => True) (fun _ => False) rfl rfl rfl (fun _ hk => hk.elim) (fun _ _ => trivial) HR0.out HB0.out HB0.out.size ?aL ?_; (case aL => simp; omega); intro v87 w87 ho hb87 hg hat; have HR87 := Aside0.mk ho; have HB87 := Aside0.mk hb87; clear ho hb87 hg hat)
            | fail)
          go_roundw
          case rel =>
            refine ⟨_, _, .int .i64 ((j + 1 : Nat) : Int), _, _, _, _, _, _, _, _, _, _, _, _, _, _, _, _, _, _, _, _, _, _, _, _, _, _, ⟨j + 1, by omega, rfl, ⟨?_⟩, HB87⟩, rfl⟩
            rw [HT.out]
            exact HR87.out
          case measure =>
            show l.length - ((j : Int) + 1).toNat < l.length - (j : Int).toNat
            omega
        · obtain rfl : j = l.length := by omega
          have hR := HR.out
          rw [List.take_length] at hR
          obtain ⟨Ls, hLs⟩ : ∃ z, z = l.map (·.f1) := ⟨_, rfl⟩
          rw [← hLs] at hR
          have hLl : Ls.length = l.length := by rw [hLs, List.length_map]
          obtain ⟨A9, c9, rfl⟩ := Kd.R_slice hR
          obtain ⟨D, hD⟩ : ∃ z, z = digF hSum (joinS (H.extract 0 70 :: Ls)) := ⟨_, rfl⟩
          have HDl : Aside0 (D.length = 32) := ⟨by rw [hD]; simp [digF, fillB_length]⟩
          have HJ : Aside0 ((joinS (H.extract 0 70 :: Ls)).size ≤ 1000000) := ⟨by
            rw [joinS_size, List.map_cons, List.sum_cons, HY1.out, frontZ_size l h32]
            have := sum_128 Ls (by rw [hLs]; intro s hs; obtain ⟨y, hy, rfl⟩ := List.mem_map.1 hs; exact HMO.out.siz y hy)
            omega⟩
          have hsum : H.extract 70 102 = strOfNums D := by rw [HY2.out, hD, HY1.out, hLs]; rfl
          have HRR := Aside0.mk (Kd.R_reads' hR)
          have HDD := Aside0.mk hD
          have HLl := Aside0.mk hLl
          have HSUM := Aside0.mk hsum
          clear hR hLs hLl hD hsum HR
          go_wp2_with (first
            | ((with_reducible refine gate_dst (N := 89) rfl ?_); refine goesL_ (some 89) rfl rfl Try.func60 (by kernel_rfl) rfl #[.slice A9 (H.extract 0 70 :: Ls).length c9] rfl (by (try simp only [List.map_toArray, List.map_cons, List.map_nil]); first | done | rfl) ?_; refine (show Calls Try.prog 60 #[.slice A9 (H.extract 0 70 :: Ls).length c9] wr (fun e w' => e = .returned (.agg (u8s D)) ∧ Below _ _ w') from (by rw [HDD.out]; exact ref_Sum.walk A9 c9 (H.extract 0 70 :: Ls) _ HRR.out.2.2 HRR.out.2.1 (by simp; have h_ := HLl.out; omega) HJ.out)).mono ?_; rintro e w89 ⟨rfl, hb89⟩; refine ⟨_, rfl, ?_⟩; have HB89 := Aside0.mk (below_step HB.out hb89); clear hb89)
            | ((with_reducible refine gate_store (t := 57) (p := 12) rfl ?_); refine wpList_storeRow (T := 57) (A := .agg (u8s D)) rfl rfl rfl rfl rfl (storeAt8 (v' := D) (heap_alloc_last w89 (blk8 (zeros 32) 57)) rfl HDl.out) ?_)
            | fail)
          have hB12 : Below u7.heap.size u7 ((w89.alloc (blk8 (zeros 32) 57)).setRow w89.heap.size (u8s D)) := (below_alloc HB89.out _).trans ((But.setRow _ _).below (B := u7.heap.size) HB89.out.size (by rw [sz1 rfl]; have := HB89.out.size; omega))
          have hk12 : ((w89.alloc (blk8 (zeros 32) 57)).setRow w89.heap.size (u8s D)).heap[w89.heap.size]? = some (blk8 D 57) := setRow_heap _ _ _ _ _ _ (heap_alloc_last w89 (blk8 (zeros 32) 57))
          rename_i KK hKK
          replace hKK := Aside0.mk hKK
          change Code.wp _ _ _ _ ((w89.alloc (blk8 (zeros 32) 57)).setRow w89.heap.size (u8s D))
          obtain ⟨W12, hW12⟩ : ∃ z, z = (w89.alloc (blk8 (zeros 32) 57)).setRow w89.heap.size (u8s D) := ⟨_, rfl⟩
          rw [← hW12] at hB12 hk12 ⊢
          generalize w89.heap.size = g12 at hk12 ⊢
          have HB12 : Aside0 (Below u7.heap.size u7 W12.drew ∧ W12.drew.heap[g12]? = some (blk8 D 57)) := ⟨⟨hB12.drew, hk12⟩⟩
          clear hW12 hB12 hk12 HB89
          have hcv := fun (w' : World) (h : w'.heap[g12]? = some (blk8 D 57)) => string_of_reads (P := Try.prog) (src := 77) (dst := 9) (c := 32) Try.underlying77 Try.underlying5 Try.underlying9 (reads_blk8 h HDl.out)
          have hsm := HSUM.out
          have hbd := HB12.out
          refine start_ (n := 15) (S := fun w' => w'.heap[g12]? = some (blk8 D 57)) (ds := []) #[false, false, false, false, false, false, false, false, false, false, false, false, false, false, false] (by kernel_rfl) rfl rfl HB12.out.2 (fun hHeld => ?_); refine with_tabW hhds.tab hhds.bits (fun HT_ HW_ => ?_)
          generalize W12.drew = W13 at hbd hHeld ⊢
          refine pure_ (i := 0) (N := (some 90)) (v := ?_) (a' := ?_) #[true, false, false, false, false, false, false, false, false, false, false, false, false, false, false] rfl rfl (any_of HT_.out (by kernel_rfl)) (fun _ _ _ h => h) (Or.inl ⟨by rfl, ?_⟩) ?_ ?_
          rotate_left
          · intro w'
            go_simp
            with_reducible rfl
          rotate_left
          · simp only [Act.put, List.setIfInBounds_toArray, List.set_cons_zero, List.set_cons_succ, i64_w, i32_w]
            rfl
          refine pure_ (i := 1) (N := (some 91)) (v := ?_) (a' := ?_) #[true, true, false, false, false, false, false, false, false, false, false, false, false, false, false] rfl rfl (any_of HT_.out (by kernel_rfl)) (fun _ _ _ h => h) (Or.inl ⟨by rfl, ?_⟩) ?_ ?_
          rotate_left
          · intro w'
            go_simp
            with_reducible rfl
          rotate_left
          · simp only [Act.put, List.setIfInBounds_toArray, List.set_cons_zero, List.set_cons_succ, i64_w, i32_w]
            rfl
          refine pure_ (i := 2) (N := (some 92)) (v := ?_) (a' := ?_) #[true, true, true, false, false, false, false, false, false, false, false, false, false, false, false] rfl rfl (any_of HT_.out (by kernel_rfl)) (fun _ _ _ h => h) (Or.inl ⟨by rfl, ?_⟩) ?_ ?_
          rotate_left
          · intro w'
            go_simp
            with_reducible rfl
          rotate_left
          · simp only [Act.put, List.setIfInBounds_toArray, List.set_cons_zero, List.set_cons_succ, i64_w, i32_w]
            rfl
          refine take_ (i := 3) (N := (some 93)) (v := ?_) (a' := ?_) #[true, true, true, true, false, false, false, false, false, false, false, false, false, false, false] rfl rfl (take_ofW HT_.out HW_.out (by kernel_rfl)) (fun _ _ _ h => h) (Or.inl ⟨by rfl, ?_⟩) hHeld ?_ ?_
          rotate_left
          · rintro w' s1; have hc1_ := hcv w' s1
            go_simp
            with_reducible rfl
          rotate_left
          · simp only [Act.put, List.setIfInBounds_toArray, List.set_cons_zero, List.set_cons_succ, i64_w, i32_w]
            rfl
          refine pure_ (i := 4) (N := (some 94)) (v := ?_) (a' := ?_) #[true, true, true, true, true, false, false, false, false, false, false, false, false, false, false] rfl rfl (any_of HT_.out (by kernel_rfl)) (fun _ _ _ h => h) (Or.inl ⟨by rfl, ?_⟩) ?_ ?_
          rotate_left
          · intro w'
            go_simp
            with_reducible rfl
          rotate_left
          · simp only [Act.put, List.setIfInBounds_toArray, List.set_cons_zero, List.set_cons_succ, i64_w, i32_w]
            rfl
          refine pure_ (i := 5) (N := (some 95)) (v := ?_) (a' := ?_) #[true, true, true, true, true, true, false, false, false, false, false, false, false, false, false] rfl rfl (any_of HT_.out (by kernel_rfl)) (fun _ _ _ h => h) (Or.inl ⟨by rfl, ?_⟩) ?_ ?_
          rotate_left
          · intro w'
            go_simp
            with_reducible rfl
          rotate_left
          · simp only [Act.put, List.setIfInBounds_toArray, List.set_cons_zero, List.set_cons_succ, i64_w, i32_w]
            rfl
          refine pure_ (i := 6) (N := (some 96)) (v := ?_) (a' := ?_) #[true, true, true, true, true, true, true, false, false, false, false, false, false, false, false] rfl rfl (any_of HT_.out (by kernel_rfl)) (fun _ _ _ h => h) (Or.inl ⟨by rfl, ?_⟩) ?_ ?_
          rotate_left
          · intro w'
            go_simp
            with_reducible rfl
          rotate_left
          · simp only [Act.put, List.setIfInBounds_toArray, List.set_cons_zero, List.set_cons_succ, i64_w, i32_w]
            rfl
          refine pure_ (i := 7) (N := (some 97)) (v := ?_) (a' := ?_) #[true, true, true, true, true, true, true, true, false, false, false, false, false, false, false] rfl rfl (any_of HT_.out (by kernel_rfl)) (fun _ _ _ h => h) (Or.inl ⟨by rfl, ?_⟩) ?_ ?_
          rotate_left
          · intro w'
            go_simp
            with_reducible rfl
          rotate_left
          · simp only [Act.put, List.setIfInBounds_toArray, List.set_cons_zero, List.set_cons_succ, i64_w, i32_w]
            rfl
          refine one_ (i := 8) (N := (some 98)) #[true, true, true, true, true, true, true, true, true, false, false, false, false, false, false] rfl rfl (one_of HT_.out (by kernel_rfl)) (by decide) (fun K hK => ?_)
          refine goes_ Try.func61 (by kernel_rfl) rfl #[.slice A1 l.length c1] (by rfl) rfl rfl (by (try simp only [List.map_toArray, List.map_cons, List.map_nil]); first | done | rfl) ?_
          refine (hibernacleref16_Head.calls A1 c1 l H W13 (Kd.C_below HL.out (below_step HC7.out hbd.1)) hc1 HRH.out).mono ?_
          rintro e_ V1 ⟨rfl, hd1⟩
          refine ⟨_, rfl, ?_⟩
          refine hK.out _ _ (blk_below hbd.2 hd1) (fun hHeld => ?_)
          clear hK K
          refine norm_ (a' := ?_) ?_ ?_
          rotate_left
          · show Act.put _ (some 98) _ = _
            simp only [Act.put, List.setIfInBounds_toArray, List.set_cons_zero, List.set_cons_succ, i64_w, i32_w]
            rfl
          refine pure_ (i := 9) (N := (some 99)) (v := ?_) (a' := ?_) #[true, true, true, true, true, true, true, true, true, true, false, false, false, false, false] rfl rfl (any_of HT_.out (by kernel_rfl)) (fun _ _ _ h => h) (Or.inl ⟨by rfl, ?_⟩) ?_ ?_
          rotate_left
          · intro w'
            go_simp
            with_reducible rfl
          rotate_left
          · simp only [Act.put, List.setIfInBounds_toArray, List.set_cons_zero, List.set_cons_succ, i64_w, i32_w]
            rfl
          refine pure_ (i := 10) (N := (some 100)) (v := ?_) (a' := ?_) #[true, true, true, true, true, true, true, true, true, true, true, false, false, false, false] rfl rfl (any_of HT_.out (by kernel_rfl)) (fun _ _ _ h => h) (Or.inl ⟨by rfl, ?_⟩) ?_ ?_
          rotate_left
          · intro w'
            go_simp
            with_reducible rfl
          rotate_left
          · simp only [Act.put, List.setIfInBounds_toArray, List.set_cons_zero, List.set_cons_succ, i64_w, i32_w]
            rfl
          refine pure_ (i := 11) (N := (some 101)) (v := ?_) (a' := ?_) #[true, true, true, true, true, true, true, true, true, true, true, true, false, false, false] rfl rfl (any_of HT_.out (by kernel_rfl)) (fun _ _ _ h => h) (Or.inl ⟨by rfl, ?_⟩) ?_ ?_
          rotate_left
          · intro w'
            go_simp
            with_reducible rfl
          rotate_left
          · simp only [Act.put, List.setIfInBounds_toArray, List.set_cons_zero, List.set_cons_succ, i64_w, i32_w]
            rfl
          refine one_ (i := 12) (N := (some 102)) #[true, true, true, true, true, true, true, true, true, true, true, true, true, false, false] rfl rfl (one_of HT_.out (by kernel_rfl)) (by decide) (fun K hK => ?_)
          refine goes_ Try.func21 (by kernel_rfl) rfl #[] (by rfl) rfl rfl (by (try simp only [List.map_toArray, List.map_cons, List.map_nil]); first | done | rfl) ?_
          refine (hibernaclelaw16_awake.calls true V1 rfl).mono ?_
          rintro e_ V2 ⟨rfl, hd2⟩
          refine ⟨_, rfl, ?_⟩
          refine hK.out _ _ (blk_below (blk_below hbd.2 hd1) hd2) (fun hHeld => ?_)
          clear hK K
          refine norm_ (a' := ?_) ?_ ?_
          rotate_left
          · show Act.put _ (some 102) _ = _
            simp only [Act.put, List.setIfInBounds_toArray, List.set_cons_zero, List.set_cons_succ, i64_w, i32_w]
            rfl
          refine pure_ (i := 13) (N := (some 103)) (v := ?_) (a' := ?_) #[true, true, true, true, true, true, true, true, true, true, true, true, true, true, false] rfl rfl (any_of HT_.out (by kernel_rfl)) (fun _ _ _ h => h) (Or.inl ⟨by rfl, ?_⟩) ?_ ?_
          rotate_left
          · intro w'
            go_simp
            with_reducible rfl
          rotate_left
          · simp only [Act.put, List.setIfInBounds_toArray, List.set_cons_zero, List.set_cons_succ, i64_w, i32_w]
            rfl
          refine pure_ (i := 14) (N := (some 4)) (v := ?_) (a' := ?_) #[true, true, true, true, true, true, true, true, true, true, true, true, true, true, true] rfl rfl (any_of HT_.out (by kernel_rfl)) (fun _ _ _ h => h) (Or.inl ⟨by rfl, ?_⟩) ?_ ?_
          rotate_left
          · intro w'
            go_simp
            with_reducible rfl
          rotate_left
          · simp only [Act.put, List.setIfInBounds_toArray, List.set_cons_zero, List.set_cons_succ, i64_w, i32_w]
            rfl
          refine done_ (done_of HT_.out (by kernel_rfl)) ?_
          refine hKK.out _ _ ?_
          clear hKK KK
          go_wp2
          go_ret
          exact ⟨by simp, below_step (below_step (below_step HC7.out hbd.1) hd1) hd2⟩
end Go.Proofs.Ytjfmnkmgnbbfgaa.A
