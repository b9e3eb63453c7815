/- DrivePlays, walked: whatever is put, flushed and crashed, the program's drive and the document's are alike. -/
import Derived.Test.YtjfmnkmgnbbfgaaD3
import Derived.Test.YtjfmnkmgnbbfgaaD1r
import Derived.Test.YtjfmnkmgnbbfgaaC2
import Derived.Test.YtjfmnkmgnbbfgaaXfixed
set_option linter.unusedVariables false
set_option linter.unusedSimpArgs false
namespace Go.Proofs.Ytjfmnkmgnbbfgaa.A
open Go.RowKit Go.Proofs.YtjfmnkmgnbbfgaaW.PrintWords Go.Proofs.YtjfmnkmgnbbfgaaW.PrintLast Go.Proofs.YtjfmnkmgnbbfgaaW.PrintMore
theorem alloc_last7 (W : World) (o : Obj) : (W.alloc o).heap[W.heap.size]? = some o := Array.getElem?_push_size
theorem rdT49N (l : List S49) (i : Nat) (h : i < l.length) : rd_T49 l (i : Int) = l[i] := by
  unfold rd_T49
  rw [Int.toNat_natCast, List.getD_eq_getElem?_getD, List.getElem?_eq_getElem h, Option.getD_some]
theorem putV_ok {b : List ByteArray} {p : List S27} {a i : Int} {s : ByteArray} (h : Valid b p) : (putV b p a i s).1.length ≤ 256 ∧ (putV b p a i s).2.1.length ≤ p.length + 1 ∧ ((putV b p a i s).2.2.2 = 0 → Valid (putV b p a i s).1 (putV b p a i s).2.1) := by
  unfold putV
  by_cases h1 : lookV b.length i s = 0
  · rw [if_pos h1]
    by_cases h2 : a = 0
    · rw [if_pos h2]; exact ⟨h.1, Nat.le_succ _, fun _ => h⟩
    · rw [if_neg h2]
      refine ⟨h.1, by simp, fun _ => ⟨h.1, h.2.1, fun x hx => ?_⟩⟩
      rcases List.mem_append.1 hx with hx | hx
      · exact h.2.2 x hx
      · obtain rfl := List.mem_singleton.1 hx
        exact h1
  · rw [if_neg h1]
    exact ⟨Nat.zero_le _, Nat.zero_le _, fun h2 => absurd h2 h1⟩
theorem flushV_ok {b : List ByteArray} {p : List S27} {a : Int} (h : Valid b p) : (flushV b p a).1.length ≤ 256 ∧ (flushV b p a).2.1.length ≤ p.length + 1 ∧ ((flushV b p a).2.2.2 = 0 → Valid (flushV b p a).1 (flushV b p a).2.1) := by
  unfold flushV
  by_cases h2 : a = 0
  · rw [if_pos h2]; exact ⟨h.1, Nat.le_succ _, fun _ => h⟩
  · rw [if_neg h2]
    obtain ⟨h1, h2, h3⟩ := land_whole p 0 b h
    exact ⟨by dsimp only; rw [h1]; exact h.1, Nat.zero_le _, fun _ => ⟨by dsimp only; rw [h1]; exact h.1, h2, by simp⟩⟩
theorem crashV_ok {b : List ByteArray} {p : List S27} {lp : List Int} (h : Valid b p) : (crashV b p lp).2.1.length ≤ p.length + 1 ∧ Valid (crashV b p lp).1 (crashV b p lp).2.1 := by
  unfold crashV
  obtain ⟨h1, h2⟩ := land_sizes (pickV lp) (pickV_is lp) p 0 b h
  exact ⟨Nat.zero_le _, by dsimp only; rw [h1]; exact h.1, h2, by simp⟩
def hdp9.T : Bool × List (List Nat × List Nat) := (true, [([], []), ([], []), ([], []), ([], []), ([2, 0, 0, 2, 3], [0, 2]), ([3, 1, 4, 0, 1, 2, 3, 4], [1, 3])])
def hdp9.B : List Nat := [0, 0, 0, 0, 13, 31]
theorem hdp9.tab : rtab .any (opsOf Try.f7 9) = hdp9.T := by kernel_rfl
theorem hdp9.bits : waitsOk hdp9.T.2 hdp9.B = true := by kernel_rfl
def hdp19.T : Bool × List (List Nat × List Nat) := (true, [([], []), ([], []), ([1], [1]), ([0, 2], [0, 2]), ([], []), ([], []), ([5], [5]), ([4, 6, 3], [4, 6]), ([3, 7, 0, 1, 2, 3], [3]), ([7, 8, 0, 1, 2, 3, 4, 5, 6, 7, 8], [7])])
def hdp19.B : List Nat := [0, 0, 2, 7, 0, 0, 32, 127, 255, 511]
theorem hdp19.tab : rtab .any (opsOf Try.f7 19) = hdp19.T := by kernel_rfl
theorem hdp19.bits : waitsOk hdp19.T.2 hdp19.B = true := by kernel_rfl
set_option maxHeartbeats 16000000 in
set_option maxRecDepth 100000 in
theorem plays_walk (A0 : Option Addr) (c0 : Nat) (b0 : List ByteArray) (A1 : Option Addr) (c1 : Nat) (p0 : List S27) (a0 : Int) (A2 : Option Addr) (c2 : Nat) (l : List S49) (ask : Int) (ok : Nat → Prop) (w : World)
    (hd : Dr w ok (.slice A0 b0.length c0) (.slice A1 p0.length c1) b0 p0) (hl : Kd.C k49 w A2 l.length l) (hc2 : l.length ≤ c2) :
    Calls Try.prog 7 #[.agg #[.slice A0 b0.length c0, .slice A1 p0.length c1, .int .i64 a0], .slice A2 l.length c2, .int .i64 ask] w fun e w' => e = .returned (.bool true) ∧ Below w.heap.size w w' := by
  have hu29 := Try.underlying29
  have hu27 := Try.underlying27
  have hu49 := Try.underlying49
  have HD := Aside0.mk hd
  have HL := Aside0.mk hl
  obtain ⟨v, ⟨K, hK⟩, hv⟩ := great_some b0 p0 a0
  have HGR := Aside0.mk (hK K (Nat.le_refl _))
  clear hd hl hK
  go_enter Try.func7, Try.ntmps7
  rcases hv with rfl | ⟨rfl, hb260, hp60, _, _⟩
  · go_wp2_with (first
      | ((with_reducible refine gate_dst (N := 3) rfl ?_); refine box_event ?hg (N := 3) ?hd (cs := #[.slice A0 b0.length c0, .slice A1 p0.length c1, .int .i64 a0]) (t := 29) ?hr ?_; (case hd => rfl); (case hg => rfl); (case hr => first | (go_simp; done) | (go_simp; rfl)); intro b3 hb3 w3 hx3 hl3; have j0 := (blk_cell hx3 0).trans rfl; have j1 := (blk_cell hx3 1).trans rfl; have j2 := (blk_cell hx3 2).trans rfl; have HX3 := Aside0.mk hx3; have HL3 := Aside0.mk hl3; have HB3 := Aside0.mk hb3; clear hx3 hl3 hb3)
      | ((with_reducible refine gate_dst (N := 19) rfl ?_); refine goesL_ (some 19) rfl rfl Try.func30 (by kernel_rfl) rfl #[.agg #[.slice A0 b0.length c0, .slice A1 p0.length c1, .int .i64 a0]] rfl (by (try simp only [List.map_toArray, List.map_cons, List.map_nil]); first | done | rfl) ?_; refine (hibernaclelaw15_Great.calls K A0 c0 b0 A1 c1 p0 a0 1 w3 (Kd.V_reads' (HD.out.below HL3.out).1).2.2 (Kd.V_reads' (HD.out.below HL3.out).1).2.1 (Kd.V_reads' (HD.out.below HL3.out).2).2.2 (Kd.V_reads' (HD.out.below HL3.out).2).2.1 HGR.out).mono ?_; rintro e w19 ⟨rfl, hb⟩; refine ⟨_, rfl, ?_⟩; have HB19 := Aside0.mk hb; clear j0 j1 j2; have j0 := (blk_cell (blk_below HX3.out hb) 0).trans rfl; have j1 := (blk_cell (blk_below HX3.out hb) 1).trans rfl; have j2 := (blk_cell (blk_below HX3.out hb) 2).trans rfl; clear hb)
      | ((with_reducible refine gate_dst (N := 31) rfl ?_); refine goesL_ (some 31) rfl rfl Try.func31 (by kernel_rfl) rfl #[] rfl (by (try simp only [List.map_toArray, List.map_cons, List.map_nil]); first | done | rfl) ?_; refine (hibernaclelaw15_fixed.calls true _ rfl).mono ?_; rintro e wz ⟨rfl, hbz⟩; refine ⟨_, rfl, ?_⟩; have HBZ := Aside0.mk (below_step (below_step HL3.out HB19.out) hbz); clear hbz)
      | fail)
    go_ret
    exact ⟨rfl, HBZ.out⟩
  · go_wp2_with (first
      | ((with_reducible refine gate_dst (N := 3) rfl ?_); refine box_event ?hg (N := 3) ?hd (cs := #[.slice A0 b0.length c0, .slice A1 p0.length c1, .int .i64 a0]) (t := 29) ?hr ?_; (case hd => rfl); (case hg => rfl); (case hr => first | (go_simp; done) | (go_simp; rfl)); intro b3 hb3 w3 hx3 hl3; have j0 := (blk_cell hx3 0).trans rfl; have j1 := (blk_cell hx3 1).trans rfl; have j2 := (blk_cell hx3 2).trans rfl; have HX3 := Aside0.mk hx3; have HL3 := Aside0.mk hl3; have HB3 := Aside0.mk hb3; clear hx3 hl3 hb3)
      | ((with_reducible refine gate_dst (N := 19) rfl ?_); refine goesL_ (some 19) rfl rfl Try.func30 (by kernel_rfl) rfl #[.agg #[.slice A0 b0.length c0, .slice A1 p0.length c1, .int .i64 a0]] rfl (by (try simp only [List.map_toArray, List.map_cons, List.map_nil]); first | done | rfl) ?_; refine (hibernaclelaw15_Great.calls K A0 c0 b0 A1 c1 p0 a0 0 w3 (Kd.V_reads' (HD.out.below HL3.out).1).2.2 (Kd.V_reads' (HD.out.below HL3.out).1).2.1 (Kd.V_reads' (HD.out.below HL3.out).2).2.2 (Kd.V_reads' (HD.out.below HL3.out).2).2.1 HGR.out).mono ?_; rintro e w19 ⟨rfl, hb⟩; refine ⟨_, rfl, ?_⟩; have HB19 := Aside0.mk hb; clear j0 j1 j2; have j0 := (blk_cell (blk_below HX3.out hb) 0).trans rfl; have j1 := (blk_cell (blk_below HX3.out hb) 1).trans rfl; have j2 := (blk_cell (blk_below HX3.out hb) 2).trans rfl; clear hb)
      | fail)
    have hD19 := (HD.out.below HL3.out).below HB19.out
    refine (hibernacleref15_Check.calls 2000 A0 c0 b0 A1 c1 p0 a0 (checkV b0 p0) w19 (Kd.V_reads' hD19.1).2.2 (Kd.V_reads' hD19.1).2.1 (Kd.V_reads' hD19.2).2.2 (Kd.V_reads' hD19.2).2.1 (rcheck_many b0 p0 a0 (by omega) 2000 (by omega))).mono ?_
    rintro e w23 ⟨rfl, hb23⟩
    have HX23 := Aside0.mk (blk_below (blk_below HX3.out HB19.out) hb23)
    have HB23 := Aside0.mk (below_step (below_step HL3.out HB19.out) hb23)
    clear hD19 hb23 j0 j1 j2
    by_cases hck : checkV b0 p0 = 0
    · have hcb : (checkV b0 p0 != 0) = false := bne_eq_false_iff_eq.mpr hck
      have hval := check_valid b0 p0 hck
      have HVAL := Aside0.mk hval
      clear hval
      by_cases h30 : 30 < l.length
      · have h30c : ((30 : Int) < (l.length : Int)) = True := eq_true (by omega)
        go_wp2_with (first
          | ((with_reducible refine gate_dst (N := 31) rfl ?_); refine goesL_ (some 31) rfl rfl Try.func31 (by kernel_rfl) rfl #[] rfl (by (try simp only [List.map_toArray, List.map_cons, List.map_nil]); first | done | rfl) ?_; refine (hibernaclelaw15_fixed.calls true _ rfl).mono ?_; rintro e wz ⟨rfl, hbz⟩; refine ⟨_, rfl, ?_⟩; have HBZ := Aside0.mk (below_step HB23.out hbz); clear hbz)
          | fail)
        go_ret
        exact ⟨rfl, HBZ.out⟩
      · have h30c : ((30 : Int) < (l.length : Int)) = False := eq_false (by omega)
        have j0 := (blk_cell HX23.out 0).trans rfl
        have j1 := (blk_cell HX23.out 1).trans rfl
        have j2 := (blk_cell HX23.out 2).trans rfl
        go_wp2_with (first
          | ((with_reducible refine gate_dst (N := 7) rfl ?_); refine box_event ?hg (N := 7) ?hd (cs := #[.slice none 0 0, .slice none 0 0, .int .i64 0]) (t := 29) ?hr ?_; (case hd => rfl); (case hg => rfl); (case hr => first | (go_simp; done) | (go_simp; rfl)); intro b7 hbb7 w7 hxb7 hlb7; have m0 := (blk_cell hxb7 0).trans rfl; have m1 := (blk_cell hxb7 1).trans rfl; have m2 := (blk_cell hxb7 2).trans rfl; have f0 := blk_frozen hxb7 0; have f1 := blk_frozen hxb7 1; have f2 := blk_frozen hxb7 2; have HXb7 := Aside0.mk hxb7; have HLb7 := Aside0.mk hlb7; have HBb7 := Aside0.mk hbb7; clear hxb7 hlb7 hbb7)
          | ((with_reducible refine gate_store (t := 29) (p := 7) rfl ?_); refine store_event (t := 29) (p := 7) (v := ?vo_1) (w1 := ?wn_1) ?hg ?ho ?hn ?hr ?_; (case ho => rfl); (case hg => rfl); (case hn => rfl); (case hr => first | (go_simp; done) | (go_simp; rfl)); intro u7 hw; have hX : Aside0 (u7.heap[b7]? = some (.cells #[.slice A0 b0.length c0, .slice A1 p0.length c1, .int .i64 a0] 29 (0, 0))) := ⟨by rw [hw]; exact blk_put (blk_put (blk_put HXb7.out 0 _ rfl) 1 _ rfl) 2 _ rfl⟩; have hlb := HBb7.out; have g7 : w.heap.size ≤ b7 := (by rw [hlb]; exact HB23.out.size); have HU7B : Aside0 (Below w.heap.size w u7) := ⟨by rw [hw]; exact below_set3 (below_step HB23.out HLb7.out) g7 _ _ _⟩; have HU7 := hX; clear hX hw hlb m0 m1 m2 f0 f1 f2 j0 j1 j2)
          | fail)
        have hDu7 := (HD.out.bound.below HU7B.out).mono (ok' := fun k => k ≠ b7) (fun k hk => by have h_ := hk.2; omega)
        have HDU7 := Aside0.mk hDu7
        clear hDu7
        go_loopw [35] (fun i wr => ∃ (j : Nat) (b : List ByteArray) (p : List S27) (x : Int) (B0 : Option Addr) (e0 : Nat) (B1 : Option Addr) (e1 : Nat), j ≤ l.length ∧ i = .int .i64 (j : Int) ∧ Aside0 (Valid b p) ∧ Aside0 (p.length ≤ 60 + j) ∧ Aside0 (wr.heap[b7]? = some (.cells #[.slice B0 b.length e0, .slice B1 p.length e1, .int .i64 x] 29 (0, 0))) ∧ Aside0 (Dr wr (fun k => k ≠ b7) (.slice B0 b.length e0) (.slice B1 p.length e1) b p) ∧ Aside0 (Below w.heap.size w wr)) (fun i _ => l.length - (intOf i).toNat)
        case atStart => exact ⟨0, b0, p0, a0, A0, c0, A1, c1, Nat.zero_le _, rfl, HVAL, ⟨by omega⟩, HU7, HDU7, HU7B⟩
        case round =>
          clear HU7 HDU7 HU7B HVAL
          obtain ⟨j, b, p, x, B0, e0, B1, e1, hj, rfl, HV, HP, HX7, HDx, HB⟩ := hrel
          by_cases hlt : j < l.length
          · have hjl : (j : Int) < l.length := by omega
            have hjr : (j : Int) ≤ 140737488355328 := by omega
            obtain ⟨ad, A3, c3, rfl, q0, q1, q2, q3, hc3, hC3⟩ := at_T49 (Kd.C_below HL.out HB.out) (j : Int) (by omega) (by omega)
            rw [rdT49N l j hlt] at q0 q1 q2 q3 hc3 hC3
            obtain ⟨y, hy⟩ : ∃ z, z = l[j] := ⟨_, rfl⟩
            rw [← hy] at q0 q1 q2 q3 hc3 hC3
            simp only [Int.toNat_natCast] at q0 q1 q2 q3
            have HC3 := Aside0.mk hC3
            clear hC3 hy
            by_cases hd1 : 1000 < y.f2.size
            · have hd1c : ((1000 : Int) < (y.f2.size : Int)) = True := eq_true (by omega)
              go_wp2_with (first
                | ((with_reducible refine gate_dst (N := 9) rfl ?_); refine box_event ?hg (N := 9) ?hd (cs := #[.int .i64 0, .int .i64 0, .string ⟨#[]⟩, .slice none 0 0]) (t := 49) ?hr ?_; (case hd => rfl); (case hg => rfl); (case hr => first | (go_simp; done) | (go_simp; rfl)); intro b9 hb9 w9 hx9 hl9; have m0 := (blk_cell hx9 0).trans rfl; have m1 := (blk_cell hx9 1).trans rfl; have m2 := (blk_cell hx9 2).trans rfl; have m3 := (blk_cell hx9 3).trans rfl; have f0 := blk_frozen hx9 0; have f1 := blk_frozen hx9 1; have f2 := blk_frozen hx9 2; have f3 := blk_frozen hx9 3; have HX9 := Aside0.mk hx9; have HL9 := Aside0.mk hl9; have HB9 := Aside0.mk hb9; clear hx9 hl9 hb9)
                | ((with_reducible refine gate_store (t := 49) (p := 9) rfl ?_); refine store_event (t := 49) (p := 9) (v := ?vo_2) (w1 := ?wn_2) ?hg ?ho ?hn ?hr ?_; (case ho => rfl); (case hg => rfl); (case hn => rfl); (case hr => first | (go_simp; done) | (go_simp; rfl)); intro u9 hw; have hX : Aside0 (u9.heap[b9]? = some (.cells #[.int .i64 y.f0, .int .i64 y.f1, .string y.f2, .slice A3 y.f3.length c3] 49 (0, 0))) := ⟨by rw [hw]; exact blk_put (blk_put (blk_put (blk_put HX9.out 0 _ rfl) 1 _ rfl) 2 _ rfl) 3 _ rfl⟩; have g9 : wr.heap.size ≤ b9 := Nat.le_of_eq HB9.out.symm; have HC9 : Aside0 (Below wr.heap.size wr u9) := ⟨by rw [hw]; exact ((below_set3 HL9.out g9 _ _ _).setCell (p := ⟨b9, 3, none⟩) g9 _)⟩; have HU9 := hX; clear hX hw m0 m1 m2 m3 f0 f1 f2 f3 q0 q1 q2 q3; have m0 := (blk_cell HU9.out 0).trans rfl; have m1 := (blk_cell HU9.out 1).trans rfl; have m2 := (blk_cell HU9.out 2).trans rfl; have m3 := (blk_cell HU9.out 3).trans rfl)
                | ((with_reducible refine gate_dst (N := 49) rfl ?_); refine goesL_ (some 49) rfl rfl Try.func31 (by kernel_rfl) rfl #[] rfl (by (try simp only [List.map_toArray, List.map_cons, List.map_nil]); first | done | rfl) ?_; refine (hibernaclelaw15_fixed.calls true _ rfl).mono ?_; rintro e wz ⟨rfl, hbz⟩; refine ⟨_, rfl, ?_⟩; have HBZ := Aside0.mk (below_step (below_step HB.out HC9.out) hbz); clear hbz)
                | fail)
              go_ret
              exact ⟨rfl, HBZ.out⟩
            · have hd1c : ((1000 : Int) < (y.f2.size : Int)) = False := eq_false (by omega)
              by_cases hd2 : 100 < y.f3.length
              · have hd2c : ((100 : Int) < (y.f3.length : Int)) = True := eq_true (by omega)
                go_wp2_with (first
                  | ((with_reducible refine gate_dst (N := 9) rfl ?_); refine box_event ?hg (N := 9) ?hd (cs := #[.int .i64 0, .int .i64 0, .string ⟨#[]⟩, .slice none 0 0]) (t := 49) ?hr ?_; (case hd => rfl); (case hg => rfl); (case hr => first | (go_simp; done) | (go_simp; rfl)); intro b9 hb9 w9 hx9 hl9; have m0 := (blk_cell hx9 0).trans rfl; have m1 := (blk_cell hx9 1).trans rfl; have m2 := (blk_cell hx9 2).trans rfl; have m3 := (blk_cell hx9 3).trans rfl; have f0 := blk_frozen hx9 0; have f1 := blk_frozen hx9 1; have f2 := blk_frozen hx9 2; have f3 := blk_frozen hx9 3; have HX9 := Aside0.mk hx9; have HL9 := Aside0.mk hl9; have HB9 := Aside0.mk hb9; clear hx9 hl9 hb9)
                  | ((with_reducible refine gate_store (t := 49) (p := 9) rfl ?_); refine store_event (t := 49) (p := 9) (v := ?vo_3) (w1 := ?wn_3) ?hg ?ho ?hn ?hr ?_; (case ho => rfl); (case hg => rfl); (case hn => rfl); (case hr => first | (go_simp; done) | (go_simp; rfl)); intro u9 hw; have hX : Aside0 (u9.heap[b9]? = some (.cells #[.int .i64 y.f0, .int .i64 y.f1, .string y.f2, .slice A3 y.f3.length c3] 49 (0, 0))) := ⟨by rw [hw]; exact blk_put (blk_put (blk_put (blk_put HX9.out 0 _ rfl) 1 _ rfl) 2 _ rfl) 3 _ rfl⟩; have g9 : wr.heap.size ≤ b9 := Nat.le_of_eq HB9.out.symm; have HC9 : Aside0 (Below wr.heap.size wr u9) := ⟨by rw [hw]; exact ((below_set3 HL9.out g9 _ _ _).setCell (p := ⟨b9, 3, none⟩) g9 _)⟩; have HU9 := hX; clear hX hw m0 m1 m2 m3 f0 f1 f2 f3 q0 q1 q2 q3; have m0 := (blk_cell HU9.out 0).trans rfl; have m1 := (blk_cell HU9.out 1).trans rfl; have m2 := (blk_cell HU9.out 2).trans rfl; have m3 := (blk_cell HU9.out 3).trans rfl)
                  | ((with_reducible refine gate_dst (N := 49) rfl ?_); refine goesL_ (some 49) rfl rfl Try.func31 (by kernel_rfl) rfl #[] rfl (by (try simp only [List.map_toArray, List.map_cons, List.map_nil]); first | done | rfl) ?_; refine (hibernaclelaw15_fixed.calls true _ rfl).mono ?_; rintro e wz ⟨rfl, hbz⟩; refine ⟨_, rfl, ?_⟩; have HBZ := Aside0.mk (below_step (below_step HB.out HC9.out) hbz); clear hbz)
                  | fail)
                go_ret
                exact ⟨rfl, HBZ.out⟩
              · have hd2c : ((100 : Int) < (y.f3.length : Int)) = False := eq_false (by omega)
                go_wp2_with (first
                  | ((with_reducible refine gate_dst (N := 9) rfl ?_); refine box_event ?hg (N := 9) ?hd (cs := #[.int .i64 0, .int .i64 0, .string ⟨#[]⟩, .slice none 0 0]) (t := 49) ?hr ?_; (case hd => rfl); (case hg => rfl); (case hr => first | (go_simp; done) | (go_simp; rfl)); intro b9 hb9 w9 hx9 hl9; have m0 := (blk_cell hx9 0).trans rfl; have m1 := (blk_cell hx9 1).trans rfl; have m2 := (blk_cell hx9 2).trans rfl; have m3 := (blk_cell hx9 3).trans rfl; have f0 := blk_frozen hx9 0; have f1 := blk_frozen hx9 1; have f2 := blk_frozen hx9 2; have f3 := blk_frozen hx9 3; have HX9 := Aside0.mk hx9; have HL9 := Aside0.mk hl9; have HB9 := Aside0.mk hb9; clear hx9 hl9 hb9)
                  | ((with_reducible refine gate_store (t := 49) (p := 9) rfl ?_); refine store_event (t := 49) (p := 9) (v := ?vo_4) (w1 := ?wn_4) ?hg ?ho ?hn ?hr ?_; (case ho => rfl); (case hg => rfl); (case hn => rfl); (case hr => first | (go_simp; done) | (go_simp; rfl)); intro u9 hw; have hX : Aside0 (u9.heap[b9]? = some (.cells #[.int .i64 y.f0, .int .i64 y.f1, .string y.f2, .slice A3 y.f3.length c3] 49 (0, 0))) := ⟨by rw [hw]; exact blk_put (blk_put (blk_put (blk_put HX9.out 0 _ rfl) 1 _ rfl) 2 _ rfl) 3 _ rfl⟩; have g9 : wr.heap.size ≤ b9 := Nat.le_of_eq HB9.out.symm; have HC9 : Aside0 (Below wr.heap.size wr u9) := ⟨by rw [hw]; exact ((below_set3 HL9.out g9 _ _ _).setCell (p := ⟨b9, 3, none⟩) g9 _)⟩; have HU9 := hX; clear hX hw m0 m1 m2 m3 f0 f1 f2 f3 q0 q1 q2 q3; have m0 := (blk_cell HU9.out 0).trans rfl; have m1 := (blk_cell HU9.out 1).trans rfl; have m2 := (blk_cell HU9.out 2).trans rfl; have m3 := (blk_cell HU9.out 3).trans rfl)
                  | fail)
                rename_i KK hKK
                replace hKK := Aside0.mk hKK
                have hS : u9.drew.heap[b7]? = some (.cells #[.slice B0 b.length e0, .slice B1 p.length e1, .int .i64 x] 29 (0, 0)) := blk_below HX7.out HC9.out.drew
                have hC9 : Below wr.heap.size wr u9.drew := HC9.out.drew
                have h9 : u9.drew.heap[b9]? = some (.cells #[.int .i64 y.f0, .int .i64 y.f1, .string y.f2, .slice A3 y.f3.length c3] 49 (0, 0)) := HU9.out
                clear m0 m1 m2 m3
                refine start_ (n := 6) (S := fun w' => w'.heap[b7]? = some (.cells #[.slice B0 b.length e0, .slice B1 p.length e1, .int .i64 x] 29 (0, 0))) (ds := []) #[false, false, false, false, false, false] (by kernel_rfl) rfl rfl hS (fun hHeld => ?_); refine with_tabW hdp9.tab hdp9.bits (fun HT_ HW_ => ?_)
                generalize u9.drew = W9 at hS hC9 h9 hHeld ⊢
                refine take_ (i := 0) (N := (some 50)) (v := ?_) (a' := ?_) #[true, false, false, false, false, false] rfl rfl (take_ofW HT_.out HW_.out (by kernel_rfl)) (fun _ _ _ h => h) (Or.inl ⟨by rfl, ?_⟩) hHeld ?_ ?_
                rotate_left
                · rintro w' s1; have t0 := (blk_cell s1 0).trans rfl; have t1 := (blk_cell s1 1).trans rfl; have t2 := (blk_cell s1 2).trans rfl
                  go_simp
                  with_reducible rfl
                rotate_left
                · simp only [Act.put, List.setIfInBounds_toArray, List.set_cons_zero, List.set_cons_succ, i64_w, i32_w]
                  rfl
                refine take_ (i := 1) (N := (some 51)) (v := ?_) (a' := ?_) #[true, true, false, false, false, false] rfl rfl (take_ofW HT_.out HW_.out (by kernel_rfl)) (fun _ _ _ h => h) (Or.inl ⟨by rfl, ?_⟩) hHeld ?_ ?_
                rotate_left
                · rintro w' s1; have t0 := (blk_cell s1 0).trans rfl; have t1 := (blk_cell s1 1).trans rfl; have t2 := (blk_cell s1 2).trans rfl
                  go_simp
                  with_reducible rfl
                rotate_left
                · simp only [Act.put, List.setIfInBounds_toArray, List.set_cons_zero, List.set_cons_succ, i64_w, i32_w]
                  rfl
                refine join_ (σ := Nat × Nat) 2 #[true, true, true, true, false, false] (fun s_ => [(10, .pointer (some ⟨s_.1, 0, none⟩)), (11, .pointer (some ⟨s_.2, 0, none⟩))]) (fun s_ w' => Below W9.heap.size W9 w' ∧ w'.heap[s_.1]? = some (.cells #[.slice none 0 0, .slice none 0 0, .int .i64 0] 29 (0, 0)) ∧ w'.heap[s_.2]? = some (.cells #[.slice none 0 0, .slice none 0 0, .int .i64 0] 29 (0, 0)) ∧ W9.heap.size ≤ s_.1 ∧ W9.heap.size ≤ s_.2 ∧ s_.1 ≠ s_.2) (fun s_ w' hF => ?_) (fun hcont => ?ord9)
                case ord9 =>
                  refine two_ (i := 2) (j := 3) (Ni := (some 10)) (Nj := (some 11)) #[true, true, true, false, false, false] #[true, true, false, true, false, false] rfl rfl rfl rfl (two_of HT_.out (by kernel_rfl)) (by decide) (by decide) (fun K hK => ?_) (fun K hK => ?_)
                  · refine value_ (w1 := W9.alloc (.cells #[.slice none 0 0, .slice none 0 0, .int .i64 0] 29 (0, 0))) (v := .pointer (some ⟨W9.heap.size, 0, none⟩)) (by rfl) rfl ?_ ?_
                    · first | (go_simp; done) | (go_simp; rfl)
                    refine hK.out _ _ (blk_alloc hS _) (fun hHeld => ?_)
                    clear hK K
                    refine norm_ (a' := ?_) ?_ ?_
                    rotate_left
                    · show Act.put _ (some 10) _ = _
                      simp only [Act.put, List.setIfInBounds_toArray, List.set_cons_zero, List.set_cons_succ, i64_w, i32_w]
                      rfl
                    refine one_ (i := 3) (N := (some 11)) #[true, true, true, true, false, false] rfl rfl (one_of HT_.out (by kernel_rfl)) (by decide) (fun K hK => ?_)
                    refine value_ (w1 := (W9.alloc (.cells #[.slice none 0 0, .slice none 0 0, .int .i64 0] 29 (0, 0))).alloc (.cells #[.slice none 0 0, .slice none 0 0, .int .i64 0] 29 (0, 0))) (v := .pointer (some ⟨(W9.alloc (.cells #[.slice none 0 0, .slice none 0 0, .int .i64 0] 29 (0, 0))).heap.size, 0, none⟩)) (by rfl) rfl ?_ ?_
                    · first | (go_simp; done) | (go_simp; rfl)
                    refine hK.out _ _ (blk_alloc (blk_alloc hS _) _) (fun hHeld => ?_)
                    clear hK K
                    refine norm_ (a' := ?_) ?_ ?_
                    rotate_left
                    · show Act.put _ (some 11) _ = _
                      simp only [Act.put, List.setIfInBounds_toArray, List.set_cons_zero, List.set_cons_succ, i64_w, i32_w]
                      rfl
                    have hcc := hcont (W9.heap.size, (W9.alloc (.cells #[.slice none 0 0, .slice none 0 0, .int .i64 0] 29 (0, 0))).heap.size) _ ⟨below_alloc (below_alloc (Below.refl _ _) _) _, blk_alloc (alloc_last7 W9 _) _, alloc_last7 (W9.alloc _) _, by simp, by simp, by simp⟩
                    simp only [putAll, Act.put, List.setIfInBounds_toArray, List.set_cons_zero, List.set_cons_succ] at hcc
                    exact hcc
                  · refine value_ (w1 := W9.alloc (.cells #[.slice none 0 0, .slice none 0 0, .int .i64 0] 29 (0, 0))) (v := .pointer (some ⟨W9.heap.size, 0, none⟩)) (by rfl) rfl ?_ ?_
                    · first | (go_simp; done) | (go_simp; rfl)
                    refine hK.out _ _ (blk_alloc hS _) (fun hHeld => ?_)
                    clear hK K
                    refine norm_ (a' := ?_) ?_ ?_
                    rotate_left
                    · show Act.put _ (some 11) _ = _
                      simp only [Act.put, List.setIfInBounds_toArray, List.set_cons_zero, List.set_cons_succ, i64_w, i32_w]
                      rfl
                    refine one_ (i := 2) (N := (some 10)) #[true, true, true, true, false, false] rfl rfl (one_of HT_.out (by kernel_rfl)) (by decide) (fun K hK => ?_)
                    refine value_ (w1 := (W9.alloc (.cells #[.slice none 0 0, .slice none 0 0, .int .i64 0] 29 (0, 0))).alloc (.cells #[.slice none 0 0, .slice none 0 0, .int .i64 0] 29 (0, 0))) (v := .pointer (some ⟨(W9.alloc (.cells #[.slice none 0 0, .slice none 0 0, .int .i64 0] 29 (0, 0))).heap.size, 0, none⟩)) (by rfl) rfl ?_ ?_
                    · first | (go_simp; done) | (go_simp; rfl)
                    refine hK.out _ _ (blk_alloc (blk_alloc hS _) _) (fun hHeld => ?_)
                    clear hK K
                    refine norm_ (a' := ?_) ?_ ?_
                    rotate_left
                    · show Act.put _ (some 10) _ = _
                      simp only [Act.put, List.setIfInBounds_toArray, List.set_cons_zero, List.set_cons_succ, i64_w, i32_w]
                      rfl
                    have hcc := hcont ((W9.alloc (.cells #[.slice none 0 0, .slice none 0 0, .int .i64 0] 29 (0, 0))).heap.size, W9.heap.size) _ ⟨below_alloc (below_alloc (Below.refl _ _) _) _, alloc_last7 (W9.alloc _) _, blk_alloc (alloc_last7 W9 _) _, by simp, by simp, by simp⟩
                    simp only [putAll, Act.put, List.setIfInBounds_toArray, List.set_cons_zero, List.set_cons_succ] at hcc
                    exact hcc
                obtain ⟨b10, b11⟩ := s_
                obtain ⟨hbF, hx10, hx11, g10, g11, n1011⟩ := hF
                dsimp only at hx10 hx11 g10 g11 n1011
                have n710 : b7 ≠ b10 := Nat.ne_of_lt (Nat.lt_of_lt_of_le (blk_lt hS) g10)
                have n711 : b7 ≠ b11 := Nat.ne_of_lt (Nat.lt_of_lt_of_le (blk_lt hS) g11)
                refine norm_ (a' := ?_) ?_ ?_
                rotate_left
                · simp only [putAll, Act.put, List.setIfInBounds_toArray, List.set_cons_zero, List.set_cons_succ]
                  rfl
                refine one_ (i := 4) (N := none) #[true, true, true, true, true, false] rfl rfl (one_of HT_.out (by kernel_rfl)) (by decide) (fun K hK => ?_)
                have m0 := (blk_cell hx10 0).trans rfl
                have m1 := (blk_cell hx10 1).trans rfl
                have m2 := (blk_cell hx10 2).trans rfl
                have f0 := blk_frozen hx10 0
                have f1 := blk_frozen hx10 1
                have f2 := blk_frozen hx10 2
                refine skip_ (w1 := (((w'.setCell ⟨b10, 0, none⟩ (.slice B0 b.length e0)).setCell ⟨b10, 1, none⟩ (.slice B1 p.length e1)).setCell ⟨b10, 2, none⟩ (.int .i64 x))) (by rfl) rfl ?_ ?_
                · first | (go_simp; done) | (go_simp; rfl)
                clear m0 m1 m2 f0 f1 f2
                refine hK.out _ _ (blk_far (blk_far (blk_far (blk_below hS hbF) n710 _) n710 _) n710 _) (fun hHeld => ?_)
                clear hK K
                obtain ⟨U1, hU1⟩ : ∃ z, z = (((w'.setCell ⟨b10, 0, none⟩ (.slice B0 b.length e0)).setCell ⟨b10, 1, none⟩ (.slice B1 p.length e1)).setCell ⟨b10, 2, none⟩ (.int .i64 x)) := ⟨_, rfl⟩
                have hu10 : U1.heap[b10]? = some (.cells #[.slice B0 b.length e0, .slice B1 p.length e1, .int .i64 x] 29 (0, 0)) := by rw [hU1]; exact blk_put (blk_put (blk_put hx10 0 _ rfl) 1 _ rfl) 2 _ rfl
                have hu11 : U1.heap[b11]? = some (.cells #[.slice none 0 0, .slice none 0 0, .int .i64 0] 29 (0, 0)) := by rw [hU1]; exact blk_far (blk_far (blk_far hx11 n1011.symm _) n1011.symm _) n1011.symm _
                have hbU1 : Below W9.heap.size W9 U1 := by rw [hU1]; exact below_set3 hbF g10 _ _ _
                rw [← hU1]
                clear hU1
                refine one_ (i := 5) (N := none) #[true, true, true, true, true, true] rfl rfl (one_of HT_.out (by kernel_rfl)) (by decide) (fun K hK => ?_)
                have m0 := (blk_cell hu11 0).trans rfl
                have m1 := (blk_cell hu11 1).trans rfl
                have m2 := (blk_cell hu11 2).trans rfl
                have f0 := blk_frozen hu11 0
                have f1 := blk_frozen hu11 1
                have f2 := blk_frozen hu11 2
                refine skip_ (w1 := (((U1.setCell ⟨b11, 0, none⟩ (.slice B0 b.length e0)).setCell ⟨b11, 1, none⟩ (.slice B1 p.length e1)).setCell ⟨b11, 2, none⟩ (.int .i64 x))) (by rfl) rfl ?_ ?_
                · first | (go_simp; done) | (go_simp; rfl)
                clear m0 m1 m2 f0 f1 f2
                refine hK.out _ _ (blk_far (blk_far (blk_far (blk_below hS hbU1) n711 _) n711 _) n711 _) (fun hHeld => ?_)
                clear hK K
                obtain ⟨U, hU⟩ : ∃ z, z = (((U1.setCell ⟨b11, 0, none⟩ (.slice B0 b.length e0)).setCell ⟨b11, 1, none⟩ (.slice B1 p.length e1)).setCell ⟨b11, 2, none⟩ (.int .i64 x)) := ⟨_, rfl⟩
                have hU10 : U.heap[b10]? = some (.cells #[.slice B0 b.length e0, .slice B1 p.length e1, .int .i64 x] 29 (0, 0)) := by rw [hU]; exact blk_far (blk_far (blk_far hu10 n1011 _) n1011 _) n1011 _
                have hU11 : U.heap[b11]? = some (.cells #[.slice B0 b.length e0, .slice B1 p.length e1, .int .i64 x] 29 (0, 0)) := by rw [hU]; exact blk_put (blk_put (blk_put hu11 0 _ rfl) 1 _ rfl) 2 _ rfl
                have hbU : Below W9.heap.size W9 U := by rw [hU]; exact below_set3 hbU1 g11 _ _ _
                rw [← hU]
                clear hU
                refine done_ (done_of HT_.out (by kernel_rfl)) ?_
                refine hKK.out _ _ ?_
                clear hKK KK
                have HCU := Aside0.mk hbU
                have HCW := Aside0.mk hC9
                have HS := Aside0.mk hS
                have H9 := Aside0.mk h9
                have HY10 := Aside0.mk hU10
                have HY11 := Aside0.mk hU11
                have HDW : Aside0 (Dr W9 (fun k => k < wr.heap.size ∧ k ≠ b7) (.slice B0 b.length e0) (.slice B1 p.length e1) b p) := ⟨(HDx.out.bound.below hC9).mono (fun k hk => ⟨hk.2, hk.1⟩)⟩
                have hpl := HP.out
                have n910 : b9 ≠ b10 := Nat.ne_of_lt (Nat.lt_of_lt_of_le (blk_lt h9) g10)
                have n911 : b9 ≠ b11 := Nat.ne_of_lt (Nat.lt_of_lt_of_le (blk_lt h9) g11)
                clear hbU hC9 hS h9 hU10 hU11
                by_cases hk0 : y.f0 = 0
                · have hkb0 : (y.f0 == 0) = true := beq_iff_eq.mpr hk0
                  obtain ⟨r_, hr⟩ : ∃ r, r = putV b p x y.f1 y.f2 := ⟨_, rfl⟩
                  obtain ⟨hl1, hl2, hl3⟩ := putV_ok (a := x) (i := y.f1) (s := y.f2) HV.out
                  rw [← hr] at hl1 hl2 hl3
                  obtain ⟨b', p', x', e'⟩ := r_
                  dsimp only at hl1 hl2 hl3
                  have HP1 : Aside0 (drive_Put.f 3 b p x y.f1 y.f2 = some (b', p', x', e')) := ⟨by rw [dput_many b p x y.f1 y.f2 HV.out.1 (by omega) 3 (by omega), hr]⟩
                  have HP2 : Aside0 (hibernacleref15_Put.f 3 b p x y.f1 y.f2 = some (b', p', x', e')) := ⟨by rw [rput_many b p x y.f1 y.f2 (by omega) 3 (by omega), hr]⟩
                  have HVN := Aside0.mk hl3
                  have HPN : Aside0 (p'.length ≤ 60 + (j + 1)) := ⟨by omega⟩
                  have hee : (e' != e') = false := bne_self_eq_false e'
                  clear hl3 hr
                  have j0 := (blk_cell (blk_below HS.out HCU.out) 0).trans rfl
                  have j1 := (blk_cell (blk_below HS.out HCU.out) 1).trans rfl
                  have j2 := (blk_cell (blk_below HS.out HCU.out) 2).trans rfl
                  have m0 := (blk_cell (blk_below H9.out HCU.out) 0).trans rfl
                  have m1 := (blk_cell (blk_below H9.out HCU.out) 1).trans rfl
                  have m2 := (blk_cell (blk_below H9.out HCU.out) 2).trans rfl
                  have m3 := (blk_cell (blk_below H9.out HCU.out) 3).trans rfl
                  have n0 := (blk_cell HY10.out 0).trans rfl
                  have n1 := (blk_cell HY10.out 1).trans rfl
                  have n2 := (blk_cell HY10.out 2).trans rfl
                  have f0 := blk_frozen HY10.out 0
                  have f1 := blk_frozen HY10.out 1
                  have f2 := blk_frozen HY10.out 2
                  go_wp2_with (first
                    | ((with_reducible refine gate_dst (N := 62) rfl ?_); refine goesL_ (some 62) rfl rfl Try.func38 (by kernel_rfl) rfl #[.agg #[.slice B0 b.length e0, .slice B1 p.length e1, .int .i64 x], .int .i64 y.f1, .string y.f2] rfl (by (try simp only [List.map_toArray, List.map_cons, List.map_nil]); first | done | rfl) ?_; refine (drive_Put.calls 3 B0 e0 b B1 e1 p x y.f1 y.f2 b' p' x' e' U (Kd.V_reads' (HDW.out.below HCU.out).1).2.2 (Kd.V_reads' (HDW.out.below HCU.out).1).2.1 (Kd.V_reads' (HDW.out.below HCU.out).2).2.2 (Kd.V_reads' (HDW.out.below HCU.out).2).2.1 HP1.out).mono ?_; rintro e w62 ⟨v0, v1, rfl, h0, h1, hb⟩; have hD := Dr.of_R h0 h1; obtain ⟨F0, r0, F1, r1, rfl, rfl⟩ := hD.slices; refine ⟨_, rfl, ?_⟩; have HD62 := Aside0.mk hD; have HB62 := Aside0.mk hb; clear h0 h1 hD n0 n1 n2 f0 f1 f2 j0 j1 j2 m0 m1 m2 m3; have n0 := (blk_cell (blk_below HY10.out hb) 0).trans rfl; have n1 := (blk_cell (blk_below HY10.out hb) 1).trans rfl; have n2 := (blk_cell (blk_below HY10.out hb) 2).trans rfl; have f0 := blk_frozen (blk_below HY10.out hb) 0; have f1 := blk_frozen (blk_below HY10.out hb) 1; have f2 := blk_frozen (blk_below HY10.out hb) 2; clear hb)
                    | ((with_reducible refine gate_store (t := 29) (p := 10) rfl ?_); refine store_event (t := 29) (p := 10) (v := ?vo_5) (w1 := ?wn_5) ?hg ?ho ?hn ?hr ?_; (case ho => rfl); (case hg => rfl); (case hn => rfl); (case hr => first | (go_simp; done) | (go_simp; rfl)); intro u10 hw; have hX : Aside0 (u10.heap[b10]? = some (.cells #[.slice F0 b'.length r0, .slice F1 p'.length r1, .int .i64 x'] 29 (0, 0))) := ⟨by rw [hw]; exact blk_put (blk_put (blk_put (blk_below HY10.out HB62.out) 0 _ rfl) 1 _ rfl) 2 _ rfl⟩; have hHC : Aside0 (Below W9.heap.size W9 u10) := ⟨by rw [hw]; exact below_set3 (below_step HCU.out HB62.out) g10 _ _ _⟩; have hD := (HD62.out.set3 (g := b10) (fun k hk => by have h2_ := blk_lt HY10.out; have h1_ := hk.1; omega) (.slice F0 b'.length r0) (.slice F1 p'.length r1) (.int .i64 x')); rw [← hw] at hD; have HD10a := Aside0.mk (hD.bound.mono (ok' := fun k => k < u10.heap.size ∧ k ≠ b11) (fun k hk => ⟨hk.2, by have h2_ := blk_lt HY11.out; have h1_ := hk.1.1; omega⟩)); have HY11a : Aside0 (u10.heap[b11]? = some (.cells #[.slice B0 b.length e0, .slice B1 p.length e1, .int .i64 x] 29 (0, 0))) := ⟨by rw [hw]; exact blk_far (blk_far (blk_far (blk_below HY11.out HB62.out) n1011.symm _) n1011.symm _) n1011.symm _⟩; have HY10a := hX; have HC10 := hHC; clear hX hHC hD hw n0 n1 n2 f0 f1 f2; have j0 := (blk_cell (blk_below HS.out HC10.out) 0).trans rfl; have j1 := (blk_cell (blk_below HS.out HC10.out) 1).trans rfl; have j2 := (blk_cell (blk_below HS.out HC10.out) 2).trans rfl; have m0 := (blk_cell (blk_below H9.out HC10.out) 0).trans rfl; have m1 := (blk_cell (blk_below H9.out HC10.out) 1).trans rfl; have m2 := (blk_cell (blk_below H9.out HC10.out) 2).trans rfl; have m3 := (blk_cell (blk_below H9.out HC10.out) 3).trans rfl)
                    | ((with_reducible refine gate_dst (N := 71) rfl ?_); refine goesL_ (some 71) rfl rfl Try.func39 (by kernel_rfl) rfl #[.agg #[.slice B0 b.length e0, .slice B1 p.length e1, .int .i64 x], .int .i64 y.f1, .string y.f2] rfl (by (try simp only [List.map_toArray, List.map_cons, List.map_nil]); first | done | rfl) ?_; refine (hibernacleref15_Put.calls 3 (fun k => k < wr.heap.size ∧ k ≠ b7) B0 e0 b (fun k => k < wr.heap.size ∧ k ≠ b7) B1 e1 p x y.f1 y.f2 b' p' x' e' u10 (HDW.out.below HC10.out).1 (HDW.out.below HC10.out).2 HP2.out).mono ?_; rintro e w71 ⟨v0, v1, rfl, h0, h1, hb⟩; have hD : Dr w71 (fun k_ => ((k_ < wr.heap.size ∧ k_ ≠ b7) ∨ (k_ < wr.heap.size ∧ k_ ≠ b7)) ∨ u10.heap.size ≤ k_) v0 v1 b' p' := ⟨h0, h1⟩; obtain ⟨G0, s0, G1, s1, rfl, rfl⟩ := hD.slices; refine ⟨_, rfl, ?_⟩; have HD71 := Aside0.mk hD; have HB71 := Aside0.mk hb; clear h0 h1 hD j0 j1 j2 m0 m1 m2 m3; have n0 := (blk_cell (blk_below HY11a.out hb) 0).trans rfl; have n1 := (blk_cell (blk_below HY11a.out hb) 1).trans rfl; have n2 := (blk_cell (blk_below HY11a.out hb) 2).trans rfl; have f0 := blk_frozen (blk_below HY11a.out hb) 0; have f1 := blk_frozen (blk_below HY11a.out hb) 1; have f2 := blk_frozen (blk_below HY11a.out hb) 2; clear hb)
                    | ((with_reducible refine gate_store (t := 29) (p := 11) rfl ?_); refine store_event (t := 29) (p := 11) (v := ?vo_6) (w1 := ?wn_6) ?hg ?ho ?hn ?hr ?_; (case ho => rfl); (case hg => rfl); (case hn => rfl); (case hr => first | (go_simp; done) | (go_simp; rfl)); intro u11 hw; have hX : Aside0 (u11.heap[b11]? = some (.cells #[.slice G0 b'.length s0, .slice G1 p'.length s1, .int .i64 x'] 29 (0, 0))) := ⟨by rw [hw]; exact blk_put (blk_put (blk_put (blk_below HY11a.out HB71.out) 0 _ rfl) 1 _ rfl) 2 _ rfl⟩; have hHC : Aside0 (Below W9.heap.size W9 u11) := ⟨by rw [hw]; exact below_set3 (below_step HC10.out HB71.out) g11 _ _ _⟩; have hD := (HD71.out.set3 (g := b11) (fun k hk => by rcases hk with (hk | hk) | hk; (have h1_ := hk.1; have h2_ := HCW.out.size; omega); (have h1_ := hk.1; have h2_ := HCW.out.size; omega); (have h2_ := blk_lt HY11a.out; omega)) (.slice G0 b'.length s0) (.slice G1 p'.length s1) (.int .i64 x')); rw [← hw] at hD; have HD11 := Aside0.mk (hD.mono (ok' := fun k => k ≠ b7) (fun k hk => by rcases hk with (hk | hk) | hk; exact hk.2; exact hk.2; (have h2_ := blk_lt HS.out; have h3_ := HC10.out.size; omega))); clear hD; have hD := ((HD10a.out.below HB71.out).set3 (g := b11) (fun k hk => hk.2) (.slice G0 b'.length s0) (.slice G1 p'.length s1) (.int .i64 x')); rw [← hw] at hD; have HD10 := Aside0.mk hD; have HZ10 : Aside0 (u11.heap[b10]? = some (.cells #[.slice F0 b'.length r0, .slice F1 p'.length r1, .int .i64 x'] 29 (0, 0))) := ⟨by rw [hw]; exact blk_far (blk_far (blk_far (blk_below HY10a.out HB71.out) n1011 _) n1011 _) n1011 _⟩; have HZ11 := hX; have HC := hHC; clear hX hHC hD hw n0 n1 n2 f0 f1 f2; have j0 := (blk_cell HZ10.out 0).trans rfl; have j1 := (blk_cell HZ10.out 1).trans rfl; have j2 := (blk_cell HZ10.out 2).trans rfl; have n0 := (blk_cell HZ11.out 0).trans rfl; have n1 := (blk_cell HZ11.out 1).trans rfl; have n2 := (blk_cell HZ11.out 2).trans rfl)
                    | fail)
                  refine (hibernacleref15_Same.calls 2000 F0 r0 b' F1 r1 p' x' G0 s0 b' G1 s1 p' x' true u11 (Kd.V_reads' HD10.out.1).2.2 (Kd.V_reads' HD10.out.1).2.1 (Kd.V_reads' HD10.out.2).2.2 (Kd.V_reads' HD10.out.2).2.1 (Kd.V_reads' HD11.out.1).2.2 (Kd.V_reads' HD11.out.1).2.1 (Kd.V_reads' HD11.out.2).2.2 (Kd.V_reads' HD11.out.2).2.1 (same_many b' p' x' (by omega) (by omega) 2000 (by omega))).mono ?_
                  rintro e_ w102 ⟨rfl, hb102⟩
                  have HB102 := Aside0.mk hb102
                  clear hb102 j0 j1 j2 n0 n1 n2
                  have HCE : Aside0 (Below W9.heap.size W9 w102) := ⟨below_step HC.out HB102.out⟩
                  by_cases he0 : e' = 0
                  · have he0b : (e' == 0) = true := beq_iff_eq.mpr he0
                    have HVALN : Aside0 (Valid b' p') := ⟨HVN.out he0⟩
                    obtain ⟨⟨g1, g2⟩, hg⟩ : ∃ r, r = (if ask < 0 ∨ (b'.length : Int) ≤ ask then ((⟨#[]⟩ : ByteArray), (2 : Int)) else (getV b' p' ask, 0)) := ⟨_, rfl⟩
                    have HG1 : Aside0 (drive_Get.f b' p' x' ask = some (g1, g2)) := ⟨by rw [dget_many _ _ _ _ (by omega), hg]⟩
                    have HG2 : Aside0 (hibernacleref15_Get.f 2000 b' p' x' ask = some (g1, g2)) := ⟨by rw [rget_many _ _ _ _ (by omega) 2000 (by omega), hg]⟩
                    have hgs : (g1.toList != g1.toList) = false := bne_self_eq_false _
                    have hgi : (g2 != g2) = false := bne_self_eq_false g2
                    clear hg
                    have n0 := (blk_cell (blk_below HZ11.out HB102.out) 0).trans rfl
                    have n1 := (blk_cell (blk_below HZ11.out HB102.out) 1).trans rfl
                    have n2 := (blk_cell (blk_below HZ11.out HB102.out) 2).trans rfl
                    have k0 := (blk_cell (blk_below HS.out HCE.out) 0).trans rfl
                    have k1 := (blk_cell (blk_below HS.out HCE.out) 1).trans rfl
                    have k2 := (blk_cell (blk_below HS.out HCE.out) 2).trans rfl
                    have f0 := blk_frozen (blk_below HS.out HCE.out) 0
                    have f1 := blk_frozen (blk_below HS.out HCE.out) 1
                    have f2 := blk_frozen (blk_below HS.out HCE.out) 2
                    go_wp2_with (first
                      | ((with_reducible refine gate_store (t := 29) (p := 7) rfl ?_); refine store_event (t := 29) (p := 7) (v := ?vo_7) (w1 := ?wn_7) ?hg ?ho ?hn ?hr ?_; (case ho => rfl); (case hg => rfl); (case hn => rfl); (case hr => first | (go_simp; done) | (go_simp; rfl)); intro u107 hw; have hX : Aside0 (u107.heap[b7]? = some (.cells #[.slice G0 b'.length s0, .slice G1 p'.length s1, .int .i64 x'] 29 (0, 0))) := ⟨by rw [hw]; exact blk_put (blk_put (blk_put (blk_below HS.out HCE.out) 0 _ rfl) 1 _ rfl) 2 _ rfl⟩; have hHC : Aside0 (Below w.heap.size w u107) := ⟨by rw [hw]; exact below_set3 (below_step HB.out (below_step HCW.out HCE.out)) g7 _ _ _⟩; have hD := ((HD11.out.below HB102.out).set3 (g := b7) (fun k hk => hk) (.slice G0 b'.length s0) (.slice G1 p'.length s1) (.int .i64 x')); rw [← hw] at hD; have HDE := Aside0.mk hD; have HXE := hX; have HBE := hHC; clear hX hHC hD hw n0 n1 n2 f0 f1 f2 k0 k1 k2; have j0 := (blk_cell HXE.out 0).trans rfl; have j1 := (blk_cell HXE.out 1).trans rfl; have j2 := (blk_cell HXE.out 2).trans rfl)
                      | ((with_reducible refine gate_dst (N := 111) rfl ?_); refine goesL_ (some 111) rfl rfl Try.func43 (by kernel_rfl) rfl #[.agg #[.slice G0 b'.length s0, .slice G1 p'.length s1, .int .i64 x'], .int .i64 ask] rfl (by (try simp only [List.map_toArray, List.map_cons, List.map_nil]); first | done | rfl) ?_; refine (drive_Get.calls G0 s0 b' G1 s1 p' x' ask g1 g2 u107 (Kd.V_reads' HDE.out.1).2.2 (Kd.V_reads' HDE.out.1).2.1 (Kd.V_reads' HDE.out.2).2.2 (Kd.V_reads' HDE.out.2).2.1 HG1.out).mono ?_; rintro e w111 ⟨rfl, hb⟩; refine ⟨_, rfl, ?_⟩; have HBG1 := Aside0.mk hb; clear j0 j1 j2; have j0 := (blk_cell (blk_below HXE.out hb) 0).trans rfl; have j1 := (blk_cell (blk_below HXE.out hb) 1).trans rfl; have j2 := (blk_cell (blk_below HXE.out hb) 2).trans rfl; clear hb)
                      | ((with_reducible refine gate_dst (N := 117) rfl ?_); refine goesL_ (some 117) rfl rfl Try.func44 (by kernel_rfl) rfl #[.agg #[.slice G0 b'.length s0, .slice G1 p'.length s1, .int .i64 x'], .int .i64 ask] rfl (by (try simp only [List.map_toArray, List.map_cons, List.map_nil]); first | done | rfl) ?_; refine (hibernacleref15_Get.calls 2000 G0 s0 b' G1 s1 p' x' ask g1 g2 w111 (Kd.V_reads' (HDE.out.below HBG1.out).1).2.2 (Kd.V_reads' (HDE.out.below HBG1.out).1).2.1 (Kd.V_reads' (HDE.out.below HBG1.out).2).2.2 (Kd.V_reads' (HDE.out.below HBG1.out).2).2.1 HG2.out).mono ?_; rintro e w117 ⟨rfl, hb⟩; refine ⟨_, rfl, ?_⟩; have HBG2 := Aside0.mk hb; clear hb j0 j1 j2)
                      | fail)
                    go_roundw
                    case rel =>
                      exact ⟨j + 1, b', p', x', G0, s0, G1, s1, by omega, by simp, HVALN, HPN, ⟨blk_below (blk_below HXE.out HBG1.out) HBG2.out⟩, ⟨(HDE.out.below HBG1.out).below HBG2.out⟩, ⟨below_step (below_step HBE.out HBG1.out) HBG2.out⟩⟩
                    case measure => simp only [intOf]; omega
                  · have he0b : (e' == 0) = false := beq_eq_false_iff_ne.mpr he0
                    obtain ⟨⟨g1, g2⟩, hg⟩ : ∃ r, r = (if ask < 0 ∨ (b.length : Int) ≤ ask then ((⟨#[]⟩ : ByteArray), (2 : Int)) else (getV b p ask, 0)) := ⟨_, rfl⟩
                    have HG1 : Aside0 (drive_Get.f b p x ask = some (g1, g2)) := ⟨by rw [dget_many _ _ _ _ (by omega), hg]⟩
                    have HG2 : Aside0 (hibernacleref15_Get.f 2000 b p x ask = some (g1, g2)) := ⟨by rw [rget_many _ _ _ _ (by omega) 2000 (by omega), hg]⟩
                    have hgs : (g1.toList != g1.toList) = false := bne_self_eq_false _
                    have hgi : (g2 != g2) = false := bne_self_eq_false g2
                    clear hg
                    have HDO : Aside0 (Dr w102 (fun k => k ≠ b7) (.slice B0 b.length e0) (.slice B1 p.length e1) b p) := ⟨(HDW.out.below HCE.out).mono (fun k hk => hk.2)⟩
                    have HXO : Aside0 (w102.heap[b7]? = some (.cells #[.slice B0 b.length e0, .slice B1 p.length e1, .int .i64 x] 29 (0, 0))) := ⟨blk_below HS.out HCE.out⟩
                    have j0 := (blk_cell HXO.out 0).trans rfl
                    have j1 := (blk_cell HXO.out 1).trans rfl
                    have j2 := (blk_cell HXO.out 2).trans rfl
                    go_wp2_with (first
                      | ((with_reducible refine gate_dst (N := 111) rfl ?_); refine goesL_ (some 111) rfl rfl Try.func43 (by kernel_rfl) rfl #[.agg #[.slice B0 b.length e0, .slice B1 p.length e1, .int .i64 x], .int .i64 ask] rfl (by (try simp only [List.map_toArray, List.map_cons, List.map_nil]); first | done | rfl) ?_; refine (drive_Get.calls B0 e0 b B1 e1 p x ask g1 g2 w102 (Kd.V_reads' HDO.out.1).2.2 (Kd.V_reads' HDO.out.1).2.1 (Kd.V_reads' HDO.out.2).2.2 (Kd.V_reads' HDO.out.2).2.1 HG1.out).mono ?_; rintro e w111 ⟨rfl, hb⟩; refine ⟨_, rfl, ?_⟩; have HBG1 := Aside0.mk hb; clear j0 j1 j2; have j0 := (blk_cell (blk_below HXO.out hb) 0).trans rfl; have j1 := (blk_cell (blk_below HXO.out hb) 1).trans rfl; have j2 := (blk_cell (blk_below HXO.out hb) 2).trans rfl; clear hb)
                      | ((with_reducible refine gate_dst (N := 117) rfl ?_); refine goesL_ (some 117) rfl rfl Try.func44 (by kernel_rfl) rfl #[.agg #[.slice B0 b.length e0, .slice B1 p.length e1, .int .i64 x], .int .i64 ask] rfl (by (try simp only [List.map_toArray, List.map_cons, List.map_nil]); first | done | rfl) ?_; refine (hibernacleref15_Get.calls 2000 B0 e0 b B1 e1 p x ask g1 g2 w111 (Kd.V_reads' (HDO.out.below HBG1.out).1).2.2 (Kd.V_reads' (HDO.out.below HBG1.out).1).2.1 (Kd.V_reads' (HDO.out.below HBG1.out).2).2.2 (Kd.V_reads' (HDO.out.below HBG1.out).2).2.1 HG2.out).mono ?_; rintro e w117 ⟨rfl, hb⟩; refine ⟨_, rfl, ?_⟩; have HBG2 := Aside0.mk hb; clear hb j0 j1 j2)
                      | fail)
                    go_roundw
                    case rel =>
                      exact ⟨j + 1, b, p, x, B0, e0, B1, e1, by omega, by simp, HV, ⟨by omega⟩, ⟨blk_below (blk_below HXO.out HBG1.out) HBG2.out⟩, ⟨(HDO.out.below HBG1.out).below HBG2.out⟩, ⟨below_step (below_step (below_step HB.out (below_step HCW.out HCE.out)) HBG1.out) HBG2.out⟩⟩
                    case measure => simp only [intOf]; omega
                · have hkb0 : (y.f0 == 0) = false := beq_eq_false_iff_ne.mpr hk0
                  by_cases hk1 : y.f0 = 1
                  · have hkb1 : (y.f0 == 1) = true := beq_iff_eq.mpr hk1
                    obtain ⟨r_, hr⟩ : ∃ r, r = flushV b p x := ⟨_, rfl⟩
                    obtain ⟨hl1, hl2, hl3⟩ := flushV_ok (a := x) HV.out
                    rw [← hr] at hl1 hl2 hl3
                    obtain ⟨b', p', x', e'⟩ := r_
                    dsimp only at hl1 hl2 hl3
                    have HP1 : Aside0 (drive_Flush.f b p x = some (b', p', x', e')) := ⟨by rw [dflush_many b p x HV.out.1 (by omega), hr]⟩
                    have HP2 : Aside0 (hibernacleref15_Flush.f 2000 b p x = some (b', p', x', e')) := ⟨by rw [rflush_many b p x HV.out (by omega) 2000 (by have := HV.out.1; omega), hr]⟩
                    have HVN := Aside0.mk hl3
                    have HPN : Aside0 (p'.length ≤ 60 + (j + 1)) := ⟨by omega⟩
                    have hee : (e' != e') = false := bne_self_eq_false e'
                    clear hl3 hr
                    have j0 := (blk_cell (blk_below HS.out HCU.out) 0).trans rfl
                    have j1 := (blk_cell (blk_below HS.out HCU.out) 1).trans rfl
                    have j2 := (blk_cell (blk_below HS.out HCU.out) 2).trans rfl
                    have m0 := (blk_cell (blk_below H9.out HCU.out) 0).trans rfl
                    have m1 := (blk_cell (blk_below H9.out HCU.out) 1).trans rfl
                    have m2 := (blk_cell (blk_below H9.out HCU.out) 2).trans rfl
                    have m3 := (blk_cell (blk_below H9.out HCU.out) 3).trans rfl
                    have n0 := (blk_cell HY10.out 0).trans rfl
                    have n1 := (blk_cell HY10.out 1).trans rfl
                    have n2 := (blk_cell HY10.out 2).trans rfl
                    have f0 := blk_frozen HY10.out 0
                    have f1 := blk_frozen HY10.out 1
                    have f2 := blk_frozen HY10.out 2
                    go_wp2_with (first
                      | ((with_reducible refine gate_dst (N := 78) rfl ?_); refine goesL_ (some 78) rfl rfl Try.func40 (by kernel_rfl) rfl #[.agg #[.slice B0 b.length e0, .slice B1 p.length e1, .int .i64 x]] rfl (by (try simp only [List.map_toArray, List.map_cons, List.map_nil]); first | done | rfl) ?_; refine (drive_Flush.calls B0 e0 b B1 e1 p x b' p' x' e' U (Kd.V_reads' (HDW.out.below HCU.out).1).2.2 (Kd.V_reads' (HDW.out.below HCU.out).1).2.1 (Kd.V_reads' (HDW.out.below HCU.out).2).2.2 (Kd.V_reads' (HDW.out.below HCU.out).2).2.1 HP1.out).mono ?_; rintro e w62 ⟨v0, v1, rfl, h0, h1, hb⟩; have hD := Dr.of_R h0 h1; obtain ⟨F0, r0, F1, r1, rfl, rfl⟩ := hD.slices; refine ⟨_, rfl, ?_⟩; have HD62 := Aside0.mk hD; have HB62 := Aside0.mk hb; clear h0 h1 hD n0 n1 n2 f0 f1 f2 j0 j1 j2 m0 m1 m2 m3; have n0 := (blk_cell (blk_below HY10.out hb) 0).trans rfl; have n1 := (blk_cell (blk_below HY10.out hb) 1).trans rfl; have n2 := (blk_cell (blk_below HY10.out hb) 2).trans rfl; have f0 := blk_frozen (blk_below HY10.out hb) 0; have f1 := blk_frozen (blk_below HY10.out hb) 1; have f2 := blk_frozen (blk_below HY10.out hb) 2; clear hb)
                      | ((with_reducible refine gate_store (t := 29) (p := 10) rfl ?_); refine store_event (t := 29) (p := 10) (v := ?vo_8) (w1 := ?wn_8) ?hg ?ho ?hn ?hr ?_; (case ho => rfl); (case hg => rfl); (case hn => rfl); (case hr => first | (go_simp; done) | (go_simp; rfl)); intro u10 hw; have hX : Aside0 (u10.heap[b10]? = some (.cells #[.slice F0 b'.length r0, .slice F1 p'.length r1, .int .i64 x'] 29 (0, 0))) := ⟨by rw [hw]; exact blk_put (blk_put (blk_put (blk_below HY10.out HB62.out) 0 _ rfl) 1 _ rfl) 2 _ rfl⟩; have hHC : Aside0 (Below W9.heap.size W9 u10) := ⟨by rw [hw]; exact below_set3 (below_step HCU.out HB62.out) g10 _ _ _⟩; have hD := (HD62.out.set3 (g := b10) (fun k hk => by have h2_ := blk_lt HY10.out; have h1_ := hk.1; omega) (.slice F0 b'.length r0) (.slice F1 p'.length r1) (.int .i64 x')); rw [← hw] at hD; have HD10a := Aside0.mk (hD.bound.mono (ok' := fun k => k < u10.heap.size ∧ k ≠ b11) (fun k hk => ⟨hk.2, by have h2_ := blk_lt HY11.out; have h1_ := hk.1.1; omega⟩)); have HY11a : Aside0 (u10.heap[b11]? = some (.cells #[.slice B0 b.length e0, .slice B1 p.length e1, .int .i64 x] 29 (0, 0))) := ⟨by rw [hw]; exact blk_far (blk_far (blk_far (blk_below HY11.out HB62.out) n1011.symm _) n1011.symm _) n1011.symm _⟩; have HY10a := hX; have HC10 := hHC; clear hX hHC hD hw n0 n1 n2 f0 f1 f2; have j0 := (blk_cell (blk_below HS.out HC10.out) 0).trans rfl; have j1 := (blk_cell (blk_below HS.out HC10.out) 1).trans rfl; have j2 := (blk_cell (blk_below HS.out HC10.out) 2).trans rfl; have m0 := (blk_cell (blk_below H9.out HC10.out) 0).trans rfl; have m1 := (blk_cell (blk_below H9.out HC10.out) 1).trans rfl; have m2 := (blk_cell (blk_below H9.out HC10.out) 2).trans rfl; have m3 := (blk_cell (blk_below H9.out HC10.out) 3).trans rfl)
                      | ((with_reducible refine gate_dst (N := 83) rfl ?_); refine goesL_ (some 83) rfl rfl Try.func41 (by kernel_rfl) rfl #[.agg #[.slice B0 b.length e0, .slice B1 p.length e1, .int .i64 x]] rfl (by (try simp only [List.map_toArray, List.map_cons, List.map_nil]); first | done | rfl) ?_; refine (hibernacleref15_Flush.calls 2000 (fun k => k < wr.heap.size ∧ k ≠ b7) B0 e0 b (fun k => k < wr.heap.size ∧ k ≠ b7) B1 e1 p x b' p' x' e' u10 (HDW.out.below HC10.out).1 (HDW.out.below HC10.out).2 HP2.out).mono ?_; rintro e w71 ⟨v0, v1, rfl, h0, h1, hb⟩; have hD : Dr w71 (fun k_ => ((k_ < wr.heap.size ∧ k_ ≠ b7) ∨ (k_ < wr.heap.size ∧ k_ ≠ b7)) ∨ u10.heap.size ≤ k_) v0 v1 b' p' := ⟨h0, h1⟩; obtain ⟨G0, s0, G1, s1, rfl, rfl⟩ := hD.slices; refine ⟨_, rfl, ?_⟩; have HD71 := Aside0.mk hD; have HB71 := Aside0.mk hb; clear h0 h1 hD j0 j1 j2 m0 m1 m2 m3; have n0 := (blk_cell (blk_below HY11a.out hb) 0).trans rfl; have n1 := (blk_cell (blk_below HY11a.out hb) 1).trans rfl; have n2 := (blk_cell (blk_below HY11a.out hb) 2).trans rfl; have f0 := blk_frozen (blk_below HY11a.out hb) 0; have f1 := blk_frozen (blk_below HY11a.out hb) 1; have f2 := blk_frozen (blk_below HY11a.out hb) 2; clear hb)
                      | ((with_reducible refine gate_store (t := 29) (p := 11) rfl ?_); refine store_event (t := 29) (p := 11) (v := ?vo_9) (w1 := ?wn_9) ?hg ?ho ?hn ?hr ?_; (case ho => rfl); (case hg => rfl); (case hn => rfl); (case hr => first | (go_simp; done) | (go_simp; rfl)); intro u11 hw; have hX : Aside0 (u11.heap[b11]? = some (.cells #[.slice G0 b'.length s0, .slice G1 p'.length s1, .int .i64 x'] 29 (0, 0))) := ⟨by rw [hw]; exact blk_put (blk_put (blk_put (blk_below HY11a.out HB71.out) 0 _ rfl) 1 _ rfl) 2 _ rfl⟩; have hHC : Aside0 (Below W9.heap.size W9 u11) := ⟨by rw [hw]; exact below_set3 (below_step HC10.out HB71.out) g11 _ _ _⟩; have hD := (HD71.out.set3 (g := b11) (fun k hk => by rcases hk with (hk | hk) | hk; (have h1_ := hk.1; have h2_ := HCW.out.size; omega); (have h1_ := hk.1; have h2_ := HCW.out.size; omega); (have h2_ := blk_lt HY11a.out; omega)) (.slice G0 b'.length s0) (.slice G1 p'.length s1) (.int .i64 x')); rw [← hw] at hD; have HD11 := Aside0.mk (hD.mono (ok' := fun k => k ≠ b7) (fun k hk => by rcases hk with (hk | hk) | hk; exact hk.2; exact hk.2; (have h2_ := blk_lt HS.out; have h3_ := HC10.out.size; omega))); clear hD; have hD := ((HD10a.out.below HB71.out).set3 (g := b11) (fun k hk => hk.2) (.slice G0 b'.length s0) (.slice G1 p'.length s1) (.int .i64 x')); rw [← hw] at hD; have HD10 := Aside0.mk hD; have HZ10 : Aside0 (u11.heap[b10]? = some (.cells #[.slice F0 b'.length r0, .slice F1 p'.length r1, .int .i64 x'] 29 (0, 0))) := ⟨by rw [hw]; exact blk_far (blk_far (blk_far (blk_below HY10a.out HB71.out) n1011 _) n1011 _) n1011 _⟩; have HZ11 := hX; have HC := hHC; clear hX hHC hD hw n0 n1 n2 f0 f1 f2; have j0 := (blk_cell HZ10.out 0).trans rfl; have j1 := (blk_cell HZ10.out 1).trans rfl; have j2 := (blk_cell HZ10.out 2).trans rfl; have n0 := (blk_cell HZ11.out 0).trans rfl; have n1 := (blk_cell HZ11.out 1).trans rfl; have n2 := (blk_cell HZ11.out 2).trans rfl)
                      | fail)
                    refine (hibernacleref15_Same.calls 2000 F0 r0 b' F1 r1 p' x' G0 s0 b' G1 s1 p' x' true u11 (Kd.V_reads' HD10.out.1).2.2 (Kd.V_reads' HD10.out.1).2.1 (Kd.V_reads' HD10.out.2).2.2 (Kd.V_reads' HD10.out.2).2.1 (Kd.V_reads' HD11.out.1).2.2 (Kd.V_reads' HD11.out.1).2.1 (Kd.V_reads' HD11.out.2).2.2 (Kd.V_reads' HD11.out.2).2.1 (same_many b' p' x' (by omega) (by omega) 2000 (by omega))).mono ?_
                    rintro e_ w102 ⟨rfl, hb102⟩
                    have HB102 := Aside0.mk hb102
                    clear hb102 j0 j1 j2 n0 n1 n2
                    have HCE : Aside0 (Below W9.heap.size W9 w102) := ⟨below_step HC.out HB102.out⟩
                    by_cases he0 : e' = 0
                    · have he0b : (e' == 0) = true := beq_iff_eq.mpr he0
                      have HVALN : Aside0 (Valid b' p') := ⟨HVN.out he0⟩
                      obtain ⟨⟨g1, g2⟩, hg⟩ : ∃ r, r = (if ask < 0 ∨ (b'.length : Int) ≤ ask then ((⟨#[]⟩ : ByteArray), (2 : Int)) else (getV b' p' ask, 0)) := ⟨_, rfl⟩
                      have HG1 : Aside0 (drive_Get.f b' p' x' ask = some (g1, g2)) := ⟨by rw [dget_many _ _ _ _ (by omega), hg]⟩
                      have HG2 : Aside0 (hibernacleref15_Get.f 2000 b' p' x' ask = some (g1, g2)) := ⟨by rw [rget_many _ _ _ _ (by omega) 2000 (by omega), hg]⟩
                      have hgs : (g1.toList != g1.toList) = false := bne_self_eq_false _
                      have hgi : (g2 != g2) = false := bne_self_eq_false g2
                      clear hg
                      have n0 := (blk_cell (blk_below HZ11.out HB102.out) 0).trans rfl
                      have n1 := (blk_cell (blk_below HZ11.out HB102.out) 1).trans rfl
                      have n2 := (blk_cell (blk_below HZ11.out HB102.out) 2).trans rfl
                      have k0 := (blk_cell (blk_below HS.out HCE.out) 0).trans rfl
                      have k1 := (blk_cell (blk_below HS.out HCE.out) 1).trans rfl
                      have k2 := (blk_cell (blk_below HS.out HCE.out) 2).trans rfl
                      have f0 := blk_frozen (blk_below HS.out HCE.out) 0
                      have f1 := blk_frozen (blk_below HS.out HCE.out) 1
                      have f2 := blk_frozen (blk_below HS.out HCE.out) 2
                      go_wp2_with (first
                        | ((with_reducible refine gate_store (t := 29) (p := 7) rfl ?_); refine store_event (t := 29) (p := 7) (v := ?vo_10) (w1 := ?wn_10) ?hg ?ho ?hn ?hr ?_; (case ho => rfl); (case hg => rfl); (case hn => rfl); (case hr => first | (go_simp; done) | (go_simp; rfl)); intro u107 hw; have hX : Aside0 (u107.heap[b7]? = some (.cells #[.slice G0 b'.length s0, .slice G1 p'.length s1, .int .i64 x'] 29 (0, 0))) := ⟨by rw [hw]; exact blk_put (blk_put (blk_put (blk_below HS.out HCE.out) 0 _ rfl) 1 _ rfl) 2 _ rfl⟩; have hHC : Aside0 (Below w.heap.size w u107) := ⟨by rw [hw]; exact below_set3 (below_step HB.out (below_step HCW.out HCE.out)) g7 _ _ _⟩; have hD := ((HD11.out.below HB102.out).set3 (g := b7) (fun k hk => hk) (.slice G0 b'.length s0) (.slice G1 p'.length s1) (.int .i64 x')); rw [← hw] at hD; have HDE := Aside0.mk hD; have HXE := hX; have HBE := hHC; clear hX hHC hD hw n0 n1 n2 f0 f1 f2 k0 k1 k2; have j0 := (blk_cell HXE.out 0).trans rfl; have j1 := (blk_cell HXE.out 1).trans rfl; have j2 := (blk_cell HXE.out 2).trans rfl)
                        | ((with_reducible refine gate_dst (N := 111) rfl ?_); refine goesL_ (some 111) rfl rfl Try.func43 (by kernel_rfl) rfl #[.agg #[.slice G0 b'.length s0, .slice G1 p'.length s1, .int .i64 x'], .int .i64 ask] rfl (by (try simp only [List.map_toArray, List.map_cons, List.map_nil]); first | done | rfl) ?_; refine (drive_Get.calls G0 s0 b' G1 s1 p' x' ask g1 g2 u107 (Kd.V_reads' HDE.out.1).2.2 (Kd.V_reads' HDE.out.1).2.1 (Kd.V_reads' HDE.out.2).2.2 (Kd.V_reads' HDE.out.2).2.1 HG1.out).mono ?_; rintro e w111 ⟨rfl, hb⟩; refine ⟨_, rfl, ?_⟩; have HBG1 := Aside0.mk hb; clear j0 j1 j2; have j0 := (blk_cell (blk_below HXE.out hb) 0).trans rfl; have j1 := (blk_cell (blk_below HXE.out hb) 1).trans rfl; have j2 := (blk_cell (blk_below HXE.out hb) 2).trans rfl; clear hb)
                        | ((with_reducible refine gate_dst (N := 117) rfl ?_); refine goesL_ (some 117) rfl rfl Try.func44 (by kernel_rfl) rfl #[.agg #[.slice G0 b'.length s0, .slice G1 p'.length s1, .int .i64 x'], .int .i64 ask] rfl (by (try simp only [List.map_toArray, List.map_cons, List.map_nil]); first | done | rfl) ?_; refine (hibernacleref15_Get.calls 2000 G0 s0 b' G1 s1 p' x' ask g1 g2 w111 (Kd.V_reads' (HDE.out.below HBG1.out).1).2.2 (Kd.V_reads' (HDE.out.below HBG1.out).1).2.1 (Kd.V_reads' (HDE.out.below HBG1.out).2).2.2 (Kd.V_reads' (HDE.out.below HBG1.out).2).2.1 HG2.out).mono ?_; rintro e w117 ⟨rfl, hb⟩; refine ⟨_, rfl, ?_⟩; have HBG2 := Aside0.mk hb; clear hb j0 j1 j2)
                        | fail)
                      go_roundw
                      case rel =>
                        exact ⟨j + 1, b', p', x', G0, s0, G1, s1, by omega, by simp, HVALN, HPN, ⟨blk_below (blk_below HXE.out HBG1.out) HBG2.out⟩, ⟨(HDE.out.below HBG1.out).below HBG2.out⟩, ⟨below_step (below_step HBE.out HBG1.out) HBG2.out⟩⟩
                      case measure => simp only [intOf]; omega
                    · have he0b : (e' == 0) = false := beq_eq_false_iff_ne.mpr he0
                      obtain ⟨⟨g1, g2⟩, hg⟩ : ∃ r, r = (if ask < 0 ∨ (b.length : Int) ≤ ask then ((⟨#[]⟩ : ByteArray), (2 : Int)) else (getV b p ask, 0)) := ⟨_, rfl⟩
                      have HG1 : Aside0 (drive_Get.f b p x ask = some (g1, g2)) := ⟨by rw [dget_many _ _ _ _ (by omega), hg]⟩
                      have HG2 : Aside0 (hibernacleref15_Get.f 2000 b p x ask = some (g1, g2)) := ⟨by rw [rget_many _ _ _ _ (by omega) 2000 (by omega), hg]⟩
                      have hgs : (g1.toList != g1.toList) = false := bne_self_eq_false _
                      have hgi : (g2 != g2) = false := bne_self_eq_false g2
                      clear hg
                      have HDO : Aside0 (Dr w102 (fun k => k ≠ b7) (.slice B0 b.length e0) (.slice B1 p.length e1) b p) := ⟨(HDW.out.below HCE.out).mono (fun k hk => hk.2)⟩
                      have HXO : Aside0 (w102.heap[b7]? = some (.cells #[.slice B0 b.length e0, .slice B1 p.length e1, .int .i64 x] 29 (0, 0))) := ⟨blk_below HS.out HCE.out⟩
                      have j0 := (blk_cell HXO.out 0).trans rfl
                      have j1 := (blk_cell HXO.out 1).trans rfl
                      have j2 := (blk_cell HXO.out 2).trans rfl
                      go_wp2_with (first
                        | ((with_reducible refine gate_dst (N := 111) rfl ?_); refine goesL_ (some 111) rfl rfl Try.func43 (by kernel_rfl) rfl #[.agg #[.slice B0 b.length e0, .slice B1 p.length e1, .int .i64 x], .int .i64 ask] rfl (by (try simp only [List.map_toArray, List.map_cons, List.map_nil]); first | done | rfl) ?_; refine (drive_Get.calls B0 e0 b B1 e1 p x ask g1 g2 w102 (Kd.V_reads' HDO.out.1).2.2 (Kd.V_reads' HDO.out.1).2.1 (Kd.V_reads' HDO.out.2).2.2 (Kd.V_reads' HDO.out.2).2.1 HG1.out).mono ?_; rintro e w111 ⟨rfl, hb⟩; refine ⟨_, rfl, ?_⟩; have HBG1 := Aside0.mk hb; clear j0 j1 j2; have j0 := (blk_cell (blk_below HXO.out hb) 0).trans rfl; have j1 := (blk_cell (blk_below HXO.out hb) 1).trans rfl; have j2 := (blk_cell (blk_below HXO.out hb) 2).trans rfl; clear hb)
                        | ((with_reducible refine gate_dst (N := 117) rfl ?_); refine goesL_ (some 117) rfl rfl Try.func44 (by kernel_rfl) rfl #[.agg #[.slice B0 b.length e0, .slice B1 p.length e1, .int .i64 x], .int .i64 ask] rfl (by (try simp only [List.map_toArray, List.map_cons, List.map_nil]); first | done | rfl) ?_; refine (hibernacleref15_Get.calls 2000 B0 e0 b B1 e1 p x ask g1 g2 w111 (Kd.V_reads' (HDO.out.below HBG1.out).1).2.2 (Kd.V_reads' (HDO.out.below HBG1.out).1).2.1 (Kd.V_reads' (HDO.out.below HBG1.out).2).2.2 (Kd.V_reads' (HDO.out.below HBG1.out).2).2.1 HG2.out).mono ?_; rintro e w117 ⟨rfl, hb⟩; refine ⟨_, rfl, ?_⟩; have HBG2 := Aside0.mk hb; clear hb j0 j1 j2)
                        | fail)
                      go_roundw
                      case rel =>
                        exact ⟨j + 1, b, p, x, B0, e0, B1, e1, by omega, by simp, HV, ⟨by omega⟩, ⟨blk_below (blk_below HXO.out HBG1.out) HBG2.out⟩, ⟨(HDO.out.below HBG1.out).below HBG2.out⟩, ⟨below_step (below_step (below_step HB.out (below_step HCW.out HCE.out)) HBG1.out) HBG2.out⟩⟩
                      case measure => simp only [intOf]; omega
                  · have hkb1 : (y.f0 == 1) = false := beq_eq_false_iff_ne.mpr hk1
                    by_cases hk2 : y.f0 = 2
                    · have hkb2 : (y.f0 == 2) = true := beq_iff_eq.mpr hk2
                      obtain ⟨r_, hr⟩ : ∃ r, r = crashV b p y.f3 := ⟨_, rfl⟩
                      obtain ⟨hl2, hl3⟩ := crashV_ok (lp := y.f3) HV.out
                      rw [← hr] at hl2 hl3
                      obtain ⟨b', p', x'⟩ := r_
                      dsimp only at hl2 hl3
                      have HP1 : Aside0 (drive_Crash.f b p x y.f3 = some (b', p', x')) := ⟨by rw [dcrash_many b p x y.f3 HV.out.1 (by omega), hr]⟩
                      have HP2 : Aside0 (hibernacleref15_Crash.f 2000 b p x y.f3 = some (b', p', x')) := ⟨by rw [rcrash_many b p x y.f3 HV.out (by omega) 2000 (by omega), hr]⟩
                      have HVALN := Aside0.mk hl3
                      have HPN : Aside0 (p'.length ≤ 60 + (j + 1)) := ⟨by omega⟩
                      have hl1 := hl3.1
                      clear hl3 hr
                      have m0 := (blk_cell (blk_below H9.out HCU.out) 0).trans rfl
                      have m1 := (blk_cell (blk_below H9.out HCU.out) 1).trans rfl
                      have m2 := (blk_cell (blk_below H9.out HCU.out) 2).trans rfl
                      have m3 := (blk_cell (blk_below H9.out HCU.out) 3).trans rfl
                      go_wp2_with (first
                        | fail)
                      rename_i KK hKK
                      replace hKK := Aside0.mk hKK
                      clear m0 m1 m2 m3
                      have hS7 : U.drew.heap[b7]? = some (.cells #[.slice B0 b.length e0, .slice B1 p.length e1, .int .i64 x] 29 (0, 0)) := blk_below HS.out HCU.out.drew
                      have hS9 : U.drew.heap[b9]? = some (.cells #[.int .i64 y.f0, .int .i64 y.f1, .string y.f2, .slice A3 y.f3.length c3] 49 (0, 0)) := blk_below H9.out HCU.out.drew
                      have hBV : Below W9.heap.size W9 U.drew := HCU.out.drew
                      have hDV := HDW.out.below hBV
                      have hCV := Kd.C_below (Kd.C_below HC3.out HCW.out) hBV
                      have h10V : U.drew.heap[b10]? = some (.cells #[.slice B0 b.length e0, .slice B1 p.length e1, .int .i64 x] 29 (0, 0)) := HY10.out
                      have h11V : U.drew.heap[b11]? = some (.cells #[.slice B0 b.length e0, .slice B1 p.length e1, .int .i64 x] 29 (0, 0)) := HY11.out
                      refine start_ (n := 10) (S := fun w' => w'.heap[b7]? = some (.cells #[.slice B0 b.length e0, .slice B1 p.length e1, .int .i64 x] 29 (0, 0)) ∧ w'.heap[b9]? = some (.cells #[.int .i64 y.f0, .int .i64 y.f1, .string y.f2, .slice A3 y.f3.length c3] 49 (0, 0))) (ds := []) #[false, false, false, false, false, false, false, false, false, false] (by kernel_rfl) rfl rfl ⟨hS7, hS9⟩ (fun hHeld => ?_); refine with_tabW hdp19.tab hdp19.bits (fun HT_ HW_ => ?_)
                      generalize U.drew = V0 at hS7 hS9 hDV hCV hBV h10V h11V hHeld ⊢
                      refine take_ (i := 0) (N := (some 88)) (v := ?_) (a' := ?_) #[true, false, false, false, false, false, false, false, false, false] rfl rfl (take_ofW HT_.out HW_.out (by kernel_rfl)) (fun _ _ _ h => h) (Or.inl ⟨by rfl, ?_⟩) hHeld ?_ ?_
                      rotate_left
                      · rintro w' s1; have t0 := (blk_cell s1.1 0).trans rfl; have t1 := (blk_cell s1.1 1).trans rfl; have t2 := (blk_cell s1.1 2).trans rfl
                        go_simp
                        with_reducible rfl
                      rotate_left
                      · simp only [Act.put, List.setIfInBounds_toArray, List.set_cons_zero, List.set_cons_succ, i64_w, i32_w]
                        rfl
                      refine pure_ (i := 1) (N := (some 89)) (v := ?_) (a' := ?_) #[true, true, false, false, false, false, false, false, false, false] rfl rfl (any_of HT_.out (by kernel_rfl)) (fun _ _ _ h => h) (Or.inl ⟨by rfl, ?_⟩) ?_ ?_
                      rotate_left
                      · intro w'
                        go_simp
                        with_reducible rfl
                      rotate_left
                      · simp only [Act.put, List.setIfInBounds_toArray, List.set_cons_zero, List.set_cons_succ, i64_w, i32_w]
                        rfl
                      refine take_ (i := 2) (N := (some 90)) (v := ?_) (a' := ?_) #[true, true, true, false, false, false, false, false, false, false] rfl rfl (take_ofW HT_.out HW_.out (by kernel_rfl)) (fun _ _ _ h => h) (Or.inl ⟨by rfl, ?_⟩) hHeld ?_ ?_
                      rotate_left
                      · rintro w' s1; have t3 := (blk_cell s1.2 3).trans rfl
                        go_simp
                        with_reducible rfl
                      rotate_left
                      · simp only [Act.put, List.setIfInBounds_toArray, List.set_cons_zero, List.set_cons_succ, i64_w, i32_w]
                        rfl
                      refine take_ (i := 4) (N := (some 92)) (v := ?_) (a' := ?_) #[true, true, true, false, true, false, false, false, false, false] rfl rfl (take_ofW HT_.out HW_.out (by kernel_rfl)) (fun _ _ _ h => h) (Or.inl ⟨by rfl, ?_⟩) hHeld ?_ ?_
                      rotate_left
                      · rintro w' s1; have t0 := (blk_cell s1.1 0).trans rfl; have t1 := (blk_cell s1.1 1).trans rfl; have t2 := (blk_cell s1.1 2).trans rfl
                        go_simp
                        with_reducible rfl
                      rotate_left
                      · simp only [Act.put, List.setIfInBounds_toArray, List.set_cons_zero, List.set_cons_succ, i64_w, i32_w]
                        rfl
                      refine pure_ (i := 5) (N := (some 93)) (v := ?_) (a' := ?_) #[true, true, true, false, true, true, false, false, false, false] rfl rfl (any_of HT_.out (by kernel_rfl)) (fun _ _ _ h => h) (Or.inl ⟨by rfl, ?_⟩) ?_ ?_
                      rotate_left
                      · intro w'
                        go_simp
                        with_reducible rfl
                      rotate_left
                      · simp only [Act.put, List.setIfInBounds_toArray, List.set_cons_zero, List.set_cons_succ, i64_w, i32_w]
                        rfl
                      refine take_ (i := 6) (N := (some 94)) (v := ?_) (a' := ?_) #[true, true, true, false, true, true, true, false, false, false] rfl rfl (take_ofW HT_.out HW_.out (by kernel_rfl)) (fun _ _ _ h => h) (Or.inl ⟨by rfl, ?_⟩) hHeld ?_ ?_
                      rotate_left
                      · rintro w' s1; have t3 := (blk_cell s1.2 3).trans rfl
                        go_simp
                        with_reducible rfl
                      rotate_left
                      · simp only [Act.put, List.setIfInBounds_toArray, List.set_cons_zero, List.set_cons_succ, i64_w, i32_w]
                        rfl
                      refine one_ (i := 3) (N := (some 91)) #[true, true, true, true, true, true, true, false, false, false] rfl rfl (one_of HT_.out (by kernel_rfl)) (by decide) (fun K hK => ?_)
                      refine goes_ Try.func37 (by kernel_rfl) rfl #[.agg #[.slice B0 b.length e0, .slice B1 p.length e1, .int .i64 x], .slice A3 y.f3.length c3] (by rfl) rfl rfl (by (try simp only [List.map_toArray, List.map_cons, List.map_nil]); first | done | rfl) ?_
                      refine (drive_Crash.calls B0 e0 b B1 e1 p x A3 c3 y.f3 b' p' x' V0 (Kd.V_reads' hDV.1).2.2 (Kd.V_reads' hDV.1).2.1 (Kd.V_reads' hDV.2).2.2 (Kd.V_reads' hDV.2).2.1 hCV hc3 HP1.out).mono ?_
                      rintro e_ V1 ⟨v0, v1, rfl, h0, h1, hb1⟩
                      have hD1 := Dr.of_R h0 h1
                      obtain ⟨F0, r0, F1, r1, rfl, rfl⟩ := hD1.slices
                      refine ⟨_, rfl, ?_⟩
                      refine hK.out _ _ ⟨blk_below hS7 hb1, blk_below hS9 hb1⟩ (fun hHeld => ?_)
                      clear hK K
                      refine norm_ (a' := ?_) ?_ ?_
                      rotate_left
                      · show Act.put _ (some 91) _ = _
                        simp only [Act.put, List.setIfInBounds_toArray, List.set_cons_zero, List.set_cons_succ, i64_w, i32_w]
                        rfl
                      refine one_ (i := 7) (N := (some 95)) #[true, true, true, true, true, true, true, true, false, false] rfl rfl (one_of HT_.out (by kernel_rfl)) (by decide) (fun K hK => ?_)
                      refine goes_ Try.func42 (by kernel_rfl) rfl #[.agg #[.slice B0 b.length e0, .slice B1 p.length e1, .int .i64 x], .slice A3 y.f3.length c3] (by rfl) rfl rfl (by (try simp only [List.map_toArray, List.map_cons, List.map_nil]); first | done | rfl) ?_
                      have hDV1 := hDV.below hb1
                      refine (hibernacleref15_Crash.calls 2000 B0 e0 b B1 e1 p x A3 c3 y.f3 b' p' x' V1 (Kd.V_reads' hDV1.1).2.2 (Kd.V_reads' hDV1.1).2.1 (Kd.V_reads' hDV1.2).2.2 (Kd.V_reads' hDV1.2).2.1 (Kd.C_below hCV hb1) hc3 HP2.out).mono ?_
                      rintro e_ V2 ⟨v0, v1, rfl, h2, h3, hb2⟩
                      have hD2 := Dr.of_R h2 h3
                      obtain ⟨G0, s0, G1, s1, rfl, rfl⟩ := hD2.slices
                      refine ⟨_, rfl, ?_⟩
                      refine hK.out _ _ ⟨blk_below (blk_below hS7 hb1) hb2, blk_below (blk_below hS9 hb1) hb2⟩ (fun hHeld => ?_)
                      clear hK K
                      refine norm_ (a' := ?_) ?_ ?_
                      rotate_left
                      · show Act.put _ (some 95) _ = _
                        simp only [Act.put, List.setIfInBounds_toArray, List.set_cons_zero, List.set_cons_succ, i64_w, i32_w]
                        rfl
                      have h10W := blk_below (blk_below h10V hb1) hb2
                      have h11W := blk_below (blk_below h11V hb1) hb2
                      refine one_ (i := 8) (N := none) #[true, true, true, true, true, true, true, true, true, false] rfl rfl (one_of HT_.out (by kernel_rfl)) (by decide) (fun K hK => ?_)
                      have m0 := (blk_cell h10W 0).trans rfl
                      have m1 := (blk_cell h10W 1).trans rfl
                      have m2 := (blk_cell h10W 2).trans rfl
                      have f0 := blk_frozen h10W 0
                      have f1 := blk_frozen h10W 1
                      have f2 := blk_frozen h10W 2
                      refine skip_ (w1 := (((V2.setCell ⟨b10, 0, none⟩ (.slice F0 b'.length r0)).setCell ⟨b10, 1, none⟩ (.slice F1 p'.length r1)).setCell ⟨b10, 2, none⟩ (.int .i64 x'))) (by rfl) rfl ?_ ?_
                      · first | (go_simp; done) | (go_simp; rfl)
                      clear m0 m1 m2 f0 f1 f2
                      refine hK.out _ _ ⟨blk_far (blk_far (blk_far (blk_below (blk_below hS7 hb1) hb2) n710 _) n710 _) n710 _, blk_far (blk_far (blk_far (blk_below (blk_below hS9 hb1) hb2) n910 _) n910 _) n910 _⟩ (fun hHeld => ?_)
                      clear hK K
                      obtain ⟨V3, hV3⟩ : ∃ z, z = (((V2.setCell ⟨b10, 0, none⟩ (.slice F0 b'.length r0)).setCell ⟨b10, 1, none⟩ (.slice F1 p'.length r1)).setCell ⟨b10, 2, none⟩ (.int .i64 x')) := ⟨_, rfl⟩
                      have hX10 : V3.heap[b10]? = some (.cells #[.slice F0 b'.length r0, .slice F1 p'.length r1, .int .i64 x'] 29 (0, 0)) := by rw [hV3]; exact blk_put (blk_put (blk_put h10W 0 _ rfl) 1 _ rfl) 2 _ rfl
                      have hX11 : V3.heap[b11]? = some (.cells #[.slice B0 b.length e0, .slice B1 p.length e1, .int .i64 x] 29 (0, 0)) := by rw [hV3]; exact blk_far (blk_far (blk_far h11W n1011.symm _) n1011.symm _) n1011.symm _
                      have hB3 : Below W9.heap.size W9 V3 := by rw [hV3]; exact below_set3 (below_step (below_step hBV hb1) hb2) g10 _ _ _
                      have hS73 : V3.heap[b7]? = some (.cells #[.slice B0 b.length e0, .slice B1 p.length e1, .int .i64 x] 29 (0, 0)) := by rw [hV3]; exact blk_far (blk_far (blk_far (blk_below (blk_below hS7 hb1) hb2) n710 _) n710 _) n710 _
                      have hS93 : V3.heap[b9]? = some (.cells #[.int .i64 y.f0, .int .i64 y.f1, .string y.f2, .slice A3 y.f3.length c3] 49 (0, 0)) := by rw [hV3]; exact blk_far (blk_far (blk_far (blk_below (blk_below hS9 hb1) hb2) n910 _) n910 _) n910 _
                      have l10 := blk_lt h10V
                      have l11 := blk_lt h11V
                      have hV01 := hb1.size
                      have hE1 := ((hD1.below hb2).bound.set3 (g := b10) (fun k hk => by have h1_ := hk.1.1; omega) (.slice F0 b'.length r0) (.slice F1 p'.length r1) (.int .i64 x')).mono (ok' := fun k => k ≠ b11) (fun k hk => by have h1_ := hk.1.1; omega)
                      have hE2 := (hD2.bound.set3 (g := b10) (fun k hk => by have h1_ := hk.1.1; omega) (.slice F0 b'.length r0) (.slice F1 p'.length r1) (.int .i64 x')).mono (ok' := fun k => k ≠ b11 ∧ k ≠ b7) (fun k hk => ⟨by have h1_ := hk.1.1; omega, by have h1_ := hk.1.1; have h2_ := blk_lt hS7; omega⟩)
                      rw [← hV3] at hE1 hE2 ⊢
                      clear hV3
                      refine one_ (i := 9) (N := none) #[true, true, true, true, true, true, true, true, true, true] rfl rfl (one_of HT_.out (by kernel_rfl)) (by decide) (fun K hK => ?_)
                      have m0 := (blk_cell hX11 0).trans rfl
                      have m1 := (blk_cell hX11 1).trans rfl
                      have m2 := (blk_cell hX11 2).trans rfl
                      have f0 := blk_frozen hX11 0
                      have f1 := blk_frozen hX11 1
                      have f2 := blk_frozen hX11 2
                      refine skip_ (w1 := (((V3.setCell ⟨b11, 0, none⟩ (.slice G0 b'.length s0)).setCell ⟨b11, 1, none⟩ (.slice G1 p'.length s1)).setCell ⟨b11, 2, none⟩ (.int .i64 x'))) (by rfl) rfl ?_ ?_
                      · first | (go_simp; done) | (go_simp; rfl)
                      clear m0 m1 m2 f0 f1 f2
                      refine hK.out _ _ ⟨blk_far (blk_far (blk_far hS73 n711 _) n711 _) n711 _, blk_far (blk_far (blk_far hS93 n911 _) n911 _) n911 _⟩ (fun hHeld => ?_)
                      clear hK K
                      obtain ⟨V4, hV4⟩ : ∃ z, z = (((V3.setCell ⟨b11, 0, none⟩ (.slice G0 b'.length s0)).setCell ⟨b11, 1, none⟩ (.slice G1 p'.length s1)).setCell ⟨b11, 2, none⟩ (.int .i64 x')) := ⟨_, rfl⟩
                      have hZ11 : V4.heap[b11]? = some (.cells #[.slice G0 b'.length s0, .slice G1 p'.length s1, .int .i64 x'] 29 (0, 0)) := by rw [hV4]; exact blk_put (blk_put (blk_put hX11 0 _ rfl) 1 _ rfl) 2 _ rfl
                      have hZ10 : V4.heap[b10]? = some (.cells #[.slice F0 b'.length r0, .slice F1 p'.length r1, .int .i64 x'] 29 (0, 0)) := by rw [hV4]; exact blk_far (blk_far (blk_far hX10 n1011 _) n1011 _) n1011 _
                      have hB4 : Below W9.heap.size W9 V4 := by rw [hV4]; exact below_set3 hB3 g11 _ _ _
                      have hG1 := hE1.set3 (g := b11) (fun k hk => hk) (.slice G0 b'.length s0) (.slice G1 p'.length s1) (.int .i64 x')
                      have hG2 := (hE2.set3 (g := b11) (fun k hk => hk.1) (.slice G0 b'.length s0) (.slice G1 p'.length s1) (.int .i64 x')).mono (ok' := fun k => k ≠ b7) (fun k hk => hk.2)
                      rw [← hV4] at hG1 hG2 ⊢
                      clear hV4
                      refine done_ (done_of HT_.out (by kernel_rfl)) ?_
                      refine hKK.out _ _ ?_
                      clear hKK KK
                      have HC := Aside0.mk hB4
                      have HD10 := Aside0.mk hG1
                      have HD11 := Aside0.mk hG2
                      have HZ10 := Aside0.mk hZ10
                      have HZ11 := Aside0.mk hZ11
                      clear hB4 hG1 hG2 hZ10 hZ11 hB3 hE1 hE2 hX10 hX11 hS73 hS93 h10W h11W l10 l11 hV01 hD1 hD2 h0 h1 h2 h3 hDV1 hb1 hb2 hDV hCV hBV h10V h11V hS7 hS9
                      have j0 := (blk_cell HZ10.out 0).trans rfl
                      have j1 := (blk_cell HZ10.out 1).trans rfl
                      have j2 := (blk_cell HZ10.out 2).trans rfl
                      have n0 := (blk_cell HZ11.out 0).trans rfl
                      have n1 := (blk_cell HZ11.out 1).trans rfl
                      have n2 := (blk_cell HZ11.out 2).trans rfl
                      go_wp2_with (first
                        | fail)
                      refine (hibernacleref15_Same.calls 2000 F0 r0 b' F1 r1 p' x' G0 s0 b' G1 s1 p' x' true V4 (Kd.V_reads' HD10.out.1).2.2 (Kd.V_reads' HD10.out.1).2.1 (Kd.V_reads' HD10.out.2).2.2 (Kd.V_reads' HD10.out.2).2.1 (Kd.V_reads' HD11.out.1).2.2 (Kd.V_reads' HD11.out.1).2.1 (Kd.V_reads' HD11.out.2).2.2 (Kd.V_reads' HD11.out.2).2.1 (same_many b' p' x' (by omega) (by omega) 2000 (by omega))).mono ?_
                      rintro e_ w102 ⟨rfl, hb102⟩
                      have HB102 := Aside0.mk hb102
                      clear hb102 j0 j1 j2 n0 n1 n2
                      have HCE : Aside0 (Below W9.heap.size W9 w102) := ⟨below_step HC.out HB102.out⟩
                      obtain ⟨⟨g1, g2⟩, hg⟩ : ∃ r, r = (if ask < 0 ∨ (b'.length : Int) ≤ ask then ((⟨#[]⟩ : ByteArray), (2 : Int)) else (getV b' p' ask, 0)) := ⟨_, rfl⟩
                      have HG1 : Aside0 (drive_Get.f b' p' x' ask = some (g1, g2)) := ⟨by rw [dget_many _ _ _ _ (by omega), hg]⟩
                      have HG2 : Aside0 (hibernacleref15_Get.f 2000 b' p' x' ask = some (g1, g2)) := ⟨by rw [rget_many _ _ _ _ (by omega) 2000 (by omega), hg]⟩
                      have hgs : (g1.toList != g1.toList) = false := bne_self_eq_false _
                      have hgi : (g2 != g2) = false := bne_self_eq_false g2
                      clear hg
                      have n0 := (blk_cell (blk_below HZ11.out HB102.out) 0).trans rfl
                      have n1 := (blk_cell (blk_below HZ11.out HB102.out) 1).trans rfl
                      have n2 := (blk_cell (blk_below HZ11.out HB102.out) 2).trans rfl
                      have k0 := (blk_cell (blk_below HS.out HCE.out) 0).trans rfl
                      have k1 := (blk_cell (blk_below HS.out HCE.out) 1).trans rfl
                      have k2 := (blk_cell (blk_below HS.out HCE.out) 2).trans rfl
                      have f0 := blk_frozen (blk_below HS.out HCE.out) 0
                      have f1 := blk_frozen (blk_below HS.out HCE.out) 1
                      have f2 := blk_frozen (blk_below HS.out HCE.out) 2
                      go_wp2_with (first
                        | ((with_reducible refine gate_store (t := 29) (p := 7) rfl ?_); refine store_event (t := 29) (p := 7) (v := ?vo_11) (w1 := ?wn_11) ?hg ?ho ?hn ?hr ?_; (case ho => rfl); (case hg => rfl); (case hn => rfl); (case hr => first | (go_simp; done) | (go_simp; rfl)); intro u107 hw; have hX : Aside0 (u107.heap[b7]? = some (.cells #[.slice G0 b'.length s0, .slice G1 p'.length s1, .int .i64 x'] 29 (0, 0))) := ⟨by rw [hw]; exact blk_put (blk_put (blk_put (blk_below HS.out HCE.out) 0 _ rfl) 1 _ rfl) 2 _ rfl⟩; have hHC : Aside0 (Below w.heap.size w u107) := ⟨by rw [hw]; exact below_set3 (below_step HB.out (below_step HCW.out HCE.out)) g7 _ _ _⟩; have hD := ((HD11.out.below HB102.out).set3 (g := b7) (fun k hk => hk) (.slice G0 b'.length s0) (.slice G1 p'.length s1) (.int .i64 x')); rw [← hw] at hD; have HDE := Aside0.mk hD; have HXE := hX; have HBE := hHC; clear hX hHC hD hw n0 n1 n2 f0 f1 f2 k0 k1 k2; have j0 := (blk_cell HXE.out 0).trans rfl; have j1 := (blk_cell HXE.out 1).trans rfl; have j2 := (blk_cell HXE.out 2).trans rfl)
                        | ((with_reducible refine gate_dst (N := 111) rfl ?_); refine goesL_ (some 111) rfl rfl Try.func43 (by kernel_rfl) rfl #[.agg #[.slice G0 b'.length s0, .slice G1 p'.length s1, .int .i64 x'], .int .i64 ask] rfl (by (try simp only [List.map_toArray, List.map_cons, List.map_nil]); first | done | rfl) ?_; refine (drive_Get.calls G0 s0 b' G1 s1 p' x' ask g1 g2 u107 (Kd.V_reads' HDE.out.1).2.2 (Kd.V_reads' HDE.out.1).2.1 (Kd.V_reads' HDE.out.2).2.2 (Kd.V_reads' HDE.out.2).2.1 HG1.out).mono ?_; rintro e w111 ⟨rfl, hb⟩; refine ⟨_, rfl, ?_⟩; have HBG1 := Aside0.mk hb; clear j0 j1 j2; have j0 := (blk_cell (blk_below HXE.out hb) 0).trans rfl; have j1 := (blk_cell (blk_below HXE.out hb) 1).trans rfl; have j2 := (blk_cell (blk_below HXE.out hb) 2).trans rfl; clear hb)
                        | ((with_reducible refine gate_dst (N := 117) rfl ?_); refine goesL_ (some 117) rfl rfl Try.func44 (by kernel_rfl) rfl #[.agg #[.slice G0 b'.length s0, .slice G1 p'.length s1, .int .i64 x'], .int .i64 ask] rfl (by (try simp only [List.map_toArray, List.map_cons, List.map_nil]); first | done | rfl) ?_; refine (hibernacleref15_Get.calls 2000 G0 s0 b' G1 s1 p' x' ask g1 g2 w111 (Kd.V_reads' (HDE.out.below HBG1.out).1).2.2 (Kd.V_reads' (HDE.out.below HBG1.out).1).2.1 (Kd.V_reads' (HDE.out.below HBG1.out).2).2.2 (Kd.V_reads' (HDE.out.below HBG1.out).2).2.1 HG2.out).mono ?_; rintro e w117 ⟨rfl, hb⟩; refine ⟨_, rfl, ?_⟩; have HBG2 := Aside0.mk hb; clear hb j0 j1 j2)
                        | fail)
                      go_roundw
                      case rel =>
                        exact ⟨j + 1, b', p', x', G0, s0, G1, s1, by omega, by simp, HVALN, HPN, ⟨blk_below (blk_below HXE.out HBG1.out) HBG2.out⟩, ⟨(HDE.out.below HBG1.out).below HBG2.out⟩, ⟨below_step (below_step HBE.out HBG1.out) HBG2.out⟩⟩
                      case measure => simp only [intOf]; omega
                    · have hkb2 : (y.f0 == 2) = false := beq_eq_false_iff_ne.mpr hk2
                      have HPN : Aside0 (p.length ≤ 60 + (j + 1)) := ⟨by omega⟩
                      have HVALN := HV
                      have hl1 := HV.out.1
                      have HD10 := Aside0.mk ((HDW.out.below HCU.out).mono (ok' := fun k => k ≠ b7) (fun k hk => hk.2))
                      have HD11 := HD10
                      have j0 := (blk_cell HY10.out 0).trans rfl
                      have j1 := (blk_cell HY10.out 1).trans rfl
                      have j2 := (blk_cell HY10.out 2).trans rfl
                      have n0 := (blk_cell HY11.out 0).trans rfl
                      have n1 := (blk_cell HY11.out 1).trans rfl
                      have n2 := (blk_cell HY11.out 2).trans rfl
                      have m0 := (blk_cell (blk_below H9.out HCU.out) 0).trans rfl
                      have m1 := (blk_cell (blk_below H9.out HCU.out) 1).trans rfl
                      have m2 := (blk_cell (blk_below H9.out HCU.out) 2).trans rfl
                      have m3 := (blk_cell (blk_below H9.out HCU.out) 3).trans rfl
                      go_wp2_with (first
                        | fail)
                      refine (hibernacleref15_Same.calls 2000 B0 e0 b B1 e1 p x B0 e0 b B1 e1 p x true U (Kd.V_reads' HD10.out.1).2.2 (Kd.V_reads' HD10.out.1).2.1 (Kd.V_reads' HD10.out.2).2.2 (Kd.V_reads' HD10.out.2).2.1 (Kd.V_reads' HD11.out.1).2.2 (Kd.V_reads' HD11.out.1).2.1 (Kd.V_reads' HD11.out.2).2.2 (Kd.V_reads' HD11.out.2).2.1 (same_many b p x (by omega) (by omega) 2000 (by omega))).mono ?_
                      rintro e_ w102 ⟨rfl, hb102⟩
                      have HB102 := Aside0.mk hb102
                      clear hb102 j0 j1 j2 n0 n1 n2 m0 m1 m2 m3
                      have HCE : Aside0 (Below W9.heap.size W9 w102) := ⟨below_step HCU.out HB102.out⟩
                      obtain ⟨⟨g1, g2⟩, hg⟩ : ∃ r, r = (if ask < 0 ∨ (b.length : Int) ≤ ask then ((⟨#[]⟩ : ByteArray), (2 : Int)) else (getV b p ask, 0)) := ⟨_, rfl⟩
                      have HG1 : Aside0 (drive_Get.f b p x ask = some (g1, g2)) := ⟨by rw [dget_many _ _ _ _ (by omega), hg]⟩
                      have HG2 : Aside0 (hibernacleref15_Get.f 2000 b p x ask = some (g1, g2)) := ⟨by rw [rget_many _ _ _ _ (by omega) 2000 (by omega), hg]⟩
                      have hgs : (g1.toList != g1.toList) = false := bne_self_eq_false _
                      have hgi : (g2 != g2) = false := bne_self_eq_false g2
                      clear hg
                      have n0 := (blk_cell (blk_below HY11.out HB102.out) 0).trans rfl
                      have n1 := (blk_cell (blk_below HY11.out HB102.out) 1).trans rfl
                      have n2 := (blk_cell (blk_below HY11.out HB102.out) 2).trans rfl
                      have k0 := (blk_cell (blk_below HS.out HCE.out) 0).trans rfl
                      have k1 := (blk_cell (blk_below HS.out HCE.out) 1).trans rfl
                      have k2 := (blk_cell (blk_below HS.out HCE.out) 2).trans rfl
                      have f0 := blk_frozen (blk_below HS.out HCE.out) 0
                      have f1 := blk_frozen (blk_below HS.out HCE.out) 1
                      have f2 := blk_frozen (blk_below HS.out HCE.out) 2
                      go_wp2_with (first
                        | ((with_reducible refine gate_store (t := 29) (p := 7) rfl ?_); refine store_event (t := 29) (p := 7) (v := ?vo_12) (w1 := ?wn_12) ?hg ?ho ?hn ?hr ?_; (case ho => rfl); (case hg => rfl); (case hn => rfl); (case hr => first | (go_simp; done) | (go_simp; rfl)); intro u107 hw; have hX : Aside0 (u107.heap[b7]? = some (.cells #[.slice B0 b.length e0, .slice B1 p.length e1, .int .i64 x] 29 (0, 0))) := ⟨by rw [hw]; exact blk_put (blk_put (blk_put (blk_below HS.out HCE.out) 0 _ rfl) 1 _ rfl) 2 _ rfl⟩; have hHC : Aside0 (Below w.heap.size w u107) := ⟨by rw [hw]; exact below_set3 (below_step HB.out (below_step HCW.out HCE.out)) g7 _ _ _⟩; have hD := ((HD11.out.below HB102.out).set3 (g := b7) (fun k hk => hk) (.slice B0 b.length e0) (.slice B1 p.length e1) (.int .i64 x)); rw [← hw] at hD; have HDE := Aside0.mk hD; have HXE := hX; have HBE := hHC; clear hX hHC hD hw n0 n1 n2 f0 f1 f2 k0 k1 k2; have j0 := (blk_cell HXE.out 0).trans rfl; have j1 := (blk_cell HXE.out 1).trans rfl; have j2 := (blk_cell HXE.out 2).trans rfl)
                        | ((with_reducible refine gate_dst (N := 111) rfl ?_); refine goesL_ (some 111) rfl rfl Try.func43 (by kernel_rfl) rfl #[.agg #[.slice B0 b.length e0, .slice B1 p.length e1, .int .i64 x], .int .i64 ask] rfl (by (try simp only [List.map_toArray, List.map_cons, List.map_nil]); first | done | rfl) ?_; refine (drive_Get.calls B0 e0 b B1 e1 p x ask g1 g2 u107 (Kd.V_reads' HDE.out.1).2.2 (Kd.V_reads' HDE.out.1).2.1 (Kd.V_reads' HDE.out.2).2.2 (Kd.V_reads' HDE.out.2).2.1 HG1.out).mono ?_; rintro e w111 ⟨rfl, hb⟩; refine ⟨_, rfl, ?_⟩; have HBG1 := Aside0.mk hb; clear j0 j1 j2; have j0 := (blk_cell (blk_below HXE.out hb) 0).trans rfl; have j1 := (blk_cell (blk_below HXE.out hb) 1).trans rfl; have j2 := (blk_cell (blk_below HXE.out hb) 2).trans rfl; clear hb)
                        | ((with_reducible refine gate_dst (N := 117) rfl ?_); refine goesL_ (some 117) rfl rfl Try.func44 (by kernel_rfl) rfl #[.agg #[.slice B0 b.length e0, .slice B1 p.length e1, .int .i64 x], .int .i64 ask] rfl (by (try simp only [List.map_toArray, List.map_cons, List.map_nil]); first | done | rfl) ?_; refine (hibernacleref15_Get.calls 2000 B0 e0 b B1 e1 p x ask g1 g2 w111 (Kd.V_reads' (HDE.out.below HBG1.out).1).2.2 (Kd.V_reads' (HDE.out.below HBG1.out).1).2.1 (Kd.V_reads' (HDE.out.below HBG1.out).2).2.2 (Kd.V_reads' (HDE.out.below HBG1.out).2).2.1 HG2.out).mono ?_; rintro e w117 ⟨rfl, hb⟩; refine ⟨_, rfl, ?_⟩; have HBG2 := Aside0.mk hb; clear hb j0 j1 j2)
                        | fail)
                      go_roundw
                      case rel =>
                        exact ⟨j + 1, b, p, x, B0, e0, B1, e1, by omega, by simp, HVALN, HPN, ⟨blk_below (blk_below HXE.out HBG1.out) HBG2.out⟩, ⟨(HDE.out.below HBG1.out).below HBG2.out⟩, ⟨below_step (below_step HBE.out HBG1.out) HBG2.out⟩⟩
                      case measure => simp only [intOf]; omega
          · obtain rfl : j = l.length := by omega
            go_wp2_with (first
              | ((with_reducible refine gate_dst (N := 129) rfl ?_); refine goesL_ (some 129) rfl rfl Try.func31 (by kernel_rfl) rfl #[] rfl (by (try simp only [List.map_toArray, List.map_cons, List.map_nil]); first | done | rfl) ?_; refine (hibernaclelaw15_fixed.calls true _ rfl).mono ?_; rintro e wz ⟨rfl, hbz⟩; refine ⟨_, rfl, ?_⟩; have HBZ := Aside0.mk (below_step HB.out hbz); clear hbz)
              | fail)
            go_ret
            exact ⟨rfl, HBZ.out⟩
    · have hcb : (checkV b0 p0 != 0) = true := bne_iff_ne.mpr hck
      go_wp2_with (first
        | ((with_reducible refine gate_dst (N := 31) rfl ?_); refine goesL_ (some 31) rfl rfl Try.func31 (by kernel_rfl) rfl #[] rfl (by (try simp only [List.map_toArray, List.map_cons, List.map_nil]); first | done | rfl) ?_; refine (hibernaclelaw15_fixed.calls true _ rfl).mono ?_; rintro e wz ⟨rfl, hbz⟩; refine ⟨_, rfl, ?_⟩; have HBZ := Aside0.mk (below_step HB23.out hbz); clear hbz)
        | fail)
      go_ret
      exact ⟨rfl, HBZ.out⟩
end Go.Proofs.Ytjfmnkmgnbbfgaa.A
