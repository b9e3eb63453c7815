/- The contract of hibernaclelaw15.fixed: the document's example holds. -/
import Derived.Test.YtjfmnkmgnbbfgaaA0
import Derived.Test.YtjfmnkmgnbbfgaaA32
import Derived.Test.YtjfmnkmgnbbfgaaA38
import Derived.Test.YtjfmnkmgnbbfgaaA45
import Derived.Test.YtjfmnkmgnbbfgaaXland
import Derived.Test.YtjfmnkmgnbbfgaaBa
set_option linter.unusedVariables false
set_option linter.unusedSimpArgs false
namespace Go.Proofs.Ytjfmnkmgnbbfgaa.A
open Go.RowKit Go.Proofs.YtjfmnkmgnbbfgaaW.PrintWords Go.Proofs.YtjfmnkmgnbbfgaaW.PrintLast Go.Proofs.YtjfmnkmgnbbfgaaW.PrintMore
def onesS : ByteArray := strOfNums (List.replicate 128 1)
set_option maxRecDepth 100000
set_option maxHeartbeats 4000000
theorem ones_v : hibernaclelaw15_ones.f 130 = some onesS := by kernel_rfl
theorem new_v : drive_New.f 10 2 = some ([zeroS, zeroS], [], -1, 0) := by kernel_rfl
theorem put_v : drive_Put.f 5 [zeroS, zeroS] [] (-1) 0 onesS = some ([zeroS, zeroS], [⟨0, onesS⟩], -1, 0) := by kernel_rfl
theorem crash_v : drive_Crash.f [zeroS, zeroS] [⟨0, onesS⟩] (-1) [5] = some ([onesS.extract 0 64 ++ zeroS.extract 64 zeroS.size, zeroS], [], -1) := by kernel_rfl
theorem eq0_v : onesS.extract 0 64 ++ zeroS.extract 64 zeroS.size = onesS.extract 0 64 ++ strOfNums (List.replicate 64 0) := by kernel_rfl
theorem eq1_v : zeroS = strOfNums (List.replicate 128 0) := by kernel_rfl
def fixed2.T : Bool × List (List Nat × List Nat) := (true, [([], []), ([], []), ([0, 1, 1], [0, 1]), ([2], [2]), ([3], [3]), ([3], [3]), ([], []), ([6, 4, 2, 0, 1, 2, 3, 4, 6], [4, 6]), ([5, 7, 0, 1, 2, 3, 4, 5, 6, 7], [5])])
def fixed2.B : List Nat := [0, 0, 3, 7, 15, 15, 0, 95, 255]
theorem fixed2.tab : rtab .any (opsOf Try.f31 2) = fixed2.T := by kernel_rfl
theorem fixed2.bits : waitsOk fixed2.T.2 fixed2.B = true := by kernel_rfl
def fixed6.T : Bool × List (List Nat × List Nat) := (true, [([], []), ([0], [0]), ([1], [1]), ([2], [2]), ([3], [3]), ([4], [4]), ([5, 4], [4, 5]), ([6, 4], [4, 6]), ([7, 4], [4, 7]), ([4, 4], [4]), ([9, 4], [4, 9]), ([4], [4]), ([11, 4], [4, 11]), ([10, 12, 4], [4, 10, 12]), ([8, 13, 4], [4, 8, 13]), ([4, 14], [4, 14]), ([15, 9], [15]), ([16], [16]), ([17, 16], [16, 17]), ([18, 16], [16, 18]), ([19, 16], [16, 19]), ([16], [16]), ([21, 16], [16, 21]), ([20, 22, 16], [16, 20, 22]), ([16, 23], [16, 23]), ([24, 16, 0, 1, 2, 3, 4, 5, 6, 7, 8, 9, 10, 11, 12, 13, 14, 15, 16, 17, 18, 19, 20, 21, 22, 23, 24], [24])])
def fixed6.B : List Nat := [0, 1, 3, 7, 15, 31, 63, 127, 255, 31, 543, 31, 2079, 7711, 16383, 32767, 65535, 131071, 262143, 524287, 1048575, 131071, 2228223, 8388607, 16777215, 33554431]
theorem fixed6.tab : rtab .any (opsOf Try.f31 6) = fixed6.T := by kernel_rfl
theorem fixed6.bits : waitsOk fixed6.T.2 fixed6.B = true := by kernel_rfl

theorem cell_far3 {W : World} {g x j : Nat} (h : g ≠ x) {v : Value} (hc : W.cell? ⟨g, j, none⟩ = some v) (a b c : Value) : (((W.setCell ⟨x, 0, none⟩ a).setCell ⟨x, 1, none⟩ b).setCell ⟨x, 2, none⟩ c).cell? ⟨g, j, none⟩ = some v := by
  have h2 : x ≠ g := Ne.symm h
  simp [go_sem, hc, h, h2]

def hibernaclelaw15_fixed.f : Option Bool := some true
theorem fixed_walk (w : World) : Calls Try.prog 31 #[] w fun e w' => e = .returned (.bool true) ∧ Below w.heap.size w w' := by
  have hu29 := Try.underlying29
  go_enter Try.func31, Try.ntmps31
  go_wp2_with (first
    | (go_at_call 32; refine (drive_New.calls 10 2 _ _ _ _ _ new_v).mono ?_; rintro e w1 ⟨v0, v1, rfl, ho0, ho1, hb1⟩;
        have sl0 := Kd.R_slice ho0; have sl1 := Kd.R_slice ho1; have HO0 := Aside0.mk ho0; have HO1 := Aside0.mk ho1; have HB1 := Aside0.mk hb1; clear ho0 ho1 hb1; obtain ⟨A0, c0, rfl⟩ := sl0; obtain ⟨A1, c1, rfl⟩ := sl1)
    | ((with_reducible refine gate_dst (N := 1) rfl ?_); refine box_event ?hg (N := 1) ?hd (cs := #[.slice none 0 0, .slice none 0 0, .int .i64 0]) (t := 29) ?hr ?_; (case hd => rfl); (case hg => rfl); (case hr => first | (go_simp; done) | (go_simp; rfl)); intro d hd w2 hx2 hl2;
        have k0 : w2.cell? ⟨d, 0, none⟩ = some (.slice none 0 0) := (blk_cell hx2 0).trans rfl;
        have k1 : w2.cell? ⟨d, 1, none⟩ = some (.slice none 0 0) := (blk_cell hx2 1).trans rfl;
        have k2 : w2.cell? ⟨d, 2, none⟩ = some (.int .i64 0) := (blk_cell hx2 2).trans rfl;
        have f0 := blk_frozen hx2 0; have f1 := blk_frozen hx2 1; have f2 := blk_frozen hx2 2;
        have HX2 := Aside0.mk hx2; have HL2 := Aside0.mk hl2; have HD := Aside0.mk hd; clear hx2 hl2 hd))

  rename_i K hK0
  have key : ∀ (p : Nat) (A2 : Option Addr) (c2 : Nat) (A3 : Option Addr) (c3 : Nat) (W : World), W.heap[p]? = some (.cells #[.slice A2 2 c2, .slice A3 1 c3, .int .i64 (-1)] 29 (0, 0)) →
      Kd.R Kd.string 9 W w.heap.size (fun _ => True) (.slice A2 2 c2) [zeroS, zeroS] → Kd.R k27 27 W w.heap.size (fun _ => True) (.slice A3 1 c3) [⟨0, onesS⟩] → Below w.heap.size w W →
      K { tmps := #[.bool false, .pointer (some ⟨d, 0, none⟩), .int .i64 0, .pointer (some ⟨p, 0, none⟩), .int .i64 0, undef, .tuple #[.agg #[.slice A0 2 c0, .slice A1 0 c1, .int .i64 (-1)], .int .i64 0], .tuple #[.agg #[.slice A0 2 c0, .slice A1 0 c1, .int .i64 (-1)], .int .i64 0], .agg #[.slice A0 2 c0, .slice A1 0 c1, .int .i64 (-1)], .int .i64 0,
        .tuple #[.agg #[.slice A2 2 c2, .slice A3 1 c3, .int .i64 (-1)], .int .i64 0], .agg #[.slice A0 2 c0, .slice A1 0 c1, .int .i64 (-1)], .string onesS, .tuple #[.agg #[.slice A2 2 c2, .slice A3 1 c3, .int .i64 (-1)], .int .i64 0], .agg #[.slice A2 2 c2, .slice A3 1 c3, .int .i64 (-1)], .int .i64 0, undef, undef, undef, undef, undef, undef, undef, undef, undef, undef, undef, undef, undef, undef, undef, undef, undef, undef, undef, undef, undef, undef, undef, undef, undef, undef, undef, undef, undef, undef, undef, undef, undef, undef], defers := [] } W := by
    clear HO0 HO1 HB1 HX2 HL2 HD k0 k1 k2 f0 f1 f2
    intro p A2 c2 A3 c3 W hp hr2 hr3 hb
    have p0 := (blk_cell hp 0).trans rfl
    have p1 := (blk_cell hp 1).trans rfl
    have p2 := (blk_cell hp 2).trans rfl
    have HR2 := Aside0.mk hr2
    have HR3 := Aside0.mk hr3
    have HB := Aside0.mk hb
    clear hp hr2 hr3 hb
    apply hK0
    clear hK0
    go_wp2_with (first
      | ((with_reducible refine gate_dst (N := 23) rfl ?_); refine Kd.R_lit (Kd.int .i64) _ 3 ?hg (N := 23) ?hd (xs := ([5] : List Int)) (inner := [.int .i64 5]) (ok := fun _ => True) (okp := fun _ => True) ?hr ?hp (fun _ hk => hk) trivial (Below.refl _ _) (Nat.le_refl _) (by simp) ?_; (case hd => rfl); (case hg => rfl); (case hr => first | (go_simp; done) | (go_simp; rfl)); (case hp => exact Kd.reps_scalar [5]); intro v1 w3 ho1 hb1 hg1 ha1;
          have slp := Kd.R_slice ho1; have HOP := Aside0.mk ho1; have HBP := Aside0.mk (below_step HB.out hb1); have HBq := Aside0.mk hb1; clear ho1 hb1 hg1 ha1; obtain ⟨Ap, cp, rfl⟩ := slp)
      | fail)

    have HR2c := (Kd.R_reads' HR2.out).2.2
    refine (drive_Crash.calls A2 c2 [zeroS, zeroS] A3 c3 [⟨0, onesS⟩] (-1) Ap cp [5] _ _ _ w3 (Kd.C_below (Kd.R_reads' HR2.out).2.2 HBq.out) (Kd.R_reads' HR2.out).2.1 (Kd.C_below (Kd.R_reads' HR3.out).2.2 HBq.out) (Kd.R_reads' HR3.out).2.1 (Kd.R_reads' HOP.out).2.2 (Kd.R_reads' HOP.out).2.1 crash_v).mono ?_
    rintro e w4 ⟨v4, v5, rfl, ho4, ho5, hb4⟩
    obtain ⟨go, c4, rfl, gb4, gl4, cl4, hg4⟩ := Kd.R_form ho4 (by simp)
    obtain ⟨A5, c5, rfl⟩ := Kd.R_slice ho5
    obtain ⟨y0, _⟩ := Kd.R_celln ByteArray.empty ho4 0 (by decide) (by simp)
    obtain ⟨y1, _⟩ := Kd.R_celln ByteArray.empty ho4 1 (by decide) (by simp)
    have HB4 := Aside0.mk (below_step HBP.out hb4)
    clear ho4 ho5 hb4 hg4 cl4 gb4 HR2 HR3 HR2c HOP HBP HBq
    obtain ⟨X, hX⟩ : ∃ X, X = onesS.extract 0 64 ++ zeroS.extract 64 zeroS.size := ⟨_, rfl⟩
    have y0' : w4.cell? ⟨go, 0, none⟩ = some (.string X) := by rw [hX]; exact y0
    have y1' : w4.cell? ⟨go, 1, none⟩ = some (.string zeroS) := y1
    have HXV := Aside0.mk hX
    clear hX y0 y1
    go_wp2_with (
        (with_reducible refine gate_dst (N := 5) rfl ?_); refine box_event ?hg (N := 5) ?hd (cs := #[.slice none 0 0, .slice none 0 0, .int .i64 0]) (t := 29) ?hr ?_; (case hd => rfl); (case hg => rfl); (case hr => first | (go_simp; done) | (go_simp; rfl)); intro x hx w5 hx5 hl5;
        have x0 : w5.cell? ⟨x, 0, none⟩ = some (.slice none 0 0) := (blk_cell hx5 0).trans rfl;
        have x1 : w5.cell? ⟨x, 1, none⟩ = some (.slice none 0 0) := (blk_cell hx5 1).trans rfl;
        have x2 : w5.cell? ⟨x, 2, none⟩ = some (.int .i64 0) := (blk_cell hx5 2).trans rfl;
        have e0 := blk_frozen hx5 0; have e1 := blk_frozen hx5 1; have e2 := blk_frozen hx5 2;
        have HX5 := Aside0.mk hx5; have HL5 := Aside0.mk hl5; have HXb := Aside0.mk hx; clear hx5 hl5 hx)
    have nx : go ≠ x := by rw [HXb.out]; exact Nat.ne_of_lt gl4
    have hx6 := blk_put (blk_put (blk_put HX5.out 0 (.slice (some ⟨go, 0, none⟩) [X, zeroS].length c4) rfl) 1 (.slice A5 ([] : List S27).length c5) rfl) 2 (.int .i64 (-1)) rfl
    have z0 := cell_far3 nx (pw_cell_below HL5.out y0') (.slice (some ⟨go, 0, none⟩) [X, zeroS].length c4) (.slice A5 ([] : List S27).length c5) (.int .i64 (-1))
    have z1 := cell_far3 nx (pw_cell_below HL5.out y1') (.slice (some ⟨go, 0, none⟩) [X, zeroS].length c4) (.slice A5 ([] : List S27).length c5) (.int .i64 (-1))
    have hxb : w.heap.size ≤ x := by rw [HXb.out]; exact HB4.out.size
    have hb6 := below_set3 (below_step HB4.out HL5.out) hxb (.slice (some ⟨go, 0, none⟩) [X, zeroS].length c4) (.slice A5 ([] : List S27).length c5) (.int .i64 (-1))
    simp only [List.length_cons, List.length_nil, Nat.zero_add, Nat.reduceAdd] at hx6 z0 z1 hb6 ⊢
    generalize ((w5.setCell ⟨x, 0, none⟩ (.slice (some ⟨go, 0, none⟩) 2 c4)).setCell ⟨x, 1, none⟩ (.slice A5 0 c5)).setCell ⟨x, 2, none⟩ (.int .i64 (-1)) = W6 at hx6 z0 z1 hb6 ⊢
    have x0' : W6.cell? ⟨x, 0, none⟩ = some (.slice (some ⟨go, 0, none⟩) 2 c4) := (blk_cell hx6 0).trans rfl
    have HB6 := Aside0.mk hb6
    clear hx6 hb6 x0 x1 x2 e0 e1 e2 y0' y1' HX5 HL5 HXb HB4 gl4
    have hs1 : (64 : Int) ≤ (onesS.size : Int) := by decide
    have hs2 : 64 ≤ onesS.size := by decide
    obtain ⟨r64, hr64⟩ : ∃ l : List Int, l = List.replicate 64 0 := ⟨_, rfl⟩
    obtain ⟨r128, hr128⟩ : ∃ l : List Int, l = List.replicate 128 0 := ⟨_, rfl⟩
    have cv64 := fun (W W2 : World) (hW : Below (W.alloc (.cells (madeCells #[.int .u8 0] 64) 5)).heap.size (W.alloc (.cells (madeCells #[.int .u8 0] 64) 5)) W2) => own_string (P := Try.prog) Try.underlying77 Try.underlying5 Try.underlying9 (pw_own_below (own_made W 0 5 .u8 64 (Nat.zero_le _) (by decide)) hW)
    have cv128 := fun (W : World) => own_string (P := Try.prog) Try.underlying77 Try.underlying5 Try.underlying9 (own_made W 0 5 .u8 128 (Nat.zero_le _) (by decide))
    rw [← hr64] at cv64
    rw [← hr128] at cv128
    have E0 : X = onesS.extract 0 64 ++ strOfNums r64 := by rw [HXV.out, eq0_v, hr64]
    have E1 : zeroS = strOfNums r128 := by rw [eq1_v, hr128]
    have hadd : (9223372036854775807 < 64 + (strOfNums r64).size) = False := eq_false (by rw [hr64]; decide)
    have HC64 := Aside0.mk cv64
    have HC128 := Aside0.mk cv128
    clear cv64 cv128 hr64 hr128 HXV
    refine start_ (n := 26) (S := fun w' => w'.cell? ⟨x, 0, none⟩ = some (.slice (some ⟨go, 0, none⟩) 2 c4) ∧ w'.cell? ⟨go, 0, none⟩ = some (.string X) ∧ w'.cell? ⟨go, 1, none⟩ = some (.string zeroS)) (ds := []) #[false, false, false, false, false, false, false, false, false, false, false, false, false, false, false, false, false, false, false, false, false, false, false, false, false, false] (by kernel_rfl) rfl rfl ⟨x0', z0, z1⟩ (fun hHeld => ?_); refine with_tabW fixed6.tab fixed6.bits (fun HT_ HW_ => ?_)
    have HB7 := Aside0.mk (below_drew1 HB6.out)
    generalize W6.drew = W7 at HB7 hHeld ⊢
    refine pure_ (i := 0) (N := (some 25)) (v := ?_) (a' := ?_) #[true, false, false, false, false, false, false, false, false, false, false, false, false, false, false, false, false, false, false, false, false, false, false, false, false, false] rfl rfl (any_of HT_.out (by kernel_rfl)) (fun _ _ _ h => h) (Or.inl ⟨by rfl, ?_⟩) ?_ ?_
    rotate_left
    · intro w'
      go_simp
      with_reducible rfl
    rotate_left
    · simp only [Act.put, List.setIfInBounds_toArray, List.set_cons_zero, List.set_cons_succ, i64_w, i32_w]
      rfl
    refine take_ (i := 1) (N := (some 26)) (v := ?_) (a' := ?_) #[true, true, false, false, false, false, false, false, false, false, false, false, false, false, false, false, false, false, false, false, false, false, false, false, false, false] rfl rfl (take_ofW HT_.out HW_.out (by kernel_rfl)) (fun _ _ _ h => h) (Or.inl ⟨by rfl, ?_⟩) hHeld ?_ ?_
    rotate_left
    · rintro w' ⟨s0, s1, s2⟩
      go_simp
      with_reducible rfl
    rotate_left
    · simp only [Act.put, List.setIfInBounds_toArray, List.set_cons_zero, List.set_cons_succ, i64_w, i32_w]
      rfl
    refine pure_ (i := 2) (N := (some 27)) (v := ?_) (a' := ?_) #[true, true, true, false, false, false, false, false, false, false, false, false, false, false, false, false, false, false, false, false, false, false, false, false, false, false] rfl rfl (any_of HT_.out (by kernel_rfl)) (fun _ _ _ h => h) (Or.inl ⟨by rfl, ?_⟩) ?_ ?_
    rotate_left
    · intro w'
      go_simp
      with_reducible rfl
    rotate_left
    · simp only [Act.put, List.setIfInBounds_toArray, List.set_cons_zero, List.set_cons_succ, i64_w, i32_w]
      rfl
    refine pure_ (i := 3) (N := (some 28)) (v := ?_) (a' := ?_) #[true, true, true, true, false, false, false, false, false, false, false, false, false, false, false, false, false, false, false, false, false, false, false, false, false, false] rfl rfl (any_of HT_.out (by kernel_rfl)) (fun _ _ _ h => h) (Or.inl ⟨by rfl, ?_⟩) ?_ ?_
    rotate_left
    · intro w'
      go_simp
      with_reducible rfl
    rotate_left
    · simp only [Act.put, List.setIfInBounds_toArray, List.set_cons_zero, List.set_cons_succ, i64_w, i32_w]
      rfl
    refine pure_ (i := 4) (N := (some 29)) (v := ?_) (a' := ?_) #[true, true, true, true, true, false, false, false, false, false, false, false, false, false, false, false, false, false, false, false, false, false, false, false, false, false] rfl rfl (any_of HT_.out (by kernel_rfl)) (fun _ _ _ h => h) (Or.inl ⟨by rfl, ?_⟩) ?_ ?_
    rotate_left
    · intro w'
      go_simp
      with_reducible rfl
    rotate_left
    · simp only [Act.put, List.setIfInBounds_toArray, List.set_cons_zero, List.set_cons_succ, i64_w, i32_w]
      rfl
    refine pure_ (i := 5) (N := (some 30)) (v := ?_) (a' := ?_) #[true, true, true, true, true, true, false, false, false, false, false, false, false, false, false, false, false, false, false, false, false, false, false, false, false, false] rfl rfl (any_of HT_.out (by kernel_rfl)) (fun _ _ _ h => h) (Or.inl ⟨by rfl, ?_⟩) ?_ ?_
    rotate_left
    · intro w'
      go_simp
      with_reducible rfl
    rotate_left
    · simp only [Act.put, List.setIfInBounds_toArray, List.set_cons_zero, List.set_cons_succ, i64_w, i32_w]
      rfl
    refine take_ (i := 6) (N := (some 31)) (v := ?_) (a' := ?_) #[true, true, true, true, true, true, true, false, false, false, false, false, false, false, false, false, false, false, false, false, false, false, false, false, false, false] rfl rfl (take_ofW HT_.out HW_.out (by kernel_rfl)) (fun _ _ _ h => h) (Or.inl ⟨by rfl, ?_⟩) hHeld ?_ ?_
    rotate_left
    · rintro w' ⟨s0, s1, s2⟩
      go_simp
      with_reducible rfl
    rotate_left
    · simp only [Act.put, List.setIfInBounds_toArray, List.set_cons_zero, List.set_cons_succ, i64_w, i32_w]
      rfl
    refine pure_ (i := 7) (N := (some 32)) (v := ?_) (a' := ?_) #[true, true, true, true, true, true, true, true, false, false, false, false, false, false, false, false, false, false, false, false, false, false, false, false, false, false] rfl rfl (any_of HT_.out (by kernel_rfl)) (fun _ _ _ h => h) (Or.inl ⟨by rfl, ?_⟩) ?_ ?_
    rotate_left
    · intro w'
      go_simp
      with_reducible rfl
    rotate_left
    · simp only [Act.put, List.setIfInBounds_toArray, List.set_cons_zero, List.set_cons_succ, i64_w, i32_w]
      rfl
    refine take_ (i := 8) (N := (some 33)) (v := ?_) (a' := ?_) #[true, true, true, true, true, true, true, true, true, false, false, false, false, false, false, false, false, false, false, false, false, false, false, false, false, false] rfl rfl (take_ofW HT_.out HW_.out (by kernel_rfl)) (fun _ _ _ h => h) (Or.inl ⟨by rfl, ?_⟩) hHeld ?_ ?_
    rotate_left
    · rintro w' ⟨s0, s1, s2⟩
      go_simp
      with_reducible rfl
    rotate_left
    · simp only [Act.put, List.setIfInBounds_toArray, List.set_cons_zero, List.set_cons_succ, i64_w, i32_w]
      rfl
    refine two_ (i := 9) (j := 11) (Ni := (some 34)) (Nj := (some 36)) #[true, true, true, true, true, true, true, true, true, true, false, false, false, false, false, false, false, false, false, false, false, false, false, false, false, false] #[true, true, true, true, true, true, true, true, true, false, false, true, false, false, false, false, false, false, false, false, false, false, false, false, false, false] rfl rfl rfl rfl (two_of HT_.out (by kernel_rfl)) (by decide) (by decide) (fun K hK => ?_) (fun K hK => ?_)
    · refine goes_ Try.func45 (by kernel_rfl) rfl #[] (by rfl) rfl rfl (by (try simp only [List.map_toArray, List.map_cons, List.map_nil]); first | done | rfl) ?_
      refine (hibernaclelaw15_ones.calls 130 onesS _ ones_v).mono ?_
      rintro e w7 ⟨rfl, hb7⟩
      refine ⟨_, rfl, ?_⟩
      refine hK.out _ _ ⟨pw_cell_below (hb7) hHeld.1, pw_cell_below (hb7) hHeld.2.1, pw_cell_below (hb7) hHeld.2.2⟩ (fun hHeld => ?_)
      clear hK K
      refine norm_ (a' := ?_) ?_ ?_
      rotate_left
      · show Act.put _ (some 34) _ = _
        simp only [Act.put, List.setIfInBounds_toArray, List.set_cons_zero, List.set_cons_succ, i64_w, i32_w]
        rfl
      refine pure_ (i := 10) (N := (some 35)) (v := ?_) (a' := ?_) #[true, true, true, true, true, true, true, true, true, true, true, false, false, false, false, false, false, false, false, false, false, false, false, false, false, false] rfl rfl (any_of HT_.out (by kernel_rfl)) (fun _ _ _ h => h) (Or.inl ⟨by rfl, ?_⟩) ?_ ?_
      rotate_left
      · intro w'
        go_simp
        with_reducible rfl
      rotate_left
      · simp only [Act.put, List.setIfInBounds_toArray, List.set_cons_zero, List.set_cons_succ, i64_w, i32_w]
        rfl
      refine one_ (i := 11) (N := (some 36)) #[true, true, true, true, true, true, true, true, true, true, true, true, false, false, false, false, false, false, false, false, false, false, false, false, false, false] rfl rfl (one_of HT_.out (by kernel_rfl)) (by decide) (fun K hK => ?_)
      refine value_ (w1 := World.alloc (w7) (.cells (madeCells #[.int .u8 0] 64) 5)) (v := .slice (some ⟨(w7).heap.size, 0, none⟩) 64 64) (by rfl) rfl ?_ ?_
      · have mk_ := fun W_ => print_make (P := Try.prog) 77 5 .u8 1 Try.underlying77 info5 (by decide) 64 (by decide) W_
        simp only [Int.cast_ofNat_Int] at mk_
        go_simp
      refine hK.out _ _ ⟨pw_cell_below (below_alloc (Below.refl _ _) _) hHeld.1, pw_cell_below (below_alloc (Below.refl _ _) _) hHeld.2.1, pw_cell_below (below_alloc (Below.refl _ _) _) hHeld.2.2⟩ (fun hHeld => ?_)
      clear hK K
      refine norm_ (a' := ?_) ?_ ?_
      rotate_left
      · show Act.put _ (some 36) _ = _
        simp only [Act.put, List.setIfInBounds_toArray, List.set_cons_zero, List.set_cons_succ, i64_w, i32_w]
        rfl
      refine one_ (i := 12) (N := (some 37)) #[true, true, true, true, true, true, true, true, true, true, true, true, true, false, false, false, false, false, false, false, false, false, false, false, false, false] rfl rfl (one_of HT_.out (by kernel_rfl)) (by decide) (fun K hK => ?_)
      refine value_ (w1 := (w7).alloc (.cells (madeCells #[.int .u8 0] 64) 5)) (v := .string (strOfNums r64)) (by rfl) rfl ?_ ?_
      · have cv_ := HC64.out w7 _ (Below.refl _ _)
        (try simp only [World.size_alloc] at cv_)
        go_simp
      refine hK.out _ _ hHeld (fun hHeld => ?_)
      clear hK K
      refine norm_ (a' := ?_) ?_ ?_
      rotate_left
      · show Act.put _ (some 37) _ = _
        simp only [Act.put, List.setIfInBounds_toArray, List.set_cons_zero, List.set_cons_succ, i64_w, i32_w]
        rfl
      refine pure_ (i := 13) (N := (some 38)) (v := ?_) (a' := ?_) #[true, true, true, true, true, true, true, true, true, true, true, true, true, true, false, false, false, false, false, false, false, false, false, false, false, false] rfl rfl (any_of HT_.out (by kernel_rfl)) (fun _ _ _ h => h) (Or.inl ⟨by rfl, ?_⟩) ?_ ?_
      rotate_left
      · intro w'
        go_simp
        with_reducible rfl
      rotate_left
      · simp only [Act.put, List.setIfInBounds_toArray, List.set_cons_zero, List.set_cons_succ, i64_w, i32_w]
        rfl
      refine pure_ (i := 14) (N := (some 39)) (v := ?_) (a' := ?_) #[true, true, true, true, true, true, true, true, true, true, true, true, true, true, true, false, false, false, false, false, false, false, false, false, false, false] rfl rfl (any_of HT_.out (by kernel_rfl)) (fun _ _ _ h => h) (Or.inl ⟨by rfl, ?_⟩) ?_ ?_
      rotate_left
      · intro w'
        go_simp
        with_reducible rfl
      rotate_left
      · simp only [Act.put, List.setIfInBounds_toArray, List.set_cons_zero, List.set_cons_succ, i64_w, i32_w]
        rfl
      refine pure_ (i := 15) (N := (some 40)) (v := ?_) (a' := ?_) #[true, true, true, true, true, true, true, true, true, true, true, true, true, true, true, true, false, false, false, false, false, false, false, false, false, false] rfl rfl (any_of HT_.out (by kernel_rfl)) (fun _ _ _ h => h) (Or.inl ⟨by rfl, ?_⟩) ?_ ?_
      rotate_left
      · intro w'
        go_simp
        with_reducible rfl
      rotate_left
      · simp only [Act.put, List.setIfInBounds_toArray, List.set_cons_zero, List.set_cons_succ, i64_w, i32_w]
        rfl
      refine pure_ (i := 16) (N := (some 41)) (v := ?_) (a' := ?_) #[true, true, true, true, true, true, true, true, true, true, true, true, true, true, true, true, true, false, false, false, false, false, false, false, false, false] rfl rfl (any_of HT_.out (by kernel_rfl)) (fun _ _ _ h => h) (Or.inl ⟨by rfl, ?_⟩) ?_ ?_
      rotate_left
      · intro w'
        go_simp
        with_reducible rfl
      rotate_left
      · simp only [Act.put, List.setIfInBounds_toArray, List.set_cons_zero, List.set_cons_succ, i64_w, i32_w]
        rfl
      refine pure_ (i := 17) (N := (some 42)) (v := ?_) (a' := ?_) #[true, true, true, true, true, true, true, true, true, true, true, true, true, true, true, true, true, true, false, false, false, false, false, false, false, false] rfl rfl (any_of HT_.out (by kernel_rfl)) (fun _ _ _ h => h) (Or.inl ⟨by rfl, ?_⟩) ?_ ?_
      rotate_left
      · intro w'
        go_simp
        with_reducible rfl
      rotate_left
      · simp only [Act.put, List.setIfInBounds_toArray, List.set_cons_zero, List.set_cons_succ, i64_w, i32_w]
        rfl
      refine take_ (i := 18) (N := (some 43)) (v := ?_) (a' := ?_) #[true, true, true, true, true, true, true, true, true, true, true, true, true, true, true, true, true, true, true, false, false, false, false, false, false, false] rfl rfl (take_ofW HT_.out HW_.out (by kernel_rfl)) (fun _ _ _ h => h) (Or.inl ⟨by rfl, ?_⟩) hHeld ?_ ?_
      rotate_left
      · rintro w' ⟨s0, s1, s2⟩
        go_simp
        with_reducible rfl
      rotate_left
      · simp only [Act.put, List.setIfInBounds_toArray, List.set_cons_zero, List.set_cons_succ, i64_w, i32_w]
        rfl
      refine pure_ (i := 19) (N := (some 44)) (v := ?_) (a' := ?_) #[true, true, true, true, true, true, true, true, true, true, true, true, true, true, true, true, true, true, true, true, false, false, false, false, false, false] rfl rfl (any_of HT_.out (by kernel_rfl)) (fun _ _ _ h => h) (Or.inl ⟨by rfl, ?_⟩) ?_ ?_
      rotate_left
      · intro w'
        go_simp
        with_reducible rfl
      rotate_left
      · simp only [Act.put, List.setIfInBounds_toArray, List.set_cons_zero, List.set_cons_succ, i64_w, i32_w]
        rfl
      refine take_ (i := 20) (N := (some 45)) (v := ?_) (a' := ?_) #[true, true, true, true, true, true, true, true, true, true, true, true, true, true, true, true, true, true, true, true, true, false, false, false, false, false] rfl rfl (take_ofW HT_.out HW_.out (by kernel_rfl)) (fun _ _ _ h => h) (Or.inl ⟨by rfl, ?_⟩) hHeld ?_ ?_
      rotate_left
      · rintro w' ⟨s0, s1, s2⟩
        go_simp
        with_reducible rfl
      rotate_left
      · simp only [Act.put, List.setIfInBounds_toArray, List.set_cons_zero, List.set_cons_succ, i64_w, i32_w]
        rfl
      refine one_ (i := 21) (N := (some 46)) #[true, true, true, true, true, true, true, true, true, true, true, true, true, true, true, true, true, true, true, true, true, true, false, false, false, false] rfl rfl (one_of HT_.out (by kernel_rfl)) (by decide) (fun K hK => ?_)
      refine value_ (w1 := World.alloc (w7.alloc (.cells (madeCells #[.int .u8 0] 64) 5)) (.cells (madeCells #[.int .u8 0] 128) 5)) (v := .slice (some ⟨(w7.alloc (.cells (madeCells #[.int .u8 0] 64) 5)).heap.size, 0, none⟩) 128 128) (by rfl) rfl ?_ ?_
      · have mk_ := fun W_ => print_make (P := Try.prog) 77 5 .u8 1 Try.underlying77 info5 (by decide) 128 (by decide) W_
        simp only [Int.cast_ofNat_Int] at mk_
        go_simp
      refine hK.out _ _ ⟨pw_cell_below (below_alloc (Below.refl _ _) _) hHeld.1, pw_cell_below (below_alloc (Below.refl _ _) _) hHeld.2.1, pw_cell_below (below_alloc (Below.refl _ _) _) hHeld.2.2⟩ (fun hHeld => ?_)
      clear hK K
      refine norm_ (a' := ?_) ?_ ?_
      rotate_left
      · show Act.put _ (some 46) _ = _
        simp only [Act.put, List.setIfInBounds_toArray, List.set_cons_zero, List.set_cons_succ, i64_w, i32_w]
        rfl
      refine one_ (i := 22) (N := (some 47)) #[true, true, true, true, true, true, true, true, true, true, true, true, true, true, true, true, true, true, true, true, true, true, true, false, false, false] rfl rfl (one_of HT_.out (by kernel_rfl)) (by decide) (fun K hK => ?_)
      refine value_ (w1 := (w7.alloc (.cells (madeCells #[.int .u8 0] 64) 5)).alloc (.cells (madeCells #[.int .u8 0] 128) 5)) (v := .string (strOfNums r128)) (by rfl) rfl ?_ ?_
      · have cv_ := HC128.out (w7.alloc (.cells (madeCells #[.int .u8 0] 64) 5))
        (try simp only [World.size_alloc] at cv_)
        go_simp
      refine hK.out _ _ hHeld (fun hHeld => ?_)
      clear hK K
      refine norm_ (a' := ?_) ?_ ?_
      rotate_left
      · show Act.put _ (some 47) _ = _
        simp only [Act.put, List.setIfInBounds_toArray, List.set_cons_zero, List.set_cons_succ, i64_w, i32_w]
        rfl
      refine pure_ (i := 23) (N := (some 48)) (v := ?_) (a' := ?_) #[true, true, true, true, true, true, true, true, true, true, true, true, true, true, true, true, true, true, true, true, true, true, true, true, false, false] rfl rfl (any_of HT_.out (by kernel_rfl)) (fun _ _ _ h => h) (Or.inl ⟨by rfl, ?_⟩) ?_ ?_
      rotate_left
      · intro w'
        go_simp
        with_reducible rfl
      rotate_left
      · simp only [Act.put, List.setIfInBounds_toArray, List.set_cons_zero, List.set_cons_succ, i64_w, i32_w]
        rfl
      refine pure_ (i := 24) (N := (some 49)) (v := ?_) (a' := ?_) #[true, true, true, true, true, true, true, true, true, true, true, true, true, true, true, true, true, true, true, true, true, true, true, true, true, false] rfl rfl (any_of HT_.out (by kernel_rfl)) (fun _ _ _ h => h) (Or.inl ⟨by rfl, ?_⟩) ?_ ?_
      rotate_left
      · intro w'
        go_simp
        with_reducible rfl
      rotate_left
      · simp only [Act.put, List.setIfInBounds_toArray, List.set_cons_zero, List.set_cons_succ, i64_w, i32_w]
        rfl
      refine pure_ (i := 25) (N := (some 0)) (v := ?_) (a' := ?_) #[true, true, true, true, true, true, true, true, true, true, true, true, true, true, true, true, true, true, true, true, true, true, true, true, true, true] rfl rfl (any_of HT_.out (by kernel_rfl)) (fun _ _ _ h => h) (Or.inl ⟨by rfl, ?_⟩) ?_ ?_
      rotate_left
      · intro w'
        go_simp
        with_reducible rfl
      rotate_left
      · simp only [Act.put, List.setIfInBounds_toArray, List.set_cons_zero, List.set_cons_succ, i64_w, i32_w]
        rfl
      refine done_ (done_of HT_.out (by kernel_rfl)) ?_
      go_wp2
      go_ret
      exact ⟨rfl, by first | exact below_alloc (below_alloc (below_step HB7.out hb7) _) _ | skip⟩
    · refine value_ (w1 := World.alloc (W7) (.cells (madeCells #[.int .u8 0] 64) 5)) (v := .slice (some ⟨(W7).heap.size, 0, none⟩) 64 64) (by rfl) rfl ?_ ?_
      · have mk_ := fun W_ => print_make (P := Try.prog) 77 5 .u8 1 Try.underlying77 info5 (by decide) 64 (by decide) W_
        simp only [Int.cast_ofNat_Int] at mk_
        go_simp
      refine hK.out _ _ ⟨pw_cell_below (below_alloc (Below.refl _ _) _) hHeld.1, pw_cell_below (below_alloc (Below.refl _ _) _) hHeld.2.1, pw_cell_below (below_alloc (Below.refl _ _) _) hHeld.2.2⟩ (fun hHeld => ?_)
      clear hK K
      refine norm_ (a' := ?_) ?_ ?_
      rotate_left
      · show Act.put _ (some 36) _ = _
        simp only [Act.put, List.setIfInBounds_toArray, List.set_cons_zero, List.set_cons_succ, i64_w, i32_w]
        rfl
      refine two_ (i := 9) (j := 12) (Ni := (some 34)) (Nj := (some 37)) #[true, true, true, true, true, true, true, true, true, true, false, true, false, false, false, false, false, false, false, false, false, false, false, false, false, false] #[true, true, true, true, true, true, true, true, true, false, false, true, true, false, false, false, false, false, false, false, false, false, false, false, false, false] rfl rfl rfl rfl (two_of HT_.out (by kernel_rfl)) (by decide) (by decide) (fun K hK => ?_) (fun K hK => ?_)
      · refine goes_ Try.func45 (by kernel_rfl) rfl #[] (by rfl) rfl rfl (by (try simp only [List.map_toArray, List.map_cons, List.map_nil]); first | done | rfl) ?_
        refine (hibernaclelaw15_ones.calls 130 onesS _ ones_v).mono ?_
        rintro e w7 ⟨rfl, hb7⟩
        refine ⟨_, rfl, ?_⟩
        refine hK.out _ _ ⟨pw_cell_below (hb7) hHeld.1, pw_cell_below (hb7) hHeld.2.1, pw_cell_below (hb7) hHeld.2.2⟩ (fun hHeld => ?_)
        clear hK K
        refine norm_ (a' := ?_) ?_ ?_
        rotate_left
        · show Act.put _ (some 34) _ = _
          simp only [Act.put, List.setIfInBounds_toArray, List.set_cons_zero, List.set_cons_succ, i64_w, i32_w]
          rfl
        refine pure_ (i := 10) (N := (some 35)) (v := ?_) (a' := ?_) #[true, true, true, true, true, true, true, true, true, true, true, true, false, false, false, false, false, false, false, false, false, false, false, false, false, false] rfl rfl (any_of HT_.out (by kernel_rfl)) (fun _ _ _ h => h) (Or.inl ⟨by rfl, ?_⟩) ?_ ?_
        rotate_left
        · intro w'
          go_simp
          with_reducible rfl
        rotate_left
        · simp only [Act.put, List.setIfInBounds_toArray, List.set_cons_zero, List.set_cons_succ, i64_w, i32_w]
          rfl
        refine one_ (i := 12) (N := (some 37)) #[true, true, true, true, true, true, true, true, true, true, true, true, true, false, false, false, false, false, false, false, false, false, false, false, false, false] rfl rfl (one_of HT_.out (by kernel_rfl)) (by decide) (fun K hK => ?_)
        refine value_ (w1 := w7) (v := .string (strOfNums r64)) (by rfl) rfl ?_ ?_
        · have cv_ := HC64.out W7 w7 hb7
          (try simp only [World.size_alloc] at cv_)
          go_simp
        refine hK.out _ _ hHeld (fun hHeld => ?_)
        clear hK K
        refine norm_ (a' := ?_) ?_ ?_
        rotate_left
        · show Act.put _ (some 37) _ = _
          simp only [Act.put, List.setIfInBounds_toArray, List.set_cons_zero, List.set_cons_succ, i64_w, i32_w]
          rfl
        refine pure_ (i := 13) (N := (some 38)) (v := ?_) (a' := ?_) #[true, true, true, true, true, true, true, true, true, true, true, true, true, true, false, false, false, false, false, false, false, false, false, false, false, false] rfl rfl (any_of HT_.out (by kernel_rfl)) (fun _ _ _ h => h) (Or.inl ⟨by rfl, ?_⟩) ?_ ?_
        rotate_left
        · intro w'
          go_simp
          with_reducible rfl
        rotate_left
        · simp only [Act.put, List.setIfInBounds_toArray, List.set_cons_zero, List.set_cons_succ, i64_w, i32_w]
          rfl
        refine pure_ (i := 14) (N := (some 39)) (v := ?_) (a' := ?_) #[true, true, true, true, true, true, true, true, true, true, true, true, true, true, true, false, false, false, false, false, false, false, false, false, false, false] rfl rfl (any_of HT_.out (by kernel_rfl)) (fun _ _ _ h => h) (Or.inl ⟨by rfl, ?_⟩) ?_ ?_
        rotate_left
        · intro w'
          go_simp
          with_reducible rfl
        rotate_left
        · simp only [Act.put, List.setIfInBounds_toArray, List.set_cons_zero, List.set_cons_succ, i64_w, i32_w]
          rfl
        refine pure_ (i := 15) (N := (some 40)) (v := ?_) (a' := ?_) #[true, true, true, true, true, true, true, true, true, true, true, true, true, true, true, true, false, false, false, false, false, false, false, false, false, false] rfl rfl (any_of HT_.out (by kernel_rfl)) (fun _ _ _ h => h) (Or.inl ⟨by rfl, ?_⟩) ?_ ?_
        rotate_left
        · intro w'
          go_simp
          with_reducible rfl
        rotate_left
        · simp only [Act.put, List.setIfInBounds_toArray, List.set_cons_zero, List.set_cons_succ, i64_w, i32_w]
          rfl
        refine pure_ (i := 16) (N := (some 41)) (v := ?_) (a' := ?_) #[true, true, true, true, true, true, true, true, true, true, true, true, true, true, true, true, true, false, false, false, false, false, false, false, false, false] rfl rfl (any_of HT_.out (by kernel_rfl)) (fun _ _ _ h => h) (Or.inl ⟨by rfl, ?_⟩) ?_ ?_
        rotate_left
        · intro w'
          go_simp
          with_reducible rfl
        rotate_left
        · simp only [Act.put, List.setIfInBounds_toArray, List.set_cons_zero, List.set_cons_succ, i64_w, i32_w]
          rfl
        refine pure_ (i := 17) (N := (some 42)) (v := ?_) (a' := ?_) #[true, true, true, true, true, true, true, true, true, true, true, true, true, true, true, true, true, true, false, false, false, false, false, false, false, false] rfl rfl (any_of HT_.out (by kernel_rfl)) (fun _ _ _ h => h) (Or.inl ⟨by rfl, ?_⟩) ?_ ?_
        rotate_left
        · intro w'
          go_simp
          with_reducible rfl
        rotate_left
        · simp only [Act.put, List.setIfInBounds_toArray, List.set_cons_zero, List.set_cons_succ, i64_w, i32_w]
          rfl
        refine take_ (i := 18) (N := (some 43)) (v := ?_) (a' := ?_) #[true, true, true, true, true, true, true, true, true, true, true, true, true, true, true, true, true, true, true, false, false, false, false, false, false, false] rfl rfl (take_ofW HT_.out HW_.out (by kernel_rfl)) (fun _ _ _ h => h) (Or.inl ⟨by rfl, ?_⟩) hHeld ?_ ?_
        rotate_left
        · rintro w' ⟨s0, s1, s2⟩
          go_simp
          with_reducible rfl
        rotate_left
        · simp only [Act.put, List.setIfInBounds_toArray, List.set_cons_zero, List.set_cons_succ, i64_w, i32_w]
          rfl
        refine pure_ (i := 19) (N := (some 44)) (v := ?_) (a' := ?_) #[true, true, true, true, true, true, true, true, true, true, true, true, true, true, true, true, true, true, true, true, false, false, false, false, false, false] rfl rfl (any_of HT_.out (by kernel_rfl)) (fun _ _ _ h => h) (Or.inl ⟨by rfl, ?_⟩) ?_ ?_
        rotate_left
        · intro w'
          go_simp
          with_reducible rfl
        rotate_left
        · simp only [Act.put, List.setIfInBounds_toArray, List.set_cons_zero, List.set_cons_succ, i64_w, i32_w]
          rfl
        refine take_ (i := 20) (N := (some 45)) (v := ?_) (a' := ?_) #[true, true, true, true, true, true, true, true, true, true, true, true, true, true, true, true, true, true, true, true, true, false, false, false, false, false] rfl rfl (take_ofW HT_.out HW_.out (by kernel_rfl)) (fun _ _ _ h => h) (Or.inl ⟨by rfl, ?_⟩) hHeld ?_ ?_
        rotate_left
        · rintro w' ⟨s0, s1, s2⟩
          go_simp
          with_reducible rfl
        rotate_left
        · simp only [Act.put, List.setIfInBounds_toArray, List.set_cons_zero, List.set_cons_succ, i64_w, i32_w]
          rfl
        refine one_ (i := 21) (N := (some 46)) #[true, true, true, true, true, true, true, true, true, true, true, true, true, true, true, true, true, true, true, true, true, true, false, false, false, false] rfl rfl (one_of HT_.out (by kernel_rfl)) (by decide) (fun K hK => ?_)
        refine value_ (w1 := World.alloc (w7) (.cells (madeCells #[.int .u8 0] 128) 5)) (v := .slice (some ⟨(w7).heap.size, 0, none⟩) 128 128) (by rfl) rfl ?_ ?_
        · have mk_ := fun W_ => print_make (P := Try.prog) 77 5 .u8 1 Try.underlying77 info5 (by decide) 128 (by decide) W_
          simp only [Int.cast_ofNat_Int] at mk_
          go_simp
        refine hK.out _ _ ⟨pw_cell_below (below_alloc (Below.refl _ _) _) hHeld.1, pw_cell_below (below_alloc (Below.refl _ _) _) hHeld.2.1, pw_cell_below (below_alloc (Below.refl _ _) _) hHeld.2.2⟩ (fun hHeld => ?_)
        clear hK K
        refine norm_ (a' := ?_) ?_ ?_
        rotate_left
        · show Act.put _ (some 46) _ = _
          simp only [Act.put, List.setIfInBounds_toArray, List.set_cons_zero, List.set_cons_succ, i64_w, i32_w]
          rfl
        refine one_ (i := 22) (N := (some 47)) #[true, true, true, true, true, true, true, true, true, true, true, true, true, true, true, true, true, true, true, true, true, true, true, false, false, false] rfl rfl (one_of HT_.out (by kernel_rfl)) (by decide) (fun K hK => ?_)
        refine value_ (w1 := (w7).alloc (.cells (madeCells #[.int .u8 0] 128) 5)) (v := .string (strOfNums r128)) (by rfl) rfl ?_ ?_
        · have cv_ := HC128.out (w7)
          (try simp only [World.size_alloc] at cv_)
          go_simp
        refine hK.out _ _ hHeld (fun hHeld => ?_)
        clear hK K
        refine norm_ (a' := ?_) ?_ ?_
        rotate_left
        · show Act.put _ (some 47) _ = _
          simp only [Act.put, List.setIfInBounds_toArray, List.set_cons_zero, List.set_cons_succ, i64_w, i32_w]
          rfl
        refine pure_ (i := 23) (N := (some 48)) (v := ?_) (a' := ?_) #[true, true, true, true, true, true, true, true, true, true, true, true, true, true, true, true, true, true, true, true, true, true, true, true, false, false] rfl rfl (any_of HT_.out (by kernel_rfl)) (fun _ _ _ h => h) (Or.inl ⟨by rfl, ?_⟩) ?_ ?_
        rotate_left
        · intro w'
          go_simp
          with_reducible rfl
        rotate_left
        · simp only [Act.put, List.setIfInBounds_toArray, List.set_cons_zero, List.set_cons_succ, i64_w, i32_w]
          rfl
        refine pure_ (i := 24) (N := (some 49)) (v := ?_) (a' := ?_) #[true, true, true, true, true, true, true, true, true, true, true, true, true, true, true, true, true, true, true, true, true, true, true, true, true, false] rfl rfl (any_of HT_.out (by kernel_rfl)) (fun _ _ _ h => h) (Or.inl ⟨by rfl, ?_⟩) ?_ ?_
        rotate_left
        · intro w'
          go_simp
          with_reducible rfl
        rotate_left
        · simp only [Act.put, List.setIfInBounds_toArray, List.set_cons_zero, List.set_cons_succ, i64_w, i32_w]
          rfl
        refine pure_ (i := 25) (N := (some 0)) (v := ?_) (a' := ?_) #[true, true, true, true, true, true, true, true, true, true, true, true, true, true, true, true, true, true, true, true, true, true, true, true, true, true] rfl rfl (any_of HT_.out (by kernel_rfl)) (fun _ _ _ h => h) (Or.inl ⟨by rfl, ?_⟩) ?_ ?_
        rotate_left
        · intro w'
          go_simp
          with_reducible rfl
        rotate_left
        · simp only [Act.put, List.setIfInBounds_toArray, List.set_cons_zero, List.set_cons_succ, i64_w, i32_w]
          rfl
        refine done_ (done_of HT_.out (by kernel_rfl)) ?_
        go_wp2
        go_ret
        exact ⟨rfl, by first | exact below_alloc (below_step (below_alloc HB7.out _) hb7) _ | skip⟩
      · refine value_ (w1 := (W7).alloc (.cells (madeCells #[.int .u8 0] 64) 5)) (v := .string (strOfNums r64)) (by rfl) rfl ?_ ?_
        · have cv_ := HC64.out W7 _ (Below.refl _ _)
          (try simp only [World.size_alloc] at cv_)
          go_simp
        refine hK.out _ _ hHeld (fun hHeld => ?_)
        clear hK K
        refine norm_ (a' := ?_) ?_ ?_
        rotate_left
        · show Act.put _ (some 37) _ = _
          simp only [Act.put, List.setIfInBounds_toArray, List.set_cons_zero, List.set_cons_succ, i64_w, i32_w]
          rfl
        refine one_ (i := 9) (N := (some 34)) #[true, true, true, true, true, true, true, true, true, true, false, true, true, false, false, false, false, false, false, false, false, false, false, false, false, false] rfl rfl (one_of HT_.out (by kernel_rfl)) (by decide) (fun K hK => ?_)
        refine goes_ Try.func45 (by kernel_rfl) rfl #[] (by rfl) rfl rfl (by (try simp only [List.map_toArray, List.map_cons, List.map_nil]); first | done | rfl) ?_
        refine (hibernaclelaw15_ones.calls 130 onesS _ ones_v).mono ?_
        rintro e w7 ⟨rfl, hb7⟩
        refine ⟨_, rfl, ?_⟩
        refine hK.out _ _ ⟨pw_cell_below (hb7) hHeld.1, pw_cell_below (hb7) hHeld.2.1, pw_cell_below (hb7) hHeld.2.2⟩ (fun hHeld => ?_)
        clear hK K
        refine norm_ (a' := ?_) ?_ ?_
        rotate_left
        · show Act.put _ (some 34) _ = _
          simp only [Act.put, List.setIfInBounds_toArray, List.set_cons_zero, List.set_cons_succ, i64_w, i32_w]
          rfl
        refine pure_ (i := 10) (N := (some 35)) (v := ?_) (a' := ?_) #[true, true, true, true, true, true, true, true, true, true, true, true, true, false, false, false, false, false, false, false, false, false, false, false, false, false] rfl rfl (any_of HT_.out (by kernel_rfl)) (fun _ _ _ h => h) (Or.inl ⟨by rfl, ?_⟩) ?_ ?_
        rotate_left
        · intro w'
          go_simp
          with_reducible rfl
        rotate_left
        · simp only [Act.put, List.setIfInBounds_toArray, List.set_cons_zero, List.set_cons_succ, i64_w, i32_w]
          rfl
        refine pure_ (i := 13) (N := (some 38)) (v := ?_) (a' := ?_) #[true, true, true, true, true, true, true, true, true, true, true, true, true, true, false, false, false, false, false, false, false, false, false, false, false, false] rfl rfl (any_of HT_.out (by kernel_rfl)) (fun _ _ _ h => h) (Or.inl ⟨by rfl, ?_⟩) ?_ ?_
        rotate_left
        · intro w'
          go_simp
          with_reducible rfl
        rotate_left
        · simp only [Act.put, List.setIfInBounds_toArray, List.set_cons_zero, List.set_cons_succ, i64_w, i32_w]
          rfl
        refine pure_ (i := 14) (N := (some 39)) (v := ?_) (a' := ?_) #[true, true, true, true, true, true, true, true, true, true, true, true, true, true, true, false, false, false, false, false, false, false, false, false, false, false] rfl rfl (any_of HT_.out (by kernel_rfl)) (fun _ _ _ h => h) (Or.inl ⟨by rfl, ?_⟩) ?_ ?_
        rotate_left
        · intro w'
          go_simp
          with_reducible rfl
        rotate_left
        · simp only [Act.put, List.setIfInBounds_toArray, List.set_cons_zero, List.set_cons_succ, i64_w, i32_w]
          rfl
        refine pure_ (i := 15) (N := (some 40)) (v := ?_) (a' := ?_) #[true, true, true, true, true, true, true, true, true, true, true, true, true, true, true, true, false, false, false, false, false, false, false, false, false, false] rfl rfl (any_of HT_.out (by kernel_rfl)) (fun _ _ _ h => h) (Or.inl ⟨by rfl, ?_⟩) ?_ ?_
        rotate_left
        · intro w'
          go_simp
          with_reducible rfl
        rotate_left
        · simp only [Act.put, List.setIfInBounds_toArray, List.set_cons_zero, List.set_cons_succ, i64_w, i32_w]
          rfl
        refine pure_ (i := 16) (N := (some 41)) (v := ?_) (a' := ?_) #[true, true, true, true, true, true, true, true, true, true, true, true, true, true, true, true, true, false, false, false, false, false, false, false, false, false] rfl rfl (any_of HT_.out (by kernel_rfl)) (fun _ _ _ h => h) (Or.inl ⟨by rfl, ?_⟩) ?_ ?_
        rotate_left
        · intro w'
          go_simp
          with_reducible rfl
        rotate_left
        · simp only [Act.put, List.setIfInBounds_toArray, List.set_cons_zero, List.set_cons_succ, i64_w, i32_w]
          rfl
        refine pure_ (i := 17) (N := (some 42)) (v := ?_) (a' := ?_) #[true, true, true, true, true, true, true, true, true, true, true, true, true, true, true, true, true, true, false, false, false, false, false, false, false, false] rfl rfl (any_of HT_.out (by kernel_rfl)) (fun _ _ _ h => h) (Or.inl ⟨by rfl, ?_⟩) ?_ ?_
        rotate_left
        · intro w'
          go_simp
          with_reducible rfl
        rotate_left
        · simp only [Act.put, List.setIfInBounds_toArray, List.set_cons_zero, List.set_cons_succ, i64_w, i32_w]
          rfl
        refine take_ (i := 18) (N := (some 43)) (v := ?_) (a' := ?_) #[true, true, true, true, true, true, true, true, true, true, true, true, true, true, true, true, true, true, true, false, false, false, false, false, false, false] rfl rfl (take_ofW HT_.out HW_.out (by kernel_rfl)) (fun _ _ _ h => h) (Or.inl ⟨by rfl, ?_⟩) hHeld ?_ ?_
        rotate_left
        · rintro w' ⟨s0, s1, s2⟩
          go_simp
          with_reducible rfl
        rotate_left
        · simp only [Act.put, List.setIfInBounds_toArray, List.set_cons_zero, List.set_cons_succ, i64_w, i32_w]
          rfl
        refine pure_ (i := 19) (N := (some 44)) (v := ?_) (a' := ?_) #[true, true, true, true, true, true, true, true, true, true, true, true, true, true, true, true, true, true, true, true, false, false, false, false, false, false] rfl rfl (any_of HT_.out (by kernel_rfl)) (fun _ _ _ h => h) (Or.inl ⟨by rfl, ?_⟩) ?_ ?_
        rotate_left
        · intro w'
          go_simp
          with_reducible rfl
        rotate_left
        · simp only [Act.put, List.setIfInBounds_toArray, List.set_cons_zero, List.set_cons_succ, i64_w, i32_w]
          rfl
        refine take_ (i := 20) (N := (some 45)) (v := ?_) (a' := ?_) #[true, true, true, true, true, true, true, true, true, true, true, true, true, true, true, true, true, true, true, true, true, false, false, false, false, false] rfl rfl (take_ofW HT_.out HW_.out (by kernel_rfl)) (fun _ _ _ h => h) (Or.inl ⟨by rfl, ?_⟩) hHeld ?_ ?_
        rotate_left
        · rintro w' ⟨s0, s1, s2⟩
          go_simp
          with_reducible rfl
        rotate_left
        · simp only [Act.put, List.setIfInBounds_toArray, List.set_cons_zero, List.set_cons_succ, i64_w, i32_w]
          rfl
        refine one_ (i := 21) (N := (some 46)) #[true, true, true, true, true, true, true, true, true, true, true, true, true, true, true, true, true, true, true, true, true, true, false, false, false, false] rfl rfl (one_of HT_.out (by kernel_rfl)) (by decide) (fun K hK => ?_)
        refine value_ (w1 := World.alloc (w7) (.cells (madeCells #[.int .u8 0] 128) 5)) (v := .slice (some ⟨(w7).heap.size, 0, none⟩) 128 128) (by rfl) rfl ?_ ?_
        · have mk_ := fun W_ => print_make (P := Try.prog) 77 5 .u8 1 Try.underlying77 info5 (by decide) 128 (by decide) W_
          simp only [Int.cast_ofNat_Int] at mk_
          go_simp
        refine hK.out _ _ ⟨pw_cell_below (below_alloc (Below.refl _ _) _) hHeld.1, pw_cell_below (below_alloc (Below.refl _ _) _) hHeld.2.1, pw_cell_below (below_alloc (Below.refl _ _) _) hHeld.2.2⟩ (fun hHeld => ?_)
        clear hK K
        refine norm_ (a' := ?_) ?_ ?_
        rotate_left
        · show Act.put _ (some 46) _ = _
          simp only [Act.put, List.setIfInBounds_toArray, List.set_cons_zero, List.set_cons_succ, i64_w, i32_w]
          rfl
        refine one_ (i := 22) (N := (some 47)) #[true, true, true, true, true, true, true, true, true, true, true, true, true, true, true, true, true, true, true, true, true, true, true, false, false, false] rfl rfl (one_of HT_.out (by kernel_rfl)) (by decide) (fun K hK => ?_)
        refine value_ (w1 := (w7).alloc (.cells (madeCells #[.int .u8 0] 128) 5)) (v := .string (strOfNums r128)) (by rfl) rfl ?_ ?_
        · have cv_ := HC128.out (w7)
          (try simp only [World.size_alloc] at cv_)
          go_simp
        refine hK.out _ _ hHeld (fun hHeld => ?_)
        clear hK K
        refine norm_ (a' := ?_) ?_ ?_
        rotate_left
        · show Act.put _ (some 47) _ = _
          simp only [Act.put, List.setIfInBounds_toArray, List.set_cons_zero, List.set_cons_succ, i64_w, i32_w]
          rfl
        refine pure_ (i := 23) (N := (some 48)) (v := ?_) (a' := ?_) #[true, true, true, true, true, true, true, true, true, true, true, true, true, true, true, true, true, true, true, true, true, true, true, true, false, false] rfl rfl (any_of HT_.out (by kernel_rfl)) (fun _ _ _ h => h) (Or.inl ⟨by rfl, ?_⟩) ?_ ?_
        rotate_left
        · intro w'
          go_simp
          with_reducible rfl
        rotate_left
        · simp only [Act.put, List.setIfInBounds_toArray, List.set_cons_zero, List.set_cons_succ, i64_w, i32_w]
          rfl
        refine pure_ (i := 24) (N := (some 49)) (v := ?_) (a' := ?_) #[true, true, true, true, true, true, true, true, true, true, true, true, true, true, true, true, true, true, true, true, true, true, true, true, true, false] rfl rfl (any_of HT_.out (by kernel_rfl)) (fun _ _ _ h => h) (Or.inl ⟨by rfl, ?_⟩) ?_ ?_
        rotate_left
        · intro w'
          go_simp
          with_reducible rfl
        rotate_left
        · simp only [Act.put, List.setIfInBounds_toArray, List.set_cons_zero, List.set_cons_succ, i64_w, i32_w]
          rfl
        refine pure_ (i := 25) (N := (some 0)) (v := ?_) (a' := ?_) #[true, true, true, true, true, true, true, true, true, true, true, true, true, true, true, true, true, true, true, true, true, true, true, true, true, true] rfl rfl (any_of HT_.out (by kernel_rfl)) (fun _ _ _ h => h) (Or.inl ⟨by rfl, ?_⟩) ?_ ?_
        rotate_left
        · intro w'
          go_simp
          with_reducible rfl
        rotate_left
        · simp only [Act.put, List.setIfInBounds_toArray, List.set_cons_zero, List.set_cons_succ, i64_w, i32_w]
          rfl
        refine done_ (done_of HT_.out (by kernel_rfl)) ?_
        go_wp2
        go_ret
        exact ⟨rfl, by first | exact below_alloc (below_step (below_alloc HB7.out _) hb7) _ | skip⟩
  have hdb : w.heap.size ≤ d := by rw [HD.out]; exact HB1.out.size
  have hd6 := blk_put (blk_put (blk_put HX2.out 0 (.slice A0 [zeroS, zeroS].length c0) rfl) 1 (.slice A1 ([] : List S27).length c1) rfl) 2 (.int .i64 (-1)) rfl
  have hs0 := R_set3 (Kd.R_below HO0.out HL2.out) HX2.out (by decide) (.slice A0 [zeroS, zeroS].length c0) (.slice A1 ([] : List S27).length c1) (.int .i64 (-1))
  have hs1 := R_set3 (Kd.R_below HO1.out HL2.out) HX2.out (by decide) (.slice A0 [zeroS, zeroS].length c0) (.slice A1 ([] : List S27).length c1) (.int .i64 (-1))
  have hb6 := below_set3 (below_step HB1.out HL2.out) hdb (.slice A0 [zeroS, zeroS].length c0) (.slice A1 ([] : List S27).length c1) (.int .i64 (-1))
  simp only [List.length_cons, List.length_nil, Nat.zero_add, Nat.reduceAdd] at hd6 hs0 hs1 hb6 ⊢
  generalize ((w2.setCell ⟨d, 0, none⟩ (.slice A0 2 c0)).setCell ⟨d, 1, none⟩ (.slice A1 0 c1)).setCell ⟨d, 2, none⟩ (.int .i64 (-1)) = W6 at hd6 hs0 hs1 hb6 ⊢
  clear k0 k1 k2 f0 f1 f2 HO0 HO1 HB1 HX2 HL2 HD
  refine start_ (n := 9) (S := fun w' => w'.cell? ⟨d, 0, none⟩ = some (.slice A0 2 c0) ∧ w'.cell? ⟨d, 1, none⟩ = some (.slice A1 0 c1) ∧ w'.cell? ⟨d, 2, none⟩ = some (.int .i64 (-1))) (ds := [7]) #[false, false, false, false, false, false, false, false, false] (by kernel_rfl) rfl rfl ⟨(blk_cell hd6 0).trans rfl, (blk_cell hd6 1).trans rfl, (blk_cell hd6 2).trans rfl⟩ (fun hHeld => ?_); refine with_tabW fixed2.tab fixed2.bits (fun HT_ HW_ => ?_)
  have HB7 := Aside0.mk (below_drew1 hb6)
  have HS0 := Aside0.mk (Kd.R_drew hs0)
  have HS1 := Aside0.mk (Kd.R_drew hs1)
  have H7s : w.heap.size ≤ W6.drew.heap.size := HB7.out.size
  generalize W6.drew = W7 at HB7 HS0 HS1 H7s hHeld ⊢
  refine take_ (i := 0) (N := (some 11)) (v := ?_) (a' := ?_) #[true, false, false, false, false, false, false, false, false] rfl rfl (take_ofW HT_.out HW_.out (by kernel_rfl)) (fun _ _ _ h => h) (Or.inl ⟨by rfl, ?_⟩) hHeld ?_ ?_
  rotate_left
  · rintro w' ⟨s0, s1, s2⟩
    go_simp
    with_reducible rfl
  rotate_left
  · simp only [Act.put, List.setIfInBounds_toArray, List.set_cons_zero, List.set_cons_succ, i64_w, i32_w]
    rfl
  refine two_ (i := 1) (j := 6) (Ni := (some 12)) (Nj := (some 3)) #[true, true, false, false, false, false, false, false, false] #[true, false, false, false, false, false, true, false, false] rfl rfl rfl rfl (two_of HT_.out (by kernel_rfl)) (by decide) (by decide) (fun K hK => ?_) (fun K hK => ?_)
  · refine goes_ Try.func45 (by kernel_rfl) rfl #[] (by rfl) rfl rfl (by (try simp only [List.map_toArray, List.map_cons, List.map_nil]); first | done | rfl) ?_
    refine (hibernaclelaw15_ones.calls 130 onesS _ ones_v).mono ?_
    rintro e w5 ⟨rfl, hb5⟩
    refine ⟨_, rfl, ?_⟩
    refine hK.out _ _ ⟨pw_cell_below (hb5) hHeld.1, pw_cell_below (hb5) hHeld.2.1, pw_cell_below (hb5) hHeld.2.2⟩ (fun hHeld => ?_)
    clear hK K
    refine norm_ (a' := ?_) ?_ ?_
    rotate_left
    · show Act.put _ (some 12) _ = _
      simp only [Act.put, List.setIfInBounds_toArray, List.set_cons_zero, List.set_cons_succ, i64_w, i32_w]
      rfl
    refine two_ (i := 2) (j := 6) (Ni := (some 13)) (Nj := (some 3)) #[true, true, true, false, false, false, false, false, false] #[true, true, false, false, false, false, true, false, false] rfl rfl rfl rfl (two_of HT_.out (by kernel_rfl)) (by decide) (by decide) (fun K hK => ?_) (fun K hK => ?_)
    · refine goes_ Try.func38 (by kernel_rfl) rfl #[.agg #[.slice A0 2 c0, .slice A1 0 c1, .int .i64 (-1)], .int .i64 0, .string onesS] (by rfl) rfl rfl (by (try simp only [List.map_toArray, List.map_cons, List.map_nil]); first | done | rfl) ?_
      refine (drive_Put.calls 5 A0 c0 [zeroS, zeroS] A1 c1 [] (-1) 0 onesS _ _ _ _ _ (Kd.C_below (Kd.R_reads' HS0.out).2.2 (hb5)) (Kd.R_reads' HS0.out).2.1 (Kd.C_below (Kd.R_reads' HS1.out).2.2 (hb5)) (Kd.R_reads' HS1.out).2.1 put_v).mono ?_
      rintro e w6 ⟨v2, v3, rfl, ho2, ho3, hb6⟩
      obtain ⟨A2, c2, rfl⟩ := Kd.R_slice ho2
      obtain ⟨A3, c3, rfl⟩ := Kd.R_slice ho3
      refine ⟨_, rfl, ?_⟩
      refine hK.out _ _ ⟨pw_cell_below (hb6) hHeld.1, pw_cell_below (hb6) hHeld.2.1, pw_cell_below (hb6) hHeld.2.2⟩ (fun hHeld => ?_)
      clear hK K
      refine norm_ (a' := ?_) ?_ ?_
      rotate_left
      · show Act.put _ (some 13) _ = _
        simp only [Act.put, List.setIfInBounds_toArray, List.set_cons_zero, List.set_cons_succ, i64_w, i32_w]
        rfl
      refine pure_ (i := 3) (N := (some 10)) (v := ?_) (a' := ?_) #[true, true, true, true, false, false, false, false, false] rfl rfl (any_of HT_.out (by kernel_rfl)) (fun _ _ _ h => h) (Or.inl ⟨by rfl, ?_⟩) ?_ ?_
      rotate_left
      · intro w'
        go_simp
        with_reducible rfl
      rotate_left
      · simp only [Act.put, List.setIfInBounds_toArray, List.set_cons_zero, List.set_cons_succ, i64_w, i32_w]
        rfl
      refine pure_ (i := 4) (N := (some 14)) (v := ?_) (a' := ?_) #[true, true, true, true, true, false, false, false, false] rfl rfl (any_of HT_.out (by kernel_rfl)) (fun _ _ _ h => h) (Or.inl ⟨by rfl, ?_⟩) ?_ ?_
      rotate_left
      · intro w'
        go_simp
        with_reducible rfl
      rotate_left
      · simp only [Act.put, List.setIfInBounds_toArray, List.set_cons_zero, List.set_cons_succ, i64_w, i32_w]
        rfl
      refine pure_ (i := 5) (N := (some 15)) (v := ?_) (a' := ?_) #[true, true, true, true, true, true, false, false, false] rfl rfl (any_of HT_.out (by kernel_rfl)) (fun _ _ _ h => h) (Or.inl ⟨by rfl, ?_⟩) ?_ ?_
      rotate_left
      · intro w'
        go_simp
        with_reducible rfl
      rotate_left
      · simp only [Act.put, List.setIfInBounds_toArray, List.set_cons_zero, List.set_cons_succ, i64_w, i32_w]
        rfl
      refine one_ (i := 6) (N := (some 3)) #[true, true, true, true, true, true, true, false, false] rfl rfl (one_of HT_.out (by kernel_rfl)) (by decide) (fun K hK => ?_)
      refine value_ (w1 := World.alloc (w6) (.cells #[.slice none 0 0, .slice none 0 0, .int .i64 0] 29)) (v := .pointer (some ⟨(w6).heap.size, 0, none⟩)) (by rfl) rfl ?_ ?_
      · go_simp
      refine hK.out _ _ ⟨pw_cell_below (below_alloc (Below.refl _ _) _) hHeld.1, pw_cell_below (below_alloc (Below.refl _ _) _) hHeld.2.1, pw_cell_below (below_alloc (Below.refl _ _) _) hHeld.2.2⟩ (fun hHeld => ?_)
      clear hK K
      refine norm_ (a' := ?_) ?_ ?_
      rotate_left
      · show Act.put _ (some 3) _ = _
        simp only [Act.put, List.setIfInBounds_toArray, List.set_cons_zero, List.set_cons_succ, i64_w, i32_w]
        rfl
      refine last_ (i := 7) (N := none) #[true, true, true, true, true, true, true, true, false] rfl rfl (one_of HT_.out (by kernel_rfl)) (by decide) (fun K hK => ?_)
      refine skip_ (w1 := ?_) (by rfl) rfl ?_ ?_
      rotate_left
      · go_simp
        rfl
      refine hK.out _ _ ?_
      clear hK K
      refine pure_ (i := 8) (N := (some 4)) (v := ?_) (a' := ?_) #[true, true, true, true, true, true, true, true, true] rfl rfl (any_of HT_.out (by kernel_rfl)) (fun _ _ _ h => h) (Or.inl ⟨by rfl, ?_⟩) ?_ ?_
      rotate_left
      · intro w'
        go_simp
        with_reducible rfl
      rotate_left
      · simp only [Act.put, List.setIfInBounds_toArray, List.set_cons_zero, List.set_cons_succ, i64_w, i32_w]
        rfl
      refine done_ (done_of HT_.out (by kernel_rfl)) ?_
      go_wp2
      exact key w6.heap.size A2 c2 A3 c3 _ (blk_new w6 _) (Kd.R_alloc (Kd.R_lower ho2 (Nat.le_trans H7s hb5.size)) _) (Kd.R_alloc (Kd.R_lower ho3 (Nat.le_trans H7s hb5.size)) _) (below_base (below_base (below_base HB7.out H7s hb5) (Nat.le_trans H7s hb5.size) hb6) (Nat.le_trans (Nat.le_trans H7s hb5.size) hb6.size) (below_alloc (Below.refl _ _) _))
    · refine value_ (w1 := World.alloc (w5) (.cells #[.slice none 0 0, .slice none 0 0, .int .i64 0] 29)) (v := .pointer (some ⟨(w5).heap.size, 0, none⟩)) (by rfl) rfl ?_ ?_
      · go_simp
      refine hK.out _ _ ⟨pw_cell_below (below_alloc (Below.refl _ _) _) hHeld.1, pw_cell_below (below_alloc (Below.refl _ _) _) hHeld.2.1, pw_cell_below (below_alloc (Below.refl _ _) _) hHeld.2.2⟩ (fun hHeld => ?_)
      clear hK K
      refine norm_ (a' := ?_) ?_ ?_
      rotate_left
      · show Act.put _ (some 3) _ = _
        simp only [Act.put, List.setIfInBounds_toArray, List.set_cons_zero, List.set_cons_succ, i64_w, i32_w]
        rfl
      refine one_ (i := 2) (N := (some 13)) #[true, true, true, false, false, false, true, false, false] rfl rfl (one_of HT_.out (by kernel_rfl)) (by decide) (fun K hK => ?_)
      refine goes_ Try.func38 (by kernel_rfl) rfl #[.agg #[.slice A0 2 c0, .slice A1 0 c1, .int .i64 (-1)], .int .i64 0, .string onesS] (by rfl) rfl rfl (by (try simp only [List.map_toArray, List.map_cons, List.map_nil]); first | done | rfl) ?_
      refine (drive_Put.calls 5 A0 c0 [zeroS, zeroS] A1 c1 [] (-1) 0 onesS _ _ _ _ _ (Kd.C_below (Kd.R_reads' HS0.out).2.2 (below_alloc hb5 _)) (Kd.R_reads' HS0.out).2.1 (Kd.C_below (Kd.R_reads' HS1.out).2.2 (below_alloc hb5 _)) (Kd.R_reads' HS1.out).2.1 put_v).mono ?_
      rintro e w6 ⟨v2, v3, rfl, ho2, ho3, hb6⟩
      obtain ⟨A2, c2, rfl⟩ := Kd.R_slice ho2
      obtain ⟨A3, c3, rfl⟩ := Kd.R_slice ho3
      refine ⟨_, rfl, ?_⟩
      refine hK.out _ _ ⟨pw_cell_below (hb6) hHeld.1, pw_cell_below (hb6) hHeld.2.1, pw_cell_below (hb6) hHeld.2.2⟩ (fun hHeld => ?_)
      clear hK K
      refine norm_ (a' := ?_) ?_ ?_
      rotate_left
      · show Act.put _ (some 13) _ = _
        simp only [Act.put, List.setIfInBounds_toArray, List.set_cons_zero, List.set_cons_succ, i64_w, i32_w]
        rfl
      refine pure_ (i := 3) (N := (some 10)) (v := ?_) (a' := ?_) #[true, true, true, true, false, false, true, false, false] rfl rfl (any_of HT_.out (by kernel_rfl)) (fun _ _ _ h => h) (Or.inl ⟨by rfl, ?_⟩) ?_ ?_
      rotate_left
      · intro w'
        go_simp
        with_reducible rfl
      rotate_left
      · simp only [Act.put, List.setIfInBounds_toArray, List.set_cons_zero, List.set_cons_succ, i64_w, i32_w]
        rfl
      refine pure_ (i := 4) (N := (some 14)) (v := ?_) (a' := ?_) #[true, true, true, true, true, false, true, false, false] rfl rfl (any_of HT_.out (by kernel_rfl)) (fun _ _ _ h => h) (Or.inl ⟨by rfl, ?_⟩) ?_ ?_
      rotate_left
      · intro w'
        go_simp
        with_reducible rfl
      rotate_left
      · simp only [Act.put, List.setIfInBounds_toArray, List.set_cons_zero, List.set_cons_succ, i64_w, i32_w]
        rfl
      refine pure_ (i := 5) (N := (some 15)) (v := ?_) (a' := ?_) #[true, true, true, true, true, true, true, false, false] rfl rfl (any_of HT_.out (by kernel_rfl)) (fun _ _ _ h => h) (Or.inl ⟨by rfl, ?_⟩) ?_ ?_
      rotate_left
      · intro w'
        go_simp
        with_reducible rfl
      rotate_left
      · simp only [Act.put, List.setIfInBounds_toArray, List.set_cons_zero, List.set_cons_succ, i64_w, i32_w]
        rfl
      have PB := Aside0.mk (blk_below (blk_new w5 (.cells #[.slice none 0 0, .slice none 0 0, .int .i64 0] 29)) hb6)
      have q0 := (blk_cell PB.out 0).trans rfl
      have q1 := (blk_cell PB.out 1).trans rfl
      have q2 := (blk_cell PB.out 2).trans rfl
      have r0 := blk_frozen PB.out 0
      have r1 := blk_frozen PB.out 1
      have r2 := blk_frozen PB.out 2
      refine last_ (i := 7) (N := none) #[true, true, true, true, true, true, true, true, false] rfl rfl (one_of HT_.out (by kernel_rfl)) (by decide) (fun K hK => ?_)
      refine skip_ (w1 := ?_) (by rfl) rfl ?_ ?_
      rotate_left
      · go_simp
        rfl
      refine hK.out _ _ ?_
      clear hK K
      refine pure_ (i := 8) (N := (some 4)) (v := ?_) (a' := ?_) #[true, true, true, true, true, true, true, true, true] rfl rfl (any_of HT_.out (by kernel_rfl)) (fun _ _ _ h => h) (Or.inl ⟨by rfl, ?_⟩) ?_ ?_
      rotate_left
      · intro w'
        go_simp
        with_reducible rfl
      rotate_left
      · simp only [Act.put, List.setIfInBounds_toArray, List.set_cons_zero, List.set_cons_succ, i64_w, i32_w]
        rfl
      refine done_ (done_of HT_.out (by kernel_rfl)) ?_
      go_wp2
      exact key (w5.heap.size) A2 c2 A3 c3 _ (blk_put (blk_put (blk_put PB.out 0 _ rfl) 1 _ rfl) 2 _ rfl) (R_set3 (Kd.R_lower ho2 (Nat.le_trans H7s (below_alloc hb5 _).size)) PB.out (by decide) _ _ _) (R_set3 (Kd.R_lower ho3 (Nat.le_trans H7s (below_alloc hb5 _).size)) PB.out (by decide) _ _ _) (below_set3 (below_base (below_base HB7.out H7s (below_alloc hb5 _)) (Nat.le_trans H7s (below_alloc hb5 _).size) hb6) (Nat.le_trans H7s hb5.size) _ _ _)
  · refine value_ (w1 := World.alloc (W7) (.cells #[.slice none 0 0, .slice none 0 0, .int .i64 0] 29)) (v := .pointer (some ⟨(W7).heap.size, 0, none⟩)) (by rfl) rfl ?_ ?_
    · go_simp
    refine hK.out _ _ ⟨pw_cell_below (below_alloc (Below.refl _ _) _) hHeld.1, pw_cell_below (below_alloc (Below.refl _ _) _) hHeld.2.1, pw_cell_below (below_alloc (Below.refl _ _) _) hHeld.2.2⟩ (fun hHeld => ?_)
    clear hK K
    refine norm_ (a' := ?_) ?_ ?_
    rotate_left
    · show Act.put _ (some 3) _ = _
      simp only [Act.put, List.setIfInBounds_toArray, List.set_cons_zero, List.set_cons_succ, i64_w, i32_w]
      rfl
    refine one_ (i := 1) (N := (some 12)) #[true, true, false, false, false, false, true, false, false] rfl rfl (one_of HT_.out (by kernel_rfl)) (by decide) (fun K hK => ?_)
    refine goes_ Try.func45 (by kernel_rfl) rfl #[] (by rfl) rfl rfl (by (try simp only [List.map_toArray, List.map_cons, List.map_nil]); first | done | rfl) ?_
    refine (hibernaclelaw15_ones.calls 130 onesS _ ones_v).mono ?_
    rintro e w5 ⟨rfl, hb5⟩
    refine ⟨_, rfl, ?_⟩
    refine hK.out _ _ ⟨pw_cell_below (hb5) hHeld.1, pw_cell_below (hb5) hHeld.2.1, pw_cell_below (hb5) hHeld.2.2⟩ (fun hHeld => ?_)
    clear hK K
    refine norm_ (a' := ?_) ?_ ?_
    rotate_left
    · show Act.put _ (some 12) _ = _
      simp only [Act.put, List.setIfInBounds_toArray, List.set_cons_zero, List.set_cons_succ, i64_w, i32_w]
      rfl
    refine one_ (i := 2) (N := (some 13)) #[true, true, true, false, false, false, true, false, false] rfl rfl (one_of HT_.out (by kernel_rfl)) (by decide) (fun K hK => ?_)
    refine goes_ Try.func38 (by kernel_rfl) rfl #[.agg #[.slice A0 2 c0, .slice A1 0 c1, .int .i64 (-1)], .int .i64 0, .string onesS] (by rfl) rfl rfl (by (try simp only [List.map_toArray, List.map_cons, List.map_nil]); first | done | rfl) ?_
    refine (drive_Put.calls 5 A0 c0 [zeroS, zeroS] A1 c1 [] (-1) 0 onesS _ _ _ _ _ (Kd.C_below (Kd.R_reads' HS0.out).2.2 (below_step (below_alloc (Below.refl _ _) _) hb5)) (Kd.R_reads' HS0.out).2.1 (Kd.C_below (Kd.R_reads' HS1.out).2.2 (below_step (below_alloc (Below.refl _ _) _) hb5)) (Kd.R_reads' HS1.out).2.1 put_v).mono ?_
    rintro e w6 ⟨v2, v3, rfl, ho2, ho3, hb6⟩
    obtain ⟨A2, c2, rfl⟩ := Kd.R_slice ho2
    obtain ⟨A3, c3, rfl⟩ := Kd.R_slice ho3
    refine ⟨_, rfl, ?_⟩
    refine hK.out _ _ ⟨pw_cell_below (hb6) hHeld.1, pw_cell_below (hb6) hHeld.2.1, pw_cell_below (hb6) hHeld.2.2⟩ (fun hHeld => ?_)
    clear hK K
    refine norm_ (a' := ?_) ?_ ?_
    rotate_left
    · show Act.put _ (some 13) _ = _
      simp only [Act.put, List.setIfInBounds_toArray, List.set_cons_zero, List.set_cons_succ, i64_w, i32_w]
      rfl
    refine pure_ (i := 3) (N := (some 10)) (v := ?_) (a' := ?_) #[true, true, true, true, false, false, true, false, false] rfl rfl (any_of HT_.out (by kernel_rfl)) (fun _ _ _ h => h) (Or.inl ⟨by rfl, ?_⟩) ?_ ?_
    rotate_left
    · intro w'
      go_simp
      with_reducible rfl
    rotate_left
    · simp only [Act.put, List.setIfInBounds_toArray, List.set_cons_zero, List.set_cons_succ, i64_w, i32_w]
      rfl
    refine pure_ (i := 4) (N := (some 14)) (v := ?_) (a' := ?_) #[true, true, true, true, true, false, true, false, false] rfl rfl (any_of HT_.out (by kernel_rfl)) (fun _ _ _ h => h) (Or.inl ⟨by rfl, ?_⟩) ?_ ?_
    rotate_left
    · intro w'
      go_simp
      with_reducible rfl
    rotate_left
    · simp only [Act.put, List.setIfInBounds_toArray, List.set_cons_zero, List.set_cons_succ, i64_w, i32_w]
      rfl
    refine pure_ (i := 5) (N := (some 15)) (v := ?_) (a' := ?_) #[true, true, true, true, true, true, true, false, false] rfl rfl (any_of HT_.out (by kernel_rfl)) (fun _ _ _ h => h) (Or.inl ⟨by rfl, ?_⟩) ?_ ?_
    rotate_left
    · intro w'
      go_simp
      with_reducible rfl
    rotate_left
    · simp only [Act.put, List.setIfInBounds_toArray, List.set_cons_zero, List.set_cons_succ, i64_w, i32_w]
      rfl
    have PB := Aside0.mk (blk_below (blk_below (blk_new W7 (.cells #[.slice none 0 0, .slice none 0 0, .int .i64 0] 29)) hb5) hb6)
    have q0 := (blk_cell PB.out 0).trans rfl
    have q1 := (blk_cell PB.out 1).trans rfl
    have q2 := (blk_cell PB.out 2).trans rfl
    have r0 := blk_frozen PB.out 0
    have r1 := blk_frozen PB.out 1
    have r2 := blk_frozen PB.out 2
    refine last_ (i := 7) (N := none) #[true, true, true, true, true, true, true, true, false] rfl rfl (one_of HT_.out (by kernel_rfl)) (by decide) (fun K hK => ?_)
    refine skip_ (w1 := ?_) (by rfl) rfl ?_ ?_
    rotate_left
    · go_simp
      rfl
    refine hK.out _ _ ?_
    clear hK K
    refine pure_ (i := 8) (N := (some 4)) (v := ?_) (a' := ?_) #[true, true, true, true, true, true, true, true, true] rfl rfl (any_of HT_.out (by kernel_rfl)) (fun _ _ _ h => h) (Or.inl ⟨by rfl, ?_⟩) ?_ ?_
    rotate_left
    · intro w'
      go_simp
      with_reducible rfl
    rotate_left
    · simp only [Act.put, List.setIfInBounds_toArray, List.set_cons_zero, List.set_cons_succ, i64_w, i32_w]
      rfl
    refine done_ (done_of HT_.out (by kernel_rfl)) ?_
    go_wp2
    exact key (W7.heap.size) A2 c2 A3 c3 _ (blk_put (blk_put (blk_put PB.out 0 _ rfl) 1 _ rfl) 2 _ rfl) (R_set3 (Kd.R_lower ho2 (Nat.le_trans H7s (below_step (below_alloc (Below.refl W7.heap.size W7) _) hb5).size)) PB.out (by decide) _ _ _) (R_set3 (Kd.R_lower ho3 (Nat.le_trans H7s (below_step (below_alloc (Below.refl W7.heap.size W7) _) hb5).size)) PB.out (by decide) _ _ _) (below_set3 (below_base (below_base HB7.out H7s (below_step (below_alloc (Below.refl W7.heap.size W7) _) hb5)) (Nat.le_trans H7s (below_step (below_alloc (Below.refl W7.heap.size W7) _) hb5).size) hb6) (H7s) _ _ _)
theorem hibernaclelaw15_fixed.calls (r : Bool) (w : World) (h : hibernaclelaw15_fixed.f = some r) : Calls Try.prog 31 #[] w fun e w' => e = .returned (.bool r) ∧ Below w.heap.size w w' := by
  unfold hibernaclelaw15_fixed.f at h
  cases h
  exact fixed_walk w
end Go.Proofs.Ytjfmnkmgnbbfgaa.A
