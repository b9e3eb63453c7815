-- Made by drv.py (ours) by way of the kit's print; Lean checks it.
import Derived.Test.YtjfmnkmgnbbfgaaA0
namespace Go.Proofs.Ytjfmnkmgnbbfgaa.A
open Go.RowKit Go.Proofs.YtjfmnkmgnbbfgaaW.PrintWords Go.Proofs.YtjfmnkmgnbbfgaaW.PrintLast Go.Proofs.YtjfmnkmgnbbfgaaW.PrintMore
attribute [local go_sem] max2_int min2_int max_two min_two max_three min_three max_four min_four   -- for this text's walks alone
set_option linter.unusedVariables false
set_option linter.unusedSimpArgs false

/-! ### hibernacleref15_Crash: function 42 -/
mutual
def hibernacleref15_Crash.l0 : Nat → List Int → List ByteArray → Int → List ByteArray → List (S27) → Int → Option (List ByteArray × (List (S27)) × Int)
  | 0, _, _, _, _, _, _ => none
  | k + 1, x1, x5, x6, x487000, x487001, x487002 => if x6 < (x487001.length : Int) then (if x6 < (x1.length : Int) then (if 0 ≤ x6 then (hibernacleref15_Crash.j1 k x1 x5 x6 (Int.tmod (wrap64 ((Int.tmod (rd x1 x6) 3) + 3)) 3) x487000 x487001 x487002) else (none)) else (hibernacleref15_Crash.j1 k x1 x5 x6 0 x487000 x487001 x487002)) else (some (x5, ([] : List (S27)), (-1)))
def hibernacleref15_Crash.j1 : Nat → List Int → List ByteArray → Int → Int → List ByteArray → List (S27) → Int → Option (List ByteArray × (List (S27)) × Int)
  | 0, _, _, _, _, _, _, _ => none
  | k + 1, x1, x5, x6, x7, x487000, x487001, x487002 => if 0 ≤ x6 then (if x6 < (x487001.length : Int) then (if x7 = 1 then (if 0 ≤ ((rd_T27 x487001 x6).f0) then (if ((rd_T27 x487001 x6).f0) < (x5.length : Int) then ((some (x5.set (((rd_T27 x487001 x6).f0) : Int).toNat ((rd_T27 x487001 x6).f1) : List ByteArray)).bind fun y497 => (if x7 = 2 then (if 0 ≤ 64 then (if 64 ≤ (((rd_T27 x487001 x6).f1).size : Int) then (if 64 ≤ ((rdOf ByteArray.empty y497 ((rd_T27 x487001 x6).f0)).size : Int) then (if (((rd_T27 x487001 x6).f1).extract 0 64).size + ((rdOf ByteArray.empty y497 ((rd_T27 x487001 x6).f0)).extract 64 (rdOf ByteArray.empty y497 ((rd_T27 x487001 x6).f0)).size).size ≤ 9223372036854775807 then (hibernacleref15_Crash.l0 k x1 (y497.set (((rd_T27 x487001 x6).f0) : Int).toNat ((((rd_T27 x487001 x6).f1).extract 0 64) ++ ((rdOf ByteArray.empty y497 ((rd_T27 x487001 x6).f0)).extract 64 (rdOf ByteArray.empty y497 ((rd_T27 x487001 x6).f0)).size))) (wrap64 (x6 + 1)) x487000 x487001 x487002) else (none)) else (none)) else (none)) else (none)) else (hibernacleref15_Crash.l0 k x1 y497 (wrap64 (x6 + 1)) x487000 x487001 x487002))) else (none)) else (none)) else (if x7 = 2 then (if 0 ≤ 64 then (if 64 ≤ (((rd_T27 x487001 x6).f1).size : Int) then (if 0 ≤ ((rd_T27 x487001 x6).f0) then (if ((rd_T27 x487001 x6).f0) < (x5.length : Int) then (if 64 ≤ ((rdOf ByteArray.empty x5 ((rd_T27 x487001 x6).f0)).size : Int) then (if (((rd_T27 x487001 x6).f1).extract 0 64).size + ((rdOf ByteArray.empty x5 ((rd_T27 x487001 x6).f0)).extract 64 (rdOf ByteArray.empty x5 ((rd_T27 x487001 x6).f0)).size).size ≤ 9223372036854775807 then (hibernacleref15_Crash.l0 k x1 (x5.set (((rd_T27 x487001 x6).f0) : Int).toNat ((((rd_T27 x487001 x6).f1).extract 0 64) ++ ((rdOf ByteArray.empty x5 ((rd_T27 x487001 x6).f0)).extract 64 (rdOf ByteArray.empty x5 ((rd_T27 x487001 x6).f0)).size))) (wrap64 (x6 + 1)) x487000 x487001 x487002) else (none)) else (none)) else (none)) else (none)) else (none)) else (none)) else (hibernacleref15_Crash.l0 k x1 x5 (wrap64 (x6 + 1)) x487000 x487001 x487002))) else (none)) else (none)
end
def hibernacleref15_Crash.f (k : Nat) (l0_0 : List ByteArray) (l0_1 : List (S27)) (a0_2 : Int) (l1 : List Int) : Option (List ByteArray × (List (S27)) × Int) := (some (([] : List ByteArray) : List ByteArray)).bind fun y488 => (if y488.length + l0_0.length < 8796093022208 then (hibernacleref15_Crash.l0 k l1 (y488 ++ l0_0) 0 l0_0 l0_1 a0_2) else (none))
theorem hibernacleref15_Crash.mono_l : ∀ k, (∀ y0 y1 y2 y3 y4 y5, LeO (hibernacleref15_Crash.l0 k y0 y1 y2 y3 y4 y5) (hibernacleref15_Crash.l0 (k + 1) y0 y1 y2 y3 y4 y5)) ∧ (∀ y0 y1 y2 y3 y4 y5 y6, LeO (hibernacleref15_Crash.j1 k y0 y1 y2 y3 y4 y5 y6) (hibernacleref15_Crash.j1 (k + 1) y0 y1 y2 y3 y4 y5 y6))
  | 0 => ⟨fun _ _ _ _ _ _ r h => by simp [hibernacleref15_Crash.l0] at h, fun _ _ _ _ _ _ _ r h => by simp [hibernacleref15_Crash.j1] at h⟩
  | k + 1 => by
    obtain ⟨ih0, ih1⟩ := hibernacleref15_Crash.mono_l k
    refine ⟨?_, ?_⟩
    · intro y0 y1 y2 y3 y4 y5
      unfold hibernacleref15_Crash.l0
      repeat' first
      | (with_reducible exact ih0 _ _ _ _ _ _)
      | (with_reducible exact ih1 _ _ _ _ _ _ _)
      | (with_reducible exact LeO.refl _)
      | (with_reducible exact LeO.none _)
      | (with_reducible refine LeO.ite ?_ ?_)
      | (with_reducible refine LeO.bind ?_ (fun _ => ?_))
      | exact ih0 _ _ _ _ _ _
      | exact ih1 _ _ _ _ _ _ _
      | exact LeO.none _
      | refine LeO.ite ?_ ?_
      | refine LeO.bind ?_ (fun _ => ?_)
    · intro y0 y1 y2 y3 y4 y5 y6
      unfold hibernacleref15_Crash.j1
      repeat' first
      | (with_reducible exact ih0 _ _ _ _ _ _)
      | (with_reducible exact ih1 _ _ _ _ _ _ _)
      | (with_reducible exact LeO.refl _)
      | (with_reducible exact LeO.none _)
      | (with_reducible refine LeO.ite ?_ ?_)
      | (with_reducible refine LeO.bind ?_ (fun _ => ?_))
      | exact ih0 _ _ _ _ _ _
      | exact ih1 _ _ _ _ _ _ _
      | exact LeO.none _
      | refine LeO.ite ?_ ?_
      | refine LeO.bind ?_ (fun _ => ?_)
theorem hibernacleref15_Crash.mono : ∀ a0 a1 a2 a3 k, LeO (hibernacleref15_Crash.f k a0 a1 a2 a3) (hibernacleref15_Crash.f (k + 1) a0 a1 a2 a3) := by
  intro a0 a1 a2 a3 k
  obtain ⟨ih0, ih1⟩ := hibernacleref15_Crash.mono_l k
  unfold hibernacleref15_Crash.f
  repeat' first
      | (with_reducible exact ih0 _ _ _ _ _ _)
      | (with_reducible exact ih1 _ _ _ _ _ _ _)
      | (with_reducible exact LeO.refl _)
      | (with_reducible exact LeO.none _)
      | (with_reducible refine LeO.ite ?_ ?_)
      | (with_reducible refine LeO.bind ?_ (fun _ => ?_))
      | exact ih0 _ _ _ _ _ _
      | exact ih1 _ _ _ _ _ _ _
      | exact LeO.none _
      | refine LeO.ite ?_ ?_
      | refine LeO.bind ?_ (fun _ => ?_)
def hibernacleref15_Crash.T12 : Bool × List (List Nat × List Nat) := (true, [([], []), ([], []), ([1], [1]), ([], []), ([3], [3]), ([4], [4]), ([], []), ([], []), ([7], [7]), ([6, 8], [6, 8]), ([9], [9]), ([10], [10]), ([5, 11], [5, 11]), ([0, 2, 0, 1, 2, 3, 4, 5, 6, 7, 8, 9, 10, 11, 12], [0, 2]), ([13, 12, 0, 1, 2, 3, 4, 5, 6, 7, 8, 9, 10, 11, 12], [12, 13])])
def hibernacleref15_Crash.B12 : List Nat := [0, 0, 2, 0, 8, 24, 0, 0, 128, 448, 960, 1984, 4088, 8191, 16383]
theorem hibernacleref15_Crash.tab12 : rtab .any (opsOf Try.f42 12) = hibernacleref15_Crash.T12 := by kernel_rfl
theorem hibernacleref15_Crash.bits12 : waitsOk hibernacleref15_Crash.T12.2 hibernacleref15_Crash.B12 = true := by kernel_rfl
set_option maxHeartbeats 8000000 in
set_option maxRecDepth 100000 in
theorem hibernacleref15_Crash.calls (k : Nat) (A0_0 : Option Addr) (c0_0 : Nat) (l0_0 : List ByteArray) (A0_1 : Option Addr) (c0_1 : Nat) (l0_1 : List (S27)) (a0_2 : Int) (A1 : Option Addr) (c1 : Nat) (l1 : List Int) (r1 : List ByteArray) (r2 : List (S27)) (r3 : Int) (w : World) (hr0_0 : Kd.C Kd.string w A0_0 l0_0.length l0_0) (hc0_0 : l0_0.length ≤ c0_0) (hr0_1 : Kd.C k27 w A0_1 l0_1.length l0_1) (hc0_1 : l0_1.length ≤ c0_1) (hr1 : Kd.C (Kd.int .i64) w A1 l1.length l1) (hc1 : l1.length ≤ c1) (h : hibernacleref15_Crash.f k l0_0 l0_1 a0_2 l1 = some (r1, r2, r3)) :
    Calls Try.prog 42 #[.agg #[.slice A0_0 l0_0.length c0_0, .slice A0_1 l0_1.length c0_1, .int .i64 a0_2], .slice A1 l1.length c1] w fun e w' => ∃ v0_ v1_ : Value, e = .returned (.agg #[v0_, v1_, .int .i64 r3]) ∧ Kd.R Kd.string 9 w' w.heap.size (fun _ => True) v0_ r1 ∧ Kd.R k27 27 w' w.heap.size (fun _ => True) v1_ r2 ∧ Below w.heap.size w w' := by
  have hu29 := Try.underlying29
  have hu27 := Try.underlying27
  have HR0_0 := Aside0.mk hr0_0
  have HC0_0 := Aside0.mk hc0_0
  clear hr0_0 hc0_0
  have HR0_1 := Aside0.mk hr0_1
  have HC0_1 := Aside0.mk hc0_1
  clear hr0_1 hc0_1
  have HR1 := Aside0.mk hr1
  have HC1 := Aside0.mk hc1
  clear hr1 hc1
  have HB := Aside0.mk (Below.refl w.heap.size w)
  have H : ((some (([] : List ByteArray) : List ByteArray)).bind fun y488 => (if y488.length + l0_0.length < 8796093022208 then (hibernacleref15_Crash.l0 k l1 (y488 ++ l0_0) 0 l0_0 l0_1 a0_2) else (none))) = some (r1, r2, r3) := h
  clear h
  obtain ⟨y488, hy488⟩ : ∃ y_ : List ByteArray, y_ = (([] : List ByteArray)) := ⟨_, rfl⟩
  replace H : (if y488.length + l0_0.length < 8796093022208 then (hibernacleref15_Crash.l0 k l1 (y488 ++ l0_0) 0 l0_0 l0_1 a0_2) else (none)) = some (r1, r2, r3) := by first | (rw [hy488]; with_reducible exact H) | (have H2_ := (Option.bind_some _ _).symm.trans H; rw [hy488]; with_reducible exact H2_) | (have H2_ := (Option.bind_some _ _).symm.trans H; with_reducible exact H2_) | with_reducible exact H | (rw [hy488]; exact H) | exact H
  have Ny488 := Aside0.mk hy488
  clear hy488
  by_cases c3 : y488.length + l0_0.length < 8796093022208
  · rw [if_pos c3] at H
    have LMc3 := Aside0.mk c3
    clear c3
    obtain ⟨y491, hy491⟩ : ∃ y_ : List ByteArray, y_ = (y488 ++ l0_0) := ⟨_, rfl⟩
    replace H : (hibernacleref15_Crash.l0 k l1 y491 0 l0_0 l0_1 a0_2) = some (r1, r2, r3) := by first | (rw [hy491]; with_reducible exact H) | (have H2_ := (Option.bind_some _ _).symm.trans H; rw [hy491]; with_reducible exact H2_) | (have H2_ := (Option.bind_some _ _).symm.trans H; with_reducible exact H2_) | with_reducible exact H | (rw [hy491]; exact H) | exact H
    have Ny491 := Aside0.mk hy491
    clear hy491
    have H' := Aside0.mk H
    clear H
    go_enter Try.func42, Try.ntmps42
    go_wp2_with (first | ((with_reducible refine gate_dst (N := 2) rfl ?_); refine box_event ?hg (N := 2) ?hd (cs := #[.slice A0_0 l0_0.length c0_0, .slice A0_1 l0_1.length c0_1, .int .i64 a0_2]) (t := 29) ?hr ?_; (case hd => rfl); (case hg => rfl); (case hr => first | (go_simp; done) | (go_simp; rfl)); intro gb486 hg w4 hbox hb; have n0_ := Aside0.mk (below_step (by repeat (first | (with_reducible first | exact HB.out | apply below_alloc | apply pw_below_drewN | apply below_drew1) | exact HB.out)) hb); have n1_ := Aside0.mk (hbox); have n2_ := Aside0.mk ((by rw [hg]; exact (below_size (by repeat (first | (with_reducible first | exact HB.out | apply below_alloc | apply pw_below_drewN | apply below_drew1) | exact HB.out))) : w.heap.size ≤ gb486)); have n3_ := Aside0.mk ((by rw [hg]; exact (below_size (by repeat (first | (with_reducible first | exact HB.out | apply below_alloc | apply pw_below_drewN | apply below_drew1) | exact HB.out))) : w.heap.size ≤ gb486)); clear HB; have HB := n0_; have BK486 := n1_; have GW486 := n2_; have GE486 := n3_; clear n0_ n1_ n2_ n3_; clear hb hbox hg) | ((with_reducible refine gate_dst (N := 4) rfl ?_); refine box_event ?hg (N := 4) ?hd (cs := #[.slice none 0 0, .slice none 0 0, .int .i64 0]) (t := 29) ?hr ?_; (case hd => rfl); (case hg => rfl); (case hr => first | (go_simp; done) | (go_simp; rfl)); intro gb487 hg w5 hbox hb; have n0_ := Aside0.mk (blk_below (g := gb486) (o := .cells #[.slice A0_0 l0_0.length c0_0, .slice A0_1 l0_1.length c0_1, .int .i64 a0_2] 29 (0, 0)) (by (with_reducible repeat (first | refine blk_drewN ?_ _ | refine blk_drew ?_ | refine blk_alloc ?_ _)); exact BK486.out) hb); have n1_ := Aside0.mk (below_step (by repeat (first | (with_reducible first | exact HB.out | apply below_alloc | apply pw_below_drewN | apply below_drew1 | refine below_set ?_ GE486.out) | exact HB.out)) hb); have n2_ := Aside0.mk (hbox); have n3_ := Aside0.mk ((by rw [hg]; exact (below_size (by repeat (first | (with_reducible first | exact HB.out | apply below_alloc | apply pw_below_drewN | apply below_drew1 | refine below_set ?_ GE486.out) | exact HB.out))) : w.heap.size ≤ gb487)); have n4_ := Aside0.mk ((by rw [hg]; exact (below_size (by repeat (first | (with_reducible first | exact HB.out | apply below_alloc | apply pw_below_drewN | apply below_drew1 | refine below_set ?_ GE486.out) | exact HB.out))) : w.heap.size ≤ gb487)); have n5_ := Aside0.mk ((by rw [hg]; exact Nat.ne_of_lt (blk_lt (g := gb486) (o := .cells #[.slice A0_0 l0_0.length c0_0, .slice A0_1 l0_1.length c0_1, .int .i64 a0_2] 29 (0, 0)) (by (with_reducible repeat (first | refine blk_drewN ?_ _ | refine blk_drew ?_ | refine blk_alloc ?_ _)); exact BK486.out)) : gb486 ≠ gb487)); have n6_ := Aside0.mk ((by rw [hg]; exact Nat.ne_of_gt (blk_lt (g := gb486) (o := .cells #[.slice A0_0 l0_0.length c0_0, .slice A0_1 l0_1.length c0_1, .int .i64 a0_2] 29 (0, 0)) (by (with_reducible repeat (first | refine blk_drewN ?_ _ | refine blk_drew ?_ | refine blk_alloc ?_ _)); exact BK486.out)) : gb487 ≠ gb486)); clear BK486; clear HB; have BK486 := n0_; have HB := n1_; have BK487 := n2_; have GW487 := n3_; have GE487 := n4_; have NB486_487 := n5_; have NB487_486 := n6_; clear n0_ n1_ n2_ n3_ n4_ n5_ n6_; clear hb hbox hg) | ((with_reducible refine gate_dst (N := 9) rfl ?_); refine Kd.R_lit Kd.string _ 9 ?hg (N := 9) ?hd (xs := ([] : List ByteArray)) (inner := []) (ok := fun _ => True) (okp := fun _ => True) ?hr ?hp (fun _ hk => hk) trivial (Below.refl _ _) (Nat.le_refl _) (by simp) ?_; (case hd => rfl); (case hg => rfl); (case hr => first | (go_simp; done) | (go_simp; rfl)); (case hp => exact (Reps.none _ _)); intro v489 w6 ho7 hb hg_ hnew_; clear hg_ hnew_; (first | rw [← Ny488.out] at ho7 | (simp only [Int.reduceToNat] at ho7; rw [← Ny488.out] at ho7)); have n0_ := Aside0.mk (Kd.R_lower ho7 (below_size (by repeat (first | (with_reducible first | exact HB.out | apply below_alloc | apply pw_below_drewN | apply below_drew1 | refine below_set ?_ GE486.out | refine below_set ?_ GE487.out) | exact HB.out)))); have n1_ := Aside0.mk (blk_below (g := gb486) (o := .cells #[.slice A0_0 l0_0.length c0_0, .slice A0_1 l0_1.length c0_1, .int .i64 a0_2] 29 (0, 0)) (by (with_reducible repeat (first | refine blk_drewN ?_ _ | refine blk_drew ?_ | refine blk_alloc ?_ _)); exact BK486.out) hb); have n2_ := Aside0.mk (blk_below (g := gb487) (o := .cells #[.slice none 0 0, .slice none 0 0, .int .i64 0] 29 (0, 0)) (by (with_reducible repeat (first | refine blk_drewN ?_ _ | refine blk_drew ?_ | refine blk_alloc ?_ _)); exact BK487.out) hb); have n3_ := Aside0.mk (below_step (by repeat (first | (with_reducible first | exact HB.out | apply below_alloc | apply pw_below_drewN | apply below_drew1 | refine below_set ?_ GE486.out | refine below_set ?_ GE487.out) | exact HB.out)) hb); clear BK486; clear BK487; clear HB; have HO490 := n0_; have BK486 := n1_; have BK487 := n2_; have HB := n3_; clear n0_ n1_ n2_ n3_; clear hb ho7; have hnb8 := NB486_487.out; have hnc8 := NB487_486.out; have hcz9_0 : w6.cell? ⟨gb486, 0, none⟩ = some (.slice A0_0 l0_0.length c0_0) := (blk_cell BK486.out 0).trans rfl; have hcz9_1 : w6.cell? ⟨gb486, 1, none⟩ = some (.slice A0_1 l0_1.length c0_1) := (blk_cell BK486.out 1).trans rfl; have hcz9_2 : w6.cell? ⟨gb486, 2, none⟩ = some (.int .i64 a0_2) := (blk_cell BK486.out 2).trans rfl; have hfz9_0 := blk_frozen BK486.out 0; have hfz9_1 := blk_frozen BK486.out 1; have hfz9_2 := blk_frozen BK486.out 2) | ((with_reducible refine gate_builtin (b := .append) (xs := #[.tmp 9, .tmp 11]) rfl ?_); at_builtin; refine Kd.R_append_rows Kd.string (w0 := w) w.heap.size rfl (.tmp 9) (.tmp 11) 22 9 (.string ⟨#[]⟩) 16 rfl Try.underlying22 info9 rfl (by decide) (by omega) v489 y488 l0_0 _ _ _ (fun _ => True) (fun _ => False) rfl rfl ?aO ?aR (fun _ _ h => h) (fun _ h => h.elim) ?aF ?aB ?aS ?aL ?_; (case aR => repeat (first | exact (Kd.C_below HR0_0.out HB.out) | (with_reducible refine Kd.C_alloc ?_ _) | (with_reducible refine Kd.C_drewN ?_ _) | (with_reducible refine Kd.C_drew ?_))); (case aB => exact (by repeat (first | (with_reducible first | exact HB.out | apply below_alloc | apply pw_below_drewN | apply below_drew1 | refine below_set ?_ GE486.out | refine below_set ?_ GE487.out) | exact HB.out))); (case aF => exact (fun _ _ => trivial)); (case aO => exact (by (with_reducible repeat (first | apply Kd.R_alloc | apply Kd.R_drewN | apply Kd.R_drew)); exact HO490.out)); (case aS => exact (below_size (by repeat (first | (with_reducible first | exact HB.out | apply below_alloc | apply pw_below_drewN | apply below_drew1 | refine below_set ?_ GE486.out | refine below_set ?_ GE487.out) | exact HB.out)))); (case aL => have := LMc3.out; omega); intro v492 w10 ho hb hg hat; rw [← Ny491.out] at ho; have n0_ := Aside0.mk (blk_grown (g := gb486) (o := .cells #[.slice A0_0 l0_0.length c0_0, .slice A0_1 l0_1.length c0_1, .int .i64 a0_2] 29 (0, 0)) (by (with_reducible repeat (first | refine blk_drewN ?_ _ | refine blk_drew ?_ | refine blk_alloc ?_ _)); exact BK486.out) hg (Kd.R_ne HO490.out BK486.out (by decide))); have n1_ := Aside0.mk (blk_grown (g := gb487) (o := .cells #[.slice none 0 0, .slice none 0 0, .int .i64 0] 29 (0, 0)) (by (with_reducible repeat (first | refine blk_drewN ?_ _ | refine blk_drew ?_ | refine blk_alloc ?_ _)); exact BK487.out) hg (Kd.R_ne HO490.out BK487.out (by decide))); have n2_ := Aside0.mk (hb); have n3_ := Aside0.mk (ho); clear BK486; clear BK487; clear HB; clear HO490; have BK486 := n0_; have BK487 := n1_; have HB := n2_; have HO493 := n3_; clear n0_ n1_ n2_ n3_; clear ho hb hg hat))
    go_loopg [6] k (fun kq v6 w' => ∃ (x5_1 : List ByteArray) (x6_1 : Int), v6 = .int .i64 x6_1 ∧ Aside0 (hibernacleref15_Crash.l0 kq l1 x5_1 x6_1 l0_0 l0_1 a0_2 = some (r1, r2, r3)) ∧ Aside0 (kq ≤ k) ∧ Aside0 (Kd.R Kd.string 9 w' w.heap.size (fun _ => True) v492 x5_1) ∧ Aside0 (w'.heap[gb486]? = some (.cells #[(.slice A0_0 l0_0.length c0_0), (.slice A0_1 l0_1.length c0_1), .int .i64 a0_2] 29 (0, 0))) ∧ Aside0 (w'.heap[gb487]? = some (.cells #[(.slice none 0 0), (.slice none 0 0), .int .i64 0] 29 (0, 0))) ∧ Aside0 (Below w.heap.size w w'))
    case atStart => exact ⟨(y491), (0), (by first | rfl | (simp; done) | (simp [*]; done)), H', ⟨Nat.le_refl _⟩, ⟨by (with_reducible repeat (first | apply Kd.R_alloc | apply Kd.R_drewN | apply Kd.R_drew)); exact HO493.out⟩, ⟨by (with_reducible repeat (first | refine blk_drewN ?_ _ | refine blk_drew ?_ | refine blk_alloc ?_ _)); exact BK486.out⟩, ⟨by (with_reducible repeat (first | refine blk_drewN ?_ _ | refine blk_drew ?_ | refine blk_alloc ?_ _)); exact BK487.out⟩, ⟨by repeat (first | (with_reducible first | exact HB.out | apply below_alloc | apply pw_below_drewN | apply below_drew1 | refine below_set ?_ GE486.out | refine below_set ?_ GE487.out) | exact HB.out)⟩⟩
    case round =>
      clear H'
      try clear c1
      try clear p2
      try clear c3
      try clear c4
      try clear c8
      try clear hcz9_0
      try clear hcz9_1
      try clear hcz9_2
      try clear hfz9_0
      try clear hfz9_1
      try clear hfz9_2
      obtain ⟨x5_1, x6_1, rfl, HA, HK1, HO_5, BK486, BK487, HB⟩ := hrel
      cases gk with
      | zero => exact absurd HA.out (by simp [hibernacleref15_Crash.l0])
      | succ k1 =>
        have H := HA.out
        clear HA
        simp only [hibernacleref15_Crash.l0] at H
        by_cases c11 : x6_1 < (l0_1.length : Int)
        · rw [if_pos c11] at H
          have c11b0 : decide (x6_1 < (l0_1.length : Int)) = true := decide_eq_true c11
          clear c11
          have HC12 := Aside0.mk H
          clear H
          have hnb13 := NB486_487.out
          have hnc13 := NB487_486.out
          have hcz14_0 : wr.cell? ⟨gb486, 0, none⟩ = some (.slice A0_0 l0_0.length c0_0) := (blk_cell BK486.out 0).trans rfl
          have hcz14_1 : wr.cell? ⟨gb486, 1, none⟩ = some (.slice A0_1 l0_1.length c0_1) := (blk_cell BK486.out 1).trans rfl
          have hcz14_2 : wr.cell? ⟨gb486, 2, none⟩ = some (.int .i64 a0_2) := (blk_cell BK486.out 2).trans rfl
          have hfz14_0 := blk_frozen BK486.out 0
          have hfz14_1 := blk_frozen BK486.out 1
          have hfz14_2 := blk_frozen BK486.out 2
          go_upto_if 23 with (fail)
          go_cut [7] (fun v7 wc => ∃ (kq : Nat) (x7_11 : Int), v7 = .int .i64 x7_11 ∧ Aside0 (hibernacleref15_Crash.j1 kq l1 x5_1 x6_1 x7_11 l0_0 l0_1 a0_2 = some (r1, r2, r3)) ∧ Aside0 (kq ≤ k1) ∧ Aside0 (Kd.R Kd.string 9 wc w.heap.size (fun _ => True) v492 x5_1) ∧ Aside0 (wc.heap[gb486]? = some (.cells #[(.slice A0_0 l0_0.length c0_0), (.slice A0_1 l0_1.length c0_1), .int .i64 a0_2] 29 (0, 0))) ∧ Aside0 (wc.heap[gb487]? = some (.cells #[(.slice none 0 0), (.slice none 0 0), .int .i64 0] 29 (0, 0))) ∧ Aside0 (Below w.heap.size w wc))
          case first =>
            have H := HC12.out
            clear HC12
            by_cases c15 : x6_1 < (l1.length : Int)
            · rw [if_pos c15] at H
              have c15b0 : decide (x6_1 < (l1.length : Int)) = true := decide_eq_true c15
              clear c15
              (first | rw [c15b0] | (simp only [i64_w, i32_w]; rw [c15b0]) | skip)
              by_cases c16 : 0 ≤ x6_1
              · rw [if_pos c16] at H
                have c16b0 : decide (0 ≤ x6_1) = true := decide_eq_true c16
                clear c16
                have H' := Aside0.mk H
                clear H
                have p494 : 0 ≤ (x6_1 : Int) := of_decide_eq_true (by first | (with_reducible assumption) | assumption)
                have q494 : x6_1 < (l1.length : Int) := of_decide_eq_true (by first | (with_reducible assumption) | assumption)
                obtain ⟨ad494, e494, hx494_0⟩ := Kd.at_int HR1.out x6_1 p494 q494
                cases e494
                replace hx494_0 := (HB.out.cell (World.block_lt_of_cell? w _ hx494_0)).trans hx494_0
                replace p494 := eq_true p494
                replace q494 := eq_true q494
                go_wp2
                go_meet
                case rel => exact ⟨_, (Int.tmod (wrap64 ((Int.tmod (rd l1 x6_1) 3) + 3)) 3), (by first | rfl | (simp; done) | (simp [*]; done)), H', ⟨by have := HK1.out; first | omega | exact Nat.le_refl _⟩, ⟨by (with_reducible repeat (first | apply Kd.R_alloc | apply Kd.R_drewN | apply Kd.R_drew)); exact HO_5.out⟩, ⟨by (with_reducible repeat (first | refine blk_drewN ?_ _ | refine blk_drew ?_ | refine blk_alloc ?_ _)); exact BK486.out⟩, ⟨by (with_reducible repeat (first | refine blk_drewN ?_ _ | refine blk_drew ?_ | refine blk_alloc ?_ _)); exact BK487.out⟩, ⟨by repeat (first | (with_reducible first | exact HB.out | apply below_alloc | apply pw_below_drewN | apply below_drew1 | refine below_set ?_ GE486.out | refine below_set ?_ GE487.out) | exact HB.out)⟩⟩
              · rw [if_neg c16] at H
                exact absurd H (by simp)
            · rw [if_neg c15] at H
              have c15b0 : decide (x6_1 < (l1.length : Int)) = false := decide_eq_false c15
              clear c15
              (first | rw [c15b0] | (simp only [i64_w, i32_w]; rw [c15b0]) | skip)
              have H' := Aside0.mk H
              clear H
              go_wp2
              go_meet
              case rel => exact ⟨_, (0), (by first | rfl | (simp; done) | (simp [*]; done)), H', ⟨by have := HK1.out; first | omega | exact Nat.le_refl _⟩, ⟨by (with_reducible repeat (first | apply Kd.R_alloc | apply Kd.R_drewN | apply Kd.R_drew)); exact HO_5.out⟩, ⟨by (with_reducible repeat (first | refine blk_drewN ?_ _ | refine blk_drew ?_ | refine blk_alloc ?_ _)); exact BK486.out⟩, ⟨by (with_reducible repeat (first | refine blk_drewN ?_ _ | refine blk_drew ?_ | refine blk_alloc ?_ _)); exact BK487.out⟩, ⟨by repeat (first | (with_reducible first | exact HB.out | apply below_alloc | apply pw_below_drewN | apply below_drew1 | refine below_set ?_ GE486.out | refine below_set ?_ GE487.out) | exact HB.out)⟩⟩
          case rest =>
            clear HC12
            try clear c1
            try clear p2
            try clear c3
            try clear c4
            try clear p4
            try clear q4
            try clear hx4
            try clear p6
            try clear c8
            try clear c11
            try clear c11b0
            try clear c13
            try clear c15
            try clear c15b0
            try clear c16
            try clear c16b0
            try clear hcz14_0
            try clear hcz14_1
            try clear hcz14_2
            try clear hcz9_0
            try clear hcz9_1
            try clear hcz9_2
            try clear hfz14_0
            try clear hfz14_1
            try clear hfz14_2
            try clear hfz9_0
            try clear hfz9_1
            try clear hfz9_2
            try clear hx494_0
            try clear p2
            try clear p494
            try clear q494
            obtain ⟨kq, x7_11, rfl, HA, HJ11, HO_5, BK486, BK487, HB⟩ := hcut
            cases kq with
            | zero => exact absurd HA.out (by simp [hibernacleref15_Crash.j1])
            | succ kj11 =>
              have H := HA.out
              clear HA
              simp only [hibernacleref15_Crash.j1] at H
              by_cases c17 : 0 ≤ x6_1
              · rw [if_pos c17] at H
                have c17b0 : decide (0 ≤ x6_1) = true := decide_eq_true c17
                clear c17
                by_cases c18 : x6_1 < (l0_1.length : Int)
                · rw [if_pos c18] at H
                  have c18b0 : decide (x6_1 < (l0_1.length : Int)) = true := decide_eq_true c18
                  clear c18
                  by_cases c19 : x7_11 = 1
                  · rw [if_pos c19] at H
                    have c19b0 : (x7_11 == 1) = true := beq_iff_eq.mpr c19
                    have c19b1 : (x7_11 != 1) = false := bne_eq_false_iff_eq.mpr c19
                    clear c19
                    by_cases c20 : 0 ≤ ((rd_T27 l0_1 x6_1).f0)
                    · rw [if_pos c20] at H
                      have c20b0 : decide (0 ≤ ((rd_T27 l0_1 x6_1).f0)) = true := decide_eq_true c20
                      clear c20
                      by_cases c21 : ((rd_T27 l0_1 x6_1).f0) < (x5_1.length : Int)
                      · rw [if_pos c21] at H
                        have c21b0 : decide (((rd_T27 l0_1 x6_1).f0) < (x5_1.length : Int)) = true := decide_eq_true c21
                        clear c21
                        obtain ⟨y497, hy497⟩ : ∃ y_ : List ByteArray, y_ = (x5_1.set (((rd_T27 l0_1 x6_1).f0) : Int).toNat ((rd_T27 l0_1 x6_1).f1)) := ⟨_, rfl⟩
                        replace H : (if x7_11 = 2 then (if 0 ≤ 64 then (if 64 ≤ (((rd_T27 l0_1 x6_1).f1).size : Int) then (if 64 ≤ ((rdOf ByteArray.empty y497 ((rd_T27 l0_1 x6_1).f0)).size : Int) then (if (((rd_T27 l0_1 x6_1).f1).extract 0 64).size + ((rdOf ByteArray.empty y497 ((rd_T27 l0_1 x6_1).f0)).extract 64 (rdOf ByteArray.empty y497 ((rd_T27 l0_1 x6_1).f0)).size).size ≤ 9223372036854775807 then (hibernacleref15_Crash.l0 kj11 l1 (y497.set (((rd_T27 l0_1 x6_1).f0) : Int).toNat ((((rd_T27 l0_1 x6_1).f1).extract 0 64) ++ ((rdOf ByteArray.empty y497 ((rd_T27 l0_1 x6_1).f0)).extract 64 (rdOf ByteArray.empty y497 ((rd_T27 l0_1 x6_1).f0)).size))) (wrap64 (x6_1 + 1)) l0_0 l0_1 a0_2) else (none)) else (none)) else (none)) else (none)) else (hibernacleref15_Crash.l0 kj11 l1 y497 (wrap64 (x6_1 + 1)) l0_0 l0_1 a0_2)) = some (r1, r2, r3) := by first | (rw [hy497]; with_reducible exact H) | (have H2_ := (Option.bind_some _ _).symm.trans H; rw [hy497]; with_reducible exact H2_) | (have H2_ := (Option.bind_some _ _).symm.trans H; with_reducible exact H2_) | with_reducible exact H | (rw [hy497]; exact H) | exact H
                        have Ny497 := Aside0.mk hy497
                        clear hy497
                        by_cases c23 : x7_11 = 2
                        · rw [if_pos c23] at H
                          have c23b0 : (x7_11 == 2) = true := beq_iff_eq.mpr c23
                          have c23b1 : (x7_11 != 2) = false := bne_eq_false_iff_eq.mpr c23
                          clear c23
                          by_cases c24 : 0 ≤ 64
                          · rw [if_pos c24] at H
                            have c24b0 := eq_true c24
                            have c24b1 : decide (0 ≤ 64) = true := decide_eq_true c24
                            clear c24
                            by_cases c25 : 64 ≤ (((rd_T27 l0_1 x6_1).f1).size : Int)
                            · rw [if_pos c25] at H
                              have c25b0 := eq_true c25
                              have c25b1 : decide (64 ≤ (((rd_T27 l0_1 x6_1).f1).size : Int)) = true := decide_eq_true c25
                              clear c25
                              by_cases c26 : 64 ≤ ((rdOf ByteArray.empty y497 ((rd_T27 l0_1 x6_1).f0)).size : Int)
                              · rw [if_pos c26] at H
                                have c26b0 := eq_true c26
                                have c26b1 : decide (64 ≤ ((rdOf ByteArray.empty y497 ((rd_T27 l0_1 x6_1).f0)).size : Int)) = true := decide_eq_true c26
                                clear c26
                                by_cases c27 : (((rd_T27 l0_1 x6_1).f1).extract 0 64).size + ((rdOf ByteArray.empty y497 ((rd_T27 l0_1 x6_1).f0)).extract 64 (rdOf ByteArray.empty y497 ((rd_T27 l0_1 x6_1).f0)).size).size ≤ 9223372036854775807
                                · rw [if_pos c27] at H
                                  have c27b0 := eq_true c27
                                  have c27b1 : decide ((((rd_T27 l0_1 x6_1).f1).extract 0 64).size + ((rdOf ByteArray.empty y497 ((rd_T27 l0_1 x6_1).f0)).extract 64 (rdOf ByteArray.empty y497 ((rd_T27 l0_1 x6_1).f0)).size).size ≤ 9223372036854775807) = true := decide_eq_true c27
                                  try have c27b2 : (9223372036854775807 < (((rd_T27 l0_1 x6_1).f1).extract 0 64).size + ((rdOf ByteArray.empty y497 ((rd_T27 l0_1 x6_1).f0)).extract 64 (rdOf ByteArray.empty y497 ((rd_T27 l0_1 x6_1).f0)).size).size) = False := eq_false (Nat.not_lt.2 c27)
                                  have c27b3 : (9223372036854775807 < min 64 (rd_T27 l0_1 x6_1).f1.size + ((rdOf ByteArray.empty y497 (rd_T27 l0_1 x6_1).f0).size - 64)) = False := eq_false (by have h_ := c27; rw [ByteArray.size_extract, ByteArray.size_extract, Nat.min_self] at h_; omega)
                                  obtain ⟨y499, hy499⟩ : ∃ y_ : List ByteArray, y_ = (y497.set (((rd_T27 l0_1 x6_1).f0) : Int).toNat ((((rd_T27 l0_1 x6_1).f1).extract 0 64) ++ ((rdOf ByteArray.empty y497 ((rd_T27 l0_1 x6_1).f0)).extract 64 (rdOf ByteArray.empty y497 ((rd_T27 l0_1 x6_1).f0)).size))) := ⟨_, rfl⟩
                                  replace H : (hibernacleref15_Crash.l0 kj11 l1 y499 (wrap64 (x6_1 + 1)) l0_0 l0_1 a0_2) = some (r1, r2, r3) := by first | (rw [hy499]; with_reducible exact H) | (have H2_ := (Option.bind_some _ _).symm.trans H; rw [hy499]; with_reducible exact H2_) | (have H2_ := (Option.bind_some _ _).symm.trans H; with_reducible exact H2_) | with_reducible exact H | (rw [hy499]; exact H) | exact H
                                  have Ny499 := Aside0.mk hy499
                                  clear hy499
                                  have H' := Aside0.mk H
                                  clear H
                                  have hnb29 := NB486_487.out
                                  have hnc29 := NB487_486.out
                                  have hcz30_0 : wc.cell? ⟨gb486, 0, none⟩ = some (.slice A0_0 l0_0.length c0_0) := (blk_cell BK486.out 0).trans rfl
                                  have hcz30_1 : wc.cell? ⟨gb486, 1, none⟩ = some (.slice A0_1 l0_1.length c0_1) := (blk_cell BK486.out 1).trans rfl
                                  have hcz30_2 : wc.cell? ⟨gb486, 2, none⟩ = some (.int .i64 a0_2) := (blk_cell BK486.out 2).trans rfl
                                  have hfz30_0 := blk_frozen BK486.out 0
                                  have hfz30_1 := blk_frozen BK486.out 1
                                  have hfz30_2 := blk_frozen BK486.out 2
                                  have p495 : 0 ≤ (x6_1 : Int) := of_decide_eq_true (by first | (with_reducible assumption) | assumption)
                                  have q495 : x6_1 < (l0_1.length : Int) := of_decide_eq_true (by first | (with_reducible assumption) | assumption)
                                  obtain ⟨ad495, e495, hx495_0, hx495_1⟩ := at_T27 HR0_1.out x6_1 p495 q495
                                  cases e495
                                  replace hx495_0 := (HB.out.cell (World.block_lt_of_cell? w _ hx495_0)).trans hx495_0
                                  replace hx495_1 := (HB.out.cell (World.block_lt_of_cell? w _ hx495_1)).trans hx495_1
                                  replace p495 := eq_true p495
                                  replace q495 := eq_true q495
                                  try go_wp2_with (first | ((with_reducible refine gate_dst (N := 8) rfl ?_); refine box_event ?hg (N := 8) ?hd (cs := #[.int .i64 0, .string (⟨#[]⟩ : ByteArray)]) (t := 27) ?hr ?_; (case hd => rfl); (case hg => rfl); (case hr => first | (go_simp; done) | (go_simp; rfl)); intro gb496 hg w31 hbox hb; have n0_ := Aside0.mk (Kd.R_below (by (with_reducible repeat (first | apply Kd.R_alloc | apply Kd.R_drewN | apply Kd.R_drew)); exact HO_5.out) hb); have n1_ := Aside0.mk (blk_below (g := gb486) (o := .cells #[.slice A0_0 l0_0.length c0_0, .slice (some ad495) l0_1.length c0_1, .int .i64 a0_2] 29 (0, 0)) (by (with_reducible repeat (first | refine blk_drewN ?_ _ | refine blk_drew ?_ | refine blk_alloc ?_ _)); exact BK486.out) hb); have n2_ := Aside0.mk (blk_below (g := gb487) (o := .cells #[.slice none 0 0, .slice none 0 0, .int .i64 0] 29 (0, 0)) (by (with_reducible repeat (first | refine blk_drewN ?_ _ | refine blk_drew ?_ | refine blk_alloc ?_ _)); exact BK487.out) hb); have n3_ := Aside0.mk (below_step (by repeat (first | (with_reducible first | exact HB.out | apply below_alloc | apply pw_below_drewN | apply below_drew1 | refine below_set ?_ GE486.out | refine below_set ?_ GE487.out) | exact HB.out)) hb); have n4_ := Aside0.mk (hbox); have n5_ := Aside0.mk ((by rw [hg]; exact (below_size (by repeat (first | (with_reducible first | exact HB.out | apply below_alloc | apply pw_below_drewN | apply below_drew1 | refine below_set ?_ GE486.out | refine below_set ?_ GE487.out) | exact HB.out))) : w.heap.size ≤ gb496)); have n6_ := Aside0.mk ((by rw [hg]; exact (below_size (by repeat (first | (with_reducible first | exact HB.out | apply below_alloc | apply pw_below_drewN | apply below_drew1 | refine below_set ?_ GE486.out | refine below_set ?_ GE487.out) | exact HB.out))) : w.heap.size ≤ gb496)); have n7_ := Aside0.mk ((by rw [hg]; exact Nat.ne_of_lt (blk_lt (g := gb486) (o := .cells #[.slice A0_0 l0_0.length c0_0, .slice (some ad495) l0_1.length c0_1, .int .i64 a0_2] 29 (0, 0)) (by (with_reducible repeat (first | refine blk_drewN ?_ _ | refine blk_drew ?_ | refine blk_alloc ?_ _)); exact BK486.out)) : gb486 ≠ gb496)); have n8_ := Aside0.mk ((by rw [hg]; exact Nat.ne_of_gt (blk_lt (g := gb486) (o := .cells #[.slice A0_0 l0_0.length c0_0, .slice (some ad495) l0_1.length c0_1, .int .i64 a0_2] 29 (0, 0)) (by (with_reducible repeat (first | refine blk_drewN ?_ _ | refine blk_drew ?_ | refine blk_alloc ?_ _)); exact BK486.out)) : gb496 ≠ gb486)); have n9_ := Aside0.mk ((by rw [hg]; exact Nat.ne_of_lt (blk_lt (g := gb487) (o := .cells #[.slice none 0 0, .slice none 0 0, .int .i64 0] 29 (0, 0)) (by (with_reducible repeat (first | refine blk_drewN ?_ _ | refine blk_drew ?_ | refine blk_alloc ?_ _)); exact BK487.out)) : gb487 ≠ gb496)); have n10_ := Aside0.mk ((by rw [hg]; exact Nat.ne_of_gt (blk_lt (g := gb487) (o := .cells #[.slice none 0 0, .slice none 0 0, .int .i64 0] 29 (0, 0)) (by (with_reducible repeat (first | refine blk_drewN ?_ _ | refine blk_drew ?_ | refine blk_alloc ?_ _)); exact BK487.out)) : gb496 ≠ gb487)); clear HO_5; clear BK486; clear BK487; clear HB; have HO_5 := n0_; have BK486 := n1_; have BK487 := n2_; have HB := n3_; have BK496 := n4_; have GW496 := n5_; have GE496 := n6_; have NB486_496 := n7_; have NB496_486 := n8_; have NB487_496 := n9_; have NB496_487 := n10_; clear n0_ n1_ n2_ n3_ n4_ n5_ n6_ n7_ n8_ n9_ n10_; clear hb hbox hg; have hnb32 := NB496_486.out; have hnc32 := NB486_496.out; have hnb33 := NB496_487.out; have hnc33 := NB487_496.out; have hcz34_0 : w31.cell? ⟨gb496, 0, none⟩ = some (.int .i64 0) := (blk_cell BK496.out 0).trans rfl; have hcz34_1 : w31.cell? ⟨gb496, 1, none⟩ = some (.string (⟨#[]⟩ : ByteArray)) := (blk_cell BK496.out 1).trans rfl; have hfz34_0 := blk_frozen BK496.out 0; have hfz34_1 := blk_frozen BK496.out 1) | ((with_reducible refine gate_store (t := 27) (p := 8) rfl ?_); refine store_event (t := 27) (p := 8) (v := ?vo_w35) (w1 := ((w31.setCell ⟨gb496, 0, none⟩ (.int .i64 ((rd_T27 l0_1 x6_1).f0))).setCell ⟨gb496, 1, none⟩ (.string ((rd_T27 l0_1 x6_1).f1)))) ?hg ?ho ?hn ?hr ?_; (case ho => rfl); (case hg => rfl); (case hn => rfl); (case hr => first | (go_simp; done) | (go_simp; rfl)); intro w35 hw; have n0_ : Aside0 (Kd.R Kd.string 9 w35 w.heap.size (fun _ => True) v492 x5_1) := ⟨(by rw [hw]; exact (by (with_reducible repeat (first | apply Kd.R_alloc | apply Kd.R_drewN | apply Kd.R_drew)); exact Kd.R_mono (Kd.R_far (p := ⟨gb496, 1, none⟩) (Kd.R_far (p := ⟨gb496, 0, none⟩) (Kd.R_types HO_5.out BK496.out (by decide)) (fun _ hk => hk.2) (.int .i64 ((rd_T27 l0_1 x6_1).f0))) (fun _ hk => hk.2) (.string ((rd_T27 l0_1 x6_1).f1))) (fun _ hk => trivial)))⟩; have n1_ : Aside0 (w35.heap[gb486]? = some (.cells #[.slice A0_0 l0_0.length c0_0, .slice (some ad495) l0_1.length c0_1, .int .i64 a0_2] 29 (0, 0))) := ⟨(by rw [hw]; exact (by (with_reducible repeat (first | refine blk_drewN ?_ _ | refine blk_drew ?_ | refine blk_alloc ?_ _)); refine blk_far ?_ NB486_496.out _; (with_reducible repeat (first | refine blk_drewN ?_ _ | refine blk_drew ?_ | refine blk_alloc ?_ _)); refine blk_far ?_ NB486_496.out _; (with_reducible repeat (first | refine blk_drewN ?_ _ | refine blk_drew ?_ | refine blk_alloc ?_ _)); exact BK486.out))⟩; have n2_ : Aside0 (w35.heap[gb487]? = some (.cells #[.slice none 0 0, .slice none 0 0, .int .i64 0] 29 (0, 0))) := ⟨(by rw [hw]; exact (by (with_reducible repeat (first | refine blk_drewN ?_ _ | refine blk_drew ?_ | refine blk_alloc ?_ _)); refine blk_far ?_ NB487_496.out _; (with_reducible repeat (first | refine blk_drewN ?_ _ | refine blk_drew ?_ | refine blk_alloc ?_ _)); refine blk_far ?_ NB487_496.out _; (with_reducible repeat (first | refine blk_drewN ?_ _ | refine blk_drew ?_ | refine blk_alloc ?_ _)); exact BK487.out))⟩; have n3_ : Aside0 (w35.heap[gb496]? = some (.cells #[.int .i64 ((rd_T27 l0_1 x6_1).f0), .string ((rd_T27 l0_1 x6_1).f1)] 27 (0, 0))) := ⟨(by rw [hw]; exact (by (with_reducible repeat (first | refine blk_drewN ?_ _ | refine blk_drew ?_ | refine blk_alloc ?_ _)); refine blk_put (cs := #[.int .i64 ((rd_T27 l0_1 x6_1).f0), .string (⟨#[]⟩ : ByteArray)]) ?_ 1 _ rfl; (with_reducible repeat (first | refine blk_drewN ?_ _ | refine blk_drew ?_ | refine blk_alloc ?_ _)); refine blk_put (cs := #[.int .i64 0, .string (⟨#[]⟩ : ByteArray)]) ?_ 0 _ rfl; (with_reducible repeat (first | refine blk_drewN ?_ _ | refine blk_drew ?_ | refine blk_alloc ?_ _)); exact BK496.out))⟩; have n4_ : Aside0 (Below w.heap.size w w35) := ⟨(by rw [hw]; exact (by repeat (first | (with_reducible first | exact HB.out | apply below_alloc | apply pw_below_drewN | apply below_drew1 | refine below_set ?_ GE486.out | refine below_set ?_ GE487.out | refine below_set ?_ GE496.out) | exact HB.out)))⟩; clear hw; clear HO_5; clear BK486; clear BK487; clear BK496; clear HB; have HO_5 := n0_; have BK486 := n1_; have BK487 := n2_; have BK496 := n3_; have HB := n4_; clear n0_ n1_ n2_ n3_ n4_; have hcz36_0 : w35.cell? ⟨gb496, 0, none⟩ = some (.int .i64 ((rd_T27 l0_1 x6_1).f0)) := (blk_cell BK496.out 0).trans rfl; have hcz36_1 : w35.cell? ⟨gb496, 1, none⟩ = some (.string ((rd_T27 l0_1 x6_1).f1)) := (blk_cell BK496.out 1).trans rfl; have hfz36_0 := blk_frozen BK496.out 0; have hfz36_1 := blk_frozen BK496.out 1; have p22 : 0 ≤ (((rd_T27 l0_1 x6_1).f0) : Int) := of_decide_eq_true (by first | (with_reducible assumption) | assumption); have q22 : (((rd_T27 l0_1 x6_1).f0) : Int) < ((x5_1.length : Int) : Int) := of_decide_eq_true (by first | (with_reducible assumption) | assumption); obtain ⟨go22, co22, eo22, gb22, gl22, cl22, HG22⟩ := Kd.R_form HO_5.out (by omega); (first | cases eo22 | (injection eo22 with ea_ en_ ec_; (first | subst ea_ | (injection ea_ with ea_; subst ea_)); subst ec_; clear en_)); have GB22 := Aside0.mk gb22; have GG22 := Aside0.mk HG22; clear gb22 gl22 HG22; obtain ⟨hx22_0, hf22_0⟩ := Kd.R_celln (⟨#[]⟩ : ByteArray) HO_5.out (((rd_T27 l0_1 x6_1).f0) : Int) p22 q22; replace p22 := eq_true p22; replace q22 := eq_true q22; obtain ⟨hy37_, hz37_⟩ := Kd.R_celln (⟨#[]⟩ : ByteArray) HO_5.out (((rd_T27 l0_1 x6_1).f0) : Int) (of_decide_eq_true (by first | (with_reducible assumption) | assumption)) (of_decide_eq_true (by first | (with_reducible assumption) | assumption)); have HP37 := Kd.R_putg HO_5.out (((rd_T27 l0_1 x6_1).f0) : Int) ((rd_T27 l0_1 x6_1).f1)) | ((with_reducible refine gate_store (t := 9) (p := 43) rfl ?_); refine store_event (t := 9) (p := 43) (v := ?vo_w38) (w1 := (w35.setCell ⟨go22, (((rd_T27 l0_1 x6_1).f0) : Int).toNat, none⟩ (.string ((rd_T27 l0_1 x6_1).f1)))) ?hg ?ho ?hn ?hr ?_; (case ho => rfl); (case hg => rfl); (case hn => rfl); (case hr => first | (go_simp; done) | (go_simp; rfl)); intro w38 hw; have hg : w35.grownBy w38 (some go22) := (by rw [hw]; exact HP37.2); have hp_ : Kd.R Kd.string 9 w38 w.heap.size (fun _ => True) (.slice (some ⟨go22, 0, none⟩) x5_1.length co22) y497 := (by rw [hw, Ny497.out]; exact HP37.1); clear HP37; have n0_ := Aside0.mk (hp_); have n1_ := Aside0.mk (blk_grown (g := gb486) (o := .cells #[.slice A0_0 l0_0.length c0_0, .slice (some ad495) l0_1.length c0_1, .int .i64 a0_2] 29 (0, 0)) (by (with_reducible repeat (first | refine blk_drewN ?_ _ | refine blk_drew ?_ | refine blk_alloc ?_ _)); exact BK486.out) hg (Kd.R_ne HO_5.out BK486.out (by decide))); have n2_ := Aside0.mk (blk_grown (g := gb487) (o := .cells #[.slice none 0 0, .slice none 0 0, .int .i64 0] 29 (0, 0)) (by (with_reducible repeat (first | refine blk_drewN ?_ _ | refine blk_drew ?_ | refine blk_alloc ?_ _)); exact BK487.out) hg (Kd.R_ne HO_5.out BK487.out (by decide))); have n3_ := Aside0.mk (blk_grown (g := gb496) (o := .cells #[.int .i64 ((rd_T27 l0_1 x6_1).f0), .string ((rd_T27 l0_1 x6_1).f1)] 27 (0, 0)) (by (with_reducible repeat (first | refine blk_drewN ?_ _ | refine blk_drew ?_ | refine blk_alloc ?_ _)); exact BK496.out) hg (Kd.R_ne HO_5.out BK496.out (by decide))); have n4_ := Aside0.mk ((by rw [hw]; exact below_set (HB.out) GB22.out : Below w.heap.size w w38)); clear HO_5; clear BK486; clear BK487; clear BK496; clear HB; have HO_5 := n0_; have BK486 := n1_; have BK487 := n2_; have BK496 := n3_; have HB := n4_; clear n0_ n1_ n2_ n3_ n4_; clear hg hw hp_))
                                  have n0_ := Aside0.mk (Kd.R_drew HO_5.out)
                                  have n1_ := Aside0.mk (blk_drew BK486.out)
                                  have n2_ := Aside0.mk (blk_drew BK487.out)
                                  have n3_ := Aside0.mk (blk_drew BK496.out)
                                  have n4_ := Aside0.mk (below_drew1 HB.out)
                                  clear HO_5
                                  clear BK486
                                  clear BK487
                                  clear BK496
                                  clear HB
                                  have HO_5 := n0_
                                  have BK486 := n1_
                                  have BK487 := n2_
                                  have BK496 := n3_
                                  have HB := n4_
                                  clear n0_ n1_ n2_ n3_ n4_
                                  have p498 : 0 ≤ (((rd_T27 l0_1 x6_1).f0) : Int) := of_decide_eq_true (by first | (with_reducible assumption) | assumption)
                                  have q498 : ((rd_T27 l0_1 x6_1).f0) < (y497.length : Int) := (by have h_ : (((rd_T27 l0_1 x6_1).f0) : Int) < ((x5_1.length : Int) : Int) := of_decide_eq_true (by first | (with_reducible assumption) | assumption); first | (have e_ := (Kd.R_reads' HO_5.out).1; omega) | simpa only [Ny497.out, List.length_set] using h_)
                                  have ql498 : ((((rd_T27 l0_1 x6_1).f0) : Int) < ((x5_1.length : Int) : Int)) = True := eq_true (of_decide_eq_true (by first | (with_reducible assumption) | assumption))
                                  obtain ⟨ad498, e498, hx498_0⟩ := Kd.at_string (Kd.R_reads' HO_5.out).2.2 ((rd_T27 l0_1 x6_1).f0) p498 q498
                                  obtain rfl : (⟨go22, 0, none⟩ : Addr) = ad498 := (by injection e498)
                                  (first | simp only [add_plain] at hx498_0 | simp only [add_at] at hx498_0 | simp only [Addr.add, Nat.zero_add] at hx498_0 | skip)
                                  replace p498 := eq_true p498
                                  replace q498 := eq_true q498
                                  have p28 : 0 ≤ (((rd_T27 l0_1 x6_1).f0) : Int) := of_decide_eq_true (by first | (with_reducible assumption) | assumption)
                                  have q28 : (((rd_T27 l0_1 x6_1).f0) : Int) < ((x5_1.length : Int) : Int) := of_decide_eq_true (by first | (with_reducible assumption) | assumption)
                                  obtain ⟨hx28_0, hf28_0⟩ := Kd.R_celln (⟨#[]⟩ : ByteArray) HO_5.out (((rd_T27 l0_1 x6_1).f0) : Int) p28 q28
                                  replace p28 := eq_true p28
                                  replace q28 := eq_true q28
                                  have HP40 := Kd.R_putn HO_5.out (((rd_T27 l0_1 x6_1).f0) : Int) ((((rd_T27 l0_1 x6_1).f1).extract 0 64) ++ ((rdOf ByteArray.empty y497 ((rd_T27 l0_1 x6_1).f0)).extract 64 (rdOf ByteArray.empty y497 ((rd_T27 l0_1 x6_1).f0)).size))
                                  rw [← Ny499.out] at HP40
                                  have HQ40 := Aside0.mk HP40
                                  clear HP40
                                  refine start_ (n := 15) (S := fun w' => w'.cell? ⟨gb496, 0, none⟩ = some (.int .i64 ((rd_T27 l0_1 x6_1).f0)) ∧ w'.cell? ⟨gb496, 1, none⟩ = some (.string ((rd_T27 l0_1 x6_1).f1)) ∧ w'.cell? ⟨go22, (((rd_T27 l0_1 x6_1).f0)).toNat, none⟩ = some (.string (rdOf ByteArray.empty y497 ((rd_T27 l0_1 x6_1).f0)))) (ds := [14]) #[false, false, false, false, false, false, false, false, false, false, false, false, false, false, false] (by kernel_rfl) rfl rfl ⟨(blk_cell BK496.out 0).trans rfl, (blk_cell BK496.out 1).trans rfl, hx498_0⟩ (fun hHeld => ?_); refine with_tabW hibernacleref15_Crash.tab12 hibernacleref15_Crash.bits12 (fun HT_ HW_ => ?_)
                                  generalize w38.drew = w39 at HO_5 BK486 BK487 BK496 HB HQ40 hf28_0 hx28_0 hx498_0 hHeld ⊢
                                  refine pure_ (i := 0) (N := some 46) (v := ?_) (a' := ?_) #[true, false, false, false, false, false, false, false, false, false, false, false, false, false, false] rfl rfl (any_of HT_.out (by kernel_rfl)) (fun _ _ _ h => h) (Or.inl ⟨by rfl, ?_⟩) ?_ ?_
                                  rotate_left
                                  · intro w'
                                    go_simp
                                    with_reducible rfl
                                  rotate_left
                                  · simp only [Act.put, List.setIfInBounds_toArray, List.set_cons_zero, List.set_cons_succ, i64_w, i32_w]
                                    rfl
                                  refine pure_ (i := 1) (N := some 47) (v := ?_) (a' := ?_) #[true, true, false, false, false, false, false, false, false, false, false, false, false, false, false] rfl rfl (any_of HT_.out (by kernel_rfl)) (fun _ _ _ h => h) (Or.inl ⟨by rfl, ?_⟩) ?_ ?_
                                  rotate_left
                                  · intro w'
                                    go_simp
                                    with_reducible rfl
                                  rotate_left
                                  · simp only [Act.put, List.setIfInBounds_toArray, List.set_cons_zero, List.set_cons_succ, i64_w, i32_w]
                                    rfl
                                  refine pure_ (i := 3) (N := some 49) (v := ?_) (a' := ?_) #[true, true, false, true, false, false, false, false, false, false, false, false, false, false, false] rfl rfl (any_of HT_.out (by kernel_rfl)) (fun _ _ _ h => h) (Or.inl ⟨by rfl, ?_⟩) ?_ ?_
                                  rotate_left
                                  · intro w'
                                    go_simp
                                    with_reducible rfl
                                  rotate_left
                                  · simp only [Act.put, List.setIfInBounds_toArray, List.set_cons_zero, List.set_cons_succ, i64_w, i32_w]
                                    rfl
                                  refine pure_ (i := 6) (N := some 52) (v := ?_) (a' := ?_) #[true, true, false, true, false, false, true, false, false, false, false, false, false, false, false] rfl rfl (any_of HT_.out (by kernel_rfl)) (fun _ _ _ h => h) (Or.inl ⟨by rfl, ?_⟩) ?_ ?_
                                  rotate_left
                                  · intro w'
                                    go_simp
                                    with_reducible rfl
                                  rotate_left
                                  · simp only [Act.put, List.setIfInBounds_toArray, List.set_cons_zero, List.set_cons_succ, i64_w, i32_w]
                                    rfl
                                  refine pure_ (i := 7) (N := some 53) (v := ?_) (a' := ?_) #[true, true, false, true, false, false, true, true, false, false, false, false, false, false, false] rfl rfl (any_of HT_.out (by kernel_rfl)) (fun _ _ _ h => h) (Or.inl ⟨by rfl, ?_⟩) ?_ ?_
                                  rotate_left
                                  · intro w'
                                    go_simp
                                    with_reducible rfl
                                  rotate_left
                                  · simp only [Act.put, List.setIfInBounds_toArray, List.set_cons_zero, List.set_cons_succ, i64_w, i32_w]
                                    rfl
                                  refine take_ (i := 2) (N := some 48) (v := ?_) (a' := ?_) #[true, true, true, true, false, false, true, true, false, false, false, false, false, false, false] rfl rfl (take_ofW HT_.out HW_.out (by kernel_rfl)) (fun _ _ _ h => h) (Or.inl ⟨by rfl, ?_⟩) hHeld ?_ ?_
                                  rotate_left
                                  · rintro w' ⟨s0, s1, s2⟩
                                    go_simp
                                    with_reducible rfl
                                  rotate_left
                                  · simp only [Act.put, List.setIfInBounds_toArray, List.set_cons_zero, List.set_cons_succ, i64_w, i32_w]
                                    rfl
                                  refine take_ (i := 4) (N := some 50) (v := ?_) (a' := ?_) #[true, true, true, true, true, false, true, true, false, false, false, false, false, false, false] rfl rfl (take_ofW HT_.out HW_.out (by kernel_rfl)) (fun _ _ _ h => h) (Or.inl ⟨by rfl, ?_⟩) hHeld ?_ ?_
                                  rotate_left
                                  · rintro w' ⟨s0, s1, s2⟩
                                    go_simp
                                    with_reducible rfl
                                  rotate_left
                                  · simp only [Act.put, List.setIfInBounds_toArray, List.set_cons_zero, List.set_cons_succ, i64_w, i32_w]
                                    rfl
                                  refine pure_ (i := 5) (N := some 51) (v := ?_) (a' := ?_) #[true, true, true, true, true, true, true, true, false, false, false, false, false, false, false] rfl rfl (any_of HT_.out (by kernel_rfl)) (fun _ _ _ h => h) (Or.inl ⟨by rfl, ?_⟩) ?_ ?_
                                  rotate_left
                                  · intro w'
                                    go_simp
                                    with_reducible rfl
                                  rotate_left
                                  · simp only [Act.put, List.setIfInBounds_toArray, List.set_cons_zero, List.set_cons_succ, i64_w, i32_w]
                                    rfl
                                  refine take_ (i := 8) (N := some 54) (v := ?_) (a' := ?_) #[true, true, true, true, true, true, true, true, true, false, false, false, false, false, false] rfl rfl (take_ofW HT_.out HW_.out (by kernel_rfl)) (fun _ _ _ h => h) (Or.inl ⟨by rfl, ?_⟩) hHeld ?_ ?_
                                  rotate_left
                                  · rintro w' ⟨s0, s1, s2⟩
                                    go_simp
                                    with_reducible rfl
                                  rotate_left
                                  · simp only [Act.put, List.setIfInBounds_toArray, List.set_cons_zero, List.set_cons_succ, i64_w, i32_w]
                                    rfl
                                  refine pure_ (i := 9) (N := some 55) (v := ?_) (a' := ?_) #[true, true, true, true, true, true, true, true, true, true, false, false, false, false, false] rfl rfl (any_of HT_.out (by kernel_rfl)) (fun _ _ _ h => h) (Or.inl ⟨by rfl, ?_⟩) ?_ ?_
                                  rotate_left
                                  · intro w'
                                    go_simp
                                    with_reducible rfl
                                  rotate_left
                                  · simp only [Act.put, List.setIfInBounds_toArray, List.set_cons_zero, List.set_cons_succ, i64_w, i32_w]
                                    rfl
                                  refine take_ (i := 10) (N := some 56) (v := ?_) (a' := ?_) #[true, true, true, true, true, true, true, true, true, true, true, false, false, false, false] rfl rfl (take_ofW HT_.out HW_.out (by kernel_rfl)) (fun _ _ _ h => h) (Or.inl ⟨by rfl, ?_⟩) hHeld ?_ ?_
                                  rotate_left
                                  · rintro w' ⟨s0, s1, s2⟩
                                    go_simp
                                    with_reducible rfl
                                  rotate_left
                                  · simp only [Act.put, List.setIfInBounds_toArray, List.set_cons_zero, List.set_cons_succ, i64_w, i32_w]
                                    rfl
                                  refine pure_ (i := 11) (N := some 57) (v := ?_) (a' := ?_) #[true, true, true, true, true, true, true, true, true, true, true, true, false, false, false] rfl rfl (any_of HT_.out (by kernel_rfl)) (fun _ _ _ h => h) (Or.inl ⟨by rfl, ?_⟩) ?_ ?_
                                  rotate_left
                                  · intro w'
                                    go_simp
                                    with_reducible rfl
                                  rotate_left
                                  · simp only [Act.put, List.setIfInBounds_toArray, List.set_cons_zero, List.set_cons_succ, i64_w, i32_w]
                                    rfl
                                  refine pure_ (i := 12) (N := some 58) (v := ?_) (a' := ?_) #[true, true, true, true, true, true, true, true, true, true, true, true, true, false, false] rfl rfl (any_of HT_.out (by kernel_rfl)) (fun _ _ _ h => h) (Or.inl ⟨by rfl, ?_⟩) ?_ ?_
                                  rotate_left
                                  · intro w'
                                    go_simp
                                    with_reducible rfl
                                  rotate_left
                                  · simp only [Act.put, List.setIfInBounds_toArray, List.set_cons_zero, List.set_cons_succ, i64_w, i32_w]
                                    rfl
                                  refine pure_ (i := 13) (N := some 59) (v := ?_) (a' := ?_) #[true, true, true, true, true, true, true, true, true, true, true, true, true, true, false] rfl rfl (any_of HT_.out (by kernel_rfl)) (fun _ _ _ h => h) (Or.inl ⟨by rfl, ?_⟩) ?_ ?_
                                  rotate_left
                                  · intro w'
                                    go_simp
                                    with_reducible rfl
                                  rotate_left
                                  · simp only [Act.put, List.setIfInBounds_toArray, List.set_cons_zero, List.set_cons_succ, i64_w, i32_w]
                                    rfl
                                  refine last_ (i := 14) (N := none) #[true, true, true, true, true, true, true, true, true, true, true, true, true, true, true] rfl rfl (one_of HT_.out (by kernel_rfl)) (by decide) (fun K hK => ?_)
                                  refine skip_ (w1 := ?_) (by rfl) rfl ?_ ?_
                                  rotate_left
                                  · go_simp
                                    rfl
                                  refine hK.out _ _ ?_
                                  clear hK K
                                  refine done_ (done_of HT_.out (by kernel_rfl)) ?_
                                  try go_wp2
                                  go_roundg kj11
                                  case measure => have := HK1.out; have := HJ11.out; omega
                                  case rel => exact ⟨(y499), (wrap64 (x6_1 + 1)), (by first | rfl | (simp; done) | (simp [*]; done)), H', ⟨by have := HK1.out; have := HJ11.out; omega⟩, ⟨by (with_reducible repeat (first | apply Kd.R_alloc | apply Kd.R_drewN | apply Kd.R_drew)); exact HQ40.out⟩, ⟨by (with_reducible repeat (first | refine blk_drewN ?_ _ | refine blk_drew ?_ | refine blk_alloc ?_ _)); refine blk_far ?_ (by have h_ := Kd.R_ne HO_5.out BK486.out (by decide); intro e_; exact h_ (by rw [e_]; rfl)) _; (with_reducible repeat (first | refine blk_drewN ?_ _ | refine blk_drew ?_ | refine blk_alloc ?_ _)); exact BK486.out⟩, ⟨by (with_reducible repeat (first | refine blk_drewN ?_ _ | refine blk_drew ?_ | refine blk_alloc ?_ _)); refine blk_far ?_ (by have h_ := Kd.R_ne HO_5.out BK487.out (by decide); intro e_; exact h_ (by rw [e_]; rfl)) _; (with_reducible repeat (first | refine blk_drewN ?_ _ | refine blk_drew ?_ | refine blk_alloc ?_ _)); exact BK487.out⟩, ⟨by repeat (first | (with_reducible first | exact HB.out | apply below_alloc | apply pw_below_drewN | apply below_drew1 | refine below_set ?_ GB22.out | refine below_set ?_ GE486.out | refine below_set ?_ GE487.out | refine below_set ?_ GE496.out) | exact HB.out)⟩⟩
                                · rw [if_neg c27] at H
                                  exact absurd H (by simp)
                              · rw [if_neg c26] at H
                                exact absurd H (by simp)
                            · rw [if_neg c25] at H
                              exact absurd H (by simp)
                          · rw [if_neg c24] at H
                            exact absurd H (by simp)
                        · rw [if_neg c23] at H
                          have c23b0 : (x7_11 == 2) = false := beq_eq_false_iff_ne.mpr c23
                          have c23b1 : (x7_11 != 2) = true := bne_iff_ne.mpr c23
                          have H' := Aside0.mk H
                          clear H
                          have hnb41 := NB486_487.out
                          have hnc41 := NB487_486.out
                          have hcz42_0 : wc.cell? ⟨gb486, 0, none⟩ = some (.slice A0_0 l0_0.length c0_0) := (blk_cell BK486.out 0).trans rfl
                          have hcz42_1 : wc.cell? ⟨gb486, 1, none⟩ = some (.slice A0_1 l0_1.length c0_1) := (blk_cell BK486.out 1).trans rfl
                          have hcz42_2 : wc.cell? ⟨gb486, 2, none⟩ = some (.int .i64 a0_2) := (blk_cell BK486.out 2).trans rfl
                          have hfz42_0 := blk_frozen BK486.out 0
                          have hfz42_1 := blk_frozen BK486.out 1
                          have hfz42_2 := blk_frozen BK486.out 2
                          have p495 : 0 ≤ (x6_1 : Int) := of_decide_eq_true (by first | (with_reducible assumption) | assumption)
                          have q495 : x6_1 < (l0_1.length : Int) := of_decide_eq_true (by first | (with_reducible assumption) | assumption)
                          obtain ⟨ad495, e495, hx495_0, hx495_1⟩ := at_T27 HR0_1.out x6_1 p495 q495
                          cases e495
                          replace hx495_0 := (HB.out.cell (World.block_lt_of_cell? w _ hx495_0)).trans hx495_0
                          replace hx495_1 := (HB.out.cell (World.block_lt_of_cell? w _ hx495_1)).trans hx495_1
                          replace p495 := eq_true p495
                          replace q495 := eq_true q495
                          go_wp2_with (first | ((with_reducible refine gate_dst (N := 8) rfl ?_); refine box_event ?hg (N := 8) ?hd (cs := #[.int .i64 0, .string (⟨#[]⟩ : ByteArray)]) (t := 27) ?hr ?_; (case hd => rfl); (case hg => rfl); (case hr => first | (go_simp; done) | (go_simp; rfl)); intro gb496 hg w43 hbox hb; have n0_ := Aside0.mk (Kd.R_below (by (with_reducible repeat (first | apply Kd.R_alloc | apply Kd.R_drewN | apply Kd.R_drew)); exact HO_5.out) hb); have n1_ := Aside0.mk (blk_below (g := gb486) (o := .cells #[.slice A0_0 l0_0.length c0_0, .slice (some ad495) l0_1.length c0_1, .int .i64 a0_2] 29 (0, 0)) (by (with_reducible repeat (first | refine blk_drewN ?_ _ | refine blk_drew ?_ | refine blk_alloc ?_ _)); exact BK486.out) hb); have n2_ := Aside0.mk (blk_below (g := gb487) (o := .cells #[.slice none 0 0, .slice none 0 0, .int .i64 0] 29 (0, 0)) (by (with_reducible repeat (first | refine blk_drewN ?_ _ | refine blk_drew ?_ | refine blk_alloc ?_ _)); exact BK487.out) hb); have n3_ := Aside0.mk (below_step (by repeat (first | (with_reducible first | exact HB.out | apply below_alloc | apply pw_below_drewN | apply below_drew1 | refine below_set ?_ GE486.out | refine below_set ?_ GE487.out) | exact HB.out)) hb); have n4_ := Aside0.mk (hbox); have n5_ := Aside0.mk ((by rw [hg]; exact (below_size (by repeat (first | (with_reducible first | exact HB.out | apply below_alloc | apply pw_below_drewN | apply below_drew1 | refine below_set ?_ GE486.out | refine below_set ?_ GE487.out) | exact HB.out))) : w.heap.size ≤ gb496)); have n6_ := Aside0.mk ((by rw [hg]; exact (below_size (by repeat (first | (with_reducible first | exact HB.out | apply below_alloc | apply pw_below_drewN | apply below_drew1 | refine below_set ?_ GE486.out | refine below_set ?_ GE487.out) | exact HB.out))) : w.heap.size ≤ gb496)); have n7_ := Aside0.mk ((by rw [hg]; exact Nat.ne_of_lt (blk_lt (g := gb486) (o := .cells #[.slice A0_0 l0_0.length c0_0, .slice (some ad495) l0_1.length c0_1, .int .i64 a0_2] 29 (0, 0)) (by (with_reducible repeat (first | refine blk_drewN ?_ _ | refine blk_drew ?_ | refine blk_alloc ?_ _)); exact BK486.out)) : gb486 ≠ gb496)); have n8_ := Aside0.mk ((by rw [hg]; exact Nat.ne_of_gt (blk_lt (g := gb486) (o := .cells #[.slice A0_0 l0_0.length c0_0, .slice (some ad495) l0_1.length c0_1, .int .i64 a0_2] 29 (0, 0)) (by (with_reducible repeat (first | refine blk_drewN ?_ _ | refine blk_drew ?_ | refine blk_alloc ?_ _)); exact BK486.out)) : gb496 ≠ gb486)); have n9_ := Aside0.mk ((by rw [hg]; exact Nat.ne_of_lt (blk_lt (g := gb487) (o := .cells #[.slice none 0 0, .slice none 0 0, .int .i64 0] 29 (0, 0)) (by (with_reducible repeat (first | refine blk_drewN ?_ _ | refine blk_drew ?_ | refine blk_alloc ?_ _)); exact BK487.out)) : gb487 ≠ gb496)); have n10_ := Aside0.mk ((by rw [hg]; exact Nat.ne_of_gt (blk_lt (g := gb487) (o := .cells #[.slice none 0 0, .slice none 0 0, .int .i64 0] 29 (0, 0)) (by (with_reducible repeat (first | refine blk_drewN ?_ _ | refine blk_drew ?_ | refine blk_alloc ?_ _)); exact BK487.out)) : gb496 ≠ gb487)); clear HO_5; clear BK486; clear BK487; clear HB; have HO_5 := n0_; have BK486 := n1_; have BK487 := n2_; have HB := n3_; have BK496 := n4_; have GW496 := n5_; have GE496 := n6_; have NB486_496 := n7_; have NB496_486 := n8_; have NB487_496 := n9_; have NB496_487 := n10_; clear n0_ n1_ n2_ n3_ n4_ n5_ n6_ n7_ n8_ n9_ n10_; clear hb hbox hg; have hnb44 := NB496_486.out; have hnc44 := NB486_496.out; have hnb45 := NB496_487.out; have hnc45 := NB487_496.out; have hcz46_0 : w43.cell? ⟨gb496, 0, none⟩ = some (.int .i64 0) := (blk_cell BK496.out 0).trans rfl; have hcz46_1 : w43.cell? ⟨gb496, 1, none⟩ = some (.string (⟨#[]⟩ : ByteArray)) := (blk_cell BK496.out 1).trans rfl; have hfz46_0 := blk_frozen BK496.out 0; have hfz46_1 := blk_frozen BK496.out 1) | ((with_reducible refine gate_store (t := 27) (p := 8) rfl ?_); refine store_event (t := 27) (p := 8) (v := ?vo_w47) (w1 := ((w43.setCell ⟨gb496, 0, none⟩ (.int .i64 ((rd_T27 l0_1 x6_1).f0))).setCell ⟨gb496, 1, none⟩ (.string ((rd_T27 l0_1 x6_1).f1)))) ?hg ?ho ?hn ?hr ?_; (case ho => rfl); (case hg => rfl); (case hn => rfl); (case hr => first | (go_simp; done) | (go_simp; rfl)); intro w47 hw; have n0_ : Aside0 (Kd.R Kd.string 9 w47 w.heap.size (fun _ => True) v492 x5_1) := ⟨(by rw [hw]; exact (by (with_reducible repeat (first | apply Kd.R_alloc | apply Kd.R_drewN | apply Kd.R_drew)); exact Kd.R_mono (Kd.R_far (p := ⟨gb496, 1, none⟩) (Kd.R_far (p := ⟨gb496, 0, none⟩) (Kd.R_types HO_5.out BK496.out (by decide)) (fun _ hk => hk.2) (.int .i64 ((rd_T27 l0_1 x6_1).f0))) (fun _ hk => hk.2) (.string ((rd_T27 l0_1 x6_1).f1))) (fun _ hk => trivial)))⟩; have n1_ : Aside0 (w47.heap[gb486]? = some (.cells #[.slice A0_0 l0_0.length c0_0, .slice (some ad495) l0_1.length c0_1, .int .i64 a0_2] 29 (0, 0))) := ⟨(by rw [hw]; exact (by (with_reducible repeat (first | refine blk_drewN ?_ _ | refine blk_drew ?_ | refine blk_alloc ?_ _)); refine blk_far ?_ NB486_496.out _; (with_reducible repeat (first | refine blk_drewN ?_ _ | refine blk_drew ?_ | refine blk_alloc ?_ _)); refine blk_far ?_ NB486_496.out _; (with_reducible repeat (first | refine blk_drewN ?_ _ | refine blk_drew ?_ | refine blk_alloc ?_ _)); exact BK486.out))⟩; have n2_ : Aside0 (w47.heap[gb487]? = some (.cells #[.slice none 0 0, .slice none 0 0, .int .i64 0] 29 (0, 0))) := ⟨(by rw [hw]; exact (by (with_reducible repeat (first | refine blk_drewN ?_ _ | refine blk_drew ?_ | refine blk_alloc ?_ _)); refine blk_far ?_ NB487_496.out _; (with_reducible repeat (first | refine blk_drewN ?_ _ | refine blk_drew ?_ | refine blk_alloc ?_ _)); refine blk_far ?_ NB487_496.out _; (with_reducible repeat (first | refine blk_drewN ?_ _ | refine blk_drew ?_ | refine blk_alloc ?_ _)); exact BK487.out))⟩; have n3_ : Aside0 (w47.heap[gb496]? = some (.cells #[.int .i64 ((rd_T27 l0_1 x6_1).f0), .string ((rd_T27 l0_1 x6_1).f1)] 27 (0, 0))) := ⟨(by rw [hw]; exact (by (with_reducible repeat (first | refine blk_drewN ?_ _ | refine blk_drew ?_ | refine blk_alloc ?_ _)); refine blk_put (cs := #[.int .i64 ((rd_T27 l0_1 x6_1).f0), .string (⟨#[]⟩ : ByteArray)]) ?_ 1 _ rfl; (with_reducible repeat (first | refine blk_drewN ?_ _ | refine blk_drew ?_ | refine blk_alloc ?_ _)); refine blk_put (cs := #[.int .i64 0, .string (⟨#[]⟩ : ByteArray)]) ?_ 0 _ rfl; (with_reducible repeat (first | refine blk_drewN ?_ _ | refine blk_drew ?_ | refine blk_alloc ?_ _)); exact BK496.out))⟩; have n4_ : Aside0 (Below w.heap.size w w47) := ⟨(by rw [hw]; exact (by repeat (first | (with_reducible first | exact HB.out | apply below_alloc | apply pw_below_drewN | apply below_drew1 | refine below_set ?_ GE486.out | refine below_set ?_ GE487.out | refine below_set ?_ GE496.out) | exact HB.out)))⟩; clear hw; clear HO_5; clear BK486; clear BK487; clear BK496; clear HB; have HO_5 := n0_; have BK486 := n1_; have BK487 := n2_; have BK496 := n3_; have HB := n4_; clear n0_ n1_ n2_ n3_ n4_; have hcz48_0 : w47.cell? ⟨gb496, 0, none⟩ = some (.int .i64 ((rd_T27 l0_1 x6_1).f0)) := (blk_cell BK496.out 0).trans rfl; have hcz48_1 : w47.cell? ⟨gb496, 1, none⟩ = some (.string ((rd_T27 l0_1 x6_1).f1)) := (blk_cell BK496.out 1).trans rfl; have hfz48_0 := blk_frozen BK496.out 0; have hfz48_1 := blk_frozen BK496.out 1; have p22 : 0 ≤ (((rd_T27 l0_1 x6_1).f0) : Int) := of_decide_eq_true (by first | (with_reducible assumption) | assumption); have q22 : (((rd_T27 l0_1 x6_1).f0) : Int) < ((x5_1.length : Int) : Int) := of_decide_eq_true (by first | (with_reducible assumption) | assumption); obtain ⟨go22, co22, eo22, gb22, gl22, cl22, HG22⟩ := Kd.R_form HO_5.out (by omega); (first | cases eo22 | (injection eo22 with ea_ en_ ec_; (first | subst ea_ | (injection ea_ with ea_; subst ea_)); subst ec_; clear en_)); have GB22 := Aside0.mk gb22; have GG22 := Aside0.mk HG22; clear gb22 gl22 HG22; obtain ⟨hx22_0, hf22_0⟩ := Kd.R_celln (⟨#[]⟩ : ByteArray) HO_5.out (((rd_T27 l0_1 x6_1).f0) : Int) p22 q22; replace p22 := eq_true p22; replace q22 := eq_true q22; obtain ⟨hy49_, hz49_⟩ := Kd.R_celln (⟨#[]⟩ : ByteArray) HO_5.out (((rd_T27 l0_1 x6_1).f0) : Int) (of_decide_eq_true (by first | (with_reducible assumption) | assumption)) (of_decide_eq_true (by first | (with_reducible assumption) | assumption)); have HP49 := Kd.R_putg HO_5.out (((rd_T27 l0_1 x6_1).f0) : Int) ((rd_T27 l0_1 x6_1).f1)) | ((with_reducible refine gate_store (t := 9) (p := 43) rfl ?_); refine store_event (t := 9) (p := 43) (v := ?vo_w50) (w1 := (w47.setCell ⟨go22, (((rd_T27 l0_1 x6_1).f0) : Int).toNat, none⟩ (.string ((rd_T27 l0_1 x6_1).f1)))) ?hg ?ho ?hn ?hr ?_; (case ho => rfl); (case hg => rfl); (case hn => rfl); (case hr => first | (go_simp; done) | (go_simp; rfl)); intro w50 hw; have hg : w47.grownBy w50 (some go22) := (by rw [hw]; exact HP49.2); have hp_ : Kd.R Kd.string 9 w50 w.heap.size (fun _ => True) (.slice (some ⟨go22, 0, none⟩) x5_1.length co22) y497 := (by rw [hw, Ny497.out]; exact HP49.1); clear HP49; have n0_ := Aside0.mk (hp_); have n1_ := Aside0.mk (blk_grown (g := gb486) (o := .cells #[.slice A0_0 l0_0.length c0_0, .slice (some ad495) l0_1.length c0_1, .int .i64 a0_2] 29 (0, 0)) (by (with_reducible repeat (first | refine blk_drewN ?_ _ | refine blk_drew ?_ | refine blk_alloc ?_ _)); exact BK486.out) hg (Kd.R_ne HO_5.out BK486.out (by decide))); have n2_ := Aside0.mk (blk_grown (g := gb487) (o := .cells #[.slice none 0 0, .slice none 0 0, .int .i64 0] 29 (0, 0)) (by (with_reducible repeat (first | refine blk_drewN ?_ _ | refine blk_drew ?_ | refine blk_alloc ?_ _)); exact BK487.out) hg (Kd.R_ne HO_5.out BK487.out (by decide))); have n3_ := Aside0.mk (blk_grown (g := gb496) (o := .cells #[.int .i64 ((rd_T27 l0_1 x6_1).f0), .string ((rd_T27 l0_1 x6_1).f1)] 27 (0, 0)) (by (with_reducible repeat (first | refine blk_drewN ?_ _ | refine blk_drew ?_ | refine blk_alloc ?_ _)); exact BK496.out) hg (Kd.R_ne HO_5.out BK496.out (by decide))); have n4_ := Aside0.mk ((by rw [hw]; exact below_set (HB.out) GB22.out : Below w.heap.size w w50)); clear HO_5; clear BK486; clear BK487; clear BK496; clear HB; have HO_5 := n0_; have BK486 := n1_; have BK487 := n2_; have BK496 := n3_; have HB := n4_; clear n0_ n1_ n2_ n3_ n4_; clear hg hw hp_))
                          go_roundg kj11
                          case measure => have := HK1.out; have := HJ11.out; omega
                          case rel => exact ⟨(y497), (wrap64 (x6_1 + 1)), (by first | rfl | (simp; done) | (simp [*]; done)), H', ⟨by have := HK1.out; have := HJ11.out; omega⟩, ⟨by (with_reducible repeat (first | apply Kd.R_alloc | apply Kd.R_drewN | apply Kd.R_drew)); exact HO_5.out⟩, ⟨by (with_reducible repeat (first | refine blk_drewN ?_ _ | refine blk_drew ?_ | refine blk_alloc ?_ _)); exact BK486.out⟩, ⟨by (with_reducible repeat (first | refine blk_drewN ?_ _ | refine blk_drew ?_ | refine blk_alloc ?_ _)); exact BK487.out⟩, ⟨by repeat (first | (with_reducible first | exact HB.out | apply below_alloc | apply pw_below_drewN | apply below_drew1 | refine below_set ?_ GE486.out | refine below_set ?_ GE487.out | refine below_set ?_ GE496.out) | exact HB.out)⟩⟩
                      · rw [if_neg c21] at H
                        exact absurd H (by simp)
                    · rw [if_neg c20] at H
                      exact absurd H (by simp)
                  · rw [if_neg c19] at H
                    have c19b0 : (x7_11 == 1) = false := beq_eq_false_iff_ne.mpr c19
                    have c19b1 : (x7_11 != 1) = true := bne_iff_ne.mpr c19
                    by_cases c51 : x7_11 = 2
                    · rw [if_pos c51] at H
                      have c51b0 : (x7_11 == 2) = true := beq_iff_eq.mpr c51
                      have c51b1 : (x7_11 != 2) = false := bne_eq_false_iff_eq.mpr c51
                      clear c51
                      by_cases c52 : 0 ≤ 64
                      · rw [if_pos c52] at H
                        have c52b0 := eq_true c52
                        have c52b1 : decide (0 ≤ 64) = true := decide_eq_true c52
                        clear c52
                        by_cases c53 : 64 ≤ (((rd_T27 l0_1 x6_1).f1).size : Int)
                        · rw [if_pos c53] at H
                          have c53b0 := eq_true c53
                          have c53b1 : decide (64 ≤ (((rd_T27 l0_1 x6_1).f1).size : Int)) = true := decide_eq_true c53
                          clear c53
                          by_cases c54 : 0 ≤ ((rd_T27 l0_1 x6_1).f0)
                          · rw [if_pos c54] at H
                            have c54b0 : decide (0 ≤ ((rd_T27 l0_1 x6_1).f0)) = true := decide_eq_true c54
                            clear c54
                            by_cases c55 : ((rd_T27 l0_1 x6_1).f0) < (x5_1.length : Int)
                            · rw [if_pos c55] at H
                              have c55b0 : decide (((rd_T27 l0_1 x6_1).f0) < (x5_1.length : Int)) = true := decide_eq_true c55
                              clear c55
                              by_cases c56 : 64 ≤ ((rdOf ByteArray.empty x5_1 ((rd_T27 l0_1 x6_1).f0)).size : Int)
                              · rw [if_pos c56] at H
                                have c56b0 := eq_true c56
                                have c56b1 : decide (64 ≤ ((rdOf ByteArray.empty x5_1 ((rd_T27 l0_1 x6_1).f0)).size : Int)) = true := decide_eq_true c56
                                clear c56
                                by_cases c57 : (((rd_T27 l0_1 x6_1).f1).extract 0 64).size + ((rdOf ByteArray.empty x5_1 ((rd_T27 l0_1 x6_1).f0)).extract 64 (rdOf ByteArray.empty x5_1 ((rd_T27 l0_1 x6_1).f0)).size).size ≤ 9223372036854775807
                                · rw [if_pos c57] at H
                                  have c57b0 := eq_true c57
                                  have c57b1 : decide ((((rd_T27 l0_1 x6_1).f1).extract 0 64).size + ((rdOf ByteArray.empty x5_1 ((rd_T27 l0_1 x6_1).f0)).extract 64 (rdOf ByteArray.empty x5_1 ((rd_T27 l0_1 x6_1).f0)).size).size ≤ 9223372036854775807) = true := decide_eq_true c57
                                  try have c57b2 : (9223372036854775807 < (((rd_T27 l0_1 x6_1).f1).extract 0 64).size + ((rdOf ByteArray.empty x5_1 ((rd_T27 l0_1 x6_1).f0)).extract 64 (rdOf ByteArray.empty x5_1 ((rd_T27 l0_1 x6_1).f0)).size).size) = False := eq_false (Nat.not_lt.2 c57)
                                  have c57b3 : (9223372036854775807 < min 64 (rd_T27 l0_1 x6_1).f1.size + ((rdOf ByteArray.empty x5_1 (rd_T27 l0_1 x6_1).f0).size - 64)) = False := eq_false (by have h_ := c57; rw [ByteArray.size_extract, ByteArray.size_extract, Nat.min_self] at h_; omega)
                                  obtain ⟨y501, hy501⟩ : ∃ y_ : List ByteArray, y_ = (x5_1.set (((rd_T27 l0_1 x6_1).f0) : Int).toNat ((((rd_T27 l0_1 x6_1).f1).extract 0 64) ++ ((rdOf ByteArray.empty x5_1 ((rd_T27 l0_1 x6_1).f0)).extract 64 (rdOf ByteArray.empty x5_1 ((rd_T27 l0_1 x6_1).f0)).size))) := ⟨_, rfl⟩
                                  replace H : (hibernacleref15_Crash.l0 kj11 l1 y501 (wrap64 (x6_1 + 1)) l0_0 l0_1 a0_2) = some (r1, r2, r3) := by first | (rw [hy501]; with_reducible exact H) | (have H2_ := (Option.bind_some _ _).symm.trans H; rw [hy501]; with_reducible exact H2_) | (have H2_ := (Option.bind_some _ _).symm.trans H; with_reducible exact H2_) | with_reducible exact H | (rw [hy501]; exact H) | exact H
                                  have Ny501 := Aside0.mk hy501
                                  clear hy501
                                  have H' := Aside0.mk H
                                  clear H
                                  have hnb59 := NB486_487.out
                                  have hnc59 := NB487_486.out
                                  have hcz60_0 : wc.cell? ⟨gb486, 0, none⟩ = some (.slice A0_0 l0_0.length c0_0) := (blk_cell BK486.out 0).trans rfl
                                  have hcz60_1 : wc.cell? ⟨gb486, 1, none⟩ = some (.slice A0_1 l0_1.length c0_1) := (blk_cell BK486.out 1).trans rfl
                                  have hcz60_2 : wc.cell? ⟨gb486, 2, none⟩ = some (.int .i64 a0_2) := (blk_cell BK486.out 2).trans rfl
                                  have hfz60_0 := blk_frozen BK486.out 0
                                  have hfz60_1 := blk_frozen BK486.out 1
                                  have hfz60_2 := blk_frozen BK486.out 2
                                  have p495 : 0 ≤ (x6_1 : Int) := of_decide_eq_true (by first | (with_reducible assumption) | assumption)
                                  have q495 : x6_1 < (l0_1.length : Int) := of_decide_eq_true (by first | (with_reducible assumption) | assumption)
                                  obtain ⟨ad495, e495, hx495_0, hx495_1⟩ := at_T27 HR0_1.out x6_1 p495 q495
                                  cases e495
                                  replace hx495_0 := (HB.out.cell (World.block_lt_of_cell? w _ hx495_0)).trans hx495_0
                                  replace hx495_1 := (HB.out.cell (World.block_lt_of_cell? w _ hx495_1)).trans hx495_1
                                  replace p495 := eq_true p495
                                  replace q495 := eq_true q495
                                  try go_wp2_with (first | ((with_reducible refine gate_dst (N := 8) rfl ?_); refine box_event ?hg (N := 8) ?hd (cs := #[.int .i64 0, .string (⟨#[]⟩ : ByteArray)]) (t := 27) ?hr ?_; (case hd => rfl); (case hg => rfl); (case hr => first | (go_simp; done) | (go_simp; rfl)); intro gb496 hg w61 hbox hb; have n0_ := Aside0.mk (Kd.R_below (by (with_reducible repeat (first | apply Kd.R_alloc | apply Kd.R_drewN | apply Kd.R_drew)); exact HO_5.out) hb); have n1_ := Aside0.mk (blk_below (g := gb486) (o := .cells #[.slice A0_0 l0_0.length c0_0, .slice (some ad495) l0_1.length c0_1, .int .i64 a0_2] 29 (0, 0)) (by (with_reducible repeat (first | refine blk_drewN ?_ _ | refine blk_drew ?_ | refine blk_alloc ?_ _)); exact BK486.out) hb); have n2_ := Aside0.mk (blk_below (g := gb487) (o := .cells #[.slice none 0 0, .slice none 0 0, .int .i64 0] 29 (0, 0)) (by (with_reducible repeat (first | refine blk_drewN ?_ _ | refine blk_drew ?_ | refine blk_alloc ?_ _)); exact BK487.out) hb); have n3_ := Aside0.mk (below_step (by repeat (first | (with_reducible first | exact HB.out | apply below_alloc | apply pw_below_drewN | apply below_drew1 | refine below_set ?_ GE486.out | refine below_set ?_ GE487.out) | exact HB.out)) hb); have n4_ := Aside0.mk (hbox); have n5_ := Aside0.mk ((by rw [hg]; exact (below_size (by repeat (first | (with_reducible first | exact HB.out | apply below_alloc | apply pw_below_drewN | apply below_drew1 | refine below_set ?_ GE486.out | refine below_set ?_ GE487.out) | exact HB.out))) : w.heap.size ≤ gb496)); have n6_ := Aside0.mk ((by rw [hg]; exact (below_size (by repeat (first | (with_reducible first | exact HB.out | apply below_alloc | apply pw_below_drewN | apply below_drew1 | refine below_set ?_ GE486.out | refine below_set ?_ GE487.out) | exact HB.out))) : w.heap.size ≤ gb496)); have n7_ := Aside0.mk ((by rw [hg]; exact Nat.ne_of_lt (blk_lt (g := gb486) (o := .cells #[.slice A0_0 l0_0.length c0_0, .slice (some ad495) l0_1.length c0_1, .int .i64 a0_2] 29 (0, 0)) (by (with_reducible repeat (first | refine blk_drewN ?_ _ | refine blk_drew ?_ | refine blk_alloc ?_ _)); exact BK486.out)) : gb486 ≠ gb496)); have n8_ := Aside0.mk ((by rw [hg]; exact Nat.ne_of_gt (blk_lt (g := gb486) (o := .cells #[.slice A0_0 l0_0.length c0_0, .slice (some ad495) l0_1.length c0_1, .int .i64 a0_2] 29 (0, 0)) (by (with_reducible repeat (first | refine blk_drewN ?_ _ | refine blk_drew ?_ | refine blk_alloc ?_ _)); exact BK486.out)) : gb496 ≠ gb486)); have n9_ := Aside0.mk ((by rw [hg]; exact Nat.ne_of_lt (blk_lt (g := gb487) (o := .cells #[.slice none 0 0, .slice none 0 0, .int .i64 0] 29 (0, 0)) (by (with_reducible repeat (first | refine blk_drewN ?_ _ | refine blk_drew ?_ | refine blk_alloc ?_ _)); exact BK487.out)) : gb487 ≠ gb496)); have n10_ := Aside0.mk ((by rw [hg]; exact Nat.ne_of_gt (blk_lt (g := gb487) (o := .cells #[.slice none 0 0, .slice none 0 0, .int .i64 0] 29 (0, 0)) (by (with_reducible repeat (first | refine blk_drewN ?_ _ | refine blk_drew ?_ | refine blk_alloc ?_ _)); exact BK487.out)) : gb496 ≠ gb487)); clear HO_5; clear BK486; clear BK487; clear HB; have HO_5 := n0_; have BK486 := n1_; have BK487 := n2_; have HB := n3_; have BK496 := n4_; have GW496 := n5_; have GE496 := n6_; have NB486_496 := n7_; have NB496_486 := n8_; have NB487_496 := n9_; have NB496_487 := n10_; clear n0_ n1_ n2_ n3_ n4_ n5_ n6_ n7_ n8_ n9_ n10_; clear hb hbox hg; have hnb62 := NB496_486.out; have hnc62 := NB486_496.out; have hnb63 := NB496_487.out; have hnc63 := NB487_496.out; have hcz64_0 : w61.cell? ⟨gb496, 0, none⟩ = some (.int .i64 0) := (blk_cell BK496.out 0).trans rfl; have hcz64_1 : w61.cell? ⟨gb496, 1, none⟩ = some (.string (⟨#[]⟩ : ByteArray)) := (blk_cell BK496.out 1).trans rfl; have hfz64_0 := blk_frozen BK496.out 0; have hfz64_1 := blk_frozen BK496.out 1))
                                  have n0_ : Aside0 (Kd.R Kd.string 9 ((w61.setCell ⟨gb496, 0, none⟩ (.int .i64 ((rd_T27 l0_1 x6_1).f0))).setCell ⟨gb496, 1, none⟩ (.string ((rd_T27 l0_1 x6_1).f1))) w.heap.size (fun _ => True) v492 x5_1) := ⟨by (with_reducible repeat (first | apply Kd.R_alloc | apply Kd.R_drewN | apply Kd.R_drew)); exact Kd.R_mono (Kd.R_far (p := ⟨gb496, 1, none⟩) (Kd.R_far (p := ⟨gb496, 0, none⟩) (Kd.R_types HO_5.out BK496.out (by decide)) (fun _ hk => hk.2) (.int .i64 ((rd_T27 l0_1 x6_1).f0))) (fun _ hk => hk.2) (.string ((rd_T27 l0_1 x6_1).f1))) (fun _ hk => trivial)⟩
                                  have n1_ : Aside0 (((w61.setCell ⟨gb496, 0, none⟩ (.int .i64 ((rd_T27 l0_1 x6_1).f0))).setCell ⟨gb496, 1, none⟩ (.string ((rd_T27 l0_1 x6_1).f1))).heap[gb486]? = some (.cells #[.slice A0_0 l0_0.length c0_0, .slice (some ad495) l0_1.length c0_1, .int .i64 a0_2] 29 (0, 0))) := ⟨by (with_reducible repeat (first | refine blk_drewN ?_ _ | refine blk_drew ?_ | refine blk_alloc ?_ _)); refine blk_far ?_ NB486_496.out _; (with_reducible repeat (first | refine blk_drewN ?_ _ | refine blk_drew ?_ | refine blk_alloc ?_ _)); refine blk_far ?_ NB486_496.out _; (with_reducible repeat (first | refine blk_drewN ?_ _ | refine blk_drew ?_ | refine blk_alloc ?_ _)); exact BK486.out⟩
                                  have n2_ : Aside0 (((w61.setCell ⟨gb496, 0, none⟩ (.int .i64 ((rd_T27 l0_1 x6_1).f0))).setCell ⟨gb496, 1, none⟩ (.string ((rd_T27 l0_1 x6_1).f1))).heap[gb487]? = some (.cells #[.slice none 0 0, .slice none 0 0, .int .i64 0] 29 (0, 0))) := ⟨by (with_reducible repeat (first | refine blk_drewN ?_ _ | refine blk_drew ?_ | refine blk_alloc ?_ _)); refine blk_far ?_ NB487_496.out _; (with_reducible repeat (first | refine blk_drewN ?_ _ | refine blk_drew ?_ | refine blk_alloc ?_ _)); refine blk_far ?_ NB487_496.out _; (with_reducible repeat (first | refine blk_drewN ?_ _ | refine blk_drew ?_ | refine blk_alloc ?_ _)); exact BK487.out⟩
                                  have n3_ : Aside0 (((w61.setCell ⟨gb496, 0, none⟩ (.int .i64 ((rd_T27 l0_1 x6_1).f0))).setCell ⟨gb496, 1, none⟩ (.string ((rd_T27 l0_1 x6_1).f1))).heap[gb496]? = some (.cells #[.int .i64 ((rd_T27 l0_1 x6_1).f0), .string ((rd_T27 l0_1 x6_1).f1)] 27 (0, 0))) := ⟨by (with_reducible repeat (first | refine blk_drewN ?_ _ | refine blk_drew ?_ | refine blk_alloc ?_ _)); refine blk_put (cs := #[.int .i64 ((rd_T27 l0_1 x6_1).f0), .string (⟨#[]⟩ : ByteArray)]) ?_ 1 _ rfl; (with_reducible repeat (first | refine blk_drewN ?_ _ | refine blk_drew ?_ | refine blk_alloc ?_ _)); refine blk_put (cs := #[.int .i64 0, .string (⟨#[]⟩ : ByteArray)]) ?_ 0 _ rfl; (with_reducible repeat (first | refine blk_drewN ?_ _ | refine blk_drew ?_ | refine blk_alloc ?_ _)); exact BK496.out⟩
                                  have n4_ : Aside0 (Below w.heap.size w ((w61.setCell ⟨gb496, 0, none⟩ (.int .i64 ((rd_T27 l0_1 x6_1).f0))).setCell ⟨gb496, 1, none⟩ (.string ((rd_T27 l0_1 x6_1).f1)))) := ⟨by repeat (first | (with_reducible first | exact HB.out | apply below_alloc | apply pw_below_drewN | apply below_drew1 | refine below_set ?_ GE486.out | refine below_set ?_ GE487.out | refine below_set ?_ GE496.out) | exact HB.out)⟩
                                  (try clear HO_5)
                                  (try clear BK486)
                                  (try clear BK487)
                                  (try clear BK496)
                                  (try clear HB)
                                  generalize ((w61.setCell ⟨gb496, 0, none⟩ (.int .i64 ((rd_T27 l0_1 x6_1).f0))).setCell ⟨gb496, 1, none⟩ (.string ((rd_T27 l0_1 x6_1).f1))) = w65 at n0_ n1_ n2_ n3_ n4_ ⊢
                                  have HO_5 := n0_
                                  have BK486 := n1_
                                  have BK487 := n2_
                                  have BK496 := n3_
                                  have HB := n4_
                                  clear n0_ n1_ n2_ n3_ n4_
                                  have n0_ := Aside0.mk (Kd.R_drew HO_5.out)
                                  have n1_ := Aside0.mk (blk_drew BK486.out)
                                  have n2_ := Aside0.mk (blk_drew BK487.out)
                                  have n3_ := Aside0.mk (blk_drew BK496.out)
                                  have n4_ := Aside0.mk (below_drew1 HB.out)
                                  clear HO_5
                                  clear BK486
                                  clear BK487
                                  clear BK496
                                  clear HB
                                  have HO_5 := n0_
                                  have BK486 := n1_
                                  have BK487 := n2_
                                  have BK496 := n3_
                                  have HB := n4_
                                  clear n0_ n1_ n2_ n3_ n4_
                                  obtain ⟨Ao67, co67, eo67⟩ := Kd.R_slice HO_5.out
                                  (first | subst eo67 | (injection eo67 with f1_ f2_ f3_; have f4_ := f1_.symm; have f5_ := f3_.symm; clear f1_ f2_ f3_; subst f4_; subst f5_))
                                  have p500 : 0 ≤ (((rd_T27 l0_1 x6_1).f0) : Int) := of_decide_eq_true (by first | (with_reducible assumption) | assumption)
                                  have q500 : ((rd_T27 l0_1 x6_1).f0) < (x5_1.length : Int) := of_decide_eq_true (by first | (with_reducible assumption) | assumption)
                                  obtain ⟨ad500, e500, hx500_0⟩ := Kd.at_string (Kd.R_reads' HO_5.out).2.2 ((rd_T27 l0_1 x6_1).f0) p500 q500
                                  cases e500
                                  replace p500 := eq_true p500
                                  replace q500 := eq_true q500
                                  have p58 : 0 ≤ (((rd_T27 l0_1 x6_1).f0) : Int) := of_decide_eq_true (by first | (with_reducible assumption) | assumption)
                                  have q58 : (((rd_T27 l0_1 x6_1).f0) : Int) < ((x5_1.length : Int) : Int) := of_decide_eq_true (by first | (with_reducible assumption) | assumption)
                                  obtain ⟨go58, co58, eo58, gb58, gl58, cl58, HG58⟩ := Kd.R_form HO_5.out (by omega)
                                  (first | cases eo58 | (injection eo58 with ea_ en_ ec_; (first | subst ea_ | (injection ea_ with ea_; subst ea_)); subst ec_; clear en_))
                                  have GB58 := Aside0.mk gb58
                                  have GG58 := Aside0.mk HG58
                                  clear gb58 gl58 HG58
                                  (first | simp only [add_plain] at hx500_0 | skip)
                                  obtain ⟨hx58_0, hf58_0⟩ := Kd.R_celln (⟨#[]⟩ : ByteArray) HO_5.out (((rd_T27 l0_1 x6_1).f0) : Int) p58 q58
                                  replace p58 := eq_true p58
                                  replace q58 := eq_true q58
                                  have HP68 := Kd.R_putn HO_5.out (((rd_T27 l0_1 x6_1).f0) : Int) ((((rd_T27 l0_1 x6_1).f1).extract 0 64) ++ ((rdOf ByteArray.empty x5_1 ((rd_T27 l0_1 x6_1).f0)).extract 64 (rdOf ByteArray.empty x5_1 ((rd_T27 l0_1 x6_1).f0)).size))
                                  rw [← Ny501.out] at HP68
                                  have HQ68 := Aside0.mk HP68
                                  clear HP68
                                  refine start_ (n := 15) (S := fun w' => w'.cell? ⟨gb496, 0, none⟩ = some (.int .i64 ((rd_T27 l0_1 x6_1).f0)) ∧ w'.cell? ⟨gb496, 1, none⟩ = some (.string ((rd_T27 l0_1 x6_1).f1)) ∧ w'.cell? ⟨go58, (((rd_T27 l0_1 x6_1).f0)).toNat, none⟩ = some (.string (rdOf ByteArray.empty x5_1 ((rd_T27 l0_1 x6_1).f0)))) (ds := [14]) #[false, false, false, false, false, false, false, false, false, false, false, false, false, false, false] (by kernel_rfl) rfl rfl ⟨(blk_cell BK496.out 0).trans rfl, (blk_cell BK496.out 1).trans rfl, hx500_0⟩ (fun hHeld => ?_); refine with_tabW hibernacleref15_Crash.tab12 hibernacleref15_Crash.bits12 (fun HT_ HW_ => ?_)
                                  generalize w65.drew = w66 at HO_5 BK486 BK487 BK496 HB GG58 HQ68 hf58_0 hx500_0 hx58_0 hHeld ⊢
                                  refine pure_ (i := 0) (N := some 46) (v := ?_) (a' := ?_) #[true, false, false, false, false, false, false, false, false, false, false, false, false, false, false] rfl rfl (any_of HT_.out (by kernel_rfl)) (fun _ _ _ h => h) (Or.inl ⟨by rfl, ?_⟩) ?_ ?_
                                  rotate_left
                                  · intro w'
                                    go_simp
                                    with_reducible rfl
                                  rotate_left
                                  · simp only [Act.put, List.setIfInBounds_toArray, List.set_cons_zero, List.set_cons_succ, i64_w, i32_w]
                                    rfl
                                  refine pure_ (i := 1) (N := some 47) (v := ?_) (a' := ?_) #[true, true, false, false, false, false, false, false, false, false, false, false, false, false, false] rfl rfl (any_of HT_.out (by kernel_rfl)) (fun _ _ _ h => h) (Or.inl ⟨by rfl, ?_⟩) ?_ ?_
                                  rotate_left
                                  · intro w'
                                    go_simp
                                    with_reducible rfl
                                  rotate_left
                                  · simp only [Act.put, List.setIfInBounds_toArray, List.set_cons_zero, List.set_cons_succ, i64_w, i32_w]
                                    rfl
                                  refine pure_ (i := 3) (N := some 49) (v := ?_) (a' := ?_) #[true, true, false, true, false, false, false, false, false, false, false, false, false, false, false] rfl rfl (any_of HT_.out (by kernel_rfl)) (fun _ _ _ h => h) (Or.inl ⟨by rfl, ?_⟩) ?_ ?_
                                  rotate_left
                                  · intro w'
                                    go_simp
                                    with_reducible rfl
                                  rotate_left
                                  · simp only [Act.put, List.setIfInBounds_toArray, List.set_cons_zero, List.set_cons_succ, i64_w, i32_w]
                                    rfl
                                  refine pure_ (i := 6) (N := some 52) (v := ?_) (a' := ?_) #[true, true, false, true, false, false, true, false, false, false, false, false, false, false, false] rfl rfl (any_of HT_.out (by kernel_rfl)) (fun _ _ _ h => h) (Or.inl ⟨by rfl, ?_⟩) ?_ ?_
                                  rotate_left
                                  · intro w'
                                    go_simp
                                    with_reducible rfl
                                  rotate_left
                                  · simp only [Act.put, List.setIfInBounds_toArray, List.set_cons_zero, List.set_cons_succ, i64_w, i32_w]
                                    rfl
                                  refine pure_ (i := 7) (N := some 53) (v := ?_) (a' := ?_) #[true, true, false, true, false, false, true, true, false, false, false, false, false, false, false] rfl rfl (any_of HT_.out (by kernel_rfl)) (fun _ _ _ h => h) (Or.inl ⟨by rfl, ?_⟩) ?_ ?_
                                  rotate_left
                                  · intro w'
                                    go_simp
                                    with_reducible rfl
                                  rotate_left
                                  · simp only [Act.put, List.setIfInBounds_toArray, List.set_cons_zero, List.set_cons_succ, i64_w, i32_w]
                                    rfl
                                  refine take_ (i := 2) (N := some 48) (v := ?_) (a' := ?_) #[true, true, true, true, false, false, true, true, false, false, false, false, false, false, false] rfl rfl (take_ofW HT_.out HW_.out (by kernel_rfl)) (fun _ _ _ h => h) (Or.inl ⟨by rfl, ?_⟩) hHeld ?_ ?_
                                  rotate_left
                                  · rintro w' ⟨s0, s1, s2⟩
                                    go_simp
                                    with_reducible rfl
                                  rotate_left
                                  · simp only [Act.put, List.setIfInBounds_toArray, List.set_cons_zero, List.set_cons_succ, i64_w, i32_w]
                                    rfl
                                  refine take_ (i := 4) (N := some 50) (v := ?_) (a' := ?_) #[true, true, true, true, true, false, true, true, false, false, false, false, false, false, false] rfl rfl (take_ofW HT_.out HW_.out (by kernel_rfl)) (fun _ _ _ h => h) (Or.inl ⟨by rfl, ?_⟩) hHeld ?_ ?_
                                  rotate_left
                                  · rintro w' ⟨s0, s1, s2⟩
                                    go_simp
                                    with_reducible rfl
                                  rotate_left
                                  · simp only [Act.put, List.setIfInBounds_toArray, List.set_cons_zero, List.set_cons_succ, i64_w, i32_w]
                                    rfl
                                  refine pure_ (i := 5) (N := some 51) (v := ?_) (a' := ?_) #[true, true, true, true, true, true, true, true, false, false, false, false, false, false, false] rfl rfl (any_of HT_.out (by kernel_rfl)) (fun _ _ _ h => h) (Or.inl ⟨by rfl, ?_⟩) ?_ ?_
                                  rotate_left
                                  · intro w'
                                    go_simp
                                    with_reducible rfl
                                  rotate_left
                                  · simp only [Act.put, List.setIfInBounds_toArray, List.set_cons_zero, List.set_cons_succ, i64_w, i32_w]
                                    rfl
                                  refine take_ (i := 8) (N := some 54) (v := ?_) (a' := ?_) #[true, true, true, true, true, true, true, true, true, false, false, false, false, false, false] rfl rfl (take_ofW HT_.out HW_.out (by kernel_rfl)) (fun _ _ _ h => h) (Or.inl ⟨by rfl, ?_⟩) hHeld ?_ ?_
                                  rotate_left
                                  · rintro w' ⟨s0, s1, s2⟩
                                    go_simp
                                    with_reducible rfl
                                  rotate_left
                                  · simp only [Act.put, List.setIfInBounds_toArray, List.set_cons_zero, List.set_cons_succ, i64_w, i32_w]
                                    rfl
                                  refine pure_ (i := 9) (N := some 55) (v := ?_) (a' := ?_) #[true, true, true, true, true, true, true, true, true, true, false, false, false, false, false] rfl rfl (any_of HT_.out (by kernel_rfl)) (fun _ _ _ h => h) (Or.inl ⟨by rfl, ?_⟩) ?_ ?_
                                  rotate_left
                                  · intro w'
                                    go_simp
                                    with_reducible rfl
                                  rotate_left
                                  · simp only [Act.put, List.setIfInBounds_toArray, List.set_cons_zero, List.set_cons_succ, i64_w, i32_w]
                                    rfl
                                  refine take_ (i := 10) (N := some 56) (v := ?_) (a' := ?_) #[true, true, true, true, true, true, true, true, true, true, true, false, false, false, false] rfl rfl (take_ofW HT_.out HW_.out (by kernel_rfl)) (fun _ _ _ h => h) (Or.inl ⟨by rfl, ?_⟩) hHeld ?_ ?_
                                  rotate_left
                                  · rintro w' ⟨s0, s1, s2⟩
                                    go_simp
                                    with_reducible rfl
                                  rotate_left
                                  · simp only [Act.put, List.setIfInBounds_toArray, List.set_cons_zero, List.set_cons_succ, i64_w, i32_w]
                                    rfl
                                  refine pure_ (i := 11) (N := some 57) (v := ?_) (a' := ?_) #[true, true, true, true, true, true, true, true, true, true, true, true, false, false, false] rfl rfl (any_of HT_.out (by kernel_rfl)) (fun _ _ _ h => h) (Or.inl ⟨by rfl, ?_⟩) ?_ ?_
                                  rotate_left
                                  · intro w'
                                    go_simp
                                    with_reducible rfl
                                  rotate_left
                                  · simp only [Act.put, List.setIfInBounds_toArray, List.set_cons_zero, List.set_cons_succ, i64_w, i32_w]
                                    rfl
                                  refine pure_ (i := 12) (N := some 58) (v := ?_) (a' := ?_) #[true, true, true, true, true, true, true, true, true, true, true, true, true, false, false] rfl rfl (any_of HT_.out (by kernel_rfl)) (fun _ _ _ h => h) (Or.inl ⟨by rfl, ?_⟩) ?_ ?_
                                  rotate_left
                                  · intro w'
                                    go_simp
                                    with_reducible rfl
                                  rotate_left
                                  · simp only [Act.put, List.setIfInBounds_toArray, List.set_cons_zero, List.set_cons_succ, i64_w, i32_w]
                                    rfl
                                  refine pure_ (i := 13) (N := some 59) (v := ?_) (a' := ?_) #[true, true, true, true, true, true, true, true, true, true, true, true, true, true, false] rfl rfl (any_of HT_.out (by kernel_rfl)) (fun _ _ _ h => h) (Or.inl ⟨by rfl, ?_⟩) ?_ ?_
                                  rotate_left
                                  · intro w'
                                    go_simp
                                    with_reducible rfl
                                  rotate_left
                                  · simp only [Act.put, List.setIfInBounds_toArray, List.set_cons_zero, List.set_cons_succ, i64_w, i32_w]
                                    rfl
                                  refine last_ (i := 14) (N := none) #[true, true, true, true, true, true, true, true, true, true, true, true, true, true, true] rfl rfl (one_of HT_.out (by kernel_rfl)) (by decide) (fun K hK => ?_)
                                  refine skip_ (w1 := ?_) (by rfl) rfl ?_ ?_
                                  rotate_left
                                  · go_simp
                                    rfl
                                  refine hK.out _ _ ?_
                                  clear hK K
                                  refine done_ (done_of HT_.out (by kernel_rfl)) ?_
                                  try go_wp2
                                  go_roundg kj11
                                  case measure => have := HK1.out; have := HJ11.out; omega
                                  case rel => exact ⟨(y501), (wrap64 (x6_1 + 1)), (by first | rfl | (simp; done) | (simp [*]; done)), H', ⟨by have := HK1.out; have := HJ11.out; omega⟩, ⟨by (with_reducible repeat (first | apply Kd.R_alloc | apply Kd.R_drewN | apply Kd.R_drew)); exact HQ68.out⟩, ⟨by (with_reducible repeat (first | refine blk_drewN ?_ _ | refine blk_drew ?_ | refine blk_alloc ?_ _)); refine blk_far ?_ (by have h_ := Kd.R_ne HO_5.out BK486.out (by decide); intro e_; exact h_ (by rw [e_]; rfl)) _; (with_reducible repeat (first | refine blk_drewN ?_ _ | refine blk_drew ?_ | refine blk_alloc ?_ _)); exact BK486.out⟩, ⟨by (with_reducible repeat (first | refine blk_drewN ?_ _ | refine blk_drew ?_ | refine blk_alloc ?_ _)); refine blk_far ?_ (by have h_ := Kd.R_ne HO_5.out BK487.out (by decide); intro e_; exact h_ (by rw [e_]; rfl)) _; (with_reducible repeat (first | refine blk_drewN ?_ _ | refine blk_drew ?_ | refine blk_alloc ?_ _)); exact BK487.out⟩, ⟨by repeat (first | (with_reducible first | exact HB.out | apply below_alloc | apply pw_below_drewN | apply below_drew1 | refine below_set ?_ GB58.out | refine below_set ?_ GE486.out | refine below_set ?_ GE487.out | refine below_set ?_ GE496.out) | exact HB.out)⟩⟩
                                · rw [if_neg c57] at H
                                  exact absurd H (by simp)
                              · rw [if_neg c56] at H
                                exact absurd H (by simp)
                            · rw [if_neg c55] at H
                              exact absurd H (by simp)
                          · rw [if_neg c54] at H
                            exact absurd H (by simp)
                        · rw [if_neg c53] at H
                          exact absurd H (by simp)
                      · rw [if_neg c52] at H
                        exact absurd H (by simp)
                    · rw [if_neg c51] at H
                      have c51b0 : (x7_11 == 2) = false := beq_eq_false_iff_ne.mpr c51
                      have c51b1 : (x7_11 != 2) = true := bne_iff_ne.mpr c51
                      have H' := Aside0.mk H
                      clear H
                      have hnb69 := NB486_487.out
                      have hnc69 := NB487_486.out
                      have hcz70_0 : wc.cell? ⟨gb486, 0, none⟩ = some (.slice A0_0 l0_0.length c0_0) := (blk_cell BK486.out 0).trans rfl
                      have hcz70_1 : wc.cell? ⟨gb486, 1, none⟩ = some (.slice A0_1 l0_1.length c0_1) := (blk_cell BK486.out 1).trans rfl
                      have hcz70_2 : wc.cell? ⟨gb486, 2, none⟩ = some (.int .i64 a0_2) := (blk_cell BK486.out 2).trans rfl
                      have hfz70_0 := blk_frozen BK486.out 0
                      have hfz70_1 := blk_frozen BK486.out 1
                      have hfz70_2 := blk_frozen BK486.out 2
                      have p495 : 0 ≤ (x6_1 : Int) := of_decide_eq_true (by first | (with_reducible assumption) | assumption)
                      have q495 : x6_1 < (l0_1.length : Int) := of_decide_eq_true (by first | (with_reducible assumption) | assumption)
                      obtain ⟨ad495, e495, hx495_0, hx495_1⟩ := at_T27 HR0_1.out x6_1 p495 q495
                      cases e495
                      replace hx495_0 := (HB.out.cell (World.block_lt_of_cell? w _ hx495_0)).trans hx495_0
                      replace hx495_1 := (HB.out.cell (World.block_lt_of_cell? w _ hx495_1)).trans hx495_1
                      replace p495 := eq_true p495
                      replace q495 := eq_true q495
                      go_wp2_with (first | ((with_reducible refine gate_dst (N := 8) rfl ?_); refine box_event ?hg (N := 8) ?hd (cs := #[.int .i64 0, .string (⟨#[]⟩ : ByteArray)]) (t := 27) ?hr ?_; (case hd => rfl); (case hg => rfl); (case hr => first | (go_simp; done) | (go_simp; rfl)); intro gb496 hg w71 hbox hb; have n0_ := Aside0.mk (Kd.R_below (by (with_reducible repeat (first | apply Kd.R_alloc | apply Kd.R_drewN | apply Kd.R_drew)); exact HO_5.out) hb); have n1_ := Aside0.mk (blk_below (g := gb486) (o := .cells #[.slice A0_0 l0_0.length c0_0, .slice (some ad495) l0_1.length c0_1, .int .i64 a0_2] 29 (0, 0)) (by (with_reducible repeat (first | refine blk_drewN ?_ _ | refine blk_drew ?_ | refine blk_alloc ?_ _)); exact BK486.out) hb); have n2_ := Aside0.mk (blk_below (g := gb487) (o := .cells #[.slice none 0 0, .slice none 0 0, .int .i64 0] 29 (0, 0)) (by (with_reducible repeat (first | refine blk_drewN ?_ _ | refine blk_drew ?_ | refine blk_alloc ?_ _)); exact BK487.out) hb); have n3_ := Aside0.mk (below_step (by repeat (first | (with_reducible first | exact HB.out | apply below_alloc | apply pw_below_drewN | apply below_drew1 | refine below_set ?_ GE486.out | refine below_set ?_ GE487.out) | exact HB.out)) hb); have n4_ := Aside0.mk (hbox); have n5_ := Aside0.mk ((by rw [hg]; exact (below_size (by repeat (first | (with_reducible first | exact HB.out | apply below_alloc | apply pw_below_drewN | apply below_drew1 | refine below_set ?_ GE486.out | refine below_set ?_ GE487.out) | exact HB.out))) : w.heap.size ≤ gb496)); have n6_ := Aside0.mk ((by rw [hg]; exact (below_size (by repeat (first | (with_reducible first | exact HB.out | apply below_alloc | apply pw_below_drewN | apply below_drew1 | refine below_set ?_ GE486.out | refine below_set ?_ GE487.out) | exact HB.out))) : w.heap.size ≤ gb496)); have n7_ := Aside0.mk ((by rw [hg]; exact Nat.ne_of_lt (blk_lt (g := gb486) (o := .cells #[.slice A0_0 l0_0.length c0_0, .slice (some ad495) l0_1.length c0_1, .int .i64 a0_2] 29 (0, 0)) (by (with_reducible repeat (first | refine blk_drewN ?_ _ | refine blk_drew ?_ | refine blk_alloc ?_ _)); exact BK486.out)) : gb486 ≠ gb496)); have n8_ := Aside0.mk ((by rw [hg]; exact Nat.ne_of_gt (blk_lt (g := gb486) (o := .cells #[.slice A0_0 l0_0.length c0_0, .slice (some ad495) l0_1.length c0_1, .int .i64 a0_2] 29 (0, 0)) (by (with_reducible repeat (first | refine blk_drewN ?_ _ | refine blk_drew ?_ | refine blk_alloc ?_ _)); exact BK486.out)) : gb496 ≠ gb486)); have n9_ := Aside0.mk ((by rw [hg]; exact Nat.ne_of_lt (blk_lt (g := gb487) (o := .cells #[.slice none 0 0, .slice none 0 0, .int .i64 0] 29 (0, 0)) (by (with_reducible repeat (first | refine blk_drewN ?_ _ | refine blk_drew ?_ | refine blk_alloc ?_ _)); exact BK487.out)) : gb487 ≠ gb496)); have n10_ := Aside0.mk ((by rw [hg]; exact Nat.ne_of_gt (blk_lt (g := gb487) (o := .cells #[.slice none 0 0, .slice none 0 0, .int .i64 0] 29 (0, 0)) (by (with_reducible repeat (first | refine blk_drewN ?_ _ | refine blk_drew ?_ | refine blk_alloc ?_ _)); exact BK487.out)) : gb496 ≠ gb487)); clear HO_5; clear BK486; clear BK487; clear HB; have HO_5 := n0_; have BK486 := n1_; have BK487 := n2_; have HB := n3_; have BK496 := n4_; have GW496 := n5_; have GE496 := n6_; have NB486_496 := n7_; have NB496_486 := n8_; have NB487_496 := n9_; have NB496_487 := n10_; clear n0_ n1_ n2_ n3_ n4_ n5_ n6_ n7_ n8_ n9_ n10_; clear hb hbox hg; have hnb72 := NB496_486.out; have hnc72 := NB486_496.out; have hnb73 := NB496_487.out; have hnc73 := NB487_496.out; have hcz74_0 : w71.cell? ⟨gb496, 0, none⟩ = some (.int .i64 0) := (blk_cell BK496.out 0).trans rfl; have hcz74_1 : w71.cell? ⟨gb496, 1, none⟩ = some (.string (⟨#[]⟩ : ByteArray)) := (blk_cell BK496.out 1).trans rfl; have hfz74_0 := blk_frozen BK496.out 0; have hfz74_1 := blk_frozen BK496.out 1))
                      go_roundg kj11
                      case measure => have := HK1.out; have := HJ11.out; omega
                      case rel => exact ⟨(x5_1), (wrap64 (x6_1 + 1)), (by first | rfl | (simp; done) | (simp [*]; done)), H', ⟨by have := HK1.out; have := HJ11.out; omega⟩, ⟨by (with_reducible repeat (first | apply Kd.R_alloc | apply Kd.R_drewN | apply Kd.R_drew)); exact Kd.R_mono (Kd.R_far (p := ⟨gb496, 1, none⟩) (Kd.R_far (p := ⟨gb496, 0, none⟩) (Kd.R_types HO_5.out BK496.out (by decide)) (fun _ hk => hk.2) (.int .i64 ((rd_T27 l0_1 x6_1).f0))) (fun _ hk => hk.2) (.string ((rd_T27 l0_1 x6_1).f1))) (fun _ hk => trivial)⟩, ⟨by (with_reducible repeat (first | refine blk_drewN ?_ _ | refine blk_drew ?_ | refine blk_alloc ?_ _)); refine blk_far ?_ NB486_496.out _; (with_reducible repeat (first | refine blk_drewN ?_ _ | refine blk_drew ?_ | refine blk_alloc ?_ _)); refine blk_far ?_ NB486_496.out _; (with_reducible repeat (first | refine blk_drewN ?_ _ | refine blk_drew ?_ | refine blk_alloc ?_ _)); exact BK486.out⟩, ⟨by (with_reducible repeat (first | refine blk_drewN ?_ _ | refine blk_drew ?_ | refine blk_alloc ?_ _)); refine blk_far ?_ NB487_496.out _; (with_reducible repeat (first | refine blk_drewN ?_ _ | refine blk_drew ?_ | refine blk_alloc ?_ _)); refine blk_far ?_ NB487_496.out _; (with_reducible repeat (first | refine blk_drewN ?_ _ | refine blk_drew ?_ | refine blk_alloc ?_ _)); exact BK487.out⟩, ⟨by repeat (first | (with_reducible first | exact HB.out | apply below_alloc | apply pw_below_drewN | apply below_drew1 | refine below_set ?_ GE486.out | refine below_set ?_ GE487.out | refine below_set ?_ GE496.out) | exact HB.out)⟩⟩
                · rw [if_neg c18] at H
                  exact absurd H (by simp)
              · rw [if_neg c17] at H
                exact absurd H (by simp)
        · rw [if_neg c11] at H
          have c11b0 : decide (x6_1 < (l0_1.length : Int)) = false := decide_eq_false c11
          clear c11
          simp only [Option.some.injEq, Prod.mk.injEq] at H
          obtain ⟨rfl, rfl, rfl⟩ := H
          have hnb75 := NB486_487.out
          have hnc75 := NB487_486.out
          have hcz76_0 : wr.cell? ⟨gb486, 0, none⟩ = some (.slice A0_0 l0_0.length c0_0) := (blk_cell BK486.out 0).trans rfl
          have hcz76_1 : wr.cell? ⟨gb486, 1, none⟩ = some (.slice A0_1 l0_1.length c0_1) := (blk_cell BK486.out 1).trans rfl
          have hcz76_2 : wr.cell? ⟨gb486, 2, none⟩ = some (.int .i64 a0_2) := (blk_cell BK486.out 2).trans rfl
          have hfz76_0 := blk_frozen BK486.out 0
          have hfz76_1 := blk_frozen BK486.out 1
          have hfz76_2 := blk_frozen BK486.out 2
          obtain ⟨Ao77, co77, eo77⟩ := Kd.R_slice HO_5.out
          subst eo77
          have hcz78_0 : wr.cell? ⟨gb487, 0, none⟩ = some (.slice none 0 0) := (blk_cell BK487.out 0).trans rfl
          have hcz78_1 : wr.cell? ⟨gb487, 1, none⟩ = some (.slice none 0 0) := (blk_cell BK487.out 1).trans rfl
          have hcz78_2 : wr.cell? ⟨gb487, 2, none⟩ = some (.int .i64 0) := (blk_cell BK487.out 2).trans rfl
          have hfz78_0 := blk_frozen BK487.out 0
          have hfz78_1 := blk_frozen BK487.out 1
          have hfz78_2 := blk_frozen BK487.out 2
          go_wp2
          refine bodyPost_ret (results_cell_row rfl _ _ gb487 29 #[.slice Ao77 x5_1.length co77, .slice none 0 0, .int .i64 (-1)] (0, 0) _ rfl (by (with_reducible repeat (first | refine blk_drewN ?_ _ | refine blk_drew ?_ | refine blk_alloc ?_ _)); refine blk_put (cs := #[.slice Ao77 x5_1.length co77, .slice none 0 0, .int .i64 0]) ?_ 2 _ rfl; (with_reducible repeat (first | refine blk_drewN ?_ _ | refine blk_drew ?_ | refine blk_alloc ?_ _)); refine blk_put (cs := #[.slice Ao77 x5_1.length co77, .slice none 0 0, .int .i64 0]) ?_ 1 _ rfl; (with_reducible repeat (first | refine blk_drewN ?_ _ | refine blk_drew ?_ | refine blk_alloc ?_ _)); refine blk_put (cs := #[.slice none 0 0, .slice none 0 0, .int .i64 0]) ?_ 0 _ rfl; (with_reducible repeat (first | refine blk_drewN ?_ _ | refine blk_drew ?_ | refine blk_alloc ?_ _)); exact BK487.out) Try.underlying29 rfl (by kernel_rfl)) rfl ?_
          exact ⟨_, _, by first | rfl | (simp [errW_none, errW_some] <;> rfl) | (simp [*, errW_none, errW_some] <;> rfl), by (with_reducible repeat (first | apply Kd.R_alloc | apply Kd.R_drewN | apply Kd.R_drew)); exact Kd.R_mono (Kd.R_far (p := ⟨gb487, 2, none⟩) (Kd.R_far (p := ⟨gb487, 1, none⟩) (Kd.R_far (p := ⟨gb487, 0, none⟩) (Kd.R_types HO_5.out BK487.out (by decide)) (fun _ hk => hk.2) (.slice Ao77 x5_1.length co77)) (fun _ hk => hk.2) (.slice none 0 0)) (fun _ hk => hk.2) (.int .i64 (-1))) (fun _ hk => trivial), by first | exact Kd.R_nil _ _ _ _ _ | exact Kd.N_nil _ _ _ _ _ | exact Kd.V_nil _ _ _ _ _ | exact Kd.Q_nil _ _ _ _ _ | exact Kd.S_nil _ _ _ _ _, by repeat (first | (with_reducible first | exact HB.out | apply below_alloc | apply pw_below_drewN | apply below_drew1 | refine below_set ?_ GE486.out | refine below_set ?_ GE487.out) | exact HB.out)⟩
  · rw [if_neg c3] at H
    exact absurd H (by simp)

end Go.Proofs.Ytjfmnkmgnbbfgaa.A
