-- Made by drv.py (ours) by way of the kit's print; Lean checks it.
import Derived.Test.YtjfmnkmgnbbfgaaA0
import Derived.Test.YtjfmnkmgnbbfgaaAeq27
namespace Go.Proofs.Ytjfmnkmgnbbfgaa.A
open Go.RowKit Go.Proofs.YtjfmnkmgnbbfgaaW.PrintWords Go.Proofs.YtjfmnkmgnbbfgaaW.PrintLast Go.Proofs.YtjfmnkmgnbbfgaaW.PrintMore
attribute [local go_sem] max2_int min2_int max_two min_two max_three min_three max_four min_four   -- for this text's walks alone
set_option linter.unusedVariables false
set_option linter.unusedSimpArgs false

attribute [local go_sem high] eqA27
/-! ### hibernacleref15_Same: function 36 -/
mutual
def hibernacleref15_Same.j0 : Nat → Bool → List ByteArray → List (S27) → Int → List ByteArray → List (S27) → Int → Option (Bool)
  | 0, _, _, _, _, _, _, _ => none
  | k + 1, x29, x438000, x438001, x438002, x439000, x439001, x439002 => if x29 = true then (some false) else (hibernacleref15_Same.l0 k 0 x438000 x438001 x438002 x439000 x439001 x439002)
def hibernacleref15_Same.l0 : Nat → Int → List ByteArray → List (S27) → Int → List ByteArray → List (S27) → Int → Option (Bool)
  | 0, _, _, _, _, _, _, _ => none
  | k + 1, x5, x438000, x438001, x438002, x439000, x439001, x439002 => if x5 < (x438000.length : Int) then (if 0 ≤ x5 then (if x5 < (x439000.length : Int) then (if (rdOf ByteArray.empty x438000 x5).toList = (rdOf ByteArray.empty x439000 x5).toList then (hibernacleref15_Same.l0 k (wrap64 (x5 + 1)) x438000 x438001 x438002 x439000 x439001 x439002) else (some false)) else (none)) else (none)) else (hibernacleref15_Same.l1 k 0 x438000 x438001 x438002 x439000 x439001 x439002)
def hibernacleref15_Same.l1 : Nat → Int → List ByteArray → List (S27) → Int → List ByteArray → List (S27) → Int → Option (Bool)
  | 0, _, _, _, _, _, _, _ => none
  | k + 1, x6, x438000, x438001, x438002, x439000, x439001, x439002 => if x6 < (x438001.length : Int) then (if 0 ≤ x6 then (if x6 < (x439001.length : Int) then (if (!(((rd_T27 x438001 x6).f0) == ((rd_T27 x439001 x6).f0)) || (!((((rd_T27 x438001 x6).f1).toList) == (((rd_T27 x439001 x6).f1).toList)))) = true then (some false) else (hibernacleref15_Same.l1 k (wrap64 (x6 + 1)) x438000 x438001 x438002 x439000 x439001 x439002)) else (none)) else (none)) else (some true)
end
def hibernacleref15_Same.f (k : Nat) (l0_0 : List ByteArray) (l0_1 : List (S27)) (a0_2 : Int) (l1_0 : List ByteArray) (l1_1 : List (S27)) (a1_2 : Int) : Option (Bool) := if a0_2 = a1_2 then (if (l0_0.length : Int) = (l1_0.length : Int) then (hibernacleref15_Same.j0 k ((l0_1.length : Int) != (l1_1.length : Int)) l0_0 l0_1 a0_2 l1_0 l1_1 a1_2) else (hibernacleref15_Same.j0 k true l0_0 l0_1 a0_2 l1_0 l1_1 a1_2)) else (hibernacleref15_Same.j0 k true l0_0 l0_1 a0_2 l1_0 l1_1 a1_2)
theorem hibernacleref15_Same.mono_l : ∀ k, (∀ y0 y1 y2 y3 y4 y5 y6, LeO (hibernacleref15_Same.j0 k y0 y1 y2 y3 y4 y5 y6) (hibernacleref15_Same.j0 (k + 1) y0 y1 y2 y3 y4 y5 y6)) ∧ (∀ y0 y1 y2 y3 y4 y5 y6, LeO (hibernacleref15_Same.l0 k y0 y1 y2 y3 y4 y5 y6) (hibernacleref15_Same.l0 (k + 1) y0 y1 y2 y3 y4 y5 y6)) ∧ (∀ y0 y1 y2 y3 y4 y5 y6, LeO (hibernacleref15_Same.l1 k y0 y1 y2 y3 y4 y5 y6) (hibernacleref15_Same.l1 (k + 1) y0 y1 y2 y3 y4 y5 y6))
  | 0 => ⟨fun _ _ _ _ _ _ _ r h => by simp [hibernacleref15_Same.j0] at h, fun _ _ _ _ _ _ _ r h => by simp [hibernacleref15_Same.l0] at h, fun _ _ _ _ _ _ _ r h => by simp [hibernacleref15_Same.l1] at h⟩
  | k + 1 => by
    obtain ⟨ih0, ih1, ih2⟩ := hibernacleref15_Same.mono_l k
    refine ⟨?_, ?_, ?_⟩
    · intro y0 y1 y2 y3 y4 y5 y6
      unfold hibernacleref15_Same.j0
      repeat' first
      | (with_reducible exact ih0 _ _ _ _ _ _ _)
      | (with_reducible exact ih1 _ _ _ _ _ _ _)
      | (with_reducible exact ih2 _ _ _ _ _ _ _)
      | (with_reducible exact LeO.refl _)
      | (with_reducible exact LeO.none _)
      | (with_reducible refine LeO.ite ?_ ?_)
      | (with_reducible refine LeO.bind ?_ (fun _ => ?_))
      | exact ih0 _ _ _ _ _ _ _
      | exact ih1 _ _ _ _ _ _ _
      | exact ih2 _ _ _ _ _ _ _
      | exact LeO.none _
      | refine LeO.ite ?_ ?_
      | refine LeO.bind ?_ (fun _ => ?_)
    · intro y0 y1 y2 y3 y4 y5 y6
      unfold hibernacleref15_Same.l0
      repeat' first
      | (with_reducible exact ih0 _ _ _ _ _ _ _)
      | (with_reducible exact ih1 _ _ _ _ _ _ _)
      | (with_reducible exact ih2 _ _ _ _ _ _ _)
      | (with_reducible exact LeO.refl _)
      | (with_reducible exact LeO.none _)
      | (with_reducible refine LeO.ite ?_ ?_)
      | (with_reducible refine LeO.bind ?_ (fun _ => ?_))
      | exact ih0 _ _ _ _ _ _ _
      | exact ih1 _ _ _ _ _ _ _
      | exact ih2 _ _ _ _ _ _ _
      | exact LeO.none _
      | refine LeO.ite ?_ ?_
      | refine LeO.bind ?_ (fun _ => ?_)
    · intro y0 y1 y2 y3 y4 y5 y6
      unfold hibernacleref15_Same.l1
      repeat' first
      | (with_reducible exact ih0 _ _ _ _ _ _ _)
      | (with_reducible exact ih1 _ _ _ _ _ _ _)
      | (with_reducible exact ih2 _ _ _ _ _ _ _)
      | (with_reducible exact LeO.refl _)
      | (with_reducible exact LeO.none _)
      | (with_reducible refine LeO.ite ?_ ?_)
      | (with_reducible refine LeO.bind ?_ (fun _ => ?_))
      | exact ih0 _ _ _ _ _ _ _
      | exact ih1 _ _ _ _ _ _ _
      | exact ih2 _ _ _ _ _ _ _
      | exact LeO.none _
      | refine LeO.ite ?_ ?_
      | refine LeO.bind ?_ (fun _ => ?_)
theorem hibernacleref15_Same.mono : ∀ a0 a1 a2 a3 a4 a5 k, LeO (hibernacleref15_Same.f k a0 a1 a2 a3 a4 a5) (hibernacleref15_Same.f (k + 1) a0 a1 a2 a3 a4 a5) := by
  intro a0 a1 a2 a3 a4 a5 k
  obtain ⟨ih0, ih1, ih2⟩ := hibernacleref15_Same.mono_l k
  unfold hibernacleref15_Same.f
  repeat' first
      | (with_reducible exact ih0 _ _ _ _ _ _ _)
      | (with_reducible exact ih1 _ _ _ _ _ _ _)
      | (with_reducible exact ih2 _ _ _ _ _ _ _)
      | (with_reducible exact LeO.refl _)
      | (with_reducible exact LeO.none _)
      | (with_reducible refine LeO.ite ?_ ?_)
      | (with_reducible refine LeO.bind ?_ (fun _ => ?_))
      | exact ih0 _ _ _ _ _ _ _
      | exact ih1 _ _ _ _ _ _ _
      | exact ih2 _ _ _ _ _ _ _
      | exact LeO.none _
      | refine LeO.ite ?_ ?_
      | refine LeO.bind ?_ (fun _ => ?_)
set_option maxHeartbeats 8000000 in
set_option maxRecDepth 100000 in
theorem hibernacleref15_Same.calls (k : Nat) (A0_0 : Option Addr) (c0_0 : Nat) (l0_0 : List ByteArray) (A0_1 : Option Addr) (c0_1 : Nat) (l0_1 : List (S27)) (a0_2 : Int) (A1_0 : Option Addr) (c1_0 : Nat) (l1_0 : List ByteArray) (A1_1 : Option Addr) (c1_1 : Nat) (l1_1 : List (S27)) (a1_2 : Int) (r : Bool) (w : World) (hr0_0 : Kd.C Kd.string w A0_0 l0_0.length l0_0) (hc0_0 : l0_0.length ≤ c0_0) (hr0_1 : Kd.C k27 w A0_1 l0_1.length l0_1) (hc0_1 : l0_1.length ≤ c0_1) (hr1_0 : Kd.C Kd.string w A1_0 l1_0.length l1_0) (hc1_0 : l1_0.length ≤ c1_0) (hr1_1 : Kd.C k27 w A1_1 l1_1.length l1_1) (hc1_1 : l1_1.length ≤ c1_1) (h : hibernacleref15_Same.f k l0_0 l0_1 a0_2 l1_0 l1_1 a1_2 = some r) :
    Calls Try.prog 36 #[.agg #[.slice A0_0 l0_0.length c0_0, .slice A0_1 l0_1.length c0_1, .int .i64 a0_2], .agg #[.slice A1_0 l1_0.length c1_0, .slice A1_1 l1_1.length c1_1, .int .i64 a1_2]] w fun e w' => e = .returned (.bool r) ∧ Below w.heap.size w w' := by
  have hu29 := Try.underlying29
  have hu27 := Try.underlying27
  have HR0_0 := Aside0.mk hr0_0
  have HC0_0 := Aside0.mk hc0_0
  clear hr0_0 hc0_0
  have HR0_1 := Aside0.mk hr0_1
  have HC0_1 := Aside0.mk hc0_1
  clear hr0_1 hc0_1
  have HR1_0 := Aside0.mk hr1_0
  have HC1_0 := Aside0.mk hc1_0
  clear hr1_0 hc1_0
  have HR1_1 := Aside0.mk hr1_1
  have HC1_1 := Aside0.mk hc1_1
  clear hr1_1 hc1_1
  have HB := Aside0.mk (Below.refl w.heap.size w)
  have H : (if a0_2 = a1_2 then (if (l0_0.length : Int) = (l1_0.length : Int) then (hibernacleref15_Same.j0 k ((l0_1.length : Int) != (l1_1.length : Int)) l0_0 l0_1 a0_2 l1_0 l1_1 a1_2) else (hibernacleref15_Same.j0 k true l0_0 l0_1 a0_2 l1_0 l1_1 a1_2)) else (hibernacleref15_Same.j0 k true l0_0 l0_1 a0_2 l1_0 l1_1 a1_2)) = some r := h
  clear h
  have HC3 := Aside0.mk H
  clear H
  go_enter Try.func36, Try.ntmps36
  go_upto_region 1 with (first | ((with_reducible refine gate_dst (N := 2) rfl ?_); (try (refine gate_guard (by rfl) ?_; dsimp only)); refine box_event ?hg (N := 2) ?hd (cs := #[.slice A0_0 l0_0.length c0_0, .slice A0_1 l0_1.length c0_1, .int .i64 a0_2]) (t := 29) ?hr ?_; (case hd => rfl); (case hg => rfl); (case hr => first | (go_simp; done) | (go_simp; rfl)); intro gb437 hg w4 hbox hb; have n0_ := Aside0.mk (below_step (by repeat (first | (with_reducible first | exact HB.out | apply below_alloc | apply pw_below_drewN | apply below_drew1) | exact HB.out)) hb); have n1_ := Aside0.mk (hbox); have n2_ := Aside0.mk ((by rw [hg]; exact (below_size (by repeat (first | (with_reducible first | exact HB.out | apply below_alloc | apply pw_below_drewN | apply below_drew1) | exact HB.out))) : w.heap.size ≤ gb437)); have n3_ := Aside0.mk ((by rw [hg]; exact (below_size (by repeat (first | (with_reducible first | exact HB.out | apply below_alloc | apply pw_below_drewN | apply below_drew1) | exact HB.out))) : w.heap.size ≤ gb437)); clear HB; have HB := n0_; have BK437 := n1_; have GW437 := n2_; have GE437 := n3_; clear n0_ n1_ n2_ n3_; clear hb hbox hg) | ((with_reducible refine gate_dst (N := 3) rfl ?_); (try (refine gate_guard (by rfl) ?_; dsimp only)); refine box_event ?hg (N := 3) ?hd (cs := #[.slice A1_0 l1_0.length c1_0, .slice A1_1 l1_1.length c1_1, .int .i64 a1_2]) (t := 29) ?hr ?_; (case hd => rfl); (case hg => rfl); (case hr => first | (go_simp; done) | (go_simp; rfl)); intro gb438 hg w5 hbox hb; have n0_ := Aside0.mk (blk_below (g := gb437) (o := .cells #[.slice A0_0 l0_0.length c0_0, .slice A0_1 l0_1.length c0_1, .int .i64 a0_2] 29 (0, 0)) (by (with_reducible repeat (first | refine blk_drewN ?_ _ | refine blk_drew ?_ | refine blk_alloc ?_ _)); exact BK437.out) hb); have n1_ := Aside0.mk (below_step (by repeat (first | (with_reducible first | exact HB.out | apply below_alloc | apply pw_below_drewN | apply below_drew1 | refine below_set ?_ GE437.out) | exact HB.out)) hb); have n2_ := Aside0.mk (hbox); have n3_ := Aside0.mk ((by rw [hg]; exact (below_size (by repeat (first | (with_reducible first | exact HB.out | apply below_alloc | apply pw_below_drewN | apply below_drew1 | refine below_set ?_ GE437.out) | exact HB.out))) : w.heap.size ≤ gb438)); have n4_ := Aside0.mk ((by rw [hg]; exact (below_size (by repeat (first | (with_reducible first | exact HB.out | apply below_alloc | apply pw_below_drewN | apply below_drew1 | refine below_set ?_ GE437.out) | exact HB.out))) : w.heap.size ≤ gb438)); have n5_ := Aside0.mk ((by rw [hg]; exact Nat.ne_of_lt (blk_lt (g := gb437) (o := .cells #[.slice A0_0 l0_0.length c0_0, .slice A0_1 l0_1.length c0_1, .int .i64 a0_2] 29 (0, 0)) (by (with_reducible repeat (first | refine blk_drewN ?_ _ | refine blk_drew ?_ | refine blk_alloc ?_ _)); exact BK437.out)) : gb437 ≠ gb438)); have n6_ := Aside0.mk ((by rw [hg]; exact Nat.ne_of_gt (blk_lt (g := gb437) (o := .cells #[.slice A0_0 l0_0.length c0_0, .slice A0_1 l0_1.length c0_1, .int .i64 a0_2] 29 (0, 0)) (by (with_reducible repeat (first | refine blk_drewN ?_ _ | refine blk_drew ?_ | refine blk_alloc ?_ _)); exact BK437.out)) : gb438 ≠ gb437)); clear BK437; clear HB; have BK437 := n0_; have HB := n1_; have BK438 := n2_; have GW438 := n3_; have GE438 := n4_; have NB437_438 := n5_; have NB438_437 := n6_; clear n0_ n1_ n2_ n3_ n4_ n5_ n6_; clear hb hbox hg))
  repeat (go_quiet (first | ((with_reducible refine gate_dst (N := 2) rfl ?_); (try (refine gate_guard (by rfl) ?_; dsimp only)); refine box_event ?hg (N := 2) ?hd (cs := #[.slice A0_0 l0_0.length c0_0, .slice A0_1 l0_1.length c0_1, .int .i64 a0_2]) (t := 29) ?hr ?_; (case hd => rfl); (case hg => rfl); (case hr => first | (go_simp; done) | (go_simp; rfl)); intro gb437 hg w4 hbox hb; have n0_ := Aside0.mk (below_step (by repeat (first | (with_reducible first | exact HB.out | apply below_alloc | apply pw_below_drewN | apply below_drew1) | exact HB.out)) hb); have n1_ := Aside0.mk (hbox); have n2_ := Aside0.mk ((by rw [hg]; exact (below_size (by repeat (first | (with_reducible first | exact HB.out | apply below_alloc | apply pw_below_drewN | apply below_drew1) | exact HB.out))) : w.heap.size ≤ gb437)); have n3_ := Aside0.mk ((by rw [hg]; exact (below_size (by repeat (first | (with_reducible first | exact HB.out | apply below_alloc | apply pw_below_drewN | apply below_drew1) | exact HB.out))) : w.heap.size ≤ gb437)); clear HB; have HB := n0_; have BK437 := n1_; have GW437 := n2_; have GE437 := n3_; clear n0_ n1_ n2_ n3_; clear hb hbox hg) | ((with_reducible refine gate_dst (N := 3) rfl ?_); (try (refine gate_guard (by rfl) ?_; dsimp only)); refine box_event ?hg (N := 3) ?hd (cs := #[.slice A1_0 l1_0.length c1_0, .slice A1_1 l1_1.length c1_1, .int .i64 a1_2]) (t := 29) ?hr ?_; (case hd => rfl); (case hg => rfl); (case hr => first | (go_simp; done) | (go_simp; rfl)); intro gb438 hg w5 hbox hb; have n0_ := Aside0.mk (blk_below (g := gb437) (o := .cells #[.slice A0_0 l0_0.length c0_0, .slice A0_1 l0_1.length c0_1, .int .i64 a0_2] 29 (0, 0)) (by (with_reducible repeat (first | refine blk_drewN ?_ _ | refine blk_drew ?_ | refine blk_alloc ?_ _)); exact BK437.out) hb); have n1_ := Aside0.mk (below_step (by repeat (first | (with_reducible first | exact HB.out | apply below_alloc | apply pw_below_drewN | apply below_drew1 | refine below_set ?_ GE437.out) | exact HB.out)) hb); have n2_ := Aside0.mk (hbox); have n3_ := Aside0.mk ((by rw [hg]; exact (below_size (by repeat (first | (with_reducible first | exact HB.out | apply below_alloc | apply pw_below_drewN | apply below_drew1 | refine below_set ?_ GE437.out) | exact HB.out))) : w.heap.size ≤ gb438)); have n4_ := Aside0.mk ((by rw [hg]; exact (below_size (by repeat (first | (with_reducible first | exact HB.out | apply below_alloc | apply pw_below_drewN | apply below_drew1 | refine below_set ?_ GE437.out) | exact HB.out))) : w.heap.size ≤ gb438)); have n5_ := Aside0.mk ((by rw [hg]; exact Nat.ne_of_lt (blk_lt (g := gb437) (o := .cells #[.slice A0_0 l0_0.length c0_0, .slice A0_1 l0_1.length c0_1, .int .i64 a0_2] 29 (0, 0)) (by (with_reducible repeat (first | refine blk_drewN ?_ _ | refine blk_drew ?_ | refine blk_alloc ?_ _)); exact BK437.out)) : gb437 ≠ gb438)); have n6_ := Aside0.mk ((by rw [hg]; exact Nat.ne_of_gt (blk_lt (g := gb437) (o := .cells #[.slice A0_0 l0_0.length c0_0, .slice A0_1 l0_1.length c0_1, .int .i64 a0_2] 29 (0, 0)) (by (with_reducible repeat (first | refine blk_drewN ?_ _ | refine blk_drew ?_ | refine blk_alloc ?_ _)); exact BK437.out)) : gb438 ≠ gb437)); clear BK437; clear HB; have BK437 := n0_; have HB := n1_; have BK438 := n2_; have GW438 := n3_; have GE438 := n4_; have NB437_438 := n5_; have NB438_437 := n6_; clear n0_ n1_ n2_ n3_ n4_ n5_ n6_; clear hb hbox hg)); go_upto_region 1 with (first | ((with_reducible refine gate_dst (N := 2) rfl ?_); (try (refine gate_guard (by rfl) ?_; dsimp only)); refine box_event ?hg (N := 2) ?hd (cs := #[.slice A0_0 l0_0.length c0_0, .slice A0_1 l0_1.length c0_1, .int .i64 a0_2]) (t := 29) ?hr ?_; (case hd => rfl); (case hg => rfl); (case hr => first | (go_simp; done) | (go_simp; rfl)); intro gb437 hg w4 hbox hb; have n0_ := Aside0.mk (below_step (by repeat (first | (with_reducible first | exact HB.out | apply below_alloc | apply pw_below_drewN | apply below_drew1) | exact HB.out)) hb); have n1_ := Aside0.mk (hbox); have n2_ := Aside0.mk ((by rw [hg]; exact (below_size (by repeat (first | (with_reducible first | exact HB.out | apply below_alloc | apply pw_below_drewN | apply below_drew1) | exact HB.out))) : w.heap.size ≤ gb437)); have n3_ := Aside0.mk ((by rw [hg]; exact (below_size (by repeat (first | (with_reducible first | exact HB.out | apply below_alloc | apply pw_below_drewN | apply below_drew1) | exact HB.out))) : w.heap.size ≤ gb437)); clear HB; have HB := n0_; have BK437 := n1_; have GW437 := n2_; have GE437 := n3_; clear n0_ n1_ n2_ n3_; clear hb hbox hg) | ((with_reducible refine gate_dst (N := 3) rfl ?_); (try (refine gate_guard (by rfl) ?_; dsimp only)); refine box_event ?hg (N := 3) ?hd (cs := #[.slice A1_0 l1_0.length c1_0, .slice A1_1 l1_1.length c1_1, .int .i64 a1_2]) (t := 29) ?hr ?_; (case hd => rfl); (case hg => rfl); (case hr => first | (go_simp; done) | (go_simp; rfl)); intro gb438 hg w5 hbox hb; have n0_ := Aside0.mk (blk_below (g := gb437) (o := .cells #[.slice A0_0 l0_0.length c0_0, .slice A0_1 l0_1.length c0_1, .int .i64 a0_2] 29 (0, 0)) (by (with_reducible repeat (first | refine blk_drewN ?_ _ | refine blk_drew ?_ | refine blk_alloc ?_ _)); exact BK437.out) hb); have n1_ := Aside0.mk (below_step (by repeat (first | (with_reducible first | exact HB.out | apply below_alloc | apply pw_below_drewN | apply below_drew1 | refine below_set ?_ GE437.out) | exact HB.out)) hb); have n2_ := Aside0.mk (hbox); have n3_ := Aside0.mk ((by rw [hg]; exact (below_size (by repeat (first | (with_reducible first | exact HB.out | apply below_alloc | apply pw_below_drewN | apply below_drew1 | refine below_set ?_ GE437.out) | exact HB.out))) : w.heap.size ≤ gb438)); have n4_ := Aside0.mk ((by rw [hg]; exact (below_size (by repeat (first | (with_reducible first | exact HB.out | apply below_alloc | apply pw_below_drewN | apply below_drew1 | refine below_set ?_ GE437.out) | exact HB.out))) : w.heap.size ≤ gb438)); have n5_ := Aside0.mk ((by rw [hg]; exact Nat.ne_of_lt (blk_lt (g := gb437) (o := .cells #[.slice A0_0 l0_0.length c0_0, .slice A0_1 l0_1.length c0_1, .int .i64 a0_2] 29 (0, 0)) (by (with_reducible repeat (first | refine blk_drewN ?_ _ | refine blk_drew ?_ | refine blk_alloc ?_ _)); exact BK437.out)) : gb437 ≠ gb438)); have n6_ := Aside0.mk ((by rw [hg]; exact Nat.ne_of_gt (blk_lt (g := gb437) (o := .cells #[.slice A0_0 l0_0.length c0_0, .slice A0_1 l0_1.length c0_1, .int .i64 a0_2] 29 (0, 0)) (by (with_reducible repeat (first | refine blk_drewN ?_ _ | refine blk_drew ?_ | refine blk_alloc ?_ _)); exact BK437.out)) : gb438 ≠ gb437)); clear BK437; clear HB; have BK437 := n0_; have HB := n1_; have BK438 := n2_; have GW438 := n3_; have GE438 := n4_; have NB437_438 := n5_; have NB438_437 := n6_; clear n0_ n1_ n2_ n3_ n4_ n5_ n6_; clear hb hbox hg)))
  (try simp only [Act.put, List.setIfInBounds_toArray, List.set_cons_zero, List.set_cons_succ])
  go_cut [29] (fun v29 wc => ∃ (kq : Nat) (x29_2 : Bool), v29 = .bool x29_2 ∧ Aside0 (hibernacleref15_Same.j0 kq x29_2 l0_0 l0_1 a0_2 l1_0 l1_1 a1_2 = some r) ∧ Aside0 (kq ≤ k) ∧ Aside0 (wc.heap[gb437]? = some (.cells #[(.slice A0_0 l0_0.length c0_0), (.slice A0_1 l0_1.length c0_1), .int .i64 a0_2] 29 (0, 0))) ∧ Aside0 (wc.heap[gb438]? = some (.cells #[(.slice A1_0 l1_0.length c1_0), (.slice A1_1 l1_1.length c1_1), .int .i64 a1_2] 29 (0, 0))) ∧ Aside0 (Below w.heap.size w wc))
  case first =>
    have H := HC3.out
    clear HC3
    by_cases c6 : a0_2 = a1_2
    · rw [if_pos c6] at H
      have c6b0 : (a0_2 == a1_2) = true := beq_iff_eq.mpr c6
      have c6b1 : (a0_2 != a1_2) = false := bne_eq_false_iff_eq.mpr c6
      clear c6
      (first | rw [c6b0] | (simp only [i64_w, i32_w]; rw [c6b0]) | skip)
      by_cases c7 : (l0_0.length : Int) = (l1_0.length : Int)
      · rw [if_pos c7] at H
        have c7b0 : ((l0_0.length : Int) == (l1_0.length : Int)) = true := beq_iff_eq.mpr c7
        have c7b1 : ((l0_0.length : Int) != (l1_0.length : Int)) = false := bne_eq_false_iff_eq.mpr c7
        have c7b2 : (l0_0.length == l1_0.length) = true := by first | simpa using c7 | (simp at c7 ⊢; omega)
        clear c7
        have H' := Aside0.mk H
        clear H
        have hnb8 := NB437_438.out
        have hnc8 := NB438_437.out
        have hcz9_0 : w5.cell? ⟨gb437, 0, none⟩ = some (.slice A0_0 l0_0.length c0_0) := (blk_cell BK437.out 0).trans rfl
        have hcz9_1 : w5.cell? ⟨gb437, 1, none⟩ = some (.slice A0_1 l0_1.length c0_1) := (blk_cell BK437.out 1).trans rfl
        have hcz9_2 : w5.cell? ⟨gb437, 2, none⟩ = some (.int .i64 a0_2) := (blk_cell BK437.out 2).trans rfl
        have hfz9_0 := blk_frozen BK437.out 0
        have hfz9_1 := blk_frozen BK437.out 1
        have hfz9_2 := blk_frozen BK437.out 2
        have hcz10_0 : w5.cell? ⟨gb438, 0, none⟩ = some (.slice A1_0 l1_0.length c1_0) := (blk_cell BK438.out 0).trans rfl
        have hcz10_1 : w5.cell? ⟨gb438, 1, none⟩ = some (.slice A1_1 l1_1.length c1_1) := (blk_cell BK438.out 1).trans rfl
        have hcz10_2 : w5.cell? ⟨gb438, 2, none⟩ = some (.int .i64 a1_2) := (blk_cell BK438.out 2).trans rfl
        have hfz10_0 := blk_frozen BK438.out 0
        have hfz10_1 := blk_frozen BK438.out 1
        have hfz10_2 := blk_frozen BK438.out 2
        go_wp2
        repeat (go_quiet (fail); try go_wp2)
        go_meet
        case rel => exact ⟨_, (((l0_1.length : Int) != (l1_1.length : Int))), (by first | rfl | (simp; done) | (simp [*]; done)), H', ⟨by first | omega | exact Nat.le_refl _⟩, ⟨by (with_reducible repeat (first | refine blk_drewN ?_ _ | refine blk_drew ?_ | refine blk_alloc ?_ _)); exact BK437.out⟩, ⟨by (with_reducible repeat (first | refine blk_drewN ?_ _ | refine blk_drew ?_ | refine blk_alloc ?_ _)); exact BK438.out⟩, ⟨by repeat (first | (with_reducible first | exact HB.out | apply below_alloc | apply pw_below_drewN | apply below_drew1 | refine below_set ?_ GE437.out | refine below_set ?_ GE438.out) | exact HB.out)⟩⟩
      · rw [if_neg c7] at H
        have c7b0 : ((l0_0.length : Int) == (l1_0.length : Int)) = false := beq_eq_false_iff_ne.mpr c7
        have c7b1 : ((l0_0.length : Int) != (l1_0.length : Int)) = true := bne_iff_ne.mpr c7
        have c7b2 : (l0_0.length == l1_0.length) = false := by first | simpa using c7 | (simp at c7 ⊢; omega)
        have H' := Aside0.mk H
        clear H
        have hnb11 := NB437_438.out
        have hnc11 := NB438_437.out
        have hcz12_0 : w5.cell? ⟨gb437, 0, none⟩ = some (.slice A0_0 l0_0.length c0_0) := (blk_cell BK437.out 0).trans rfl
        have hcz12_1 : w5.cell? ⟨gb437, 1, none⟩ = some (.slice A0_1 l0_1.length c0_1) := (blk_cell BK437.out 1).trans rfl
        have hcz12_2 : w5.cell? ⟨gb437, 2, none⟩ = some (.int .i64 a0_2) := (blk_cell BK437.out 2).trans rfl
        have hfz12_0 := blk_frozen BK437.out 0
        have hfz12_1 := blk_frozen BK437.out 1
        have hfz12_2 := blk_frozen BK437.out 2
        have hcz13_0 : w5.cell? ⟨gb438, 0, none⟩ = some (.slice A1_0 l1_0.length c1_0) := (blk_cell BK438.out 0).trans rfl
        have hcz13_1 : w5.cell? ⟨gb438, 1, none⟩ = some (.slice A1_1 l1_1.length c1_1) := (blk_cell BK438.out 1).trans rfl
        have hcz13_2 : w5.cell? ⟨gb438, 2, none⟩ = some (.int .i64 a1_2) := (blk_cell BK438.out 2).trans rfl
        have hfz13_0 := blk_frozen BK438.out 0
        have hfz13_1 := blk_frozen BK438.out 1
        have hfz13_2 := blk_frozen BK438.out 2
        go_wp2
        repeat (go_quiet (fail); try go_wp2)
        go_meet
        case rel => exact ⟨_, (true), (by first | rfl | (simp; done) | (simp [*]; done)), H', ⟨by first | omega | exact Nat.le_refl _⟩, ⟨by (with_reducible repeat (first | refine blk_drewN ?_ _ | refine blk_drew ?_ | refine blk_alloc ?_ _)); exact BK437.out⟩, ⟨by (with_reducible repeat (first | refine blk_drewN ?_ _ | refine blk_drew ?_ | refine blk_alloc ?_ _)); exact BK438.out⟩, ⟨by repeat (first | (with_reducible first | exact HB.out | apply below_alloc | apply pw_below_drewN | apply below_drew1 | refine below_set ?_ GE437.out | refine below_set ?_ GE438.out) | exact HB.out)⟩⟩
    · rw [if_neg c6] at H
      have c6b0 : (a0_2 == a1_2) = false := beq_eq_false_iff_ne.mpr c6
      have c6b1 : (a0_2 != a1_2) = true := bne_iff_ne.mpr c6
      (first | rw [c6b0] | (simp only [i64_w, i32_w]; rw [c6b0]) | skip)
      have H' := Aside0.mk H
      clear H
      have hnb14 := NB437_438.out
      have hnc14 := NB438_437.out
      have hcz15_0 : w5.cell? ⟨gb437, 0, none⟩ = some (.slice A0_0 l0_0.length c0_0) := (blk_cell BK437.out 0).trans rfl
      have hcz15_1 : w5.cell? ⟨gb437, 1, none⟩ = some (.slice A0_1 l0_1.length c0_1) := (blk_cell BK437.out 1).trans rfl
      have hcz15_2 : w5.cell? ⟨gb437, 2, none⟩ = some (.int .i64 a0_2) := (blk_cell BK437.out 2).trans rfl
      have hfz15_0 := blk_frozen BK437.out 0
      have hfz15_1 := blk_frozen BK437.out 1
      have hfz15_2 := blk_frozen BK437.out 2
      have hcz16_0 : w5.cell? ⟨gb438, 0, none⟩ = some (.slice A1_0 l1_0.length c1_0) := (blk_cell BK438.out 0).trans rfl
      have hcz16_1 : w5.cell? ⟨gb438, 1, none⟩ = some (.slice A1_1 l1_1.length c1_1) := (blk_cell BK438.out 1).trans rfl
      have hcz16_2 : w5.cell? ⟨gb438, 2, none⟩ = some (.int .i64 a1_2) := (blk_cell BK438.out 2).trans rfl
      have hfz16_0 := blk_frozen BK438.out 0
      have hfz16_1 := blk_frozen BK438.out 1
      have hfz16_2 := blk_frozen BK438.out 2
      go_wp2
      repeat (go_quiet (fail); try go_wp2)
      go_meet
      case rel => exact ⟨_, (true), (by first | rfl | (simp; done) | (simp [*]; done)), H', ⟨by first | omega | exact Nat.le_refl _⟩, ⟨by (with_reducible repeat (first | refine blk_drewN ?_ _ | refine blk_drew ?_ | refine blk_alloc ?_ _)); exact BK437.out⟩, ⟨by (with_reducible repeat (first | refine blk_drewN ?_ _ | refine blk_drew ?_ | refine blk_alloc ?_ _)); exact BK438.out⟩, ⟨by repeat (first | (with_reducible first | exact HB.out | apply below_alloc | apply pw_below_drewN | apply below_drew1 | refine below_set ?_ GE437.out | refine below_set ?_ GE438.out) | exact HB.out)⟩⟩
  case rest =>
    clear HC3
    try clear c1
    try clear p2
    try clear c3
    try clear c6
    try clear c6b0
    try clear c6b1
    try clear c7
    try clear c7b0
    try clear c7b1
    try clear c7b2
    try clear c8
    try clear c11
    try clear c14
    try clear hcz10_0
    try clear hcz10_1
    try clear hcz10_2
    try clear hcz12_0
    try clear hcz12_1
    try clear hcz12_2
    try clear hcz13_0
    try clear hcz13_1
    try clear hcz13_2
    try clear hcz15_0
    try clear hcz15_1
    try clear hcz15_2
    try clear hcz16_0
    try clear hcz16_1
    try clear hcz16_2
    try clear hcz9_0
    try clear hcz9_1
    try clear hcz9_2
    try clear hfz10_0
    try clear hfz10_1
    try clear hfz10_2
    try clear hfz12_0
    try clear hfz12_1
    try clear hfz12_2
    try clear hfz13_0
    try clear hfz13_1
    try clear hfz13_2
    try clear hfz15_0
    try clear hfz15_1
    try clear hfz15_2
    try clear hfz16_0
    try clear hfz16_1
    try clear hfz16_2
    try clear hfz9_0
    try clear hfz9_1
    try clear hfz9_2
    obtain ⟨kq, x29_2, rfl, HA, HJ2, BK437, BK438, HB⟩ := hcut
    cases kq with
    | zero => exact absurd HA.out (by simp [hibernacleref15_Same.j0])
    | succ kj2 =>
      have H := HA.out
      clear HA
      simp only [hibernacleref15_Same.j0] at H
      by_cases c17 : x29_2 = true
      · subst c17
        have H1 : (some false) = some r := by rw [if_pos rfl] at H; exact H
        clear H
        have H := H1
        clear H1
        obtain rfl := Option.some.inj H
        go_wp2
        repeat (go_quiet (fail); try go_wp2)
        go_ret
        exact ⟨by first | rfl | (simp [errW_none, errW_some] <;> rfl) | (simp [*, errW_none, errW_some] <;> rfl), by repeat (first | (with_reducible first | exact HB.out | apply below_alloc | apply pw_below_drewN | apply below_drew1 | refine below_set ?_ GE437.out | refine below_set ?_ GE438.out) | exact HB.out)⟩
      · replace c17 := Bool.eq_false_iff.mpr c17
        subst c17
        have H1 : (hibernacleref15_Same.l0 kj2 0 l0_0 l0_1 a0_2 l1_0 l1_1 a1_2) = some r := by rw [if_neg (show ¬ (false = true) by decide)] at H; exact H
        clear H
        have H := H1
        clear H1
        have H' := Aside0.mk H
        clear H
        go_wp2
        repeat (go_quiet (fail); try go_wp2)
        go_loopg [5] kj2 (fun kq v5 w' => ∃ (x5_2 : Int), v5 = .int .i64 x5_2 ∧ Aside0 (hibernacleref15_Same.l0 kq x5_2 l0_0 l0_1 a0_2 l1_0 l1_1 a1_2 = some r) ∧ Aside0 (kq ≤ kj2) ∧ Aside0 (w'.heap[gb437]? = some (.cells #[(.slice A0_0 l0_0.length c0_0), (.slice A0_1 l0_1.length c0_1), .int .i64 a0_2] 29 (0, 0))) ∧ Aside0 (w'.heap[gb438]? = some (.cells #[(.slice A1_0 l1_0.length c1_0), (.slice A1_1 l1_1.length c1_1), .int .i64 a1_2] 29 (0, 0))) ∧ Aside0 (Below w.heap.size w w'))
        case atStart => exact ⟨(0), (by first | rfl | (simp; done) | (simp [*]; done)), H', ⟨Nat.le_refl _⟩, ⟨by (with_reducible repeat (first | refine blk_drewN ?_ _ | refine blk_drew ?_ | refine blk_alloc ?_ _)); exact BK437.out⟩, ⟨by (with_reducible repeat (first | refine blk_drewN ?_ _ | refine blk_drew ?_ | refine blk_alloc ?_ _)); exact BK438.out⟩, ⟨by repeat (first | (with_reducible first | exact HB.out | apply below_alloc | apply pw_below_drewN | apply below_drew1 | refine below_set ?_ GE437.out | refine below_set ?_ GE438.out) | exact HB.out)⟩⟩
        case round =>
          clear H'
          try clear c1
          try clear p2
          try clear c3
          try clear c6
          try clear c6b0
          try clear c6b1
          try clear c7
          try clear c7b0
          try clear c7b1
          try clear c7b2
          try clear c8
          try clear c11
          try clear c14
          try clear c17
          try clear hcz10_0
          try clear hcz10_1
          try clear hcz10_2
          try clear hcz12_0
          try clear hcz12_1
          try clear hcz12_2
          try clear hcz13_0
          try clear hcz13_1
          try clear hcz13_2
          try clear hcz15_0
          try clear hcz15_1
          try clear hcz15_2
          try clear hcz16_0
          try clear hcz16_1
          try clear hcz16_2
          try clear hcz9_0
          try clear hcz9_1
          try clear hcz9_2
          try clear hfz10_0
          try clear hfz10_1
          try clear hfz10_2
          try clear hfz12_0
          try clear hfz12_1
          try clear hfz12_2
          try clear hfz13_0
          try clear hfz13_1
          try clear hfz13_2
          try clear hfz15_0
          try clear hfz15_1
          try clear hfz15_2
          try clear hfz16_0
          try clear hfz16_1
          try clear hfz16_2
          try clear hfz9_0
          try clear hfz9_1
          try clear hfz9_2
          try clear p2
          obtain ⟨x5_2, rfl, HA, HK2, BK437, BK438, HB⟩ := hrel
          cases gk with
          | zero => exact absurd HA.out (by simp [hibernacleref15_Same.l0])
          | succ k2 =>
            have H := HA.out
            clear HA
            simp only [hibernacleref15_Same.l0] at H
            by_cases c18 : x5_2 < (l0_0.length : Int)
            · rw [if_pos c18] at H
              have c18b0 : decide (x5_2 < (l0_0.length : Int)) = true := decide_eq_true c18
              clear c18
              by_cases c19 : 0 ≤ x5_2
              · rw [if_pos c19] at H
                have c19b0 : decide (0 ≤ x5_2) = true := decide_eq_true c19
                clear c19
                by_cases c20 : x5_2 < (l1_0.length : Int)
                · rw [if_pos c20] at H
                  have c20b0 : decide (x5_2 < (l1_0.length : Int)) = true := decide_eq_true c20
                  clear c20
                  by_cases c21 : (rdOf ByteArray.empty l0_0 x5_2).toList = (rdOf ByteArray.empty l1_0 x5_2).toList
                  · rw [if_pos c21] at H
                    have c21b0 : ((rdOf ByteArray.empty l0_0 x5_2).toList == (rdOf ByteArray.empty l1_0 x5_2).toList) = true := beq_iff_eq.mpr c21
                    have c21b1 : ((rdOf ByteArray.empty l0_0 x5_2).toList != (rdOf ByteArray.empty l1_0 x5_2).toList) = false := bne_eq_false_iff_eq.mpr c21
                    clear c21
                    have H' := Aside0.mk H
                    clear H
                    have hnb22 := NB437_438.out
                    have hnc22 := NB438_437.out
                    have hcz23_0 : wr.cell? ⟨gb437, 0, none⟩ = some (.slice A0_0 l0_0.length c0_0) := (blk_cell BK437.out 0).trans rfl
                    have hcz23_1 : wr.cell? ⟨gb437, 1, none⟩ = some (.slice A0_1 l0_1.length c0_1) := (blk_cell BK437.out 1).trans rfl
                    have hcz23_2 : wr.cell? ⟨gb437, 2, none⟩ = some (.int .i64 a0_2) := (blk_cell BK437.out 2).trans rfl
                    have hfz23_0 := blk_frozen BK437.out 0
                    have hfz23_1 := blk_frozen BK437.out 1
                    have hfz23_2 := blk_frozen BK437.out 2
                    have p439 : 0 ≤ (x5_2 : Int) := of_decide_eq_true (by first | (with_reducible assumption) | assumption)
                    have q439 : x5_2 < (l0_0.length : Int) := of_decide_eq_true (by first | (with_reducible assumption) | assumption)
                    obtain ⟨ad439, e439, hx439_0⟩ := Kd.at_string HR0_0.out x5_2 p439 q439
                    cases e439
                    replace hx439_0 := (HB.out.cell (World.block_lt_of_cell? w _ hx439_0)).trans hx439_0
                    replace p439 := eq_true p439
                    replace q439 := eq_true q439
                    have hcz24_0 : wr.cell? ⟨gb438, 0, none⟩ = some (.slice A1_0 l1_0.length c1_0) := (blk_cell BK438.out 0).trans rfl
                    have hcz24_1 : wr.cell? ⟨gb438, 1, none⟩ = some (.slice A1_1 l1_1.length c1_1) := (blk_cell BK438.out 1).trans rfl
                    have hcz24_2 : wr.cell? ⟨gb438, 2, none⟩ = some (.int .i64 a1_2) := (blk_cell BK438.out 2).trans rfl
                    have hfz24_0 := blk_frozen BK438.out 0
                    have hfz24_1 := blk_frozen BK438.out 1
                    have hfz24_2 := blk_frozen BK438.out 2
                    have p440 : 0 ≤ (x5_2 : Int) := of_decide_eq_true (by first | (with_reducible assumption) | assumption)
                    have q440 : x5_2 < (l1_0.length : Int) := of_decide_eq_true (by first | (with_reducible assumption) | assumption)
                    obtain ⟨ad440, e440, hx440_0⟩ := Kd.at_string HR1_0.out x5_2 p440 q440
                    cases e440
                    replace hx440_0 := (HB.out.cell (World.block_lt_of_cell? w _ hx440_0)).trans hx440_0
                    replace p440 := eq_true p440
                    replace q440 := eq_true q440
                    go_wp2
                    repeat (go_quiet (fail); try go_wp2)
                    go_roundg k2
                    case measure => have := HJ2.out; have := HK2.out; omega
                    case rel => exact ⟨(wrap64 (x5_2 + 1)), (by first | rfl | (simp; done) | (simp [*]; done)), H', ⟨by have := HJ2.out; have := HK2.out; omega⟩, ⟨by (with_reducible repeat (first | refine blk_drewN ?_ _ | refine blk_drew ?_ | refine blk_alloc ?_ _)); exact BK437.out⟩, ⟨by (with_reducible repeat (first | refine blk_drewN ?_ _ | refine blk_drew ?_ | refine blk_alloc ?_ _)); exact BK438.out⟩, ⟨by repeat (first | (with_reducible first | exact HB.out | apply below_alloc | apply pw_below_drewN | apply below_drew1 | refine below_set ?_ GE437.out | refine below_set ?_ GE438.out) | exact HB.out)⟩⟩
                  · rw [if_neg c21] at H
                    have c21b0 : ((rdOf ByteArray.empty l0_0 x5_2).toList == (rdOf ByteArray.empty l1_0 x5_2).toList) = false := beq_eq_false_iff_ne.mpr c21
                    have c21b1 : ((rdOf ByteArray.empty l0_0 x5_2).toList != (rdOf ByteArray.empty l1_0 x5_2).toList) = true := bne_iff_ne.mpr c21
                    obtain rfl := Option.some.inj H
                    have hnb25 := NB437_438.out
                    have hnc25 := NB438_437.out
                    have hcz26_0 : wr.cell? ⟨gb437, 0, none⟩ = some (.slice A0_0 l0_0.length c0_0) := (blk_cell BK437.out 0).trans rfl
                    have hcz26_1 : wr.cell? ⟨gb437, 1, none⟩ = some (.slice A0_1 l0_1.length c0_1) := (blk_cell BK437.out 1).trans rfl
                    have hcz26_2 : wr.cell? ⟨gb437, 2, none⟩ = some (.int .i64 a0_2) := (blk_cell BK437.out 2).trans rfl
                    have hfz26_0 := blk_frozen BK437.out 0
                    have hfz26_1 := blk_frozen BK437.out 1
                    have hfz26_2 := blk_frozen BK437.out 2
                    have p439 : 0 ≤ (x5_2 : Int) := of_decide_eq_true (by first | (with_reducible assumption) | assumption)
                    have q439 : x5_2 < (l0_0.length : Int) := of_decide_eq_true (by first | (with_reducible assumption) | assumption)
                    obtain ⟨ad439, e439, hx439_0⟩ := Kd.at_string HR0_0.out x5_2 p439 q439
                    cases e439
                    replace hx439_0 := (HB.out.cell (World.block_lt_of_cell? w _ hx439_0)).trans hx439_0
                    replace p439 := eq_true p439
                    replace q439 := eq_true q439
                    have hcz27_0 : wr.cell? ⟨gb438, 0, none⟩ = some (.slice A1_0 l1_0.length c1_0) := (blk_cell BK438.out 0).trans rfl
                    have hcz27_1 : wr.cell? ⟨gb438, 1, none⟩ = some (.slice A1_1 l1_1.length c1_1) := (blk_cell BK438.out 1).trans rfl
                    have hcz27_2 : wr.cell? ⟨gb438, 2, none⟩ = some (.int .i64 a1_2) := (blk_cell BK438.out 2).trans rfl
                    have hfz27_0 := blk_frozen BK438.out 0
                    have hfz27_1 := blk_frozen BK438.out 1
                    have hfz27_2 := blk_frozen BK438.out 2
                    have p440 : 0 ≤ (x5_2 : Int) := of_decide_eq_true (by first | (with_reducible assumption) | assumption)
                    have q440 : x5_2 < (l1_0.length : Int) := of_decide_eq_true (by first | (with_reducible assumption) | assumption)
                    obtain ⟨ad440, e440, hx440_0⟩ := Kd.at_string HR1_0.out x5_2 p440 q440
                    cases e440
                    replace hx440_0 := (HB.out.cell (World.block_lt_of_cell? w _ hx440_0)).trans hx440_0
                    replace p440 := eq_true p440
                    replace q440 := eq_true q440
                    go_wp2
                    repeat (go_quiet (fail); try go_wp2)
                    go_ret
                    exact ⟨by first | rfl | (simp [errW_none, errW_some] <;> rfl) | (simp [*, errW_none, errW_some] <;> rfl), by repeat (first | (with_reducible first | exact HB.out | apply below_alloc | apply pw_below_drewN | apply below_drew1 | refine below_set ?_ GE437.out | refine below_set ?_ GE438.out) | exact HB.out)⟩
                · rw [if_neg c20] at H
                  exact absurd H (by simp)
              · rw [if_neg c19] at H
                exact absurd H (by simp)
            · rw [if_neg c18] at H
              have c18b0 : decide (x5_2 < (l0_0.length : Int)) = false := decide_eq_false c18
              clear c18
              have H' := Aside0.mk H
              clear H
              have hnb28 := NB437_438.out
              have hnc28 := NB438_437.out
              have hcz29_0 : wr.cell? ⟨gb437, 0, none⟩ = some (.slice A0_0 l0_0.length c0_0) := (blk_cell BK437.out 0).trans rfl
              have hcz29_1 : wr.cell? ⟨gb437, 1, none⟩ = some (.slice A0_1 l0_1.length c0_1) := (blk_cell BK437.out 1).trans rfl
              have hcz29_2 : wr.cell? ⟨gb437, 2, none⟩ = some (.int .i64 a0_2) := (blk_cell BK437.out 2).trans rfl
              have hfz29_0 := blk_frozen BK437.out 0
              have hfz29_1 := blk_frozen BK437.out 1
              have hfz29_2 := blk_frozen BK437.out 2
              go_wp2
              repeat (go_quiet (fail); try go_wp2)
              go_loopg [6] k2 (fun kq v6 w' => ∃ (x6_3 : Int), v6 = .int .i64 x6_3 ∧ Aside0 (hibernacleref15_Same.l1 kq x6_3 l0_0 l0_1 a0_2 l1_0 l1_1 a1_2 = some r) ∧ Aside0 (kq ≤ k2) ∧ Aside0 (w'.heap[gb437]? = some (.cells #[(.slice A0_0 l0_0.length c0_0), (.slice A0_1 l0_1.length c0_1), .int .i64 a0_2] 29 (0, 0))) ∧ Aside0 (w'.heap[gb438]? = some (.cells #[(.slice A1_0 l1_0.length c1_0), (.slice A1_1 l1_1.length c1_1), .int .i64 a1_2] 29 (0, 0))) ∧ Aside0 (Below w.heap.size w w'))
              case atStart => exact ⟨(0), (by first | rfl | (simp; done) | (simp [*]; done)), H', ⟨Nat.le_refl _⟩, ⟨by (with_reducible repeat (first | refine blk_drewN ?_ _ | refine blk_drew ?_ | refine blk_alloc ?_ _)); exact BK437.out⟩, ⟨by (with_reducible repeat (first | refine blk_drewN ?_ _ | refine blk_drew ?_ | refine blk_alloc ?_ _)); exact BK438.out⟩, ⟨by repeat (first | (with_reducible first | exact HB.out | apply below_alloc | apply pw_below_drewN | apply below_drew1 | refine below_set ?_ GE437.out | refine below_set ?_ GE438.out) | exact HB.out)⟩⟩
              case round =>
                clear H'
                try clear c1
                try clear c2
                try clear p2
                try clear c3
                try clear p4
                try clear q4
                try clear hx4
                try clear c6
                try clear c6b0
                try clear c6b1
                try clear p6
                try clear c7
                try clear c7b0
                try clear c7b1
                try clear c7b2
                try clear c8
                try clear c11
                try clear c14
                try clear c17
                try clear c18
                try clear c18b0
                try clear c19
                try clear c19b0
                try clear c20
                try clear c20b0
                try clear c21
                try clear c21b0
                try clear c21b1
                try clear c22
                try clear c25
                try clear c28
                try clear hcz10_0
                try clear hcz10_1
                try clear hcz10_2
                try clear hcz12_0
                try clear hcz12_1
                try clear hcz12_2
                try clear hcz13_0
                try clear hcz13_1
                try clear hcz13_2
                try clear hcz15_0
                try clear hcz15_1
                try clear hcz15_2
                try clear hcz16_0
                try clear hcz16_1
                try clear hcz16_2
                try clear hcz23_0
                try clear hcz23_1
                try clear hcz23_2
                try clear hcz24_0
                try clear hcz24_1
                try clear hcz24_2
                try clear hcz26_0
                try clear hcz26_1
                try clear hcz26_2
                try clear hcz27_0
                try clear hcz27_1
                try clear hcz27_2
                try clear hcz29_0
                try clear hcz29_1
                try clear hcz29_2
                try clear hcz9_0
                try clear hcz9_1
                try clear hcz9_2
                try clear hfz10_0
                try clear hfz10_1
                try clear hfz10_2
                try clear hfz12_0
                try clear hfz12_1
                try clear hfz12_2
                try clear hfz13_0
                try clear hfz13_1
                try clear hfz13_2
                try clear hfz15_0
                try clear hfz15_1
                try clear hfz15_2
                try clear hfz16_0
                try clear hfz16_1
                try clear hfz16_2
                try clear hfz23_0
                try clear hfz23_1
                try clear hfz23_2
                try clear hfz24_0
                try clear hfz24_1
                try clear hfz24_2
                try clear hfz26_0
                try clear hfz26_1
                try clear hfz26_2
                try clear hfz27_0
                try clear hfz27_1
                try clear hfz27_2
                try clear hfz29_0
                try clear hfz29_1
                try clear hfz29_2
                try clear hfz9_0
                try clear hfz9_1
                try clear hfz9_2
                try clear hx439_0
                try clear hx440_0
                try clear p2
                try clear p439
                try clear p440
                try clear q439
                try clear q440
                obtain ⟨x6_3, rfl, HA, HK3, BK437, BK438, HB⟩ := hrel
                cases gk with
                | zero => exact absurd HA.out (by simp [hibernacleref15_Same.l1])
                | succ k3 =>
                  have H := HA.out
                  clear HA
                  simp only [hibernacleref15_Same.l1] at H
                  by_cases c30 : x6_3 < (l0_1.length : Int)
                  · rw [if_pos c30] at H
                    have c30b0 : decide (x6_3 < (l0_1.length : Int)) = true := decide_eq_true c30
                    clear c30
                    by_cases c31 : 0 ≤ x6_3
                    · rw [if_pos c31] at H
                      have c31b0 : decide (0 ≤ x6_3) = true := decide_eq_true c31
                      clear c31
                      by_cases c32 : x6_3 < (l1_1.length : Int)
                      · rw [if_pos c32] at H
                        have c32b0 : decide (x6_3 < (l1_1.length : Int)) = true := decide_eq_true c32
                        clear c32
                        by_cases c33 : (!(((rd_T27 l0_1 x6_3).f0) == ((rd_T27 l1_1 x6_3).f0)) || (!((((rd_T27 l0_1 x6_3).f1).toList) == (((rd_T27 l1_1 x6_3).f1).toList)))) = true
                        · rw [if_pos c33] at H
                          have c33b0 : (!(((rd_T27 l0_1 x6_3).f0) == ((rd_T27 l1_1 x6_3).f0)) || (!((((rd_T27 l0_1 x6_3).f1).toList) == (((rd_T27 l1_1 x6_3).f1).toList)))) = true := c33
                          clear c33
                          obtain rfl := Option.some.inj H
                          have hnb34 := NB437_438.out
                          have hnc34 := NB438_437.out
                          have hcz35_0 : wr.cell? ⟨gb437, 0, none⟩ = some (.slice A0_0 l0_0.length c0_0) := (blk_cell BK437.out 0).trans rfl
                          have hcz35_1 : wr.cell? ⟨gb437, 1, none⟩ = some (.slice A0_1 l0_1.length c0_1) := (blk_cell BK437.out 1).trans rfl
                          have hcz35_2 : wr.cell? ⟨gb437, 2, none⟩ = some (.int .i64 a0_2) := (blk_cell BK437.out 2).trans rfl
                          have hfz35_0 := blk_frozen BK437.out 0
                          have hfz35_1 := blk_frozen BK437.out 1
                          have hfz35_2 := blk_frozen BK437.out 2
                          have p441 : 0 ≤ (x6_3 : Int) := of_decide_eq_true (by first | (with_reducible assumption) | assumption)
                          have q441 : x6_3 < (l0_1.length : Int) := of_decide_eq_true (by first | (with_reducible assumption) | assumption)
                          obtain ⟨ad441, e441, hx441_0, hx441_1⟩ := at_T27 HR0_1.out x6_3 p441 q441
                          cases e441
                          replace hx441_0 := (HB.out.cell (World.block_lt_of_cell? w _ hx441_0)).trans hx441_0
                          replace hx441_1 := (HB.out.cell (World.block_lt_of_cell? w _ hx441_1)).trans hx441_1
                          replace p441 := eq_true p441
                          replace q441 := eq_true q441
                          have hcz36_0 : wr.cell? ⟨gb438, 0, none⟩ = some (.slice A1_0 l1_0.length c1_0) := (blk_cell BK438.out 0).trans rfl
                          have hcz36_1 : wr.cell? ⟨gb438, 1, none⟩ = some (.slice A1_1 l1_1.length c1_1) := (blk_cell BK438.out 1).trans rfl
                          have hcz36_2 : wr.cell? ⟨gb438, 2, none⟩ = some (.int .i64 a1_2) := (blk_cell BK438.out 2).trans rfl
                          have hfz36_0 := blk_frozen BK438.out 0
                          have hfz36_1 := blk_frozen BK438.out 1
                          have hfz36_2 := blk_frozen BK438.out 2
                          have p442 : 0 ≤ (x6_3 : Int) := of_decide_eq_true (by first | (with_reducible assumption) | assumption)
                          have q442 : x6_3 < (l1_1.length : Int) := of_decide_eq_true (by first | (with_reducible assumption) | assumption)
                          obtain ⟨ad442, e442, hx442_0, hx442_1⟩ := at_T27 HR1_1.out x6_3 p442 q442
                          cases e442
                          replace hx442_0 := (HB.out.cell (World.block_lt_of_cell? w _ hx442_0)).trans hx442_0
                          replace hx442_1 := (HB.out.cell (World.block_lt_of_cell? w _ hx442_1)).trans hx442_1
                          replace p442 := eq_true p442
                          replace q442 := eq_true q442
                          go_wp2
                          repeat (go_quiet (fail); try go_wp2)
                          go_ret
                          exact ⟨by first | rfl | (simp [errW_none, errW_some] <;> rfl) | (simp [*, errW_none, errW_some] <;> rfl), by repeat (first | (with_reducible first | exact HB.out | apply below_alloc | apply pw_below_drewN | apply below_drew1 | refine below_set ?_ GE437.out | refine below_set ?_ GE438.out) | exact HB.out)⟩
                        · rw [if_neg c33] at H
                          have c33b0 : (!(((rd_T27 l0_1 x6_3).f0) == ((rd_T27 l1_1 x6_3).f0)) || (!((((rd_T27 l0_1 x6_3).f1).toList) == (((rd_T27 l1_1 x6_3).f1).toList)))) = false := by simpa using c33
                          clear c33
                          have H' := Aside0.mk H
                          clear H
                          have hnb37 := NB437_438.out
                          have hnc37 := NB438_437.out
                          have hcz38_0 : wr.cell? ⟨gb437, 0, none⟩ = some (.slice A0_0 l0_0.length c0_0) := (blk_cell BK437.out 0).trans rfl
                          have hcz38_1 : wr.cell? ⟨gb437, 1, none⟩ = some (.slice A0_1 l0_1.length c0_1) := (blk_cell BK437.out 1).trans rfl
                          have hcz38_2 : wr.cell? ⟨gb437, 2, none⟩ = some (.int .i64 a0_2) := (blk_cell BK437.out 2).trans rfl
                          have hfz38_0 := blk_frozen BK437.out 0
                          have hfz38_1 := blk_frozen BK437.out 1
                          have hfz38_2 := blk_frozen BK437.out 2
                          have p441 : 0 ≤ (x6_3 : Int) := of_decide_eq_true (by first | (with_reducible assumption) | assumption)
                          have q441 : x6_3 < (l0_1.length : Int) := of_decide_eq_true (by first | (with_reducible assumption) | assumption)
                          obtain ⟨ad441, e441, hx441_0, hx441_1⟩ := at_T27 HR0_1.out x6_3 p441 q441
                          cases e441
                          replace hx441_0 := (HB.out.cell (World.block_lt_of_cell? w _ hx441_0)).trans hx441_0
                          replace hx441_1 := (HB.out.cell (World.block_lt_of_cell? w _ hx441_1)).trans hx441_1
                          replace p441 := eq_true p441
                          replace q441 := eq_true q441
                          have hcz39_0 : wr.cell? ⟨gb438, 0, none⟩ = some (.slice A1_0 l1_0.length c1_0) := (blk_cell BK438.out 0).trans rfl
                          have hcz39_1 : wr.cell? ⟨gb438, 1, none⟩ = some (.slice A1_1 l1_1.length c1_1) := (blk_cell BK438.out 1).trans rfl
                          have hcz39_2 : wr.cell? ⟨gb438, 2, none⟩ = some (.int .i64 a1_2) := (blk_cell BK438.out 2).trans rfl
                          have hfz39_0 := blk_frozen BK438.out 0
                          have hfz39_1 := blk_frozen BK438.out 1
                          have hfz39_2 := blk_frozen BK438.out 2
                          have p442 : 0 ≤ (x6_3 : Int) := of_decide_eq_true (by first | (with_reducible assumption) | assumption)
                          have q442 : x6_3 < (l1_1.length : Int) := of_decide_eq_true (by first | (with_reducible assumption) | assumption)
                          obtain ⟨ad442, e442, hx442_0, hx442_1⟩ := at_T27 HR1_1.out x6_3 p442 q442
                          cases e442
                          replace hx442_0 := (HB.out.cell (World.block_lt_of_cell? w _ hx442_0)).trans hx442_0
                          replace hx442_1 := (HB.out.cell (World.block_lt_of_cell? w _ hx442_1)).trans hx442_1
                          replace p442 := eq_true p442
                          replace q442 := eq_true q442
                          go_wp2
                          repeat (go_quiet (fail); try go_wp2)
                          go_roundg k3
                          case measure => have := HJ2.out; have := HK2.out; have := HK3.out; omega
                          case rel => exact ⟨(wrap64 (x6_3 + 1)), (by first | rfl | (simp; done) | (simp [*]; done)), H', ⟨by have := HJ2.out; have := HK2.out; have := HK3.out; omega⟩, ⟨by (with_reducible repeat (first | refine blk_drewN ?_ _ | refine blk_drew ?_ | refine blk_alloc ?_ _)); exact BK437.out⟩, ⟨by (with_reducible repeat (first | refine blk_drewN ?_ _ | refine blk_drew ?_ | refine blk_alloc ?_ _)); exact BK438.out⟩, ⟨by repeat (first | (with_reducible first | exact HB.out | apply below_alloc | apply pw_below_drewN | apply below_drew1 | refine below_set ?_ GE437.out | refine below_set ?_ GE438.out) | exact HB.out)⟩⟩
                      · rw [if_neg c32] at H
                        exact absurd H (by simp)
                    · rw [if_neg c31] at H
                      exact absurd H (by simp)
                  · rw [if_neg c30] at H
                    have c30b0 : decide (x6_3 < (l0_1.length : Int)) = false := decide_eq_false c30
                    clear c30
                    obtain rfl := Option.some.inj H
                    have hnb40 := NB437_438.out
                    have hnc40 := NB438_437.out
                    have hcz41_0 : wr.cell? ⟨gb437, 0, none⟩ = some (.slice A0_0 l0_0.length c0_0) := (blk_cell BK437.out 0).trans rfl
                    have hcz41_1 : wr.cell? ⟨gb437, 1, none⟩ = some (.slice A0_1 l0_1.length c0_1) := (blk_cell BK437.out 1).trans rfl
                    have hcz41_2 : wr.cell? ⟨gb437, 2, none⟩ = some (.int .i64 a0_2) := (blk_cell BK437.out 2).trans rfl
                    have hfz41_0 := blk_frozen BK437.out 0
                    have hfz41_1 := blk_frozen BK437.out 1
                    have hfz41_2 := blk_frozen BK437.out 2
                    go_wp2
                    repeat (go_quiet (fail); try go_wp2)
                    go_ret
                    exact ⟨by first | rfl | (simp [errW_none, errW_some] <;> rfl) | (simp [*, errW_none, errW_some] <;> rfl), by repeat (first | (with_reducible first | exact HB.out | apply below_alloc | apply pw_below_drewN | apply below_drew1 | refine below_set ?_ GE437.out | refine below_set ?_ GE438.out) | exact HB.out)⟩

end Go.Proofs.Ytjfmnkmgnbbfgaa.A
