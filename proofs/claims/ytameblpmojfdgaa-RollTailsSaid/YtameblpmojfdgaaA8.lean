-- Made by drv.py (ours) by way of the kit's print; Lean checks it.
import Derived.Test.YtameblpmojfdgaaA0
import Derived.Test.YtameblpmojfdgaaA10
import Derived.Test.YtameblpmojfdgaaA12
import Derived.Test.YtameblpmojfdgaaA9
import Derived.Test.YtameblpmojfdgaaXjoin
namespace Go.Proofs.Ytameblpmojfdgaa.A
open Go.RowKit Go.Proofs.YtameblpmojfdgaaW.PrintWords Go.Proofs.YtameblpmojfdgaaW.PrintLast Go.Proofs.YtameblpmojfdgaaW.PrintMore
attribute [local go_sem] max2_int min2_int max_two min_two max_three min_three max_four min_four   -- for this text's walks alone
set_option linter.unusedVariables false
set_option linter.unusedSimpArgs false

/-! ### hibernaclelaw09_RollBehind: function 8 -/
def hibernaclelaw09_RollBehind.j0 : Nat → Int → List ByteArray → Bool → Int → Int → Int → Int → Option (Bool)
  | 0, _, _, _, _, _, _, _ => none
  | k + 1, x2, x7, x29, x194000, x194001, x194002, x194003 => if x29 = true then (some true) else (if (x7.length : Int) = 0 then (none) else (if 0 ≤ (Int.tmod (wrap64 (x2)) (x7.length : Int)) then (if (Int.tmod (wrap64 (x2)) (x7.length : Int)) ≤ (x7.length : Int) then ((strings_Join.f (x7.drop ((Int.tmod (wrap64 (x2)) (x7.length : Int)) : Int).toNat) (⟨#[]⟩ : ByteArray)).bind fun t203 => ((roll_Cut.f k t203 x194000 x194001 x194002 x194003).bind fun bt204 => (if bt204.2 = 0 then ((hibernacleref01_Same.f k bt204.1 (x7.drop ((Int.tmod (wrap64 (x2)) (x7.length : Int)) : Int).toNat)).bind fun t212 => (some t212)) else (some false)))) else (none)) else (none)))
def hibernaclelaw09_RollBehind.f (k : Nat) (a0 : ByteArray) (a1_0 : Int) (a1_1 : Int) (a1_2 : Int) (a1_3 : Int) (a2 : Int) : Option (Bool) := (hibernaclelaw09_rollAlive.f k).bind fun t194 => (if t194 = true then (if (a0.size : Int) > 5000 then (some true) else ((roll_Cut.f k a0 a1_0 a1_1 a1_2 a1_3).bind fun bt195 => (if bt195.2 = 0 then (hibernaclelaw09_RollBehind.j0 k a2 bt195.1 ((bt195.1.length : Int) == 0) a1_0 a1_1 a1_2 a1_3) else (hibernaclelaw09_RollBehind.j0 k a2 bt195.1 true a1_0 a1_1 a1_2 a1_3)))) else (some false))
theorem hibernaclelaw09_RollBehind.mono_l : ∀ k, (∀ y0 y1 y2 y3 y4 y5 y6, LeO (hibernaclelaw09_RollBehind.j0 k y0 y1 y2 y3 y4 y5 y6) (hibernaclelaw09_RollBehind.j0 (k + 1) y0 y1 y2 y3 y4 y5 y6))
  | 0 => fun _ _ _ _ _ _ _ r h => by simp [hibernaclelaw09_RollBehind.j0] at h
  | k + 1 => by
    have ih0 := hibernaclelaw09_RollBehind.mono_l k
    · intro y0 y1 y2 y3 y4 y5 y6
      unfold hibernaclelaw09_RollBehind.j0
      repeat' first
      | (with_reducible exact ih0 _ _ _ _ _ _ _)
      | (with_reducible exact hibernaclelaw09_rollAlive.mono _)
      | (with_reducible exact hibernacleref01_Same.mono _ _ _)
      | (with_reducible exact roll_Cut.mono _ _ _ _ _ _)
      | (with_reducible exact LeO.refl _)
      | (with_reducible exact LeO.none _)
      | (with_reducible refine LeO.ite ?_ ?_)
      | (with_reducible refine LeO.bind ?_ (fun _ => ?_))
      | exact ih0 _ _ _ _ _ _ _
      | exact hibernaclelaw09_rollAlive.mono _
      | exact hibernacleref01_Same.mono _ _ _
      | exact roll_Cut.mono _ _ _ _ _ _
      | exact LeO.none _
      | refine LeO.ite ?_ ?_
      | refine LeO.bind ?_ (fun _ => ?_)
theorem hibernaclelaw09_RollBehind.mono : ∀ a0 a1 a2 a3 a4 a5 k, LeO (hibernaclelaw09_RollBehind.f k a0 a1 a2 a3 a4 a5) (hibernaclelaw09_RollBehind.f (k + 1) a0 a1 a2 a3 a4 a5) := by
  intro a0 a1 a2 a3 a4 a5 k
  have ih0 := hibernaclelaw09_RollBehind.mono_l k
  unfold hibernaclelaw09_RollBehind.f
  repeat' first
      | (with_reducible exact ih0 _ _ _ _ _ _ _)
      | (with_reducible exact hibernaclelaw09_rollAlive.mono _)
      | (with_reducible exact hibernacleref01_Same.mono _ _ _)
      | (with_reducible exact roll_Cut.mono _ _ _ _ _ _)
      | (with_reducible exact LeO.refl _)
      | (with_reducible exact LeO.none _)
      | (with_reducible refine LeO.ite ?_ ?_)
      | (with_reducible refine LeO.bind ?_ (fun _ => ?_))
      | exact ih0 _ _ _ _ _ _ _
      | exact hibernaclelaw09_rollAlive.mono _
      | exact hibernacleref01_Same.mono _ _ _
      | exact roll_Cut.mono _ _ _ _ _ _
      | exact LeO.none _
      | refine LeO.ite ?_ ?_
      | refine LeO.bind ?_ (fun _ => ?_)
def hibernaclelaw09_RollBehind.T9 : Bool × List (List Nat × List Nat) := (true, [([], []), ([], []), ([0, 1], [0, 1]), ([2], [2]), ([], []), ([3, 4, 3], [3, 4]), ([5], [5]), ([6], [6]), ([6], [6]), ([7, 5, 0, 1, 2, 3, 4, 5, 6, 7], [7]), ([8, 9, 0, 1, 2, 3, 4, 5, 6, 7, 8, 9], [8])])
def hibernaclelaw09_RollBehind.B9 : List Nat := [0, 0, 3, 7, 0, 31, 63, 127, 127, 255, 1023]
theorem hibernaclelaw09_RollBehind.tab9 : rtab .any (opsOf Try.f8 9) = hibernaclelaw09_RollBehind.T9 := by kernel_rfl
theorem hibernaclelaw09_RollBehind.bits9 : waitsOk hibernaclelaw09_RollBehind.T9.2 hibernaclelaw09_RollBehind.B9 = true := by kernel_rfl
set_option maxHeartbeats 8000000 in
set_option maxRecDepth 100000 in
theorem hibernaclelaw09_RollBehind.calls (k : Nat) (a0 : ByteArray) (a1_0 : Int) (a1_1 : Int) (a1_2 : Int) (a1_3 : Int) (a2 : Int) (r : Bool) (w : World) (h : hibernaclelaw09_RollBehind.f k a0 a1_0 a1_1 a1_2 a1_3 a2 = some r) :
    Calls Try.prog 8 #[.string a0, .agg #[.int .i64 a1_0, .int .i64 a1_1, .int .i64 a1_2, .int .u32 a1_3], .int .u8 a2] w fun e w' => e = .returned (.bool r) ∧ Below w.heap.size w w' := by
  have hu24 := Try.underlying24
  have HB := Aside0.mk (Below.refl w.heap.size w)
  have H : ((hibernaclelaw09_rollAlive.f k).bind fun t194 => (if t194 = true then (if (a0.size : Int) > 5000 then (some true) else ((roll_Cut.f k a0 a1_0 a1_1 a1_2 a1_3).bind fun bt195 => (if bt195.2 = 0 then (hibernaclelaw09_RollBehind.j0 k a2 bt195.1 ((bt195.1.length : Int) == 0) a1_0 a1_1 a1_2 a1_3) else (hibernaclelaw09_RollBehind.j0 k a2 bt195.1 true a1_0 a1_1 a1_2 a1_3)))) else (some false))) = some r := h
  clear h
  replace H := Option.bind_eq_some_iff.mp H
  obtain ⟨t194, A40, H⟩ := H
  replace H : (if t194 = true then (if (a0.size : Int) > 5000 then (some true) else ((roll_Cut.f k a0 a1_0 a1_1 a1_2 a1_3).bind fun bt195 => (if bt195.2 = 0 then (hibernaclelaw09_RollBehind.j0 k a2 bt195.1 ((bt195.1.length : Int) == 0) a1_0 a1_1 a1_2 a1_3) else (hibernaclelaw09_RollBehind.j0 k a2 bt195.1 true a1_0 a1_1 a1_2 a1_3)))) else (some false)) = some r := H
  have A4 := Aside0.mk A40
  clear A40
  by_cases c5 : t194 = true
  · subst c5
    have H1 : (if (a0.size : Int) > 5000 then (some true) else ((roll_Cut.f k a0 a1_0 a1_1 a1_2 a1_3).bind fun bt195 => (if bt195.2 = 0 then (hibernaclelaw09_RollBehind.j0 k a2 bt195.1 ((bt195.1.length : Int) == 0) a1_0 a1_1 a1_2 a1_3) else (hibernaclelaw09_RollBehind.j0 k a2 bt195.1 true a1_0 a1_1 a1_2 a1_3)))) = some r := by rw [if_pos rfl] at H; exact H
    clear H
    have H := H1
    clear H1
    by_cases c6 : (a0.size : Int) > 5000
    · rw [if_pos c6] at H
      have c6b0 : decide (5000 < (a0.size : Int)) = true := decide_eq_true c6
      have c6b1 : decide (5000 < a0.size) = true := decide_eq_true (by omega)
      clear c6
      obtain rfl := Option.some.inj H
      go_enter Try.func8, Try.ntmps8
      go_wp2_with (first | ((with_reducible refine gate_dst (N := 4) rfl ?_); (try (refine gate_guard (by rfl) ?_; dsimp only)); refine box_event ?hg (N := 4) ?hd (cs := #[.int .i64 a1_0, .int .i64 a1_1, .int .i64 a1_2, .int .u32 a1_3]) (t := 24) ?hr ?_; (case hd => rfl); (case hg => rfl); (case hr => first | (go_simp; done) | (go_simp; rfl)); intro gb193 hg w7 hbox hb; have n0_ := Aside0.mk (below_step (by repeat (first | (with_reducible first | exact HB.out | apply below_alloc | apply pw_below_drewN | apply below_drew1) | exact HB.out)) hb); have n1_ := Aside0.mk (hbox); have n2_ := Aside0.mk ((by rw [hg]; exact (below_size (by repeat (first | (with_reducible first | exact HB.out | apply below_alloc | apply pw_below_drewN | apply below_drew1) | exact HB.out))) : w.heap.size ≤ gb193)); have n3_ := Aside0.mk ((by rw [hg]; exact (below_size (by repeat (first | (with_reducible first | exact HB.out | apply below_alloc | apply pw_below_drewN | apply below_drew1) | exact HB.out))) : w.heap.size ≤ gb193)); clear HB; have HB := n0_; have BK193 := n1_; have GW193 := n2_; have GE193 := n3_; clear n0_ n1_ n2_ n3_; clear hb hbox hg) | ((with_reducible refine gate_callee (f := 9) rfl ?_); refine goesL_ (some 12) rfl rfl Try.func9 (by kernel_rfl) rfl #[] rfl (by (try simp only [List.map_toArray, List.map_cons, List.map_nil]); first | done | rfl | (simp only [List.length_drop, List.length_take]; rfl)) ?_; (with_reducible refine (hibernaclelaw09_rollAlive.calls k  true _ A4.out).mono ?_); rintro e w8 ⟨rfl, hb⟩; refine ⟨_, rfl, ?_⟩; have n0_ := Aside0.mk (blk_below (g := gb193) (o := .cells #[.int .i64 a1_0, .int .i64 a1_1, .int .i64 a1_2, .int .u32 a1_3] 24 (0, 0)) (by (with_reducible repeat (first | refine blk_drewN ?_ _ | refine blk_drew ?_ | refine blk_alloc ?_ _)); exact BK193.out) hb); have n1_ := Aside0.mk (below_step (by repeat (first | (with_reducible first | exact HB.out | apply below_alloc | apply pw_below_drewN | apply below_drew1 | refine below_set ?_ GE193.out) | exact HB.out)) hb); clear BK193; clear HB; have BK193 := n0_; have HB := n1_; clear n0_ n1_; (try clear hb); (try clear hb2); (try clear hk); (try clear hi)))
      go_ret
      exact ⟨by first | rfl | (simp [errW_none, errW_some] <;> rfl) | (simp [*, errW_none, errW_some] <;> rfl), by repeat (first | (with_reducible first | exact HB.out | apply below_alloc | apply pw_below_drewN | apply below_drew1 | refine below_set ?_ GE193.out) | exact HB.out)⟩
    · rw [if_neg c6] at H
      have c6b0 : decide (5000 < (a0.size : Int)) = false := decide_eq_false c6
      have c6b1 : decide (5000 < a0.size) = false := decide_eq_false (by omega)
      clear c6
      replace H := Option.bind_eq_some_iff.mp H
      obtain ⟨⟨t195, t198⟩, A90, H⟩ := H
      replace H : (if t198 = 0 then (hibernaclelaw09_RollBehind.j0 k a2 t195 ((t195.length : Int) == 0) a1_0 a1_1 a1_2 a1_3) else (hibernaclelaw09_RollBehind.j0 k a2 t195 true a1_0 a1_1 a1_2 a1_3)) = some r := H
      have A9 := Aside0.mk A90
      clear A90
      have HC10 := Aside0.mk H
      clear H
      go_enter Try.func8, Try.ntmps8
      go_upto_region 6 with (first | ((with_reducible refine gate_dst (N := 4) rfl ?_); (try (refine gate_guard (by rfl) ?_; dsimp only)); refine box_event ?hg (N := 4) ?hd (cs := #[.int .i64 a1_0, .int .i64 a1_1, .int .i64 a1_2, .int .u32 a1_3]) (t := 24) ?hr ?_; (case hd => rfl); (case hg => rfl); (case hr => first | (go_simp; done) | (go_simp; rfl)); intro gb193 hg w11 hbox hb; have n0_ := Aside0.mk (below_step (by repeat (first | (with_reducible first | exact HB.out | apply below_alloc | apply pw_below_drewN | apply below_drew1) | exact HB.out)) hb); have n1_ := Aside0.mk (hbox); have n2_ := Aside0.mk ((by rw [hg]; exact (below_size (by repeat (first | (with_reducible first | exact HB.out | apply below_alloc | apply pw_below_drewN | apply below_drew1) | exact HB.out))) : w.heap.size ≤ gb193)); have n3_ := Aside0.mk ((by rw [hg]; exact (below_size (by repeat (first | (with_reducible first | exact HB.out | apply below_alloc | apply pw_below_drewN | apply below_drew1) | exact HB.out))) : w.heap.size ≤ gb193)); clear HB; have HB := n0_; have BK193 := n1_; have GW193 := n2_; have GE193 := n3_; clear n0_ n1_ n2_ n3_; clear hb hbox hg) | ((with_reducible refine gate_callee (f := 9) rfl ?_); refine goesL_ (some 12) rfl rfl Try.func9 (by kernel_rfl) rfl #[] rfl (by (try simp only [List.map_toArray, List.map_cons, List.map_nil]); first | done | rfl | (simp only [List.length_drop, List.length_take]; rfl)) ?_; (with_reducible refine (hibernaclelaw09_rollAlive.calls k  true _ A4.out).mono ?_); rintro e w12 ⟨rfl, hb⟩; refine ⟨_, rfl, ?_⟩; have n0_ := Aside0.mk (blk_below (g := gb193) (o := .cells #[.int .i64 a1_0, .int .i64 a1_1, .int .i64 a1_2, .int .u32 a1_3] 24 (0, 0)) (by (with_reducible repeat (first | refine blk_drewN ?_ _ | refine blk_drew ?_ | refine blk_alloc ?_ _)); exact BK193.out) hb); have n1_ := Aside0.mk (below_step (by repeat (first | (with_reducible first | exact HB.out | apply below_alloc | apply pw_below_drewN | apply below_drew1 | refine below_set ?_ GE193.out) | exact HB.out)) hb); clear BK193; clear HB; have BK193 := n0_; have HB := n1_; clear n0_ n1_; (try clear hb); (try clear hb2); (try clear hk); (try clear hi); have hcz13_0 : w12.cell? ⟨gb193, 0, none⟩ = some (.int .i64 a1_0) := (blk_cell BK193.out 0).trans rfl; have hcz13_1 : w12.cell? ⟨gb193, 1, none⟩ = some (.int .i64 a1_1) := (blk_cell BK193.out 1).trans rfl; have hcz13_2 : w12.cell? ⟨gb193, 2, none⟩ = some (.int .i64 a1_2) := (blk_cell BK193.out 2).trans rfl; have hcz13_3 : w12.cell? ⟨gb193, 3, none⟩ = some (.int .u32 a1_3) := (blk_cell BK193.out 3).trans rfl; have hfz13_0 := blk_frozen BK193.out 0; have hfz13_1 := blk_frozen BK193.out 1; have hfz13_2 := blk_frozen BK193.out 2; have hfz13_3 := blk_frozen BK193.out 3) | ((with_reducible refine gate_callee (f := 10) rfl ?_); refine goesL_ (some 20) rfl rfl Try.func10 (by kernel_rfl) rfl #[.string a0, .agg #[.int .i64 a1_0, .int .i64 a1_1, .int .i64 a1_2, .int .u32 a1_3]] rfl (by (try simp only [List.map_toArray, List.map_cons, List.map_nil]); first | done | rfl | (simp only [List.length_drop, List.length_take]; rfl)) ?_; (with_reducible refine (roll_Cut.calls k a0 a1_0 a1_1 a1_2 a1_3 t195 t198 _ A9.out).mono ?_); rintro e w14 ⟨v196, rfl, ho0, hb⟩; refine ⟨_, rfl, ?_⟩; have n0_ := Aside0.mk (Kd.R_lower ho0 (below_size (by repeat (first | (with_reducible first | exact HB.out | apply below_alloc | apply pw_below_drewN | apply below_drew1 | refine below_set ?_ GE193.out) | exact HB.out)))); have n1_ := Aside0.mk (blk_below (g := gb193) (o := .cells #[.int .i64 a1_0, .int .i64 a1_1, .int .i64 a1_2, .int .u32 a1_3] 24 (0, 0)) (by (with_reducible repeat (first | refine blk_drewN ?_ _ | refine blk_drew ?_ | refine blk_alloc ?_ _)); exact BK193.out) hb); have n2_ := Aside0.mk (below_step (by repeat (first | (with_reducible first | exact HB.out | apply below_alloc | apply pw_below_drewN | apply below_drew1 | refine below_set ?_ GE193.out) | exact HB.out)) hb); clear BK193; clear HB; have HO197 := n0_; have BK193 := n1_; have HB := n2_; clear n0_ n1_ n2_; (try clear hb); (try clear hb2); (try clear hk); (try clear hi); (try clear ho0)))
      (try simp only [Act.put, List.setIfInBounds_toArray, List.set_cons_zero, List.set_cons_succ])
      go_cut [29] (fun v29 wc => ∃ (kq : Nat) (x29_9 : Bool), v29 = .bool x29_9 ∧ Aside0 (hibernaclelaw09_RollBehind.j0 kq a2 t195 x29_9 a1_0 a1_1 a1_2 a1_3 = some r) ∧ Aside0 (kq ≤ k) ∧ Aside0 (Kd.R Kd.string 9 wc w.heap.size (fun _ => True) v196 t195) ∧ Aside0 (wc.heap[gb193]? = some (.cells #[.int .i64 a1_0, .int .i64 a1_1, .int .i64 a1_2, .int .u32 a1_3] 24 (0, 0))) ∧ Aside0 (Below w.heap.size w wc))
      case first =>
        have H := HC10.out
        clear HC10
        by_cases c15 : t198 = 0
        · rw [if_pos c15] at H
          have c15b0 : (t198 == 0) = true := beq_iff_eq.mpr c15
          have c15b1 : (t198 != 0) = false := bne_eq_false_iff_eq.mpr c15
          clear c15
          (first | rw [c15b0] | (simp only [i64_w, i32_w]; rw [c15b0]) | skip)
          have H' := Aside0.mk H
          clear H
          obtain ⟨Ao16, co16, eo16⟩ := Kd.R_slice HO197.out
          subst eo16
          go_wp2
          go_meet
          case rel => exact ⟨_, (((t195.length : Int) == 0)), (by first | rfl | (simp; done) | (simp [*]; done)), H', ⟨by first | omega | exact Nat.le_refl _⟩, ⟨by (with_reducible repeat (first | apply Kd.R_alloc | apply Kd.R_drewN | apply Kd.R_drew)); exact HO197.out⟩, ⟨by (with_reducible repeat (first | refine blk_drewN ?_ _ | refine blk_drew ?_ | refine blk_alloc ?_ _)); exact BK193.out⟩, ⟨by repeat (first | (with_reducible first | exact HB.out | apply below_alloc | apply pw_below_drewN | apply below_drew1 | refine below_set ?_ GE193.out) | exact HB.out)⟩⟩
        · rw [if_neg c15] at H
          have c15b0 : (t198 == 0) = false := beq_eq_false_iff_ne.mpr c15
          have c15b1 : (t198 != 0) = true := bne_iff_ne.mpr c15
          (first | rw [c15b0] | (simp only [i64_w, i32_w]; rw [c15b0]) | skip)
          have H' := Aside0.mk H
          clear H
          go_wp2
          go_meet
          case rel => exact ⟨_, (true), (by first | rfl | (simp; done) | (simp [*]; done)), H', ⟨by first | omega | exact Nat.le_refl _⟩, ⟨by (with_reducible repeat (first | apply Kd.R_alloc | apply Kd.R_drewN | apply Kd.R_drew)); exact HO197.out⟩, ⟨by (with_reducible repeat (first | refine blk_drewN ?_ _ | refine blk_drew ?_ | refine blk_alloc ?_ _)); exact BK193.out⟩, ⟨by repeat (first | (with_reducible first | exact HB.out | apply below_alloc | apply pw_below_drewN | apply below_drew1 | refine below_set ?_ GE193.out) | exact HB.out)⟩⟩
      case rest =>
        clear HC10
        try clear c1
        try clear p2
        try clear c5
        try clear c6
        try clear c6b0
        try clear c6b1
        try clear c8
        try clear c9
        try clear c10
        try clear c15
        try clear c15b0
        try clear c15b1
        try clear hcz13_0
        try clear hcz13_1
        try clear hcz13_2
        try clear hcz13_3
        try clear hfz13_0
        try clear hfz13_1
        try clear hfz13_2
        try clear hfz13_3
        obtain ⟨kq, x29_9, rfl, HA, HJ9, HO_7, BK193, HB⟩ := hcut
        cases kq with
        | zero => exact absurd HA.out (by simp [hibernaclelaw09_RollBehind.j0])
        | succ kj9 =>
          have H := HA.out
          clear HA
          simp only [hibernaclelaw09_RollBehind.j0] at H
          by_cases c17 : x29_9 = true
          · subst c17
            have H1 : (some true) = some r := by rw [if_pos rfl] at H; exact H
            clear H
            have H := H1
            clear H1
            obtain rfl := Option.some.inj H
            go_wp2
            go_ret
            exact ⟨by first | rfl | (simp [errW_none, errW_some] <;> rfl) | (simp [*, errW_none, errW_some] <;> rfl), by repeat (first | (with_reducible first | exact HB.out | apply below_alloc | apply pw_below_drewN | apply below_drew1 | refine below_set ?_ GE193.out) | exact HB.out)⟩
          · replace c17 := Bool.eq_false_iff.mpr c17
            subst c17
            have H1 : (if (t195.length : Int) = 0 then (none) else (if 0 ≤ (Int.tmod (wrap64 (a2)) (t195.length : Int)) then (if (Int.tmod (wrap64 (a2)) (t195.length : Int)) ≤ (t195.length : Int) then ((strings_Join.f (t195.drop ((Int.tmod (wrap64 (a2)) (t195.length : Int)) : Int).toNat) (⟨#[]⟩ : ByteArray)).bind fun t203 => ((roll_Cut.f kj9 t203 a1_0 a1_1 a1_2 a1_3).bind fun bt204 => (if bt204.2 = 0 then ((hibernacleref01_Same.f kj9 bt204.1 (t195.drop ((Int.tmod (wrap64 (a2)) (t195.length : Int)) : Int).toNat)).bind fun t212 => (some t212)) else (some false)))) else (none)) else (none))) = some r := by rw [if_neg (show ¬ (false = true) by decide)] at H; exact H
            clear H
            have H := H1
            clear H1
            by_cases c18 : (t195.length : Int) = 0
            · rw [if_pos c18] at H
              exact absurd H (by simp)
            · rw [if_neg c18] at H
              have c18b0 : ((t195.length : Int) == 0) = false := beq_eq_false_iff_ne.mpr c18
              have c18b1 : ((t195.length : Int) != 0) = true := bne_iff_ne.mpr c18
              have c18b2 : ¬ (t195 = []) := fun h_ => c18 (by rw [h_]; rfl)
              obtain ⟨ji19, hji19⟩ : ∃ j_ : Int, (Int.tmod (wrap64 (a2)) (t195.length : Int)) = j_ := ⟨_, rfl⟩
              replace H : (if 0 ≤ (ji19) then (if (ji19) ≤ (t195.length : Int) then ((strings_Join.f (t195.drop ((ji19) : Int).toNat) (⟨#[]⟩ : ByteArray)).bind fun t203 => ((roll_Cut.f kj9 t203 a1_0 a1_1 a1_2 a1_3).bind fun bt204 => (if bt204.2 = 0 then ((hibernacleref01_Same.f kj9 bt204.1 (t195.drop ((ji19) : Int).toNat)).bind fun t212 => (some t212)) else (some false)))) else (none)) else (none)) = some r := by first | (rw [hji19] at H; exact H) | (simp only [hji19] at H ⊢; exact H)
              by_cases c20 : 0 ≤ (ji19)
              · rw [if_pos c20] at H
                have c20b0 := eq_true c20
                have c20b1 : decide (0 ≤ (ji19)) = true := decide_eq_true c20
                clear c20
                by_cases c21 : (ji19) ≤ (t195.length : Int)
                · rw [if_pos c21] at H
                  have c21b0 := eq_true c21
                  have c21b1 : decide ((ji19) ≤ (t195.length : Int)) = true := decide_eq_true c21
                  clear c21
                  obtain ⟨y199, hy199⟩ : ∃ y_ : List ByteArray, y_ = (t195.drop ((ji19) : Int).toNat) := ⟨_, rfl⟩
                  replace H : ((strings_Join.f y199 (⟨#[]⟩ : ByteArray)).bind fun t203 => ((roll_Cut.f kj9 t203 a1_0 a1_1 a1_2 a1_3).bind fun bt204 => (if bt204.2 = 0 then ((hibernacleref01_Same.f kj9 bt204.1 (t195.drop ((ji19) : Int).toNat)).bind fun t212 => (some t212)) else (some false)))) = some r := by first | (rw [hy199]; with_reducible exact H) | (have H2_ := (Option.bind_some _ _).symm.trans H; rw [hy199]; with_reducible exact H2_) | (have H2_ := (Option.bind_some _ _).symm.trans H; with_reducible exact H2_) | with_reducible exact H | (rw [hy199]; exact H) | exact H
                  have Ny199 := Aside0.mk hy199
                  clear hy199
                  replace H := Option.bind_eq_some_iff.mp H
                  obtain ⟨t203, A220, H⟩ := H
                  replace H : ((roll_Cut.f kj9 t203 a1_0 a1_1 a1_2 a1_3).bind fun bt204 => (if bt204.2 = 0 then ((hibernacleref01_Same.f kj9 bt204.1 (t195.drop ((ji19) : Int).toNat)).bind fun t212 => (some t212)) else (some false))) = some r := H
                  have A22 := Aside0.mk A220
                  clear A220
                  replace H := Option.bind_eq_some_iff.mp H
                  obtain ⟨⟨t204, t207⟩, A230, H⟩ := H
                  replace H : (if t207 = 0 then ((hibernacleref01_Same.f kj9 t204 (t195.drop ((ji19) : Int).toNat)).bind fun t212 => (some t212)) else (some false)) = some r := H
                  have A23 := Aside0.mk A230
                  clear A230
                  by_cases c24 : t207 = 0
                  · rw [if_pos c24] at H
                    have c24b0 : (t207 == 0) = true := beq_iff_eq.mpr c24
                    have c24b1 : (t207 != 0) = false := bne_eq_false_iff_eq.mpr c24
                    clear c24
                    have c25b0 := eq_true (of_decide_eq_true (by first | (with_reducible assumption) | assumption) : 0 ≤ (ji19))
                    have c26b0 := eq_true (of_decide_eq_true (by first | (with_reducible assumption) | assumption) : (ji19) ≤ (t195.length : Int))
                    obtain ⟨y208, hy208⟩ : ∃ y_ : List ByteArray, y_ = (t195.drop ((ji19) : Int).toNat) := ⟨_, rfl⟩
                    replace H : ((hibernacleref01_Same.f kj9 t204 y208).bind fun t212 => (some t212)) = some r := by first | (rw [hy208]; with_reducible exact H) | (have H2_ := (Option.bind_some _ _).symm.trans H; rw [hy208]; with_reducible exact H2_) | (have H2_ := (Option.bind_some _ _).symm.trans H; with_reducible exact H2_) | with_reducible exact H | (rw [hy208]; exact H) | exact H
                    have Ny208 := Aside0.mk hy208
                    clear hy208
                    replace H := Option.bind_eq_some_iff.mp H
                    obtain ⟨t212, A270, H⟩ := H
                    replace H : (some t212) = some r := H
                    have A27 := Aside0.mk A270
                    clear A270
                    obtain rfl := Option.some.inj H
                    obtain ⟨Ao28, co28, eo28⟩ := Kd.R_slice HO_7.out
                    subst eo28
                    try go_wp2
                    have n0_ := Aside0.mk (Kd.R_drew HO_7.out)
                    have n1_ := Aside0.mk (blk_drew BK193.out)
                    have n2_ := Aside0.mk (below_drew1 HB.out)
                    clear HO_7
                    clear BK193
                    clear HB
                    have HO_7 := n0_
                    have BK193 := n1_
                    have HB := n2_
                    clear n0_ n1_ n2_
                    have q30 : ((ji19) : Int) ≤ ((t195.length : Int) : Int) := of_decide_eq_true (by first | (with_reducible assumption) | assumption)
                    obtain ⟨i030, hi030, _, hsz30, _⟩ := info_parts info9
                    have hroom30 : t195.length ≤ co28 := (Kd.R_reads' HO_7.out).2.1
                    have hC30 : Kd.C Kd.string _ Ao28 t195.length t195 := (Kd.R_reads' HO_7.out).2.2
                    have q030 : (0 : Int) ≤ ((ji19) : Int) := of_decide_eq_true (by first | (with_reducible assumption) | assumption)
                    have hcut30 := cut_from (P := Try.prog) 26 9 .i64 Try.underlying26 hi030 1 hsz30 Ao28 t195.length co28 (ji19) q030 q30
                    have hr30 := Kd.C_drop (m := ((ji19) : Int).toNat) (c := co28) hC30 (by omega) hroom30
                    obtain ⟨A30, hA30⟩ : ∃ A1, A1 = (if co28 = ((ji19) : Int).toNat then Ao28 else (Ao28 : Option Addr).map (·.add (((ji19) : Int).toNat * 1))) := ⟨_, rfl⟩
                    obtain ⟨c30, hc30⟩ : ∃ c1, c1 = co28 - ((ji19) : Int).toNat := ⟨_, rfl⟩
                    have hy30 : y199.length = t195.length - ((ji19) : Int).toNat := (by rw [Ny199.out, List.length_drop] <;> omega)
                    rw [show (t195).drop ((ji19) : Int).toNat = y199 from Ny199.out.symm] at hr30
                    replace hr30 : Kd.C Kd.string _ A30 y199.length y199 := (by rw [hA30]; exact hr30)
                    rw [← hy30, ← hA30, ← hc30] at hcut30
                    have HR202 := Aside0.mk hr30
                    have HC202 := Aside0.mk (show y199.length ≤ c30 from by rw [hy30, hc30]; exact Nat.sub_le_sub_right hroom30 _)
                    clear hr30 hC30 hroom30 hi030 hsz30 hc30
                    have KY30 := Aside0.mk hy30
                    have KA30 := Aside0.mk hA30
                    clear hy30 hA30
                    have KL30 := Aside0.mk (show ((ji19) : Int).toNat ≤ t195.length from by omega)
                    replace q30 := eq_true q30
                    refine start_ (n := 11) (S := fun w' => w'.cell? ⟨gb193, 0, none⟩ = some (.int .i64 a1_0) ∧ w'.cell? ⟨gb193, 1, none⟩ = some (.int .i64 a1_1) ∧ w'.cell? ⟨gb193, 2, none⟩ = some (.int .i64 a1_2) ∧ w'.cell? ⟨gb193, 3, none⟩ = some (.int .u32 a1_3)) (ds := []) #[false, false, false, false, false, false, false, false, false, false, false] (by kernel_rfl) rfl rfl ⟨(blk_cell BK193.out 0).trans rfl, (blk_cell BK193.out 1).trans rfl, (blk_cell BK193.out 2).trans rfl, (blk_cell BK193.out 3).trans rfl⟩ (fun hHeld => ?_); refine with_tabW hibernaclelaw09_RollBehind.tab9 hibernaclelaw09_RollBehind.bits9 (fun HT_ HW_ => ?_)
                    generalize wc.drew = w29 at HO_7 BK193 HB HR202 hHeld ⊢
                    refine pure_ (i := 0) (N := some 36) (v := ?_) (a' := ?_) #[true, false, false, false, false, false, false, false, false, false, false] rfl rfl (any_of HT_.out (by kernel_rfl)) (fun _ _ _ h => h) (Or.inl ⟨by rfl, ?_⟩) ?_ ?_
                    rotate_left
                    · intro w'
                      go_simp
                      with_reducible rfl
                    rotate_left
                    · simp only [Act.put, List.setIfInBounds_toArray, List.set_cons_zero, List.set_cons_succ, i64_w, i32_w]
                      rfl
                    refine pure_ (i := 1) (N := some 37) (v := ?_) (a' := ?_) #[true, true, false, false, false, false, false, false, false, false, false] rfl rfl (any_of HT_.out (by kernel_rfl)) (fun _ _ _ h => h) (Or.inl ⟨by rfl, ?_⟩) ?_ ?_
                    rotate_left
                    · intro w'
                      go_simp
                      with_reducible rfl
                    rotate_left
                    · simp only [Act.put, List.setIfInBounds_toArray, List.set_cons_zero, List.set_cons_succ, i64_w, i32_w]
                      rfl
                    refine pure_ (i := 2) (N := some 38) (v := ?_) (a' := ?_) #[true, true, true, false, false, false, false, false, false, false, false] rfl rfl (any_of HT_.out (by kernel_rfl)) (fun _ _ _ h => h) (Or.inl ⟨by rfl, ?_⟩) ?_ ?_
                    rotate_left
                    · intro w'
                      go_simp
                      with_reducible rfl
                    rotate_left
                    · simp only [Act.put, List.setIfInBounds_toArray, List.set_cons_zero, List.set_cons_succ, i64_w, i32_w]
                      rfl
                    refine take_ (i := 4) (N := some 40) (v := ?_) (a' := ?_) #[true, true, true, false, true, false, false, false, false, false, false] rfl rfl (take_ofW HT_.out HW_.out (by kernel_rfl)) (fun _ _ _ h => h) (Or.inl ⟨by rfl, ?_⟩) hHeld ?_ ?_
                    rotate_left
                    · rintro w' ⟨s0, s1, s2, s3⟩
                      go_simp
                      with_reducible rfl
                    rotate_left
                    · simp only [Act.put, List.setIfInBounds_toArray, List.set_cons_zero, List.set_cons_succ, i64_w, i32_w]
                      rfl
                    refine one_ (i := 3) (N := some 39) #[true, true, true, true, true, false, false, false, false, false, false] rfl rfl (one_of HT_.out (by kernel_rfl)) (by decide) (fun K hK => ?_)
                    refine goes_ Try.func17 (by kernel_rfl) rfl #[.slice A30 y199.length c30, .string (⟨#[]⟩ : ByteArray)] (by rfl) rfl rfl (by (try simp only [List.map_toArray, List.map_cons, List.map_nil]); first | done | rfl | (simp only [List.length_drop, List.length_take]; rfl)) ?_
                    with_reducible refine (strings_Join.calls _ _ y199 (⟨#[]⟩ : ByteArray) t203 _ ?side1 ?side2 A22.out).mono ?_
                    (case side1 => repeat (first | exact (by repeat (first | (with_reducible exact HR202.out) | (with_reducible refine Kd.C_alloc ?_ _) | (with_reducible refine Kd.C_drewN ?_ _) | (with_reducible refine Kd.C_drew ?_) | exact HR202.out)) | (with_reducible refine Kd.C_alloc ?_ _) | (with_reducible refine Kd.C_drewN ?_ _) | (with_reducible refine Kd.C_drew ?_)))
                    (case side2 => exact HC202.out)
                    rintro e w31 ⟨rfl, hb⟩
                    refine ⟨_, rfl, ?_⟩
                    have n0_ := Aside0.mk (Kd.R_below (by (with_reducible repeat (first | apply Kd.R_alloc | apply Kd.R_drewN | apply Kd.R_drew)); exact HO_7.out) hb)
                    have n1_ := Aside0.mk (blk_below (g := gb193) (o := .cells #[.int .i64 a1_0, .int .i64 a1_1, .int .i64 a1_2, .int .u32 a1_3] 24 (0, 0)) (by (with_reducible repeat (first | refine blk_drewN ?_ _ | refine blk_drew ?_ | refine blk_alloc ?_ _)); exact BK193.out) hb)
                    have n2_ := Aside0.mk (Kd.C_below (by repeat (first | (with_reducible exact HR202.out) | (with_reducible refine Kd.C_alloc ?_ _) | (with_reducible refine Kd.C_drewN ?_ _) | (with_reducible refine Kd.C_drew ?_) | exact HR202.out)) hb)
                    have n3_ := Aside0.mk (below_step (by repeat (first | (with_reducible first | exact HB.out | apply below_alloc | apply pw_below_drewN | apply below_drew1 | refine below_set ?_ GE193.out) | exact HB.out)) hb)
                    clear HO_7
                    clear BK193
                    clear HR202
                    clear HB
                    have HO_7 := n0_
                    have BK193 := n1_
                    have HR202 := n2_
                    have HB := n3_
                    clear n0_ n1_ n2_ n3_
                    (try clear hb)
                    (try clear hb2)
                    (try clear hk)
                    (try clear hi)
                    refine hK.out _ _ ⟨(blk_cell BK193.out 0).trans rfl, (blk_cell BK193.out 1).trans rfl, (blk_cell BK193.out 2).trans rfl, (blk_cell BK193.out 3).trans rfl⟩ (fun hHeld => ?_)
                    clear hK K
                    refine norm_ (a' := ?_) ?_ ?_
                    rotate_left
                    · show Act.put _ (some 39) _ = _
                      simp only [Act.put, List.setIfInBounds_toArray, List.set_cons_zero, List.set_cons_succ, i64_w, i32_w]
                      rfl
                    refine one_ (i := 5) (N := some 41) #[true, true, true, true, true, true, false, false, false, false, false] rfl rfl (one_of HT_.out (by kernel_rfl)) (by decide) (fun K hK => ?_)
                    refine goes_ Try.func10 (by kernel_rfl) rfl #[.string t203, .agg #[.int .i64 a1_0, .int .i64 a1_1, .int .i64 a1_2, .int .u32 a1_3]] (by rfl) rfl rfl (by (try simp only [List.map_toArray, List.map_cons, List.map_nil]); first | done | rfl | (simp only [List.length_drop, List.length_take]; rfl)) ?_
                    with_reducible refine (roll_Cut.calls kj9 t203 a1_0 a1_1 a1_2 a1_3 t204 t207 _ A23.out).mono ?_
                    rintro e w32 ⟨v205, rfl, ho0, hb⟩
                    refine ⟨_, rfl, ?_⟩
                    have n0_ := Aside0.mk (Kd.R_elder' (by (with_reducible repeat (first | apply Kd.R_alloc | apply Kd.R_drewN | apply Kd.R_drew)); exact HO_7.out) (Kd.R_base ho0) hb)
                    have n1_ := Aside0.mk (Kd.R_lower (Kd.R_new' ho0 (Kd.R_lt (by (with_reducible repeat (first | apply Kd.R_alloc | apply Kd.R_drewN | apply Kd.R_drew)); exact HO_7.out))) (below_size (by repeat (first | (with_reducible first | exact HB.out | apply below_alloc | apply pw_below_drewN | apply below_drew1 | refine below_set ?_ GE193.out) | exact HB.out))))
                    have n2_ := Aside0.mk (blk_below (g := gb193) (o := .cells #[.int .i64 a1_0, .int .i64 a1_1, .int .i64 a1_2, .int .u32 a1_3] 24 (0, 0)) (by (with_reducible repeat (first | refine blk_drewN ?_ _ | refine blk_drew ?_ | refine blk_alloc ?_ _)); exact BK193.out) hb)
                    have n3_ := Aside0.mk (Kd.C_below (by repeat (first | (with_reducible exact HR202.out) | (with_reducible refine Kd.C_alloc ?_ _) | (with_reducible refine Kd.C_drewN ?_ _) | (with_reducible refine Kd.C_drew ?_) | exact HR202.out)) hb)
                    have n4_ := Aside0.mk (below_step (by repeat (first | (with_reducible first | exact HB.out | apply below_alloc | apply pw_below_drewN | apply below_drew1 | refine below_set ?_ GE193.out) | exact HB.out)) hb)
                    clear HO_7
                    clear BK193
                    clear HR202
                    clear HB
                    have HO_7 := n0_
                    have HO206 := n1_
                    have BK193 := n2_
                    have HR202 := n3_
                    have HB := n4_
                    clear n0_ n1_ n2_ n3_ n4_
                    (try clear hb)
                    (try clear hb2)
                    (try clear hk)
                    (try clear hi)
                    (try clear ho0)
                    refine hK.out _ _ ⟨(blk_cell BK193.out 0).trans rfl, (blk_cell BK193.out 1).trans rfl, (blk_cell BK193.out 2).trans rfl, (blk_cell BK193.out 3).trans rfl⟩ (fun hHeld => ?_)
                    clear hK K
                    refine norm_ (a' := ?_) ?_ ?_
                    rotate_left
                    · show Act.put _ (some 41) _ = _
                      simp only [Act.put, List.setIfInBounds_toArray, List.set_cons_zero, List.set_cons_succ, i64_w, i32_w]
                      rfl
                    refine pure_ (i := 6) (N := some 35) (v := ?_) (a' := ?_) #[true, true, true, true, true, true, true, false, false, false, false] rfl rfl (any_of HT_.out (by kernel_rfl)) (fun _ _ _ h => h) (Or.inl ⟨by rfl, ?_⟩) ?_ ?_
                    rotate_left
                    · intro w'
                      go_simp
                      with_reducible rfl
                    rotate_left
                    · simp only [Act.put, List.setIfInBounds_toArray, List.set_cons_zero, List.set_cons_succ, i64_w, i32_w]
                      rfl
                    refine pure_ (i := 7) (N := some 42) (v := ?_) (a' := ?_) #[true, true, true, true, true, true, true, true, false, false, false] rfl rfl (any_of HT_.out (by kernel_rfl)) (fun _ _ _ h => h) (Or.inl ⟨by rfl, ?_⟩) ?_ ?_
                    rotate_left
                    · intro w'
                      go_simp
                      with_reducible rfl
                    rotate_left
                    · simp only [Act.put, List.setIfInBounds_toArray, List.set_cons_zero, List.set_cons_succ, i64_w, i32_w]
                      rfl
                    refine pure_ (i := 8) (N := some 43) (v := ?_) (a' := ?_) #[true, true, true, true, true, true, true, true, true, false, false] rfl rfl (any_of HT_.out (by kernel_rfl)) (fun _ _ _ h => h) (Or.inl ⟨by rfl, ?_⟩) ?_ ?_
                    rotate_left
                    · intro w'
                      go_simp
                      with_reducible rfl
                    rotate_left
                    · simp only [Act.put, List.setIfInBounds_toArray, List.set_cons_zero, List.set_cons_succ, i64_w, i32_w]
                      rfl
                    refine pure_ (i := 9) (N := some 10) (v := ?_) (a' := ?_) #[true, true, true, true, true, true, true, true, true, true, false] rfl rfl (any_of HT_.out (by kernel_rfl)) (fun _ _ _ h => h) (Or.inl ⟨by rfl, ?_⟩) ?_ ?_
                    rotate_left
                    · intro w'
                      go_simp
                      with_reducible rfl
                    rotate_left
                    · simp only [Act.put, List.setIfInBounds_toArray, List.set_cons_zero, List.set_cons_succ, i64_w, i32_w]
                      rfl
                    refine pure_ (i := 10) (N := some 11) (v := ?_) (a' := ?_) #[true, true, true, true, true, true, true, true, true, true, true] rfl rfl (any_of HT_.out (by kernel_rfl)) (fun _ _ _ h => h) (Or.inl ⟨by rfl, ?_⟩) ?_ ?_
                    rotate_left
                    · intro w'
                      go_simp
                      with_reducible rfl
                    rotate_left
                    · simp only [Act.put, List.setIfInBounds_toArray, List.set_cons_zero, List.set_cons_succ, i64_w, i32_w]
                      rfl
                    refine done_ (done_of HT_.out (by kernel_rfl)) ?_
                    have q33 : ((ji19) : Int) ≤ ((t195.length : Int) : Int) := of_decide_eq_true (by first | (with_reducible assumption) | assumption)
                    obtain ⟨i033, hi033, _, hsz33, _⟩ := info_parts info9
                    have hroom33 : t195.length ≤ co28 := (Kd.R_reads' HO_7.out).2.1
                    have hC33 : Kd.C Kd.string _ Ao28 t195.length t195 := (Kd.R_reads' HO_7.out).2.2
                    have q033 : (0 : Int) ≤ ((ji19) : Int) := of_decide_eq_true (by first | (with_reducible assumption) | assumption)
                    clear hcut30
                    have hcut33 := cut_from (P := Try.prog) 26 9 .i64 Try.underlying26 hi033 1 hsz33 Ao28 t195.length co28 (ji19) q033 q33
                    have hr33 := Kd.C_drop (m := ((ji19) : Int).toNat) (c := co28) hC33 (by omega) hroom33
                    obtain ⟨A33, hA33⟩ : ∃ A1, A1 = (if co28 = ((ji19) : Int).toNat then Ao28 else (Ao28 : Option Addr).map (·.add (((ji19) : Int).toNat * 1))) := ⟨_, rfl⟩
                    obtain ⟨c33, hc33⟩ : ∃ c1, c1 = co28 - ((ji19) : Int).toNat := ⟨_, rfl⟩
                    have hy33 : y208.length = t195.length - ((ji19) : Int).toNat := (by rw [Ny208.out, List.length_drop] <;> omega)
                    rw [show (t195).drop ((ji19) : Int).toNat = y208 from Ny208.out.symm] at hr33
                    replace hr33 : Kd.C Kd.string _ A33 y208.length y208 := (by rw [hA33]; exact hr33)
                    rw [← hy33, ← hA33, ← hc33] at hcut33
                    have HR211 := Aside0.mk hr33
                    have HC211 := Aside0.mk (show y208.length ≤ c33 from by rw [hy33, hc33]; exact Nat.sub_le_sub_right hroom33 _)
                    clear hr33 hC33 hroom33 hi033 hsz33 hc33
                    have KY33 := Aside0.mk hy33
                    have KA33 := Aside0.mk hA33
                    clear hy33 hA33
                    have KL33 := Aside0.mk (show ((ji19) : Int).toNat ≤ t195.length from by omega)
                    replace q33 := eq_true q33
                    obtain ⟨Ao34, co34, eo34⟩ := Kd.R_slice HO206.out
                    subst eo34
                    try go_wp2_with (first | (go_at_call 12; (with_reducible refine (hibernacleref01_Same.calls kj9 _ _ t204 _ _ y208 t212 _ ?side1 ?side2 ?side3 ?side4 A27.out).mono ?_); (case side1 => repeat (first | exact (Kd.R_reads' HO206.out).2.2 | (with_reducible refine Kd.C_alloc ?_ _) | (with_reducible refine Kd.C_drewN ?_ _) | (with_reducible refine Kd.C_drew ?_))); (case side2 => exact (Kd.R_reads' HO206.out).2.1); (case side3 => repeat (first | exact (by repeat (first | (with_reducible exact HR211.out) | (with_reducible refine Kd.C_alloc ?_ _) | (with_reducible refine Kd.C_drewN ?_ _) | (with_reducible refine Kd.C_drew ?_) | exact HR211.out)) | (with_reducible refine Kd.C_alloc ?_ _) | (with_reducible refine Kd.C_drewN ?_ _) | (with_reducible refine Kd.C_drew ?_))); (case side4 => exact HC211.out); rintro e w' ⟨rfl, ⟨nd, rfl⟩⟩))
                    go_ret
                    exact ⟨by first | rfl | (simp [errW_none, errW_some] <;> rfl) | (simp only [← hji19]; first | rfl | (simp [errW_none, errW_some] <;> rfl)) | (simp [*, errW_none, errW_some] <;> rfl), by repeat (first | (with_reducible first | exact HB.out | apply below_alloc | apply pw_below_drewN | apply below_drew1 | refine below_set ?_ GE193.out) | exact HB.out)⟩
                  · rw [if_neg c24] at H
                    have c24b0 : (t207 == 0) = false := beq_eq_false_iff_ne.mpr c24
                    have c24b1 : (t207 != 0) = true := bne_iff_ne.mpr c24
                    obtain rfl := Option.some.inj H
                    obtain ⟨Ao35, co35, eo35⟩ := Kd.R_slice HO_7.out
                    subst eo35
                    try go_wp2
                    have n0_ := Aside0.mk (Kd.R_drew HO_7.out)
                    have n1_ := Aside0.mk (blk_drew BK193.out)
                    have n2_ := Aside0.mk (below_drew1 HB.out)
                    clear HO_7
                    clear BK193
                    clear HB
                    have HO_7 := n0_
                    have BK193 := n1_
                    have HB := n2_
                    clear n0_ n1_ n2_
                    have q37 : ((ji19) : Int) ≤ ((t195.length : Int) : Int) := of_decide_eq_true (by first | (with_reducible assumption) | assumption)
                    obtain ⟨i037, hi037, _, hsz37, _⟩ := info_parts info9
                    have hroom37 : t195.length ≤ co35 := (Kd.R_reads' HO_7.out).2.1
                    have hC37 : Kd.C Kd.string _ Ao35 t195.length t195 := (Kd.R_reads' HO_7.out).2.2
                    have q037 : (0 : Int) ≤ ((ji19) : Int) := of_decide_eq_true (by first | (with_reducible assumption) | assumption)
                    have hcut37 := cut_from (P := Try.prog) 26 9 .i64 Try.underlying26 hi037 1 hsz37 Ao35 t195.length co35 (ji19) q037 q37
                    have hr37 := Kd.C_drop (m := ((ji19) : Int).toNat) (c := co35) hC37 (by omega) hroom37
                    obtain ⟨A37, hA37⟩ : ∃ A1, A1 = (if co35 = ((ji19) : Int).toNat then Ao35 else (Ao35 : Option Addr).map (·.add (((ji19) : Int).toNat * 1))) := ⟨_, rfl⟩
                    obtain ⟨c37, hc37⟩ : ∃ c1, c1 = co35 - ((ji19) : Int).toNat := ⟨_, rfl⟩
                    have hy37 : y199.length = t195.length - ((ji19) : Int).toNat := (by rw [Ny199.out, List.length_drop] <;> omega)
                    rw [show (t195).drop ((ji19) : Int).toNat = y199 from Ny199.out.symm] at hr37
                    replace hr37 : Kd.C Kd.string _ A37 y199.length y199 := (by rw [hA37]; exact hr37)
                    rw [← hy37, ← hA37, ← hc37] at hcut37
                    have HR202 := Aside0.mk hr37
                    have HC202 := Aside0.mk (show y199.length ≤ c37 from by rw [hy37, hc37]; exact Nat.sub_le_sub_right hroom37 _)
                    clear hr37 hC37 hroom37 hi037 hsz37 hc37
                    have KY37 := Aside0.mk hy37
                    have KA37 := Aside0.mk hA37
                    clear hy37 hA37
                    have KL37 := Aside0.mk (show ((ji19) : Int).toNat ≤ t195.length from by omega)
                    replace q37 := eq_true q37
                    refine start_ (n := 11) (S := fun w' => w'.cell? ⟨gb193, 0, none⟩ = some (.int .i64 a1_0) ∧ w'.cell? ⟨gb193, 1, none⟩ = some (.int .i64 a1_1) ∧ w'.cell? ⟨gb193, 2, none⟩ = some (.int .i64 a1_2) ∧ w'.cell? ⟨gb193, 3, none⟩ = some (.int .u32 a1_3)) (ds := []) #[false, false, false, false, false, false, false, false, false, false, false] (by kernel_rfl) rfl rfl ⟨(blk_cell BK193.out 0).trans rfl, (blk_cell BK193.out 1).trans rfl, (blk_cell BK193.out 2).trans rfl, (blk_cell BK193.out 3).trans rfl⟩ (fun hHeld => ?_); refine with_tabW hibernaclelaw09_RollBehind.tab9 hibernaclelaw09_RollBehind.bits9 (fun HT_ HW_ => ?_)
                    generalize wc.drew = w36 at HO_7 BK193 HB HR202 hHeld ⊢
                    refine pure_ (i := 0) (N := some 36) (v := ?_) (a' := ?_) #[true, false, false, false, false, false, false, false, false, false, false] rfl rfl (any_of HT_.out (by kernel_rfl)) (fun _ _ _ h => h) (Or.inl ⟨by rfl, ?_⟩) ?_ ?_
                    rotate_left
                    · intro w'
                      go_simp
                      with_reducible rfl
                    rotate_left
                    · simp only [Act.put, List.setIfInBounds_toArray, List.set_cons_zero, List.set_cons_succ, i64_w, i32_w]
                      rfl
                    refine pure_ (i := 1) (N := some 37) (v := ?_) (a' := ?_) #[true, true, false, false, false, false, false, false, false, false, false] rfl rfl (any_of HT_.out (by kernel_rfl)) (fun _ _ _ h => h) (Or.inl ⟨by rfl, ?_⟩) ?_ ?_
                    rotate_left
                    · intro w'
                      go_simp
                      with_reducible rfl
                    rotate_left
                    · simp only [Act.put, List.setIfInBounds_toArray, List.set_cons_zero, List.set_cons_succ, i64_w, i32_w]
                      rfl
                    refine pure_ (i := 2) (N := some 38) (v := ?_) (a' := ?_) #[true, true, true, false, false, false, false, false, false, false, false] rfl rfl (any_of HT_.out (by kernel_rfl)) (fun _ _ _ h => h) (Or.inl ⟨by rfl, ?_⟩) ?_ ?_
                    rotate_left
                    · intro w'
                      go_simp
                      with_reducible rfl
                    rotate_left
                    · simp only [Act.put, List.setIfInBounds_toArray, List.set_cons_zero, List.set_cons_succ, i64_w, i32_w]
                      rfl
                    refine take_ (i := 4) (N := some 40) (v := ?_) (a' := ?_) #[true, true, true, false, true, false, false, false, false, false, false] rfl rfl (take_ofW HT_.out HW_.out (by kernel_rfl)) (fun _ _ _ h => h) (Or.inl ⟨by rfl, ?_⟩) hHeld ?_ ?_
                    rotate_left
                    · rintro w' ⟨s0, s1, s2, s3⟩
                      go_simp
                      with_reducible rfl
                    rotate_left
                    · simp only [Act.put, List.setIfInBounds_toArray, List.set_cons_zero, List.set_cons_succ, i64_w, i32_w]
                      rfl
                    refine one_ (i := 3) (N := some 39) #[true, true, true, true, true, false, false, false, false, false, false] rfl rfl (one_of HT_.out (by kernel_rfl)) (by decide) (fun K hK => ?_)
                    refine goes_ Try.func17 (by kernel_rfl) rfl #[.slice A37 y199.length c37, .string (⟨#[]⟩ : ByteArray)] (by rfl) rfl rfl (by (try simp only [List.map_toArray, List.map_cons, List.map_nil]); first | done | rfl | (simp only [List.length_drop, List.length_take]; rfl)) ?_
                    with_reducible refine (strings_Join.calls _ _ y199 (⟨#[]⟩ : ByteArray) t203 _ ?side1 ?side2 A22.out).mono ?_
                    (case side1 => repeat (first | exact (by repeat (first | (with_reducible exact HR202.out) | (with_reducible refine Kd.C_alloc ?_ _) | (with_reducible refine Kd.C_drewN ?_ _) | (with_reducible refine Kd.C_drew ?_) | exact HR202.out)) | (with_reducible refine Kd.C_alloc ?_ _) | (with_reducible refine Kd.C_drewN ?_ _) | (with_reducible refine Kd.C_drew ?_)))
                    (case side2 => exact HC202.out)
                    rintro e w38 ⟨rfl, hb⟩
                    refine ⟨_, rfl, ?_⟩
                    have n0_ := Aside0.mk (Kd.R_below (by (with_reducible repeat (first | apply Kd.R_alloc | apply Kd.R_drewN | apply Kd.R_drew)); exact HO_7.out) hb)
                    have n1_ := Aside0.mk (blk_below (g := gb193) (o := .cells #[.int .i64 a1_0, .int .i64 a1_1, .int .i64 a1_2, .int .u32 a1_3] 24 (0, 0)) (by (with_reducible repeat (first | refine blk_drewN ?_ _ | refine blk_drew ?_ | refine blk_alloc ?_ _)); exact BK193.out) hb)
                    have n2_ := Aside0.mk (Kd.C_below (by repeat (first | (with_reducible exact HR202.out) | (with_reducible refine Kd.C_alloc ?_ _) | (with_reducible refine Kd.C_drewN ?_ _) | (with_reducible refine Kd.C_drew ?_) | exact HR202.out)) hb)
                    have n3_ := Aside0.mk (below_step (by repeat (first | (with_reducible first | exact HB.out | apply below_alloc | apply pw_below_drewN | apply below_drew1 | refine below_set ?_ GE193.out) | exact HB.out)) hb)
                    clear HO_7
                    clear BK193
                    clear HR202
                    clear HB
                    have HO_7 := n0_
                    have BK193 := n1_
                    have HR202 := n2_
                    have HB := n3_
                    clear n0_ n1_ n2_ n3_
                    (try clear hb)
                    (try clear hb2)
                    (try clear hk)
                    (try clear hi)
                    refine hK.out _ _ ⟨(blk_cell BK193.out 0).trans rfl, (blk_cell BK193.out 1).trans rfl, (blk_cell BK193.out 2).trans rfl, (blk_cell BK193.out 3).trans rfl⟩ (fun hHeld => ?_)
                    clear hK K
                    refine norm_ (a' := ?_) ?_ ?_
                    rotate_left
                    · show Act.put _ (some 39) _ = _
                      simp only [Act.put, List.setIfInBounds_toArray, List.set_cons_zero, List.set_cons_succ, i64_w, i32_w]
                      rfl
                    refine one_ (i := 5) (N := some 41) #[true, true, true, true, true, true, false, false, false, false, false] rfl rfl (one_of HT_.out (by kernel_rfl)) (by decide) (fun K hK => ?_)
                    refine goes_ Try.func10 (by kernel_rfl) rfl #[.string t203, .agg #[.int .i64 a1_0, .int .i64 a1_1, .int .i64 a1_2, .int .u32 a1_3]] (by rfl) rfl rfl (by (try simp only [List.map_toArray, List.map_cons, List.map_nil]); first | done | rfl | (simp only [List.length_drop, List.length_take]; rfl)) ?_
                    with_reducible refine (roll_Cut.calls kj9 t203 a1_0 a1_1 a1_2 a1_3 t204 t207 _ A23.out).mono ?_
                    rintro e w39 ⟨v205, rfl, ho0, hb⟩
                    refine ⟨_, rfl, ?_⟩
                    have n0_ := Aside0.mk (Kd.R_elder' (by (with_reducible repeat (first | apply Kd.R_alloc | apply Kd.R_drewN | apply Kd.R_drew)); exact HO_7.out) (Kd.R_base ho0) hb)
                    have n1_ := Aside0.mk (Kd.R_lower (Kd.R_new' ho0 (Kd.R_lt (by (with_reducible repeat (first | apply Kd.R_alloc | apply Kd.R_drewN | apply Kd.R_drew)); exact HO_7.out))) (below_size (by repeat (first | (with_reducible first | exact HB.out | apply below_alloc | apply pw_below_drewN | apply below_drew1 | refine below_set ?_ GE193.out) | exact HB.out))))
                    have n2_ := Aside0.mk (blk_below (g := gb193) (o := .cells #[.int .i64 a1_0, .int .i64 a1_1, .int .i64 a1_2, .int .u32 a1_3] 24 (0, 0)) (by (with_reducible repeat (first | refine blk_drewN ?_ _ | refine blk_drew ?_ | refine blk_alloc ?_ _)); exact BK193.out) hb)
                    have n3_ := Aside0.mk (Kd.C_below (by repeat (first | (with_reducible exact HR202.out) | (with_reducible refine Kd.C_alloc ?_ _) | (with_reducible refine Kd.C_drewN ?_ _) | (with_reducible refine Kd.C_drew ?_) | exact HR202.out)) hb)
                    have n4_ := Aside0.mk (below_step (by repeat (first | (with_reducible first | exact HB.out | apply below_alloc | apply pw_below_drewN | apply below_drew1 | refine below_set ?_ GE193.out) | exact HB.out)) hb)
                    clear HO_7
                    clear BK193
                    clear HR202
                    clear HB
                    have HO_7 := n0_
                    have HO206 := n1_
                    have BK193 := n2_
                    have HR202 := n3_
                    have HB := n4_
                    clear n0_ n1_ n2_ n3_ n4_
                    (try clear hb)
                    (try clear hb2)
                    (try clear hk)
                    (try clear hi)
                    (try clear ho0)
                    refine hK.out _ _ ⟨(blk_cell BK193.out 0).trans rfl, (blk_cell BK193.out 1).trans rfl, (blk_cell BK193.out 2).trans rfl, (blk_cell BK193.out 3).trans rfl⟩ (fun hHeld => ?_)
                    clear hK K
                    refine norm_ (a' := ?_) ?_ ?_
                    rotate_left
                    · show Act.put _ (some 41) _ = _
                      simp only [Act.put, List.setIfInBounds_toArray, List.set_cons_zero, List.set_cons_succ, i64_w, i32_w]
                      rfl
                    refine pure_ (i := 6) (N := some 35) (v := ?_) (a' := ?_) #[true, true, true, true, true, true, true, false, false, false, false] rfl rfl (any_of HT_.out (by kernel_rfl)) (fun _ _ _ h => h) (Or.inl ⟨by rfl, ?_⟩) ?_ ?_
                    rotate_left
                    · intro w'
                      go_simp
                      with_reducible rfl
                    rotate_left
                    · simp only [Act.put, List.setIfInBounds_toArray, List.set_cons_zero, List.set_cons_succ, i64_w, i32_w]
                      rfl
                    refine pure_ (i := 7) (N := some 42) (v := ?_) (a' := ?_) #[true, true, true, true, true, true, true, true, false, false, false] rfl rfl (any_of HT_.out (by kernel_rfl)) (fun _ _ _ h => h) (Or.inl ⟨by rfl, ?_⟩) ?_ ?_
                    rotate_left
                    · intro w'
                      go_simp
                      with_reducible rfl
                    rotate_left
                    · simp only [Act.put, List.setIfInBounds_toArray, List.set_cons_zero, List.set_cons_succ, i64_w, i32_w]
                      rfl
                    refine pure_ (i := 8) (N := some 43) (v := ?_) (a' := ?_) #[true, true, true, true, true, true, true, true, true, false, false] rfl rfl (any_of HT_.out (by kernel_rfl)) (fun _ _ _ h => h) (Or.inl ⟨by rfl, ?_⟩) ?_ ?_
                    rotate_left
                    · intro w'
                      go_simp
                      with_reducible rfl
                    rotate_left
                    · simp only [Act.put, List.setIfInBounds_toArray, List.set_cons_zero, List.set_cons_succ, i64_w, i32_w]
                      rfl
                    refine pure_ (i := 9) (N := some 10) (v := ?_) (a' := ?_) #[true, true, true, true, true, true, true, true, true, true, false] rfl rfl (any_of HT_.out (by kernel_rfl)) (fun _ _ _ h => h) (Or.inl ⟨by rfl, ?_⟩) ?_ ?_
                    rotate_left
                    · intro w'
                      go_simp
                      with_reducible rfl
                    rotate_left
                    · simp only [Act.put, List.setIfInBounds_toArray, List.set_cons_zero, List.set_cons_succ, i64_w, i32_w]
                      rfl
                    refine pure_ (i := 10) (N := some 11) (v := ?_) (a' := ?_) #[true, true, true, true, true, true, true, true, true, true, true] rfl rfl (any_of HT_.out (by kernel_rfl)) (fun _ _ _ h => h) (Or.inl ⟨by rfl, ?_⟩) ?_ ?_
                    rotate_left
                    · intro w'
                      go_simp
                      with_reducible rfl
                    rotate_left
                    · simp only [Act.put, List.setIfInBounds_toArray, List.set_cons_zero, List.set_cons_succ, i64_w, i32_w]
                      rfl
                    refine done_ (done_of HT_.out (by kernel_rfl)) ?_
                    try go_wp2
                    go_ret
                    exact ⟨by first | rfl | (simp [errW_none, errW_some] <;> rfl) | (simp only [← hji19]; first | rfl | (simp [errW_none, errW_some] <;> rfl)) | (simp [*, errW_none, errW_some] <;> rfl), by repeat (first | (with_reducible first | exact HB.out | apply below_alloc | apply pw_below_drewN | apply below_drew1 | refine below_set ?_ GE193.out) | exact HB.out)⟩
                · rw [if_neg c21] at H
                  exact absurd H (by simp)
              · rw [if_neg c20] at H
                exact absurd H (by simp)
  · replace c5 := Bool.eq_false_iff.mpr c5
    subst c5
    have H1 : (some false) = some r := by rw [if_neg (show ¬ (false = true) by decide)] at H; exact H
    clear H
    have H := H1
    clear H1
    obtain rfl := Option.some.inj H
    go_enter Try.func8, Try.ntmps8
    go_wp2_with (first | ((with_reducible refine gate_dst (N := 4) rfl ?_); (try (refine gate_guard (by rfl) ?_; dsimp only)); refine box_event ?hg (N := 4) ?hd (cs := #[.int .i64 a1_0, .int .i64 a1_1, .int .i64 a1_2, .int .u32 a1_3]) (t := 24) ?hr ?_; (case hd => rfl); (case hg => rfl); (case hr => first | (go_simp; done) | (go_simp; rfl)); intro gb193 hg w40 hbox hb; have n0_ := Aside0.mk (below_step (by repeat (first | (with_reducible first | exact HB.out | apply below_alloc | apply pw_below_drewN | apply below_drew1) | exact HB.out)) hb); have n1_ := Aside0.mk (hbox); have n2_ := Aside0.mk ((by rw [hg]; exact (below_size (by repeat (first | (with_reducible first | exact HB.out | apply below_alloc | apply pw_below_drewN | apply below_drew1) | exact HB.out))) : w.heap.size ≤ gb193)); have n3_ := Aside0.mk ((by rw [hg]; exact (below_size (by repeat (first | (with_reducible first | exact HB.out | apply below_alloc | apply pw_below_drewN | apply below_drew1) | exact HB.out))) : w.heap.size ≤ gb193)); clear HB; have HB := n0_; have BK193 := n1_; have GW193 := n2_; have GE193 := n3_; clear n0_ n1_ n2_ n3_; clear hb hbox hg) | ((with_reducible refine gate_callee (f := 9) rfl ?_); refine goesL_ (some 12) rfl rfl Try.func9 (by kernel_rfl) rfl #[] rfl (by (try simp only [List.map_toArray, List.map_cons, List.map_nil]); first | done | rfl | (simp only [List.length_drop, List.length_take]; rfl)) ?_; (with_reducible refine (hibernaclelaw09_rollAlive.calls k  false _ A4.out).mono ?_); rintro e w41 ⟨rfl, hb⟩; refine ⟨_, rfl, ?_⟩; have n0_ := Aside0.mk (blk_below (g := gb193) (o := .cells #[.int .i64 a1_0, .int .i64 a1_1, .int .i64 a1_2, .int .u32 a1_3] 24 (0, 0)) (by (with_reducible repeat (first | refine blk_drewN ?_ _ | refine blk_drew ?_ | refine blk_alloc ?_ _)); exact BK193.out) hb); have n1_ := Aside0.mk (below_step (by repeat (first | (with_reducible first | exact HB.out | apply below_alloc | apply pw_below_drewN | apply below_drew1 | refine below_set ?_ GE193.out) | exact HB.out)) hb); clear BK193; clear HB; have BK193 := n0_; have HB := n1_; clear n0_ n1_; (try clear hb); (try clear hb2); (try clear hk); (try clear hi)))
    go_ret
    exact ⟨by first | rfl | (simp [errW_none, errW_some] <;> rfl) | (simp [*, errW_none, errW_some] <;> rfl), by repeat (first | (with_reducible first | exact HB.out | apply below_alloc | apply pw_below_drewN | apply below_drew1 | refine below_set ?_ GE193.out) | exact HB.out)⟩

end Go.Proofs.Ytameblpmojfdgaa.A
