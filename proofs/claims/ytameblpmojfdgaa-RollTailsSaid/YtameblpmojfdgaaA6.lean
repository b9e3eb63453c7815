-- Made by drv.py (ours) by way of the kit's print; Lean checks it.
import Derived.Test.YtameblpmojfdgaaA0
import Derived.Test.YtameblpmojfdgaaA10
import Derived.Test.YtameblpmojfdgaaA12
import Derived.Test.YtameblpmojfdgaaA13
import Derived.Test.YtameblpmojfdgaaA9
namespace Go.Proofs.Ytameblpmojfdgaa.A
open Go.RowKit Go.Proofs.YtameblpmojfdgaaW.PrintWords Go.Proofs.YtameblpmojfdgaaW.PrintLast Go.Proofs.YtameblpmojfdgaaW.PrintMore
attribute [local go_sem] max2_int min2_int max_two min_two max_three min_three max_four min_four   -- for this text's walks alone
set_option linter.unusedVariables false
set_option linter.unusedSimpArgs false

/-! ### hibernaclelaw09_RollFixed: function 6 -/
mutual
def hibernaclelaw09_RollFixed.j0 : Nat → ByteArray → List ByteArray → Bool → Int → Int → Int → Int → Option (Bool)
  | 0, _, _, _, _, _, _, _ => none
  | k + 1, x0, x8, x63, x167000, x167001, x167002, x167003 => if x63 = true then (some false) else (hibernaclelaw09_RollFixed.l0 k x0 x8 x8 (x8.length : Int) 0 x167000 x167001 x167002 x167003)
def hibernaclelaw09_RollFixed.l0 : Nat → ByteArray → List ByteArray → List ByteArray → Int → Int → Int → Int → Int → Int → Option (Bool)
  | 0, _, _, _, _, _, _, _, _, _ => none
  | k + 1, x0, x8, x64, x65, x66, x167000, x167001, x167002, x167003 => if x66 < x65 then (if 0 ≤ x66 then (if x66 < (x64.length : Int) then (if x66 < (wrap64 ((x8.length : Int) - 1)) then (if ((rdOf ByteArray.empty x64 x66).size : Int) = x167001 then (if ((rdOf ByteArray.empty x64 x66).size : Int) > x167001 then (some false) else (hibernaclelaw09_RollFixed.l0 k x0 x8 x64 x65 (wrap64 (x66 + 1)) x167000 x167001 x167002 x167003)) else (some false)) else (if ((rdOf ByteArray.empty x64 x66).size : Int) > x167001 then (some false) else (hibernaclelaw09_RollFixed.l0 k x0 x8 x64 x65 (wrap64 (x66 + 1)) x167000 x167001 x167002 x167003))) else (none)) else (none)) else (if x167001 = 0 then (none) else (some ((x8.length : Int) == (wrap64 (Int.tdiv (wrap64 ((wrap64 ((x0.size : Int) + x167001)) - 1)) x167001)))))
end
def hibernaclelaw09_RollFixed.f (k : Nat) (a0 : ByteArray) (a1_0 : Int) (a1_1 : Int) (a1_2 : Int) (a1_3 : Int) : Option (Bool) := (hibernaclelaw09_rollAlive.f k).bind fun t167 => (if t167 = true then (if (a0.size : Int) > 3000 then (some true) else ((roll_Check.f a1_0 a1_1 a1_2 a1_3).bind fun t168 => (if t168 = 0 then ((roll_Cut.f k a0 a1_0 a1_1 a1_2 0).bind fun bt174 => ((roll_Cut.f k a0 a1_0 a1_1 a1_1 a1_3).bind fun bt178 => (if bt174.2 = 0 then (if bt178.2 = 0 then ((hibernacleref01_Same.f k bt174.1 bt178.1).bind fun t182 => (hibernaclelaw09_RollFixed.j0 k a0 bt174.1 (!t182) a1_0 a1_1 a1_2 0)) else (hibernaclelaw09_RollFixed.j0 k a0 bt174.1 true a1_0 a1_1 a1_2 0)) else (hibernaclelaw09_RollFixed.j0 k a0 bt174.1 true a1_0 a1_1 a1_2 0)))) else ((roll_Cut.f k a0 a1_0 a1_1 a1_2 a1_3).bind fun bt169 => (if (bt169.1.length : Int) = 0 then (some (bt169.2 == 2)) else (some false)))))) else (some false))
theorem hibernaclelaw09_RollFixed.mono_l : ∀ k, (∀ y0 y1 y2 y3 y4 y5 y6, LeO (hibernaclelaw09_RollFixed.j0 k y0 y1 y2 y3 y4 y5 y6) (hibernaclelaw09_RollFixed.j0 (k + 1) y0 y1 y2 y3 y4 y5 y6)) ∧ (∀ y0 y1 y2 y3 y4 y5 y6 y7 y8, LeO (hibernaclelaw09_RollFixed.l0 k y0 y1 y2 y3 y4 y5 y6 y7 y8) (hibernaclelaw09_RollFixed.l0 (k + 1) y0 y1 y2 y3 y4 y5 y6 y7 y8))
  | 0 => ⟨fun _ _ _ _ _ _ _ r h => by simp [hibernaclelaw09_RollFixed.j0] at h, fun _ _ _ _ _ _ _ _ _ r h => by simp [hibernaclelaw09_RollFixed.l0] at h⟩
  | k + 1 => by
    obtain ⟨ih0, ih1⟩ := hibernaclelaw09_RollFixed.mono_l k
    refine ⟨?_, ?_⟩
    · intro y0 y1 y2 y3 y4 y5 y6
      unfold hibernaclelaw09_RollFixed.j0
      repeat' first
      | (with_reducible exact ih0 _ _ _ _ _ _ _)
      | (with_reducible exact ih1 _ _ _ _ _ _ _ _ _)
      | (with_reducible exact hibernaclelaw09_rollAlive.mono _)
      | (with_reducible exact hibernacleref01_Same.mono _ _ _)
      | (with_reducible exact roll_Cut.mono _ _ _ _ _ _)
      | (with_reducible exact LeO.refl _)
      | (with_reducible exact LeO.none _)
      | (with_reducible refine LeO.ite ?_ ?_)
      | (with_reducible refine LeO.bind ?_ (fun _ => ?_))
      | exact ih0 _ _ _ _ _ _ _
      | exact ih1 _ _ _ _ _ _ _ _ _
      | exact hibernaclelaw09_rollAlive.mono _
      | exact hibernacleref01_Same.mono _ _ _
      | exact roll_Cut.mono _ _ _ _ _ _
      | exact LeO.none _
      | refine LeO.ite ?_ ?_
      | refine LeO.bind ?_ (fun _ => ?_)
    · intro y0 y1 y2 y3 y4 y5 y6 y7 y8
      unfold hibernaclelaw09_RollFixed.l0
      repeat' first
      | (with_reducible exact ih0 _ _ _ _ _ _ _)
      | (with_reducible exact ih1 _ _ _ _ _ _ _ _ _)
      | (with_reducible exact hibernaclelaw09_rollAlive.mono _)
      | (with_reducible exact hibernacleref01_Same.mono _ _ _)
      | (with_reducible exact roll_Cut.mono _ _ _ _ _ _)
      | (with_reducible exact LeO.refl _)
      | (with_reducible exact LeO.none _)
      | (with_reducible refine LeO.ite ?_ ?_)
      | (with_reducible refine LeO.bind ?_ (fun _ => ?_))
      | exact ih0 _ _ _ _ _ _ _
      | exact ih1 _ _ _ _ _ _ _ _ _
      | exact hibernaclelaw09_rollAlive.mono _
      | exact hibernacleref01_Same.mono _ _ _
      | exact roll_Cut.mono _ _ _ _ _ _
      | exact LeO.none _
      | refine LeO.ite ?_ ?_
      | refine LeO.bind ?_ (fun _ => ?_)
theorem hibernaclelaw09_RollFixed.mono : ∀ a0 a1 a2 a3 a4 k, LeO (hibernaclelaw09_RollFixed.f k a0 a1 a2 a3 a4) (hibernaclelaw09_RollFixed.f (k + 1) a0 a1 a2 a3 a4) := by
  intro a0 a1 a2 a3 a4 k
  obtain ⟨ih0, ih1⟩ := hibernaclelaw09_RollFixed.mono_l k
  unfold hibernaclelaw09_RollFixed.f
  repeat' first
      | (with_reducible exact ih0 _ _ _ _ _ _ _)
      | (with_reducible exact ih1 _ _ _ _ _ _ _ _ _)
      | (with_reducible exact hibernaclelaw09_rollAlive.mono _)
      | (with_reducible exact hibernacleref01_Same.mono _ _ _)
      | (with_reducible exact roll_Cut.mono _ _ _ _ _ _)
      | (with_reducible exact LeO.refl _)
      | (with_reducible exact LeO.none _)
      | (with_reducible refine LeO.ite ?_ ?_)
      | (with_reducible refine LeO.bind ?_ (fun _ => ?_))
      | exact ih0 _ _ _ _ _ _ _
      | exact ih1 _ _ _ _ _ _ _ _ _
      | exact hibernaclelaw09_rollAlive.mono _
      | exact hibernacleref01_Same.mono _ _ _
      | exact roll_Cut.mono _ _ _ _ _ _
      | exact LeO.none _
      | refine LeO.ite ?_ ?_
      | refine LeO.bind ?_ (fun _ => ?_)
set_option maxHeartbeats 8000000 in
set_option maxRecDepth 100000 in
theorem hibernaclelaw09_RollFixed.calls (k : Nat) (a0 : ByteArray) (a1_0 : Int) (a1_1 : Int) (a1_2 : Int) (a1_3 : Int) (r : Bool) (w : World) (h : hibernaclelaw09_RollFixed.f k a0 a1_0 a1_1 a1_2 a1_3 = some r) :
    Calls Try.prog 6 #[.string a0, .agg #[.int .i64 a1_0, .int .i64 a1_1, .int .i64 a1_2, .int .u32 a1_3]] w fun e w' => e = .returned (.bool r) ∧ Below w.heap.size w w' := by
  have hu24 := Try.underlying24
  have HB := Aside0.mk (Below.refl w.heap.size w)
  have H : ((hibernaclelaw09_rollAlive.f k).bind fun t167 => (if t167 = true then (if (a0.size : Int) > 3000 then (some true) else ((roll_Check.f a1_0 a1_1 a1_2 a1_3).bind fun t168 => (if t168 = 0 then ((roll_Cut.f k a0 a1_0 a1_1 a1_2 0).bind fun bt174 => ((roll_Cut.f k a0 a1_0 a1_1 a1_1 a1_3).bind fun bt178 => (if bt174.2 = 0 then (if bt178.2 = 0 then ((hibernacleref01_Same.f k bt174.1 bt178.1).bind fun t182 => (hibernaclelaw09_RollFixed.j0 k a0 bt174.1 (!t182) a1_0 a1_1 a1_2 0)) else (hibernaclelaw09_RollFixed.j0 k a0 bt174.1 true a1_0 a1_1 a1_2 0)) else (hibernaclelaw09_RollFixed.j0 k a0 bt174.1 true a1_0 a1_1 a1_2 0)))) else ((roll_Cut.f k a0 a1_0 a1_1 a1_2 a1_3).bind fun bt169 => (if (bt169.1.length : Int) = 0 then (some (bt169.2 == 2)) else (some false)))))) else (some false))) = some r := h
  clear h
  replace H := Option.bind_eq_some_iff.mp H
  obtain ⟨t167, A30, H⟩ := H
  replace H : (if t167 = true then (if (a0.size : Int) > 3000 then (some true) else ((roll_Check.f a1_0 a1_1 a1_2 a1_3).bind fun t168 => (if t168 = 0 then ((roll_Cut.f k a0 a1_0 a1_1 a1_2 0).bind fun bt174 => ((roll_Cut.f k a0 a1_0 a1_1 a1_1 a1_3).bind fun bt178 => (if bt174.2 = 0 then (if bt178.2 = 0 then ((hibernacleref01_Same.f k bt174.1 bt178.1).bind fun t182 => (hibernaclelaw09_RollFixed.j0 k a0 bt174.1 (!t182) a1_0 a1_1 a1_2 0)) else (hibernaclelaw09_RollFixed.j0 k a0 bt174.1 true a1_0 a1_1 a1_2 0)) else (hibernaclelaw09_RollFixed.j0 k a0 bt174.1 true a1_0 a1_1 a1_2 0)))) else ((roll_Cut.f k a0 a1_0 a1_1 a1_2 a1_3).bind fun bt169 => (if (bt169.1.length : Int) = 0 then (some (bt169.2 == 2)) else (some false)))))) else (some false)) = some r := H
  have A3 := Aside0.mk A30
  clear A30
  by_cases c4 : t167 = true
  · subst c4
    have H1 : (if (a0.size : Int) > 3000 then (some true) else ((roll_Check.f a1_0 a1_1 a1_2 a1_3).bind fun t168 => (if t168 = 0 then ((roll_Cut.f k a0 a1_0 a1_1 a1_2 0).bind fun bt174 => ((roll_Cut.f k a0 a1_0 a1_1 a1_1 a1_3).bind fun bt178 => (if bt174.2 = 0 then (if bt178.2 = 0 then ((hibernacleref01_Same.f k bt174.1 bt178.1).bind fun t182 => (hibernaclelaw09_RollFixed.j0 k a0 bt174.1 (!t182) a1_0 a1_1 a1_2 0)) else (hibernaclelaw09_RollFixed.j0 k a0 bt174.1 true a1_0 a1_1 a1_2 0)) else (hibernaclelaw09_RollFixed.j0 k a0 bt174.1 true a1_0 a1_1 a1_2 0)))) else ((roll_Cut.f k a0 a1_0 a1_1 a1_2 a1_3).bind fun bt169 => (if (bt169.1.length : Int) = 0 then (some (bt169.2 == 2)) else (some false)))))) = some r := by rw [if_pos rfl] at H; exact H
    clear H
    have H := H1
    clear H1
    by_cases c5 : (a0.size : Int) > 3000
    · rw [if_pos c5] at H
      have c5b0 : decide (3000 < (a0.size : Int)) = true := decide_eq_true c5
      have c5b1 : decide (3000 < a0.size) = true := decide_eq_true (by omega)
      clear c5
      obtain rfl := Option.some.inj H
      go_enter Try.func6, Try.ntmps6
      go_wp2_with (first | ((with_reducible refine gate_dst (N := 3) rfl ?_); (try (refine gate_guard (by rfl) ?_; dsimp only)); refine box_event ?hg (N := 3) ?hd (cs := #[.int .i64 a1_0, .int .i64 a1_1, .int .i64 a1_2, .int .u32 a1_3]) (t := 24) ?hr ?_; (case hd => rfl); (case hg => rfl); (case hr => first | (go_simp; done) | (go_simp; rfl)); intro gb166 hg w6 hbox hb; have n0_ := Aside0.mk (below_step (by repeat (first | (with_reducible first | exact HB.out | apply below_alloc | apply pw_below_drewN | apply below_drew1) | exact HB.out)) hb); have n1_ := Aside0.mk (hbox); have n2_ := Aside0.mk ((by rw [hg]; exact (below_size (by repeat (first | (with_reducible first | exact HB.out | apply below_alloc | apply pw_below_drewN | apply below_drew1) | exact HB.out))) : w.heap.size ≤ gb166)); have n3_ := Aside0.mk ((by rw [hg]; exact (below_size (by repeat (first | (with_reducible first | exact HB.out | apply below_alloc | apply pw_below_drewN | apply below_drew1) | exact HB.out))) : w.heap.size ≤ gb166)); clear HB; have HB := n0_; have BK166 := n1_; have GW166 := n2_; have GE166 := n3_; clear n0_ n1_ n2_ n3_; clear hb hbox hg) | ((with_reducible refine gate_callee (f := 9) rfl ?_); refine goesL_ (some 14) rfl rfl Try.func9 (by kernel_rfl) rfl #[] rfl (by (try simp only [List.map_toArray, List.map_cons, List.map_nil]); first | done | rfl | (simp only [List.length_drop, List.length_take]; rfl)) ?_; (with_reducible refine (hibernaclelaw09_rollAlive.calls k  true _ A3.out).mono ?_); rintro e w7 ⟨rfl, hb⟩; refine ⟨_, rfl, ?_⟩; have n0_ := Aside0.mk (blk_below (g := gb166) (o := .cells #[.int .i64 a1_0, .int .i64 a1_1, .int .i64 a1_2, .int .u32 a1_3] 24 (0, 0)) (by (with_reducible repeat (first | refine blk_drewN ?_ _ | refine blk_drew ?_ | refine blk_alloc ?_ _)); exact BK166.out) hb); have n1_ := Aside0.mk (below_step (by repeat (first | (with_reducible first | exact HB.out | apply below_alloc | apply pw_below_drewN | apply below_drew1 | refine below_set ?_ GE166.out) | exact HB.out)) hb); clear BK166; clear HB; have BK166 := n0_; have HB := n1_; clear n0_ n1_; (try clear hb); (try clear hb2); (try clear hk); (try clear hi)))
      go_ret
      exact ⟨by first | rfl | (simp [errW_none, errW_some] <;> rfl) | (simp [*, errW_none, errW_some] <;> rfl), by repeat (first | (with_reducible first | exact HB.out | apply below_alloc | apply pw_below_drewN | apply below_drew1 | refine below_set ?_ GE166.out) | exact HB.out)⟩
    · rw [if_neg c5] at H
      have c5b0 : decide (3000 < (a0.size : Int)) = false := decide_eq_false c5
      have c5b1 : decide (3000 < a0.size) = false := decide_eq_false (by omega)
      clear c5
      replace H := Option.bind_eq_some_iff.mp H
      obtain ⟨t168, A80, H⟩ := H
      replace H : (if t168 = 0 then ((roll_Cut.f k a0 a1_0 a1_1 a1_2 0).bind fun bt174 => ((roll_Cut.f k a0 a1_0 a1_1 a1_1 a1_3).bind fun bt178 => (if bt174.2 = 0 then (if bt178.2 = 0 then ((hibernacleref01_Same.f k bt174.1 bt178.1).bind fun t182 => (hibernaclelaw09_RollFixed.j0 k a0 bt174.1 (!t182) a1_0 a1_1 a1_2 0)) else (hibernaclelaw09_RollFixed.j0 k a0 bt174.1 true a1_0 a1_1 a1_2 0)) else (hibernaclelaw09_RollFixed.j0 k a0 bt174.1 true a1_0 a1_1 a1_2 0)))) else ((roll_Cut.f k a0 a1_0 a1_1 a1_2 a1_3).bind fun bt169 => (if (bt169.1.length : Int) = 0 then (some (bt169.2 == 2)) else (some false)))) = some r := H
      have A8 := Aside0.mk A80
      clear A80
      by_cases c9 : t168 = 0
      · rw [if_pos c9] at H
        have c9b0 : (t168 == 0) = true := beq_iff_eq.mpr c9
        have c9b1 : (t168 != 0) = false := bne_eq_false_iff_eq.mpr c9
        clear c9
        replace H := Option.bind_eq_some_iff.mp H
        obtain ⟨⟨t174, t177⟩, A100, H⟩ := H
        replace H : ((roll_Cut.f k a0 a1_0 a1_1 a1_1 a1_3).bind fun bt178 => (if t177 = 0 then (if bt178.2 = 0 then ((hibernacleref01_Same.f k t174 bt178.1).bind fun t182 => (hibernaclelaw09_RollFixed.j0 k a0 t174 (!t182) a1_0 a1_1 a1_2 0)) else (hibernaclelaw09_RollFixed.j0 k a0 t174 true a1_0 a1_1 a1_2 0)) else (hibernaclelaw09_RollFixed.j0 k a0 t174 true a1_0 a1_1 a1_2 0))) = some r := H
        have A10 := Aside0.mk A100
        clear A100
        replace H := Option.bind_eq_some_iff.mp H
        obtain ⟨⟨t178, t181⟩, A110, H⟩ := H
        replace H : (if t177 = 0 then (if t181 = 0 then ((hibernacleref01_Same.f k t174 t178).bind fun t182 => (hibernaclelaw09_RollFixed.j0 k a0 t174 (!t182) a1_0 a1_1 a1_2 0)) else (hibernaclelaw09_RollFixed.j0 k a0 t174 true a1_0 a1_1 a1_2 0)) else (hibernaclelaw09_RollFixed.j0 k a0 t174 true a1_0 a1_1 a1_2 0)) = some r := H
        have A11 := Aside0.mk A110
        clear A110
        have HC12 := Aside0.mk H
        clear H
        go_enter Try.func6, Try.ntmps6
        go_upto_region 13 with (first | ((with_reducible refine gate_dst (N := 3) rfl ?_); (try (refine gate_guard (by rfl) ?_; dsimp only)); refine box_event ?hg (N := 3) ?hd (cs := #[.int .i64 a1_0, .int .i64 a1_1, .int .i64 a1_2, .int .u32 a1_3]) (t := 24) ?hr ?_; (case hd => rfl); (case hg => rfl); (case hr => first | (go_simp; done) | (go_simp; rfl)); intro gb166 hg w13 hbox hb; have n0_ := Aside0.mk (below_step (by repeat (first | (with_reducible first | exact HB.out | apply below_alloc | apply pw_below_drewN | apply below_drew1) | exact HB.out)) hb); have n1_ := Aside0.mk (hbox); have n2_ := Aside0.mk ((by rw [hg]; exact (below_size (by repeat (first | (with_reducible first | exact HB.out | apply below_alloc | apply pw_below_drewN | apply below_drew1) | exact HB.out))) : w.heap.size ≤ gb166)); have n3_ := Aside0.mk ((by rw [hg]; exact (below_size (by repeat (first | (with_reducible first | exact HB.out | apply below_alloc | apply pw_below_drewN | apply below_drew1) | exact HB.out))) : w.heap.size ≤ gb166)); clear HB; have HB := n0_; have BK166 := n1_; have GW166 := n2_; have GE166 := n3_; clear n0_ n1_ n2_ n3_; clear hb hbox hg) | ((with_reducible refine gate_callee (f := 9) rfl ?_); refine goesL_ (some 14) rfl rfl Try.func9 (by kernel_rfl) rfl #[] rfl (by (try simp only [List.map_toArray, List.map_cons, List.map_nil]); first | done | rfl | (simp only [List.length_drop, List.length_take]; rfl)) ?_; (with_reducible refine (hibernaclelaw09_rollAlive.calls k  true _ A3.out).mono ?_); rintro e w14 ⟨rfl, hb⟩; refine ⟨_, rfl, ?_⟩; have n0_ := Aside0.mk (blk_below (g := gb166) (o := .cells #[.int .i64 a1_0, .int .i64 a1_1, .int .i64 a1_2, .int .u32 a1_3] 24 (0, 0)) (by (with_reducible repeat (first | refine blk_drewN ?_ _ | refine blk_drew ?_ | refine blk_alloc ?_ _)); exact BK166.out) hb); have n1_ := Aside0.mk (below_step (by repeat (first | (with_reducible first | exact HB.out | apply below_alloc | apply pw_below_drewN | apply below_drew1 | refine below_set ?_ GE166.out) | exact HB.out)) hb); clear BK166; clear HB; have BK166 := n0_; have HB := n1_; clear n0_ n1_; (try clear hb); (try clear hb2); (try clear hk); (try clear hi); have hcz15_0 : w14.cell? ⟨gb166, 0, none⟩ = some (.int .i64 a1_0) := (blk_cell BK166.out 0).trans rfl; have hcz15_1 : w14.cell? ⟨gb166, 1, none⟩ = some (.int .i64 a1_1) := (blk_cell BK166.out 1).trans rfl; have hcz15_2 : w14.cell? ⟨gb166, 2, none⟩ = some (.int .i64 a1_2) := (blk_cell BK166.out 2).trans rfl; have hcz15_3 : w14.cell? ⟨gb166, 3, none⟩ = some (.int .u32 a1_3) := (blk_cell BK166.out 3).trans rfl; have hfz15_0 := blk_frozen BK166.out 0; have hfz15_1 := blk_frozen BK166.out 1; have hfz15_2 := blk_frozen BK166.out 2; have hfz15_3 := blk_frozen BK166.out 3) | ((with_reducible refine gate_callee (f := 13) rfl ?_); refine goesL_ (some 20) rfl rfl Try.func13 (by kernel_rfl) rfl #[.agg #[.int .i64 a1_0, .int .i64 a1_1, .int .i64 a1_2, .int .u32 a1_3]] rfl (by (try simp only [List.map_toArray, List.map_cons, List.map_nil]); first | done | rfl | (simp only [List.length_drop, List.length_take]; rfl)) ?_; (with_reducible refine (roll_Check.calls a1_0 a1_1 a1_2 a1_3 t168 _ A8.out).mono ?_); rintro e w16 ⟨rfl, hb⟩; refine ⟨_, rfl, ?_⟩; have n0_ := Aside0.mk (blk_below (g := gb166) (o := .cells #[.int .i64 a1_0, .int .i64 a1_1, .int .i64 a1_2, .int .u32 a1_3] 24 (0, 0)) (by (with_reducible repeat (first | refine blk_drewN ?_ _ | refine blk_drew ?_ | refine blk_alloc ?_ _)); exact BK166.out) hb); have n1_ := Aside0.mk (below_step (by repeat (first | (with_reducible first | exact HB.out | apply below_alloc | apply pw_below_drewN | apply below_drew1 | refine below_set ?_ GE166.out) | exact HB.out)) hb); clear BK166; clear HB; have BK166 := n0_; have HB := n1_; clear n0_ n1_; (try clear hb); (try clear hb2); (try clear hk); (try clear hi); have hcz17_0 : w16.cell? ⟨gb166, 0, none⟩ = some (.int .i64 a1_0) := (blk_cell BK166.out 0).trans rfl; have hcz17_1 : w16.cell? ⟨gb166, 1, none⟩ = some (.int .i64 a1_1) := (blk_cell BK166.out 1).trans rfl; have hcz17_2 : w16.cell? ⟨gb166, 2, none⟩ = some (.int .i64 a1_2) := (blk_cell BK166.out 2).trans rfl; have hcz17_3 : w16.cell? ⟨gb166, 3, none⟩ = some (.int .u32 a1_3) := (blk_cell BK166.out 3).trans rfl; have hfz17_0 := blk_frozen BK166.out 0; have hfz17_1 := blk_frozen BK166.out 1; have hfz17_2 := blk_frozen BK166.out 2; have hfz17_3 := blk_frozen BK166.out 3) | ((with_reducible refine gate_dst (N := 7) rfl ?_); (try (refine gate_guard (by rfl) ?_; dsimp only)); refine box_event ?hg (N := 7) ?hd (cs := #[.int .i64 0, .int .i64 0, .int .i64 0, .int .u32 0]) (t := 24) ?hr ?_; (case hd => rfl); (case hg => rfl); (case hr => first | (go_simp; done) | (go_simp; rfl)); intro gb173 hg w18 hbox hb; have n0_ := Aside0.mk (blk_below (g := gb166) (o := .cells #[.int .i64 a1_0, .int .i64 a1_1, .int .i64 a1_2, .int .u32 a1_3] 24 (0, 0)) (by (with_reducible repeat (first | refine blk_drewN ?_ _ | refine blk_drew ?_ | refine blk_alloc ?_ _)); exact BK166.out) hb); have n1_ := Aside0.mk (below_step (by repeat (first | (with_reducible first | exact HB.out | apply below_alloc | apply pw_below_drewN | apply below_drew1 | refine below_set ?_ GE166.out) | exact HB.out)) hb); have n2_ := Aside0.mk (hbox); have n3_ := Aside0.mk ((by rw [hg]; exact (below_size (by repeat (first | (with_reducible first | exact HB.out | apply below_alloc | apply pw_below_drewN | apply below_drew1 | refine below_set ?_ GE166.out) | exact HB.out))) : w.heap.size ≤ gb173)); have n4_ := Aside0.mk ((by rw [hg]; exact (below_size (by repeat (first | (with_reducible first | exact HB.out | apply below_alloc | apply pw_below_drewN | apply below_drew1 | refine below_set ?_ GE166.out) | exact HB.out))) : w.heap.size ≤ gb173)); have n5_ := Aside0.mk ((by rw [hg]; exact Nat.ne_of_lt (blk_lt (g := gb166) (o := .cells #[.int .i64 a1_0, .int .i64 a1_1, .int .i64 a1_2, .int .u32 a1_3] 24 (0, 0)) (by (with_reducible repeat (first | refine blk_drewN ?_ _ | refine blk_drew ?_ | refine blk_alloc ?_ _)); exact BK166.out)) : gb166 ≠ gb173)); have n6_ := Aside0.mk ((by rw [hg]; exact Nat.ne_of_gt (blk_lt (g := gb166) (o := .cells #[.int .i64 a1_0, .int .i64 a1_1, .int .i64 a1_2, .int .u32 a1_3] 24 (0, 0)) (by (with_reducible repeat (first | refine blk_drewN ?_ _ | refine blk_drew ?_ | refine blk_alloc ?_ _)); exact BK166.out)) : gb173 ≠ gb166)); clear BK166; clear HB; have BK166 := n0_; have HB := n1_; have BK173 := n2_; have GW173 := n3_; have GE173 := n4_; have NB166_173 := n5_; have NB173_166 := n6_; clear n0_ n1_ n2_ n3_ n4_ n5_ n6_; clear hb hbox hg; have hnb19 := NB173_166.out; have hnc19 := NB166_173.out; have hcz20_0 : w18.cell? ⟨gb173, 0, none⟩ = some (.int .i64 0) := (blk_cell BK173.out 0).trans rfl; have hcz20_1 : w18.cell? ⟨gb173, 1, none⟩ = some (.int .i64 0) := (blk_cell BK173.out 1).trans rfl; have hcz20_2 : w18.cell? ⟨gb173, 2, none⟩ = some (.int .i64 0) := (blk_cell BK173.out 2).trans rfl; have hcz20_3 : w18.cell? ⟨gb173, 3, none⟩ = some (.int .u32 0) := (blk_cell BK173.out 3).trans rfl; have hfz20_0 := blk_frozen BK173.out 0; have hfz20_1 := blk_frozen BK173.out 1; have hfz20_2 := blk_frozen BK173.out 2; have hfz20_3 := blk_frozen BK173.out 3; have hcz21_0 : w18.cell? ⟨gb166, 0, none⟩ = some (.int .i64 a1_0) := (blk_cell BK166.out 0).trans rfl; have hcz21_1 : w18.cell? ⟨gb166, 1, none⟩ = some (.int .i64 a1_1) := (blk_cell BK166.out 1).trans rfl; have hcz21_2 : w18.cell? ⟨gb166, 2, none⟩ = some (.int .i64 a1_2) := (blk_cell BK166.out 2).trans rfl; have hcz21_3 : w18.cell? ⟨gb166, 3, none⟩ = some (.int .u32 a1_3) := (blk_cell BK166.out 3).trans rfl; have hfz21_0 := blk_frozen BK166.out 0; have hfz21_1 := blk_frozen BK166.out 1; have hfz21_2 := blk_frozen BK166.out 2; have hfz21_3 := blk_frozen BK166.out 3) | ((with_reducible refine gate_callee (f := 10) rfl ?_); refine goesL_ (some 43) rfl rfl Try.func10 (by kernel_rfl) rfl #[.string a0, .agg #[.int .i64 a1_0, .int .i64 a1_1, .int .i64 a1_2, .int .u32 0]] rfl (by (try simp only [List.map_toArray, List.map_cons, List.map_nil]); first | done | rfl | (simp only [List.length_drop, List.length_take]; rfl)) ?_; (with_reducible refine (roll_Cut.calls k a0 a1_0 a1_1 a1_2 0 t174 t177 _ A10.out).mono ?_); rintro e w22 ⟨v175, rfl, ho0, hb⟩; refine ⟨_, rfl, ?_⟩; have n0_ := Aside0.mk (Kd.R_lower ho0 (below_size (by repeat (first | (with_reducible first | exact HB.out | apply below_alloc | apply pw_below_drewN | apply below_drew1 | refine below_set ?_ GE166.out | refine below_set ?_ GE173.out) | exact HB.out)))); have n1_ := Aside0.mk (blk_below (g := gb166) (o := .cells #[.int .i64 a1_0, .int .i64 a1_1, .int .i64 a1_2, .int .u32 0] 24 (0, 0)) (by (with_reducible repeat (first | refine blk_drewN ?_ _ | refine blk_drew ?_ | refine blk_alloc ?_ _)); refine blk_put (cs := #[.int .i64 a1_0, .int .i64 a1_1, .int .i64 a1_2, .int .u32 a1_3]) ?_ 3 _ rfl; (with_reducible repeat (first | refine blk_drewN ?_ _ | refine blk_drew ?_ | refine blk_alloc ?_ _)); refine blk_far ?_ NB166_173.out _; (with_reducible repeat (first | refine blk_drewN ?_ _ | refine blk_drew ?_ | refine blk_alloc ?_ _)); refine blk_far ?_ NB166_173.out _; (with_reducible repeat (first | refine blk_drewN ?_ _ | refine blk_drew ?_ | refine blk_alloc ?_ _)); refine blk_far ?_ NB166_173.out _; (with_reducible repeat (first | refine blk_drewN ?_ _ | refine blk_drew ?_ | refine blk_alloc ?_ _)); refine blk_far ?_ NB166_173.out _; (with_reducible repeat (first | refine blk_drewN ?_ _ | refine blk_drew ?_ | refine blk_alloc ?_ _)); refine blk_far ?_ NB166_173.out _; (with_reducible repeat (first | refine blk_drewN ?_ _ | refine blk_drew ?_ | refine blk_alloc ?_ _)); exact BK166.out) hb); have n2_ := Aside0.mk (blk_below (g := gb173) (o := .cells #[.int .i64 a1_0, .int .i64 a1_1, .int .i64 a1_1, .int .u32 a1_3] 24 (0, 0)) (by (with_reducible repeat (first | refine blk_drewN ?_ _ | refine blk_drew ?_ | refine blk_alloc ?_ _)); refine blk_far ?_ NB173_166.out _; (with_reducible repeat (first | refine blk_drewN ?_ _ | refine blk_drew ?_ | refine blk_alloc ?_ _)); refine blk_put (cs := #[.int .i64 a1_0, .int .i64 a1_1, .int .i64 a1_2, .int .u32 a1_3]) ?_ 2 _ rfl; (with_reducible repeat (first | refine blk_drewN ?_ _ | refine blk_drew ?_ | refine blk_alloc ?_ _)); refine blk_put (cs := #[.int .i64 a1_0, .int .i64 a1_1, .int .i64 a1_2, .int .u32 0]) ?_ 3 _ rfl; (with_reducible repeat (first | refine blk_drewN ?_ _ | refine blk_drew ?_ | refine blk_alloc ?_ _)); refine blk_put (cs := #[.int .i64 a1_0, .int .i64 a1_1, .int .i64 0, .int .u32 0]) ?_ 2 _ rfl; (with_reducible repeat (first | refine blk_drewN ?_ _ | refine blk_drew ?_ | refine blk_alloc ?_ _)); refine blk_put (cs := #[.int .i64 a1_0, .int .i64 0, .int .i64 0, .int .u32 0]) ?_ 1 _ rfl; (with_reducible repeat (first | refine blk_drewN ?_ _ | refine blk_drew ?_ | refine blk_alloc ?_ _)); refine blk_put (cs := #[.int .i64 0, .int .i64 0, .int .i64 0, .int .u32 0]) ?_ 0 _ rfl; (with_reducible repeat (first | refine blk_drewN ?_ _ | refine blk_drew ?_ | refine blk_alloc ?_ _)); exact BK173.out) hb); have n3_ := Aside0.mk (below_step (by repeat (first | (with_reducible first | exact HB.out | apply below_alloc | apply pw_below_drewN | apply below_drew1 | refine below_set ?_ GE166.out | refine below_set ?_ GE173.out) | exact HB.out)) hb); clear BK166; clear BK173; clear HB; have HO176 := n0_; have BK166 := n1_; have BK173 := n2_; have HB := n3_; clear n0_ n1_ n2_ n3_; (try clear hb); (try clear hb2); (try clear hk); (try clear hi); (try clear ho0); have hcz23_0 : w22.cell? ⟨gb173, 0, none⟩ = some (.int .i64 a1_0) := (blk_cell BK173.out 0).trans rfl; have hcz23_1 : w22.cell? ⟨gb173, 1, none⟩ = some (.int .i64 a1_1) := (blk_cell BK173.out 1).trans rfl; have hcz23_2 : w22.cell? ⟨gb173, 2, none⟩ = some (.int .i64 a1_1) := (blk_cell BK173.out 2).trans rfl; have hcz23_3 : w22.cell? ⟨gb173, 3, none⟩ = some (.int .u32 a1_3) := (blk_cell BK173.out 3).trans rfl; have hfz23_0 := blk_frozen BK173.out 0; have hfz23_1 := blk_frozen BK173.out 1; have hfz23_2 := blk_frozen BK173.out 2; have hfz23_3 := blk_frozen BK173.out 3) | ((with_reducible refine gate_callee (f := 10) rfl ?_); refine goesL_ (some 49) rfl rfl Try.func10 (by kernel_rfl) rfl #[.string a0, .agg #[.int .i64 a1_0, .int .i64 a1_1, .int .i64 a1_1, .int .u32 a1_3]] rfl (by (try simp only [List.map_toArray, List.map_cons, List.map_nil]); first | done | rfl | (simp only [List.length_drop, List.length_take]; rfl)) ?_; (with_reducible refine (roll_Cut.calls k a0 a1_0 a1_1 a1_1 a1_3 t178 t181 _ A11.out).mono ?_); rintro e w24 ⟨v179, rfl, ho0, hb⟩; refine ⟨_, rfl, ?_⟩; have n0_ := Aside0.mk (Kd.R_elder' (by (with_reducible repeat (first | apply Kd.R_alloc | apply Kd.R_drewN | apply Kd.R_drew)); exact HO176.out) (Kd.R_base ho0) hb); have n1_ := Aside0.mk (Kd.R_lower (Kd.R_new' ho0 (Kd.R_lt (by (with_reducible repeat (first | apply Kd.R_alloc | apply Kd.R_drewN | apply Kd.R_drew)); exact HO176.out))) (below_size (by repeat (first | (with_reducible first | exact HB.out | apply below_alloc | apply pw_below_drewN | apply below_drew1 | refine below_set ?_ GE166.out | refine below_set ?_ GE173.out) | exact HB.out)))); have n2_ := Aside0.mk (blk_below (g := gb166) (o := .cells #[.int .i64 a1_0, .int .i64 a1_1, .int .i64 a1_2, .int .u32 0] 24 (0, 0)) (by (with_reducible repeat (first | refine blk_drewN ?_ _ | refine blk_drew ?_ | refine blk_alloc ?_ _)); exact BK166.out) hb); have n3_ := Aside0.mk (blk_below (g := gb173) (o := .cells #[.int .i64 a1_0, .int .i64 a1_1, .int .i64 a1_1, .int .u32 a1_3] 24 (0, 0)) (by (with_reducible repeat (first | refine blk_drewN ?_ _ | refine blk_drew ?_ | refine blk_alloc ?_ _)); exact BK173.out) hb); have n4_ := Aside0.mk (below_step (by repeat (first | (with_reducible first | exact HB.out | apply below_alloc | apply pw_below_drewN | apply below_drew1 | refine below_set ?_ GE166.out | refine below_set ?_ GE173.out) | exact HB.out)) hb); clear HO176; clear BK166; clear BK173; clear HB; have HO176 := n0_; have HO180 := n1_; have BK166 := n2_; have BK173 := n3_; have HB := n4_; clear n0_ n1_ n2_ n3_ n4_; (try clear hb); (try clear hb2); (try clear hk); (try clear hi); (try clear ho0)))
        (try simp only [Act.put, List.setIfInBounds_toArray, List.set_cons_zero, List.set_cons_succ])
        go_cut [63] (fun v63 wc => ∃ (kq : Nat) (x63_11 : Bool), v63 = .bool x63_11 ∧ Aside0 (hibernaclelaw09_RollFixed.j0 kq a0 t174 x63_11 a1_0 a1_1 a1_2 0 = some r) ∧ Aside0 (kq ≤ k) ∧ Aside0 (Kd.R Kd.string 9 wc w.heap.size (fun _ => True) v175 t174) ∧ Aside0 (wc.heap[gb166]? = some (.cells #[.int .i64 a1_0, .int .i64 a1_1, .int .i64 a1_2, .int .u32 0] 24 (0, 0))) ∧ Aside0 (wc.heap[gb173]? = some (.cells #[.int .i64 a1_0, .int .i64 a1_1, .int .i64 a1_1, .int .u32 a1_3] 24 (0, 0))) ∧ Aside0 (Below w.heap.size w wc))
        case first =>
          have H := HC12.out
          clear HC12
          by_cases c25 : t177 = 0
          · rw [if_pos c25] at H
            have c25b0 : (t177 == 0) = true := beq_iff_eq.mpr c25
            have c25b1 : (t177 != 0) = false := bne_eq_false_iff_eq.mpr c25
            clear c25
            (first | rw [c25b0] | (simp only [i64_w, i32_w]; rw [c25b0]) | skip)
            by_cases c26 : t181 = 0
            · rw [if_pos c26] at H
              have c26b0 : (t181 == 0) = true := beq_iff_eq.mpr c26
              have c26b1 : (t181 != 0) = false := bne_eq_false_iff_eq.mpr c26
              clear c26
              replace H := Option.bind_eq_some_iff.mp H
              obtain ⟨t182, A270, H⟩ := H
              replace H : (hibernaclelaw09_RollFixed.j0 k a0 t174 (!t182) a1_0 a1_1 a1_2 0) = some r := H
              have A27 := Aside0.mk A270
              clear A270
              have H' := Aside0.mk H
              clear H
              obtain ⟨Ao28, co28, eo28⟩ := Kd.R_slice HO176.out
              subst eo28
              obtain ⟨Ao29, co29, eo29⟩ := Kd.R_slice HO180.out
              subst eo29
              go_wp2_with (first | (go_at_call 12; (with_reducible refine (hibernacleref01_Same.calls k _ _ t174 _ _ t178 t182 _ ?side1 ?side2 ?side3 ?side4 A27.out).mono ?_); (case side1 => repeat (first | exact (Kd.R_reads' HO176.out).2.2 | (with_reducible refine Kd.C_alloc ?_ _) | (with_reducible refine Kd.C_drewN ?_ _) | (with_reducible refine Kd.C_drew ?_))); (case side2 => exact (Kd.R_reads' HO176.out).2.1); (case side3 => repeat (first | exact (Kd.R_reads' HO180.out).2.2 | (with_reducible refine Kd.C_alloc ?_ _) | (with_reducible refine Kd.C_drewN ?_ _) | (with_reducible refine Kd.C_drew ?_))); (case side4 => exact (Kd.R_reads' HO180.out).2.1); rintro e w' ⟨rfl, ⟨nd, rfl⟩⟩))
              go_meet
              case rel => exact ⟨_, (!t182), (by first | rfl | (simp; done) | (simp [*]; done)), H', ⟨by first | omega | exact Nat.le_refl _⟩, ⟨by (with_reducible repeat (first | apply Kd.R_alloc | apply Kd.R_drewN | apply Kd.R_drew)); exact Kd.R_mono HO176.out (fun _ hk => trivial)⟩, ⟨by (with_reducible repeat (first | refine blk_drewN ?_ _ | refine blk_drew ?_ | refine blk_alloc ?_ _)); exact BK166.out⟩, ⟨by (with_reducible repeat (first | refine blk_drewN ?_ _ | refine blk_drew ?_ | refine blk_alloc ?_ _)); exact BK173.out⟩, ⟨by repeat (first | (with_reducible first | exact HB.out | apply below_alloc | apply pw_below_drewN | apply below_drew1 | refine below_set ?_ GE166.out | refine below_set ?_ GE173.out) | exact HB.out)⟩⟩
            · rw [if_neg c26] at H
              have c26b0 : (t181 == 0) = false := beq_eq_false_iff_ne.mpr c26
              have c26b1 : (t181 != 0) = true := bne_iff_ne.mpr c26
              have H' := Aside0.mk H
              clear H
              go_wp2
              go_meet
              case rel => exact ⟨_, (true), (by first | rfl | (simp; done) | (simp [*]; done)), H', ⟨by first | omega | exact Nat.le_refl _⟩, ⟨by (with_reducible repeat (first | apply Kd.R_alloc | apply Kd.R_drewN | apply Kd.R_drew)); exact Kd.R_mono HO176.out (fun _ hk => trivial)⟩, ⟨by (with_reducible repeat (first | refine blk_drewN ?_ _ | refine blk_drew ?_ | refine blk_alloc ?_ _)); exact BK166.out⟩, ⟨by (with_reducible repeat (first | refine blk_drewN ?_ _ | refine blk_drew ?_ | refine blk_alloc ?_ _)); exact BK173.out⟩, ⟨by repeat (first | (with_reducible first | exact HB.out | apply below_alloc | apply pw_below_drewN | apply below_drew1 | refine below_set ?_ GE166.out | refine below_set ?_ GE173.out) | exact HB.out)⟩⟩
          · rw [if_neg c25] at H
            have c25b0 : (t177 == 0) = false := beq_eq_false_iff_ne.mpr c25
            have c25b1 : (t177 != 0) = true := bne_iff_ne.mpr c25
            (first | rw [c25b0] | (simp only [i64_w, i32_w]; rw [c25b0]) | skip)
            have H' := Aside0.mk H
            clear H
            go_wp2
            go_meet
            case rel => exact ⟨_, (true), (by first | rfl | (simp; done) | (simp [*]; done)), H', ⟨by first | omega | exact Nat.le_refl _⟩, ⟨by (with_reducible repeat (first | apply Kd.R_alloc | apply Kd.R_drewN | apply Kd.R_drew)); exact Kd.R_mono HO176.out (fun _ hk => trivial)⟩, ⟨by (with_reducible repeat (first | refine blk_drewN ?_ _ | refine blk_drew ?_ | refine blk_alloc ?_ _)); exact BK166.out⟩, ⟨by (with_reducible repeat (first | refine blk_drewN ?_ _ | refine blk_drew ?_ | refine blk_alloc ?_ _)); exact BK173.out⟩, ⟨by repeat (first | (with_reducible first | exact HB.out | apply below_alloc | apply pw_below_drewN | apply below_drew1 | refine below_set ?_ GE166.out | refine below_set ?_ GE173.out) | exact HB.out)⟩⟩
        case rest =>
          clear HC12
          try clear c1
          try clear c2
          try clear p2
          try clear c4
          try clear c5
          try clear c5b0
          try clear c5b1
          try clear c6
          try clear c9
          try clear c9b0
          try clear c9b1
          try clear c10
          try clear c13
          try clear c19
          try clear c25
          try clear c25b0
          try clear c25b1
          try clear c26
          try clear c26b0
          try clear c26b1
          try clear hcz15_0
          try clear hcz15_1
          try clear hcz15_2
          try clear hcz15_3
          try clear hcz17_0
          try clear hcz17_1
          try clear hcz17_2
          try clear hcz17_3
          try clear hcz20_0
          try clear hcz20_1
          try clear hcz20_2
          try clear hcz20_3
          try clear hcz21_0
          try clear hcz21_1
          try clear hcz21_2
          try clear hcz21_3
          try clear hcz23_0
          try clear hcz23_1
          try clear hcz23_2
          try clear hcz23_3
          try clear hfz15_0
          try clear hfz15_1
          try clear hfz15_2
          try clear hfz15_3
          try clear hfz17_0
          try clear hfz17_1
          try clear hfz17_2
          try clear hfz17_3
          try clear hfz20_0
          try clear hfz20_1
          try clear hfz20_2
          try clear hfz20_3
          try clear hfz21_0
          try clear hfz21_1
          try clear hfz21_2
          try clear hfz21_3
          try clear hfz23_0
          try clear hfz23_1
          try clear hfz23_2
          try clear hfz23_3
          obtain ⟨kq, x63_11, rfl, HA, HJ11, HO_8, BK166, BK173, HB⟩ := hcut
          cases kq with
          | zero => exact absurd HA.out (by simp [hibernaclelaw09_RollFixed.j0])
          | succ kj11 =>
            have H := HA.out
            clear HA
            simp only [hibernaclelaw09_RollFixed.j0] at H
            by_cases c30 : x63_11 = true
            · subst c30
              have H1 : (some false) = some r := by rw [if_pos rfl] at H; exact H
              clear H
              have H := H1
              clear H1
              obtain rfl := Option.some.inj H
              go_wp2
              go_ret
              exact ⟨by first | rfl | (simp [errW_none, errW_some] <;> rfl) | (simp [*, errW_none, errW_some] <;> rfl), by repeat (first | (with_reducible first | exact HB.out | apply below_alloc | apply pw_below_drewN | apply below_drew1 | refine below_set ?_ GE166.out | refine below_set ?_ GE173.out) | exact HB.out)⟩
            · replace c30 := Bool.eq_false_iff.mpr c30
              subst c30
              have H1 : (hibernaclelaw09_RollFixed.l0 kj11 a0 t174 t174 (t174.length : Int) 0 a1_0 a1_1 a1_2 0) = some r := by rw [if_neg (show ¬ (false = true) by decide)] at H; exact H
              clear H
              have H := H1
              clear H1
              have H' := Aside0.mk H
              clear H
              obtain ⟨Ao31, co31, eo31⟩ := Kd.R_slice HO_8.out
              subst eo31
              go_wp2
              go_loopg [66] kj11 (fun kq v66 w' => ∃ (x66_2 : Int), v66 = .int .i64 x66_2 ∧ Aside0 (hibernaclelaw09_RollFixed.l0 kq a0 t174 t174 (t174.length : Int) x66_2 a1_0 a1_1 a1_2 0 = some r) ∧ Aside0 (kq ≤ kj11) ∧ Aside0 (Kd.R Kd.string 9 w' w.heap.size (fun _ => True) (.slice Ao31 t174.length co31) t174) ∧ Aside0 (Kd.R Kd.string 9 w' w.heap.size (fun _ => True) (.slice Ao31 t174.length co31) t174) ∧ Aside0 (w'.heap[gb166]? = some (.cells #[.int .i64 a1_0, .int .i64 a1_1, .int .i64 a1_2, .int .u32 0] 24 (0, 0))) ∧ Aside0 (w'.heap[gb173]? = some (.cells #[.int .i64 a1_0, .int .i64 a1_1, .int .i64 a1_1, .int .u32 a1_3] 24 (0, 0))) ∧ Aside0 (Below w.heap.size w w'))
              case atStart => exact ⟨(0), (by first | rfl | (simp; done) | (simp [*]; done)), H', ⟨Nat.le_refl _⟩, ⟨by (with_reducible repeat (first | apply Kd.R_alloc | apply Kd.R_drewN | apply Kd.R_drew)); exact HO_8.out⟩, ⟨by (with_reducible repeat (first | apply Kd.R_alloc | apply Kd.R_drewN | apply Kd.R_drew)); exact HO_8.out⟩, ⟨by (with_reducible repeat (first | refine blk_drewN ?_ _ | refine blk_drew ?_ | refine blk_alloc ?_ _)); exact BK166.out⟩, ⟨by (with_reducible repeat (first | refine blk_drewN ?_ _ | refine blk_drew ?_ | refine blk_alloc ?_ _)); exact BK173.out⟩, ⟨by repeat (first | (with_reducible first | exact HB.out | apply below_alloc | apply pw_below_drewN | apply below_drew1 | refine below_set ?_ GE166.out | refine below_set ?_ GE173.out) | exact HB.out)⟩⟩
              case round =>
                clear H'
                try clear c1
                try clear c2
                try clear p2
                try clear c3
                try clear c4
                try clear c5
                try clear c5b0
                try clear c5b1
                try clear c6
                try clear c9
                try clear c9b0
                try clear c9b1
                try clear c10
                try clear c13
                try clear c19
                try clear c25
                try clear c25b0
                try clear c25b1
                try clear c26
                try clear c26b0
                try clear c26b1
                try clear c30
                try clear hcz15_0
                try clear hcz15_1
                try clear hcz15_2
                try clear hcz15_3
                try clear hcz17_0
                try clear hcz17_1
                try clear hcz17_2
                try clear hcz17_3
                try clear hcz20_0
                try clear hcz20_1
                try clear hcz20_2
                try clear hcz20_3
                try clear hcz21_0
                try clear hcz21_1
                try clear hcz21_2
                try clear hcz21_3
                try clear hcz23_0
                try clear hcz23_1
                try clear hcz23_2
                try clear hcz23_3
                try clear hfz15_0
                try clear hfz15_1
                try clear hfz15_2
                try clear hfz15_3
                try clear hfz17_0
                try clear hfz17_1
                try clear hfz17_2
                try clear hfz17_3
                try clear hfz20_0
                try clear hfz20_1
                try clear hfz20_2
                try clear hfz20_3
                try clear hfz21_0
                try clear hfz21_1
                try clear hfz21_2
                try clear hfz21_3
                try clear hfz23_0
                try clear hfz23_1
                try clear hfz23_2
                try clear hfz23_3
                try clear p2
                obtain ⟨x66_2, rfl, HA, HK2, HO_8, HO_64, BK166, BK173, HB⟩ := hrel
                cases gk with
                | zero => exact absurd HA.out (by simp [hibernaclelaw09_RollFixed.l0])
                | succ k2 =>
                  have H := HA.out
                  clear HA
                  simp only [hibernaclelaw09_RollFixed.l0] at H
                  by_cases c32 : x66_2 < (t174.length : Int)
                  · rw [if_pos c32] at H
                    have c32b0 : decide (x66_2 < (t174.length : Int)) = true := decide_eq_true c32
                    clear c32
                    by_cases c33 : 0 ≤ x66_2
                    · rw [if_pos c33] at H
                      have c33b0 : decide (0 ≤ x66_2) = true := decide_eq_true c33
                      clear c33
                      by_cases c34 : x66_2 < (t174.length : Int)
                      · rw [if_pos c34] at H
                        have c34b0 : decide (x66_2 < (t174.length : Int)) = true := decide_eq_true c34
                        clear c34
                        by_cases c35 : x66_2 < (wrap64 ((t174.length : Int) - 1))
                        · rw [if_pos c35] at H
                          have c35b0 : decide (x66_2 < (wrap64 ((t174.length : Int) - 1))) = true := decide_eq_true c35
                          clear c35
                          by_cases c36 : ((rdOf ByteArray.empty t174 x66_2).size : Int) = a1_1
                          · rw [if_pos c36] at H
                            have c36b0 : (((rdOf ByteArray.empty t174 x66_2).size : Int) == a1_1) = true := beq_iff_eq.mpr c36
                            have c36b1 : (((rdOf ByteArray.empty t174 x66_2).size : Int) != a1_1) = false := bne_eq_false_iff_eq.mpr c36
                            clear c36
                            by_cases c37 : ((rdOf ByteArray.empty t174 x66_2).size : Int) > a1_1
                            · rw [if_pos c37] at H
                              have c37b0 : decide (a1_1 < ((rdOf ByteArray.empty t174 x66_2).size : Int)) = true := decide_eq_true c37
                              clear c37
                              obtain rfl := Option.some.inj H
                              have p183 : 0 ≤ (x66_2 : Int) := of_decide_eq_true (by first | (with_reducible assumption) | assumption)
                              have q183 : x66_2 < (t174.length : Int) := of_decide_eq_true (by first | (with_reducible assumption) | assumption)
                              obtain ⟨ad183, e183, hx183_0⟩ := Kd.at_string (Kd.R_reads' HO_64.out).2.2 x66_2 p183 q183
                              cases e183
                              replace p183 := eq_true p183
                              replace q183 := eq_true q183
                              have hnb38 := NB166_173.out
                              have hnc38 := NB173_166.out
                              have hcz39_0 : wr.cell? ⟨gb166, 0, none⟩ = some (.int .i64 a1_0) := (blk_cell BK166.out 0).trans rfl
                              have hcz39_1 : wr.cell? ⟨gb166, 1, none⟩ = some (.int .i64 a1_1) := (blk_cell BK166.out 1).trans rfl
                              have hcz39_2 : wr.cell? ⟨gb166, 2, none⟩ = some (.int .i64 a1_2) := (blk_cell BK166.out 2).trans rfl
                              have hcz39_3 : wr.cell? ⟨gb166, 3, none⟩ = some (.int .u32 0) := (blk_cell BK166.out 3).trans rfl
                              have hfz39_0 := blk_frozen BK166.out 0
                              have hfz39_1 := blk_frozen BK166.out 1
                              have hfz39_2 := blk_frozen BK166.out 2
                              have hfz39_3 := blk_frozen BK166.out 3
                              go_wp2
                              go_ret
                              exact ⟨by first | rfl | (simp [errW_none, errW_some] <;> rfl) | (simp [*, errW_none, errW_some] <;> rfl), by repeat (first | (with_reducible first | exact HB.out | apply below_alloc | apply pw_below_drewN | apply below_drew1 | refine below_set ?_ GE166.out | refine below_set ?_ GE173.out) | exact HB.out)⟩
                            · rw [if_neg c37] at H
                              have c37b0 : decide (a1_1 < ((rdOf ByteArray.empty t174 x66_2).size : Int)) = false := decide_eq_false c37
                              clear c37
                              have H' := Aside0.mk H
                              clear H
                              have p183 : 0 ≤ (x66_2 : Int) := of_decide_eq_true (by first | (with_reducible assumption) | assumption)
                              have q183 : x66_2 < (t174.length : Int) := of_decide_eq_true (by first | (with_reducible assumption) | assumption)
                              obtain ⟨ad183, e183, hx183_0⟩ := Kd.at_string (Kd.R_reads' HO_64.out).2.2 x66_2 p183 q183
                              cases e183
                              replace p183 := eq_true p183
                              replace q183 := eq_true q183
                              have hnb40 := NB166_173.out
                              have hnc40 := NB173_166.out
                              have hcz41_0 : wr.cell? ⟨gb166, 0, none⟩ = some (.int .i64 a1_0) := (blk_cell BK166.out 0).trans rfl
                              have hcz41_1 : wr.cell? ⟨gb166, 1, none⟩ = some (.int .i64 a1_1) := (blk_cell BK166.out 1).trans rfl
                              have hcz41_2 : wr.cell? ⟨gb166, 2, none⟩ = some (.int .i64 a1_2) := (blk_cell BK166.out 2).trans rfl
                              have hcz41_3 : wr.cell? ⟨gb166, 3, none⟩ = some (.int .u32 0) := (blk_cell BK166.out 3).trans rfl
                              have hfz41_0 := blk_frozen BK166.out 0
                              have hfz41_1 := blk_frozen BK166.out 1
                              have hfz41_2 := blk_frozen BK166.out 2
                              have hfz41_3 := blk_frozen BK166.out 3
                              go_wp2
                              go_roundg k2
                              case measure => have := HJ11.out; have := HK2.out; omega
                              case rel => exact ⟨(wrap64 (x66_2 + 1)), (by first | rfl | (simp; done) | (simp [*]; done)), H', ⟨by have := HJ11.out; have := HK2.out; omega⟩, ⟨by (with_reducible repeat (first | apply Kd.R_alloc | apply Kd.R_drewN | apply Kd.R_drew)); exact HO_8.out⟩, ⟨by (with_reducible repeat (first | apply Kd.R_alloc | apply Kd.R_drewN | apply Kd.R_drew)); exact HO_64.out⟩, ⟨by (with_reducible repeat (first | refine blk_drewN ?_ _ | refine blk_drew ?_ | refine blk_alloc ?_ _)); exact BK166.out⟩, ⟨by (with_reducible repeat (first | refine blk_drewN ?_ _ | refine blk_drew ?_ | refine blk_alloc ?_ _)); exact BK173.out⟩, ⟨by repeat (first | (with_reducible first | exact HB.out | apply below_alloc | apply pw_below_drewN | apply below_drew1 | refine below_set ?_ GE166.out | refine below_set ?_ GE173.out) | exact HB.out)⟩⟩
                          · rw [if_neg c36] at H
                            have c36b0 : (((rdOf ByteArray.empty t174 x66_2).size : Int) == a1_1) = false := beq_eq_false_iff_ne.mpr c36
                            have c36b1 : (((rdOf ByteArray.empty t174 x66_2).size : Int) != a1_1) = true := bne_iff_ne.mpr c36
                            obtain rfl := Option.some.inj H
                            have p183 : 0 ≤ (x66_2 : Int) := of_decide_eq_true (by first | (with_reducible assumption) | assumption)
                            have q183 : x66_2 < (t174.length : Int) := of_decide_eq_true (by first | (with_reducible assumption) | assumption)
                            obtain ⟨ad183, e183, hx183_0⟩ := Kd.at_string (Kd.R_reads' HO_64.out).2.2 x66_2 p183 q183
                            cases e183
                            replace p183 := eq_true p183
                            replace q183 := eq_true q183
                            have hnb42 := NB166_173.out
                            have hnc42 := NB173_166.out
                            have hcz43_0 : wr.cell? ⟨gb166, 0, none⟩ = some (.int .i64 a1_0) := (blk_cell BK166.out 0).trans rfl
                            have hcz43_1 : wr.cell? ⟨gb166, 1, none⟩ = some (.int .i64 a1_1) := (blk_cell BK166.out 1).trans rfl
                            have hcz43_2 : wr.cell? ⟨gb166, 2, none⟩ = some (.int .i64 a1_2) := (blk_cell BK166.out 2).trans rfl
                            have hcz43_3 : wr.cell? ⟨gb166, 3, none⟩ = some (.int .u32 0) := (blk_cell BK166.out 3).trans rfl
                            have hfz43_0 := blk_frozen BK166.out 0
                            have hfz43_1 := blk_frozen BK166.out 1
                            have hfz43_2 := blk_frozen BK166.out 2
                            have hfz43_3 := blk_frozen BK166.out 3
                            go_wp2
                            go_ret
                            exact ⟨by first | rfl | (simp [errW_none, errW_some] <;> rfl) | (simp [*, errW_none, errW_some] <;> rfl), by repeat (first | (with_reducible first | exact HB.out | apply below_alloc | apply pw_below_drewN | apply below_drew1 | refine below_set ?_ GE166.out | refine below_set ?_ GE173.out) | exact HB.out)⟩
                        · rw [if_neg c35] at H
                          have c35b0 : decide (x66_2 < (wrap64 ((t174.length : Int) - 1))) = false := decide_eq_false c35
                          clear c35
                          by_cases c44 : ((rdOf ByteArray.empty t174 x66_2).size : Int) > a1_1
                          · rw [if_pos c44] at H
                            have c44b0 : decide (a1_1 < ((rdOf ByteArray.empty t174 x66_2).size : Int)) = true := decide_eq_true c44
                            clear c44
                            obtain rfl := Option.some.inj H
                            have p183 : 0 ≤ (x66_2 : Int) := of_decide_eq_true (by first | (with_reducible assumption) | assumption)
                            have q183 : x66_2 < (t174.length : Int) := of_decide_eq_true (by first | (with_reducible assumption) | assumption)
                            obtain ⟨ad183, e183, hx183_0⟩ := Kd.at_string (Kd.R_reads' HO_64.out).2.2 x66_2 p183 q183
                            cases e183
                            replace p183 := eq_true p183
                            replace q183 := eq_true q183
                            have hnb45 := NB166_173.out
                            have hnc45 := NB173_166.out
                            have hcz46_0 : wr.cell? ⟨gb166, 0, none⟩ = some (.int .i64 a1_0) := (blk_cell BK166.out 0).trans rfl
                            have hcz46_1 : wr.cell? ⟨gb166, 1, none⟩ = some (.int .i64 a1_1) := (blk_cell BK166.out 1).trans rfl
                            have hcz46_2 : wr.cell? ⟨gb166, 2, none⟩ = some (.int .i64 a1_2) := (blk_cell BK166.out 2).trans rfl
                            have hcz46_3 : wr.cell? ⟨gb166, 3, none⟩ = some (.int .u32 0) := (blk_cell BK166.out 3).trans rfl
                            have hfz46_0 := blk_frozen BK166.out 0
                            have hfz46_1 := blk_frozen BK166.out 1
                            have hfz46_2 := blk_frozen BK166.out 2
                            have hfz46_3 := blk_frozen BK166.out 3
                            go_wp2
                            go_ret
                            exact ⟨by first | rfl | (simp [errW_none, errW_some] <;> rfl) | (simp [*, errW_none, errW_some] <;> rfl), by repeat (first | (with_reducible first | exact HB.out | apply below_alloc | apply pw_below_drewN | apply below_drew1 | refine below_set ?_ GE166.out | refine below_set ?_ GE173.out) | exact HB.out)⟩
                          · rw [if_neg c44] at H
                            have c44b0 : decide (a1_1 < ((rdOf ByteArray.empty t174 x66_2).size : Int)) = false := decide_eq_false c44
                            clear c44
                            have H' := Aside0.mk H
                            clear H
                            have p183 : 0 ≤ (x66_2 : Int) := of_decide_eq_true (by first | (with_reducible assumption) | assumption)
                            have q183 : x66_2 < (t174.length : Int) := of_decide_eq_true (by first | (with_reducible assumption) | assumption)
                            obtain ⟨ad183, e183, hx183_0⟩ := Kd.at_string (Kd.R_reads' HO_64.out).2.2 x66_2 p183 q183
                            cases e183
                            replace p183 := eq_true p183
                            replace q183 := eq_true q183
                            have hnb47 := NB166_173.out
                            have hnc47 := NB173_166.out
                            have hcz48_0 : wr.cell? ⟨gb166, 0, none⟩ = some (.int .i64 a1_0) := (blk_cell BK166.out 0).trans rfl
                            have hcz48_1 : wr.cell? ⟨gb166, 1, none⟩ = some (.int .i64 a1_1) := (blk_cell BK166.out 1).trans rfl
                            have hcz48_2 : wr.cell? ⟨gb166, 2, none⟩ = some (.int .i64 a1_2) := (blk_cell BK166.out 2).trans rfl
                            have hcz48_3 : wr.cell? ⟨gb166, 3, none⟩ = some (.int .u32 0) := (blk_cell BK166.out 3).trans rfl
                            have hfz48_0 := blk_frozen BK166.out 0
                            have hfz48_1 := blk_frozen BK166.out 1
                            have hfz48_2 := blk_frozen BK166.out 2
                            have hfz48_3 := blk_frozen BK166.out 3
                            go_wp2
                            go_roundg k2
                            case measure => have := HJ11.out; have := HK2.out; omega
                            case rel => exact ⟨(wrap64 (x66_2 + 1)), (by first | rfl | (simp; done) | (simp [*]; done)), H', ⟨by have := HJ11.out; have := HK2.out; omega⟩, ⟨by (with_reducible repeat (first | apply Kd.R_alloc | apply Kd.R_drewN | apply Kd.R_drew)); exact HO_8.out⟩, ⟨by (with_reducible repeat (first | apply Kd.R_alloc | apply Kd.R_drewN | apply Kd.R_drew)); exact HO_64.out⟩, ⟨by (with_reducible repeat (first | refine blk_drewN ?_ _ | refine blk_drew ?_ | refine blk_alloc ?_ _)); exact BK166.out⟩, ⟨by (with_reducible repeat (first | refine blk_drewN ?_ _ | refine blk_drew ?_ | refine blk_alloc ?_ _)); exact BK173.out⟩, ⟨by repeat (first | (with_reducible first | exact HB.out | apply below_alloc | apply pw_below_drewN | apply below_drew1 | refine below_set ?_ GE166.out | refine below_set ?_ GE173.out) | exact HB.out)⟩⟩
                      · rw [if_neg c34] at H
                        exact absurd H (by simp)
                    · rw [if_neg c33] at H
                      exact absurd H (by simp)
                  · rw [if_neg c32] at H
                    have c32b0 : decide (x66_2 < (t174.length : Int)) = false := decide_eq_false c32
                    clear c32
                    by_cases c49 : a1_1 = 0
                    · rw [if_pos c49] at H
                      exact absurd H (by simp)
                    · rw [if_neg c49] at H
                      have c49b0 : (a1_1 == 0) = false := beq_eq_false_iff_ne.mpr c49
                      have c49b1 : (a1_1 != 0) = true := bne_iff_ne.mpr c49
                      obtain rfl := Option.some.inj H
                      have hnb50 := NB166_173.out
                      have hnc50 := NB173_166.out
                      have hcz51_0 : wr.cell? ⟨gb166, 0, none⟩ = some (.int .i64 a1_0) := (blk_cell BK166.out 0).trans rfl
                      have hcz51_1 : wr.cell? ⟨gb166, 1, none⟩ = some (.int .i64 a1_1) := (blk_cell BK166.out 1).trans rfl
                      have hcz51_2 : wr.cell? ⟨gb166, 2, none⟩ = some (.int .i64 a1_2) := (blk_cell BK166.out 2).trans rfl
                      have hcz51_3 : wr.cell? ⟨gb166, 3, none⟩ = some (.int .u32 0) := (blk_cell BK166.out 3).trans rfl
                      have hfz51_0 := blk_frozen BK166.out 0
                      have hfz51_1 := blk_frozen BK166.out 1
                      have hfz51_2 := blk_frozen BK166.out 2
                      have hfz51_3 := blk_frozen BK166.out 3
                      go_wp2
                      go_ret
                      exact ⟨by first | rfl | (simp [errW_none, errW_some] <;> rfl) | (simp [*, errW_none, errW_some] <;> rfl), by repeat (first | (with_reducible first | exact HB.out | apply below_alloc | apply pw_below_drewN | apply below_drew1 | refine below_set ?_ GE166.out | refine below_set ?_ GE173.out) | exact HB.out)⟩
      · rw [if_neg c9] at H
        have c9b0 : (t168 == 0) = false := beq_eq_false_iff_ne.mpr c9
        have c9b1 : (t168 != 0) = true := bne_iff_ne.mpr c9
        replace H := Option.bind_eq_some_iff.mp H
        obtain ⟨⟨t169, t172⟩, A520, H⟩ := H
        replace H : (if (t169.length : Int) = 0 then (some (t172 == 2)) else (some false)) = some r := H
        have A52 := Aside0.mk A520
        clear A520
        by_cases c53 : (t169.length : Int) = 0
        · rw [if_pos c53] at H
          have c53b0 : ((t169.length : Int) == 0) = true := beq_iff_eq.mpr c53
          have c53b1 : ((t169.length : Int) != 0) = false := bne_eq_false_iff_eq.mpr c53
          clear c53
          obtain rfl := Option.some.inj H
          go_enter Try.func6, Try.ntmps6
          go_wp2_with (first | ((with_reducible refine gate_dst (N := 3) rfl ?_); (try (refine gate_guard (by rfl) ?_; dsimp only)); refine box_event ?hg (N := 3) ?hd (cs := #[.int .i64 a1_0, .int .i64 a1_1, .int .i64 a1_2, .int .u32 a1_3]) (t := 24) ?hr ?_; (case hd => rfl); (case hg => rfl); (case hr => first | (go_simp; done) | (go_simp; rfl)); intro gb166 hg w54 hbox hb; have n0_ := Aside0.mk (below_step (by repeat (first | (with_reducible first | exact HB.out | apply below_alloc | apply pw_below_drewN | apply below_drew1) | exact HB.out)) hb); have n1_ := Aside0.mk (hbox); have n2_ := Aside0.mk ((by rw [hg]; exact (below_size (by repeat (first | (with_reducible first | exact HB.out | apply below_alloc | apply pw_below_drewN | apply below_drew1) | exact HB.out))) : w.heap.size ≤ gb166)); have n3_ := Aside0.mk ((by rw [hg]; exact (below_size (by repeat (first | (with_reducible first | exact HB.out | apply below_alloc | apply pw_below_drewN | apply below_drew1) | exact HB.out))) : w.heap.size ≤ gb166)); clear HB; have HB := n0_; have BK166 := n1_; have GW166 := n2_; have GE166 := n3_; clear n0_ n1_ n2_ n3_; clear hb hbox hg) | ((with_reducible refine gate_callee (f := 9) rfl ?_); refine goesL_ (some 14) rfl rfl Try.func9 (by kernel_rfl) rfl #[] rfl (by (try simp only [List.map_toArray, List.map_cons, List.map_nil]); first | done | rfl | (simp only [List.length_drop, List.length_take]; rfl)) ?_; (with_reducible refine (hibernaclelaw09_rollAlive.calls k  true _ A3.out).mono ?_); rintro e w55 ⟨rfl, hb⟩; refine ⟨_, rfl, ?_⟩; have n0_ := Aside0.mk (blk_below (g := gb166) (o := .cells #[.int .i64 a1_0, .int .i64 a1_1, .int .i64 a1_2, .int .u32 a1_3] 24 (0, 0)) (by (with_reducible repeat (first | refine blk_drewN ?_ _ | refine blk_drew ?_ | refine blk_alloc ?_ _)); exact BK166.out) hb); have n1_ := Aside0.mk (below_step (by repeat (first | (with_reducible first | exact HB.out | apply below_alloc | apply pw_below_drewN | apply below_drew1 | refine below_set ?_ GE166.out) | exact HB.out)) hb); clear BK166; clear HB; have BK166 := n0_; have HB := n1_; clear n0_ n1_; (try clear hb); (try clear hb2); (try clear hk); (try clear hi); have hcz56_0 : w55.cell? ⟨gb166, 0, none⟩ = some (.int .i64 a1_0) := (blk_cell BK166.out 0).trans rfl; have hcz56_1 : w55.cell? ⟨gb166, 1, none⟩ = some (.int .i64 a1_1) := (blk_cell BK166.out 1).trans rfl; have hcz56_2 : w55.cell? ⟨gb166, 2, none⟩ = some (.int .i64 a1_2) := (blk_cell BK166.out 2).trans rfl; have hcz56_3 : w55.cell? ⟨gb166, 3, none⟩ = some (.int .u32 a1_3) := (blk_cell BK166.out 3).trans rfl; have hfz56_0 := blk_frozen BK166.out 0; have hfz56_1 := blk_frozen BK166.out 1; have hfz56_2 := blk_frozen BK166.out 2; have hfz56_3 := blk_frozen BK166.out 3) | ((with_reducible refine gate_callee (f := 13) rfl ?_); refine goesL_ (some 20) rfl rfl Try.func13 (by kernel_rfl) rfl #[.agg #[.int .i64 a1_0, .int .i64 a1_1, .int .i64 a1_2, .int .u32 a1_3]] rfl (by (try simp only [List.map_toArray, List.map_cons, List.map_nil]); first | done | rfl | (simp only [List.length_drop, List.length_take]; rfl)) ?_; (with_reducible refine (roll_Check.calls a1_0 a1_1 a1_2 a1_3 t168 _ A8.out).mono ?_); rintro e w57 ⟨rfl, hb⟩; refine ⟨_, rfl, ?_⟩; have n0_ := Aside0.mk (blk_below (g := gb166) (o := .cells #[.int .i64 a1_0, .int .i64 a1_1, .int .i64 a1_2, .int .u32 a1_3] 24 (0, 0)) (by (with_reducible repeat (first | refine blk_drewN ?_ _ | refine blk_drew ?_ | refine blk_alloc ?_ _)); exact BK166.out) hb); have n1_ := Aside0.mk (below_step (by repeat (first | (with_reducible first | exact HB.out | apply below_alloc | apply pw_below_drewN | apply below_drew1 | refine below_set ?_ GE166.out) | exact HB.out)) hb); clear BK166; clear HB; have BK166 := n0_; have HB := n1_; clear n0_ n1_; (try clear hb); (try clear hb2); (try clear hk); (try clear hi); have hcz58_0 : w57.cell? ⟨gb166, 0, none⟩ = some (.int .i64 a1_0) := (blk_cell BK166.out 0).trans rfl; have hcz58_1 : w57.cell? ⟨gb166, 1, none⟩ = some (.int .i64 a1_1) := (blk_cell BK166.out 1).trans rfl; have hcz58_2 : w57.cell? ⟨gb166, 2, none⟩ = some (.int .i64 a1_2) := (blk_cell BK166.out 2).trans rfl; have hcz58_3 : w57.cell? ⟨gb166, 3, none⟩ = some (.int .u32 a1_3) := (blk_cell BK166.out 3).trans rfl; have hfz58_0 := blk_frozen BK166.out 0; have hfz58_1 := blk_frozen BK166.out 1; have hfz58_2 := blk_frozen BK166.out 2; have hfz58_3 := blk_frozen BK166.out 3) | ((with_reducible refine gate_callee (f := 10) rfl ?_); refine goesL_ (some 25) rfl rfl Try.func10 (by kernel_rfl) rfl #[.string a0, .agg #[.int .i64 a1_0, .int .i64 a1_1, .int .i64 a1_2, .int .u32 a1_3]] rfl (by (try simp only [List.map_toArray, List.map_cons, List.map_nil]); first | done | rfl | (simp only [List.length_drop, List.length_take]; rfl)) ?_; (with_reducible refine (roll_Cut.calls k a0 a1_0 a1_1 a1_2 a1_3 t169 t172 _ A52.out).mono ?_); rintro e w59 ⟨v170, rfl, ho0, hb⟩; refine ⟨_, rfl, ?_⟩; have n0_ := Aside0.mk (Kd.R_lower ho0 (below_size (by repeat (first | (with_reducible first | exact HB.out | apply below_alloc | apply pw_below_drewN | apply below_drew1 | refine below_set ?_ GE166.out) | exact HB.out)))); have n1_ := Aside0.mk (blk_below (g := gb166) (o := .cells #[.int .i64 a1_0, .int .i64 a1_1, .int .i64 a1_2, .int .u32 a1_3] 24 (0, 0)) (by (with_reducible repeat (first | refine blk_drewN ?_ _ | refine blk_drew ?_ | refine blk_alloc ?_ _)); exact BK166.out) hb); have n2_ := Aside0.mk (below_step (by repeat (first | (with_reducible first | exact HB.out | apply below_alloc | apply pw_below_drewN | apply below_drew1 | refine below_set ?_ GE166.out) | exact HB.out)) hb); clear BK166; clear HB; have HO171 := n0_; have BK166 := n1_; have HB := n2_; clear n0_ n1_ n2_; (try clear hb); (try clear hb2); (try clear hk); (try clear hi); (try clear ho0); obtain ⟨Ao60, co60, eo60⟩ := Kd.R_slice HO171.out; subst eo60))
          go_ret
          exact ⟨by first | rfl | (simp [errW_none, errW_some] <;> rfl) | (simp [*, errW_none, errW_some] <;> rfl), by repeat (first | (with_reducible first | exact HB.out | apply below_alloc | apply pw_below_drewN | apply below_drew1 | refine below_set ?_ GE166.out) | exact HB.out)⟩
        · rw [if_neg c53] at H
          have c53b0 : ((t169.length : Int) == 0) = false := beq_eq_false_iff_ne.mpr c53
          have c53b1 : ((t169.length : Int) != 0) = true := bne_iff_ne.mpr c53
          have c53b2 : ¬ (t169 = []) := fun h_ => c53 (by rw [h_]; rfl)
          obtain rfl := Option.some.inj H
          go_enter Try.func6, Try.ntmps6
          go_wp2_with (first | ((with_reducible refine gate_dst (N := 3) rfl ?_); (try (refine gate_guard (by rfl) ?_; dsimp only)); refine box_event ?hg (N := 3) ?hd (cs := #[.int .i64 a1_0, .int .i64 a1_1, .int .i64 a1_2, .int .u32 a1_3]) (t := 24) ?hr ?_; (case hd => rfl); (case hg => rfl); (case hr => first | (go_simp; done) | (go_simp; rfl)); intro gb166 hg w61 hbox hb; have n0_ := Aside0.mk (below_step (by repeat (first | (with_reducible first | exact HB.out | apply below_alloc | apply pw_below_drewN | apply below_drew1) | exact HB.out)) hb); have n1_ := Aside0.mk (hbox); have n2_ := Aside0.mk ((by rw [hg]; exact (below_size (by repeat (first | (with_reducible first | exact HB.out | apply below_alloc | apply pw_below_drewN | apply below_drew1) | exact HB.out))) : w.heap.size ≤ gb166)); have n3_ := Aside0.mk ((by rw [hg]; exact (below_size (by repeat (first | (with_reducible first | exact HB.out | apply below_alloc | apply pw_below_drewN | apply below_drew1) | exact HB.out))) : w.heap.size ≤ gb166)); clear HB; have HB := n0_; have BK166 := n1_; have GW166 := n2_; have GE166 := n3_; clear n0_ n1_ n2_ n3_; clear hb hbox hg) | ((with_reducible refine gate_callee (f := 9) rfl ?_); refine goesL_ (some 14) rfl rfl Try.func9 (by kernel_rfl) rfl #[] rfl (by (try simp only [List.map_toArray, List.map_cons, List.map_nil]); first | done | rfl | (simp only [List.length_drop, List.length_take]; rfl)) ?_; (with_reducible refine (hibernaclelaw09_rollAlive.calls k  true _ A3.out).mono ?_); rintro e w62 ⟨rfl, hb⟩; refine ⟨_, rfl, ?_⟩; have n0_ := Aside0.mk (blk_below (g := gb166) (o := .cells #[.int .i64 a1_0, .int .i64 a1_1, .int .i64 a1_2, .int .u32 a1_3] 24 (0, 0)) (by (with_reducible repeat (first | refine blk_drewN ?_ _ | refine blk_drew ?_ | refine blk_alloc ?_ _)); exact BK166.out) hb); have n1_ := Aside0.mk (below_step (by repeat (first | (with_reducible first | exact HB.out | apply below_alloc | apply pw_below_drewN | apply below_drew1 | refine below_set ?_ GE166.out) | exact HB.out)) hb); clear BK166; clear HB; have BK166 := n0_; have HB := n1_; clear n0_ n1_; (try clear hb); (try clear hb2); (try clear hk); (try clear hi); have hcz63_0 : w62.cell? ⟨gb166, 0, none⟩ = some (.int .i64 a1_0) := (blk_cell BK166.out 0).trans rfl; have hcz63_1 : w62.cell? ⟨gb166, 1, none⟩ = some (.int .i64 a1_1) := (blk_cell BK166.out 1).trans rfl; have hcz63_2 : w62.cell? ⟨gb166, 2, none⟩ = some (.int .i64 a1_2) := (blk_cell BK166.out 2).trans rfl; have hcz63_3 : w62.cell? ⟨gb166, 3, none⟩ = some (.int .u32 a1_3) := (blk_cell BK166.out 3).trans rfl; have hfz63_0 := blk_frozen BK166.out 0; have hfz63_1 := blk_frozen BK166.out 1; have hfz63_2 := blk_frozen BK166.out 2; have hfz63_3 := blk_frozen BK166.out 3) | ((with_reducible refine gate_callee (f := 13) rfl ?_); refine goesL_ (some 20) rfl rfl Try.func13 (by kernel_rfl) rfl #[.agg #[.int .i64 a1_0, .int .i64 a1_1, .int .i64 a1_2, .int .u32 a1_3]] rfl (by (try simp only [List.map_toArray, List.map_cons, List.map_nil]); first | done | rfl | (simp only [List.length_drop, List.length_take]; rfl)) ?_; (with_reducible refine (roll_Check.calls a1_0 a1_1 a1_2 a1_3 t168 _ A8.out).mono ?_); rintro e w64 ⟨rfl, hb⟩; refine ⟨_, rfl, ?_⟩; have n0_ := Aside0.mk (blk_below (g := gb166) (o := .cells #[.int .i64 a1_0, .int .i64 a1_1, .int .i64 a1_2, .int .u32 a1_3] 24 (0, 0)) (by (with_reducible repeat (first | refine blk_drewN ?_ _ | refine blk_drew ?_ | refine blk_alloc ?_ _)); exact BK166.out) hb); have n1_ := Aside0.mk (below_step (by repeat (first | (with_reducible first | exact HB.out | apply below_alloc | apply pw_below_drewN | apply below_drew1 | refine below_set ?_ GE166.out) | exact HB.out)) hb); clear BK166; clear HB; have BK166 := n0_; have HB := n1_; clear n0_ n1_; (try clear hb); (try clear hb2); (try clear hk); (try clear hi); have hcz65_0 : w64.cell? ⟨gb166, 0, none⟩ = some (.int .i64 a1_0) := (blk_cell BK166.out 0).trans rfl; have hcz65_1 : w64.cell? ⟨gb166, 1, none⟩ = some (.int .i64 a1_1) := (blk_cell BK166.out 1).trans rfl; have hcz65_2 : w64.cell? ⟨gb166, 2, none⟩ = some (.int .i64 a1_2) := (blk_cell BK166.out 2).trans rfl; have hcz65_3 : w64.cell? ⟨gb166, 3, none⟩ = some (.int .u32 a1_3) := (blk_cell BK166.out 3).trans rfl; have hfz65_0 := blk_frozen BK166.out 0; have hfz65_1 := blk_frozen BK166.out 1; have hfz65_2 := blk_frozen BK166.out 2; have hfz65_3 := blk_frozen BK166.out 3) | ((with_reducible refine gate_callee (f := 10) rfl ?_); refine goesL_ (some 25) rfl rfl Try.func10 (by kernel_rfl) rfl #[.string a0, .agg #[.int .i64 a1_0, .int .i64 a1_1, .int .i64 a1_2, .int .u32 a1_3]] rfl (by (try simp only [List.map_toArray, List.map_cons, List.map_nil]); first | done | rfl | (simp only [List.length_drop, List.length_take]; rfl)) ?_; (with_reducible refine (roll_Cut.calls k a0 a1_0 a1_1 a1_2 a1_3 t169 t172 _ A52.out).mono ?_); rintro e w66 ⟨v170, rfl, ho0, hb⟩; refine ⟨_, rfl, ?_⟩; have n0_ := Aside0.mk (Kd.R_lower ho0 (below_size (by repeat (first | (with_reducible first | exact HB.out | apply below_alloc | apply pw_below_drewN | apply below_drew1 | refine below_set ?_ GE166.out) | exact HB.out)))); have n1_ := Aside0.mk (blk_below (g := gb166) (o := .cells #[.int .i64 a1_0, .int .i64 a1_1, .int .i64 a1_2, .int .u32 a1_3] 24 (0, 0)) (by (with_reducible repeat (first | refine blk_drewN ?_ _ | refine blk_drew ?_ | refine blk_alloc ?_ _)); exact BK166.out) hb); have n2_ := Aside0.mk (below_step (by repeat (first | (with_reducible first | exact HB.out | apply below_alloc | apply pw_below_drewN | apply below_drew1 | refine below_set ?_ GE166.out) | exact HB.out)) hb); clear BK166; clear HB; have HO171 := n0_; have BK166 := n1_; have HB := n2_; clear n0_ n1_ n2_; (try clear hb); (try clear hb2); (try clear hk); (try clear hi); (try clear ho0); obtain ⟨Ao67, co67, eo67⟩ := Kd.R_slice HO171.out; subst eo67))
          go_ret
          exact ⟨by first | rfl | (simp [errW_none, errW_some] <;> rfl) | (simp [*, errW_none, errW_some] <;> rfl), by repeat (first | (with_reducible first | exact HB.out | apply below_alloc | apply pw_below_drewN | apply below_drew1 | refine below_set ?_ GE166.out) | exact HB.out)⟩
  · replace c4 := Bool.eq_false_iff.mpr c4
    subst c4
    have H1 : (some false) = some r := by rw [if_neg (show ¬ (false = true) by decide)] at H; exact H
    clear H
    have H := H1
    clear H1
    obtain rfl := Option.some.inj H
    go_enter Try.func6, Try.ntmps6
    go_wp2_with (first | ((with_reducible refine gate_dst (N := 3) rfl ?_); (try (refine gate_guard (by rfl) ?_; dsimp only)); refine box_event ?hg (N := 3) ?hd (cs := #[.int .i64 a1_0, .int .i64 a1_1, .int .i64 a1_2, .int .u32 a1_3]) (t := 24) ?hr ?_; (case hd => rfl); (case hg => rfl); (case hr => first | (go_simp; done) | (go_simp; rfl)); intro gb166 hg w68 hbox hb; have n0_ := Aside0.mk (below_step (by repeat (first | (with_reducible first | exact HB.out | apply below_alloc | apply pw_below_drewN | apply below_drew1) | exact HB.out)) hb); have n1_ := Aside0.mk (hbox); have n2_ := Aside0.mk ((by rw [hg]; exact (below_size (by repeat (first | (with_reducible first | exact HB.out | apply below_alloc | apply pw_below_drewN | apply below_drew1) | exact HB.out))) : w.heap.size ≤ gb166)); have n3_ := Aside0.mk ((by rw [hg]; exact (below_size (by repeat (first | (with_reducible first | exact HB.out | apply below_alloc | apply pw_below_drewN | apply below_drew1) | exact HB.out))) : w.heap.size ≤ gb166)); clear HB; have HB := n0_; have BK166 := n1_; have GW166 := n2_; have GE166 := n3_; clear n0_ n1_ n2_ n3_; clear hb hbox hg) | ((with_reducible refine gate_callee (f := 9) rfl ?_); refine goesL_ (some 14) rfl rfl Try.func9 (by kernel_rfl) rfl #[] rfl (by (try simp only [List.map_toArray, List.map_cons, List.map_nil]); first | done | rfl | (simp only [List.length_drop, List.length_take]; rfl)) ?_; (with_reducible refine (hibernaclelaw09_rollAlive.calls k  false _ A3.out).mono ?_); rintro e w69 ⟨rfl, hb⟩; refine ⟨_, rfl, ?_⟩; have n0_ := Aside0.mk (blk_below (g := gb166) (o := .cells #[.int .i64 a1_0, .int .i64 a1_1, .int .i64 a1_2, .int .u32 a1_3] 24 (0, 0)) (by (with_reducible repeat (first | refine blk_drewN ?_ _ | refine blk_drew ?_ | refine blk_alloc ?_ _)); exact BK166.out) hb); have n1_ := Aside0.mk (below_step (by repeat (first | (with_reducible first | exact HB.out | apply below_alloc | apply pw_below_drewN | apply below_drew1 | refine below_set ?_ GE166.out) | exact HB.out)) hb); clear BK166; clear HB; have BK166 := n0_; have HB := n1_; clear n0_ n1_; (try clear hb); (try clear hb2); (try clear hk); (try clear hi)))
    go_ret
    exact ⟨by first | rfl | (simp [errW_none, errW_some] <;> rfl) | (simp [*, errW_none, errW_some] <;> rfl), by repeat (first | (with_reducible first | exact HB.out | apply below_alloc | apply pw_below_drewN | apply below_drew1 | refine below_set ?_ GE166.out) | exact HB.out)⟩

end Go.Proofs.Ytameblpmojfdgaa.A
