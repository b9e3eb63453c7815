-- Made by drv.py (ours) by way of the kit's print; Lean checks it.
import Derived.Test.YtjfmnkmgnbbfgaaA0
import Derived.Test.YtjfmnkmgnbbfgaaA30
import Derived.Test.YtjfmnkmgnbbfgaaA36
import Derived.Test.YtjfmnkmgnbbfgaaXcheck
import Derived.Test.YtjfmnkmgnbbfgaaXfixed
import Derived.Test.YtjfmnkmgnbbfgaaXget
import Derived.Test.YtjfmnkmgnbbfgaaXland
namespace Go.Proofs.Ytjfmnkmgnbbfgaa.A
open Go.RowKit Go.Proofs.YtjfmnkmgnbbfgaaW.PrintWords Go.Proofs.YtjfmnkmgnbbfgaaW.PrintLast Go.Proofs.YtjfmnkmgnbbfgaaW.PrintMore
attribute [local go_sem] max2_int min2_int max_two min_two max_three min_three max_four min_four   -- for this text's walks alone
set_option linter.unusedVariables false
set_option linter.unusedSimpArgs false

/-! ### hibernaclelaw15_DriveSure: function 14 -/
mutual
def hibernaclelaw15_DriveSure.j0 : Nat → List Int → Bool → List ByteArray → List (S27) → Int → Option (Bool)
  | 0, _, _, _, _, _ => none
  | k + 1, x1, x25, x625000, x625001, x625002 => if x25 = true then ((hibernaclelaw15_fixed.f).bind fun t627 => (some t627)) else ((drive_Flush.f x625000 x625001 x625002).bind fun bt628 => (if bt628.2.2.2 = 0 then ((drive_Crash.f bt628.1 bt628.2.1 bt628.2.2.1 x1).bind fun bt639 => (if (bt628.2.1.length : Int) = 0 then (if (bt639.1.length : Int) = (x625000.length : Int) then ((drive_Check.f bt639.1 bt639.2.1 bt639.2.2).bind fun t647 => (if t647 = 0 then (if (bt639.2.1.length : Int) = 0 then (hibernaclelaw15_DriveSure.j1 k (decide (bt639.2.2 ≥ 0)) x625000 x625001 x625002 bt639.1 bt639.2.1 bt639.2.2) else (hibernaclelaw15_DriveSure.j1 k true x625000 x625001 x625002 bt639.1 bt639.2.1 bt639.2.2)) else (hibernaclelaw15_DriveSure.j1 k true x625000 x625001 x625002 bt639.1 bt639.2.1 bt639.2.2))) else (hibernaclelaw15_DriveSure.j1 k true x625000 x625001 x625002 bt639.1 bt639.2.1 bt639.2.2)) else (hibernaclelaw15_DriveSure.j1 k true x625000 x625001 x625002 bt639.1 bt639.2.1 bt639.2.2))) else ((hibernaclelaw15_fixed.f).bind fun t637 => (if t637 = true then (if x625002 = 0 then ((hibernacleref15_Same.f k bt628.1 bt628.2.1 bt628.2.2.1 x625000 x625001 x625002).bind fun t638 => (some t638)) else (some false)) else (some false)))))
def hibernaclelaw15_DriveSure.j1 : Nat → Bool → List ByteArray → List (S27) → Int → List ByteArray → List (S27) → Int → Option (Bool)
  | 0, _, _, _, _, _, _, _ => none
  | k + 1, x76, x625000, x625001, x625002, x647000, x647001, x647002 => if x76 = true then (some false) else (hibernaclelaw15_DriveSure.l0 k (x625000.length : Int) 0 x625000 x625001 x625002 x647000 x647001 x647002)
def hibernaclelaw15_DriveSure.l0 : Nat → Int → Int → List ByteArray → List (S27) → Int → List ByteArray → List (S27) → Int → Option (Bool)
  | 0, _, _, _, _, _, _, _, _ => none
  | k + 1, x79, x80, x625000, x625001, x625002, x647000, x647001, x647002 => if x80 < x79 then ((drive_Get.f x625000 x625001 x625002 x80).bind fun bt649 => ((drive_Get.f x647000 x647001 x647002 x80).bind fun bt651 => (if bt649.2 = 0 then (if bt651.2 = 0 then (if bt651.1.toList = bt649.1.toList then (hibernaclelaw15_DriveSure.l0 k x79 (wrap64 (x80 + 1)) x625000 x625001 x625002 x647000 x647001 x647002) else (some false)) else (some false)) else (some false)))) else ((hibernaclelaw15_fixed.f).bind fun t648 => (some t648))
end
def hibernaclelaw15_DriveSure.f (k : Nat) (l0_0 : List ByteArray) (l0_1 : List (S27)) (a0_2 : Int) (l1 : List Int) : Option (Bool) := (hibernaclelaw15_Great.f k l0_0 l0_1 a0_2).bind fun t625 => (if t625 > 0 then (hibernaclelaw15_DriveSure.j0 k l1 true l0_0 l0_1 a0_2) else ((drive_Check.f l0_0 l0_1 a0_2).bind fun t626 => (if t626 = 0 then (hibernaclelaw15_DriveSure.j0 k l1 (decide ((l1.length : Int) > 100)) l0_0 l0_1 a0_2) else (hibernaclelaw15_DriveSure.j0 k l1 true l0_0 l0_1 a0_2))))
theorem hibernaclelaw15_DriveSure.mono_l : ∀ k, (∀ y0 y1 y2 y3 y4, LeO (hibernaclelaw15_DriveSure.j0 k y0 y1 y2 y3 y4) (hibernaclelaw15_DriveSure.j0 (k + 1) y0 y1 y2 y3 y4)) ∧ (∀ y0 y1 y2 y3 y4 y5 y6, LeO (hibernaclelaw15_DriveSure.j1 k y0 y1 y2 y3 y4 y5 y6) (hibernaclelaw15_DriveSure.j1 (k + 1) y0 y1 y2 y3 y4 y5 y6)) ∧ (∀ y0 y1 y2 y3 y4 y5 y6 y7, LeO (hibernaclelaw15_DriveSure.l0 k y0 y1 y2 y3 y4 y5 y6 y7) (hibernaclelaw15_DriveSure.l0 (k + 1) y0 y1 y2 y3 y4 y5 y6 y7))
  | 0 => ⟨fun _ _ _ _ _ r h => by simp [hibernaclelaw15_DriveSure.j0] at h, fun _ _ _ _ _ _ _ r h => by simp [hibernaclelaw15_DriveSure.j1] at h, fun _ _ _ _ _ _ _ _ r h => by simp [hibernaclelaw15_DriveSure.l0] at h⟩
  | k + 1 => by
    obtain ⟨ih0, ih1, ih2⟩ := hibernaclelaw15_DriveSure.mono_l k
    refine ⟨?_, ?_, ?_⟩
    · intro y0 y1 y2 y3 y4
      unfold hibernaclelaw15_DriveSure.j0
      repeat' first
      | (with_reducible exact ih0 _ _ _ _ _)
      | (with_reducible exact ih1 _ _ _ _ _ _ _)
      | (with_reducible exact ih2 _ _ _ _ _ _ _ _)
      | (with_reducible exact hibernaclelaw15_Great.mono _ _ _ _)
      | (with_reducible exact hibernacleref15_Same.mono _ _ _ _ _ _ _)
      | (with_reducible exact LeO.refl _)
      | (with_reducible exact LeO.none _)
      | (with_reducible refine LeO.ite ?_ ?_)
      | (with_reducible refine LeO.bind ?_ (fun _ => ?_))
      | exact ih0 _ _ _ _ _
      | exact ih1 _ _ _ _ _ _ _
      | exact ih2 _ _ _ _ _ _ _ _
      | exact hibernaclelaw15_Great.mono _ _ _ _
      | exact hibernacleref15_Same.mono _ _ _ _ _ _ _
      | exact LeO.none _
      | refine LeO.ite ?_ ?_
      | refine LeO.bind ?_ (fun _ => ?_)
    · intro y0 y1 y2 y3 y4 y5 y6
      unfold hibernaclelaw15_DriveSure.j1
      repeat' first
      | (with_reducible exact ih0 _ _ _ _ _)
      | (with_reducible exact ih1 _ _ _ _ _ _ _)
      | (with_reducible exact ih2 _ _ _ _ _ _ _ _)
      | (with_reducible exact hibernaclelaw15_Great.mono _ _ _ _)
      | (with_reducible exact hibernacleref15_Same.mono _ _ _ _ _ _ _)
      | (with_reducible exact LeO.refl _)
      | (with_reducible exact LeO.none _)
      | (with_reducible refine LeO.ite ?_ ?_)
      | (with_reducible refine LeO.bind ?_ (fun _ => ?_))
      | exact ih0 _ _ _ _ _
      | exact ih1 _ _ _ _ _ _ _
      | exact ih2 _ _ _ _ _ _ _ _
      | exact hibernaclelaw15_Great.mono _ _ _ _
      | exact hibernacleref15_Same.mono _ _ _ _ _ _ _
      | exact LeO.none _
      | refine LeO.ite ?_ ?_
      | refine LeO.bind ?_ (fun _ => ?_)
    · intro y0 y1 y2 y3 y4 y5 y6 y7
      unfold hibernaclelaw15_DriveSure.l0
      repeat' first
      | (with_reducible exact ih0 _ _ _ _ _)
      | (with_reducible exact ih1 _ _ _ _ _ _ _)
      | (with_reducible exact ih2 _ _ _ _ _ _ _ _)
      | (with_reducible exact hibernaclelaw15_Great.mono _ _ _ _)
      | (with_reducible exact hibernacleref15_Same.mono _ _ _ _ _ _ _)
      | (with_reducible exact LeO.refl _)
      | (with_reducible exact LeO.none _)
      | (with_reducible refine LeO.ite ?_ ?_)
      | (with_reducible refine LeO.bind ?_ (fun _ => ?_))
      | exact ih0 _ _ _ _ _
      | exact ih1 _ _ _ _ _ _ _
      | exact ih2 _ _ _ _ _ _ _ _
      | exact hibernaclelaw15_Great.mono _ _ _ _
      | exact hibernacleref15_Same.mono _ _ _ _ _ _ _
      | exact LeO.none _
      | refine LeO.ite ?_ ?_
      | refine LeO.bind ?_ (fun _ => ?_)
theorem hibernaclelaw15_DriveSure.mono : ∀ a0 a1 a2 a3 k, LeO (hibernaclelaw15_DriveSure.f k a0 a1 a2 a3) (hibernaclelaw15_DriveSure.f (k + 1) a0 a1 a2 a3) := by
  intro a0 a1 a2 a3 k
  obtain ⟨ih0, ih1, ih2⟩ := hibernaclelaw15_DriveSure.mono_l k
  unfold hibernaclelaw15_DriveSure.f
  repeat' first
      | (with_reducible exact ih0 _ _ _ _ _)
      | (with_reducible exact ih1 _ _ _ _ _ _ _)
      | (with_reducible exact ih2 _ _ _ _ _ _ _ _)
      | (with_reducible exact hibernaclelaw15_Great.mono _ _ _ _)
      | (with_reducible exact hibernacleref15_Same.mono _ _ _ _ _ _ _)
      | (with_reducible exact LeO.refl _)
      | (with_reducible exact LeO.none _)
      | (with_reducible refine LeO.ite ?_ ?_)
      | (with_reducible refine LeO.bind ?_ (fun _ => ?_))
      | exact ih0 _ _ _ _ _
      | exact ih1 _ _ _ _ _ _ _
      | exact ih2 _ _ _ _ _ _ _ _
      | exact hibernaclelaw15_Great.mono _ _ _ _
      | exact hibernacleref15_Same.mono _ _ _ _ _ _ _
      | exact LeO.none _
      | refine LeO.ite ?_ ?_
      | refine LeO.bind ?_ (fun _ => ?_)
set_option maxHeartbeats 8000000 in
set_option maxRecDepth 100000 in
theorem hibernaclelaw15_DriveSure.calls (k : Nat) (A0_0 : Option Addr) (c0_0 : Nat) (l0_0 : List ByteArray) (A0_1 : Option Addr) (c0_1 : Nat) (l0_1 : List (S27)) (a0_2 : Int) (A1 : Option Addr) (c1 : Nat) (l1 : List Int) (r : Bool) (w : World) (hr0_0 : Kd.C Kd.string w A0_0 l0_0.length l0_0) (hc0_0 : l0_0.length ≤ c0_0) (hr0_1 : Kd.C k27 w A0_1 l0_1.length l0_1) (hc0_1 : l0_1.length ≤ c0_1) (hr1 : Kd.C (Kd.int .i64) w A1 l1.length l1) (hc1 : l1.length ≤ c1) (h : hibernaclelaw15_DriveSure.f k l0_0 l0_1 a0_2 l1 = some r) :
    Calls Try.prog 14 #[.agg #[.slice A0_0 l0_0.length c0_0, .slice A0_1 l0_1.length c0_1, .int .i64 a0_2], .slice A1 l1.length c1] w fun e w' => e = .returned (.bool r) ∧ Below w.heap.size w w' := by
  have hu29 := Try.underlying29
  have HR0_0 := Aside0.mk hr0_0
  have HC0_0 := Aside0.mk hc0_0
  clear hr0_0 hc0_0
  have HR0_1 := Aside0.mk hr0_1
  have HC0_1 := Aside0.mk hc0_1
  clear hr0_1 hc0_1
  have HR1 := Aside0.mk hr1
  have HC1 := Aside0.mk hc1
  clear hr1 hc1
  have HB := Aside0.mk (Below.refl w.heap.size w)
  have H : ((hibernaclelaw15_Great.f k l0_0 l0_1 a0_2).bind fun t625 => (if t625 > 0 then (hibernaclelaw15_DriveSure.j0 k l1 true l0_0 l0_1 a0_2) else ((drive_Check.f l0_0 l0_1 a0_2).bind fun t626 => (if t626 = 0 then (hibernaclelaw15_DriveSure.j0 k l1 (decide ((l1.length : Int) > 100)) l0_0 l0_1 a0_2) else (hibernaclelaw15_DriveSure.j0 k l1 true l0_0 l0_1 a0_2))))) = some r := h
  clear h
  have HC3 := Aside0.mk H
  clear H
  go_enter Try.func14, Try.ntmps14
  go_upto_region 1 with (first | ((with_reducible refine gate_dst (N := 2) rfl ?_); (try (refine gate_guard (by rfl) ?_; dsimp only)); refine box_event ?hg (N := 2) ?hd (cs := #[.slice A0_0 l0_0.length c0_0, .slice A0_1 l0_1.length c0_1, .int .i64 a0_2]) (t := 29) ?hr ?_; (case hd => rfl); (case hg => rfl); (case hr => first | (go_simp; done) | (go_simp; rfl)); intro gb624 hg w4 hbox hb; have n0_ := Aside0.mk (below_step (by repeat (first | (with_reducible first | exact HB.out | apply below_alloc | apply pw_below_drewN | apply below_drew1) | exact HB.out)) hb); have n1_ := Aside0.mk (hbox); have n2_ := Aside0.mk ((by rw [hg]; exact (below_size (by repeat (first | (with_reducible first | exact HB.out | apply below_alloc | apply pw_below_drewN | apply below_drew1) | exact HB.out))) : w.heap.size ≤ gb624)); have n3_ := Aside0.mk ((by rw [hg]; exact (below_size (by repeat (first | (with_reducible first | exact HB.out | apply below_alloc | apply pw_below_drewN | apply below_drew1) | exact HB.out))) : w.heap.size ≤ gb624)); clear HB; have HB := n0_; have BK624 := n1_; have GW624 := n2_; have GE624 := n3_; clear n0_ n1_ n2_ n3_; clear hb hbox hg))
  (try simp only [Act.put, List.setIfInBounds_toArray, List.set_cons_zero, List.set_cons_succ])
  go_cut [25] (fun v25 wc => ∃ (kq : Nat) (x25_2 : Bool), v25 = .bool x25_2 ∧ Aside0 (hibernaclelaw15_DriveSure.j0 kq l1 x25_2 l0_0 l0_1 a0_2 = some r) ∧ Aside0 (kq ≤ k) ∧ Aside0 (wc.heap[gb624]? = some (.cells #[(.slice A0_0 l0_0.length c0_0), (.slice A0_1 l0_1.length c0_1), .int .i64 a0_2] 29 (0, 0))) ∧ Aside0 (Below w.heap.size w wc))
  case first =>
    have H := HC3.out
    clear HC3
    replace H := Option.bind_eq_some_iff.mp H
    obtain ⟨t625, A50, H⟩ := H
    replace H : (if t625 > 0 then (hibernaclelaw15_DriveSure.j0 k l1 true l0_0 l0_1 a0_2) else ((drive_Check.f l0_0 l0_1 a0_2).bind fun t626 => (if t626 = 0 then (hibernaclelaw15_DriveSure.j0 k l1 (decide ((l1.length : Int) > 100)) l0_0 l0_1 a0_2) else (hibernaclelaw15_DriveSure.j0 k l1 true l0_0 l0_1 a0_2)))) = some r := H
    have A5 := Aside0.mk A50
    clear A50
    by_cases c6 : t625 > 0
    · rw [if_pos c6] at H
      have c6b0 : decide (0 < t625) = true := decide_eq_true c6
      clear c6
      (first | rw [c6b0] | (simp only [i64_w, i32_w]; rw [c6b0]) | skip)
      have H' := Aside0.mk H
      clear H
      have hcz7_0 : w4.cell? ⟨gb624, 0, none⟩ = some (.slice A0_0 l0_0.length c0_0) := (blk_cell BK624.out 0).trans rfl
      have hcz7_1 : w4.cell? ⟨gb624, 1, none⟩ = some (.slice A0_1 l0_1.length c0_1) := (blk_cell BK624.out 1).trans rfl
      have hcz7_2 : w4.cell? ⟨gb624, 2, none⟩ = some (.int .i64 a0_2) := (blk_cell BK624.out 2).trans rfl
      have hfz7_0 := blk_frozen BK624.out 0
      have hfz7_1 := blk_frozen BK624.out 1
      have hfz7_2 := blk_frozen BK624.out 2
      go_wp2_with (first | ((with_reducible refine gate_callee (f := 30) rfl ?_); refine goesL_ (some 14) rfl rfl Try.func30 (by kernel_rfl) rfl #[.agg #[.slice A0_0 l0_0.length c0_0, .slice A0_1 l0_1.length c0_1, .int .i64 a0_2]] rfl (by (try simp only [List.map_toArray, List.map_cons, List.map_nil]); first | done | rfl | (simp only [List.length_drop, List.length_take]; rfl)) ?_; (with_reducible refine (hibernaclelaw15_Great.calls k _ _ l0_0 _ _ l0_1 a0_2 t625 _ ?side1 ?side2 ?side3 ?side4 A5.out).mono ?_); (case side1 => repeat (first | exact (Kd.C_below HR0_0.out HB.out) | (with_reducible refine Kd.C_alloc ?_ _) | (with_reducible refine Kd.C_drewN ?_ _) | (with_reducible refine Kd.C_drew ?_))); (case side2 => exact HC0_0.out); (case side3 => repeat (first | exact (Kd.C_below HR0_1.out HB.out) | (with_reducible refine Kd.C_alloc ?_ _) | (with_reducible refine Kd.C_drewN ?_ _) | (with_reducible refine Kd.C_drew ?_))); (case side4 => exact HC0_1.out); rintro e w8 ⟨rfl, hb⟩; refine ⟨_, rfl, ?_⟩; have n0_ := Aside0.mk (blk_below (g := gb624) (o := .cells #[.slice A0_0 l0_0.length c0_0, .slice A0_1 l0_1.length c0_1, .int .i64 a0_2] 29 (0, 0)) (by (with_reducible repeat (first | refine blk_drewN ?_ _ | refine blk_drew ?_ | refine blk_alloc ?_ _)); exact BK624.out) hb); have n1_ := Aside0.mk (below_step (by repeat (first | (with_reducible first | exact HB.out | apply below_alloc | apply pw_below_drewN | apply below_drew1 | refine below_set ?_ GE624.out) | exact HB.out)) hb); clear BK624; clear HB; have BK624 := n0_; have HB := n1_; clear n0_ n1_; (try clear hb); (try clear hb2); (try clear hk); (try clear hi)))
      go_meet
      case rel => exact ⟨_, (true), (by first | rfl | (simp; done) | (simp [*]; done)), H', ⟨by first | omega | exact Nat.le_refl _⟩, ⟨by (with_reducible repeat (first | refine blk_drewN ?_ _ | refine blk_drew ?_ | refine blk_alloc ?_ _)); exact BK624.out⟩, ⟨by repeat (first | (with_reducible first | exact HB.out | apply below_alloc | apply pw_below_drewN | apply below_drew1 | refine below_set ?_ GE624.out) | exact HB.out)⟩⟩
    · rw [if_neg c6] at H
      have c6b0 : decide (0 < t625) = false := decide_eq_false c6
      clear c6
      (first | rw [c6b0] | (simp only [i64_w, i32_w]; rw [c6b0]) | skip)
      replace H := Option.bind_eq_some_iff.mp H
      obtain ⟨t626, A90, H⟩ := H
      replace H : (if t626 = 0 then (hibernaclelaw15_DriveSure.j0 k l1 (decide ((l1.length : Int) > 100)) l0_0 l0_1 a0_2) else (hibernaclelaw15_DriveSure.j0 k l1 true l0_0 l0_1 a0_2)) = some r := H
      have A9 := Aside0.mk A90
      clear A90
      by_cases c10 : t626 = 0
      · rw [if_pos c10] at H
        have c10b0 : (t626 == 0) = true := beq_iff_eq.mpr c10
        have c10b1 : (t626 != 0) = false := bne_eq_false_iff_eq.mpr c10
        clear c10
        have H' := Aside0.mk H
        clear H
        have hcz11_0 : w4.cell? ⟨gb624, 0, none⟩ = some (.slice A0_0 l0_0.length c0_0) := (blk_cell BK624.out 0).trans rfl
        have hcz11_1 : w4.cell? ⟨gb624, 1, none⟩ = some (.slice A0_1 l0_1.length c0_1) := (blk_cell BK624.out 1).trans rfl
        have hcz11_2 : w4.cell? ⟨gb624, 2, none⟩ = some (.int .i64 a0_2) := (blk_cell BK624.out 2).trans rfl
        have hfz11_0 := blk_frozen BK624.out 0
        have hfz11_1 := blk_frozen BK624.out 1
        have hfz11_2 := blk_frozen BK624.out 2
        go_wp2_with (first | ((with_reducible refine gate_callee (f := 30) rfl ?_); refine goesL_ (some 14) rfl rfl Try.func30 (by kernel_rfl) rfl #[.agg #[.slice A0_0 l0_0.length c0_0, .slice A0_1 l0_1.length c0_1, .int .i64 a0_2]] rfl (by (try simp only [List.map_toArray, List.map_cons, List.map_nil]); first | done | rfl | (simp only [List.length_drop, List.length_take]; rfl)) ?_; (with_reducible refine (hibernaclelaw15_Great.calls k _ _ l0_0 _ _ l0_1 a0_2 t625 _ ?side1 ?side2 ?side3 ?side4 A5.out).mono ?_); (case side1 => repeat (first | exact (Kd.C_below HR0_0.out HB.out) | (with_reducible refine Kd.C_alloc ?_ _) | (with_reducible refine Kd.C_drewN ?_ _) | (with_reducible refine Kd.C_drew ?_))); (case side2 => exact HC0_0.out); (case side3 => repeat (first | exact (Kd.C_below HR0_1.out HB.out) | (with_reducible refine Kd.C_alloc ?_ _) | (with_reducible refine Kd.C_drewN ?_ _) | (with_reducible refine Kd.C_drew ?_))); (case side4 => exact HC0_1.out); rintro e w12 ⟨rfl, hb⟩; refine ⟨_, rfl, ?_⟩; have n0_ := Aside0.mk (blk_below (g := gb624) (o := .cells #[.slice A0_0 l0_0.length c0_0, .slice A0_1 l0_1.length c0_1, .int .i64 a0_2] 29 (0, 0)) (by (with_reducible repeat (first | refine blk_drewN ?_ _ | refine blk_drew ?_ | refine blk_alloc ?_ _)); exact BK624.out) hb); have n1_ := Aside0.mk (below_step (by repeat (first | (with_reducible first | exact HB.out | apply below_alloc | apply pw_below_drewN | apply below_drew1 | refine below_set ?_ GE624.out) | exact HB.out)) hb); clear BK624; clear HB; have BK624 := n0_; have HB := n1_; clear n0_ n1_; (try clear hb); (try clear hb2); (try clear hk); (try clear hi); have hcz13_0 : w12.cell? ⟨gb624, 0, none⟩ = some (.slice A0_0 l0_0.length c0_0) := (blk_cell BK624.out 0).trans rfl; have hcz13_1 : w12.cell? ⟨gb624, 1, none⟩ = some (.slice A0_1 l0_1.length c0_1) := (blk_cell BK624.out 1).trans rfl; have hcz13_2 : w12.cell? ⟨gb624, 2, none⟩ = some (.int .i64 a0_2) := (blk_cell BK624.out 2).trans rfl; have hfz13_0 := blk_frozen BK624.out 0; have hfz13_1 := blk_frozen BK624.out 1; have hfz13_2 := blk_frozen BK624.out 2) | (go_at_call 34; (with_reducible refine (drive_Check.calls _ _ l0_0 _ _ l0_1 a0_2 t626 _ ?side1 ?side2 ?side3 ?side4 A9.out).mono ?_); (case side1 => repeat (first | exact (Kd.C_below HR0_0.out HB.out) | (with_reducible refine Kd.C_alloc ?_ _) | (with_reducible refine Kd.C_drewN ?_ _) | (with_reducible refine Kd.C_drew ?_))); (case side2 => exact HC0_0.out); (case side3 => repeat (first | exact (Kd.C_below HR0_1.out HB.out) | (with_reducible refine Kd.C_alloc ?_ _) | (with_reducible refine Kd.C_drewN ?_ _) | (with_reducible refine Kd.C_drew ?_))); (case side4 => exact HC0_1.out); rintro e w14 ⟨rfl, hb⟩; have n0_ := Aside0.mk (blk_below (g := gb624) (o := .cells #[.slice A0_0 l0_0.length c0_0, .slice A0_1 l0_1.length c0_1, .int .i64 a0_2] 29 (0, 0)) (by (with_reducible repeat (first | refine blk_drewN ?_ _ | refine blk_drew ?_ | refine blk_alloc ?_ _)); exact BK624.out) hb); have n1_ := Aside0.mk (below_step (by repeat (first | (with_reducible first | exact HB.out | apply below_alloc | apply pw_below_drewN | apply below_drew1 | refine below_set ?_ GE624.out) | exact HB.out)) hb); clear BK624; clear HB; have BK624 := n0_; have HB := n1_; clear n0_ n1_; (try clear hb); (try clear hb2); (try clear hk); (try clear hi)))
        go_meet
        case rel => exact ⟨_, (decide ((l1.length : Int) > 100)), (by first | rfl | (simp; done) | (simp [*]; done)), H', ⟨by first | omega | exact Nat.le_refl _⟩, ⟨by (with_reducible repeat (first | refine blk_drewN ?_ _ | refine blk_drew ?_ | refine blk_alloc ?_ _)); exact BK624.out⟩, ⟨by repeat (first | (with_reducible first | exact HB.out | apply below_alloc | apply pw_below_drewN | apply below_drew1 | refine below_set ?_ GE624.out) | exact HB.out)⟩⟩
      · rw [if_neg c10] at H
        have c10b0 : (t626 == 0) = false := beq_eq_false_iff_ne.mpr c10
        have c10b1 : (t626 != 0) = true := bne_iff_ne.mpr c10
        have H' := Aside0.mk H
        clear H
        have hcz15_0 : w4.cell? ⟨gb624, 0, none⟩ = some (.slice A0_0 l0_0.length c0_0) := (blk_cell BK624.out 0).trans rfl
        have hcz15_1 : w4.cell? ⟨gb624, 1, none⟩ = some (.slice A0_1 l0_1.length c0_1) := (blk_cell BK624.out 1).trans rfl
        have hcz15_2 : w4.cell? ⟨gb624, 2, none⟩ = some (.int .i64 a0_2) := (blk_cell BK624.out 2).trans rfl
        have hfz15_0 := blk_frozen BK624.out 0
        have hfz15_1 := blk_frozen BK624.out 1
        have hfz15_2 := blk_frozen BK624.out 2
        go_wp2_with (first | ((with_reducible refine gate_callee (f := 30) rfl ?_); refine goesL_ (some 14) rfl rfl Try.func30 (by kernel_rfl) rfl #[.agg #[.slice A0_0 l0_0.length c0_0, .slice A0_1 l0_1.length c0_1, .int .i64 a0_2]] rfl (by (try simp only [List.map_toArray, List.map_cons, List.map_nil]); first | done | rfl | (simp only [List.length_drop, List.length_take]; rfl)) ?_; (with_reducible refine (hibernaclelaw15_Great.calls k _ _ l0_0 _ _ l0_1 a0_2 t625 _ ?side1 ?side2 ?side3 ?side4 A5.out).mono ?_); (case side1 => repeat (first | exact (Kd.C_below HR0_0.out HB.out) | (with_reducible refine Kd.C_alloc ?_ _) | (with_reducible refine Kd.C_drewN ?_ _) | (with_reducible refine Kd.C_drew ?_))); (case side2 => exact HC0_0.out); (case side3 => repeat (first | exact (Kd.C_below HR0_1.out HB.out) | (with_reducible refine Kd.C_alloc ?_ _) | (with_reducible refine Kd.C_drewN ?_ _) | (with_reducible refine Kd.C_drew ?_))); (case side4 => exact HC0_1.out); rintro e w16 ⟨rfl, hb⟩; refine ⟨_, rfl, ?_⟩; have n0_ := Aside0.mk (blk_below (g := gb624) (o := .cells #[.slice A0_0 l0_0.length c0_0, .slice A0_1 l0_1.length c0_1, .int .i64 a0_2] 29 (0, 0)) (by (with_reducible repeat (first | refine blk_drewN ?_ _ | refine blk_drew ?_ | refine blk_alloc ?_ _)); exact BK624.out) hb); have n1_ := Aside0.mk (below_step (by repeat (first | (with_reducible first | exact HB.out | apply below_alloc | apply pw_below_drewN | apply below_drew1 | refine below_set ?_ GE624.out) | exact HB.out)) hb); clear BK624; clear HB; have BK624 := n0_; have HB := n1_; clear n0_ n1_; (try clear hb); (try clear hb2); (try clear hk); (try clear hi); have hcz17_0 : w16.cell? ⟨gb624, 0, none⟩ = some (.slice A0_0 l0_0.length c0_0) := (blk_cell BK624.out 0).trans rfl; have hcz17_1 : w16.cell? ⟨gb624, 1, none⟩ = some (.slice A0_1 l0_1.length c0_1) := (blk_cell BK624.out 1).trans rfl; have hcz17_2 : w16.cell? ⟨gb624, 2, none⟩ = some (.int .i64 a0_2) := (blk_cell BK624.out 2).trans rfl; have hfz17_0 := blk_frozen BK624.out 0; have hfz17_1 := blk_frozen BK624.out 1; have hfz17_2 := blk_frozen BK624.out 2) | (go_at_call 34; (with_reducible refine (drive_Check.calls _ _ l0_0 _ _ l0_1 a0_2 t626 _ ?side1 ?side2 ?side3 ?side4 A9.out).mono ?_); (case side1 => repeat (first | exact (Kd.C_below HR0_0.out HB.out) | (with_reducible refine Kd.C_alloc ?_ _) | (with_reducible refine Kd.C_drewN ?_ _) | (with_reducible refine Kd.C_drew ?_))); (case side2 => exact HC0_0.out); (case side3 => repeat (first | exact (Kd.C_below HR0_1.out HB.out) | (with_reducible refine Kd.C_alloc ?_ _) | (with_reducible refine Kd.C_drewN ?_ _) | (with_reducible refine Kd.C_drew ?_))); (case side4 => exact HC0_1.out); rintro e w18 ⟨rfl, hb⟩; have n0_ := Aside0.mk (blk_below (g := gb624) (o := .cells #[.slice A0_0 l0_0.length c0_0, .slice A0_1 l0_1.length c0_1, .int .i64 a0_2] 29 (0, 0)) (by (with_reducible repeat (first | refine blk_drewN ?_ _ | refine blk_drew ?_ | refine blk_alloc ?_ _)); exact BK624.out) hb); have n1_ := Aside0.mk (below_step (by repeat (first | (with_reducible first | exact HB.out | apply below_alloc | apply pw_below_drewN | apply below_drew1 | refine below_set ?_ GE624.out) | exact HB.out)) hb); clear BK624; clear HB; have BK624 := n0_; have HB := n1_; clear n0_ n1_; (try clear hb); (try clear hb2); (try clear hk); (try clear hi)))
        go_meet
        case rel => exact ⟨_, (true), (by first | rfl | (simp; done) | (simp [*]; done)), H', ⟨by first | omega | exact Nat.le_refl _⟩, ⟨by (with_reducible repeat (first | refine blk_drewN ?_ _ | refine blk_drew ?_ | refine blk_alloc ?_ _)); exact BK624.out⟩, ⟨by repeat (first | (with_reducible first | exact HB.out | apply below_alloc | apply pw_below_drewN | apply below_drew1 | refine below_set ?_ GE624.out) | exact HB.out)⟩⟩
  case rest =>
    clear HC3
    try clear c1
    try clear p2
    try clear c3
    try clear c6
    try clear c6b0
    try clear c10
    try clear c10b0
    try clear c10b1
    try clear c14
    try clear hcz11_0
    try clear hcz11_1
    try clear hcz11_2
    try clear hcz13_0
    try clear hcz13_1
    try clear hcz13_2
    try clear hcz15_0
    try clear hcz15_1
    try clear hcz15_2
    try clear hcz17_0
    try clear hcz17_1
    try clear hcz17_2
    try clear hcz7_0
    try clear hcz7_1
    try clear hcz7_2
    try clear hfz11_0
    try clear hfz11_1
    try clear hfz11_2
    try clear hfz13_0
    try clear hfz13_1
    try clear hfz13_2
    try clear hfz15_0
    try clear hfz15_1
    try clear hfz15_2
    try clear hfz17_0
    try clear hfz17_1
    try clear hfz17_2
    try clear hfz7_0
    try clear hfz7_1
    try clear hfz7_2
    obtain ⟨kq, x25_2, rfl, HA, HJ2, BK624, HB⟩ := hcut
    cases kq with
    | zero => exact absurd HA.out (by simp [hibernaclelaw15_DriveSure.j0])
    | succ kj2 =>
      have H := HA.out
      clear HA
      simp only [hibernaclelaw15_DriveSure.j0] at H
      by_cases c19 : x25_2 = true
      · subst c19
        have H1 : ((hibernaclelaw15_fixed.f).bind fun t627 => (some t627)) = some r := by rw [if_pos rfl] at H; exact H
        clear H
        have H := H1
        clear H1
        replace H := Option.bind_eq_some_iff.mp H
        obtain ⟨t627, A200, H⟩ := H
        replace H : (some t627) = some r := H
        have A20 := Aside0.mk A200
        clear A200
        obtain rfl := Option.some.inj H
        go_wp2_with (first | ((with_reducible refine gate_callee (f := 31) rfl ?_); refine goesL_ (some 26) rfl rfl Try.func31 (by kernel_rfl) rfl #[] rfl (by (try simp only [List.map_toArray, List.map_cons, List.map_nil]); first | done | rfl | (simp only [List.length_drop, List.length_take]; rfl)) ?_; (with_reducible refine (hibernaclelaw15_fixed.calls  t627 _ A20.out).mono ?_); rintro e w21 ⟨rfl, hb⟩; refine ⟨_, rfl, ?_⟩; have n0_ := Aside0.mk (blk_below (g := gb624) (o := .cells #[.slice A0_0 l0_0.length c0_0, .slice A0_1 l0_1.length c0_1, .int .i64 a0_2] 29 (0, 0)) (by (with_reducible repeat (first | refine blk_drewN ?_ _ | refine blk_drew ?_ | refine blk_alloc ?_ _)); exact BK624.out) hb); have n1_ := Aside0.mk (below_step (by repeat (first | (with_reducible first | exact HB.out | apply below_alloc | apply pw_below_drewN | apply below_drew1 | refine below_set ?_ GE624.out) | exact HB.out)) hb); clear BK624; clear HB; have BK624 := n0_; have HB := n1_; clear n0_ n1_; (try clear hb); (try clear hb2); (try clear hk); (try clear hi)))
        go_ret
        exact ⟨by first | rfl | (simp [errW_none, errW_some] <;> rfl) | (simp [*, errW_none, errW_some] <;> rfl), by repeat (first | (with_reducible first | exact HB.out | apply below_alloc | apply pw_below_drewN | apply below_drew1 | refine below_set ?_ GE624.out) | exact HB.out)⟩
      · replace c19 := Bool.eq_false_iff.mpr c19
        subst c19
        have H1 : ((drive_Flush.f l0_0 l0_1 a0_2).bind fun bt628 => (if bt628.2.2.2 = 0 then ((drive_Crash.f bt628.1 bt628.2.1 bt628.2.2.1 l1).bind fun bt639 => (if (bt628.2.1.length : Int) = 0 then (if (bt639.1.length : Int) = (l0_0.length : Int) then ((drive_Check.f bt639.1 bt639.2.1 bt639.2.2).bind fun t647 => (if t647 = 0 then (if (bt639.2.1.length : Int) = 0 then (hibernaclelaw15_DriveSure.j1 kj2 (decide (bt639.2.2 ≥ 0)) l0_0 l0_1 a0_2 bt639.1 bt639.2.1 bt639.2.2) else (hibernaclelaw15_DriveSure.j1 kj2 true l0_0 l0_1 a0_2 bt639.1 bt639.2.1 bt639.2.2)) else (hibernaclelaw15_DriveSure.j1 kj2 true l0_0 l0_1 a0_2 bt639.1 bt639.2.1 bt639.2.2))) else (hibernaclelaw15_DriveSure.j1 kj2 true l0_0 l0_1 a0_2 bt639.1 bt639.2.1 bt639.2.2)) else (hibernaclelaw15_DriveSure.j1 kj2 true l0_0 l0_1 a0_2 bt639.1 bt639.2.1 bt639.2.2))) else ((hibernaclelaw15_fixed.f).bind fun t637 => (if t637 = true then (if a0_2 = 0 then ((hibernacleref15_Same.f kj2 bt628.1 bt628.2.1 bt628.2.2.1 l0_0 l0_1 a0_2).bind fun t638 => (some t638)) else (some false)) else (some false))))) = some r := by rw [if_neg (show ¬ (false = true) by decide)] at H; exact H
        clear H
        have H := H1
        clear H1
        replace H := Option.bind_eq_some_iff.mp H
        obtain ⟨⟨t628, t631, t634, t635⟩, A220, H⟩ := H
        replace H : (if t635 = 0 then ((drive_Crash.f t628 t631 t634 l1).bind fun bt639 => (if (t631.length : Int) = 0 then (if (bt639.1.length : Int) = (l0_0.length : Int) then ((drive_Check.f bt639.1 bt639.2.1 bt639.2.2).bind fun t647 => (if t647 = 0 then (if (bt639.2.1.length : Int) = 0 then (hibernaclelaw15_DriveSure.j1 kj2 (decide (bt639.2.2 ≥ 0)) l0_0 l0_1 a0_2 bt639.1 bt639.2.1 bt639.2.2) else (hibernaclelaw15_DriveSure.j1 kj2 true l0_0 l0_1 a0_2 bt639.1 bt639.2.1 bt639.2.2)) else (hibernaclelaw15_DriveSure.j1 kj2 true l0_0 l0_1 a0_2 bt639.1 bt639.2.1 bt639.2.2))) else (hibernaclelaw15_DriveSure.j1 kj2 true l0_0 l0_1 a0_2 bt639.1 bt639.2.1 bt639.2.2)) else (hibernaclelaw15_DriveSure.j1 kj2 true l0_0 l0_1 a0_2 bt639.1 bt639.2.1 bt639.2.2))) else ((hibernaclelaw15_fixed.f).bind fun t637 => (if t637 = true then (if a0_2 = 0 then ((hibernacleref15_Same.f kj2 t628 t631 t634 l0_0 l0_1 a0_2).bind fun t638 => (some t638)) else (some false)) else (some false)))) = some r := H
        have A22 := Aside0.mk A220
        clear A220
        by_cases c23 : t635 = 0
        · rw [if_pos c23] at H
          have c23b0 : (t635 == 0) = true := beq_iff_eq.mpr c23
          have c23b1 : (t635 != 0) = false := bne_eq_false_iff_eq.mpr c23
          clear c23
          replace H := Option.bind_eq_some_iff.mp H
          obtain ⟨⟨t639, t642, t645⟩, A240, H⟩ := H
          replace H : (if (t631.length : Int) = 0 then (if (t639.length : Int) = (l0_0.length : Int) then ((drive_Check.f t639 t642 t645).bind fun t647 => (if t647 = 0 then (if (t642.length : Int) = 0 then (hibernaclelaw15_DriveSure.j1 kj2 (decide (t645 ≥ 0)) l0_0 l0_1 a0_2 t639 t642 t645) else (hibernaclelaw15_DriveSure.j1 kj2 true l0_0 l0_1 a0_2 t639 t642 t645)) else (hibernaclelaw15_DriveSure.j1 kj2 true l0_0 l0_1 a0_2 t639 t642 t645))) else (hibernaclelaw15_DriveSure.j1 kj2 true l0_0 l0_1 a0_2 t639 t642 t645)) else (hibernaclelaw15_DriveSure.j1 kj2 true l0_0 l0_1 a0_2 t639 t642 t645)) = some r := H
          have A24 := Aside0.mk A240
          clear A240
          have HC25 := Aside0.mk H
          clear H
          have hcz26_0 : wc.cell? ⟨gb624, 0, none⟩ = some (.slice A0_0 l0_0.length c0_0) := (blk_cell BK624.out 0).trans rfl
          have hcz26_1 : wc.cell? ⟨gb624, 1, none⟩ = some (.slice A0_1 l0_1.length c0_1) := (blk_cell BK624.out 1).trans rfl
          have hcz26_2 : wc.cell? ⟨gb624, 2, none⟩ = some (.int .i64 a0_2) := (blk_cell BK624.out 2).trans rfl
          have hfz26_0 := blk_frozen BK624.out 0
          have hfz26_1 := blk_frozen BK624.out 1
          have hfz26_2 := blk_frozen BK624.out 2
          go_upto_region 7 with (first | ((with_reducible refine gate_callee (f := 40) rfl ?_); refine goesL_ (some 29) rfl rfl Try.func40 (by kernel_rfl) rfl #[.agg #[.slice A0_0 l0_0.length c0_0, .slice A0_1 l0_1.length c0_1, .int .i64 a0_2]] rfl (by (try simp only [List.map_toArray, List.map_cons, List.map_nil]); first | done | rfl | (simp only [List.length_drop, List.length_take]; rfl)) ?_; (with_reducible refine (drive_Flush.calls _ _ l0_0 _ _ l0_1 a0_2 t628 t631 t634 t635 _ ?side1 ?side2 ?side3 ?side4 A22.out).mono ?_); (case side1 => repeat (first | exact (Kd.C_below HR0_0.out HB.out) | (with_reducible refine Kd.C_alloc ?_ _) | (with_reducible refine Kd.C_drewN ?_ _) | (with_reducible refine Kd.C_drew ?_))); (case side2 => exact HC0_0.out); (case side3 => repeat (first | exact (Kd.C_below HR0_1.out HB.out) | (with_reducible refine Kd.C_alloc ?_ _) | (with_reducible refine Kd.C_drewN ?_ _) | (with_reducible refine Kd.C_drew ?_))); (case side4 => exact HC0_1.out); rintro e w27 ⟨v629, v632, rfl, ho0, ho1, hb⟩; refine ⟨_, rfl, ?_⟩; have n0_ := Aside0.mk (Kd.R_lower ho0 (below_size (by repeat (first | (with_reducible first | exact HB.out | apply below_alloc | apply pw_below_drewN | apply below_drew1 | refine below_set ?_ GE624.out) | exact HB.out)))); have n1_ := Aside0.mk (Kd.R_lower ho1 (below_size (by repeat (first | (with_reducible first | exact HB.out | apply below_alloc | apply pw_below_drewN | apply below_drew1 | refine below_set ?_ GE624.out) | exact HB.out)))); have n2_ := Aside0.mk (blk_below (g := gb624) (o := .cells #[.slice A0_0 l0_0.length c0_0, .slice A0_1 l0_1.length c0_1, .int .i64 a0_2] 29 (0, 0)) (by (with_reducible repeat (first | refine blk_drewN ?_ _ | refine blk_drew ?_ | refine blk_alloc ?_ _)); exact BK624.out) hb); have n3_ := Aside0.mk (below_step (by repeat (first | (with_reducible first | exact HB.out | apply below_alloc | apply pw_below_drewN | apply below_drew1 | refine below_set ?_ GE624.out) | exact HB.out)) hb); clear BK624; clear HB; have HO630 := n0_; have HO633 := n1_; have BK624 := n2_; have HB := n3_; clear n0_ n1_ n2_ n3_; (try clear hb); (try clear hb2); (try clear hk); (try clear hi); (try clear ho0); (try clear ho1)) | ((with_reducible refine gate_dst (N := 5) rfl ?_); (try (refine gate_guard (by rfl) ?_; dsimp only)); refine box_event ?hg (N := 5) ?hd (cs := #[.slice none 0 0, .slice none 0 0, .int .i64 0]) (t := 29) ?hr ?_; (case hd => rfl); (case hg => rfl); (case hr => first | (go_simp; done) | (go_simp; rfl)); intro gb636 hg w28 hbox hb; have n0_ := Aside0.mk (Kd.R_below (by (with_reducible repeat (first | apply Kd.R_alloc | apply Kd.R_drewN | apply Kd.R_drew)); exact HO630.out) hb); have n1_ := Aside0.mk (Kd.R_below (by (with_reducible repeat (first | apply Kd.R_alloc | apply Kd.R_drewN | apply Kd.R_drew)); exact HO633.out) hb); have n2_ := Aside0.mk (blk_below (g := gb624) (o := .cells #[.slice A0_0 l0_0.length c0_0, .slice A0_1 l0_1.length c0_1, .int .i64 a0_2] 29 (0, 0)) (by (with_reducible repeat (first | refine blk_drewN ?_ _ | refine blk_drew ?_ | refine blk_alloc ?_ _)); exact BK624.out) hb); have n3_ := Aside0.mk (below_step (by repeat (first | (with_reducible first | exact HB.out | apply below_alloc | apply pw_below_drewN | apply below_drew1 | refine below_set ?_ GE624.out) | exact HB.out)) hb); have n4_ := Aside0.mk (hbox); have n5_ := Aside0.mk ((by rw [hg]; exact (below_size (by repeat (first | (with_reducible first | exact HB.out | apply below_alloc | apply pw_below_drewN | apply below_drew1 | refine below_set ?_ GE624.out) | exact HB.out))) : w.heap.size ≤ gb636)); have n6_ := Aside0.mk ((by rw [hg]; exact (below_size (by repeat (first | (with_reducible first | exact HB.out | apply below_alloc | apply pw_below_drewN | apply below_drew1 | refine below_set ?_ GE624.out) | exact HB.out))) : w.heap.size ≤ gb636)); have n7_ := Aside0.mk ((by rw [hg]; exact Nat.ne_of_lt (blk_lt (g := gb624) (o := .cells #[.slice A0_0 l0_0.length c0_0, .slice A0_1 l0_1.length c0_1, .int .i64 a0_2] 29 (0, 0)) (by (with_reducible repeat (first | refine blk_drewN ?_ _ | refine blk_drew ?_ | refine blk_alloc ?_ _)); exact BK624.out)) : gb624 ≠ gb636)); have n8_ := Aside0.mk ((by rw [hg]; exact Nat.ne_of_gt (blk_lt (g := gb624) (o := .cells #[.slice A0_0 l0_0.length c0_0, .slice A0_1 l0_1.length c0_1, .int .i64 a0_2] 29 (0, 0)) (by (with_reducible repeat (first | refine blk_drewN ?_ _ | refine blk_drew ?_ | refine blk_alloc ?_ _)); exact BK624.out)) : gb636 ≠ gb624)); clear HO630; clear HO633; clear BK624; clear HB; have HO630 := n0_; have HO633 := n1_; have BK624 := n2_; have HB := n3_; have BK636 := n4_; have GW636 := n5_; have GE636 := n6_; have NB624_636 := n7_; have NB636_624 := n8_; clear n0_ n1_ n2_ n3_ n4_ n5_ n6_ n7_ n8_; clear hb hbox hg; obtain ⟨Ao29, co29, eo29⟩ := Kd.R_slice HO630.out; subst eo29; have hnb30 := NB636_624.out; have hnc30 := NB624_636.out; have hcz31_0 : w28.cell? ⟨gb636, 0, none⟩ = some (.slice none 0 0) := (blk_cell BK636.out 0).trans rfl; have hcz31_1 : w28.cell? ⟨gb636, 1, none⟩ = some (.slice none 0 0) := (blk_cell BK636.out 1).trans rfl; have hcz31_2 : w28.cell? ⟨gb636, 2, none⟩ = some (.int .i64 0) := (blk_cell BK636.out 2).trans rfl; have hfz31_0 := blk_frozen BK636.out 0; have hfz31_1 := blk_frozen BK636.out 1; have hfz31_2 := blk_frozen BK636.out 2; obtain ⟨Ao32, co32, eo32⟩ := Kd.R_slice HO633.out; subst eo32) | ((with_reducible refine gate_callee (f := 37) rfl ?_); refine goesL_ (some 47) rfl rfl Try.func37 (by kernel_rfl) rfl #[.agg #[.slice Ao29 t628.length co29, .slice Ao32 t631.length co32, .int .i64 t634], .slice A1 l1.length c1] rfl (by (try simp only [List.map_toArray, List.map_cons, List.map_nil]); first | done | rfl | (simp only [List.length_drop, List.length_take]; rfl)) ?_; (with_reducible refine (drive_Crash.calls _ _ t628 _ _ t631 t634 _ _ l1 t639 t642 t645 _ ?side1 ?side2 ?side3 ?side4 ?side5 ?side6 A24.out).mono ?_); (case side1 => refine (Kd.R_reads' (e := 9) (base := w.heap.size) (ok := fun k_ => True) (n := t628.length) (c := co29) ?_).2.2; exact (by (with_reducible repeat (first | apply Kd.R_alloc | apply Kd.R_drewN | apply Kd.R_drew)); exact (Kd.R_mono (Kd.R_far (p := ⟨gb636, 2, none⟩) (Kd.R_far (p := ⟨gb636, 1, none⟩) (Kd.R_far (p := ⟨gb636, 0, none⟩) (Kd.R_types HO630.out BK636.out (by decide)) (fun _ hk => hk.2) (.slice Ao29 t628.length co29)) (fun _ hk => hk.2) (.slice Ao32 t631.length co32)) (fun _ hk => hk.2) (.int .i64 t634)) (fun _ h_ => h_.1)))); (case side2 => exact (Kd.R_reads' HO630.out).2.1); (case side3 => refine (Kd.R_reads' (e := 27) (base := w.heap.size) (ok := fun k_ => True) (n := t631.length) (c := co32) ?_).2.2; exact (by (with_reducible repeat (first | apply Kd.R_alloc | apply Kd.R_drewN | apply Kd.R_drew)); exact (Kd.R_mono (Kd.R_far (p := ⟨gb636, 2, none⟩) (Kd.R_far (p := ⟨gb636, 1, none⟩) (Kd.R_far (p := ⟨gb636, 0, none⟩) (Kd.R_types HO633.out BK636.out (by decide)) (fun _ hk => hk.2) (.slice Ao29 t628.length co29)) (fun _ hk => hk.2) (.slice Ao32 t631.length co32)) (fun _ hk => hk.2) (.int .i64 t634)) (fun _ h_ => h_.1)))); (case side4 => exact (Kd.R_reads' HO633.out).2.1); (case side5 => exact Kd.C_below HR1.out (by repeat (first | (with_reducible first | exact HB.out | apply below_alloc | apply pw_below_drewN | apply below_drew1 | refine below_set ?_ GE624.out | refine below_set ?_ GE636.out) | exact HB.out))); (case side6 => exact HC1.out); rintro e w33 ⟨v640, v643, rfl, ho0, ho1, hb⟩; refine ⟨_, rfl, ?_⟩; have n0_ := Aside0.mk (Kd.R_elder' (by (with_reducible repeat (first | apply Kd.R_alloc | apply Kd.R_drewN | apply Kd.R_drew)); exact (Kd.R_mono (Kd.R_far (p := ⟨gb636, 2, none⟩) (Kd.R_far (p := ⟨gb636, 1, none⟩) (Kd.R_far (p := ⟨gb636, 0, none⟩) (Kd.R_types HO630.out BK636.out (by decide)) (fun _ hk => hk.2) (.slice Ao29 t628.length co29)) (fun _ hk => hk.2) (.slice Ao32 t631.length co32)) (fun _ hk => hk.2) (.int .i64 t634)) (fun _ h_ => h_.1))) (Kd.R_base ho0) hb); have n1_ := Aside0.mk (Kd.R_elder' (by (with_reducible repeat (first | apply Kd.R_alloc | apply Kd.R_drewN | apply Kd.R_drew)); exact (Kd.R_mono (Kd.R_far (p := ⟨gb636, 2, none⟩) (Kd.R_far (p := ⟨gb636, 1, none⟩) (Kd.R_far (p := ⟨gb636, 0, none⟩) (Kd.R_types HO633.out BK636.out (by decide)) (fun _ hk => hk.2) (.slice Ao29 t628.length co29)) (fun _ hk => hk.2) (.slice Ao32 t631.length co32)) (fun _ hk => hk.2) (.int .i64 t634)) (fun _ h_ => h_.1))) (Kd.R_base ho1) hb); have n2_ := Aside0.mk (Kd.R_lower (Kd.R_new' ho0 (Kd.R_lt (by (with_reducible repeat (first | apply Kd.R_alloc | apply Kd.R_drewN | apply Kd.R_drew)); exact (Kd.R_mono (Kd.R_far (p := ⟨gb636, 2, none⟩) (Kd.R_far (p := ⟨gb636, 1, none⟩) (Kd.R_far (p := ⟨gb636, 0, none⟩) (Kd.R_types HO630.out BK636.out (by decide)) (fun _ hk => hk.2) (.slice Ao29 t628.length co29)) (fun _ hk => hk.2) (.slice Ao32 t631.length co32)) (fun _ hk => hk.2) (.int .i64 t634)) (fun _ h_ => h_.1))))) (below_size (by repeat (first | (with_reducible first | exact HB.out | apply below_alloc | apply pw_below_drewN | apply below_drew1 | refine below_set ?_ GE624.out | refine below_set ?_ GE636.out) | exact HB.out)))); have n3_ := Aside0.mk (Kd.R_lower (Kd.R_new' ho1 (Kd.R_lt (by (with_reducible repeat (first | apply Kd.R_alloc | apply Kd.R_drewN | apply Kd.R_drew)); exact (Kd.R_mono (Kd.R_far (p := ⟨gb636, 2, none⟩) (Kd.R_far (p := ⟨gb636, 1, none⟩) (Kd.R_far (p := ⟨gb636, 0, none⟩) (Kd.R_types HO633.out BK636.out (by decide)) (fun _ hk => hk.2) (.slice Ao29 t628.length co29)) (fun _ hk => hk.2) (.slice Ao32 t631.length co32)) (fun _ hk => hk.2) (.int .i64 t634)) (fun _ h_ => h_.1))))) (below_size (by repeat (first | (with_reducible first | exact HB.out | apply below_alloc | apply pw_below_drewN | apply below_drew1 | refine below_set ?_ GE624.out | refine below_set ?_ GE636.out) | exact HB.out)))); have n4_ := Aside0.mk (blk_below (g := gb624) (o := .cells #[.slice A0_0 l0_0.length c0_0, .slice A0_1 l0_1.length c0_1, .int .i64 a0_2] 29 (0, 0)) (by (with_reducible repeat (first | refine blk_drewN ?_ _ | refine blk_drew ?_ | refine blk_alloc ?_ _)); refine blk_far ?_ NB624_636.out _; (with_reducible repeat (first | refine blk_drewN ?_ _ | refine blk_drew ?_ | refine blk_alloc ?_ _)); refine blk_far ?_ NB624_636.out _; (with_reducible repeat (first | refine blk_drewN ?_ _ | refine blk_drew ?_ | refine blk_alloc ?_ _)); refine blk_far ?_ NB624_636.out _; (with_reducible repeat (first | refine blk_drewN ?_ _ | refine blk_drew ?_ | refine blk_alloc ?_ _)); exact BK624.out) hb); have n5_ := Aside0.mk (blk_below (g := gb636) (o := .cells #[.slice Ao29 t628.length co29, .slice Ao32 t631.length co32, .int .i64 t634] 29 (0, 0)) (by (with_reducible repeat (first | refine blk_drewN ?_ _ | refine blk_drew ?_ | refine blk_alloc ?_ _)); refine blk_put (cs := #[.slice Ao29 t628.length co29, .slice Ao32 t631.length co32, .int .i64 0]) ?_ 2 _ rfl; (with_reducible repeat (first | refine blk_drewN ?_ _ | refine blk_drew ?_ | refine blk_alloc ?_ _)); refine blk_put (cs := #[.slice Ao29 t628.length co29, .slice none 0 0, .int .i64 0]) ?_ 1 _ rfl; (with_reducible repeat (first | refine blk_drewN ?_ _ | refine blk_drew ?_ | refine blk_alloc ?_ _)); refine blk_put (cs := #[.slice none 0 0, .slice none 0 0, .int .i64 0]) ?_ 0 _ rfl; (with_reducible repeat (first | refine blk_drewN ?_ _ | refine blk_drew ?_ | refine blk_alloc ?_ _)); exact BK636.out) hb); have n6_ := Aside0.mk (below_step (by repeat (first | (with_reducible first | exact HB.out | apply below_alloc | apply pw_below_drewN | apply below_drew1 | refine below_set ?_ GE624.out | refine below_set ?_ GE636.out) | exact HB.out)) hb); clear HO630; clear HO633; clear BK624; clear BK636; clear HB; have HO630 := n0_; have HO633 := n1_; have HO641 := n2_; have HO644 := n3_; have BK624 := n4_; have BK636 := n5_; have HB := n6_; clear n0_ n1_ n2_ n3_ n4_ n5_ n6_; (try clear hb); (try clear hb2); (try clear hk); (try clear hi); (try clear ho0); (try clear ho1)) | ((with_reducible refine gate_dst (N := 7) rfl ?_); (try (refine gate_guard (by rfl) ?_; dsimp only)); refine box_event ?hg (N := 7) ?hd (cs := #[.slice none 0 0, .slice none 0 0, .int .i64 0]) (t := 29) ?hr ?_; (case hd => rfl); (case hg => rfl); (case hr => first | (go_simp; done) | (go_simp; rfl)); intro gb646 hg w34 hbox hb; have n0_ := Aside0.mk (Kd.R_below (by (with_reducible repeat (first | apply Kd.R_alloc | apply Kd.R_drewN | apply Kd.R_drew)); exact HO630.out) hb); have n1_ := Aside0.mk (Kd.R_below (by (with_reducible repeat (first | apply Kd.R_alloc | apply Kd.R_drewN | apply Kd.R_drew)); exact HO633.out) hb); have n2_ := Aside0.mk (Kd.R_below (by (with_reducible repeat (first | apply Kd.R_alloc | apply Kd.R_drewN | apply Kd.R_drew)); exact HO641.out) hb); have n3_ := Aside0.mk (Kd.R_below (by (with_reducible repeat (first | apply Kd.R_alloc | apply Kd.R_drewN | apply Kd.R_drew)); exact HO644.out) hb); have n4_ := Aside0.mk (blk_below (g := gb624) (o := .cells #[.slice A0_0 l0_0.length c0_0, .slice A0_1 l0_1.length c0_1, .int .i64 a0_2] 29 (0, 0)) (by (with_reducible repeat (first | refine blk_drewN ?_ _ | refine blk_drew ?_ | refine blk_alloc ?_ _)); exact BK624.out) hb); have n5_ := Aside0.mk (blk_below (g := gb636) (o := .cells #[.slice Ao29 t628.length co29, .slice Ao32 t631.length co32, .int .i64 t634] 29 (0, 0)) (by (with_reducible repeat (first | refine blk_drewN ?_ _ | refine blk_drew ?_ | refine blk_alloc ?_ _)); exact BK636.out) hb); have n6_ := Aside0.mk (below_step (by repeat (first | (with_reducible first | exact HB.out | apply below_alloc | apply pw_below_drewN | apply below_drew1 | refine below_set ?_ GE624.out | refine below_set ?_ GE636.out) | exact HB.out)) hb); have n7_ := Aside0.mk (hbox); have n8_ := Aside0.mk ((by rw [hg]; exact (below_size (by repeat (first | (with_reducible first | exact HB.out | apply below_alloc | apply pw_below_drewN | apply below_drew1 | refine below_set ?_ GE624.out | refine below_set ?_ GE636.out) | exact HB.out))) : w.heap.size ≤ gb646)); have n9_ := Aside0.mk ((by rw [hg]; exact (below_size (by repeat (first | (with_reducible first | exact HB.out | apply below_alloc | apply pw_below_drewN | apply below_drew1 | refine below_set ?_ GE624.out | refine below_set ?_ GE636.out) | exact HB.out))) : w.heap.size ≤ gb646)); have n10_ := Aside0.mk ((by rw [hg]; exact Nat.ne_of_lt (blk_lt (g := gb624) (o := .cells #[.slice A0_0 l0_0.length c0_0, .slice A0_1 l0_1.length c0_1, .int .i64 a0_2] 29 (0, 0)) (by (with_reducible repeat (first | refine blk_drewN ?_ _ | refine blk_drew ?_ | refine blk_alloc ?_ _)); exact BK624.out)) : gb624 ≠ gb646)); have n11_ := Aside0.mk ((by rw [hg]; exact Nat.ne_of_gt (blk_lt (g := gb624) (o := .cells #[.slice A0_0 l0_0.length c0_0, .slice A0_1 l0_1.length c0_1, .int .i64 a0_2] 29 (0, 0)) (by (with_reducible repeat (first | refine blk_drewN ?_ _ | refine blk_drew ?_ | refine blk_alloc ?_ _)); exact BK624.out)) : gb646 ≠ gb624)); have n12_ := Aside0.mk ((by rw [hg]; exact Nat.ne_of_lt (blk_lt (g := gb636) (o := .cells #[.slice Ao29 t628.length co29, .slice Ao32 t631.length co32, .int .i64 t634] 29 (0, 0)) (by (with_reducible repeat (first | refine blk_drewN ?_ _ | refine blk_drew ?_ | refine blk_alloc ?_ _)); exact BK636.out)) : gb636 ≠ gb646)); have n13_ := Aside0.mk ((by rw [hg]; exact Nat.ne_of_gt (blk_lt (g := gb636) (o := .cells #[.slice Ao29 t628.length co29, .slice Ao32 t631.length co32, .int .i64 t634] 29 (0, 0)) (by (with_reducible repeat (first | refine blk_drewN ?_ _ | refine blk_drew ?_ | refine blk_alloc ?_ _)); exact BK636.out)) : gb646 ≠ gb636)); clear HO630; clear HO633; clear HO641; clear HO644; clear BK624; clear BK636; clear HB; have HO630 := n0_; have HO633 := n1_; have HO641 := n2_; have HO644 := n3_; have BK624 := n4_; have BK636 := n5_; have HB := n6_; have BK646 := n7_; have GW646 := n8_; have GE646 := n9_; have NB624_646 := n10_; have NB646_624 := n11_; have NB636_646 := n12_; have NB646_636 := n13_; clear n0_ n1_ n2_ n3_ n4_ n5_ n6_ n7_ n8_ n9_ n10_ n11_ n12_ n13_; clear hb hbox hg; obtain ⟨Ao35, co35, eo35⟩ := Kd.R_slice HO641.out; subst eo35; have hnb36 := NB646_624.out; have hnc36 := NB624_646.out; have hnb37 := NB646_636.out; have hnc37 := NB636_646.out; have hcz38_0 : w34.cell? ⟨gb646, 0, none⟩ = some (.slice none 0 0) := (blk_cell BK646.out 0).trans rfl; have hcz38_1 : w34.cell? ⟨gb646, 1, none⟩ = some (.slice none 0 0) := (blk_cell BK646.out 1).trans rfl; have hcz38_2 : w34.cell? ⟨gb646, 2, none⟩ = some (.int .i64 0) := (blk_cell BK646.out 2).trans rfl; have hfz38_0 := blk_frozen BK646.out 0; have hfz38_1 := blk_frozen BK646.out 1; have hfz38_2 := blk_frozen BK646.out 2; obtain ⟨Ao39, co39, eo39⟩ := Kd.R_slice HO644.out; subst eo39))
          (try simp only [Act.put, List.setIfInBounds_toArray, List.set_cons_zero, List.set_cons_succ])
          go_cut [76] (fun v76 wc => ∃ (kq : Nat) (x76_24 : Bool), v76 = .bool x76_24 ∧ Aside0 (hibernaclelaw15_DriveSure.j1 kq x76_24 l0_0 l0_1 a0_2 t639 t642 t645 = some r) ∧ Aside0 (kq ≤ kj2) ∧ Aside0 (Kd.R Kd.string 9 wc w.heap.size (fun k_ => some k_ ≠ ((.slice Ao35 t639.length co35) : Value).ownBlock) (.slice Ao29 t628.length co29) t628) ∧ Aside0 (Kd.R k27 27 wc w.heap.size (fun k_ => some k_ ≠ ((.slice Ao39 t642.length co39) : Value).ownBlock) (.slice Ao32 t631.length co32) t631) ∧ Aside0 (Kd.R Kd.string 9 wc w.heap.size (fun k_ => some k_ ≠ ((.slice Ao29 t628.length co29) : Value).ownBlock) (.slice Ao35 t639.length co35) t639) ∧ Aside0 (Kd.R k27 27 wc w.heap.size (fun k_ => some k_ ≠ ((.slice Ao32 t631.length co32) : Value).ownBlock) (.slice Ao39 t642.length co39) t642) ∧ Aside0 (wc.heap[gb624]? = some (.cells #[(.slice A0_0 l0_0.length c0_0), (.slice A0_1 l0_1.length c0_1), .int .i64 a0_2] 29 (0, 0))) ∧ Aside0 (wc.heap[gb636]? = some (.cells #[(.slice Ao29 t628.length co29), (.slice Ao32 t631.length co32), .int .i64 t634] 29 (0, 0))) ∧ Aside0 (wc.heap[gb646]? = some (.cells #[(.slice Ao35 t639.length co35), (.slice Ao39 t642.length co39), .int .i64 t645] 29 (0, 0))) ∧ Aside0 (Below w.heap.size w wc))
          case first =>
            have H := HC25.out
            clear HC25
            by_cases c40 : (t631.length : Int) = 0
            · rw [if_pos c40] at H
              have c40b0 : ((t631.length : Int) == 0) = true := beq_iff_eq.mpr c40
              have c40b1 : ((t631.length : Int) != 0) = false := bne_eq_false_iff_eq.mpr c40
              clear c40
              (first | rw [c40b0] | (simp only [i64_w, i32_w]; rw [c40b0]) | skip)
              by_cases c41 : (t639.length : Int) = (l0_0.length : Int)
              · rw [if_pos c41] at H
                have c41b0 : ((t639.length : Int) == (l0_0.length : Int)) = true := beq_iff_eq.mpr c41
                have c41b1 : ((t639.length : Int) != (l0_0.length : Int)) = false := bne_eq_false_iff_eq.mpr c41
                have c41b2 : (t639.length == l0_0.length) = true := by first | simpa using c41 | (simp at c41 ⊢; omega)
                clear c41
                replace H := Option.bind_eq_some_iff.mp H
                obtain ⟨t647, A420, H⟩ := H
                replace H : (if t647 = 0 then (if (t642.length : Int) = 0 then (hibernaclelaw15_DriveSure.j1 kj2 (decide (t645 ≥ 0)) l0_0 l0_1 a0_2 t639 t642 t645) else (hibernaclelaw15_DriveSure.j1 kj2 true l0_0 l0_1 a0_2 t639 t642 t645)) else (hibernaclelaw15_DriveSure.j1 kj2 true l0_0 l0_1 a0_2 t639 t642 t645)) = some r := H
                have A42 := Aside0.mk A420
                clear A420
                by_cases c43 : t647 = 0
                · rw [if_pos c43] at H
                  have c43b0 : (t647 == 0) = true := beq_iff_eq.mpr c43
                  have c43b1 : (t647 != 0) = false := bne_eq_false_iff_eq.mpr c43
                  clear c43
                  by_cases c44 : (t642.length : Int) = 0
                  · rw [if_pos c44] at H
                    have c44b0 : ((t642.length : Int) == 0) = true := beq_iff_eq.mpr c44
                    have c44b1 : ((t642.length : Int) != 0) = false := bne_eq_false_iff_eq.mpr c44
                    clear c44
                    have H' := Aside0.mk H
                    clear H
                    have hnb45 := NB636_624.out
                    have hnc45 := NB624_636.out
                    have hnb46 := NB636_646.out
                    have hnc46 := NB646_636.out
                    have hcz47_0 : w34.cell? ⟨gb636, 0, none⟩ = some (.slice Ao29 t628.length co29) := (blk_cell BK636.out 0).trans rfl
                    have hcz47_1 : w34.cell? ⟨gb636, 1, none⟩ = some (.slice Ao32 t631.length co32) := (blk_cell BK636.out 1).trans rfl
                    have hcz47_2 : w34.cell? ⟨gb636, 2, none⟩ = some (.int .i64 t634) := (blk_cell BK636.out 2).trans rfl
                    have hfz47_0 := blk_frozen BK636.out 0
                    have hfz47_1 := blk_frozen BK636.out 1
                    have hfz47_2 := blk_frozen BK636.out 2
                    have hnb48 := NB646_624.out
                    have hnc48 := NB624_646.out
                    have hcz49_0 : w34.cell? ⟨gb646, 0, none⟩ = some (.slice none 0 0) := (blk_cell BK646.out 0).trans rfl
                    have hcz49_1 : w34.cell? ⟨gb646, 1, none⟩ = some (.slice none 0 0) := (blk_cell BK646.out 1).trans rfl
                    have hcz49_2 : w34.cell? ⟨gb646, 2, none⟩ = some (.int .i64 0) := (blk_cell BK646.out 2).trans rfl
                    have hfz49_0 := blk_frozen BK646.out 0
                    have hfz49_1 := blk_frozen BK646.out 1
                    have hfz49_2 := blk_frozen BK646.out 2
                    have hcz50_0 : w34.cell? ⟨gb624, 0, none⟩ = some (.slice A0_0 l0_0.length c0_0) := (blk_cell BK624.out 0).trans rfl
                    have hcz50_1 : w34.cell? ⟨gb624, 1, none⟩ = some (.slice A0_1 l0_1.length c0_1) := (blk_cell BK624.out 1).trans rfl
                    have hcz50_2 : w34.cell? ⟨gb624, 2, none⟩ = some (.int .i64 a0_2) := (blk_cell BK624.out 2).trans rfl
                    have hfz50_0 := blk_frozen BK624.out 0
                    have hfz50_1 := blk_frozen BK624.out 1
                    have hfz50_2 := blk_frozen BK624.out 2
                    go_wp2_with (first | (go_at_call 34; (with_reducible refine (drive_Check.calls _ _ t639 _ _ t642 t645 t647 _ ?side1 ?side2 ?side3 ?side4 A42.out).mono ?_); (case side1 => refine (Kd.R_reads' (e := 9) (base := w.heap.size) (ok := fun k_ => (True ∧ some k_ ≠ (.slice Ao29 t628.length co29 : Value).ownBlock)) (n := t639.length) (c := co35) ?_).2.2; exact (by (with_reducible repeat (first | apply Kd.R_alloc | apply Kd.R_drewN | apply Kd.R_drew)); exact (Kd.R_mono (Kd.R_far (p := ⟨gb646, 2, none⟩) (Kd.R_far (p := ⟨gb646, 1, none⟩) (Kd.R_far (p := ⟨gb646, 0, none⟩) (Kd.R_types HO641.out BK646.out (by decide)) (fun _ hk => hk.2) (.slice Ao35 t639.length co35)) (fun _ hk => hk.2) (.slice Ao39 t642.length co39)) (fun _ hk => hk.2) (.int .i64 t645)) (fun _ h_ => h_.1)))); (case side2 => exact (Kd.R_reads' HO641.out).2.1); (case side3 => refine (Kd.R_reads' (e := 27) (base := w.heap.size) (ok := fun k_ => (True ∧ some k_ ≠ (.slice Ao32 t631.length co32 : Value).ownBlock)) (n := t642.length) (c := co39) ?_).2.2; exact (by (with_reducible repeat (first | apply Kd.R_alloc | apply Kd.R_drewN | apply Kd.R_drew)); exact (Kd.R_mono (Kd.R_far (p := ⟨gb646, 2, none⟩) (Kd.R_far (p := ⟨gb646, 1, none⟩) (Kd.R_far (p := ⟨gb646, 0, none⟩) (Kd.R_types HO644.out BK646.out (by decide)) (fun _ hk => hk.2) (.slice Ao35 t639.length co35)) (fun _ hk => hk.2) (.slice Ao39 t642.length co39)) (fun _ hk => hk.2) (.int .i64 t645)) (fun _ h_ => h_.1)))); (case side4 => exact (Kd.R_reads' HO644.out).2.1); rintro e w51 ⟨rfl, hb⟩; have n0_ := Aside0.mk (Kd.R_below (by (with_reducible repeat (first | apply Kd.R_alloc | apply Kd.R_drewN | apply Kd.R_drew)); exact (Kd.R_mono (Kd.R_far (p := ⟨gb646, 2, none⟩) (Kd.R_far (p := ⟨gb646, 1, none⟩) (Kd.R_far (p := ⟨gb646, 0, none⟩) (Kd.R_types HO630.out BK646.out (by decide)) (fun _ hk => hk.2) (.slice Ao35 t639.length co35)) (fun _ hk => hk.2) (.slice Ao39 t642.length co39)) (fun _ hk => hk.2) (.int .i64 t645)) (fun _ h_ => h_.1))) hb); have n1_ := Aside0.mk (Kd.R_below (by (with_reducible repeat (first | apply Kd.R_alloc | apply Kd.R_drewN | apply Kd.R_drew)); exact (Kd.R_mono (Kd.R_far (p := ⟨gb646, 2, none⟩) (Kd.R_far (p := ⟨gb646, 1, none⟩) (Kd.R_far (p := ⟨gb646, 0, none⟩) (Kd.R_types HO633.out BK646.out (by decide)) (fun _ hk => hk.2) (.slice Ao35 t639.length co35)) (fun _ hk => hk.2) (.slice Ao39 t642.length co39)) (fun _ hk => hk.2) (.int .i64 t645)) (fun _ h_ => h_.1))) hb); have n2_ := Aside0.mk (Kd.R_below (by (with_reducible repeat (first | apply Kd.R_alloc | apply Kd.R_drewN | apply Kd.R_drew)); exact (Kd.R_mono (Kd.R_far (p := ⟨gb646, 2, none⟩) (Kd.R_far (p := ⟨gb646, 1, none⟩) (Kd.R_far (p := ⟨gb646, 0, none⟩) (Kd.R_types HO641.out BK646.out (by decide)) (fun _ hk => hk.2) (.slice Ao35 t639.length co35)) (fun _ hk => hk.2) (.slice Ao39 t642.length co39)) (fun _ hk => hk.2) (.int .i64 t645)) (fun _ h_ => h_.1))) hb); have n3_ := Aside0.mk (Kd.R_below (by (with_reducible repeat (first | apply Kd.R_alloc | apply Kd.R_drewN | apply Kd.R_drew)); exact (Kd.R_mono (Kd.R_far (p := ⟨gb646, 2, none⟩) (Kd.R_far (p := ⟨gb646, 1, none⟩) (Kd.R_far (p := ⟨gb646, 0, none⟩) (Kd.R_types HO644.out BK646.out (by decide)) (fun _ hk => hk.2) (.slice Ao35 t639.length co35)) (fun _ hk => hk.2) (.slice Ao39 t642.length co39)) (fun _ hk => hk.2) (.int .i64 t645)) (fun _ h_ => h_.1))) hb); have n4_ := Aside0.mk (blk_below (g := gb624) (o := .cells #[.slice A0_0 l0_0.length c0_0, .slice A0_1 l0_1.length c0_1, .int .i64 a0_2] 29 (0, 0)) (by (with_reducible repeat (first | refine blk_drewN ?_ _ | refine blk_drew ?_ | refine blk_alloc ?_ _)); refine blk_far ?_ NB624_646.out _; (with_reducible repeat (first | refine blk_drewN ?_ _ | refine blk_drew ?_ | refine blk_alloc ?_ _)); refine blk_far ?_ NB624_646.out _; (with_reducible repeat (first | refine blk_drewN ?_ _ | refine blk_drew ?_ | refine blk_alloc ?_ _)); refine blk_far ?_ NB624_646.out _; (with_reducible repeat (first | refine blk_drewN ?_ _ | refine blk_drew ?_ | refine blk_alloc ?_ _)); exact BK624.out) hb); have n5_ := Aside0.mk (blk_below (g := gb636) (o := .cells #[.slice Ao29 t628.length co29, .slice Ao32 t631.length co32, .int .i64 t634] 29 (0, 0)) (by (with_reducible repeat (first | refine blk_drewN ?_ _ | refine blk_drew ?_ | refine blk_alloc ?_ _)); refine blk_far ?_ NB636_646.out _; (with_reducible repeat (first | refine blk_drewN ?_ _ | refine blk_drew ?_ | refine blk_alloc ?_ _)); refine blk_far ?_ NB636_646.out _; (with_reducible repeat (first | refine blk_drewN ?_ _ | refine blk_drew ?_ | refine blk_alloc ?_ _)); refine blk_far ?_ NB636_646.out _; (with_reducible repeat (first | refine blk_drewN ?_ _ | refine blk_drew ?_ | refine blk_alloc ?_ _)); exact BK636.out) hb); have n6_ := Aside0.mk (blk_below (g := gb646) (o := .cells #[.slice Ao35 t639.length co35, .slice Ao39 t642.length co39, .int .i64 t645] 29 (0, 0)) (by (with_reducible repeat (first | refine blk_drewN ?_ _ | refine blk_drew ?_ | refine blk_alloc ?_ _)); refine blk_put (cs := #[.slice Ao35 t639.length co35, .slice Ao39 t642.length co39, .int .i64 0]) ?_ 2 _ rfl; (with_reducible repeat (first | refine blk_drewN ?_ _ | refine blk_drew ?_ | refine blk_alloc ?_ _)); refine blk_put (cs := #[.slice Ao35 t639.length co35, .slice none 0 0, .int .i64 0]) ?_ 1 _ rfl; (with_reducible repeat (first | refine blk_drewN ?_ _ | refine blk_drew ?_ | refine blk_alloc ?_ _)); refine blk_put (cs := #[.slice none 0 0, .slice none 0 0, .int .i64 0]) ?_ 0 _ rfl; (with_reducible repeat (first | refine blk_drewN ?_ _ | refine blk_drew ?_ | refine blk_alloc ?_ _)); exact BK646.out) hb); have n7_ := Aside0.mk (below_step (by repeat (first | (with_reducible first | exact HB.out | apply below_alloc | apply pw_below_drewN | apply below_drew1 | refine below_set ?_ GE624.out | refine below_set ?_ GE636.out | refine below_set ?_ GE646.out) | exact HB.out)) hb); clear HO630; clear HO633; clear HO641; clear HO644; clear BK624; clear BK636; clear BK646; clear HB; have HO630 := n0_; have HO633 := n1_; have HO641 := n2_; have HO644 := n3_; have BK624 := n4_; have BK636 := n5_; have BK646 := n6_; have HB := n7_; clear n0_ n1_ n2_ n3_ n4_ n5_ n6_ n7_; (try clear hb); (try clear hb2); (try clear hk); (try clear hi); have hcz52_0 : w51.cell? ⟨gb646, 0, none⟩ = some (.slice Ao35 t639.length co35) := (blk_cell BK646.out 0).trans rfl; have hcz52_1 : w51.cell? ⟨gb646, 1, none⟩ = some (.slice Ao39 t642.length co39) := (blk_cell BK646.out 1).trans rfl; have hcz52_2 : w51.cell? ⟨gb646, 2, none⟩ = some (.int .i64 t645) := (blk_cell BK646.out 2).trans rfl; have hfz52_0 := blk_frozen BK646.out 0; have hfz52_1 := blk_frozen BK646.out 1; have hfz52_2 := blk_frozen BK646.out 2))
                    go_meet
                    case rel => exact ⟨_, (decide (t645 ≥ 0)), (by first | rfl | (simp; done) | (simp [*]; done)), H', ⟨by have := HJ2.out; first | omega | exact Nat.le_refl _⟩, ⟨by (with_reducible repeat (first | apply Kd.R_alloc | apply Kd.R_drewN | apply Kd.R_drew)); exact Kd.R_mono HO630.out (fun _ hk => hk.2)⟩, ⟨by (with_reducible repeat (first | apply Kd.R_alloc | apply Kd.R_drewN | apply Kd.R_drew)); exact Kd.R_mono HO633.out (fun _ hk => hk.2)⟩, ⟨by (with_reducible repeat (first | apply Kd.R_alloc | apply Kd.R_drewN | apply Kd.R_drew)); exact Kd.R_mono HO641.out (fun _ hk => hk.2)⟩, ⟨by (with_reducible repeat (first | apply Kd.R_alloc | apply Kd.R_drewN | apply Kd.R_drew)); exact Kd.R_mono HO644.out (fun _ hk => hk.2)⟩, ⟨by (with_reducible repeat (first | refine blk_drewN ?_ _ | refine blk_drew ?_ | refine blk_alloc ?_ _)); exact BK624.out⟩, ⟨by (with_reducible repeat (first | refine blk_drewN ?_ _ | refine blk_drew ?_ | refine blk_alloc ?_ _)); exact BK636.out⟩, ⟨by (with_reducible repeat (first | refine blk_drewN ?_ _ | refine blk_drew ?_ | refine blk_alloc ?_ _)); exact BK646.out⟩, ⟨by repeat (first | (with_reducible first | exact HB.out | apply below_alloc | apply pw_below_drewN | apply below_drew1 | refine below_set ?_ GE624.out | refine below_set ?_ GE636.out | refine below_set ?_ GE646.out) | exact HB.out)⟩⟩
                  · rw [if_neg c44] at H
                    have c44b0 : ((t642.length : Int) == 0) = false := beq_eq_false_iff_ne.mpr c44
                    have c44b1 : ((t642.length : Int) != 0) = true := bne_iff_ne.mpr c44
                    have c44b2 : ¬ (t642 = []) := fun h_ => c44 (by rw [h_]; rfl)
                    have H' := Aside0.mk H
                    clear H
                    have hnb53 := NB636_624.out
                    have hnc53 := NB624_636.out
                    have hnb54 := NB636_646.out
                    have hnc54 := NB646_636.out
                    have hcz55_0 : w34.cell? ⟨gb636, 0, none⟩ = some (.slice Ao29 t628.length co29) := (blk_cell BK636.out 0).trans rfl
                    have hcz55_1 : w34.cell? ⟨gb636, 1, none⟩ = some (.slice Ao32 t631.length co32) := (blk_cell BK636.out 1).trans rfl
                    have hcz55_2 : w34.cell? ⟨gb636, 2, none⟩ = some (.int .i64 t634) := (blk_cell BK636.out 2).trans rfl
                    have hfz55_0 := blk_frozen BK636.out 0
                    have hfz55_1 := blk_frozen BK636.out 1
                    have hfz55_2 := blk_frozen BK636.out 2
                    have hnb56 := NB646_624.out
                    have hnc56 := NB624_646.out
                    have hcz57_0 : w34.cell? ⟨gb646, 0, none⟩ = some (.slice none 0 0) := (blk_cell BK646.out 0).trans rfl
                    have hcz57_1 : w34.cell? ⟨gb646, 1, none⟩ = some (.slice none 0 0) := (blk_cell BK646.out 1).trans rfl
                    have hcz57_2 : w34.cell? ⟨gb646, 2, none⟩ = some (.int .i64 0) := (blk_cell BK646.out 2).trans rfl
                    have hfz57_0 := blk_frozen BK646.out 0
                    have hfz57_1 := blk_frozen BK646.out 1
                    have hfz57_2 := blk_frozen BK646.out 2
                    have hcz58_0 : w34.cell? ⟨gb624, 0, none⟩ = some (.slice A0_0 l0_0.length c0_0) := (blk_cell BK624.out 0).trans rfl
                    have hcz58_1 : w34.cell? ⟨gb624, 1, none⟩ = some (.slice A0_1 l0_1.length c0_1) := (blk_cell BK624.out 1).trans rfl
                    have hcz58_2 : w34.cell? ⟨gb624, 2, none⟩ = some (.int .i64 a0_2) := (blk_cell BK624.out 2).trans rfl
                    have hfz58_0 := blk_frozen BK624.out 0
                    have hfz58_1 := blk_frozen BK624.out 1
                    have hfz58_2 := blk_frozen BK624.out 2
                    go_wp2_with (first | (go_at_call 34; (with_reducible refine (drive_Check.calls _ _ t639 _ _ t642 t645 t647 _ ?side1 ?side2 ?side3 ?side4 A42.out).mono ?_); (case side1 => refine (Kd.R_reads' (e := 9) (base := w.heap.size) (ok := fun k_ => (True ∧ some k_ ≠ (.slice Ao29 t628.length co29 : Value).ownBlock)) (n := t639.length) (c := co35) ?_).2.2; exact (by (with_reducible repeat (first | apply Kd.R_alloc | apply Kd.R_drewN | apply Kd.R_drew)); exact (Kd.R_mono (Kd.R_far (p := ⟨gb646, 2, none⟩) (Kd.R_far (p := ⟨gb646, 1, none⟩) (Kd.R_far (p := ⟨gb646, 0, none⟩) (Kd.R_types HO641.out BK646.out (by decide)) (fun _ hk => hk.2) (.slice Ao35 t639.length co35)) (fun _ hk => hk.2) (.slice Ao39 t642.length co39)) (fun _ hk => hk.2) (.int .i64 t645)) (fun _ h_ => h_.1)))); (case side2 => exact (Kd.R_reads' HO641.out).2.1); (case side3 => refine (Kd.R_reads' (e := 27) (base := w.heap.size) (ok := fun k_ => (True ∧ some k_ ≠ (.slice Ao32 t631.length co32 : Value).ownBlock)) (n := t642.length) (c := co39) ?_).2.2; exact (by (with_reducible repeat (first | apply Kd.R_alloc | apply Kd.R_drewN | apply Kd.R_drew)); exact (Kd.R_mono (Kd.R_far (p := ⟨gb646, 2, none⟩) (Kd.R_far (p := ⟨gb646, 1, none⟩) (Kd.R_far (p := ⟨gb646, 0, none⟩) (Kd.R_types HO644.out BK646.out (by decide)) (fun _ hk => hk.2) (.slice Ao35 t639.length co35)) (fun _ hk => hk.2) (.slice Ao39 t642.length co39)) (fun _ hk => hk.2) (.int .i64 t645)) (fun _ h_ => h_.1)))); (case side4 => exact (Kd.R_reads' HO644.out).2.1); rintro e w59 ⟨rfl, hb⟩; have n0_ := Aside0.mk (Kd.R_below (by (with_reducible repeat (first | apply Kd.R_alloc | apply Kd.R_drewN | apply Kd.R_drew)); exact (Kd.R_mono (Kd.R_far (p := ⟨gb646, 2, none⟩) (Kd.R_far (p := ⟨gb646, 1, none⟩) (Kd.R_far (p := ⟨gb646, 0, none⟩) (Kd.R_types HO630.out BK646.out (by decide)) (fun _ hk => hk.2) (.slice Ao35 t639.length co35)) (fun _ hk => hk.2) (.slice Ao39 t642.length co39)) (fun _ hk => hk.2) (.int .i64 t645)) (fun _ h_ => h_.1))) hb); have n1_ := Aside0.mk (Kd.R_below (by (with_reducible repeat (first | apply Kd.R_alloc | apply Kd.R_drewN | apply Kd.R_drew)); exact (Kd.R_mono (Kd.R_far (p := ⟨gb646, 2, none⟩) (Kd.R_far (p := ⟨gb646, 1, none⟩) (Kd.R_far (p := ⟨gb646, 0, none⟩) (Kd.R_types HO633.out BK646.out (by decide)) (fun _ hk => hk.2) (.slice Ao35 t639.length co35)) (fun _ hk => hk.2) (.slice Ao39 t642.length co39)) (fun _ hk => hk.2) (.int .i64 t645)) (fun _ h_ => h_.1))) hb); have n2_ := Aside0.mk (Kd.R_below (by (with_reducible repeat (first | apply Kd.R_alloc | apply Kd.R_drewN | apply Kd.R_drew)); exact (Kd.R_mono (Kd.R_far (p := ⟨gb646, 2, none⟩) (Kd.R_far (p := ⟨gb646, 1, none⟩) (Kd.R_far (p := ⟨gb646, 0, none⟩) (Kd.R_types HO641.out BK646.out (by decide)) (fun _ hk => hk.2) (.slice Ao35 t639.length co35)) (fun _ hk => hk.2) (.slice Ao39 t642.length co39)) (fun _ hk => hk.2) (.int .i64 t645)) (fun _ h_ => h_.1))) hb); have n3_ := Aside0.mk (Kd.R_below (by (with_reducible repeat (first | apply Kd.R_alloc | apply Kd.R_drewN | apply Kd.R_drew)); exact (Kd.R_mono (Kd.R_far (p := ⟨gb646, 2, none⟩) (Kd.R_far (p := ⟨gb646, 1, none⟩) (Kd.R_far (p := ⟨gb646, 0, none⟩) (Kd.R_types HO644.out BK646.out (by decide)) (fun _ hk => hk.2) (.slice Ao35 t639.length co35)) (fun _ hk => hk.2) (.slice Ao39 t642.length co39)) (fun _ hk => hk.2) (.int .i64 t645)) (fun _ h_ => h_.1))) hb); have n4_ := Aside0.mk (blk_below (g := gb624) (o := .cells #[.slice A0_0 l0_0.length c0_0, .slice A0_1 l0_1.length c0_1, .int .i64 a0_2] 29 (0, 0)) (by (with_reducible repeat (first | refine blk_drewN ?_ _ | refine blk_drew ?_ | refine blk_alloc ?_ _)); refine blk_far ?_ NB624_646.out _; (with_reducible repeat (first | refine blk_drewN ?_ _ | refine blk_drew ?_ | refine blk_alloc ?_ _)); refine blk_far ?_ NB624_646.out _; (with_reducible repeat (first | refine blk_drewN ?_ _ | refine blk_drew ?_ | refine blk_alloc ?_ _)); refine blk_far ?_ NB624_646.out _; (with_reducible repeat (first | refine blk_drewN ?_ _ | refine blk_drew ?_ | refine blk_alloc ?_ _)); exact BK624.out) hb); have n5_ := Aside0.mk (blk_below (g := gb636) (o := .cells #[.slice Ao29 t628.length co29, .slice Ao32 t631.length co32, .int .i64 t634] 29 (0, 0)) (by (with_reducible repeat (first | refine blk_drewN ?_ _ | refine blk_drew ?_ | refine blk_alloc ?_ _)); refine blk_far ?_ NB636_646.out _; (with_reducible repeat (first | refine blk_drewN ?_ _ | refine blk_drew ?_ | refine blk_alloc ?_ _)); refine blk_far ?_ NB636_646.out _; (with_reducible repeat (first | refine blk_drewN ?_ _ | refine blk_drew ?_ | refine blk_alloc ?_ _)); refine blk_far ?_ NB636_646.out _; (with_reducible repeat (first | refine blk_drewN ?_ _ | refine blk_drew ?_ | refine blk_alloc ?_ _)); exact BK636.out) hb); have n6_ := Aside0.mk (blk_below (g := gb646) (o := .cells #[.slice Ao35 t639.length co35, .slice Ao39 t642.length co39, .int .i64 t645] 29 (0, 0)) (by (with_reducible repeat (first | refine blk_drewN ?_ _ | refine blk_drew ?_ | refine blk_alloc ?_ _)); refine blk_put (cs := #[.slice Ao35 t639.length co35, .slice Ao39 t642.length co39, .int .i64 0]) ?_ 2 _ rfl; (with_reducible repeat (first | refine blk_drewN ?_ _ | refine blk_drew ?_ | refine blk_alloc ?_ _)); refine blk_put (cs := #[.slice Ao35 t639.length co35, .slice none 0 0, .int .i64 0]) ?_ 1 _ rfl; (with_reducible repeat (first | refine blk_drewN ?_ _ | refine blk_drew ?_ | refine blk_alloc ?_ _)); refine blk_put (cs := #[.slice none 0 0, .slice none 0 0, .int .i64 0]) ?_ 0 _ rfl; (with_reducible repeat (first | refine blk_drewN ?_ _ | refine blk_drew ?_ | refine blk_alloc ?_ _)); exact BK646.out) hb); have n7_ := Aside0.mk (below_step (by repeat (first | (with_reducible first | exact HB.out | apply below_alloc | apply pw_below_drewN | apply below_drew1 | refine below_set ?_ GE624.out | refine below_set ?_ GE636.out | refine below_set ?_ GE646.out) | exact HB.out)) hb); clear HO630; clear HO633; clear HO641; clear HO644; clear BK624; clear BK636; clear BK646; clear HB; have HO630 := n0_; have HO633 := n1_; have HO641 := n2_; have HO644 := n3_; have BK624 := n4_; have BK636 := n5_; have BK646 := n6_; have HB := n7_; clear n0_ n1_ n2_ n3_ n4_ n5_ n6_ n7_; (try clear hb); (try clear hb2); (try clear hk); (try clear hi); have hcz60_0 : w59.cell? ⟨gb646, 0, none⟩ = some (.slice Ao35 t639.length co35) := (blk_cell BK646.out 0).trans rfl; have hcz60_1 : w59.cell? ⟨gb646, 1, none⟩ = some (.slice Ao39 t642.length co39) := (blk_cell BK646.out 1).trans rfl; have hcz60_2 : w59.cell? ⟨gb646, 2, none⟩ = some (.int .i64 t645) := (blk_cell BK646.out 2).trans rfl; have hfz60_0 := blk_frozen BK646.out 0; have hfz60_1 := blk_frozen BK646.out 1; have hfz60_2 := blk_frozen BK646.out 2))
                    go_meet
                    case rel => exact ⟨_, (true), (by first | rfl | (simp; done) | (simp [*]; done)), H', ⟨by have := HJ2.out; first | omega | exact Nat.le_refl _⟩, ⟨by (with_reducible repeat (first | apply Kd.R_alloc | apply Kd.R_drewN | apply Kd.R_drew)); exact Kd.R_mono HO630.out (fun _ hk => hk.2)⟩, ⟨by (with_reducible repeat (first | apply Kd.R_alloc | apply Kd.R_drewN | apply Kd.R_drew)); exact Kd.R_mono HO633.out (fun _ hk => hk.2)⟩, ⟨by (with_reducible repeat (first | apply Kd.R_alloc | apply Kd.R_drewN | apply Kd.R_drew)); exact Kd.R_mono HO641.out (fun _ hk => hk.2)⟩, ⟨by (with_reducible repeat (first | apply Kd.R_alloc | apply Kd.R_drewN | apply Kd.R_drew)); exact Kd.R_mono HO644.out (fun _ hk => hk.2)⟩, ⟨by (with_reducible repeat (first | refine blk_drewN ?_ _ | refine blk_drew ?_ | refine blk_alloc ?_ _)); exact BK624.out⟩, ⟨by (with_reducible repeat (first | refine blk_drewN ?_ _ | refine blk_drew ?_ | refine blk_alloc ?_ _)); exact BK636.out⟩, ⟨by (with_reducible repeat (first | refine blk_drewN ?_ _ | refine blk_drew ?_ | refine blk_alloc ?_ _)); exact BK646.out⟩, ⟨by repeat (first | (with_reducible first | exact HB.out | apply below_alloc | apply pw_below_drewN | apply below_drew1 | refine below_set ?_ GE624.out | refine below_set ?_ GE636.out | refine below_set ?_ GE646.out) | exact HB.out)⟩⟩
                · rw [if_neg c43] at H
                  have c43b0 : (t647 == 0) = false := beq_eq_false_iff_ne.mpr c43
                  have c43b1 : (t647 != 0) = true := bne_iff_ne.mpr c43
                  have H' := Aside0.mk H
                  clear H
                  have hnb61 := NB636_624.out
                  have hnc61 := NB624_636.out
                  have hnb62 := NB636_646.out
                  have hnc62 := NB646_636.out
                  have hcz63_0 : w34.cell? ⟨gb636, 0, none⟩ = some (.slice Ao29 t628.length co29) := (blk_cell BK636.out 0).trans rfl
                  have hcz63_1 : w34.cell? ⟨gb636, 1, none⟩ = some (.slice Ao32 t631.length co32) := (blk_cell BK636.out 1).trans rfl
                  have hcz63_2 : w34.cell? ⟨gb636, 2, none⟩ = some (.int .i64 t634) := (blk_cell BK636.out 2).trans rfl
                  have hfz63_0 := blk_frozen BK636.out 0
                  have hfz63_1 := blk_frozen BK636.out 1
                  have hfz63_2 := blk_frozen BK636.out 2
                  have hnb64 := NB646_624.out
                  have hnc64 := NB624_646.out
                  have hcz65_0 : w34.cell? ⟨gb646, 0, none⟩ = some (.slice none 0 0) := (blk_cell BK646.out 0).trans rfl
                  have hcz65_1 : w34.cell? ⟨gb646, 1, none⟩ = some (.slice none 0 0) := (blk_cell BK646.out 1).trans rfl
                  have hcz65_2 : w34.cell? ⟨gb646, 2, none⟩ = some (.int .i64 0) := (blk_cell BK646.out 2).trans rfl
                  have hfz65_0 := blk_frozen BK646.out 0
                  have hfz65_1 := blk_frozen BK646.out 1
                  have hfz65_2 := blk_frozen BK646.out 2
                  have hcz66_0 : w34.cell? ⟨gb624, 0, none⟩ = some (.slice A0_0 l0_0.length c0_0) := (blk_cell BK624.out 0).trans rfl
                  have hcz66_1 : w34.cell? ⟨gb624, 1, none⟩ = some (.slice A0_1 l0_1.length c0_1) := (blk_cell BK624.out 1).trans rfl
                  have hcz66_2 : w34.cell? ⟨gb624, 2, none⟩ = some (.int .i64 a0_2) := (blk_cell BK624.out 2).trans rfl
                  have hfz66_0 := blk_frozen BK624.out 0
                  have hfz66_1 := blk_frozen BK624.out 1
                  have hfz66_2 := blk_frozen BK624.out 2
                  go_wp2_with (first | (go_at_call 34; (with_reducible refine (drive_Check.calls _ _ t639 _ _ t642 t645 t647 _ ?side1 ?side2 ?side3 ?side4 A42.out).mono ?_); (case side1 => refine (Kd.R_reads' (e := 9) (base := w.heap.size) (ok := fun k_ => (True ∧ some k_ ≠ (.slice Ao29 t628.length co29 : Value).ownBlock)) (n := t639.length) (c := co35) ?_).2.2; exact (by (with_reducible repeat (first | apply Kd.R_alloc | apply Kd.R_drewN | apply Kd.R_drew)); exact (Kd.R_mono (Kd.R_far (p := ⟨gb646, 2, none⟩) (Kd.R_far (p := ⟨gb646, 1, none⟩) (Kd.R_far (p := ⟨gb646, 0, none⟩) (Kd.R_types HO641.out BK646.out (by decide)) (fun _ hk => hk.2) (.slice Ao35 t639.length co35)) (fun _ hk => hk.2) (.slice Ao39 t642.length co39)) (fun _ hk => hk.2) (.int .i64 t645)) (fun _ h_ => h_.1)))); (case side2 => exact (Kd.R_reads' HO641.out).2.1); (case side3 => refine (Kd.R_reads' (e := 27) (base := w.heap.size) (ok := fun k_ => (True ∧ some k_ ≠ (.slice Ao32 t631.length co32 : Value).ownBlock)) (n := t642.length) (c := co39) ?_).2.2; exact (by (with_reducible repeat (first | apply Kd.R_alloc | apply Kd.R_drewN | apply Kd.R_drew)); exact (Kd.R_mono (Kd.R_far (p := ⟨gb646, 2, none⟩) (Kd.R_far (p := ⟨gb646, 1, none⟩) (Kd.R_far (p := ⟨gb646, 0, none⟩) (Kd.R_types HO644.out BK646.out (by decide)) (fun _ hk => hk.2) (.slice Ao35 t639.length co35)) (fun _ hk => hk.2) (.slice Ao39 t642.length co39)) (fun _ hk => hk.2) (.int .i64 t645)) (fun _ h_ => h_.1)))); (case side4 => exact (Kd.R_reads' HO644.out).2.1); rintro e w67 ⟨rfl, hb⟩; have n0_ := Aside0.mk (Kd.R_below (by (with_reducible repeat (first | apply Kd.R_alloc | apply Kd.R_drewN | apply Kd.R_drew)); exact (Kd.R_mono (Kd.R_far (p := ⟨gb646, 2, none⟩) (Kd.R_far (p := ⟨gb646, 1, none⟩) (Kd.R_far (p := ⟨gb646, 0, none⟩) (Kd.R_types HO630.out BK646.out (by decide)) (fun _ hk => hk.2) (.slice Ao35 t639.length co35)) (fun _ hk => hk.2) (.slice Ao39 t642.length co39)) (fun _ hk => hk.2) (.int .i64 t645)) (fun _ h_ => h_.1))) hb); have n1_ := Aside0.mk (Kd.R_below (by (with_reducible repeat (first | apply Kd.R_alloc | apply Kd.R_drewN | apply Kd.R_drew)); exact (Kd.R_mono (Kd.R_far (p := ⟨gb646, 2, none⟩) (Kd.R_far (p := ⟨gb646, 1, none⟩) (Kd.R_far (p := ⟨gb646, 0, none⟩) (Kd.R_types HO633.out BK646.out (by decide)) (fun _ hk => hk.2) (.slice Ao35 t639.length co35)) (fun _ hk => hk.2) (.slice Ao39 t642.length co39)) (fun _ hk => hk.2) (.int .i64 t645)) (fun _ h_ => h_.1))) hb); have n2_ := Aside0.mk (Kd.R_below (by (with_reducible repeat (first | apply Kd.R_alloc | apply Kd.R_drewN | apply Kd.R_drew)); exact (Kd.R_mono (Kd.R_far (p := ⟨gb646, 2, none⟩) (Kd.R_far (p := ⟨gb646, 1, none⟩) (Kd.R_far (p := ⟨gb646, 0, none⟩) (Kd.R_types HO641.out BK646.out (by decide)) (fun _ hk => hk.2) (.slice Ao35 t639.length co35)) (fun _ hk => hk.2) (.slice Ao39 t642.length co39)) (fun _ hk => hk.2) (.int .i64 t645)) (fun _ h_ => h_.1))) hb); have n3_ := Aside0.mk (Kd.R_below (by (with_reducible repeat (first | apply Kd.R_alloc | apply Kd.R_drewN | apply Kd.R_drew)); exact (Kd.R_mono (Kd.R_far (p := ⟨gb646, 2, none⟩) (Kd.R_far (p := ⟨gb646, 1, none⟩) (Kd.R_far (p := ⟨gb646, 0, none⟩) (Kd.R_types HO644.out BK646.out (by decide)) (fun _ hk => hk.2) (.slice Ao35 t639.length co35)) (fun _ hk => hk.2) (.slice Ao39 t642.length co39)) (fun _ hk => hk.2) (.int .i64 t645)) (fun _ h_ => h_.1))) hb); have n4_ := Aside0.mk (blk_below (g := gb624) (o := .cells #[.slice A0_0 l0_0.length c0_0, .slice A0_1 l0_1.length c0_1, .int .i64 a0_2] 29 (0, 0)) (by (with_reducible repeat (first | refine blk_drewN ?_ _ | refine blk_drew ?_ | refine blk_alloc ?_ _)); refine blk_far ?_ NB624_646.out _; (with_reducible repeat (first | refine blk_drewN ?_ _ | refine blk_drew ?_ | refine blk_alloc ?_ _)); refine blk_far ?_ NB624_646.out _; (with_reducible repeat (first | refine blk_drewN ?_ _ | refine blk_drew ?_ | refine blk_alloc ?_ _)); refine blk_far ?_ NB624_646.out _; (with_reducible repeat (first | refine blk_drewN ?_ _ | refine blk_drew ?_ | refine blk_alloc ?_ _)); exact BK624.out) hb); have n5_ := Aside0.mk (blk_below (g := gb636) (o := .cells #[.slice Ao29 t628.length co29, .slice Ao32 t631.length co32, .int .i64 t634] 29 (0, 0)) (by (with_reducible repeat (first | refine blk_drewN ?_ _ | refine blk_drew ?_ | refine blk_alloc ?_ _)); refine blk_far ?_ NB636_646.out _; (with_reducible repeat (first | refine blk_drewN ?_ _ | refine blk_drew ?_ | refine blk_alloc ?_ _)); refine blk_far ?_ NB636_646.out _; (with_reducible repeat (first | refine blk_drewN ?_ _ | refine blk_drew ?_ | refine blk_alloc ?_ _)); refine blk_far ?_ NB636_646.out _; (with_reducible repeat (first | refine blk_drewN ?_ _ | refine blk_drew ?_ | refine blk_alloc ?_ _)); exact BK636.out) hb); have n6_ := Aside0.mk (blk_below (g := gb646) (o := .cells #[.slice Ao35 t639.length co35, .slice Ao39 t642.length co39, .int .i64 t645] 29 (0, 0)) (by (with_reducible repeat (first | refine blk_drewN ?_ _ | refine blk_drew ?_ | refine blk_alloc ?_ _)); refine blk_put (cs := #[.slice Ao35 t639.length co35, .slice Ao39 t642.length co39, .int .i64 0]) ?_ 2 _ rfl; (with_reducible repeat (first | refine blk_drewN ?_ _ | refine blk_drew ?_ | refine blk_alloc ?_ _)); refine blk_put (cs := #[.slice Ao35 t639.length co35, .slice none 0 0, .int .i64 0]) ?_ 1 _ rfl; (with_reducible repeat (first | refine blk_drewN ?_ _ | refine blk_drew ?_ | refine blk_alloc ?_ _)); refine blk_put (cs := #[.slice none 0 0, .slice none 0 0, .int .i64 0]) ?_ 0 _ rfl; (with_reducible repeat (first | refine blk_drewN ?_ _ | refine blk_drew ?_ | refine blk_alloc ?_ _)); exact BK646.out) hb); have n7_ := Aside0.mk (below_step (by repeat (first | (with_reducible first | exact HB.out | apply below_alloc | apply pw_below_drewN | apply below_drew1 | refine below_set ?_ GE624.out | refine below_set ?_ GE636.out | refine below_set ?_ GE646.out) | exact HB.out)) hb); clear HO630; clear HO633; clear HO641; clear HO644; clear BK624; clear BK636; clear BK646; clear HB; have HO630 := n0_; have HO633 := n1_; have HO641 := n2_; have HO644 := n3_; have BK624 := n4_; have BK636 := n5_; have BK646 := n6_; have HB := n7_; clear n0_ n1_ n2_ n3_ n4_ n5_ n6_ n7_; (try clear hb); (try clear hb2); (try clear hk); (try clear hi)))
                  go_meet
                  case rel => exact ⟨_, (true), (by first | rfl | (simp; done) | (simp [*]; done)), H', ⟨by have := HJ2.out; first | omega | exact Nat.le_refl _⟩, ⟨by (with_reducible repeat (first | apply Kd.R_alloc | apply Kd.R_drewN | apply Kd.R_drew)); exact Kd.R_mono HO630.out (fun _ hk => hk.2)⟩, ⟨by (with_reducible repeat (first | apply Kd.R_alloc | apply Kd.R_drewN | apply Kd.R_drew)); exact Kd.R_mono HO633.out (fun _ hk => hk.2)⟩, ⟨by (with_reducible repeat (first | apply Kd.R_alloc | apply Kd.R_drewN | apply Kd.R_drew)); exact Kd.R_mono HO641.out (fun _ hk => hk.2)⟩, ⟨by (with_reducible repeat (first | apply Kd.R_alloc | apply Kd.R_drewN | apply Kd.R_drew)); exact Kd.R_mono HO644.out (fun _ hk => hk.2)⟩, ⟨by (with_reducible repeat (first | refine blk_drewN ?_ _ | refine blk_drew ?_ | refine blk_alloc ?_ _)); exact BK624.out⟩, ⟨by (with_reducible repeat (first | refine blk_drewN ?_ _ | refine blk_drew ?_ | refine blk_alloc ?_ _)); exact BK636.out⟩, ⟨by (with_reducible repeat (first | refine blk_drewN ?_ _ | refine blk_drew ?_ | refine blk_alloc ?_ _)); exact BK646.out⟩, ⟨by repeat (first | (with_reducible first | exact HB.out | apply below_alloc | apply pw_below_drewN | apply below_drew1 | refine below_set ?_ GE624.out | refine below_set ?_ GE636.out | refine below_set ?_ GE646.out) | exact HB.out)⟩⟩
              · rw [if_neg c41] at H
                have c41b0 : ((t639.length : Int) == (l0_0.length : Int)) = false := beq_eq_false_iff_ne.mpr c41
                have c41b1 : ((t639.length : Int) != (l0_0.length : Int)) = true := bne_iff_ne.mpr c41
                have c41b2 : (t639.length == l0_0.length) = false := by first | simpa using c41 | (simp at c41 ⊢; omega)
                have H' := Aside0.mk H
                clear H
                have hnb68 := NB636_624.out
                have hnc68 := NB624_636.out
                have hnb69 := NB636_646.out
                have hnc69 := NB646_636.out
                have hcz70_0 : w34.cell? ⟨gb636, 0, none⟩ = some (.slice Ao29 t628.length co29) := (blk_cell BK636.out 0).trans rfl
                have hcz70_1 : w34.cell? ⟨gb636, 1, none⟩ = some (.slice Ao32 t631.length co32) := (blk_cell BK636.out 1).trans rfl
                have hcz70_2 : w34.cell? ⟨gb636, 2, none⟩ = some (.int .i64 t634) := (blk_cell BK636.out 2).trans rfl
                have hfz70_0 := blk_frozen BK636.out 0
                have hfz70_1 := blk_frozen BK636.out 1
                have hfz70_2 := blk_frozen BK636.out 2
                have hnb71 := NB646_624.out
                have hnc71 := NB624_646.out
                have hcz72_0 : w34.cell? ⟨gb646, 0, none⟩ = some (.slice none 0 0) := (blk_cell BK646.out 0).trans rfl
                have hcz72_1 : w34.cell? ⟨gb646, 1, none⟩ = some (.slice none 0 0) := (blk_cell BK646.out 1).trans rfl
                have hcz72_2 : w34.cell? ⟨gb646, 2, none⟩ = some (.int .i64 0) := (blk_cell BK646.out 2).trans rfl
                have hfz72_0 := blk_frozen BK646.out 0
                have hfz72_1 := blk_frozen BK646.out 1
                have hfz72_2 := blk_frozen BK646.out 2
                have hcz73_0 : w34.cell? ⟨gb624, 0, none⟩ = some (.slice A0_0 l0_0.length c0_0) := (blk_cell BK624.out 0).trans rfl
                have hcz73_1 : w34.cell? ⟨gb624, 1, none⟩ = some (.slice A0_1 l0_1.length c0_1) := (blk_cell BK624.out 1).trans rfl
                have hcz73_2 : w34.cell? ⟨gb624, 2, none⟩ = some (.int .i64 a0_2) := (blk_cell BK624.out 2).trans rfl
                have hfz73_0 := blk_frozen BK624.out 0
                have hfz73_1 := blk_frozen BK624.out 1
                have hfz73_2 := blk_frozen BK624.out 2
                go_wp2
                go_meet
                case rel => exact ⟨_, (true), (by first | rfl | (simp; done) | (simp [*]; done)), H', ⟨by have := HJ2.out; first | omega | exact Nat.le_refl _⟩, ⟨by (with_reducible repeat (first | apply Kd.R_alloc | apply Kd.R_drewN | apply Kd.R_drew)); exact Kd.R_mono (Kd.R_far (p := ⟨gb646, 2, none⟩) (Kd.R_far (p := ⟨gb646, 1, none⟩) (Kd.R_far (p := ⟨gb646, 0, none⟩) (Kd.R_types HO630.out BK646.out (by decide)) (fun _ hk => hk.2) (.slice Ao35 t639.length co35)) (fun _ hk => hk.2) (.slice Ao39 t642.length co39)) (fun _ hk => hk.2) (.int .i64 t645)) (fun _ hk => hk.1.2)⟩, ⟨by (with_reducible repeat (first | apply Kd.R_alloc | apply Kd.R_drewN | apply Kd.R_drew)); exact Kd.R_mono (Kd.R_far (p := ⟨gb646, 2, none⟩) (Kd.R_far (p := ⟨gb646, 1, none⟩) (Kd.R_far (p := ⟨gb646, 0, none⟩) (Kd.R_types HO633.out BK646.out (by decide)) (fun _ hk => hk.2) (.slice Ao35 t639.length co35)) (fun _ hk => hk.2) (.slice Ao39 t642.length co39)) (fun _ hk => hk.2) (.int .i64 t645)) (fun _ hk => hk.1.2)⟩, ⟨by (with_reducible repeat (first | apply Kd.R_alloc | apply Kd.R_drewN | apply Kd.R_drew)); exact Kd.R_mono (Kd.R_far (p := ⟨gb646, 2, none⟩) (Kd.R_far (p := ⟨gb646, 1, none⟩) (Kd.R_far (p := ⟨gb646, 0, none⟩) (Kd.R_types HO641.out BK646.out (by decide)) (fun _ hk => hk.2) (.slice Ao35 t639.length co35)) (fun _ hk => hk.2) (.slice Ao39 t642.length co39)) (fun _ hk => hk.2) (.int .i64 t645)) (fun _ hk => hk.1.2)⟩, ⟨by (with_reducible repeat (first | apply Kd.R_alloc | apply Kd.R_drewN | apply Kd.R_drew)); exact Kd.R_mono (Kd.R_far (p := ⟨gb646, 2, none⟩) (Kd.R_far (p := ⟨gb646, 1, none⟩) (Kd.R_far (p := ⟨gb646, 0, none⟩) (Kd.R_types HO644.out BK646.out (by decide)) (fun _ hk => hk.2) (.slice Ao35 t639.length co35)) (fun _ hk => hk.2) (.slice Ao39 t642.length co39)) (fun _ hk => hk.2) (.int .i64 t645)) (fun _ hk => hk.1.2)⟩, ⟨by (with_reducible repeat (first | refine blk_drewN ?_ _ | refine blk_drew ?_ | refine blk_alloc ?_ _)); refine blk_far ?_ NB624_646.out _; (with_reducible repeat (first | refine blk_drewN ?_ _ | refine blk_drew ?_ | refine blk_alloc ?_ _)); refine blk_far ?_ NB624_646.out _; (with_reducible repeat (first | refine blk_drewN ?_ _ | refine blk_drew ?_ | refine blk_alloc ?_ _)); refine blk_far ?_ NB624_646.out _; (with_reducible repeat (first | refine blk_drewN ?_ _ | refine blk_drew ?_ | refine blk_alloc ?_ _)); exact BK624.out⟩, ⟨by (with_reducible repeat (first | refine blk_drewN ?_ _ | refine blk_drew ?_ | refine blk_alloc ?_ _)); refine blk_far ?_ NB636_646.out _; (with_reducible repeat (first | refine blk_drewN ?_ _ | refine blk_drew ?_ | refine blk_alloc ?_ _)); refine blk_far ?_ NB636_646.out _; (with_reducible repeat (first | refine blk_drewN ?_ _ | refine blk_drew ?_ | refine blk_alloc ?_ _)); refine blk_far ?_ NB636_646.out _; (with_reducible repeat (first | refine blk_drewN ?_ _ | refine blk_drew ?_ | refine blk_alloc ?_ _)); exact BK636.out⟩, ⟨by (with_reducible repeat (first | refine blk_drewN ?_ _ | refine blk_drew ?_ | refine blk_alloc ?_ _)); refine blk_put (cs := #[.slice Ao35 t639.length co35, .slice Ao39 t642.length co39, .int .i64 0]) ?_ 2 _ rfl; (with_reducible repeat (first | refine blk_drewN ?_ _ | refine blk_drew ?_ | refine blk_alloc ?_ _)); refine blk_put (cs := #[.slice Ao35 t639.length co35, .slice none 0 0, .int .i64 0]) ?_ 1 _ rfl; (with_reducible repeat (first | refine blk_drewN ?_ _ | refine blk_drew ?_ | refine blk_alloc ?_ _)); refine blk_put (cs := #[.slice none 0 0, .slice none 0 0, .int .i64 0]) ?_ 0 _ rfl; (with_reducible repeat (first | refine blk_drewN ?_ _ | refine blk_drew ?_ | refine blk_alloc ?_ _)); exact BK646.out⟩, ⟨by repeat (first | (with_reducible first | exact HB.out | apply below_alloc | apply pw_below_drewN | apply below_drew1 | refine below_set ?_ GE624.out | refine below_set ?_ GE636.out | refine below_set ?_ GE646.out) | exact HB.out)⟩⟩
            · rw [if_neg c40] at H
              have c40b0 : ((t631.length : Int) == 0) = false := beq_eq_false_iff_ne.mpr c40
              have c40b1 : ((t631.length : Int) != 0) = true := bne_iff_ne.mpr c40
              have c40b2 : ¬ (t631 = []) := fun h_ => c40 (by rw [h_]; rfl)
              (first | rw [c40b0] | (simp only [i64_w, i32_w]; rw [c40b0]) | skip)
              have H' := Aside0.mk H
              clear H
              have hnb74 := NB636_624.out
              have hnc74 := NB624_636.out
              have hnb75 := NB636_646.out
              have hnc75 := NB646_636.out
              have hcz76_0 : w34.cell? ⟨gb636, 0, none⟩ = some (.slice Ao29 t628.length co29) := (blk_cell BK636.out 0).trans rfl
              have hcz76_1 : w34.cell? ⟨gb636, 1, none⟩ = some (.slice Ao32 t631.length co32) := (blk_cell BK636.out 1).trans rfl
              have hcz76_2 : w34.cell? ⟨gb636, 2, none⟩ = some (.int .i64 t634) := (blk_cell BK636.out 2).trans rfl
              have hfz76_0 := blk_frozen BK636.out 0
              have hfz76_1 := blk_frozen BK636.out 1
              have hfz76_2 := blk_frozen BK636.out 2
              go_wp2
              go_meet
              case rel => exact ⟨_, (true), (by first | rfl | (simp; done) | (simp [*]; done)), H', ⟨by have := HJ2.out; first | omega | exact Nat.le_refl _⟩, ⟨by (with_reducible repeat (first | apply Kd.R_alloc | apply Kd.R_drewN | apply Kd.R_drew)); exact Kd.R_mono (Kd.R_far (p := ⟨gb646, 2, none⟩) (Kd.R_far (p := ⟨gb646, 1, none⟩) (Kd.R_far (p := ⟨gb646, 0, none⟩) (Kd.R_types HO630.out BK646.out (by decide)) (fun _ hk => hk.2) (.slice Ao35 t639.length co35)) (fun _ hk => hk.2) (.slice Ao39 t642.length co39)) (fun _ hk => hk.2) (.int .i64 t645)) (fun _ hk => hk.1.2)⟩, ⟨by (with_reducible repeat (first | apply Kd.R_alloc | apply Kd.R_drewN | apply Kd.R_drew)); exact Kd.R_mono (Kd.R_far (p := ⟨gb646, 2, none⟩) (Kd.R_far (p := ⟨gb646, 1, none⟩) (Kd.R_far (p := ⟨gb646, 0, none⟩) (Kd.R_types HO633.out BK646.out (by decide)) (fun _ hk => hk.2) (.slice Ao35 t639.length co35)) (fun _ hk => hk.2) (.slice Ao39 t642.length co39)) (fun _ hk => hk.2) (.int .i64 t645)) (fun _ hk => hk.1.2)⟩, ⟨by (with_reducible repeat (first | apply Kd.R_alloc | apply Kd.R_drewN | apply Kd.R_drew)); exact Kd.R_mono (Kd.R_far (p := ⟨gb646, 2, none⟩) (Kd.R_far (p := ⟨gb646, 1, none⟩) (Kd.R_far (p := ⟨gb646, 0, none⟩) (Kd.R_types HO641.out BK646.out (by decide)) (fun _ hk => hk.2) (.slice Ao35 t639.length co35)) (fun _ hk => hk.2) (.slice Ao39 t642.length co39)) (fun _ hk => hk.2) (.int .i64 t645)) (fun _ hk => hk.1.2)⟩, ⟨by (with_reducible repeat (first | apply Kd.R_alloc | apply Kd.R_drewN | apply Kd.R_drew)); exact Kd.R_mono (Kd.R_far (p := ⟨gb646, 2, none⟩) (Kd.R_far (p := ⟨gb646, 1, none⟩) (Kd.R_far (p := ⟨gb646, 0, none⟩) (Kd.R_types HO644.out BK646.out (by decide)) (fun _ hk => hk.2) (.slice Ao35 t639.length co35)) (fun _ hk => hk.2) (.slice Ao39 t642.length co39)) (fun _ hk => hk.2) (.int .i64 t645)) (fun _ hk => hk.1.2)⟩, ⟨by (with_reducible repeat (first | refine blk_drewN ?_ _ | refine blk_drew ?_ | refine blk_alloc ?_ _)); refine blk_far ?_ NB624_646.out _; (with_reducible repeat (first | refine blk_drewN ?_ _ | refine blk_drew ?_ | refine blk_alloc ?_ _)); refine blk_far ?_ NB624_646.out _; (with_reducible repeat (first | refine blk_drewN ?_ _ | refine blk_drew ?_ | refine blk_alloc ?_ _)); refine blk_far ?_ NB624_646.out _; (with_reducible repeat (first | refine blk_drewN ?_ _ | refine blk_drew ?_ | refine blk_alloc ?_ _)); exact BK624.out⟩, ⟨by (with_reducible repeat (first | refine blk_drewN ?_ _ | refine blk_drew ?_ | refine blk_alloc ?_ _)); refine blk_far ?_ NB636_646.out _; (with_reducible repeat (first | refine blk_drewN ?_ _ | refine blk_drew ?_ | refine blk_alloc ?_ _)); refine blk_far ?_ NB636_646.out _; (with_reducible repeat (first | refine blk_drewN ?_ _ | refine blk_drew ?_ | refine blk_alloc ?_ _)); refine blk_far ?_ NB636_646.out _; (with_reducible repeat (first | refine blk_drewN ?_ _ | refine blk_drew ?_ | refine blk_alloc ?_ _)); exact BK636.out⟩, ⟨by (with_reducible repeat (first | refine blk_drewN ?_ _ | refine blk_drew ?_ | refine blk_alloc ?_ _)); refine blk_put (cs := #[.slice Ao35 t639.length co35, .slice Ao39 t642.length co39, .int .i64 0]) ?_ 2 _ rfl; (with_reducible repeat (first | refine blk_drewN ?_ _ | refine blk_drew ?_ | refine blk_alloc ?_ _)); refine blk_put (cs := #[.slice Ao35 t639.length co35, .slice none 0 0, .int .i64 0]) ?_ 1 _ rfl; (with_reducible repeat (first | refine blk_drewN ?_ _ | refine blk_drew ?_ | refine blk_alloc ?_ _)); refine blk_put (cs := #[.slice none 0 0, .slice none 0 0, .int .i64 0]) ?_ 0 _ rfl; (with_reducible repeat (first | refine blk_drewN ?_ _ | refine blk_drew ?_ | refine blk_alloc ?_ _)); exact BK646.out⟩, ⟨by repeat (first | (with_reducible first | exact HB.out | apply below_alloc | apply pw_below_drewN | apply below_drew1 | refine below_set ?_ GE624.out | refine below_set ?_ GE636.out | refine below_set ?_ GE646.out) | exact HB.out)⟩⟩
          case rest =>
            clear HC25
            try clear c1
            try clear c2
            try clear p2
            try clear c3
            try clear c4
            try clear c5
            try clear c6
            try clear c6b0
            try clear c7
            try clear c10
            try clear c10b0
            try clear c10b1
            try clear c14
            try clear c19
            try clear c23
            try clear c23b0
            try clear c23b1
            try clear c30
            try clear c31
            try clear c36
            try clear c37
            try clear c40
            try clear c40b0
            try clear c40b1
            try clear c40b2
            try clear c41
            try clear c41b0
            try clear c41b1
            try clear c41b2
            try clear c43
            try clear c43b0
            try clear c43b1
            try clear c44
            try clear c44b0
            try clear c44b1
            try clear c44b2
            try clear c45
            try clear c46
            try clear c48
            try clear c53
            try clear c54
            try clear c56
            try clear c61
            try clear c62
            try clear c64
            try clear c68
            try clear c69
            try clear c71
            try clear c74
            try clear c75
            try clear hcz11_0
            try clear hcz11_1
            try clear hcz11_2
            try clear hcz13_0
            try clear hcz13_1
            try clear hcz13_2
            try clear hcz15_0
            try clear hcz15_1
            try clear hcz15_2
            try clear hcz17_0
            try clear hcz17_1
            try clear hcz17_2
            try clear hcz26_0
            try clear hcz26_1
            try clear hcz26_2
            try clear hcz31_0
            try clear hcz31_1
            try clear hcz31_2
            try clear hcz38_0
            try clear hcz38_1
            try clear hcz38_2
            try clear hcz47_0
            try clear hcz47_1
            try clear hcz47_2
            try clear hcz49_0
            try clear hcz49_1
            try clear hcz49_2
            try clear hcz50_0
            try clear hcz50_1
            try clear hcz50_2
            try clear hcz52_0
            try clear hcz52_1
            try clear hcz52_2
            try clear hcz55_0
            try clear hcz55_1
            try clear hcz55_2
            try clear hcz57_0
            try clear hcz57_1
            try clear hcz57_2
            try clear hcz58_0
            try clear hcz58_1
            try clear hcz58_2
            try clear hcz60_0
            try clear hcz60_1
            try clear hcz60_2
            try clear hcz63_0
            try clear hcz63_1
            try clear hcz63_2
            try clear hcz65_0
            try clear hcz65_1
            try clear hcz65_2
            try clear hcz66_0
            try clear hcz66_1
            try clear hcz66_2
            try clear hcz70_0
            try clear hcz70_1
            try clear hcz70_2
            try clear hcz72_0
            try clear hcz72_1
            try clear hcz72_2
            try clear hcz73_0
            try clear hcz73_1
            try clear hcz73_2
            try clear hcz76_0
            try clear hcz76_1
            try clear hcz76_2
            try clear hcz7_0
            try clear hcz7_1
            try clear hcz7_2
            try clear hfz11_0
            try clear hfz11_1
            try clear hfz11_2
            try clear hfz13_0
            try clear hfz13_1
            try clear hfz13_2
            try clear hfz15_0
            try clear hfz15_1
            try clear hfz15_2
            try clear hfz17_0
            try clear hfz17_1
            try clear hfz17_2
            try clear hfz26_0
            try clear hfz26_1
            try clear hfz26_2
            try clear hfz31_0
            try clear hfz31_1
            try clear hfz31_2
            try clear hfz38_0
            try clear hfz38_1
            try clear hfz38_2
            try clear hfz47_0
            try clear hfz47_1
            try clear hfz47_2
            try clear hfz49_0
            try clear hfz49_1
            try clear hfz49_2
            try clear hfz50_0
            try clear hfz50_1
            try clear hfz50_2
            try clear hfz52_0
            try clear hfz52_1
            try clear hfz52_2
            try clear hfz55_0
            try clear hfz55_1
            try clear hfz55_2
            try clear hfz57_0
            try clear hfz57_1
            try clear hfz57_2
            try clear hfz58_0
            try clear hfz58_1
            try clear hfz58_2
            try clear hfz60_0
            try clear hfz60_1
            try clear hfz60_2
            try clear hfz63_0
            try clear hfz63_1
            try clear hfz63_2
            try clear hfz65_0
            try clear hfz65_1
            try clear hfz65_2
            try clear hfz66_0
            try clear hfz66_1
            try clear hfz66_2
            try clear hfz70_0
            try clear hfz70_1
            try clear hfz70_2
            try clear hfz72_0
            try clear hfz72_1
            try clear hfz72_2
            try clear hfz73_0
            try clear hfz73_1
            try clear hfz73_2
            try clear hfz76_0
            try clear hfz76_1
            try clear hfz76_2
            try clear hfz7_0
            try clear hfz7_1
            try clear hfz7_2
            try clear p2
            obtain ⟨kq, x76_24, rfl, HA, HJ24, HO_637000, HO_637001, HO_647000, HO_647001, BK624, BK636, BK646, HB⟩ := hcut
            cases kq with
            | zero => exact absurd HA.out (by simp [hibernaclelaw15_DriveSure.j1])
            | succ kj24 =>
              have H := HA.out
              clear HA
              simp only [hibernaclelaw15_DriveSure.j1] at H
              by_cases c77 : x76_24 = true
              · subst c77
                have H1 : (some false) = some r := by rw [if_pos rfl] at H; exact H
                clear H
                have H := H1
                clear H1
                obtain rfl := Option.some.inj H
                go_wp2
                go_ret
                exact ⟨by first | rfl | (simp [errW_none, errW_some] <;> rfl) | (simp [*, errW_none, errW_some] <;> rfl), by repeat (first | (with_reducible first | exact HB.out | apply below_alloc | apply pw_below_drewN | apply below_drew1 | refine below_set ?_ GE624.out | refine below_set ?_ GE636.out | refine below_set ?_ GE646.out) | exact HB.out)⟩
              · replace c77 := Bool.eq_false_iff.mpr c77
                subst c77
                have H1 : (hibernaclelaw15_DriveSure.l0 kj24 (l0_0.length : Int) 0 l0_0 l0_1 a0_2 t639 t642 t645) = some r := by rw [if_neg (show ¬ (false = true) by decide)] at H; exact H
                clear H
                have H := H1
                clear H1
                have H' := Aside0.mk H
                clear H
                have hnb78 := NB624_636.out
                have hnc78 := NB636_624.out
                have hnb79 := NB624_646.out
                have hnc79 := NB646_624.out
                have hcz80_0 : wc.cell? ⟨gb624, 0, none⟩ = some (.slice A0_0 l0_0.length c0_0) := (blk_cell BK624.out 0).trans rfl
                have hcz80_1 : wc.cell? ⟨gb624, 1, none⟩ = some (.slice A0_1 l0_1.length c0_1) := (blk_cell BK624.out 1).trans rfl
                have hcz80_2 : wc.cell? ⟨gb624, 2, none⟩ = some (.int .i64 a0_2) := (blk_cell BK624.out 2).trans rfl
                have hfz80_0 := blk_frozen BK624.out 0
                have hfz80_1 := blk_frozen BK624.out 1
                have hfz80_2 := blk_frozen BK624.out 2
                go_wp2
                go_loopg [80] kj24 (fun kq v80 w' => ∃ (x80_3 : Int), v80 = .int .i64 x80_3 ∧ Aside0 (hibernaclelaw15_DriveSure.l0 kq (l0_0.length : Int) x80_3 l0_0 l0_1 a0_2 t639 t642 t645 = some r) ∧ Aside0 (kq ≤ kj24) ∧ Aside0 (Kd.R Kd.string 9 w' w.heap.size (fun k_ => some k_ ≠ ((.slice Ao35 t639.length co35) : Value).ownBlock) (.slice Ao29 t628.length co29) t628) ∧ Aside0 (Kd.R k27 27 w' w.heap.size (fun k_ => some k_ ≠ ((.slice Ao39 t642.length co39) : Value).ownBlock) (.slice Ao32 t631.length co32) t631) ∧ Aside0 (Kd.R Kd.string 9 w' w.heap.size (fun k_ => some k_ ≠ ((.slice Ao29 t628.length co29) : Value).ownBlock) (.slice Ao35 t639.length co35) t639) ∧ Aside0 (Kd.R k27 27 w' w.heap.size (fun k_ => some k_ ≠ ((.slice Ao32 t631.length co32) : Value).ownBlock) (.slice Ao39 t642.length co39) t642) ∧ Aside0 (w'.heap[gb624]? = some (.cells #[(.slice A0_0 l0_0.length c0_0), (.slice A0_1 l0_1.length c0_1), .int .i64 a0_2] 29 (0, 0))) ∧ Aside0 (w'.heap[gb636]? = some (.cells #[(.slice Ao29 t628.length co29), (.slice Ao32 t631.length co32), .int .i64 t634] 29 (0, 0))) ∧ Aside0 (w'.heap[gb646]? = some (.cells #[(.slice Ao35 t639.length co35), (.slice Ao39 t642.length co39), .int .i64 t645] 29 (0, 0))) ∧ Aside0 (Below w.heap.size w w'))
                case atStart => exact ⟨(0), (by first | rfl | (simp; done) | (simp [*]; done)), H', ⟨Nat.le_refl _⟩, ⟨by (with_reducible repeat (first | apply Kd.R_alloc | apply Kd.R_drewN | apply Kd.R_drew)); exact HO_637000.out⟩, ⟨by (with_reducible repeat (first | apply Kd.R_alloc | apply Kd.R_drewN | apply Kd.R_drew)); exact HO_637001.out⟩, ⟨by (with_reducible repeat (first | apply Kd.R_alloc | apply Kd.R_drewN | apply Kd.R_drew)); exact HO_647000.out⟩, ⟨by (with_reducible repeat (first | apply Kd.R_alloc | apply Kd.R_drewN | apply Kd.R_drew)); exact HO_647001.out⟩, ⟨by (with_reducible repeat (first | refine blk_drewN ?_ _ | refine blk_drew ?_ | refine blk_alloc ?_ _)); exact BK624.out⟩, ⟨by (with_reducible repeat (first | refine blk_drewN ?_ _ | refine blk_drew ?_ | refine blk_alloc ?_ _)); exact BK636.out⟩, ⟨by (with_reducible repeat (first | refine blk_drewN ?_ _ | refine blk_drew ?_ | refine blk_alloc ?_ _)); exact BK646.out⟩, ⟨by repeat (first | (with_reducible first | exact HB.out | apply below_alloc | apply pw_below_drewN | apply below_drew1 | refine below_set ?_ GE624.out | refine below_set ?_ GE636.out | refine below_set ?_ GE646.out) | exact HB.out)⟩⟩
                case round =>
                  clear H'
                  try clear c1
                  try clear c2
                  try clear p2
                  try clear c3
                  try clear c4
                  try clear c5
                  try clear c6
                  try clear c6b0
                  try clear c7
                  try clear c10
                  try clear c10b0
                  try clear c10b1
                  try clear c14
                  try clear c19
                  try clear c23
                  try clear c23b0
                  try clear c23b1
                  try clear c30
                  try clear c31
                  try clear c36
                  try clear c37
                  try clear c40
                  try clear c40b0
                  try clear c40b1
                  try clear c40b2
                  try clear c41
                  try clear c41b0
                  try clear c41b1
                  try clear c41b2
                  try clear c43
                  try clear c43b0
                  try clear c43b1
                  try clear c44
                  try clear c44b0
                  try clear c44b1
                  try clear c44b2
                  try clear c45
                  try clear c46
                  try clear c48
                  try clear c53
                  try clear c54
                  try clear c56
                  try clear c61
                  try clear c62
                  try clear c64
                  try clear c68
                  try clear c69
                  try clear c71
                  try clear c74
                  try clear c75
                  try clear c77
                  try clear c78
                  try clear c79
                  try clear hcz11_0
                  try clear hcz11_1
                  try clear hcz11_2
                  try clear hcz13_0
                  try clear hcz13_1
                  try clear hcz13_2
                  try clear hcz15_0
                  try clear hcz15_1
                  try clear hcz15_2
                  try clear hcz17_0
                  try clear hcz17_1
                  try clear hcz17_2
                  try clear hcz26_0
                  try clear hcz26_1
                  try clear hcz26_2
                  try clear hcz31_0
                  try clear hcz31_1
                  try clear hcz31_2
                  try clear hcz38_0
                  try clear hcz38_1
                  try clear hcz38_2
                  try clear hcz47_0
                  try clear hcz47_1
                  try clear hcz47_2
                  try clear hcz49_0
                  try clear hcz49_1
                  try clear hcz49_2
                  try clear hcz50_0
                  try clear hcz50_1
                  try clear hcz50_2
                  try clear hcz52_0
                  try clear hcz52_1
                  try clear hcz52_2
                  try clear hcz55_0
                  try clear hcz55_1
                  try clear hcz55_2
                  try clear hcz57_0
                  try clear hcz57_1
                  try clear hcz57_2
                  try clear hcz58_0
                  try clear hcz58_1
                  try clear hcz58_2
                  try clear hcz60_0
                  try clear hcz60_1
                  try clear hcz60_2
                  try clear hcz63_0
                  try clear hcz63_1
                  try clear hcz63_2
                  try clear hcz65_0
                  try clear hcz65_1
                  try clear hcz65_2
                  try clear hcz66_0
                  try clear hcz66_1
                  try clear hcz66_2
                  try clear hcz70_0
                  try clear hcz70_1
                  try clear hcz70_2
                  try clear hcz72_0
                  try clear hcz72_1
                  try clear hcz72_2
                  try clear hcz73_0
                  try clear hcz73_1
                  try clear hcz73_2
                  try clear hcz76_0
                  try clear hcz76_1
                  try clear hcz76_2
                  try clear hcz7_0
                  try clear hcz7_1
                  try clear hcz7_2
                  try clear hcz80_0
                  try clear hcz80_1
                  try clear hcz80_2
                  try clear hfz11_0
                  try clear hfz11_1
                  try clear hfz11_2
                  try clear hfz13_0
                  try clear hfz13_1
                  try clear hfz13_2
                  try clear hfz15_0
                  try clear hfz15_1
                  try clear hfz15_2
                  try clear hfz17_0
                  try clear hfz17_1
                  try clear hfz17_2
                  try clear hfz26_0
                  try clear hfz26_1
                  try clear hfz26_2
                  try clear hfz31_0
                  try clear hfz31_1
                  try clear hfz31_2
                  try clear hfz38_0
                  try clear hfz38_1
                  try clear hfz38_2
                  try clear hfz47_0
                  try clear hfz47_1
                  try clear hfz47_2
                  try clear hfz49_0
                  try clear hfz49_1
                  try clear hfz49_2
                  try clear hfz50_0
                  try clear hfz50_1
                  try clear hfz50_2
                  try clear hfz52_0
                  try clear hfz52_1
                  try clear hfz52_2
                  try clear hfz55_0
                  try clear hfz55_1
                  try clear hfz55_2
                  try clear hfz57_0
                  try clear hfz57_1
                  try clear hfz57_2
                  try clear hfz58_0
                  try clear hfz58_1
                  try clear hfz58_2
                  try clear hfz60_0
                  try clear hfz60_1
                  try clear hfz60_2
                  try clear hfz63_0
                  try clear hfz63_1
                  try clear hfz63_2
                  try clear hfz65_0
                  try clear hfz65_1
                  try clear hfz65_2
                  try clear hfz66_0
                  try clear hfz66_1
                  try clear hfz66_2
                  try clear hfz70_0
                  try clear hfz70_1
                  try clear hfz70_2
                  try clear hfz72_0
                  try clear hfz72_1
                  try clear hfz72_2
                  try clear hfz73_0
                  try clear hfz73_1
                  try clear hfz73_2
                  try clear hfz76_0
                  try clear hfz76_1
                  try clear hfz76_2
                  try clear hfz7_0
                  try clear hfz7_1
                  try clear hfz7_2
                  try clear hfz80_0
                  try clear hfz80_1
                  try clear hfz80_2
                  try clear p2
                  obtain ⟨x80_3, rfl, HA, HK3, HO_637000, HO_637001, HO_647000, HO_647001, BK624, BK636, BK646, HB⟩ := hrel
                  cases gk with
                  | zero => exact absurd HA.out (by simp [hibernaclelaw15_DriveSure.l0])
                  | succ k3 =>
                    have H := HA.out
                    clear HA
                    simp only [hibernaclelaw15_DriveSure.l0] at H
                    by_cases c81 : x80_3 < (l0_0.length : Int)
                    · rw [if_pos c81] at H
                      have c81b0 : decide (x80_3 < (l0_0.length : Int)) = true := decide_eq_true c81
                      clear c81
                      replace H := Option.bind_eq_some_iff.mp H
                      obtain ⟨⟨t649, t650⟩, A820, H⟩ := H
                      replace H : ((drive_Get.f t639 t642 t645 x80_3).bind fun bt651 => (if t650 = 0 then (if bt651.2 = 0 then (if bt651.1.toList = t649.toList then (hibernaclelaw15_DriveSure.l0 k3 (l0_0.length : Int) (wrap64 (x80_3 + 1)) l0_0 l0_1 a0_2 t639 t642 t645) else (some false)) else (some false)) else (some false))) = some r := H
                      have A82 := Aside0.mk A820
                      clear A820
                      replace H := Option.bind_eq_some_iff.mp H
                      obtain ⟨⟨t651, t652⟩, A830, H⟩ := H
                      replace H : (if t650 = 0 then (if t652 = 0 then (if t651.toList = t649.toList then (hibernaclelaw15_DriveSure.l0 k3 (l0_0.length : Int) (wrap64 (x80_3 + 1)) l0_0 l0_1 a0_2 t639 t642 t645) else (some false)) else (some false)) else (some false)) = some r := H
                      have A83 := Aside0.mk A830
                      clear A830
                      by_cases c84 : t650 = 0
                      · rw [if_pos c84] at H
                        have c84b0 : (t650 == 0) = true := beq_iff_eq.mpr c84
                        have c84b1 : (t650 != 0) = false := bne_eq_false_iff_eq.mpr c84
                        clear c84
                        by_cases c85 : t652 = 0
                        · rw [if_pos c85] at H
                          have c85b0 : (t652 == 0) = true := beq_iff_eq.mpr c85
                          have c85b1 : (t652 != 0) = false := bne_eq_false_iff_eq.mpr c85
                          clear c85
                          by_cases c86 : t651.toList = t649.toList
                          · rw [if_pos c86] at H
                            have c86b0 : (t651.toList == t649.toList) = true := beq_iff_eq.mpr c86
                            have c86b1 : (t651.toList != t649.toList) = false := bne_eq_false_iff_eq.mpr c86
                            clear c86
                            have H' := Aside0.mk H
                            clear H
                            have hnb87 := NB624_636.out
                            have hnc87 := NB636_624.out
                            have hnb88 := NB624_646.out
                            have hnc88 := NB646_624.out
                            have hcz89_0 : wr.cell? ⟨gb624, 0, none⟩ = some (.slice A0_0 l0_0.length c0_0) := (blk_cell BK624.out 0).trans rfl
                            have hcz89_1 : wr.cell? ⟨gb624, 1, none⟩ = some (.slice A0_1 l0_1.length c0_1) := (blk_cell BK624.out 1).trans rfl
                            have hcz89_2 : wr.cell? ⟨gb624, 2, none⟩ = some (.int .i64 a0_2) := (blk_cell BK624.out 2).trans rfl
                            have hfz89_0 := blk_frozen BK624.out 0
                            have hfz89_1 := blk_frozen BK624.out 1
                            have hfz89_2 := blk_frozen BK624.out 2
                            go_wp2_with (first | ((with_reducible refine gate_callee (f := 43) rfl ?_); refine goesL_ (some 86) rfl rfl Try.func43 (by kernel_rfl) rfl #[.agg #[.slice A0_0 l0_0.length c0_0, .slice A0_1 l0_1.length c0_1, .int .i64 a0_2], .int .i64 x80_3] rfl (by (try simp only [List.map_toArray, List.map_cons, List.map_nil]); first | done | rfl | (simp only [List.length_drop, List.length_take]; rfl)) ?_; (with_reducible refine (drive_Get.calls _ _ l0_0 _ _ l0_1 a0_2 x80_3 t649 t650 _ ?side1 ?side2 ?side3 ?side4 A82.out).mono ?_); (case side1 => repeat (first | exact (Kd.C_below HR0_0.out HB.out) | (with_reducible refine Kd.C_alloc ?_ _) | (with_reducible refine Kd.C_drewN ?_ _) | (with_reducible refine Kd.C_drew ?_))); (case side2 => exact HC0_0.out); (case side3 => repeat (first | exact (Kd.C_below HR0_1.out HB.out) | (with_reducible refine Kd.C_alloc ?_ _) | (with_reducible refine Kd.C_drewN ?_ _) | (with_reducible refine Kd.C_drew ?_))); (case side4 => exact HC0_1.out); rintro e w90 ⟨rfl, hb⟩; refine ⟨_, rfl, ?_⟩; have n0_ := Aside0.mk (Kd.R_below (by (with_reducible repeat (first | apply Kd.R_alloc | apply Kd.R_drewN | apply Kd.R_drew)); exact HO_637000.out) hb); have n1_ := Aside0.mk (Kd.R_below (by (with_reducible repeat (first | apply Kd.R_alloc | apply Kd.R_drewN | apply Kd.R_drew)); exact HO_637001.out) hb); have n2_ := Aside0.mk (Kd.R_below (by (with_reducible repeat (first | apply Kd.R_alloc | apply Kd.R_drewN | apply Kd.R_drew)); exact HO_647000.out) hb); have n3_ := Aside0.mk (Kd.R_below (by (with_reducible repeat (first | apply Kd.R_alloc | apply Kd.R_drewN | apply Kd.R_drew)); exact HO_647001.out) hb); have n4_ := Aside0.mk (blk_below (g := gb624) (o := .cells #[.slice A0_0 l0_0.length c0_0, .slice A0_1 l0_1.length c0_1, .int .i64 a0_2] 29 (0, 0)) (by (with_reducible repeat (first | refine blk_drewN ?_ _ | refine blk_drew ?_ | refine blk_alloc ?_ _)); exact BK624.out) hb); have n5_ := Aside0.mk (blk_below (g := gb636) (o := .cells #[.slice Ao29 t628.length co29, .slice Ao32 t631.length co32, .int .i64 t634] 29 (0, 0)) (by (with_reducible repeat (first | refine blk_drewN ?_ _ | refine blk_drew ?_ | refine blk_alloc ?_ _)); exact BK636.out) hb); have n6_ := Aside0.mk (blk_below (g := gb646) (o := .cells #[.slice Ao35 t639.length co35, .slice Ao39 t642.length co39, .int .i64 t645] 29 (0, 0)) (by (with_reducible repeat (first | refine blk_drewN ?_ _ | refine blk_drew ?_ | refine blk_alloc ?_ _)); exact BK646.out) hb); have n7_ := Aside0.mk (below_step (by repeat (first | (with_reducible first | exact HB.out | apply below_alloc | apply pw_below_drewN | apply below_drew1 | refine below_set ?_ GE624.out | refine below_set ?_ GE636.out | refine below_set ?_ GE646.out) | exact HB.out)) hb); clear HO_637000; clear HO_637001; clear HO_647000; clear HO_647001; clear BK624; clear BK636; clear BK646; clear HB; have HO_637000 := n0_; have HO_637001 := n1_; have HO_647000 := n2_; have HO_647001 := n3_; have BK624 := n4_; have BK636 := n5_; have BK646 := n6_; have HB := n7_; clear n0_ n1_ n2_ n3_ n4_ n5_ n6_ n7_; (try clear hb); (try clear hb2); (try clear hk); (try clear hi); have hnb91 := NB646_636.out; have hnc91 := NB636_646.out; have hcz92_0 : w90.cell? ⟨gb646, 0, none⟩ = some (.slice Ao35 t639.length co35) := (blk_cell BK646.out 0).trans rfl; have hcz92_1 : w90.cell? ⟨gb646, 1, none⟩ = some (.slice Ao39 t642.length co39) := (blk_cell BK646.out 1).trans rfl; have hcz92_2 : w90.cell? ⟨gb646, 2, none⟩ = some (.int .i64 t645) := (blk_cell BK646.out 2).trans rfl; have hfz92_0 := blk_frozen BK646.out 0; have hfz92_1 := blk_frozen BK646.out 1; have hfz92_2 := blk_frozen BK646.out 2) | ((with_reducible refine gate_callee (f := 43) rfl ?_); refine goesL_ (some 92) rfl rfl Try.func43 (by kernel_rfl) rfl #[.agg #[.slice Ao35 t639.length co35, .slice Ao39 t642.length co39, .int .i64 t645], .int .i64 x80_3] rfl (by (try simp only [List.map_toArray, List.map_cons, List.map_nil]); first | done | rfl | (simp only [List.length_drop, List.length_take]; rfl)) ?_; (with_reducible refine (drive_Get.calls _ _ t639 _ _ t642 t645 x80_3 t651 t652 _ ?side1 ?side2 ?side3 ?side4 A83.out).mono ?_); (case side1 => repeat (first | exact (Kd.R_reads' HO_647000.out).2.2 | (with_reducible refine Kd.C_alloc ?_ _) | (with_reducible refine Kd.C_drewN ?_ _) | (with_reducible refine Kd.C_drew ?_))); (case side2 => exact (Kd.R_reads' HO_647000.out).2.1); (case side3 => repeat (first | exact (Kd.R_reads' HO_647001.out).2.2 | (with_reducible refine Kd.C_alloc ?_ _) | (with_reducible refine Kd.C_drewN ?_ _) | (with_reducible refine Kd.C_drew ?_))); (case side4 => exact (Kd.R_reads' HO_647001.out).2.1); rintro e w93 ⟨rfl, hb⟩; refine ⟨_, rfl, ?_⟩; have n0_ := Aside0.mk (Kd.R_below (by (with_reducible repeat (first | apply Kd.R_alloc | apply Kd.R_drewN | apply Kd.R_drew)); exact HO_637000.out) hb); have n1_ := Aside0.mk (Kd.R_below (by (with_reducible repeat (first | apply Kd.R_alloc | apply Kd.R_drewN | apply Kd.R_drew)); exact HO_637001.out) hb); have n2_ := Aside0.mk (Kd.R_below (by (with_reducible repeat (first | apply Kd.R_alloc | apply Kd.R_drewN | apply Kd.R_drew)); exact HO_647000.out) hb); have n3_ := Aside0.mk (Kd.R_below (by (with_reducible repeat (first | apply Kd.R_alloc | apply Kd.R_drewN | apply Kd.R_drew)); exact HO_647001.out) hb); have n4_ := Aside0.mk (blk_below (g := gb624) (o := .cells #[.slice A0_0 l0_0.length c0_0, .slice A0_1 l0_1.length c0_1, .int .i64 a0_2] 29 (0, 0)) (by (with_reducible repeat (first | refine blk_drewN ?_ _ | refine blk_drew ?_ | refine blk_alloc ?_ _)); exact BK624.out) hb); have n5_ := Aside0.mk (blk_below (g := gb636) (o := .cells #[.slice Ao29 t628.length co29, .slice Ao32 t631.length co32, .int .i64 t634] 29 (0, 0)) (by (with_reducible repeat (first | refine blk_drewN ?_ _ | refine blk_drew ?_ | refine blk_alloc ?_ _)); exact BK636.out) hb); have n6_ := Aside0.mk (blk_below (g := gb646) (o := .cells #[.slice Ao35 t639.length co35, .slice Ao39 t642.length co39, .int .i64 t645] 29 (0, 0)) (by (with_reducible repeat (first | refine blk_drewN ?_ _ | refine blk_drew ?_ | refine blk_alloc ?_ _)); exact BK646.out) hb); have n7_ := Aside0.mk (below_step (by repeat (first | (with_reducible first | exact HB.out | apply below_alloc | apply pw_below_drewN | apply below_drew1 | refine below_set ?_ GE624.out | refine below_set ?_ GE636.out | refine below_set ?_ GE646.out) | exact HB.out)) hb); clear HO_637000; clear HO_637001; clear HO_647000; clear HO_647001; clear BK624; clear BK636; clear BK646; clear HB; have HO_637000 := n0_; have HO_637001 := n1_; have HO_647000 := n2_; have HO_647001 := n3_; have BK624 := n4_; have BK636 := n5_; have BK646 := n6_; have HB := n7_; clear n0_ n1_ n2_ n3_ n4_ n5_ n6_ n7_; (try clear hb); (try clear hb2); (try clear hk); (try clear hi)))
                            go_roundg k3
                            case measure => have := HJ2.out; have := HJ24.out; have := HK3.out; omega
                            case rel => exact ⟨(wrap64 (x80_3 + 1)), (by first | rfl | (simp; done) | (simp [*]; done)), H', ⟨by have := HJ2.out; have := HJ24.out; have := HK3.out; omega⟩, ⟨by (with_reducible repeat (first | apply Kd.R_alloc | apply Kd.R_drewN | apply Kd.R_drew)); exact HO_637000.out⟩, ⟨by (with_reducible repeat (first | apply Kd.R_alloc | apply Kd.R_drewN | apply Kd.R_drew)); exact HO_637001.out⟩, ⟨by (with_reducible repeat (first | apply Kd.R_alloc | apply Kd.R_drewN | apply Kd.R_drew)); exact HO_647000.out⟩, ⟨by (with_reducible repeat (first | apply Kd.R_alloc | apply Kd.R_drewN | apply Kd.R_drew)); exact HO_647001.out⟩, ⟨by (with_reducible repeat (first | refine blk_drewN ?_ _ | refine blk_drew ?_ | refine blk_alloc ?_ _)); exact BK624.out⟩, ⟨by (with_reducible repeat (first | refine blk_drewN ?_ _ | refine blk_drew ?_ | refine blk_alloc ?_ _)); exact BK636.out⟩, ⟨by (with_reducible repeat (first | refine blk_drewN ?_ _ | refine blk_drew ?_ | refine blk_alloc ?_ _)); exact BK646.out⟩, ⟨by repeat (first | (with_reducible first | exact HB.out | apply below_alloc | apply pw_below_drewN | apply below_drew1 | refine below_set ?_ GE624.out | refine below_set ?_ GE636.out | refine below_set ?_ GE646.out) | exact HB.out)⟩⟩
                          · rw [if_neg c86] at H
                            have c86b0 : (t651.toList == t649.toList) = false := beq_eq_false_iff_ne.mpr c86
                            have c86b1 : (t651.toList != t649.toList) = true := bne_iff_ne.mpr c86
                            obtain rfl := Option.some.inj H
                            have hnb94 := NB624_636.out
                            have hnc94 := NB636_624.out
                            have hnb95 := NB624_646.out
                            have hnc95 := NB646_624.out
                            have hcz96_0 : wr.cell? ⟨gb624, 0, none⟩ = some (.slice A0_0 l0_0.length c0_0) := (blk_cell BK624.out 0).trans rfl
                            have hcz96_1 : wr.cell? ⟨gb624, 1, none⟩ = some (.slice A0_1 l0_1.length c0_1) := (blk_cell BK624.out 1).trans rfl
                            have hcz96_2 : wr.cell? ⟨gb624, 2, none⟩ = some (.int .i64 a0_2) := (blk_cell BK624.out 2).trans rfl
                            have hfz96_0 := blk_frozen BK624.out 0
                            have hfz96_1 := blk_frozen BK624.out 1
                            have hfz96_2 := blk_frozen BK624.out 2
                            go_wp2_with (first | ((with_reducible refine gate_callee (f := 43) rfl ?_); refine goesL_ (some 86) rfl rfl Try.func43 (by kernel_rfl) rfl #[.agg #[.slice A0_0 l0_0.length c0_0, .slice A0_1 l0_1.length c0_1, .int .i64 a0_2], .int .i64 x80_3] rfl (by (try simp only [List.map_toArray, List.map_cons, List.map_nil]); first | done | rfl | (simp only [List.length_drop, List.length_take]; rfl)) ?_; (with_reducible refine (drive_Get.calls _ _ l0_0 _ _ l0_1 a0_2 x80_3 t649 t650 _ ?side1 ?side2 ?side3 ?side4 A82.out).mono ?_); (case side1 => repeat (first | exact (Kd.C_below HR0_0.out HB.out) | (with_reducible refine Kd.C_alloc ?_ _) | (with_reducible refine Kd.C_drewN ?_ _) | (with_reducible refine Kd.C_drew ?_))); (case side2 => exact HC0_0.out); (case side3 => repeat (first | exact (Kd.C_below HR0_1.out HB.out) | (with_reducible refine Kd.C_alloc ?_ _) | (with_reducible refine Kd.C_drewN ?_ _) | (with_reducible refine Kd.C_drew ?_))); (case side4 => exact HC0_1.out); rintro e w97 ⟨rfl, hb⟩; refine ⟨_, rfl, ?_⟩; have n0_ := Aside0.mk (Kd.R_below (by (with_reducible repeat (first | apply Kd.R_alloc | apply Kd.R_drewN | apply Kd.R_drew)); exact HO_637000.out) hb); have n1_ := Aside0.mk (Kd.R_below (by (with_reducible repeat (first | apply Kd.R_alloc | apply Kd.R_drewN | apply Kd.R_drew)); exact HO_637001.out) hb); have n2_ := Aside0.mk (Kd.R_below (by (with_reducible repeat (first | apply Kd.R_alloc | apply Kd.R_drewN | apply Kd.R_drew)); exact HO_647000.out) hb); have n3_ := Aside0.mk (Kd.R_below (by (with_reducible repeat (first | apply Kd.R_alloc | apply Kd.R_drewN | apply Kd.R_drew)); exact HO_647001.out) hb); have n4_ := Aside0.mk (blk_below (g := gb624) (o := .cells #[.slice A0_0 l0_0.length c0_0, .slice A0_1 l0_1.length c0_1, .int .i64 a0_2] 29 (0, 0)) (by (with_reducible repeat (first | refine blk_drewN ?_ _ | refine blk_drew ?_ | refine blk_alloc ?_ _)); exact BK624.out) hb); have n5_ := Aside0.mk (blk_below (g := gb636) (o := .cells #[.slice Ao29 t628.length co29, .slice Ao32 t631.length co32, .int .i64 t634] 29 (0, 0)) (by (with_reducible repeat (first | refine blk_drewN ?_ _ | refine blk_drew ?_ | refine blk_alloc ?_ _)); exact BK636.out) hb); have n6_ := Aside0.mk (blk_below (g := gb646) (o := .cells #[.slice Ao35 t639.length co35, .slice Ao39 t642.length co39, .int .i64 t645] 29 (0, 0)) (by (with_reducible repeat (first | refine blk_drewN ?_ _ | refine blk_drew ?_ | refine blk_alloc ?_ _)); exact BK646.out) hb); have n7_ := Aside0.mk (below_step (by repeat (first | (with_reducible first | exact HB.out | apply below_alloc | apply pw_below_drewN | apply below_drew1 | refine below_set ?_ GE624.out | refine below_set ?_ GE636.out | refine below_set ?_ GE646.out) | exact HB.out)) hb); clear HO_637000; clear HO_637001; clear HO_647000; clear HO_647001; clear BK624; clear BK636; clear BK646; clear HB; have HO_637000 := n0_; have HO_637001 := n1_; have HO_647000 := n2_; have HO_647001 := n3_; have BK624 := n4_; have BK636 := n5_; have BK646 := n6_; have HB := n7_; clear n0_ n1_ n2_ n3_ n4_ n5_ n6_ n7_; (try clear hb); (try clear hb2); (try clear hk); (try clear hi); have hnb98 := NB646_636.out; have hnc98 := NB636_646.out; have hcz99_0 : w97.cell? ⟨gb646, 0, none⟩ = some (.slice Ao35 t639.length co35) := (blk_cell BK646.out 0).trans rfl; have hcz99_1 : w97.cell? ⟨gb646, 1, none⟩ = some (.slice Ao39 t642.length co39) := (blk_cell BK646.out 1).trans rfl; have hcz99_2 : w97.cell? ⟨gb646, 2, none⟩ = some (.int .i64 t645) := (blk_cell BK646.out 2).trans rfl; have hfz99_0 := blk_frozen BK646.out 0; have hfz99_1 := blk_frozen BK646.out 1; have hfz99_2 := blk_frozen BK646.out 2) | ((with_reducible refine gate_callee (f := 43) rfl ?_); refine goesL_ (some 92) rfl rfl Try.func43 (by kernel_rfl) rfl #[.agg #[.slice Ao35 t639.length co35, .slice Ao39 t642.length co39, .int .i64 t645], .int .i64 x80_3] rfl (by (try simp only [List.map_toArray, List.map_cons, List.map_nil]); first | done | rfl | (simp only [List.length_drop, List.length_take]; rfl)) ?_; (with_reducible refine (drive_Get.calls _ _ t639 _ _ t642 t645 x80_3 t651 t652 _ ?side1 ?side2 ?side3 ?side4 A83.out).mono ?_); (case side1 => repeat (first | exact (Kd.R_reads' HO_647000.out).2.2 | (with_reducible refine Kd.C_alloc ?_ _) | (with_reducible refine Kd.C_drewN ?_ _) | (with_reducible refine Kd.C_drew ?_))); (case side2 => exact (Kd.R_reads' HO_647000.out).2.1); (case side3 => repeat (first | exact (Kd.R_reads' HO_647001.out).2.2 | (with_reducible refine Kd.C_alloc ?_ _) | (with_reducible refine Kd.C_drewN ?_ _) | (with_reducible refine Kd.C_drew ?_))); (case side4 => exact (Kd.R_reads' HO_647001.out).2.1); rintro e w100 ⟨rfl, hb⟩; refine ⟨_, rfl, ?_⟩; have n0_ := Aside0.mk (Kd.R_below (by (with_reducible repeat (first | apply Kd.R_alloc | apply Kd.R_drewN | apply Kd.R_drew)); exact HO_637000.out) hb); have n1_ := Aside0.mk (Kd.R_below (by (with_reducible repeat (first | apply Kd.R_alloc | apply Kd.R_drewN | apply Kd.R_drew)); exact HO_637001.out) hb); have n2_ := Aside0.mk (Kd.R_below (by (with_reducible repeat (first | apply Kd.R_alloc | apply Kd.R_drewN | apply Kd.R_drew)); exact HO_647000.out) hb); have n3_ := Aside0.mk (Kd.R_below (by (with_reducible repeat (first | apply Kd.R_alloc | apply Kd.R_drewN | apply Kd.R_drew)); exact HO_647001.out) hb); have n4_ := Aside0.mk (blk_below (g := gb624) (o := .cells #[.slice A0_0 l0_0.length c0_0, .slice A0_1 l0_1.length c0_1, .int .i64 a0_2] 29 (0, 0)) (by (with_reducible repeat (first | refine blk_drewN ?_ _ | refine blk_drew ?_ | refine blk_alloc ?_ _)); exact BK624.out) hb); have n5_ := Aside0.mk (blk_below (g := gb636) (o := .cells #[.slice Ao29 t628.length co29, .slice Ao32 t631.length co32, .int .i64 t634] 29 (0, 0)) (by (with_reducible repeat (first | refine blk_drewN ?_ _ | refine blk_drew ?_ | refine blk_alloc ?_ _)); exact BK636.out) hb); have n6_ := Aside0.mk (blk_below (g := gb646) (o := .cells #[.slice Ao35 t639.length co35, .slice Ao39 t642.length co39, .int .i64 t645] 29 (0, 0)) (by (with_reducible repeat (first | refine blk_drewN ?_ _ | refine blk_drew ?_ | refine blk_alloc ?_ _)); exact BK646.out) hb); have n7_ := Aside0.mk (below_step (by repeat (first | (with_reducible first | exact HB.out | apply below_alloc | apply pw_below_drewN | apply below_drew1 | refine below_set ?_ GE624.out | refine below_set ?_ GE636.out | refine below_set ?_ GE646.out) | exact HB.out)) hb); clear HO_637000; clear HO_637001; clear HO_647000; clear HO_647001; clear BK624; clear BK636; clear BK646; clear HB; have HO_637000 := n0_; have HO_637001 := n1_; have HO_647000 := n2_; have HO_647001 := n3_; have BK624 := n4_; have BK636 := n5_; have BK646 := n6_; have HB := n7_; clear n0_ n1_ n2_ n3_ n4_ n5_ n6_ n7_; (try clear hb); (try clear hb2); (try clear hk); (try clear hi)))
                            go_ret
                            exact ⟨by first | rfl | (simp [errW_none, errW_some] <;> rfl) | (simp [*, errW_none, errW_some] <;> rfl), by repeat (first | (with_reducible first | exact HB.out | apply below_alloc | apply pw_below_drewN | apply below_drew1 | refine below_set ?_ GE624.out | refine below_set ?_ GE636.out | refine below_set ?_ GE646.out) | exact HB.out)⟩
                        · rw [if_neg c85] at H
                          have c85b0 : (t652 == 0) = false := beq_eq_false_iff_ne.mpr c85
                          have c85b1 : (t652 != 0) = true := bne_iff_ne.mpr c85
                          obtain rfl := Option.some.inj H
                          have hnb101 := NB624_636.out
                          have hnc101 := NB636_624.out
                          have hnb102 := NB624_646.out
                          have hnc102 := NB646_624.out
                          have hcz103_0 : wr.cell? ⟨gb624, 0, none⟩ = some (.slice A0_0 l0_0.length c0_0) := (blk_cell BK624.out 0).trans rfl
                          have hcz103_1 : wr.cell? ⟨gb624, 1, none⟩ = some (.slice A0_1 l0_1.length c0_1) := (blk_cell BK624.out 1).trans rfl
                          have hcz103_2 : wr.cell? ⟨gb624, 2, none⟩ = some (.int .i64 a0_2) := (blk_cell BK624.out 2).trans rfl
                          have hfz103_0 := blk_frozen BK624.out 0
                          have hfz103_1 := blk_frozen BK624.out 1
                          have hfz103_2 := blk_frozen BK624.out 2
                          go_wp2_with (first | ((with_reducible refine gate_callee (f := 43) rfl ?_); refine goesL_ (some 86) rfl rfl Try.func43 (by kernel_rfl) rfl #[.agg #[.slice A0_0 l0_0.length c0_0, .slice A0_1 l0_1.length c0_1, .int .i64 a0_2], .int .i64 x80_3] rfl (by (try simp only [List.map_toArray, List.map_cons, List.map_nil]); first | done | rfl | (simp only [List.length_drop, List.length_take]; rfl)) ?_; (with_reducible refine (drive_Get.calls _ _ l0_0 _ _ l0_1 a0_2 x80_3 t649 t650 _ ?side1 ?side2 ?side3 ?side4 A82.out).mono ?_); (case side1 => repeat (first | exact (Kd.C_below HR0_0.out HB.out) | (with_reducible refine Kd.C_alloc ?_ _) | (with_reducible refine Kd.C_drewN ?_ _) | (with_reducible refine Kd.C_drew ?_))); (case side2 => exact HC0_0.out); (case side3 => repeat (first | exact (Kd.C_below HR0_1.out HB.out) | (with_reducible refine Kd.C_alloc ?_ _) | (with_reducible refine Kd.C_drewN ?_ _) | (with_reducible refine Kd.C_drew ?_))); (case side4 => exact HC0_1.out); rintro e w104 ⟨rfl, hb⟩; refine ⟨_, rfl, ?_⟩; have n0_ := Aside0.mk (Kd.R_below (by (with_reducible repeat (first | apply Kd.R_alloc | apply Kd.R_drewN | apply Kd.R_drew)); exact HO_637000.out) hb); have n1_ := Aside0.mk (Kd.R_below (by (with_reducible repeat (first | apply Kd.R_alloc | apply Kd.R_drewN | apply Kd.R_drew)); exact HO_637001.out) hb); have n2_ := Aside0.mk (Kd.R_below (by (with_reducible repeat (first | apply Kd.R_alloc | apply Kd.R_drewN | apply Kd.R_drew)); exact HO_647000.out) hb); have n3_ := Aside0.mk (Kd.R_below (by (with_reducible repeat (first | apply Kd.R_alloc | apply Kd.R_drewN | apply Kd.R_drew)); exact HO_647001.out) hb); have n4_ := Aside0.mk (blk_below (g := gb624) (o := .cells #[.slice A0_0 l0_0.length c0_0, .slice A0_1 l0_1.length c0_1, .int .i64 a0_2] 29 (0, 0)) (by (with_reducible repeat (first | refine blk_drewN ?_ _ | refine blk_drew ?_ | refine blk_alloc ?_ _)); exact BK624.out) hb); have n5_ := Aside0.mk (blk_below (g := gb636) (o := .cells #[.slice Ao29 t628.length co29, .slice Ao32 t631.length co32, .int .i64 t634] 29 (0, 0)) (by (with_reducible repeat (first | refine blk_drewN ?_ _ | refine blk_drew ?_ | refine blk_alloc ?_ _)); exact BK636.out) hb); have n6_ := Aside0.mk (blk_below (g := gb646) (o := .cells #[.slice Ao35 t639.length co35, .slice Ao39 t642.length co39, .int .i64 t645] 29 (0, 0)) (by (with_reducible repeat (first | refine blk_drewN ?_ _ | refine blk_drew ?_ | refine blk_alloc ?_ _)); exact BK646.out) hb); have n7_ := Aside0.mk (below_step (by repeat (first | (with_reducible first | exact HB.out | apply below_alloc | apply pw_below_drewN | apply below_drew1 | refine below_set ?_ GE624.out | refine below_set ?_ GE636.out | refine below_set ?_ GE646.out) | exact HB.out)) hb); clear HO_637000; clear HO_637001; clear HO_647000; clear HO_647001; clear BK624; clear BK636; clear BK646; clear HB; have HO_637000 := n0_; have HO_637001 := n1_; have HO_647000 := n2_; have HO_647001 := n3_; have BK624 := n4_; have BK636 := n5_; have BK646 := n6_; have HB := n7_; clear n0_ n1_ n2_ n3_ n4_ n5_ n6_ n7_; (try clear hb); (try clear hb2); (try clear hk); (try clear hi); have hnb105 := NB646_636.out; have hnc105 := NB636_646.out; have hcz106_0 : w104.cell? ⟨gb646, 0, none⟩ = some (.slice Ao35 t639.length co35) := (blk_cell BK646.out 0).trans rfl; have hcz106_1 : w104.cell? ⟨gb646, 1, none⟩ = some (.slice Ao39 t642.length co39) := (blk_cell BK646.out 1).trans rfl; have hcz106_2 : w104.cell? ⟨gb646, 2, none⟩ = some (.int .i64 t645) := (blk_cell BK646.out 2).trans rfl; have hfz106_0 := blk_frozen BK646.out 0; have hfz106_1 := blk_frozen BK646.out 1; have hfz106_2 := blk_frozen BK646.out 2) | ((with_reducible refine gate_callee (f := 43) rfl ?_); refine goesL_ (some 92) rfl rfl Try.func43 (by kernel_rfl) rfl #[.agg #[.slice Ao35 t639.length co35, .slice Ao39 t642.length co39, .int .i64 t645], .int .i64 x80_3] rfl (by (try simp only [List.map_toArray, List.map_cons, List.map_nil]); first | done | rfl | (simp only [List.length_drop, List.length_take]; rfl)) ?_; (with_reducible refine (drive_Get.calls _ _ t639 _ _ t642 t645 x80_3 t651 t652 _ ?side1 ?side2 ?side3 ?side4 A83.out).mono ?_); (case side1 => repeat (first | exact (Kd.R_reads' HO_647000.out).2.2 | (with_reducible refine Kd.C_alloc ?_ _) | (with_reducible refine Kd.C_drewN ?_ _) | (with_reducible refine Kd.C_drew ?_))); (case side2 => exact (Kd.R_reads' HO_647000.out).2.1); (case side3 => repeat (first | exact (Kd.R_reads' HO_647001.out).2.2 | (with_reducible refine Kd.C_alloc ?_ _) | (with_reducible refine Kd.C_drewN ?_ _) | (with_reducible refine Kd.C_drew ?_))); (case side4 => exact (Kd.R_reads' HO_647001.out).2.1); rintro e w107 ⟨rfl, hb⟩; refine ⟨_, rfl, ?_⟩; have n0_ := Aside0.mk (Kd.R_below (by (with_reducible repeat (first | apply Kd.R_alloc | apply Kd.R_drewN | apply Kd.R_drew)); exact HO_637000.out) hb); have n1_ := Aside0.mk (Kd.R_below (by (with_reducible repeat (first | apply Kd.R_alloc | apply Kd.R_drewN | apply Kd.R_drew)); exact HO_637001.out) hb); have n2_ := Aside0.mk (Kd.R_below (by (with_reducible repeat (first | apply Kd.R_alloc | apply Kd.R_drewN | apply Kd.R_drew)); exact HO_647000.out) hb); have n3_ := Aside0.mk (Kd.R_below (by (with_reducible repeat (first | apply Kd.R_alloc | apply Kd.R_drewN | apply Kd.R_drew)); exact HO_647001.out) hb); have n4_ := Aside0.mk (blk_below (g := gb624) (o := .cells #[.slice A0_0 l0_0.length c0_0, .slice A0_1 l0_1.length c0_1, .int .i64 a0_2] 29 (0, 0)) (by (with_reducible repeat (first | refine blk_drewN ?_ _ | refine blk_drew ?_ | refine blk_alloc ?_ _)); exact BK624.out) hb); have n5_ := Aside0.mk (blk_below (g := gb636) (o := .cells #[.slice Ao29 t628.length co29, .slice Ao32 t631.length co32, .int .i64 t634] 29 (0, 0)) (by (with_reducible repeat (first | refine blk_drewN ?_ _ | refine blk_drew ?_ | refine blk_alloc ?_ _)); exact BK636.out) hb); have n6_ := Aside0.mk (blk_below (g := gb646) (o := .cells #[.slice Ao35 t639.length co35, .slice Ao39 t642.length co39, .int .i64 t645] 29 (0, 0)) (by (with_reducible repeat (first | refine blk_drewN ?_ _ | refine blk_drew ?_ | refine blk_alloc ?_ _)); exact BK646.out) hb); have n7_ := Aside0.mk (below_step (by repeat (first | (with_reducible first | exact HB.out | apply below_alloc | apply pw_below_drewN | apply below_drew1 | refine below_set ?_ GE624.out | refine below_set ?_ GE636.out | refine below_set ?_ GE646.out) | exact HB.out)) hb); clear HO_637000; clear HO_637001; clear HO_647000; clear HO_647001; clear BK624; clear BK636; clear BK646; clear HB; have HO_637000 := n0_; have HO_637001 := n1_; have HO_647000 := n2_; have HO_647001 := n3_; have BK624 := n4_; have BK636 := n5_; have BK646 := n6_; have HB := n7_; clear n0_ n1_ n2_ n3_ n4_ n5_ n6_ n7_; (try clear hb); (try clear hb2); (try clear hk); (try clear hi)))
                          go_ret
                          exact ⟨by first | rfl | (simp [errW_none, errW_some] <;> rfl) | (simp [*, errW_none, errW_some] <;> rfl), by repeat (first | (with_reducible first | exact HB.out | apply below_alloc | apply pw_below_drewN | apply below_drew1 | refine below_set ?_ GE624.out | refine below_set ?_ GE636.out | refine below_set ?_ GE646.out) | exact HB.out)⟩
                      · rw [if_neg c84] at H
                        have c84b0 : (t650 == 0) = false := beq_eq_false_iff_ne.mpr c84
                        have c84b1 : (t650 != 0) = true := bne_iff_ne.mpr c84
                        obtain rfl := Option.some.inj H
                        have hnb108 := NB624_636.out
                        have hnc108 := NB636_624.out
                        have hnb109 := NB624_646.out
                        have hnc109 := NB646_624.out
                        have hcz110_0 : wr.cell? ⟨gb624, 0, none⟩ = some (.slice A0_0 l0_0.length c0_0) := (blk_cell BK624.out 0).trans rfl
                        have hcz110_1 : wr.cell? ⟨gb624, 1, none⟩ = some (.slice A0_1 l0_1.length c0_1) := (blk_cell BK624.out 1).trans rfl
                        have hcz110_2 : wr.cell? ⟨gb624, 2, none⟩ = some (.int .i64 a0_2) := (blk_cell BK624.out 2).trans rfl
                        have hfz110_0 := blk_frozen BK624.out 0
                        have hfz110_1 := blk_frozen BK624.out 1
                        have hfz110_2 := blk_frozen BK624.out 2
                        go_wp2_with (first | ((with_reducible refine gate_callee (f := 43) rfl ?_); refine goesL_ (some 86) rfl rfl Try.func43 (by kernel_rfl) rfl #[.agg #[.slice A0_0 l0_0.length c0_0, .slice A0_1 l0_1.length c0_1, .int .i64 a0_2], .int .i64 x80_3] rfl (by (try simp only [List.map_toArray, List.map_cons, List.map_nil]); first | done | rfl | (simp only [List.length_drop, List.length_take]; rfl)) ?_; (with_reducible refine (drive_Get.calls _ _ l0_0 _ _ l0_1 a0_2 x80_3 t649 t650 _ ?side1 ?side2 ?side3 ?side4 A82.out).mono ?_); (case side1 => repeat (first | exact (Kd.C_below HR0_0.out HB.out) | (with_reducible refine Kd.C_alloc ?_ _) | (with_reducible refine Kd.C_drewN ?_ _) | (with_reducible refine Kd.C_drew ?_))); (case side2 => exact HC0_0.out); (case side3 => repeat (first | exact (Kd.C_below HR0_1.out HB.out) | (with_reducible refine Kd.C_alloc ?_ _) | (with_reducible refine Kd.C_drewN ?_ _) | (with_reducible refine Kd.C_drew ?_))); (case side4 => exact HC0_1.out); rintro e w111 ⟨rfl, hb⟩; refine ⟨_, rfl, ?_⟩; have n0_ := Aside0.mk (Kd.R_below (by (with_reducible repeat (first | apply Kd.R_alloc | apply Kd.R_drewN | apply Kd.R_drew)); exact HO_637000.out) hb); have n1_ := Aside0.mk (Kd.R_below (by (with_reducible repeat (first | apply Kd.R_alloc | apply Kd.R_drewN | apply Kd.R_drew)); exact HO_637001.out) hb); have n2_ := Aside0.mk (Kd.R_below (by (with_reducible repeat (first | apply Kd.R_alloc | apply Kd.R_drewN | apply Kd.R_drew)); exact HO_647000.out) hb); have n3_ := Aside0.mk (Kd.R_below (by (with_reducible repeat (first | apply Kd.R_alloc | apply Kd.R_drewN | apply Kd.R_drew)); exact HO_647001.out) hb); have n4_ := Aside0.mk (blk_below (g := gb624) (o := .cells #[.slice A0_0 l0_0.length c0_0, .slice A0_1 l0_1.length c0_1, .int .i64 a0_2] 29 (0, 0)) (by (with_reducible repeat (first | refine blk_drewN ?_ _ | refine blk_drew ?_ | refine blk_alloc ?_ _)); exact BK624.out) hb); have n5_ := Aside0.mk (blk_below (g := gb636) (o := .cells #[.slice Ao29 t628.length co29, .slice Ao32 t631.length co32, .int .i64 t634] 29 (0, 0)) (by (with_reducible repeat (first | refine blk_drewN ?_ _ | refine blk_drew ?_ | refine blk_alloc ?_ _)); exact BK636.out) hb); have n6_ := Aside0.mk (blk_below (g := gb646) (o := .cells #[.slice Ao35 t639.length co35, .slice Ao39 t642.length co39, .int .i64 t645] 29 (0, 0)) (by (with_reducible repeat (first | refine blk_drewN ?_ _ | refine blk_drew ?_ | refine blk_alloc ?_ _)); exact BK646.out) hb); have n7_ := Aside0.mk (below_step (by repeat (first | (with_reducible first | exact HB.out | apply below_alloc | apply pw_below_drewN | apply below_drew1 | refine below_set ?_ GE624.out | refine below_set ?_ GE636.out | refine below_set ?_ GE646.out) | exact HB.out)) hb); clear HO_637000; clear HO_637001; clear HO_647000; clear HO_647001; clear BK624; clear BK636; clear BK646; clear HB; have HO_637000 := n0_; have HO_637001 := n1_; have HO_647000 := n2_; have HO_647001 := n3_; have BK624 := n4_; have BK636 := n5_; have BK646 := n6_; have HB := n7_; clear n0_ n1_ n2_ n3_ n4_ n5_ n6_ n7_; (try clear hb); (try clear hb2); (try clear hk); (try clear hi); have hnb112 := NB646_636.out; have hnc112 := NB636_646.out; have hcz113_0 : w111.cell? ⟨gb646, 0, none⟩ = some (.slice Ao35 t639.length co35) := (blk_cell BK646.out 0).trans rfl; have hcz113_1 : w111.cell? ⟨gb646, 1, none⟩ = some (.slice Ao39 t642.length co39) := (blk_cell BK646.out 1).trans rfl; have hcz113_2 : w111.cell? ⟨gb646, 2, none⟩ = some (.int .i64 t645) := (blk_cell BK646.out 2).trans rfl; have hfz113_0 := blk_frozen BK646.out 0; have hfz113_1 := blk_frozen BK646.out 1; have hfz113_2 := blk_frozen BK646.out 2) | ((with_reducible refine gate_callee (f := 43) rfl ?_); refine goesL_ (some 92) rfl rfl Try.func43 (by kernel_rfl) rfl #[.agg #[.slice Ao35 t639.length co35, .slice Ao39 t642.length co39, .int .i64 t645], .int .i64 x80_3] rfl (by (try simp only [List.map_toArray, List.map_cons, List.map_nil]); first | done | rfl | (simp only [List.length_drop, List.length_take]; rfl)) ?_; (with_reducible refine (drive_Get.calls _ _ t639 _ _ t642 t645 x80_3 t651 t652 _ ?side1 ?side2 ?side3 ?side4 A83.out).mono ?_); (case side1 => repeat (first | exact (Kd.R_reads' HO_647000.out).2.2 | (with_reducible refine Kd.C_alloc ?_ _) | (with_reducible refine Kd.C_drewN ?_ _) | (with_reducible refine Kd.C_drew ?_))); (case side2 => exact (Kd.R_reads' HO_647000.out).2.1); (case side3 => repeat (first | exact (Kd.R_reads' HO_647001.out).2.2 | (with_reducible refine Kd.C_alloc ?_ _) | (with_reducible refine Kd.C_drewN ?_ _) | (with_reducible refine Kd.C_drew ?_))); (case side4 => exact (Kd.R_reads' HO_647001.out).2.1); rintro e w114 ⟨rfl, hb⟩; refine ⟨_, rfl, ?_⟩; have n0_ := Aside0.mk (Kd.R_below (by (with_reducible repeat (first | apply Kd.R_alloc | apply Kd.R_drewN | apply Kd.R_drew)); exact HO_637000.out) hb); have n1_ := Aside0.mk (Kd.R_below (by (with_reducible repeat (first | apply Kd.R_alloc | apply Kd.R_drewN | apply Kd.R_drew)); exact HO_637001.out) hb); have n2_ := Aside0.mk (Kd.R_below (by (with_reducible repeat (first | apply Kd.R_alloc | apply Kd.R_drewN | apply Kd.R_drew)); exact HO_647000.out) hb); have n3_ := Aside0.mk (Kd.R_below (by (with_reducible repeat (first | apply Kd.R_alloc | apply Kd.R_drewN | apply Kd.R_drew)); exact HO_647001.out) hb); have n4_ := Aside0.mk (blk_below (g := gb624) (o := .cells #[.slice A0_0 l0_0.length c0_0, .slice A0_1 l0_1.length c0_1, .int .i64 a0_2] 29 (0, 0)) (by (with_reducible repeat (first | refine blk_drewN ?_ _ | refine blk_drew ?_ | refine blk_alloc ?_ _)); exact BK624.out) hb); have n5_ := Aside0.mk (blk_below (g := gb636) (o := .cells #[.slice Ao29 t628.length co29, .slice Ao32 t631.length co32, .int .i64 t634] 29 (0, 0)) (by (with_reducible repeat (first | refine blk_drewN ?_ _ | refine blk_drew ?_ | refine blk_alloc ?_ _)); exact BK636.out) hb); have n6_ := Aside0.mk (blk_below (g := gb646) (o := .cells #[.slice Ao35 t639.length co35, .slice Ao39 t642.length co39, .int .i64 t645] 29 (0, 0)) (by (with_reducible repeat (first | refine blk_drewN ?_ _ | refine blk_drew ?_ | refine blk_alloc ?_ _)); exact BK646.out) hb); have n7_ := Aside0.mk (below_step (by repeat (first | (with_reducible first | exact HB.out | apply below_alloc | apply pw_below_drewN | apply below_drew1 | refine below_set ?_ GE624.out | refine below_set ?_ GE636.out | refine below_set ?_ GE646.out) | exact HB.out)) hb); clear HO_637000; clear HO_637001; clear HO_647000; clear HO_647001; clear BK624; clear BK636; clear BK646; clear HB; have HO_637000 := n0_; have HO_637001 := n1_; have HO_647000 := n2_; have HO_647001 := n3_; have BK624 := n4_; have BK636 := n5_; have BK646 := n6_; have HB := n7_; clear n0_ n1_ n2_ n3_ n4_ n5_ n6_ n7_; (try clear hb); (try clear hb2); (try clear hk); (try clear hi)))
                        go_ret
                        exact ⟨by first | rfl | (simp [errW_none, errW_some] <;> rfl) | (simp [*, errW_none, errW_some] <;> rfl), by repeat (first | (with_reducible first | exact HB.out | apply below_alloc | apply pw_below_drewN | apply below_drew1 | refine below_set ?_ GE624.out | refine below_set ?_ GE636.out | refine below_set ?_ GE646.out) | exact HB.out)⟩
                    · rw [if_neg c81] at H
                      have c81b0 : decide (x80_3 < (l0_0.length : Int)) = false := decide_eq_false c81
                      clear c81
                      replace H := Option.bind_eq_some_iff.mp H
                      obtain ⟨t648, A1150, H⟩ := H
                      replace H : (some t648) = some r := H
                      have A115 := Aside0.mk A1150
                      clear A1150
                      obtain rfl := Option.some.inj H
                      go_wp2_with (first | ((with_reducible refine gate_callee (f := 31) rfl ?_); refine goesL_ (some 107) rfl rfl Try.func31 (by kernel_rfl) rfl #[] rfl (by (try simp only [List.map_toArray, List.map_cons, List.map_nil]); first | done | rfl | (simp only [List.length_drop, List.length_take]; rfl)) ?_; (with_reducible refine (hibernaclelaw15_fixed.calls  t648 _ A115.out).mono ?_); rintro e w116 ⟨rfl, hb⟩; refine ⟨_, rfl, ?_⟩; have n0_ := Aside0.mk (Kd.R_below (by (with_reducible repeat (first | apply Kd.R_alloc | apply Kd.R_drewN | apply Kd.R_drew)); exact HO_637000.out) hb); have n1_ := Aside0.mk (Kd.R_below (by (with_reducible repeat (first | apply Kd.R_alloc | apply Kd.R_drewN | apply Kd.R_drew)); exact HO_637001.out) hb); have n2_ := Aside0.mk (Kd.R_below (by (with_reducible repeat (first | apply Kd.R_alloc | apply Kd.R_drewN | apply Kd.R_drew)); exact HO_647000.out) hb); have n3_ := Aside0.mk (Kd.R_below (by (with_reducible repeat (first | apply Kd.R_alloc | apply Kd.R_drewN | apply Kd.R_drew)); exact HO_647001.out) hb); have n4_ := Aside0.mk (blk_below (g := gb624) (o := .cells #[.slice A0_0 l0_0.length c0_0, .slice A0_1 l0_1.length c0_1, .int .i64 a0_2] 29 (0, 0)) (by (with_reducible repeat (first | refine blk_drewN ?_ _ | refine blk_drew ?_ | refine blk_alloc ?_ _)); exact BK624.out) hb); have n5_ := Aside0.mk (blk_below (g := gb636) (o := .cells #[.slice Ao29 t628.length co29, .slice Ao32 t631.length co32, .int .i64 t634] 29 (0, 0)) (by (with_reducible repeat (first | refine blk_drewN ?_ _ | refine blk_drew ?_ | refine blk_alloc ?_ _)); exact BK636.out) hb); have n6_ := Aside0.mk (blk_below (g := gb646) (o := .cells #[.slice Ao35 t639.length co35, .slice Ao39 t642.length co39, .int .i64 t645] 29 (0, 0)) (by (with_reducible repeat (first | refine blk_drewN ?_ _ | refine blk_drew ?_ | refine blk_alloc ?_ _)); exact BK646.out) hb); have n7_ := Aside0.mk (below_step (by repeat (first | (with_reducible first | exact HB.out | apply below_alloc | apply pw_below_drewN | apply below_drew1 | refine below_set ?_ GE624.out | refine below_set ?_ GE636.out | refine below_set ?_ GE646.out) | exact HB.out)) hb); clear HO_637000; clear HO_637001; clear HO_647000; clear HO_647001; clear BK624; clear BK636; clear BK646; clear HB; have HO_637000 := n0_; have HO_637001 := n1_; have HO_647000 := n2_; have HO_647001 := n3_; have BK624 := n4_; have BK636 := n5_; have BK646 := n6_; have HB := n7_; clear n0_ n1_ n2_ n3_ n4_ n5_ n6_ n7_; (try clear hb); (try clear hb2); (try clear hk); (try clear hi)))
                      go_ret
                      exact ⟨by first | rfl | (simp [errW_none, errW_some] <;> rfl) | (simp [*, errW_none, errW_some] <;> rfl), by repeat (first | (with_reducible first | exact HB.out | apply below_alloc | apply pw_below_drewN | apply below_drew1 | refine below_set ?_ GE624.out | refine below_set ?_ GE636.out | refine below_set ?_ GE646.out) | exact HB.out)⟩
        · rw [if_neg c23] at H
          have c23b0 : (t635 == 0) = false := beq_eq_false_iff_ne.mpr c23
          have c23b1 : (t635 != 0) = true := bne_iff_ne.mpr c23
          replace H := Option.bind_eq_some_iff.mp H
          obtain ⟨t637, A1170, H⟩ := H
          replace H : (if t637 = true then (if a0_2 = 0 then ((hibernacleref15_Same.f kj2 t628 t631 t634 l0_0 l0_1 a0_2).bind fun t638 => (some t638)) else (some false)) else (some false)) = some r := H
          have A117 := Aside0.mk A1170
          clear A1170
          by_cases c118 : t637 = true
          · subst c118
            have H1 : (if a0_2 = 0 then ((hibernacleref15_Same.f kj2 t628 t631 t634 l0_0 l0_1 a0_2).bind fun t638 => (some t638)) else (some false)) = some r := by rw [if_pos rfl] at H; exact H
            clear H
            have H := H1
            clear H1
            by_cases c119 : a0_2 = 0
            · rw [if_pos c119] at H
              have c119b0 : (a0_2 == 0) = true := beq_iff_eq.mpr c119
              have c119b1 : (a0_2 != 0) = false := bne_eq_false_iff_eq.mpr c119
              clear c119
              replace H := Option.bind_eq_some_iff.mp H
              obtain ⟨t638, A1200, H⟩ := H
              replace H : (some t638) = some r := H
              have A120 := Aside0.mk A1200
              clear A1200
              obtain rfl := Option.some.inj H
              have hcz121_0 : wc.cell? ⟨gb624, 0, none⟩ = some (.slice A0_0 l0_0.length c0_0) := (blk_cell BK624.out 0).trans rfl
              have hcz121_1 : wc.cell? ⟨gb624, 1, none⟩ = some (.slice A0_1 l0_1.length c0_1) := (blk_cell BK624.out 1).trans rfl
              have hcz121_2 : wc.cell? ⟨gb624, 2, none⟩ = some (.int .i64 a0_2) := (blk_cell BK624.out 2).trans rfl
              have hfz121_0 := blk_frozen BK624.out 0
              have hfz121_1 := blk_frozen BK624.out 1
              have hfz121_2 := blk_frozen BK624.out 2
              go_wp2_with (first | ((with_reducible refine gate_callee (f := 40) rfl ?_); refine goesL_ (some 29) rfl rfl Try.func40 (by kernel_rfl) rfl #[.agg #[.slice A0_0 l0_0.length c0_0, .slice A0_1 l0_1.length c0_1, .int .i64 a0_2]] rfl (by (try simp only [List.map_toArray, List.map_cons, List.map_nil]); first | done | rfl | (simp only [List.length_drop, List.length_take]; rfl)) ?_; (with_reducible refine (drive_Flush.calls _ _ l0_0 _ _ l0_1 a0_2 t628 t631 t634 t635 _ ?side1 ?side2 ?side3 ?side4 A22.out).mono ?_); (case side1 => repeat (first | exact (Kd.C_below HR0_0.out HB.out) | (with_reducible refine Kd.C_alloc ?_ _) | (with_reducible refine Kd.C_drewN ?_ _) | (with_reducible refine Kd.C_drew ?_))); (case side2 => exact HC0_0.out); (case side3 => repeat (first | exact (Kd.C_below HR0_1.out HB.out) | (with_reducible refine Kd.C_alloc ?_ _) | (with_reducible refine Kd.C_drewN ?_ _) | (with_reducible refine Kd.C_drew ?_))); (case side4 => exact HC0_1.out); rintro e w122 ⟨v629, v632, rfl, ho0, ho1, hb⟩; refine ⟨_, rfl, ?_⟩; have n0_ := Aside0.mk (Kd.R_lower ho0 (below_size (by repeat (first | (with_reducible first | exact HB.out | apply below_alloc | apply pw_below_drewN | apply below_drew1 | refine below_set ?_ GE624.out) | exact HB.out)))); have n1_ := Aside0.mk (Kd.R_lower ho1 (below_size (by repeat (first | (with_reducible first | exact HB.out | apply below_alloc | apply pw_below_drewN | apply below_drew1 | refine below_set ?_ GE624.out) | exact HB.out)))); have n2_ := Aside0.mk (blk_below (g := gb624) (o := .cells #[.slice A0_0 l0_0.length c0_0, .slice A0_1 l0_1.length c0_1, .int .i64 a0_2] 29 (0, 0)) (by (with_reducible repeat (first | refine blk_drewN ?_ _ | refine blk_drew ?_ | refine blk_alloc ?_ _)); exact BK624.out) hb); have n3_ := Aside0.mk (below_step (by repeat (first | (with_reducible first | exact HB.out | apply below_alloc | apply pw_below_drewN | apply below_drew1 | refine below_set ?_ GE624.out) | exact HB.out)) hb); clear BK624; clear HB; have HO630 := n0_; have HO633 := n1_; have BK624 := n2_; have HB := n3_; clear n0_ n1_ n2_ n3_; (try clear hb); (try clear hb2); (try clear hk); (try clear hi); (try clear ho0); (try clear ho1)) | ((with_reducible refine gate_dst (N := 5) rfl ?_); (try (refine gate_guard (by rfl) ?_; dsimp only)); refine box_event ?hg (N := 5) ?hd (cs := #[.slice none 0 0, .slice none 0 0, .int .i64 0]) (t := 29) ?hr ?_; (case hd => rfl); (case hg => rfl); (case hr => first | (go_simp; done) | (go_simp; rfl)); intro gb636 hg w123 hbox hb; have n0_ := Aside0.mk (Kd.R_below (by (with_reducible repeat (first | apply Kd.R_alloc | apply Kd.R_drewN | apply Kd.R_drew)); exact HO630.out) hb); have n1_ := Aside0.mk (Kd.R_below (by (with_reducible repeat (first | apply Kd.R_alloc | apply Kd.R_drewN | apply Kd.R_drew)); exact HO633.out) hb); have n2_ := Aside0.mk (blk_below (g := gb624) (o := .cells #[.slice A0_0 l0_0.length c0_0, .slice A0_1 l0_1.length c0_1, .int .i64 a0_2] 29 (0, 0)) (by (with_reducible repeat (first | refine blk_drewN ?_ _ | refine blk_drew ?_ | refine blk_alloc ?_ _)); exact BK624.out) hb); have n3_ := Aside0.mk (below_step (by repeat (first | (with_reducible first | exact HB.out | apply below_alloc | apply pw_below_drewN | apply below_drew1 | refine below_set ?_ GE624.out) | exact HB.out)) hb); have n4_ := Aside0.mk (hbox); have n5_ := Aside0.mk ((by rw [hg]; exact (below_size (by repeat (first | (with_reducible first | exact HB.out | apply below_alloc | apply pw_below_drewN | apply below_drew1 | refine below_set ?_ GE624.out) | exact HB.out))) : w.heap.size ≤ gb636)); have n6_ := Aside0.mk ((by rw [hg]; exact (below_size (by repeat (first | (with_reducible first | exact HB.out | apply below_alloc | apply pw_below_drewN | apply below_drew1 | refine below_set ?_ GE624.out) | exact HB.out))) : w.heap.size ≤ gb636)); have n7_ := Aside0.mk ((by rw [hg]; exact Nat.ne_of_lt (blk_lt (g := gb624) (o := .cells #[.slice A0_0 l0_0.length c0_0, .slice A0_1 l0_1.length c0_1, .int .i64 a0_2] 29 (0, 0)) (by (with_reducible repeat (first | refine blk_drewN ?_ _ | refine blk_drew ?_ | refine blk_alloc ?_ _)); exact BK624.out)) : gb624 ≠ gb636)); have n8_ := Aside0.mk ((by rw [hg]; exact Nat.ne_of_gt (blk_lt (g := gb624) (o := .cells #[.slice A0_0 l0_0.length c0_0, .slice A0_1 l0_1.length c0_1, .int .i64 a0_2] 29 (0, 0)) (by (with_reducible repeat (first | refine blk_drewN ?_ _ | refine blk_drew ?_ | refine blk_alloc ?_ _)); exact BK624.out)) : gb636 ≠ gb624)); clear HO630; clear HO633; clear BK624; clear HB; have HO630 := n0_; have HO633 := n1_; have BK624 := n2_; have HB := n3_; have BK636 := n4_; have GW636 := n5_; have GE636 := n6_; have NB624_636 := n7_; have NB636_624 := n8_; clear n0_ n1_ n2_ n3_ n4_ n5_ n6_ n7_ n8_; clear hb hbox hg; obtain ⟨Ao124, co124, eo124⟩ := Kd.R_slice HO630.out; subst eo124; have hnb125 := NB636_624.out; have hnc125 := NB624_636.out; have hcz126_0 : w123.cell? ⟨gb636, 0, none⟩ = some (.slice none 0 0) := (blk_cell BK636.out 0).trans rfl; have hcz126_1 : w123.cell? ⟨gb636, 1, none⟩ = some (.slice none 0 0) := (blk_cell BK636.out 1).trans rfl; have hcz126_2 : w123.cell? ⟨gb636, 2, none⟩ = some (.int .i64 0) := (blk_cell BK636.out 2).trans rfl; have hfz126_0 := blk_frozen BK636.out 0; have hfz126_1 := blk_frozen BK636.out 1; have hfz126_2 := blk_frozen BK636.out 2; obtain ⟨Ao127, co127, eo127⟩ := Kd.R_slice HO633.out; subst eo127) | ((with_reducible refine gate_callee (f := 31) rfl ?_); refine goesL_ (some 34) rfl rfl Try.func31 (by kernel_rfl) rfl #[] rfl (by (try simp only [List.map_toArray, List.map_cons, List.map_nil]); first | done | rfl | (simp only [List.length_drop, List.length_take]; rfl)) ?_; (with_reducible refine (hibernaclelaw15_fixed.calls  true _ A117.out).mono ?_); rintro e w128 ⟨rfl, hb⟩; refine ⟨_, rfl, ?_⟩; have n0_ := Aside0.mk (Kd.R_below (by (with_reducible repeat (first | apply Kd.R_alloc | apply Kd.R_drewN | apply Kd.R_drew)); exact (Kd.R_mono (Kd.R_far (p := ⟨gb636, 2, none⟩) (Kd.R_far (p := ⟨gb636, 1, none⟩) (Kd.R_far (p := ⟨gb636, 0, none⟩) (Kd.R_types HO630.out BK636.out (by decide)) (fun _ hk => hk.2) (.slice Ao124 t628.length co124)) (fun _ hk => hk.2) (.slice Ao127 t631.length co127)) (fun _ hk => hk.2) (.int .i64 t634)) (fun _ h_ => h_.1))) hb); have n1_ := Aside0.mk (Kd.R_below (by (with_reducible repeat (first | apply Kd.R_alloc | apply Kd.R_drewN | apply Kd.R_drew)); exact (Kd.R_mono (Kd.R_far (p := ⟨gb636, 2, none⟩) (Kd.R_far (p := ⟨gb636, 1, none⟩) (Kd.R_far (p := ⟨gb636, 0, none⟩) (Kd.R_types HO633.out BK636.out (by decide)) (fun _ hk => hk.2) (.slice Ao124 t628.length co124)) (fun _ hk => hk.2) (.slice Ao127 t631.length co127)) (fun _ hk => hk.2) (.int .i64 t634)) (fun _ h_ => h_.1))) hb); have n2_ := Aside0.mk (blk_below (g := gb624) (o := .cells #[.slice A0_0 l0_0.length c0_0, .slice A0_1 l0_1.length c0_1, .int .i64 a0_2] 29 (0, 0)) (by (with_reducible repeat (first | refine blk_drewN ?_ _ | refine blk_drew ?_ | refine blk_alloc ?_ _)); refine blk_far ?_ NB624_636.out _; (with_reducible repeat (first | refine blk_drewN ?_ _ | refine blk_drew ?_ | refine blk_alloc ?_ _)); refine blk_far ?_ NB624_636.out _; (with_reducible repeat (first | refine blk_drewN ?_ _ | refine blk_drew ?_ | refine blk_alloc ?_ _)); refine blk_far ?_ NB624_636.out _; (with_reducible repeat (first | refine blk_drewN ?_ _ | refine blk_drew ?_ | refine blk_alloc ?_ _)); exact BK624.out) hb); have n3_ := Aside0.mk (blk_below (g := gb636) (o := .cells #[.slice Ao124 t628.length co124, .slice Ao127 t631.length co127, .int .i64 t634] 29 (0, 0)) (by (with_reducible repeat (first | refine blk_drewN ?_ _ | refine blk_drew ?_ | refine blk_alloc ?_ _)); refine blk_put (cs := #[.slice Ao124 t628.length co124, .slice Ao127 t631.length co127, .int .i64 0]) ?_ 2 _ rfl; (with_reducible repeat (first | refine blk_drewN ?_ _ | refine blk_drew ?_ | refine blk_alloc ?_ _)); refine blk_put (cs := #[.slice Ao124 t628.length co124, .slice none 0 0, .int .i64 0]) ?_ 1 _ rfl; (with_reducible repeat (first | refine blk_drewN ?_ _ | refine blk_drew ?_ | refine blk_alloc ?_ _)); refine blk_put (cs := #[.slice none 0 0, .slice none 0 0, .int .i64 0]) ?_ 0 _ rfl; (with_reducible repeat (first | refine blk_drewN ?_ _ | refine blk_drew ?_ | refine blk_alloc ?_ _)); exact BK636.out) hb); have n4_ := Aside0.mk (below_step (by repeat (first | (with_reducible first | exact HB.out | apply below_alloc | apply pw_below_drewN | apply below_drew1 | refine below_set ?_ GE624.out | refine below_set ?_ GE636.out) | exact HB.out)) hb); clear HO630; clear HO633; clear BK624; clear BK636; clear HB; have HO630 := n0_; have HO633 := n1_; have BK624 := n2_; have BK636 := n3_; have HB := n4_; clear n0_ n1_ n2_ n3_ n4_; (try clear hb); (try clear hb2); (try clear hk); (try clear hi); have hcz129_0 : w128.cell? ⟨gb624, 0, none⟩ = some (.slice A0_0 l0_0.length c0_0) := (blk_cell BK624.out 0).trans rfl; have hcz129_1 : w128.cell? ⟨gb624, 1, none⟩ = some (.slice A0_1 l0_1.length c0_1) := (blk_cell BK624.out 1).trans rfl; have hcz129_2 : w128.cell? ⟨gb624, 2, none⟩ = some (.int .i64 a0_2) := (blk_cell BK624.out 2).trans rfl; have hfz129_0 := blk_frozen BK624.out 0; have hfz129_1 := blk_frozen BK624.out 1; have hfz129_2 := blk_frozen BK624.out 2; have hcz130_0 : w128.cell? ⟨gb636, 0, none⟩ = some (.slice Ao124 t628.length co124) := (blk_cell BK636.out 0).trans rfl; have hcz130_1 : w128.cell? ⟨gb636, 1, none⟩ = some (.slice Ao127 t631.length co127) := (blk_cell BK636.out 1).trans rfl; have hcz130_2 : w128.cell? ⟨gb636, 2, none⟩ = some (.int .i64 t634) := (blk_cell BK636.out 2).trans rfl; have hfz130_0 := blk_frozen BK636.out 0; have hfz130_1 := blk_frozen BK636.out 1; have hfz130_2 := blk_frozen BK636.out 2) | (go_at_call 36; (with_reducible refine (hibernacleref15_Same.calls kj2 _ _ t628 _ _ t631 t634 _ _ l0_0 _ _ l0_1 a0_2 t638 _ ?side1 ?side2 ?side3 ?side4 ?side5 ?side6 ?side7 ?side8 A120.out).mono ?_); (case side1 => repeat (first | exact (Kd.R_reads' HO630.out).2.2 | (with_reducible refine Kd.C_alloc ?_ _) | (with_reducible refine Kd.C_drewN ?_ _) | (with_reducible refine Kd.C_drew ?_))); (case side2 => exact (Kd.R_reads' HO630.out).2.1); (case side3 => repeat (first | exact (Kd.R_reads' HO633.out).2.2 | (with_reducible refine Kd.C_alloc ?_ _) | (with_reducible refine Kd.C_drewN ?_ _) | (with_reducible refine Kd.C_drew ?_))); (case side4 => exact (Kd.R_reads' HO633.out).2.1); (case side5 => repeat (first | exact (Kd.C_below HR0_0.out HB.out) | (with_reducible refine Kd.C_alloc ?_ _) | (with_reducible refine Kd.C_drewN ?_ _) | (with_reducible refine Kd.C_drew ?_))); (case side6 => exact HC0_0.out); (case side7 => repeat (first | exact (Kd.C_below HR0_1.out HB.out) | (with_reducible refine Kd.C_alloc ?_ _) | (with_reducible refine Kd.C_drewN ?_ _) | (with_reducible refine Kd.C_drew ?_))); (case side8 => exact HC0_1.out); rintro e w131 ⟨rfl, hb⟩; have n0_ := Aside0.mk (Kd.R_below (by (with_reducible repeat (first | apply Kd.R_alloc | apply Kd.R_drewN | apply Kd.R_drew)); exact HO630.out) hb); have n1_ := Aside0.mk (Kd.R_below (by (with_reducible repeat (first | apply Kd.R_alloc | apply Kd.R_drewN | apply Kd.R_drew)); exact HO633.out) hb); have n2_ := Aside0.mk (blk_below (g := gb624) (o := .cells #[.slice A0_0 l0_0.length c0_0, .slice A0_1 l0_1.length c0_1, .int .i64 a0_2] 29 (0, 0)) (by (with_reducible repeat (first | refine blk_drewN ?_ _ | refine blk_drew ?_ | refine blk_alloc ?_ _)); exact BK624.out) hb); have n3_ := Aside0.mk (blk_below (g := gb636) (o := .cells #[.slice Ao124 t628.length co124, .slice Ao127 t631.length co127, .int .i64 t634] 29 (0, 0)) (by (with_reducible repeat (first | refine blk_drewN ?_ _ | refine blk_drew ?_ | refine blk_alloc ?_ _)); exact BK636.out) hb); have n4_ := Aside0.mk (below_step (by repeat (first | (with_reducible first | exact HB.out | apply below_alloc | apply pw_below_drewN | apply below_drew1 | refine below_set ?_ GE624.out | refine below_set ?_ GE636.out) | exact HB.out)) hb); clear HO630; clear HO633; clear BK624; clear BK636; clear HB; have HO630 := n0_; have HO633 := n1_; have BK624 := n2_; have BK636 := n3_; have HB := n4_; clear n0_ n1_ n2_ n3_ n4_; (try clear hb); (try clear hb2); (try clear hk); (try clear hi)))
              go_ret
              exact ⟨by first | rfl | (simp [errW_none, errW_some] <;> rfl) | (simp [*, errW_none, errW_some] <;> rfl), by repeat (first | (with_reducible first | exact HB.out | apply below_alloc | apply pw_below_drewN | apply below_drew1 | refine below_set ?_ GE624.out | refine below_set ?_ GE636.out) | exact HB.out)⟩
            · rw [if_neg c119] at H
              have c119b0 : (a0_2 == 0) = false := beq_eq_false_iff_ne.mpr c119
              have c119b1 : (a0_2 != 0) = true := bne_iff_ne.mpr c119
              obtain rfl := Option.some.inj H
              have hcz132_0 : wc.cell? ⟨gb624, 0, none⟩ = some (.slice A0_0 l0_0.length c0_0) := (blk_cell BK624.out 0).trans rfl
              have hcz132_1 : wc.cell? ⟨gb624, 1, none⟩ = some (.slice A0_1 l0_1.length c0_1) := (blk_cell BK624.out 1).trans rfl
              have hcz132_2 : wc.cell? ⟨gb624, 2, none⟩ = some (.int .i64 a0_2) := (blk_cell BK624.out 2).trans rfl
              have hfz132_0 := blk_frozen BK624.out 0
              have hfz132_1 := blk_frozen BK624.out 1
              have hfz132_2 := blk_frozen BK624.out 2
              go_wp2_with (first | ((with_reducible refine gate_callee (f := 40) rfl ?_); refine goesL_ (some 29) rfl rfl Try.func40 (by kernel_rfl) rfl #[.agg #[.slice A0_0 l0_0.length c0_0, .slice A0_1 l0_1.length c0_1, .int .i64 a0_2]] rfl (by (try simp only [List.map_toArray, List.map_cons, List.map_nil]); first | done | rfl | (simp only [List.length_drop, List.length_take]; rfl)) ?_; (with_reducible refine (drive_Flush.calls _ _ l0_0 _ _ l0_1 a0_2 t628 t631 t634 t635 _ ?side1 ?side2 ?side3 ?side4 A22.out).mono ?_); (case side1 => repeat (first | exact (Kd.C_below HR0_0.out HB.out) | (with_reducible refine Kd.C_alloc ?_ _) | (with_reducible refine Kd.C_drewN ?_ _) | (with_reducible refine Kd.C_drew ?_))); (case side2 => exact HC0_0.out); (case side3 => repeat (first | exact (Kd.C_below HR0_1.out HB.out) | (with_reducible refine Kd.C_alloc ?_ _) | (with_reducible refine Kd.C_drewN ?_ _) | (with_reducible refine Kd.C_drew ?_))); (case side4 => exact HC0_1.out); rintro e w133 ⟨v629, v632, rfl, ho0, ho1, hb⟩; refine ⟨_, rfl, ?_⟩; have n0_ := Aside0.mk (Kd.R_lower ho0 (below_size (by repeat (first | (with_reducible first | exact HB.out | apply below_alloc | apply pw_below_drewN | apply below_drew1 | refine below_set ?_ GE624.out) | exact HB.out)))); have n1_ := Aside0.mk (Kd.R_lower ho1 (below_size (by repeat (first | (with_reducible first | exact HB.out | apply below_alloc | apply pw_below_drewN | apply below_drew1 | refine below_set ?_ GE624.out) | exact HB.out)))); have n2_ := Aside0.mk (blk_below (g := gb624) (o := .cells #[.slice A0_0 l0_0.length c0_0, .slice A0_1 l0_1.length c0_1, .int .i64 a0_2] 29 (0, 0)) (by (with_reducible repeat (first | refine blk_drewN ?_ _ | refine blk_drew ?_ | refine blk_alloc ?_ _)); exact BK624.out) hb); have n3_ := Aside0.mk (below_step (by repeat (first | (with_reducible first | exact HB.out | apply below_alloc | apply pw_below_drewN | apply below_drew1 | refine below_set ?_ GE624.out) | exact HB.out)) hb); clear BK624; clear HB; have HO630 := n0_; have HO633 := n1_; have BK624 := n2_; have HB := n3_; clear n0_ n1_ n2_ n3_; (try clear hb); (try clear hb2); (try clear hk); (try clear hi); (try clear ho0); (try clear ho1)) | ((with_reducible refine gate_dst (N := 5) rfl ?_); (try (refine gate_guard (by rfl) ?_; dsimp only)); refine box_event ?hg (N := 5) ?hd (cs := #[.slice none 0 0, .slice none 0 0, .int .i64 0]) (t := 29) ?hr ?_; (case hd => rfl); (case hg => rfl); (case hr => first | (go_simp; done) | (go_simp; rfl)); intro gb636 hg w134 hbox hb; have n0_ := Aside0.mk (Kd.R_below (by (with_reducible repeat (first | apply Kd.R_alloc | apply Kd.R_drewN | apply Kd.R_drew)); exact HO630.out) hb); have n1_ := Aside0.mk (Kd.R_below (by (with_reducible repeat (first | apply Kd.R_alloc | apply Kd.R_drewN | apply Kd.R_drew)); exact HO633.out) hb); have n2_ := Aside0.mk (blk_below (g := gb624) (o := .cells #[.slice A0_0 l0_0.length c0_0, .slice A0_1 l0_1.length c0_1, .int .i64 a0_2] 29 (0, 0)) (by (with_reducible repeat (first | refine blk_drewN ?_ _ | refine blk_drew ?_ | refine blk_alloc ?_ _)); exact BK624.out) hb); have n3_ := Aside0.mk (below_step (by repeat (first | (with_reducible first | exact HB.out | apply below_alloc | apply pw_below_drewN | apply below_drew1 | refine below_set ?_ GE624.out) | exact HB.out)) hb); have n4_ := Aside0.mk (hbox); have n5_ := Aside0.mk ((by rw [hg]; exact (below_size (by repeat (first | (with_reducible first | exact HB.out | apply below_alloc | apply pw_below_drewN | apply below_drew1 | refine below_set ?_ GE624.out) | exact HB.out))) : w.heap.size ≤ gb636)); have n6_ := Aside0.mk ((by rw [hg]; exact (below_size (by repeat (first | (with_reducible first | exact HB.out | apply below_alloc | apply pw_below_drewN | apply below_drew1 | refine below_set ?_ GE624.out) | exact HB.out))) : w.heap.size ≤ gb636)); have n7_ := Aside0.mk ((by rw [hg]; exact Nat.ne_of_lt (blk_lt (g := gb624) (o := .cells #[.slice A0_0 l0_0.length c0_0, .slice A0_1 l0_1.length c0_1, .int .i64 a0_2] 29 (0, 0)) (by (with_reducible repeat (first | refine blk_drewN ?_ _ | refine blk_drew ?_ | refine blk_alloc ?_ _)); exact BK624.out)) : gb624 ≠ gb636)); have n8_ := Aside0.mk ((by rw [hg]; exact Nat.ne_of_gt (blk_lt (g := gb624) (o := .cells #[.slice A0_0 l0_0.length c0_0, .slice A0_1 l0_1.length c0_1, .int .i64 a0_2] 29 (0, 0)) (by (with_reducible repeat (first | refine blk_drewN ?_ _ | refine blk_drew ?_ | refine blk_alloc ?_ _)); exact BK624.out)) : gb636 ≠ gb624)); clear HO630; clear HO633; clear BK624; clear HB; have HO630 := n0_; have HO633 := n1_; have BK624 := n2_; have HB := n3_; have BK636 := n4_; have GW636 := n5_; have GE636 := n6_; have NB624_636 := n7_; have NB636_624 := n8_; clear n0_ n1_ n2_ n3_ n4_ n5_ n6_ n7_ n8_; clear hb hbox hg; obtain ⟨Ao135, co135, eo135⟩ := Kd.R_slice HO630.out; subst eo135; have hnb136 := NB636_624.out; have hnc136 := NB624_636.out; have hcz137_0 : w134.cell? ⟨gb636, 0, none⟩ = some (.slice none 0 0) := (blk_cell BK636.out 0).trans rfl; have hcz137_1 : w134.cell? ⟨gb636, 1, none⟩ = some (.slice none 0 0) := (blk_cell BK636.out 1).trans rfl; have hcz137_2 : w134.cell? ⟨gb636, 2, none⟩ = some (.int .i64 0) := (blk_cell BK636.out 2).trans rfl; have hfz137_0 := blk_frozen BK636.out 0; have hfz137_1 := blk_frozen BK636.out 1; have hfz137_2 := blk_frozen BK636.out 2; obtain ⟨Ao138, co138, eo138⟩ := Kd.R_slice HO633.out; subst eo138) | ((with_reducible refine gate_callee (f := 31) rfl ?_); refine goesL_ (some 34) rfl rfl Try.func31 (by kernel_rfl) rfl #[] rfl (by (try simp only [List.map_toArray, List.map_cons, List.map_nil]); first | done | rfl | (simp only [List.length_drop, List.length_take]; rfl)) ?_; (with_reducible refine (hibernaclelaw15_fixed.calls  true _ A117.out).mono ?_); rintro e w139 ⟨rfl, hb⟩; refine ⟨_, rfl, ?_⟩; have n0_ := Aside0.mk (Kd.R_below (by (with_reducible repeat (first | apply Kd.R_alloc | apply Kd.R_drewN | apply Kd.R_drew)); exact (Kd.R_mono (Kd.R_far (p := ⟨gb636, 2, none⟩) (Kd.R_far (p := ⟨gb636, 1, none⟩) (Kd.R_far (p := ⟨gb636, 0, none⟩) (Kd.R_types HO630.out BK636.out (by decide)) (fun _ hk => hk.2) (.slice Ao135 t628.length co135)) (fun _ hk => hk.2) (.slice Ao138 t631.length co138)) (fun _ hk => hk.2) (.int .i64 t634)) (fun _ h_ => h_.1))) hb); have n1_ := Aside0.mk (Kd.R_below (by (with_reducible repeat (first | apply Kd.R_alloc | apply Kd.R_drewN | apply Kd.R_drew)); exact (Kd.R_mono (Kd.R_far (p := ⟨gb636, 2, none⟩) (Kd.R_far (p := ⟨gb636, 1, none⟩) (Kd.R_far (p := ⟨gb636, 0, none⟩) (Kd.R_types HO633.out BK636.out (by decide)) (fun _ hk => hk.2) (.slice Ao135 t628.length co135)) (fun _ hk => hk.2) (.slice Ao138 t631.length co138)) (fun _ hk => hk.2) (.int .i64 t634)) (fun _ h_ => h_.1))) hb); have n2_ := Aside0.mk (blk_below (g := gb624) (o := .cells #[.slice A0_0 l0_0.length c0_0, .slice A0_1 l0_1.length c0_1, .int .i64 a0_2] 29 (0, 0)) (by (with_reducible repeat (first | refine blk_drewN ?_ _ | refine blk_drew ?_ | refine blk_alloc ?_ _)); refine blk_far ?_ NB624_636.out _; (with_reducible repeat (first | refine blk_drewN ?_ _ | refine blk_drew ?_ | refine blk_alloc ?_ _)); refine blk_far ?_ NB624_636.out _; (with_reducible repeat (first | refine blk_drewN ?_ _ | refine blk_drew ?_ | refine blk_alloc ?_ _)); refine blk_far ?_ NB624_636.out _; (with_reducible repeat (first | refine blk_drewN ?_ _ | refine blk_drew ?_ | refine blk_alloc ?_ _)); exact BK624.out) hb); have n3_ := Aside0.mk (blk_below (g := gb636) (o := .cells #[.slice Ao135 t628.length co135, .slice Ao138 t631.length co138, .int .i64 t634] 29 (0, 0)) (by (with_reducible repeat (first | refine blk_drewN ?_ _ | refine blk_drew ?_ | refine blk_alloc ?_ _)); refine blk_put (cs := #[.slice Ao135 t628.length co135, .slice Ao138 t631.length co138, .int .i64 0]) ?_ 2 _ rfl; (with_reducible repeat (first | refine blk_drewN ?_ _ | refine blk_drew ?_ | refine blk_alloc ?_ _)); refine blk_put (cs := #[.slice Ao135 t628.length co135, .slice none 0 0, .int .i64 0]) ?_ 1 _ rfl; (with_reducible repeat (first | refine blk_drewN ?_ _ | refine blk_drew ?_ | refine blk_alloc ?_ _)); refine blk_put (cs := #[.slice none 0 0, .slice none 0 0, .int .i64 0]) ?_ 0 _ rfl; (with_reducible repeat (first | refine blk_drewN ?_ _ | refine blk_drew ?_ | refine blk_alloc ?_ _)); exact BK636.out) hb); have n4_ := Aside0.mk (below_step (by repeat (first | (with_reducible first | exact HB.out | apply below_alloc | apply pw_below_drewN | apply below_drew1 | refine below_set ?_ GE624.out | refine below_set ?_ GE636.out) | exact HB.out)) hb); clear HO630; clear HO633; clear BK624; clear BK636; clear HB; have HO630 := n0_; have HO633 := n1_; have BK624 := n2_; have BK636 := n3_; have HB := n4_; clear n0_ n1_ n2_ n3_ n4_; (try clear hb); (try clear hb2); (try clear hk); (try clear hi); have hcz140_0 : w139.cell? ⟨gb624, 0, none⟩ = some (.slice A0_0 l0_0.length c0_0) := (blk_cell BK624.out 0).trans rfl; have hcz140_1 : w139.cell? ⟨gb624, 1, none⟩ = some (.slice A0_1 l0_1.length c0_1) := (blk_cell BK624.out 1).trans rfl; have hcz140_2 : w139.cell? ⟨gb624, 2, none⟩ = some (.int .i64 a0_2) := (blk_cell BK624.out 2).trans rfl; have hfz140_0 := blk_frozen BK624.out 0; have hfz140_1 := blk_frozen BK624.out 1; have hfz140_2 := blk_frozen BK624.out 2))
              go_ret
              exact ⟨by first | rfl | (simp [errW_none, errW_some] <;> rfl) | (simp [*, errW_none, errW_some] <;> rfl), by repeat (first | (with_reducible first | exact HB.out | apply below_alloc | apply pw_below_drewN | apply below_drew1 | refine below_set ?_ GE624.out | refine below_set ?_ GE636.out) | exact HB.out)⟩
          · replace c118 := Bool.eq_false_iff.mpr c118
            subst c118
            have H1 : (some false) = some r := by rw [if_neg (show ¬ (false = true) by decide)] at H; exact H
            clear H
            have H := H1
            clear H1
            obtain rfl := Option.some.inj H
            have hcz141_0 : wc.cell? ⟨gb624, 0, none⟩ = some (.slice A0_0 l0_0.length c0_0) := (blk_cell BK624.out 0).trans rfl
            have hcz141_1 : wc.cell? ⟨gb624, 1, none⟩ = some (.slice A0_1 l0_1.length c0_1) := (blk_cell BK624.out 1).trans rfl
            have hcz141_2 : wc.cell? ⟨gb624, 2, none⟩ = some (.int .i64 a0_2) := (blk_cell BK624.out 2).trans rfl
            have hfz141_0 := blk_frozen BK624.out 0
            have hfz141_1 := blk_frozen BK624.out 1
            have hfz141_2 := blk_frozen BK624.out 2
            go_wp2_with (first | ((with_reducible refine gate_callee (f := 40) rfl ?_); refine goesL_ (some 29) rfl rfl Try.func40 (by kernel_rfl) rfl #[.agg #[.slice A0_0 l0_0.length c0_0, .slice A0_1 l0_1.length c0_1, .int .i64 a0_2]] rfl (by (try simp only [List.map_toArray, List.map_cons, List.map_nil]); first | done | rfl | (simp only [List.length_drop, List.length_take]; rfl)) ?_; (with_reducible refine (drive_Flush.calls _ _ l0_0 _ _ l0_1 a0_2 t628 t631 t634 t635 _ ?side1 ?side2 ?side3 ?side4 A22.out).mono ?_); (case side1 => repeat (first | exact (Kd.C_below HR0_0.out HB.out) | (with_reducible refine Kd.C_alloc ?_ _) | (with_reducible refine Kd.C_drewN ?_ _) | (with_reducible refine Kd.C_drew ?_))); (case side2 => exact HC0_0.out); (case side3 => repeat (first | exact (Kd.C_below HR0_1.out HB.out) | (with_reducible refine Kd.C_alloc ?_ _) | (with_reducible refine Kd.C_drewN ?_ _) | (with_reducible refine Kd.C_drew ?_))); (case side4 => exact HC0_1.out); rintro e w142 ⟨v629, v632, rfl, ho0, ho1, hb⟩; refine ⟨_, rfl, ?_⟩; have n0_ := Aside0.mk (Kd.R_lower ho0 (below_size (by repeat (first | (with_reducible first | exact HB.out | apply below_alloc | apply pw_below_drewN | apply below_drew1 | refine below_set ?_ GE624.out) | exact HB.out)))); have n1_ := Aside0.mk (Kd.R_lower ho1 (below_size (by repeat (first | (with_reducible first | exact HB.out | apply below_alloc | apply pw_below_drewN | apply below_drew1 | refine below_set ?_ GE624.out) | exact HB.out)))); have n2_ := Aside0.mk (blk_below (g := gb624) (o := .cells #[.slice A0_0 l0_0.length c0_0, .slice A0_1 l0_1.length c0_1, .int .i64 a0_2] 29 (0, 0)) (by (with_reducible repeat (first | refine blk_drewN ?_ _ | refine blk_drew ?_ | refine blk_alloc ?_ _)); exact BK624.out) hb); have n3_ := Aside0.mk (below_step (by repeat (first | (with_reducible first | exact HB.out | apply below_alloc | apply pw_below_drewN | apply below_drew1 | refine below_set ?_ GE624.out) | exact HB.out)) hb); clear BK624; clear HB; have HO630 := n0_; have HO633 := n1_; have BK624 := n2_; have HB := n3_; clear n0_ n1_ n2_ n3_; (try clear hb); (try clear hb2); (try clear hk); (try clear hi); (try clear ho0); (try clear ho1)) | ((with_reducible refine gate_dst (N := 5) rfl ?_); (try (refine gate_guard (by rfl) ?_; dsimp only)); refine box_event ?hg (N := 5) ?hd (cs := #[.slice none 0 0, .slice none 0 0, .int .i64 0]) (t := 29) ?hr ?_; (case hd => rfl); (case hg => rfl); (case hr => first | (go_simp; done) | (go_simp; rfl)); intro gb636 hg w143 hbox hb; have n0_ := Aside0.mk (Kd.R_below (by (with_reducible repeat (first | apply Kd.R_alloc | apply Kd.R_drewN | apply Kd.R_drew)); exact HO630.out) hb); have n1_ := Aside0.mk (Kd.R_below (by (with_reducible repeat (first | apply Kd.R_alloc | apply Kd.R_drewN | apply Kd.R_drew)); exact HO633.out) hb); have n2_ := Aside0.mk (blk_below (g := gb624) (o := .cells #[.slice A0_0 l0_0.length c0_0, .slice A0_1 l0_1.length c0_1, .int .i64 a0_2] 29 (0, 0)) (by (with_reducible repeat (first | refine blk_drewN ?_ _ | refine blk_drew ?_ | refine blk_alloc ?_ _)); exact BK624.out) hb); have n3_ := Aside0.mk (below_step (by repeat (first | (with_reducible first | exact HB.out | apply below_alloc | apply pw_below_drewN | apply below_drew1 | refine below_set ?_ GE624.out) | exact HB.out)) hb); have n4_ := Aside0.mk (hbox); have n5_ := Aside0.mk ((by rw [hg]; exact (below_size (by repeat (first | (with_reducible first | exact HB.out | apply below_alloc | apply pw_below_drewN | apply below_drew1 | refine below_set ?_ GE624.out) | exact HB.out))) : w.heap.size ≤ gb636)); have n6_ := Aside0.mk ((by rw [hg]; exact (below_size (by repeat (first | (with_reducible first | exact HB.out | apply below_alloc | apply pw_below_drewN | apply below_drew1 | refine below_set ?_ GE624.out) | exact HB.out))) : w.heap.size ≤ gb636)); have n7_ := Aside0.mk ((by rw [hg]; exact Nat.ne_of_lt (blk_lt (g := gb624) (o := .cells #[.slice A0_0 l0_0.length c0_0, .slice A0_1 l0_1.length c0_1, .int .i64 a0_2] 29 (0, 0)) (by (with_reducible repeat (first | refine blk_drewN ?_ _ | refine blk_drew ?_ | refine blk_alloc ?_ _)); exact BK624.out)) : gb624 ≠ gb636)); have n8_ := Aside0.mk ((by rw [hg]; exact Nat.ne_of_gt (blk_lt (g := gb624) (o := .cells #[.slice A0_0 l0_0.length c0_0, .slice A0_1 l0_1.length c0_1, .int .i64 a0_2] 29 (0, 0)) (by (with_reducible repeat (first | refine blk_drewN ?_ _ | refine blk_drew ?_ | refine blk_alloc ?_ _)); exact BK624.out)) : gb636 ≠ gb624)); clear HO630; clear HO633; clear BK624; clear HB; have HO630 := n0_; have HO633 := n1_; have BK624 := n2_; have HB := n3_; have BK636 := n4_; have GW636 := n5_; have GE636 := n6_; have NB624_636 := n7_; have NB636_624 := n8_; clear n0_ n1_ n2_ n3_ n4_ n5_ n6_ n7_ n8_; clear hb hbox hg; obtain ⟨Ao144, co144, eo144⟩ := Kd.R_slice HO630.out; subst eo144; have hnb145 := NB636_624.out; have hnc145 := NB624_636.out; have hcz146_0 : w143.cell? ⟨gb636, 0, none⟩ = some (.slice none 0 0) := (blk_cell BK636.out 0).trans rfl; have hcz146_1 : w143.cell? ⟨gb636, 1, none⟩ = some (.slice none 0 0) := (blk_cell BK636.out 1).trans rfl; have hcz146_2 : w143.cell? ⟨gb636, 2, none⟩ = some (.int .i64 0) := (blk_cell BK636.out 2).trans rfl; have hfz146_0 := blk_frozen BK636.out 0; have hfz146_1 := blk_frozen BK636.out 1; have hfz146_2 := blk_frozen BK636.out 2; obtain ⟨Ao147, co147, eo147⟩ := Kd.R_slice HO633.out; subst eo147) | ((with_reducible refine gate_callee (f := 31) rfl ?_); refine goesL_ (some 34) rfl rfl Try.func31 (by kernel_rfl) rfl #[] rfl (by (try simp only [List.map_toArray, List.map_cons, List.map_nil]); first | done | rfl | (simp only [List.length_drop, List.length_take]; rfl)) ?_; (with_reducible refine (hibernaclelaw15_fixed.calls  false _ A117.out).mono ?_); rintro e w148 ⟨rfl, hb⟩; refine ⟨_, rfl, ?_⟩; have n0_ := Aside0.mk (Kd.R_below (by (with_reducible repeat (first | apply Kd.R_alloc | apply Kd.R_drewN | apply Kd.R_drew)); exact (Kd.R_mono (Kd.R_far (p := ⟨gb636, 2, none⟩) (Kd.R_far (p := ⟨gb636, 1, none⟩) (Kd.R_far (p := ⟨gb636, 0, none⟩) (Kd.R_types HO630.out BK636.out (by decide)) (fun _ hk => hk.2) (.slice Ao144 t628.length co144)) (fun _ hk => hk.2) (.slice Ao147 t631.length co147)) (fun _ hk => hk.2) (.int .i64 t634)) (fun _ h_ => h_.1))) hb); have n1_ := Aside0.mk (Kd.R_below (by (with_reducible repeat (first | apply Kd.R_alloc | apply Kd.R_drewN | apply Kd.R_drew)); exact (Kd.R_mono (Kd.R_far (p := ⟨gb636, 2, none⟩) (Kd.R_far (p := ⟨gb636, 1, none⟩) (Kd.R_far (p := ⟨gb636, 0, none⟩) (Kd.R_types HO633.out BK636.out (by decide)) (fun _ hk => hk.2) (.slice Ao144 t628.length co144)) (fun _ hk => hk.2) (.slice Ao147 t631.length co147)) (fun _ hk => hk.2) (.int .i64 t634)) (fun _ h_ => h_.1))) hb); have n2_ := Aside0.mk (blk_below (g := gb624) (o := .cells #[.slice A0_0 l0_0.length c0_0, .slice A0_1 l0_1.length c0_1, .int .i64 a0_2] 29 (0, 0)) (by (with_reducible repeat (first | refine blk_drewN ?_ _ | refine blk_drew ?_ | refine blk_alloc ?_ _)); refine blk_far ?_ NB624_636.out _; (with_reducible repeat (first | refine blk_drewN ?_ _ | refine blk_drew ?_ | refine blk_alloc ?_ _)); refine blk_far ?_ NB624_636.out _; (with_reducible repeat (first | refine blk_drewN ?_ _ | refine blk_drew ?_ | refine blk_alloc ?_ _)); refine blk_far ?_ NB624_636.out _; (with_reducible repeat (first | refine blk_drewN ?_ _ | refine blk_drew ?_ | refine blk_alloc ?_ _)); exact BK624.out) hb); have n3_ := Aside0.mk (blk_below (g := gb636) (o := .cells #[.slice Ao144 t628.length co144, .slice Ao147 t631.length co147, .int .i64 t634] 29 (0, 0)) (by (with_reducible repeat (first | refine blk_drewN ?_ _ | refine blk_drew ?_ | refine blk_alloc ?_ _)); refine blk_put (cs := #[.slice Ao144 t628.length co144, .slice Ao147 t631.length co147, .int .i64 0]) ?_ 2 _ rfl; (with_reducible repeat (first | refine blk_drewN ?_ _ | refine blk_drew ?_ | refine blk_alloc ?_ _)); refine blk_put (cs := #[.slice Ao144 t628.length co144, .slice none 0 0, .int .i64 0]) ?_ 1 _ rfl; (with_reducible repeat (first | refine blk_drewN ?_ _ | refine blk_drew ?_ | refine blk_alloc ?_ _)); refine blk_put (cs := #[.slice none 0 0, .slice none 0 0, .int .i64 0]) ?_ 0 _ rfl; (with_reducible repeat (first | refine blk_drewN ?_ _ | refine blk_drew ?_ | refine blk_alloc ?_ _)); exact BK636.out) hb); have n4_ := Aside0.mk (below_step (by repeat (first | (with_reducible first | exact HB.out | apply below_alloc | apply pw_below_drewN | apply below_drew1 | refine below_set ?_ GE624.out | refine below_set ?_ GE636.out) | exact HB.out)) hb); clear HO630; clear HO633; clear BK624; clear BK636; clear HB; have HO630 := n0_; have HO633 := n1_; have BK624 := n2_; have BK636 := n3_; have HB := n4_; clear n0_ n1_ n2_ n3_ n4_; (try clear hb); (try clear hb2); (try clear hk); (try clear hi)))
            go_ret
            exact ⟨by first | rfl | (simp [errW_none, errW_some] <;> rfl) | (simp [*, errW_none, errW_some] <;> rfl), by repeat (first | (with_reducible first | exact HB.out | apply below_alloc | apply pw_below_drewN | apply below_drew1 | refine below_set ?_ GE624.out | refine below_set ?_ GE636.out) | exact HB.out)⟩

end Go.Proofs.Ytjfmnkmgnbbfgaa.A
