-- Made by drv.py (ours) by way of the kit's print; Lean checks it.
import Derived.Test.YtjfmnkmgnbbfgaaA0
import Derived.Test.YtjfmnkmgnbbfgaaA30
import Derived.Test.YtjfmnkmgnbbfgaaA32
import Derived.Test.YtjfmnkmgnbbfgaaA33
import Derived.Test.YtjfmnkmgnbbfgaaA35
import Derived.Test.YtjfmnkmgnbbfgaaA36
import Derived.Test.YtjfmnkmgnbbfgaaXcheck
import Derived.Test.YtjfmnkmgnbbfgaaXfixed
namespace Go.Proofs.Ytjfmnkmgnbbfgaa.A
open Go.RowKit Go.Proofs.YtjfmnkmgnbbfgaaW.PrintWords Go.Proofs.YtjfmnkmgnbbfgaaW.PrintLast Go.Proofs.YtjfmnkmgnbbfgaaW.PrintMore
attribute [local go_sem] max2_int min2_int max_two min_two max_three min_three max_four min_four   -- for this text's walks alone
set_option linter.unusedVariables false
set_option linter.unusedSimpArgs false

/-! ### hibernaclelaw15_DriveChecks: function 5 -/
def hibernaclelaw15_DriveChecks.f (k : Nat) (l0_0 : List ByteArray) (l0_1 : List (S27)) (a0_2 : Int) (a1 : Int) : Option (Bool) := (hibernaclelaw15_Great.f k l0_0 l0_1 a0_2).bind fun t444 => (if t444 > 0 then ((hibernaclelaw15_fixed.f).bind fun t445 => (some t445)) else ((drive_New.f k a1).bind fun bt446 => ((hibernacleref15_New.f k a1).bind fun bt455 => ((hibernaclelaw15_fixed.f).bind fun t464 => (if t464 = true then ((drive_Check.f l0_0 l0_1 a0_2).bind fun t465 => ((hibernacleref15_Check.f k l0_0 l0_1 a0_2).bind fun t466 => (if t465 = t466 then (if bt446.2.2.2 = bt455.2.2.2 then ((hibernacleref15_Same.f k bt446.1 bt446.2.1 bt446.2.2.1 bt455.1 bt455.2.1 bt455.2.2.1).bind fun t467 => (some t467)) else (some false)) else (some false)))) else (some false))))))
theorem hibernaclelaw15_DriveChecks.mono : ∀ a0 a1 a2 a3 k, LeO (hibernaclelaw15_DriveChecks.f k a0 a1 a2 a3) (hibernaclelaw15_DriveChecks.f (k + 1) a0 a1 a2 a3) := by
  intro a0 a1 a2 a3 k
  unfold hibernaclelaw15_DriveChecks.f
  repeat' first
      | (with_reducible exact drive_New.mono _ _)
      | (with_reducible exact hibernaclelaw15_Great.mono _ _ _ _)
      | (with_reducible exact hibernacleref15_Check.mono _ _ _ _)
      | (with_reducible exact hibernacleref15_New.mono _ _)
      | (with_reducible exact hibernacleref15_Same.mono _ _ _ _ _ _ _)
      | (with_reducible exact LeO.refl _)
      | (with_reducible exact LeO.none _)
      | (with_reducible refine LeO.ite ?_ ?_)
      | (with_reducible refine LeO.bind ?_ (fun _ => ?_))
      | exact drive_New.mono _ _
      | exact hibernaclelaw15_Great.mono _ _ _ _
      | exact hibernacleref15_Check.mono _ _ _ _
      | exact hibernacleref15_New.mono _ _
      | exact hibernacleref15_Same.mono _ _ _ _ _ _ _
      | exact LeO.none _
      | refine LeO.ite ?_ ?_
      | refine LeO.bind ?_ (fun _ => ?_)
def hibernaclelaw15_DriveChecks.T5 : Bool × List (List Nat × List Nat) := (true, [([], []), ([0, 0], [0]), ([1], [1]), ([2, 1, 1], [1, 2]), ([1], [1]), ([4, 3, 1], [1, 4]), ([3, 5, 1], [1, 3, 5]), ([1, 6], [1, 6]), ([7, 5], [7]), ([8], [8]), ([8], [8]), ([9, 10, 8], [8, 9, 10]), ([8, 11], [8, 11]), ([12, 8], [12]), ([13], [13]), ([13], [13]), ([14, 15, 13, 13], [13, 14, 15]), ([13, 16], [13, 16]), ([17, 16, 0, 1, 2, 3, 4, 5, 6, 7, 8, 9, 10, 11, 12, 13, 14, 15, 16, 17], [17])])
def hibernaclelaw15_DriveChecks.B5 : List Nat := [0, 1, 3, 7, 3, 31, 63, 127, 255, 511, 511, 2047, 4095, 8191, 16383, 16383, 65535, 131071, 262143]
theorem hibernaclelaw15_DriveChecks.tab5 : rtab .any (opsOf Try.f5 5) = hibernaclelaw15_DriveChecks.T5 := by kernel_rfl
theorem hibernaclelaw15_DriveChecks.bits5 : waitsOk hibernaclelaw15_DriveChecks.T5.2 hibernaclelaw15_DriveChecks.B5 = true := by kernel_rfl
set_option maxHeartbeats 8000000 in
set_option maxRecDepth 100000 in
theorem hibernaclelaw15_DriveChecks.calls (k : Nat) (A0_0 : Option Addr) (c0_0 : Nat) (l0_0 : List ByteArray) (A0_1 : Option Addr) (c0_1 : Nat) (l0_1 : List (S27)) (a0_2 : Int) (a1 : Int) (r : Bool) (w : World) (hr0_0 : Kd.C Kd.string w A0_0 l0_0.length l0_0) (hc0_0 : l0_0.length ≤ c0_0) (hr0_1 : Kd.C k27 w A0_1 l0_1.length l0_1) (hc0_1 : l0_1.length ≤ c0_1) (h : hibernaclelaw15_DriveChecks.f k l0_0 l0_1 a0_2 a1 = some r) :
    Calls Try.prog 5 #[.agg #[.slice A0_0 l0_0.length c0_0, .slice A0_1 l0_1.length c0_1, .int .i64 a0_2], .int .i64 a1] w fun e w' => e = .returned (.bool r) ∧ Below w.heap.size w w' := by
  have hu29 := Try.underlying29
  have HR0_0 := Aside0.mk hr0_0
  have HC0_0 := Aside0.mk hc0_0
  clear hr0_0 hc0_0
  have HR0_1 := Aside0.mk hr0_1
  have HC0_1 := Aside0.mk hc0_1
  clear hr0_1 hc0_1
  have HB := Aside0.mk (Below.refl w.heap.size w)
  have H : ((hibernaclelaw15_Great.f k l0_0 l0_1 a0_2).bind fun t444 => (if t444 > 0 then ((hibernaclelaw15_fixed.f).bind fun t445 => (some t445)) else ((drive_New.f k a1).bind fun bt446 => ((hibernacleref15_New.f k a1).bind fun bt455 => ((hibernaclelaw15_fixed.f).bind fun t464 => (if t464 = true then ((drive_Check.f l0_0 l0_1 a0_2).bind fun t465 => ((hibernacleref15_Check.f k l0_0 l0_1 a0_2).bind fun t466 => (if t465 = t466 then (if bt446.2.2.2 = bt455.2.2.2 then ((hibernacleref15_Same.f k bt446.1 bt446.2.1 bt446.2.2.1 bt455.1 bt455.2.1 bt455.2.2.1).bind fun t467 => (some t467)) else (some false)) else (some false)))) else (some false))))))) = some r := h
  clear h
  replace H := Option.bind_eq_some_iff.mp H
  obtain ⟨t444, A30, H⟩ := H
  replace H : (if t444 > 0 then ((hibernaclelaw15_fixed.f).bind fun t445 => (some t445)) else ((drive_New.f k a1).bind fun bt446 => ((hibernacleref15_New.f k a1).bind fun bt455 => ((hibernaclelaw15_fixed.f).bind fun t464 => (if t464 = true then ((drive_Check.f l0_0 l0_1 a0_2).bind fun t465 => ((hibernacleref15_Check.f k l0_0 l0_1 a0_2).bind fun t466 => (if t465 = t466 then (if bt446.2.2.2 = bt455.2.2.2 then ((hibernacleref15_Same.f k bt446.1 bt446.2.1 bt446.2.2.1 bt455.1 bt455.2.1 bt455.2.2.1).bind fun t467 => (some t467)) else (some false)) else (some false)))) else (some false)))))) = some r := H
  have A3 := Aside0.mk A30
  clear A30
  by_cases c4 : t444 > 0
  · rw [if_pos c4] at H
    have c4b0 : decide (0 < t444) = true := decide_eq_true c4
    clear c4
    replace H := Option.bind_eq_some_iff.mp H
    obtain ⟨t445, A50, H⟩ := H
    replace H : (some t445) = some r := H
    have A5 := Aside0.mk A50
    clear A50
    obtain rfl := Option.some.inj H
    go_enter Try.func5, Try.ntmps5
    go_wp2_with (first | ((with_reducible refine gate_dst (N := 2) rfl ?_); refine box_event ?hg (N := 2) ?hd (cs := #[.slice A0_0 l0_0.length c0_0, .slice A0_1 l0_1.length c0_1, .int .i64 a0_2]) (t := 29) ?hr ?_; (case hd => rfl); (case hg => rfl); (case hr => first | (go_simp; done) | (go_simp; rfl)); intro gb443 hg w6 hbox hb; have n0_ := Aside0.mk (below_step (by repeat (first | (with_reducible first | exact HB.out | apply below_alloc | apply pw_below_drewN | apply below_drew1) | exact HB.out)) hb); have n1_ := Aside0.mk (hbox); have n2_ := Aside0.mk ((by rw [hg]; exact (below_size (by repeat (first | (with_reducible first | exact HB.out | apply below_alloc | apply pw_below_drewN | apply below_drew1) | exact HB.out))) : w.heap.size ≤ gb443)); have n3_ := Aside0.mk ((by rw [hg]; exact (below_size (by repeat (first | (with_reducible first | exact HB.out | apply below_alloc | apply pw_below_drewN | apply below_drew1) | exact HB.out))) : w.heap.size ≤ gb443)); clear HB; have HB := n0_; have BK443 := n1_; have GW443 := n2_; have GE443 := n3_; clear n0_ n1_ n2_ n3_; clear hb hbox hg; have hcz7_0 : w6.cell? ⟨gb443, 0, none⟩ = some (.slice A0_0 l0_0.length c0_0) := (blk_cell BK443.out 0).trans rfl; have hcz7_1 : w6.cell? ⟨gb443, 1, none⟩ = some (.slice A0_1 l0_1.length c0_1) := (blk_cell BK443.out 1).trans rfl; have hcz7_2 : w6.cell? ⟨gb443, 2, none⟩ = some (.int .i64 a0_2) := (blk_cell BK443.out 2).trans rfl; have hfz7_0 := blk_frozen BK443.out 0; have hfz7_1 := blk_frozen BK443.out 1; have hfz7_2 := blk_frozen BK443.out 2) | ((with_reducible refine gate_callee (f := 30) rfl ?_); refine goesL_ (some 10) rfl rfl Try.func30 (by kernel_rfl) rfl #[.agg #[.slice A0_0 l0_0.length c0_0, .slice A0_1 l0_1.length c0_1, .int .i64 a0_2]] rfl (by (try simp only [List.map_toArray, List.map_cons, List.map_nil]); first | done | rfl | (simp only [List.length_drop, List.length_take]; rfl)) ?_; (with_reducible refine (hibernaclelaw15_Great.calls k _ _ l0_0 _ _ l0_1 a0_2 t444 _ ?side1 ?side2 ?side3 ?side4 A3.out).mono ?_); (case side1 => repeat (first | exact (Kd.C_below HR0_0.out HB.out) | (with_reducible refine Kd.C_alloc ?_ _) | (with_reducible refine Kd.C_drewN ?_ _) | (with_reducible refine Kd.C_drew ?_))); (case side2 => exact HC0_0.out); (case side3 => repeat (first | exact (Kd.C_below HR0_1.out HB.out) | (with_reducible refine Kd.C_alloc ?_ _) | (with_reducible refine Kd.C_drewN ?_ _) | (with_reducible refine Kd.C_drew ?_))); (case side4 => exact HC0_1.out); rintro e w8 ⟨rfl, hb⟩; refine ⟨_, rfl, ?_⟩; have n0_ := Aside0.mk (blk_below (g := gb443) (o := .cells #[.slice A0_0 l0_0.length c0_0, .slice A0_1 l0_1.length c0_1, .int .i64 a0_2] 29 (0, 0)) (by (with_reducible repeat (first | refine blk_drewN ?_ _ | refine blk_drew ?_ | refine blk_alloc ?_ _)); exact BK443.out) hb); have n1_ := Aside0.mk (below_step (by repeat (first | (with_reducible first | exact HB.out | apply below_alloc | apply pw_below_drewN | apply below_drew1 | refine below_set ?_ GE443.out) | exact HB.out)) hb); clear BK443; clear HB; have BK443 := n0_; have HB := n1_; clear n0_ n1_; (try clear hb); (try clear hb2); (try clear hk); (try clear hi)) | ((with_reducible refine gate_callee (f := 31) rfl ?_); refine goesL_ (some 12) rfl rfl Try.func31 (by kernel_rfl) rfl #[] rfl (by (try simp only [List.map_toArray, List.map_cons, List.map_nil]); first | done | rfl | (simp only [List.length_drop, List.length_take]; rfl)) ?_; (with_reducible refine (hibernaclelaw15_fixed.calls  t445 _ A5.out).mono ?_); rintro e w9 ⟨rfl, hb⟩; refine ⟨_, rfl, ?_⟩; have n0_ := Aside0.mk (blk_below (g := gb443) (o := .cells #[.slice A0_0 l0_0.length c0_0, .slice A0_1 l0_1.length c0_1, .int .i64 a0_2] 29 (0, 0)) (by (with_reducible repeat (first | refine blk_drewN ?_ _ | refine blk_drew ?_ | refine blk_alloc ?_ _)); exact BK443.out) hb); have n1_ := Aside0.mk (below_step (by repeat (first | (with_reducible first | exact HB.out | apply below_alloc | apply pw_below_drewN | apply below_drew1 | refine below_set ?_ GE443.out) | exact HB.out)) hb); clear BK443; clear HB; have BK443 := n0_; have HB := n1_; clear n0_ n1_; (try clear hb); (try clear hb2); (try clear hk); (try clear hi)))
    go_ret
    exact ⟨by first | rfl | (simp [errW_none, errW_some] <;> rfl) | (simp [*, errW_none, errW_some] <;> rfl), by repeat (first | (with_reducible first | exact HB.out | apply below_alloc | apply pw_below_drewN | apply below_drew1 | refine below_set ?_ GE443.out) | exact HB.out)⟩
  · rw [if_neg c4] at H
    have c4b0 : decide (0 < t444) = false := decide_eq_false c4
    clear c4
    replace H := Option.bind_eq_some_iff.mp H
    obtain ⟨⟨t446, t449, t452, t453⟩, A100, H⟩ := H
    replace H : ((hibernacleref15_New.f k a1).bind fun bt455 => ((hibernaclelaw15_fixed.f).bind fun t464 => (if t464 = true then ((drive_Check.f l0_0 l0_1 a0_2).bind fun t465 => ((hibernacleref15_Check.f k l0_0 l0_1 a0_2).bind fun t466 => (if t465 = t466 then (if t453 = bt455.2.2.2 then ((hibernacleref15_Same.f k t446 t449 t452 bt455.1 bt455.2.1 bt455.2.2.1).bind fun t467 => (some t467)) else (some false)) else (some false)))) else (some false)))) = some r := H
    have A10 := Aside0.mk A100
    clear A100
    replace H := Option.bind_eq_some_iff.mp H
    obtain ⟨⟨t455, t458, t461, t462⟩, A110, H⟩ := H
    replace H : ((hibernaclelaw15_fixed.f).bind fun t464 => (if t464 = true then ((drive_Check.f l0_0 l0_1 a0_2).bind fun t465 => ((hibernacleref15_Check.f k l0_0 l0_1 a0_2).bind fun t466 => (if t465 = t466 then (if t453 = t462 then ((hibernacleref15_Same.f k t446 t449 t452 t455 t458 t461).bind fun t467 => (some t467)) else (some false)) else (some false)))) else (some false))) = some r := H
    have A11 := Aside0.mk A110
    clear A110
    replace H := Option.bind_eq_some_iff.mp H
    obtain ⟨t464, A120, H⟩ := H
    replace H : (if t464 = true then ((drive_Check.f l0_0 l0_1 a0_2).bind fun t465 => ((hibernacleref15_Check.f k l0_0 l0_1 a0_2).bind fun t466 => (if t465 = t466 then (if t453 = t462 then ((hibernacleref15_Same.f k t446 t449 t452 t455 t458 t461).bind fun t467 => (some t467)) else (some false)) else (some false)))) else (some false)) = some r := H
    have A12 := Aside0.mk A120
    clear A120
    by_cases c13 : t464 = true
    · subst c13
      have H1 : ((drive_Check.f l0_0 l0_1 a0_2).bind fun t465 => ((hibernacleref15_Check.f k l0_0 l0_1 a0_2).bind fun t466 => (if t465 = t466 then (if t453 = t462 then ((hibernacleref15_Same.f k t446 t449 t452 t455 t458 t461).bind fun t467 => (some t467)) else (some false)) else (some false)))) = some r := by rw [if_pos rfl] at H; exact H
      clear H
      have H := H1
      clear H1
      replace H := Option.bind_eq_some_iff.mp H
      obtain ⟨t465, A140, H⟩ := H
      replace H : ((hibernacleref15_Check.f k l0_0 l0_1 a0_2).bind fun t466 => (if t465 = t466 then (if t453 = t462 then ((hibernacleref15_Same.f k t446 t449 t452 t455 t458 t461).bind fun t467 => (some t467)) else (some false)) else (some false))) = some r := H
      have A14 := Aside0.mk A140
      clear A140
      replace H := Option.bind_eq_some_iff.mp H
      obtain ⟨t466, A150, H⟩ := H
      replace H : (if t465 = t466 then (if t453 = t462 then ((hibernacleref15_Same.f k t446 t449 t452 t455 t458 t461).bind fun t467 => (some t467)) else (some false)) else (some false)) = some r := H
      have A15 := Aside0.mk A150
      clear A150
      by_cases c16 : t465 = t466
      · rw [if_pos c16] at H
        have c16b0 : (t465 == t466) = true := beq_iff_eq.mpr c16
        have c16b1 : (t465 != t466) = false := bne_eq_false_iff_eq.mpr c16
        clear c16
        by_cases c17 : t453 = t462
        · rw [if_pos c17] at H
          have c17b0 : (t453 == t462) = true := beq_iff_eq.mpr c17
          have c17b1 : (t453 != t462) = false := bne_eq_false_iff_eq.mpr c17
          clear c17
          replace H := Option.bind_eq_some_iff.mp H
          obtain ⟨t467, A180, H⟩ := H
          replace H : (some t467) = some r := H
          have A18 := Aside0.mk A180
          clear A180
          obtain rfl := Option.some.inj H
          go_enter Try.func5, Try.ntmps5
          try go_wp2_with (first | ((with_reducible refine gate_dst (N := 2) rfl ?_); refine box_event ?hg (N := 2) ?hd (cs := #[.slice A0_0 l0_0.length c0_0, .slice A0_1 l0_1.length c0_1, .int .i64 a0_2]) (t := 29) ?hr ?_; (case hd => rfl); (case hg => rfl); (case hr => first | (go_simp; done) | (go_simp; rfl)); intro gb443 hg w19 hbox hb; have n0_ := Aside0.mk (below_step (by repeat (first | (with_reducible first | exact HB.out | apply below_alloc | apply pw_below_drewN | apply below_drew1) | exact HB.out)) hb); have n1_ := Aside0.mk (hbox); have n2_ := Aside0.mk ((by rw [hg]; exact (below_size (by repeat (first | (with_reducible first | exact HB.out | apply below_alloc | apply pw_below_drewN | apply below_drew1) | exact HB.out))) : w.heap.size ≤ gb443)); have n3_ := Aside0.mk ((by rw [hg]; exact (below_size (by repeat (first | (with_reducible first | exact HB.out | apply below_alloc | apply pw_below_drewN | apply below_drew1) | exact HB.out))) : w.heap.size ≤ gb443)); clear HB; have HB := n0_; have BK443 := n1_; have GW443 := n2_; have GE443 := n3_; clear n0_ n1_ n2_ n3_; clear hb hbox hg; have hcz20_0 : w19.cell? ⟨gb443, 0, none⟩ = some (.slice A0_0 l0_0.length c0_0) := (blk_cell BK443.out 0).trans rfl; have hcz20_1 : w19.cell? ⟨gb443, 1, none⟩ = some (.slice A0_1 l0_1.length c0_1) := (blk_cell BK443.out 1).trans rfl; have hcz20_2 : w19.cell? ⟨gb443, 2, none⟩ = some (.int .i64 a0_2) := (blk_cell BK443.out 2).trans rfl; have hfz20_0 := blk_frozen BK443.out 0; have hfz20_1 := blk_frozen BK443.out 1; have hfz20_2 := blk_frozen BK443.out 2) | ((with_reducible refine gate_callee (f := 30) rfl ?_); refine goesL_ (some 10) rfl rfl Try.func30 (by kernel_rfl) rfl #[.agg #[.slice A0_0 l0_0.length c0_0, .slice A0_1 l0_1.length c0_1, .int .i64 a0_2]] rfl (by (try simp only [List.map_toArray, List.map_cons, List.map_nil]); first | done | rfl | (simp only [List.length_drop, List.length_take]; rfl)) ?_; (with_reducible refine (hibernaclelaw15_Great.calls k _ _ l0_0 _ _ l0_1 a0_2 t444 _ ?side1 ?side2 ?side3 ?side4 A3.out).mono ?_); (case side1 => repeat (first | exact (Kd.C_below HR0_0.out HB.out) | (with_reducible refine Kd.C_alloc ?_ _) | (with_reducible refine Kd.C_drewN ?_ _) | (with_reducible refine Kd.C_drew ?_))); (case side2 => exact HC0_0.out); (case side3 => repeat (first | exact (Kd.C_below HR0_1.out HB.out) | (with_reducible refine Kd.C_alloc ?_ _) | (with_reducible refine Kd.C_drewN ?_ _) | (with_reducible refine Kd.C_drew ?_))); (case side4 => exact HC0_1.out); rintro e w21 ⟨rfl, hb⟩; refine ⟨_, rfl, ?_⟩; have n0_ := Aside0.mk (blk_below (g := gb443) (o := .cells #[.slice A0_0 l0_0.length c0_0, .slice A0_1 l0_1.length c0_1, .int .i64 a0_2] 29 (0, 0)) (by (with_reducible repeat (first | refine blk_drewN ?_ _ | refine blk_drew ?_ | refine blk_alloc ?_ _)); exact BK443.out) hb); have n1_ := Aside0.mk (below_step (by repeat (first | (with_reducible first | exact HB.out | apply below_alloc | apply pw_below_drewN | apply below_drew1 | refine below_set ?_ GE443.out) | exact HB.out)) hb); clear BK443; clear HB; have BK443 := n0_; have HB := n1_; clear n0_ n1_; (try clear hb); (try clear hb2); (try clear hk); (try clear hi)) | ((with_reducible refine gate_callee (f := 32) rfl ?_); refine goesL_ (some 15) rfl rfl Try.func32 (by kernel_rfl) rfl #[.int .i64 a1] rfl (by (try simp only [List.map_toArray, List.map_cons, List.map_nil]); first | done | rfl | (simp only [List.length_drop, List.length_take]; rfl)) ?_; (with_reducible refine (drive_New.calls k a1 t446 t449 t452 t453 _ A10.out).mono ?_); rintro e w22 ⟨v447, v450, rfl, ho0, ho1, hb⟩; refine ⟨_, rfl, ?_⟩; have n0_ := Aside0.mk (Kd.R_lower ho0 (below_size (by repeat (first | (with_reducible first | exact HB.out | apply below_alloc | apply pw_below_drewN | apply below_drew1 | refine below_set ?_ GE443.out) | exact HB.out)))); have n1_ := Aside0.mk (Kd.R_lower ho1 (below_size (by repeat (first | (with_reducible first | exact HB.out | apply below_alloc | apply pw_below_drewN | apply below_drew1 | refine below_set ?_ GE443.out) | exact HB.out)))); have n2_ := Aside0.mk (blk_below (g := gb443) (o := .cells #[.slice A0_0 l0_0.length c0_0, .slice A0_1 l0_1.length c0_1, .int .i64 a0_2] 29 (0, 0)) (by (with_reducible repeat (first | refine blk_drewN ?_ _ | refine blk_drew ?_ | refine blk_alloc ?_ _)); exact BK443.out) hb); have n3_ := Aside0.mk (below_step (by repeat (first | (with_reducible first | exact HB.out | apply below_alloc | apply pw_below_drewN | apply below_drew1 | refine below_set ?_ GE443.out) | exact HB.out)) hb); clear BK443; clear HB; have HO448 := n0_; have HO451 := n1_; have BK443 := n2_; have HB := n3_; clear n0_ n1_ n2_ n3_; (try clear hb); (try clear hb2); (try clear hk); (try clear hi); (try clear ho0); (try clear ho1)) | ((with_reducible refine gate_dst (N := 5) rfl ?_); refine box_event ?hg (N := 5) ?hd (cs := #[.slice none 0 0, .slice none 0 0, .int .i64 0]) (t := 29) ?hr ?_; (case hd => rfl); (case hg => rfl); (case hr => first | (go_simp; done) | (go_simp; rfl)); intro gb454 hg w23 hbox hb; have n0_ := Aside0.mk (Kd.R_below (by (with_reducible repeat (first | apply Kd.R_alloc | apply Kd.R_drewN | apply Kd.R_drew)); exact HO448.out) hb); have n1_ := Aside0.mk (Kd.R_below (by (with_reducible repeat (first | apply Kd.R_alloc | apply Kd.R_drewN | apply Kd.R_drew)); exact HO451.out) hb); have n2_ := Aside0.mk (blk_below (g := gb443) (o := .cells #[.slice A0_0 l0_0.length c0_0, .slice A0_1 l0_1.length c0_1, .int .i64 a0_2] 29 (0, 0)) (by (with_reducible repeat (first | refine blk_drewN ?_ _ | refine blk_drew ?_ | refine blk_alloc ?_ _)); exact BK443.out) hb); have n3_ := Aside0.mk (below_step (by repeat (first | (with_reducible first | exact HB.out | apply below_alloc | apply pw_below_drewN | apply below_drew1 | refine below_set ?_ GE443.out) | exact HB.out)) hb); have n4_ := Aside0.mk (hbox); have n5_ := Aside0.mk ((by rw [hg]; exact (below_size (by repeat (first | (with_reducible first | exact HB.out | apply below_alloc | apply pw_below_drewN | apply below_drew1 | refine below_set ?_ GE443.out) | exact HB.out))) : w.heap.size ≤ gb454)); have n6_ := Aside0.mk ((by rw [hg]; exact (below_size (by repeat (first | (with_reducible first | exact HB.out | apply below_alloc | apply pw_below_drewN | apply below_drew1 | refine below_set ?_ GE443.out) | exact HB.out))) : w.heap.size ≤ gb454)); have n7_ := Aside0.mk ((by rw [hg]; exact Nat.ne_of_lt (blk_lt (g := gb443) (o := .cells #[.slice A0_0 l0_0.length c0_0, .slice A0_1 l0_1.length c0_1, .int .i64 a0_2] 29 (0, 0)) (by (with_reducible repeat (first | refine blk_drewN ?_ _ | refine blk_drew ?_ | refine blk_alloc ?_ _)); exact BK443.out)) : gb443 ≠ gb454)); have n8_ := Aside0.mk ((by rw [hg]; exact Nat.ne_of_gt (blk_lt (g := gb443) (o := .cells #[.slice A0_0 l0_0.length c0_0, .slice A0_1 l0_1.length c0_1, .int .i64 a0_2] 29 (0, 0)) (by (with_reducible repeat (first | refine blk_drewN ?_ _ | refine blk_drew ?_ | refine blk_alloc ?_ _)); exact BK443.out)) : gb454 ≠ gb443)); clear HO448; clear HO451; clear BK443; clear HB; have HO448 := n0_; have HO451 := n1_; have BK443 := n2_; have HB := n3_; have BK454 := n4_; have GW454 := n5_; have GE454 := n6_; have NB443_454 := n7_; have NB454_443 := n8_; clear n0_ n1_ n2_ n3_ n4_ n5_ n6_ n7_ n8_; clear hb hbox hg; obtain ⟨Ao24, co24, eo24⟩ := Kd.R_slice HO448.out; subst eo24; have hnb25 := NB454_443.out; have hnc25 := NB443_454.out; have hcz26_0 : w23.cell? ⟨gb454, 0, none⟩ = some (.slice none 0 0) := (blk_cell BK454.out 0).trans rfl; have hcz26_1 : w23.cell? ⟨gb454, 1, none⟩ = some (.slice none 0 0) := (blk_cell BK454.out 1).trans rfl; have hcz26_2 : w23.cell? ⟨gb454, 2, none⟩ = some (.int .i64 0) := (blk_cell BK454.out 2).trans rfl; have hfz26_0 := blk_frozen BK454.out 0; have hfz26_1 := blk_frozen BK454.out 1; have hfz26_2 := blk_frozen BK454.out 2; obtain ⟨Ao27, co27, eo27⟩ := Kd.R_slice HO451.out; subst eo27) | ((with_reducible refine gate_callee (f := 33) rfl ?_); refine goesL_ (some 20) rfl rfl Try.func33 (by kernel_rfl) rfl #[.int .i64 a1] rfl (by (try simp only [List.map_toArray, List.map_cons, List.map_nil]); first | done | rfl | (simp only [List.length_drop, List.length_take]; rfl)) ?_; (with_reducible refine (hibernacleref15_New.calls k a1 t455 t458 t461 t462 _ A11.out).mono ?_); rintro e w28 ⟨v456, v459, rfl, ho0, ho1, hb⟩; refine ⟨_, rfl, ?_⟩; have n0_ := Aside0.mk (Kd.R_elder' (by (with_reducible repeat (first | apply Kd.R_alloc | apply Kd.R_drewN | apply Kd.R_drew)); exact (Kd.R_mono (Kd.R_far (p := ⟨gb454, 2, none⟩) (Kd.R_far (p := ⟨gb454, 1, none⟩) (Kd.R_far (p := ⟨gb454, 0, none⟩) (Kd.R_types HO448.out BK454.out (by decide)) (fun _ hk => hk.2) (.slice Ao24 t446.length co24)) (fun _ hk => hk.2) (.slice Ao27 t449.length co27)) (fun _ hk => hk.2) (.int .i64 t452)) (fun _ h_ => h_.1))) (Kd.R_base ho0) hb); have n1_ := Aside0.mk (Kd.R_elder' (by (with_reducible repeat (first | apply Kd.R_alloc | apply Kd.R_drewN | apply Kd.R_drew)); exact (Kd.R_mono (Kd.R_far (p := ⟨gb454, 2, none⟩) (Kd.R_far (p := ⟨gb454, 1, none⟩) (Kd.R_far (p := ⟨gb454, 0, none⟩) (Kd.R_types HO451.out BK454.out (by decide)) (fun _ hk => hk.2) (.slice Ao24 t446.length co24)) (fun _ hk => hk.2) (.slice Ao27 t449.length co27)) (fun _ hk => hk.2) (.int .i64 t452)) (fun _ h_ => h_.1))) (Kd.R_base ho1) hb); have n2_ := Aside0.mk (Kd.R_lower (Kd.R_new' ho0 (Kd.R_lt (by (with_reducible repeat (first | apply Kd.R_alloc | apply Kd.R_drewN | apply Kd.R_drew)); exact (Kd.R_mono (Kd.R_far (p := ⟨gb454, 2, none⟩) (Kd.R_far (p := ⟨gb454, 1, none⟩) (Kd.R_far (p := ⟨gb454, 0, none⟩) (Kd.R_types HO448.out BK454.out (by decide)) (fun _ hk => hk.2) (.slice Ao24 t446.length co24)) (fun _ hk => hk.2) (.slice Ao27 t449.length co27)) (fun _ hk => hk.2) (.int .i64 t452)) (fun _ h_ => h_.1))))) (below_size (by repeat (first | (with_reducible first | exact HB.out | apply below_alloc | apply pw_below_drewN | apply below_drew1 | refine below_set ?_ GE443.out | refine below_set ?_ GE454.out) | exact HB.out)))); have n3_ := Aside0.mk (Kd.R_lower (Kd.R_new' ho1 (Kd.R_lt (by (with_reducible repeat (first | apply Kd.R_alloc | apply Kd.R_drewN | apply Kd.R_drew)); exact (Kd.R_mono (Kd.R_far (p := ⟨gb454, 2, none⟩) (Kd.R_far (p := ⟨gb454, 1, none⟩) (Kd.R_far (p := ⟨gb454, 0, none⟩) (Kd.R_types HO451.out BK454.out (by decide)) (fun _ hk => hk.2) (.slice Ao24 t446.length co24)) (fun _ hk => hk.2) (.slice Ao27 t449.length co27)) (fun _ hk => hk.2) (.int .i64 t452)) (fun _ h_ => h_.1))))) (below_size (by repeat (first | (with_reducible first | exact HB.out | apply below_alloc | apply pw_below_drewN | apply below_drew1 | refine below_set ?_ GE443.out | refine below_set ?_ GE454.out) | exact HB.out)))); have n4_ := Aside0.mk (blk_below (g := gb443) (o := .cells #[.slice A0_0 l0_0.length c0_0, .slice A0_1 l0_1.length c0_1, .int .i64 a0_2] 29 (0, 0)) (by (with_reducible repeat (first | refine blk_drewN ?_ _ | refine blk_drew ?_ | refine blk_alloc ?_ _)); refine blk_far ?_ NB443_454.out _; (with_reducible repeat (first | refine blk_drewN ?_ _ | refine blk_drew ?_ | refine blk_alloc ?_ _)); refine blk_far ?_ NB443_454.out _; (with_reducible repeat (first | refine blk_drewN ?_ _ | refine blk_drew ?_ | refine blk_alloc ?_ _)); refine blk_far ?_ NB443_454.out _; (with_reducible repeat (first | refine blk_drewN ?_ _ | refine blk_drew ?_ | refine blk_alloc ?_ _)); exact BK443.out) hb); have n5_ := Aside0.mk (blk_below (g := gb454) (o := .cells #[.slice Ao24 t446.length co24, .slice Ao27 t449.length co27, .int .i64 t452] 29 (0, 0)) (by (with_reducible repeat (first | refine blk_drewN ?_ _ | refine blk_drew ?_ | refine blk_alloc ?_ _)); refine blk_put (cs := #[.slice Ao24 t446.length co24, .slice Ao27 t449.length co27, .int .i64 0]) ?_ 2 _ rfl; (with_reducible repeat (first | refine blk_drewN ?_ _ | refine blk_drew ?_ | refine blk_alloc ?_ _)); refine blk_put (cs := #[.slice Ao24 t446.length co24, .slice none 0 0, .int .i64 0]) ?_ 1 _ rfl; (with_reducible repeat (first | refine blk_drewN ?_ _ | refine blk_drew ?_ | refine blk_alloc ?_ _)); refine blk_put (cs := #[.slice none 0 0, .slice none 0 0, .int .i64 0]) ?_ 0 _ rfl; (with_reducible repeat (first | refine blk_drewN ?_ _ | refine blk_drew ?_ | refine blk_alloc ?_ _)); exact BK454.out) hb); have n6_ := Aside0.mk (below_step (by repeat (first | (with_reducible first | exact HB.out | apply below_alloc | apply pw_below_drewN | apply below_drew1 | refine below_set ?_ GE443.out | refine below_set ?_ GE454.out) | exact HB.out)) hb); clear HO448; clear HO451; clear BK443; clear BK454; clear HB; have HO448 := n0_; have HO451 := n1_; have HO457 := n2_; have HO460 := n3_; have BK443 := n4_; have BK454 := n5_; have HB := n6_; clear n0_ n1_ n2_ n3_ n4_ n5_ n6_; (try clear hb); (try clear hb2); (try clear hk); (try clear hi); (try clear ho0); (try clear ho1)) | ((with_reducible refine gate_dst (N := 7) rfl ?_); refine box_event ?hg (N := 7) ?hd (cs := #[.slice none 0 0, .slice none 0 0, .int .i64 0]) (t := 29) ?hr ?_; (case hd => rfl); (case hg => rfl); (case hr => first | (go_simp; done) | (go_simp; rfl)); intro gb463 hg w29 hbox hb; have n0_ := Aside0.mk (Kd.R_below (by (with_reducible repeat (first | apply Kd.R_alloc | apply Kd.R_drewN | apply Kd.R_drew)); exact HO448.out) hb); have n1_ := Aside0.mk (Kd.R_below (by (with_reducible repeat (first | apply Kd.R_alloc | apply Kd.R_drewN | apply Kd.R_drew)); exact HO451.out) hb); have n2_ := Aside0.mk (Kd.R_below (by (with_reducible repeat (first | apply Kd.R_alloc | apply Kd.R_drewN | apply Kd.R_drew)); exact HO457.out) hb); have n3_ := Aside0.mk (Kd.R_below (by (with_reducible repeat (first | apply Kd.R_alloc | apply Kd.R_drewN | apply Kd.R_drew)); exact HO460.out) hb); have n4_ := Aside0.mk (blk_below (g := gb443) (o := .cells #[.slice A0_0 l0_0.length c0_0, .slice A0_1 l0_1.length c0_1, .int .i64 a0_2] 29 (0, 0)) (by (with_reducible repeat (first | refine blk_drewN ?_ _ | refine blk_drew ?_ | refine blk_alloc ?_ _)); exact BK443.out) hb); have n5_ := Aside0.mk (blk_below (g := gb454) (o := .cells #[.slice Ao24 t446.length co24, .slice Ao27 t449.length co27, .int .i64 t452] 29 (0, 0)) (by (with_reducible repeat (first | refine blk_drewN ?_ _ | refine blk_drew ?_ | refine blk_alloc ?_ _)); exact BK454.out) hb); have n6_ := Aside0.mk (below_step (by repeat (first | (with_reducible first | exact HB.out | apply below_alloc | apply pw_below_drewN | apply below_drew1 | refine below_set ?_ GE443.out | refine below_set ?_ GE454.out) | exact HB.out)) hb); have n7_ := Aside0.mk (hbox); have n8_ := Aside0.mk ((by rw [hg]; exact (below_size (by repeat (first | (with_reducible first | exact HB.out | apply below_alloc | apply pw_below_drewN | apply below_drew1 | refine below_set ?_ GE443.out | refine below_set ?_ GE454.out) | exact HB.out))) : w.heap.size ≤ gb463)); have n9_ := Aside0.mk ((by rw [hg]; exact (below_size (by repeat (first | (with_reducible first | exact HB.out | apply below_alloc | apply pw_below_drewN | apply below_drew1 | refine below_set ?_ GE443.out | refine below_set ?_ GE454.out) | exact HB.out))) : w.heap.size ≤ gb463)); have n10_ := Aside0.mk ((by rw [hg]; exact Nat.ne_of_lt (blk_lt (g := gb443) (o := .cells #[.slice A0_0 l0_0.length c0_0, .slice A0_1 l0_1.length c0_1, .int .i64 a0_2] 29 (0, 0)) (by (with_reducible repeat (first | refine blk_drewN ?_ _ | refine blk_drew ?_ | refine blk_alloc ?_ _)); exact BK443.out)) : gb443 ≠ gb463)); have n11_ := Aside0.mk ((by rw [hg]; exact Nat.ne_of_gt (blk_lt (g := gb443) (o := .cells #[.slice A0_0 l0_0.length c0_0, .slice A0_1 l0_1.length c0_1, .int .i64 a0_2] 29 (0, 0)) (by (with_reducible repeat (first | refine blk_drewN ?_ _ | refine blk_drew ?_ | refine blk_alloc ?_ _)); exact BK443.out)) : gb463 ≠ gb443)); have n12_ := Aside0.mk ((by rw [hg]; exact Nat.ne_of_lt (blk_lt (g := gb454) (o := .cells #[.slice Ao24 t446.length co24, .slice Ao27 t449.length co27, .int .i64 t452] 29 (0, 0)) (by (with_reducible repeat (first | refine blk_drewN ?_ _ | refine blk_drew ?_ | refine blk_alloc ?_ _)); exact BK454.out)) : gb454 ≠ gb463)); have n13_ := Aside0.mk ((by rw [hg]; exact Nat.ne_of_gt (blk_lt (g := gb454) (o := .cells #[.slice Ao24 t446.length co24, .slice Ao27 t449.length co27, .int .i64 t452] 29 (0, 0)) (by (with_reducible repeat (first | refine blk_drewN ?_ _ | refine blk_drew ?_ | refine blk_alloc ?_ _)); exact BK454.out)) : gb463 ≠ gb454)); clear HO448; clear HO451; clear HO457; clear HO460; clear BK443; clear BK454; clear HB; have HO448 := n0_; have HO451 := n1_; have HO457 := n2_; have HO460 := n3_; have BK443 := n4_; have BK454 := n5_; have HB := n6_; have BK463 := n7_; have GW463 := n8_; have GE463 := n9_; have NB443_463 := n10_; have NB463_443 := n11_; have NB454_463 := n12_; have NB463_454 := n13_; clear n0_ n1_ n2_ n3_ n4_ n5_ n6_ n7_ n8_ n9_ n10_ n11_ n12_ n13_; clear hb hbox hg; obtain ⟨Ao30, co30, eo30⟩ := Kd.R_slice HO457.out; subst eo30; have hnb31 := NB463_443.out; have hnc31 := NB443_463.out; have hnb32 := NB463_454.out; have hnc32 := NB454_463.out; have hcz33_0 : w29.cell? ⟨gb463, 0, none⟩ = some (.slice none 0 0) := (blk_cell BK463.out 0).trans rfl; have hcz33_1 : w29.cell? ⟨gb463, 1, none⟩ = some (.slice none 0 0) := (blk_cell BK463.out 1).trans rfl; have hcz33_2 : w29.cell? ⟨gb463, 2, none⟩ = some (.int .i64 0) := (blk_cell BK463.out 2).trans rfl; have hfz33_0 := blk_frozen BK463.out 0; have hfz33_1 := blk_frozen BK463.out 1; have hfz33_2 := blk_frozen BK463.out 2; obtain ⟨Ao34, co34, eo34⟩ := Kd.R_slice HO460.out; subst eo34))
          have n0_ : Aside0 (Kd.R Kd.string 9 (((w29.setCell ⟨gb463, 0, none⟩ (.slice Ao30 t455.length co30)).setCell ⟨gb463, 1, none⟩ (.slice Ao34 t458.length co34)).setCell ⟨gb463, 2, none⟩ (.int .i64 t461)) w.heap.size (fun k_ => some k_ ≠ (.slice Ao30 t455.length co30 : Value).ownBlock) (.slice Ao24 t446.length co24) t446) := ⟨by (with_reducible repeat (first | apply Kd.R_alloc | apply Kd.R_drewN | apply Kd.R_drew)); exact Kd.R_mono (Kd.R_far (p := ⟨gb463, 2, none⟩) (Kd.R_far (p := ⟨gb463, 1, none⟩) (Kd.R_far (p := ⟨gb463, 0, none⟩) (Kd.R_types HO448.out BK463.out (by decide)) (fun _ hk => hk.2) (.slice Ao30 t455.length co30)) (fun _ hk => hk.2) (.slice Ao34 t458.length co34)) (fun _ hk => hk.2) (.int .i64 t461)) (fun _ hk => hk.1.2)⟩
          have n1_ : Aside0 (Kd.R k27 27 (((w29.setCell ⟨gb463, 0, none⟩ (.slice Ao30 t455.length co30)).setCell ⟨gb463, 1, none⟩ (.slice Ao34 t458.length co34)).setCell ⟨gb463, 2, none⟩ (.int .i64 t461)) w.heap.size (fun k_ => some k_ ≠ (.slice Ao34 t458.length co34 : Value).ownBlock) (.slice Ao27 t449.length co27) t449) := ⟨by (with_reducible repeat (first | apply Kd.R_alloc | apply Kd.R_drewN | apply Kd.R_drew)); exact Kd.R_mono (Kd.R_far (p := ⟨gb463, 2, none⟩) (Kd.R_far (p := ⟨gb463, 1, none⟩) (Kd.R_far (p := ⟨gb463, 0, none⟩) (Kd.R_types HO451.out BK463.out (by decide)) (fun _ hk => hk.2) (.slice Ao30 t455.length co30)) (fun _ hk => hk.2) (.slice Ao34 t458.length co34)) (fun _ hk => hk.2) (.int .i64 t461)) (fun _ hk => hk.1.2)⟩
          have n2_ : Aside0 (Kd.R Kd.string 9 (((w29.setCell ⟨gb463, 0, none⟩ (.slice Ao30 t455.length co30)).setCell ⟨gb463, 1, none⟩ (.slice Ao34 t458.length co34)).setCell ⟨gb463, 2, none⟩ (.int .i64 t461)) w.heap.size (fun k_ => some k_ ≠ (.slice Ao24 t446.length co24 : Value).ownBlock) (.slice Ao30 t455.length co30) t455) := ⟨by (with_reducible repeat (first | apply Kd.R_alloc | apply Kd.R_drewN | apply Kd.R_drew)); exact Kd.R_mono (Kd.R_far (p := ⟨gb463, 2, none⟩) (Kd.R_far (p := ⟨gb463, 1, none⟩) (Kd.R_far (p := ⟨gb463, 0, none⟩) (Kd.R_types HO457.out BK463.out (by decide)) (fun _ hk => hk.2) (.slice Ao30 t455.length co30)) (fun _ hk => hk.2) (.slice Ao34 t458.length co34)) (fun _ hk => hk.2) (.int .i64 t461)) (fun _ hk => hk.1.2)⟩
          have n3_ : Aside0 (Kd.R k27 27 (((w29.setCell ⟨gb463, 0, none⟩ (.slice Ao30 t455.length co30)).setCell ⟨gb463, 1, none⟩ (.slice Ao34 t458.length co34)).setCell ⟨gb463, 2, none⟩ (.int .i64 t461)) w.heap.size (fun k_ => some k_ ≠ (.slice Ao27 t449.length co27 : Value).ownBlock) (.slice Ao34 t458.length co34) t458) := ⟨by (with_reducible repeat (first | apply Kd.R_alloc | apply Kd.R_drewN | apply Kd.R_drew)); exact Kd.R_mono (Kd.R_far (p := ⟨gb463, 2, none⟩) (Kd.R_far (p := ⟨gb463, 1, none⟩) (Kd.R_far (p := ⟨gb463, 0, none⟩) (Kd.R_types HO460.out BK463.out (by decide)) (fun _ hk => hk.2) (.slice Ao30 t455.length co30)) (fun _ hk => hk.2) (.slice Ao34 t458.length co34)) (fun _ hk => hk.2) (.int .i64 t461)) (fun _ hk => hk.1.2)⟩
          have n4_ : Aside0 ((((w29.setCell ⟨gb463, 0, none⟩ (.slice Ao30 t455.length co30)).setCell ⟨gb463, 1, none⟩ (.slice Ao34 t458.length co34)).setCell ⟨gb463, 2, none⟩ (.int .i64 t461)).heap[gb443]? = some (.cells #[.slice A0_0 l0_0.length c0_0, .slice A0_1 l0_1.length c0_1, .int .i64 a0_2] 29 (0, 0))) := ⟨by (with_reducible repeat (first | refine blk_drewN ?_ _ | refine blk_drew ?_ | refine blk_alloc ?_ _)); refine blk_far ?_ NB443_463.out _; (with_reducible repeat (first | refine blk_drewN ?_ _ | refine blk_drew ?_ | refine blk_alloc ?_ _)); refine blk_far ?_ NB443_463.out _; (with_reducible repeat (first | refine blk_drewN ?_ _ | refine blk_drew ?_ | refine blk_alloc ?_ _)); refine blk_far ?_ NB443_463.out _; (with_reducible repeat (first | refine blk_drewN ?_ _ | refine blk_drew ?_ | refine blk_alloc ?_ _)); exact BK443.out⟩
          have n5_ : Aside0 ((((w29.setCell ⟨gb463, 0, none⟩ (.slice Ao30 t455.length co30)).setCell ⟨gb463, 1, none⟩ (.slice Ao34 t458.length co34)).setCell ⟨gb463, 2, none⟩ (.int .i64 t461)).heap[gb454]? = some (.cells #[.slice Ao24 t446.length co24, .slice Ao27 t449.length co27, .int .i64 t452] 29 (0, 0))) := ⟨by (with_reducible repeat (first | refine blk_drewN ?_ _ | refine blk_drew ?_ | refine blk_alloc ?_ _)); refine blk_far ?_ NB454_463.out _; (with_reducible repeat (first | refine blk_drewN ?_ _ | refine blk_drew ?_ | refine blk_alloc ?_ _)); refine blk_far ?_ NB454_463.out _; (with_reducible repeat (first | refine blk_drewN ?_ _ | refine blk_drew ?_ | refine blk_alloc ?_ _)); refine blk_far ?_ NB454_463.out _; (with_reducible repeat (first | refine blk_drewN ?_ _ | refine blk_drew ?_ | refine blk_alloc ?_ _)); exact BK454.out⟩
          have n6_ : Aside0 ((((w29.setCell ⟨gb463, 0, none⟩ (.slice Ao30 t455.length co30)).setCell ⟨gb463, 1, none⟩ (.slice Ao34 t458.length co34)).setCell ⟨gb463, 2, none⟩ (.int .i64 t461)).heap[gb463]? = some (.cells #[.slice Ao30 t455.length co30, .slice Ao34 t458.length co34, .int .i64 t461] 29 (0, 0))) := ⟨by (with_reducible repeat (first | refine blk_drewN ?_ _ | refine blk_drew ?_ | refine blk_alloc ?_ _)); refine blk_put (cs := #[.slice Ao30 t455.length co30, .slice Ao34 t458.length co34, .int .i64 0]) ?_ 2 _ rfl; (with_reducible repeat (first | refine blk_drewN ?_ _ | refine blk_drew ?_ | refine blk_alloc ?_ _)); refine blk_put (cs := #[.slice Ao30 t455.length co30, .slice none 0 0, .int .i64 0]) ?_ 1 _ rfl; (with_reducible repeat (first | refine blk_drewN ?_ _ | refine blk_drew ?_ | refine blk_alloc ?_ _)); refine blk_put (cs := #[.slice none 0 0, .slice none 0 0, .int .i64 0]) ?_ 0 _ rfl; (with_reducible repeat (first | refine blk_drewN ?_ _ | refine blk_drew ?_ | refine blk_alloc ?_ _)); exact BK463.out⟩
          have n7_ : Aside0 (Below w.heap.size w (((w29.setCell ⟨gb463, 0, none⟩ (.slice Ao30 t455.length co30)).setCell ⟨gb463, 1, none⟩ (.slice Ao34 t458.length co34)).setCell ⟨gb463, 2, none⟩ (.int .i64 t461))) := ⟨by repeat (first | (with_reducible first | exact HB.out | apply below_alloc | apply pw_below_drewN | apply below_drew1 | refine below_set ?_ GE443.out | refine below_set ?_ GE454.out | refine below_set ?_ GE463.out) | exact HB.out)⟩
          (try clear HO448)
          (try clear HO451)
          (try clear HO457)
          (try clear HO460)
          (try clear BK443)
          (try clear BK454)
          (try clear BK463)
          (try clear HB)
          generalize (((w29.setCell ⟨gb463, 0, none⟩ (.slice Ao30 t455.length co30)).setCell ⟨gb463, 1, none⟩ (.slice Ao34 t458.length co34)).setCell ⟨gb463, 2, none⟩ (.int .i64 t461)) = w35 at n0_ n1_ n2_ n3_ n4_ n5_ n6_ n7_ ⊢
          have HO448 := n0_
          have HO451 := n1_
          have HO457 := n2_
          have HO460 := n3_
          have BK443 := n4_
          have BK454 := n5_
          have BK463 := n6_
          have HB := n7_
          clear n0_ n1_ n2_ n3_ n4_ n5_ n6_ n7_
          have n0_ := Aside0.mk (Kd.R_drew HO448.out)
          have n1_ := Aside0.mk (Kd.R_drew HO451.out)
          have n2_ := Aside0.mk (Kd.R_drew HO457.out)
          have n3_ := Aside0.mk (Kd.R_drew HO460.out)
          have n4_ := Aside0.mk (blk_drew BK443.out)
          have n5_ := Aside0.mk (blk_drew BK454.out)
          have n6_ := Aside0.mk (blk_drew BK463.out)
          have n7_ := Aside0.mk (below_drew1 HB.out)
          clear HO448
          clear HO451
          clear HO457
          clear HO460
          clear BK443
          clear BK454
          clear BK463
          clear HB
          have HO448 := n0_
          have HO451 := n1_
          have HO457 := n2_
          have HO460 := n3_
          have BK443 := n4_
          have BK454 := n5_
          have BK463 := n6_
          have HB := n7_
          clear n0_ n1_ n2_ n3_ n4_ n5_ n6_ n7_
          refine start_ (n := 19) (S := fun w' => w'.cell? ⟨gb443, 0, none⟩ = some (.slice A0_0 l0_0.length c0_0) ∧ w'.cell? ⟨gb443, 1, none⟩ = some (.slice A0_1 l0_1.length c0_1) ∧ w'.cell? ⟨gb443, 2, none⟩ = some (.int .i64 a0_2) ∧ w'.cell? ⟨gb454, 0, none⟩ = some (.slice Ao24 t446.length co24) ∧ w'.cell? ⟨gb454, 1, none⟩ = some (.slice Ao27 t449.length co27) ∧ w'.cell? ⟨gb454, 2, none⟩ = some (.int .i64 t452) ∧ w'.cell? ⟨gb463, 0, none⟩ = some (.slice Ao30 t455.length co30) ∧ w'.cell? ⟨gb463, 1, none⟩ = some (.slice Ao34 t458.length co34) ∧ w'.cell? ⟨gb463, 2, none⟩ = some (.int .i64 t461)) (ds := []) #[false, false, false, false, false, false, false, false, false, false, false, false, false, false, false, false, false, false, false] (by kernel_rfl) rfl rfl ⟨(blk_cell BK443.out 0).trans rfl, (blk_cell BK443.out 1).trans rfl, (blk_cell BK443.out 2).trans rfl, (blk_cell BK454.out 0).trans rfl, (blk_cell BK454.out 1).trans rfl, (blk_cell BK454.out 2).trans rfl, (blk_cell BK463.out 0).trans rfl, (blk_cell BK463.out 1).trans rfl, (blk_cell BK463.out 2).trans rfl⟩ (fun hHeld => ?_); refine with_tabW hibernaclelaw15_DriveChecks.tab5 hibernaclelaw15_DriveChecks.bits5 (fun HT_ HW_ => ?_)
          generalize w35.drew = w36 at HO448 HO451 HO457 HO460 BK443 BK454 BK463 HB hHeld ⊢
          refine one_ (i := 0) (N := some 23) #[true, false, false, false, false, false, false, false, false, false, false, false, false, false, false, false, false, false, false] rfl rfl (one_of HT_.out (by kernel_rfl)) (by decide) (fun K hK => ?_)
          refine goes_ Try.func31 (by kernel_rfl) rfl #[] (by rfl) rfl rfl (by (try simp only [List.map_toArray, List.map_cons, List.map_nil]); first | done | rfl | (simp only [List.length_drop, List.length_take]; rfl)) ?_
          with_reducible refine (hibernaclelaw15_fixed.calls  true _ A12.out).mono ?_
          rintro e w37 ⟨rfl, hb⟩
          refine ⟨_, rfl, ?_⟩
          have n0_ := Aside0.mk (Kd.R_below (by (with_reducible repeat (first | apply Kd.R_alloc | apply Kd.R_drewN | apply Kd.R_drew)); exact HO448.out) hb)
          have n1_ := Aside0.mk (Kd.R_below (by (with_reducible repeat (first | apply Kd.R_alloc | apply Kd.R_drewN | apply Kd.R_drew)); exact HO451.out) hb)
          have n2_ := Aside0.mk (Kd.R_below (by (with_reducible repeat (first | apply Kd.R_alloc | apply Kd.R_drewN | apply Kd.R_drew)); exact HO457.out) hb)
          have n3_ := Aside0.mk (Kd.R_below (by (with_reducible repeat (first | apply Kd.R_alloc | apply Kd.R_drewN | apply Kd.R_drew)); exact HO460.out) hb)
          have n4_ := Aside0.mk (blk_below (g := gb443) (o := .cells #[.slice A0_0 l0_0.length c0_0, .slice A0_1 l0_1.length c0_1, .int .i64 a0_2] 29 (0, 0)) (by (with_reducible repeat (first | refine blk_drewN ?_ _ | refine blk_drew ?_ | refine blk_alloc ?_ _)); exact BK443.out) hb)
          have n5_ := Aside0.mk (blk_below (g := gb454) (o := .cells #[.slice Ao24 t446.length co24, .slice Ao27 t449.length co27, .int .i64 t452] 29 (0, 0)) (by (with_reducible repeat (first | refine blk_drewN ?_ _ | refine blk_drew ?_ | refine blk_alloc ?_ _)); exact BK454.out) hb)
          have n6_ := Aside0.mk (blk_below (g := gb463) (o := .cells #[.slice Ao30 t455.length co30, .slice Ao34 t458.length co34, .int .i64 t461] 29 (0, 0)) (by (with_reducible repeat (first | refine blk_drewN ?_ _ | refine blk_drew ?_ | refine blk_alloc ?_ _)); exact BK463.out) hb)
          have n7_ := Aside0.mk (below_step (by repeat (first | (with_reducible first | exact HB.out | apply below_alloc | apply pw_below_drewN | apply below_drew1 | refine below_set ?_ GE443.out | refine below_set ?_ GE454.out | refine below_set ?_ GE463.out) | exact HB.out)) hb)
          clear HO448
          clear HO451
          clear HO457
          clear HO460
          clear BK443
          clear BK454
          clear BK463
          clear HB
          have HO448 := n0_
          have HO451 := n1_
          have HO457 := n2_
          have HO460 := n3_
          have BK443 := n4_
          have BK454 := n5_
          have BK463 := n6_
          have HB := n7_
          clear n0_ n1_ n2_ n3_ n4_ n5_ n6_ n7_
          (try clear hb)
          (try clear hb2)
          (try clear hk)
          (try clear hi)
          refine hK.out _ _ ⟨(blk_cell BK443.out 0).trans rfl, (blk_cell BK443.out 1).trans rfl, (blk_cell BK443.out 2).trans rfl, (blk_cell BK454.out 0).trans rfl, (blk_cell BK454.out 1).trans rfl, (blk_cell BK454.out 2).trans rfl, (blk_cell BK463.out 0).trans rfl, (blk_cell BK463.out 1).trans rfl, (blk_cell BK463.out 2).trans rfl⟩ (fun hHeld => ?_)
          clear hK K
          refine norm_ (a' := ?_) ?_ ?_
          rotate_left
          · show Act.put _ (some 23) _ = _
            simp only [Act.put, List.setIfInBounds_toArray, List.set_cons_zero, List.set_cons_succ, i64_w, i32_w]
            rfl
          refine pure_ (i := 1) (N := some 24) (v := ?_) (a' := ?_) #[true, true, false, false, false, false, false, false, false, false, false, false, false, false, false, false, false, false, false] rfl rfl (any_of HT_.out (by kernel_rfl)) (fun _ _ _ h => h) (Or.inl ⟨by rfl, ?_⟩) ?_ ?_
          rotate_left
          · intro w'
            go_simp
            with_reducible rfl
          rotate_left
          · simp only [Act.put, List.setIfInBounds_toArray, List.set_cons_zero, List.set_cons_succ, i64_w, i32_w]
            rfl
          refine take_ (i := 2) (N := some 25) (v := ?_) (a' := ?_) #[true, true, true, false, false, false, false, false, false, false, false, false, false, false, false, false, false, false, false] rfl rfl (take_ofW HT_.out HW_.out (by kernel_rfl)) (fun _ _ _ h => h) (Or.inl ⟨by rfl, ?_⟩) hHeld ?_ ?_
          rotate_left
          · rintro w' ⟨s0, s1, s2, s3, s4, s5, s6, s7, s8⟩
            go_simp
            with_reducible rfl
          rotate_left
          · simp only [Act.put, List.setIfInBounds_toArray, List.set_cons_zero, List.set_cons_succ, i64_w, i32_w]
            rfl
          refine take_ (i := 4) (N := some 27) (v := ?_) (a' := ?_) #[true, true, true, false, true, false, false, false, false, false, false, false, false, false, false, false, false, false, false] rfl rfl (take_ofW HT_.out HW_.out (by kernel_rfl)) (fun _ _ _ h => h) (Or.inl ⟨by rfl, ?_⟩) hHeld ?_ ?_
          rotate_left
          · rintro w' ⟨s0, s1, s2, s3, s4, s5, s6, s7, s8⟩
            go_simp
            with_reducible rfl
          rotate_left
          · simp only [Act.put, List.setIfInBounds_toArray, List.set_cons_zero, List.set_cons_succ, i64_w, i32_w]
            rfl
          refine one_ (i := 3) (N := some 26) #[true, true, true, true, true, false, false, false, false, false, false, false, false, false, false, false, false, false, false] rfl rfl (one_of HT_.out (by kernel_rfl)) (by decide) (fun K hK => ?_)
          refine goes_ Try.func34 (by kernel_rfl) rfl #[.agg #[.slice A0_0 l0_0.length c0_0, .slice A0_1 l0_1.length c0_1, .int .i64 a0_2]] (by rfl) rfl rfl (by (try simp only [List.map_toArray, List.map_cons, List.map_nil]); first | done | rfl | (simp only [List.length_drop, List.length_take]; rfl)) ?_
          with_reducible refine (drive_Check.calls _ _ l0_0 _ _ l0_1 a0_2 t465 _ ?side1 ?side2 ?side3 ?side4 A14.out).mono ?_
          (case side1 => repeat (first | exact (Kd.C_below HR0_0.out HB.out) | (with_reducible refine Kd.C_alloc ?_ _) | (with_reducible refine Kd.C_drewN ?_ _) | (with_reducible refine Kd.C_drew ?_)))
          (case side2 => exact HC0_0.out)
          (case side3 => repeat (first | exact (Kd.C_below HR0_1.out HB.out) | (with_reducible refine Kd.C_alloc ?_ _) | (with_reducible refine Kd.C_drewN ?_ _) | (with_reducible refine Kd.C_drew ?_)))
          (case side4 => exact HC0_1.out)
          rintro e w38 ⟨rfl, hb⟩
          refine ⟨_, rfl, ?_⟩
          have n0_ := Aside0.mk (Kd.R_below (by (with_reducible repeat (first | apply Kd.R_alloc | apply Kd.R_drewN | apply Kd.R_drew)); exact HO448.out) hb)
          have n1_ := Aside0.mk (Kd.R_below (by (with_reducible repeat (first | apply Kd.R_alloc | apply Kd.R_drewN | apply Kd.R_drew)); exact HO451.out) hb)
          have n2_ := Aside0.mk (Kd.R_below (by (with_reducible repeat (first | apply Kd.R_alloc | apply Kd.R_drewN | apply Kd.R_drew)); exact HO457.out) hb)
          have n3_ := Aside0.mk (Kd.R_below (by (with_reducible repeat (first | apply Kd.R_alloc | apply Kd.R_drewN | apply Kd.R_drew)); exact HO460.out) hb)
          have n4_ := Aside0.mk (blk_below (g := gb443) (o := .cells #[.slice A0_0 l0_0.length c0_0, .slice A0_1 l0_1.length c0_1, .int .i64 a0_2] 29 (0, 0)) (by (with_reducible repeat (first | refine blk_drewN ?_ _ | refine blk_drew ?_ | refine blk_alloc ?_ _)); exact BK443.out) hb)
          have n5_ := Aside0.mk (blk_below (g := gb454) (o := .cells #[.slice Ao24 t446.length co24, .slice Ao27 t449.length co27, .int .i64 t452] 29 (0, 0)) (by (with_reducible repeat (first | refine blk_drewN ?_ _ | refine blk_drew ?_ | refine blk_alloc ?_ _)); exact BK454.out) hb)
          have n6_ := Aside0.mk (blk_below (g := gb463) (o := .cells #[.slice Ao30 t455.length co30, .slice Ao34 t458.length co34, .int .i64 t461] 29 (0, 0)) (by (with_reducible repeat (first | refine blk_drewN ?_ _ | refine blk_drew ?_ | refine blk_alloc ?_ _)); exact BK463.out) hb)
          have n7_ := Aside0.mk (below_step (by repeat (first | (with_reducible first | exact HB.out | apply below_alloc | apply pw_below_drewN | apply below_drew1 | refine below_set ?_ GE443.out | refine below_set ?_ GE454.out | refine below_set ?_ GE463.out) | exact HB.out)) hb)
          clear HO448
          clear HO451
          clear HO457
          clear HO460
          clear BK443
          clear BK454
          clear BK463
          clear HB
          have HO448 := n0_
          have HO451 := n1_
          have HO457 := n2_
          have HO460 := n3_
          have BK443 := n4_
          have BK454 := n5_
          have BK463 := n6_
          have HB := n7_
          clear n0_ n1_ n2_ n3_ n4_ n5_ n6_ n7_
          (try clear hb)
          (try clear hb2)
          (try clear hk)
          (try clear hi)
          refine hK.out _ _ ⟨(blk_cell BK443.out 0).trans rfl, (blk_cell BK443.out 1).trans rfl, (blk_cell BK443.out 2).trans rfl, (blk_cell BK454.out 0).trans rfl, (blk_cell BK454.out 1).trans rfl, (blk_cell BK454.out 2).trans rfl, (blk_cell BK463.out 0).trans rfl, (blk_cell BK463.out 1).trans rfl, (blk_cell BK463.out 2).trans rfl⟩ (fun hHeld => ?_)
          clear hK K
          refine norm_ (a' := ?_) ?_ ?_
          rotate_left
          · show Act.put _ (some 26) _ = _
            simp only [Act.put, List.setIfInBounds_toArray, List.set_cons_zero, List.set_cons_succ, i64_w, i32_w]
            rfl
          refine one_ (i := 5) (N := some 28) #[true, true, true, true, true, true, false, false, false, false, false, false, false, false, false, false, false, false, false] rfl rfl (one_of HT_.out (by kernel_rfl)) (by decide) (fun K hK => ?_)
          refine goes_ Try.func35 (by kernel_rfl) rfl #[.agg #[.slice A0_0 l0_0.length c0_0, .slice A0_1 l0_1.length c0_1, .int .i64 a0_2]] (by rfl) rfl rfl (by (try simp only [List.map_toArray, List.map_cons, List.map_nil]); first | done | rfl | (simp only [List.length_drop, List.length_take]; rfl)) ?_
          with_reducible refine (hibernacleref15_Check.calls k _ _ l0_0 _ _ l0_1 a0_2 t466 _ ?side1 ?side2 ?side3 ?side4 A15.out).mono ?_
          (case side1 => repeat (first | exact (Kd.C_below HR0_0.out HB.out) | (with_reducible refine Kd.C_alloc ?_ _) | (with_reducible refine Kd.C_drewN ?_ _) | (with_reducible refine Kd.C_drew ?_)))
          (case side2 => exact HC0_0.out)
          (case side3 => repeat (first | exact (Kd.C_below HR0_1.out HB.out) | (with_reducible refine Kd.C_alloc ?_ _) | (with_reducible refine Kd.C_drewN ?_ _) | (with_reducible refine Kd.C_drew ?_)))
          (case side4 => exact HC0_1.out)
          rintro e w39 ⟨rfl, hb⟩
          refine ⟨_, rfl, ?_⟩
          have n0_ := Aside0.mk (Kd.R_below (by (with_reducible repeat (first | apply Kd.R_alloc | apply Kd.R_drewN | apply Kd.R_drew)); exact HO448.out) hb)
          have n1_ := Aside0.mk (Kd.R_below (by (with_reducible repeat (first | apply Kd.R_alloc | apply Kd.R_drewN | apply Kd.R_drew)); exact HO451.out) hb)
          have n2_ := Aside0.mk (Kd.R_below (by (with_reducible repeat (first | apply Kd.R_alloc | apply Kd.R_drewN | apply Kd.R_drew)); exact HO457.out) hb)
          have n3_ := Aside0.mk (Kd.R_below (by (with_reducible repeat (first | apply Kd.R_alloc | apply Kd.R_drewN | apply Kd.R_drew)); exact HO460.out) hb)
          have n4_ := Aside0.mk (blk_below (g := gb443) (o := .cells #[.slice A0_0 l0_0.length c0_0, .slice A0_1 l0_1.length c0_1, .int .i64 a0_2] 29 (0, 0)) (by (with_reducible repeat (first | refine blk_drewN ?_ _ | refine blk_drew ?_ | refine blk_alloc ?_ _)); exact BK443.out) hb)
          have n5_ := Aside0.mk (blk_below (g := gb454) (o := .cells #[.slice Ao24 t446.length co24, .slice Ao27 t449.length co27, .int .i64 t452] 29 (0, 0)) (by (with_reducible repeat (first | refine blk_drewN ?_ _ | refine blk_drew ?_ | refine blk_alloc ?_ _)); exact BK454.out) hb)
          have n6_ := Aside0.mk (blk_below (g := gb463) (o := .cells #[.slice Ao30 t455.length co30, .slice Ao34 t458.length co34, .int .i64 t461] 29 (0, 0)) (by (with_reducible repeat (first | refine blk_drewN ?_ _ | refine blk_drew ?_ | refine blk_alloc ?_ _)); exact BK463.out) hb)
          have n7_ := Aside0.mk (below_step (by repeat (first | (with_reducible first | exact HB.out | apply below_alloc | apply pw_below_drewN | apply below_drew1 | refine below_set ?_ GE443.out | refine below_set ?_ GE454.out | refine below_set ?_ GE463.out) | exact HB.out)) hb)
          clear HO448
          clear HO451
          clear HO457
          clear HO460
          clear BK443
          clear BK454
          clear BK463
          clear HB
          have HO448 := n0_
          have HO451 := n1_
          have HO457 := n2_
          have HO460 := n3_
          have BK443 := n4_
          have BK454 := n5_
          have BK463 := n6_
          have HB := n7_
          clear n0_ n1_ n2_ n3_ n4_ n5_ n6_ n7_
          (try clear hb)
          (try clear hb2)
          (try clear hk)
          (try clear hi)
          refine hK.out _ _ ⟨(blk_cell BK443.out 0).trans rfl, (blk_cell BK443.out 1).trans rfl, (blk_cell BK443.out 2).trans rfl, (blk_cell BK454.out 0).trans rfl, (blk_cell BK454.out 1).trans rfl, (blk_cell BK454.out 2).trans rfl, (blk_cell BK463.out 0).trans rfl, (blk_cell BK463.out 1).trans rfl, (blk_cell BK463.out 2).trans rfl⟩ (fun hHeld => ?_)
          clear hK K
          refine norm_ (a' := ?_) ?_ ?_
          rotate_left
          · show Act.put _ (some 28) _ = _
            simp only [Act.put, List.setIfInBounds_toArray, List.set_cons_zero, List.set_cons_succ, i64_w, i32_w]
            rfl
          refine pure_ (i := 6) (N := some 29) (v := ?_) (a' := ?_) #[true, true, true, true, true, true, true, false, false, false, false, false, false, false, false, false, false, false, false] rfl rfl (any_of HT_.out (by kernel_rfl)) (fun _ _ _ h => h) (Or.inl ⟨by rfl, ?_⟩) ?_ ?_
          rotate_left
          · intro w'
            go_simp
            with_reducible rfl
          rotate_left
          · simp only [Act.put, List.setIfInBounds_toArray, List.set_cons_zero, List.set_cons_succ, i64_w, i32_w]
            rfl
          refine pure_ (i := 7) (N := some 30) (v := ?_) (a' := ?_) #[true, true, true, true, true, true, true, true, false, false, false, false, false, false, false, false, false, false, false] rfl rfl (any_of HT_.out (by kernel_rfl)) (fun _ _ _ h => h) (Or.inl ⟨by rfl, ?_⟩) ?_ ?_
          rotate_left
          · intro w'
            go_simp
            with_reducible rfl
          rotate_left
          · simp only [Act.put, List.setIfInBounds_toArray, List.set_cons_zero, List.set_cons_succ, i64_w, i32_w]
            rfl
          refine pure_ (i := 8) (N := some 31) (v := ?_) (a' := ?_) #[true, true, true, true, true, true, true, true, true, false, false, false, false, false, false, false, false, false, false] rfl rfl (any_of HT_.out (by kernel_rfl)) (fun _ _ _ h => h) (Or.inl ⟨by rfl, ?_⟩) ?_ ?_
          rotate_left
          · intro w'
            go_simp
            with_reducible rfl
          rotate_left
          · simp only [Act.put, List.setIfInBounds_toArray, List.set_cons_zero, List.set_cons_succ, i64_w, i32_w]
            rfl
          refine pure_ (i := 9) (N := some 32) (v := ?_) (a' := ?_) #[true, true, true, true, true, true, true, true, true, true, false, false, false, false, false, false, false, false, false] rfl rfl (any_of HT_.out (by kernel_rfl)) (fun _ _ _ h => h) (Or.inl ⟨by rfl, ?_⟩) ?_ ?_
          rotate_left
          · intro w'
            go_simp
            with_reducible rfl
          rotate_left
          · simp only [Act.put, List.setIfInBounds_toArray, List.set_cons_zero, List.set_cons_succ, i64_w, i32_w]
            rfl
          refine pure_ (i := 10) (N := some 33) (v := ?_) (a' := ?_) #[true, true, true, true, true, true, true, true, true, true, true, false, false, false, false, false, false, false, false] rfl rfl (any_of HT_.out (by kernel_rfl)) (fun _ _ _ h => h) (Or.inl ⟨by rfl, ?_⟩) ?_ ?_
          rotate_left
          · intro w'
            go_simp
            with_reducible rfl
          rotate_left
          · simp only [Act.put, List.setIfInBounds_toArray, List.set_cons_zero, List.set_cons_succ, i64_w, i32_w]
            rfl
          refine pure_ (i := 11) (N := some 34) (v := ?_) (a' := ?_) #[true, true, true, true, true, true, true, true, true, true, true, true, false, false, false, false, false, false, false] rfl rfl (any_of HT_.out (by kernel_rfl)) (fun _ _ _ h => h) (Or.inl ⟨by rfl, ?_⟩) ?_ ?_
          rotate_left
          · intro w'
            go_simp
            with_reducible rfl
          rotate_left
          · simp only [Act.put, List.setIfInBounds_toArray, List.set_cons_zero, List.set_cons_succ, i64_w, i32_w]
            rfl
          refine pure_ (i := 12) (N := some 35) (v := ?_) (a' := ?_) #[true, true, true, true, true, true, true, true, true, true, true, true, true, false, false, false, false, false, false] rfl rfl (any_of HT_.out (by kernel_rfl)) (fun _ _ _ h => h) (Or.inl ⟨by rfl, ?_⟩) ?_ ?_
          rotate_left
          · intro w'
            go_simp
            with_reducible rfl
          rotate_left
          · simp only [Act.put, List.setIfInBounds_toArray, List.set_cons_zero, List.set_cons_succ, i64_w, i32_w]
            rfl
          refine pure_ (i := 13) (N := some 36) (v := ?_) (a' := ?_) #[true, true, true, true, true, true, true, true, true, true, true, true, true, true, false, false, false, false, false] rfl rfl (any_of HT_.out (by kernel_rfl)) (fun _ _ _ h => h) (Or.inl ⟨by rfl, ?_⟩) ?_ ?_
          rotate_left
          · intro w'
            go_simp
            with_reducible rfl
          rotate_left
          · simp only [Act.put, List.setIfInBounds_toArray, List.set_cons_zero, List.set_cons_succ, i64_w, i32_w]
            rfl
          refine take_ (i := 14) (N := some 37) (v := ?_) (a' := ?_) #[true, true, true, true, true, true, true, true, true, true, true, true, true, true, true, false, false, false, false] rfl rfl (take_ofW HT_.out HW_.out (by kernel_rfl)) (fun _ _ _ h => h) (Or.inl ⟨by rfl, ?_⟩) hHeld ?_ ?_
          rotate_left
          · rintro w' ⟨s0, s1, s2, s3, s4, s5, s6, s7, s8⟩
            go_simp
            with_reducible rfl
          rotate_left
          · simp only [Act.put, List.setIfInBounds_toArray, List.set_cons_zero, List.set_cons_succ, i64_w, i32_w]
            rfl
          refine take_ (i := 15) (N := some 38) (v := ?_) (a' := ?_) #[true, true, true, true, true, true, true, true, true, true, true, true, true, true, true, true, false, false, false] rfl rfl (take_ofW HT_.out HW_.out (by kernel_rfl)) (fun _ _ _ h => h) (Or.inl ⟨by rfl, ?_⟩) hHeld ?_ ?_
          rotate_left
          · rintro w' ⟨s0, s1, s2, s3, s4, s5, s6, s7, s8⟩
            go_simp
            with_reducible rfl
          rotate_left
          · simp only [Act.put, List.setIfInBounds_toArray, List.set_cons_zero, List.set_cons_succ, i64_w, i32_w]
            rfl
          refine one_ (i := 16) (N := some 39) #[true, true, true, true, true, true, true, true, true, true, true, true, true, true, true, true, true, false, false] rfl rfl (one_of HT_.out (by kernel_rfl)) (by decide) (fun K hK => ?_)
          refine goes_ Try.func36 (by kernel_rfl) rfl #[.agg #[.slice Ao24 t446.length co24, .slice Ao27 t449.length co27, .int .i64 t452], .agg #[.slice Ao30 t455.length co30, .slice Ao34 t458.length co34, .int .i64 t461]] (by rfl) rfl rfl (by (try simp only [List.map_toArray, List.map_cons, List.map_nil]); first | done | rfl | (simp only [List.length_drop, List.length_take]; rfl)) ?_
          with_reducible refine (hibernacleref15_Same.calls k _ _ t446 _ _ t449 t452 _ _ t455 _ _ t458 t461 t467 _ ?side1 ?side2 ?side3 ?side4 ?side5 ?side6 ?side7 ?side8 A18.out).mono ?_
          (case side1 => repeat (first | exact (Kd.R_reads' HO448.out).2.2 | (with_reducible refine Kd.C_alloc ?_ _) | (with_reducible refine Kd.C_drewN ?_ _) | (with_reducible refine Kd.C_drew ?_)))
          (case side2 => exact (Kd.R_reads' HO448.out).2.1)
          (case side3 => repeat (first | exact (Kd.R_reads' HO451.out).2.2 | (with_reducible refine Kd.C_alloc ?_ _) | (with_reducible refine Kd.C_drewN ?_ _) | (with_reducible refine Kd.C_drew ?_)))
          (case side4 => exact (Kd.R_reads' HO451.out).2.1)
          (case side5 => repeat (first | exact (Kd.R_reads' HO457.out).2.2 | (with_reducible refine Kd.C_alloc ?_ _) | (with_reducible refine Kd.C_drewN ?_ _) | (with_reducible refine Kd.C_drew ?_)))
          (case side6 => exact (Kd.R_reads' HO457.out).2.1)
          (case side7 => repeat (first | exact (Kd.R_reads' HO460.out).2.2 | (with_reducible refine Kd.C_alloc ?_ _) | (with_reducible refine Kd.C_drewN ?_ _) | (with_reducible refine Kd.C_drew ?_)))
          (case side8 => exact (Kd.R_reads' HO460.out).2.1)
          rintro e w40 ⟨rfl, hb⟩
          refine ⟨_, rfl, ?_⟩
          have n0_ := Aside0.mk (Kd.R_below (by (with_reducible repeat (first | apply Kd.R_alloc | apply Kd.R_drewN | apply Kd.R_drew)); exact HO448.out) hb)
          have n1_ := Aside0.mk (Kd.R_below (by (with_reducible repeat (first | apply Kd.R_alloc | apply Kd.R_drewN | apply Kd.R_drew)); exact HO451.out) hb)
          have n2_ := Aside0.mk (Kd.R_below (by (with_reducible repeat (first | apply Kd.R_alloc | apply Kd.R_drewN | apply Kd.R_drew)); exact HO457.out) hb)
          have n3_ := Aside0.mk (Kd.R_below (by (with_reducible repeat (first | apply Kd.R_alloc | apply Kd.R_drewN | apply Kd.R_drew)); exact HO460.out) hb)
          have n4_ := Aside0.mk (blk_below (g := gb443) (o := .cells #[.slice A0_0 l0_0.length c0_0, .slice A0_1 l0_1.length c0_1, .int .i64 a0_2] 29 (0, 0)) (by (with_reducible repeat (first | refine blk_drewN ?_ _ | refine blk_drew ?_ | refine blk_alloc ?_ _)); exact BK443.out) hb)
          have n5_ := Aside0.mk (blk_below (g := gb454) (o := .cells #[.slice Ao24 t446.length co24, .slice Ao27 t449.length co27, .int .i64 t452] 29 (0, 0)) (by (with_reducible repeat (first | refine blk_drewN ?_ _ | refine blk_drew ?_ | refine blk_alloc ?_ _)); exact BK454.out) hb)
          have n6_ := Aside0.mk (blk_below (g := gb463) (o := .cells #[.slice Ao30 t455.length co30, .slice Ao34 t458.length co34, .int .i64 t461] 29 (0, 0)) (by (with_reducible repeat (first | refine blk_drewN ?_ _ | refine blk_drew ?_ | refine blk_alloc ?_ _)); exact BK463.out) hb)
          have n7_ := Aside0.mk (below_step (by repeat (first | (with_reducible first | exact HB.out | apply below_alloc | apply pw_below_drewN | apply below_drew1 | refine below_set ?_ GE443.out | refine below_set ?_ GE454.out | refine below_set ?_ GE463.out) | exact HB.out)) hb)
          clear HO448
          clear HO451
          clear HO457
          clear HO460
          clear BK443
          clear BK454
          clear BK463
          clear HB
          have HO448 := n0_
          have HO451 := n1_
          have HO457 := n2_
          have HO460 := n3_
          have BK443 := n4_
          have BK454 := n5_
          have BK463 := n6_
          have HB := n7_
          clear n0_ n1_ n2_ n3_ n4_ n5_ n6_ n7_
          (try clear hb)
          (try clear hb2)
          (try clear hk)
          (try clear hi)
          refine hK.out _ _ ⟨(blk_cell BK443.out 0).trans rfl, (blk_cell BK443.out 1).trans rfl, (blk_cell BK443.out 2).trans rfl, (blk_cell BK454.out 0).trans rfl, (blk_cell BK454.out 1).trans rfl, (blk_cell BK454.out 2).trans rfl, (blk_cell BK463.out 0).trans rfl, (blk_cell BK463.out 1).trans rfl, (blk_cell BK463.out 2).trans rfl⟩ (fun hHeld => ?_)
          clear hK K
          refine norm_ (a' := ?_) ?_ ?_
          rotate_left
          · show Act.put _ (some 39) _ = _
            simp only [Act.put, List.setIfInBounds_toArray, List.set_cons_zero, List.set_cons_succ, i64_w, i32_w]
            rfl
          refine pure_ (i := 17) (N := some 40) (v := ?_) (a' := ?_) #[true, true, true, true, true, true, true, true, true, true, true, true, true, true, true, true, true, true, false] rfl rfl (any_of HT_.out (by kernel_rfl)) (fun _ _ _ h => h) (Or.inl ⟨by rfl, ?_⟩) ?_ ?_
          rotate_left
          · intro w'
            go_simp
            with_reducible rfl
          rotate_left
          · simp only [Act.put, List.setIfInBounds_toArray, List.set_cons_zero, List.set_cons_succ, i64_w, i32_w]
            rfl
          refine pure_ (i := 18) (N := some 4) (v := ?_) (a' := ?_) #[true, true, true, true, true, true, true, true, true, true, true, true, true, true, true, true, true, true, true] rfl rfl (any_of HT_.out (by kernel_rfl)) (fun _ _ _ h => h) (Or.inl ⟨by rfl, ?_⟩) ?_ ?_
          rotate_left
          · intro w'
            go_simp
            with_reducible rfl
          rotate_left
          · simp only [Act.put, List.setIfInBounds_toArray, List.set_cons_zero, List.set_cons_succ, i64_w, i32_w]
            rfl
          refine done_ (done_of HT_.out (by kernel_rfl)) ?_
          try go_wp2
          go_ret
          exact ⟨by first | rfl | (simp [errW_none, errW_some] <;> rfl) | (simp [*, errW_none, errW_some] <;> rfl), by repeat (first | (with_reducible first | exact HB.out | apply below_alloc | apply pw_below_drewN | apply below_drew1 | refine below_set ?_ GE443.out | refine below_set ?_ GE454.out | refine below_set ?_ GE463.out) | exact HB.out)⟩
        · rw [if_neg c17] at H
          have c17b0 : (t453 == t462) = false := beq_eq_false_iff_ne.mpr c17
          have c17b1 : (t453 != t462) = true := bne_iff_ne.mpr c17
          obtain rfl := Option.some.inj H
          go_enter Try.func5, Try.ntmps5
          try go_wp2_with (first | ((with_reducible refine gate_dst (N := 2) rfl ?_); refine box_event ?hg (N := 2) ?hd (cs := #[.slice A0_0 l0_0.length c0_0, .slice A0_1 l0_1.length c0_1, .int .i64 a0_2]) (t := 29) ?hr ?_; (case hd => rfl); (case hg => rfl); (case hr => first | (go_simp; done) | (go_simp; rfl)); intro gb443 hg w41 hbox hb; have n0_ := Aside0.mk (below_step (by repeat (first | (with_reducible first | exact HB.out | apply below_alloc | apply pw_below_drewN | apply below_drew1) | exact HB.out)) hb); have n1_ := Aside0.mk (hbox); have n2_ := Aside0.mk ((by rw [hg]; exact (below_size (by repeat (first | (with_reducible first | exact HB.out | apply below_alloc | apply pw_below_drewN | apply below_drew1) | exact HB.out))) : w.heap.size ≤ gb443)); have n3_ := Aside0.mk ((by rw [hg]; exact (below_size (by repeat (first | (with_reducible first | exact HB.out | apply below_alloc | apply pw_below_drewN | apply below_drew1) | exact HB.out))) : w.heap.size ≤ gb443)); clear HB; have HB := n0_; have BK443 := n1_; have GW443 := n2_; have GE443 := n3_; clear n0_ n1_ n2_ n3_; clear hb hbox hg; have hcz42_0 : w41.cell? ⟨gb443, 0, none⟩ = some (.slice A0_0 l0_0.length c0_0) := (blk_cell BK443.out 0).trans rfl; have hcz42_1 : w41.cell? ⟨gb443, 1, none⟩ = some (.slice A0_1 l0_1.length c0_1) := (blk_cell BK443.out 1).trans rfl; have hcz42_2 : w41.cell? ⟨gb443, 2, none⟩ = some (.int .i64 a0_2) := (blk_cell BK443.out 2).trans rfl; have hfz42_0 := blk_frozen BK443.out 0; have hfz42_1 := blk_frozen BK443.out 1; have hfz42_2 := blk_frozen BK443.out 2) | ((with_reducible refine gate_callee (f := 30) rfl ?_); refine goesL_ (some 10) rfl rfl Try.func30 (by kernel_rfl) rfl #[.agg #[.slice A0_0 l0_0.length c0_0, .slice A0_1 l0_1.length c0_1, .int .i64 a0_2]] rfl (by (try simp only [List.map_toArray, List.map_cons, List.map_nil]); first | done | rfl | (simp only [List.length_drop, List.length_take]; rfl)) ?_; (with_reducible refine (hibernaclelaw15_Great.calls k _ _ l0_0 _ _ l0_1 a0_2 t444 _ ?side1 ?side2 ?side3 ?side4 A3.out).mono ?_); (case side1 => repeat (first | exact (Kd.C_below HR0_0.out HB.out) | (with_reducible refine Kd.C_alloc ?_ _) | (with_reducible refine Kd.C_drewN ?_ _) | (with_reducible refine Kd.C_drew ?_))); (case side2 => exact HC0_0.out); (case side3 => repeat (first | exact (Kd.C_below HR0_1.out HB.out) | (with_reducible refine Kd.C_alloc ?_ _) | (with_reducible refine Kd.C_drewN ?_ _) | (with_reducible refine Kd.C_drew ?_))); (case side4 => exact HC0_1.out); rintro e w43 ⟨rfl, hb⟩; refine ⟨_, rfl, ?_⟩; have n0_ := Aside0.mk (blk_below (g := gb443) (o := .cells #[.slice A0_0 l0_0.length c0_0, .slice A0_1 l0_1.length c0_1, .int .i64 a0_2] 29 (0, 0)) (by (with_reducible repeat (first | refine blk_drewN ?_ _ | refine blk_drew ?_ | refine blk_alloc ?_ _)); exact BK443.out) hb); have n1_ := Aside0.mk (below_step (by repeat (first | (with_reducible first | exact HB.out | apply below_alloc | apply pw_below_drewN | apply below_drew1 | refine below_set ?_ GE443.out) | exact HB.out)) hb); clear BK443; clear HB; have BK443 := n0_; have HB := n1_; clear n0_ n1_; (try clear hb); (try clear hb2); (try clear hk); (try clear hi)) | ((with_reducible refine gate_callee (f := 32) rfl ?_); refine goesL_ (some 15) rfl rfl Try.func32 (by kernel_rfl) rfl #[.int .i64 a1] rfl (by (try simp only [List.map_toArray, List.map_cons, List.map_nil]); first | done | rfl | (simp only [List.length_drop, List.length_take]; rfl)) ?_; (with_reducible refine (drive_New.calls k a1 t446 t449 t452 t453 _ A10.out).mono ?_); rintro e w44 ⟨v447, v450, rfl, ho0, ho1, hb⟩; refine ⟨_, rfl, ?_⟩; have n0_ := Aside0.mk (Kd.R_lower ho0 (below_size (by repeat (first | (with_reducible first | exact HB.out | apply below_alloc | apply pw_below_drewN | apply below_drew1 | refine below_set ?_ GE443.out) | exact HB.out)))); have n1_ := Aside0.mk (Kd.R_lower ho1 (below_size (by repeat (first | (with_reducible first | exact HB.out | apply below_alloc | apply pw_below_drewN | apply below_drew1 | refine below_set ?_ GE443.out) | exact HB.out)))); have n2_ := Aside0.mk (blk_below (g := gb443) (o := .cells #[.slice A0_0 l0_0.length c0_0, .slice A0_1 l0_1.length c0_1, .int .i64 a0_2] 29 (0, 0)) (by (with_reducible repeat (first | refine blk_drewN ?_ _ | refine blk_drew ?_ | refine blk_alloc ?_ _)); exact BK443.out) hb); have n3_ := Aside0.mk (below_step (by repeat (first | (with_reducible first | exact HB.out | apply below_alloc | apply pw_below_drewN | apply below_drew1 | refine below_set ?_ GE443.out) | exact HB.out)) hb); clear BK443; clear HB; have HO448 := n0_; have HO451 := n1_; have BK443 := n2_; have HB := n3_; clear n0_ n1_ n2_ n3_; (try clear hb); (try clear hb2); (try clear hk); (try clear hi); (try clear ho0); (try clear ho1)) | ((with_reducible refine gate_dst (N := 5) rfl ?_); refine box_event ?hg (N := 5) ?hd (cs := #[.slice none 0 0, .slice none 0 0, .int .i64 0]) (t := 29) ?hr ?_; (case hd => rfl); (case hg => rfl); (case hr => first | (go_simp; done) | (go_simp; rfl)); intro gb454 hg w45 hbox hb; have n0_ := Aside0.mk (Kd.R_below (by (with_reducible repeat (first | apply Kd.R_alloc | apply Kd.R_drewN | apply Kd.R_drew)); exact HO448.out) hb); have n1_ := Aside0.mk (Kd.R_below (by (with_reducible repeat (first | apply Kd.R_alloc | apply Kd.R_drewN | apply Kd.R_drew)); exact HO451.out) hb); have n2_ := Aside0.mk (blk_below (g := gb443) (o := .cells #[.slice A0_0 l0_0.length c0_0, .slice A0_1 l0_1.length c0_1, .int .i64 a0_2] 29 (0, 0)) (by (with_reducible repeat (first | refine blk_drewN ?_ _ | refine blk_drew ?_ | refine blk_alloc ?_ _)); exact BK443.out) hb); have n3_ := Aside0.mk (below_step (by repeat (first | (with_reducible first | exact HB.out | apply below_alloc | apply pw_below_drewN | apply below_drew1 | refine below_set ?_ GE443.out) | exact HB.out)) hb); have n4_ := Aside0.mk (hbox); have n5_ := Aside0.mk ((by rw [hg]; exact (below_size (by repeat (first | (with_reducible first | exact HB.out | apply below_alloc | apply pw_below_drewN | apply below_drew1 | refine below_set ?_ GE443.out) | exact HB.out))) : w.heap.size ≤ gb454)); have n6_ := Aside0.mk ((by rw [hg]; exact (below_size (by repeat (first | (with_reducible first | exact HB.out | apply below_alloc | apply pw_below_drewN | apply below_drew1 | refine below_set ?_ GE443.out) | exact HB.out))) : w.heap.size ≤ gb454)); have n7_ := Aside0.mk ((by rw [hg]; exact Nat.ne_of_lt (blk_lt (g := gb443) (o := .cells #[.slice A0_0 l0_0.length c0_0, .slice A0_1 l0_1.length c0_1, .int .i64 a0_2] 29 (0, 0)) (by (with_reducible repeat (first | refine blk_drewN ?_ _ | refine blk_drew ?_ | refine blk_alloc ?_ _)); exact BK443.out)) : gb443 ≠ gb454)); have n8_ := Aside0.mk ((by rw [hg]; exact Nat.ne_of_gt (blk_lt (g := gb443) (o := .cells #[.slice A0_0 l0_0.length c0_0, .slice A0_1 l0_1.length c0_1, .int .i64 a0_2] 29 (0, 0)) (by (with_reducible repeat (first | refine blk_drewN ?_ _ | refine blk_drew ?_ | refine blk_alloc ?_ _)); exact BK443.out)) : gb454 ≠ gb443)); clear HO448; clear HO451; clear BK443; clear HB; have HO448 := n0_; have HO451 := n1_; have BK443 := n2_; have HB := n3_; have BK454 := n4_; have GW454 := n5_; have GE454 := n6_; have NB443_454 := n7_; have NB454_443 := n8_; clear n0_ n1_ n2_ n3_ n4_ n5_ n6_ n7_ n8_; clear hb hbox hg; obtain ⟨Ao46, co46, eo46⟩ := Kd.R_slice HO448.out; subst eo46; have hnb47 := NB454_443.out; have hnc47 := NB443_454.out; have hcz48_0 : w45.cell? ⟨gb454, 0, none⟩ = some (.slice none 0 0) := (blk_cell BK454.out 0).trans rfl; have hcz48_1 : w45.cell? ⟨gb454, 1, none⟩ = some (.slice none 0 0) := (blk_cell BK454.out 1).trans rfl; have hcz48_2 : w45.cell? ⟨gb454, 2, none⟩ = some (.int .i64 0) := (blk_cell BK454.out 2).trans rfl; have hfz48_0 := blk_frozen BK454.out 0; have hfz48_1 := blk_frozen BK454.out 1; have hfz48_2 := blk_frozen BK454.out 2; obtain ⟨Ao49, co49, eo49⟩ := Kd.R_slice HO451.out; subst eo49) | ((with_reducible refine gate_callee (f := 33) rfl ?_); refine goesL_ (some 20) rfl rfl Try.func33 (by kernel_rfl) rfl #[.int .i64 a1] rfl (by (try simp only [List.map_toArray, List.map_cons, List.map_nil]); first | done | rfl | (simp only [List.length_drop, List.length_take]; rfl)) ?_; (with_reducible refine (hibernacleref15_New.calls k a1 t455 t458 t461 t462 _ A11.out).mono ?_); rintro e w50 ⟨v456, v459, rfl, ho0, ho1, hb⟩; refine ⟨_, rfl, ?_⟩; have n0_ := Aside0.mk (Kd.R_elder' (by (with_reducible repeat (first | apply Kd.R_alloc | apply Kd.R_drewN | apply Kd.R_drew)); exact (Kd.R_mono (Kd.R_far (p := ⟨gb454, 2, none⟩) (Kd.R_far (p := ⟨gb454, 1, none⟩) (Kd.R_far (p := ⟨gb454, 0, none⟩) (Kd.R_types HO448.out BK454.out (by decide)) (fun _ hk => hk.2) (.slice Ao46 t446.length co46)) (fun _ hk => hk.2) (.slice Ao49 t449.length co49)) (fun _ hk => hk.2) (.int .i64 t452)) (fun _ h_ => h_.1))) (Kd.R_base ho0) hb); have n1_ := Aside0.mk (Kd.R_elder' (by (with_reducible repeat (first | apply Kd.R_alloc | apply Kd.R_drewN | apply Kd.R_drew)); exact (Kd.R_mono (Kd.R_far (p := ⟨gb454, 2, none⟩) (Kd.R_far (p := ⟨gb454, 1, none⟩) (Kd.R_far (p := ⟨gb454, 0, none⟩) (Kd.R_types HO451.out BK454.out (by decide)) (fun _ hk => hk.2) (.slice Ao46 t446.length co46)) (fun _ hk => hk.2) (.slice Ao49 t449.length co49)) (fun _ hk => hk.2) (.int .i64 t452)) (fun _ h_ => h_.1))) (Kd.R_base ho1) hb); have n2_ := Aside0.mk (Kd.R_lower (Kd.R_new' ho0 (Kd.R_lt (by (with_reducible repeat (first | apply Kd.R_alloc | apply Kd.R_drewN | apply Kd.R_drew)); exact (Kd.R_mono (Kd.R_far (p := ⟨gb454, 2, none⟩) (Kd.R_far (p := ⟨gb454, 1, none⟩) (Kd.R_far (p := ⟨gb454, 0, none⟩) (Kd.R_types HO448.out BK454.out (by decide)) (fun _ hk => hk.2) (.slice Ao46 t446.length co46)) (fun _ hk => hk.2) (.slice Ao49 t449.length co49)) (fun _ hk => hk.2) (.int .i64 t452)) (fun _ h_ => h_.1))))) (below_size (by repeat (first | (with_reducible first | exact HB.out | apply below_alloc | apply pw_below_drewN | apply below_drew1 | refine below_set ?_ GE443.out | refine below_set ?_ GE454.out) | exact HB.out)))); have n3_ := Aside0.mk (Kd.R_lower (Kd.R_new' ho1 (Kd.R_lt (by (with_reducible repeat (first | apply Kd.R_alloc | apply Kd.R_drewN | apply Kd.R_drew)); exact (Kd.R_mono (Kd.R_far (p := ⟨gb454, 2, none⟩) (Kd.R_far (p := ⟨gb454, 1, none⟩) (Kd.R_far (p := ⟨gb454, 0, none⟩) (Kd.R_types HO451.out BK454.out (by decide)) (fun _ hk => hk.2) (.slice Ao46 t446.length co46)) (fun _ hk => hk.2) (.slice Ao49 t449.length co49)) (fun _ hk => hk.2) (.int .i64 t452)) (fun _ h_ => h_.1))))) (below_size (by repeat (first | (with_reducible first | exact HB.out | apply below_alloc | apply pw_below_drewN | apply below_drew1 | refine below_set ?_ GE443.out | refine below_set ?_ GE454.out) | exact HB.out)))); have n4_ := Aside0.mk (blk_below (g := gb443) (o := .cells #[.slice A0_0 l0_0.length c0_0, .slice A0_1 l0_1.length c0_1, .int .i64 a0_2] 29 (0, 0)) (by (with_reducible repeat (first | refine blk_drewN ?_ _ | refine blk_drew ?_ | refine blk_alloc ?_ _)); refine blk_far ?_ NB443_454.out _; (with_reducible repeat (first | refine blk_drewN ?_ _ | refine blk_drew ?_ | refine blk_alloc ?_ _)); refine blk_far ?_ NB443_454.out _; (with_reducible repeat (first | refine blk_drewN ?_ _ | refine blk_drew ?_ | refine blk_alloc ?_ _)); refine blk_far ?_ NB443_454.out _; (with_reducible repeat (first | refine blk_drewN ?_ _ | refine blk_drew ?_ | refine blk_alloc ?_ _)); exact BK443.out) hb); have n5_ := Aside0.mk (blk_below (g := gb454) (o := .cells #[.slice Ao46 t446.length co46, .slice Ao49 t449.length co49, .int .i64 t452] 29 (0, 0)) (by (with_reducible repeat (first | refine blk_drewN ?_ _ | refine blk_drew ?_ | refine blk_alloc ?_ _)); refine blk_put (cs := #[.slice Ao46 t446.length co46, .slice Ao49 t449.length co49, .int .i64 0]) ?_ 2 _ rfl; (with_reducible repeat (first | refine blk_drewN ?_ _ | refine blk_drew ?_ | refine blk_alloc ?_ _)); refine blk_put (cs := #[.slice Ao46 t446.length co46, .slice none 0 0, .int .i64 0]) ?_ 1 _ rfl; (with_reducible repeat (first | refine blk_drewN ?_ _ | refine blk_drew ?_ | refine blk_alloc ?_ _)); refine blk_put (cs := #[.slice none 0 0, .slice none 0 0, .int .i64 0]) ?_ 0 _ rfl; (with_reducible repeat (first | refine blk_drewN ?_ _ | refine blk_drew ?_ | refine blk_alloc ?_ _)); exact BK454.out) hb); have n6_ := Aside0.mk (below_step (by repeat (first | (with_reducible first | exact HB.out | apply below_alloc | apply pw_below_drewN | apply below_drew1 | refine below_set ?_ GE443.out | refine below_set ?_ GE454.out) | exact HB.out)) hb); clear HO448; clear HO451; clear BK443; clear BK454; clear HB; have HO448 := n0_; have HO451 := n1_; have HO457 := n2_; have HO460 := n3_; have BK443 := n4_; have BK454 := n5_; have HB := n6_; clear n0_ n1_ n2_ n3_ n4_ n5_ n6_; (try clear hb); (try clear hb2); (try clear hk); (try clear hi); (try clear ho0); (try clear ho1)) | ((with_reducible refine gate_dst (N := 7) rfl ?_); refine box_event ?hg (N := 7) ?hd (cs := #[.slice none 0 0, .slice none 0 0, .int .i64 0]) (t := 29) ?hr ?_; (case hd => rfl); (case hg => rfl); (case hr => first | (go_simp; done) | (go_simp; rfl)); intro gb463 hg w51 hbox hb; have n0_ := Aside0.mk (Kd.R_below (by (with_reducible repeat (first | apply Kd.R_alloc | apply Kd.R_drewN | apply Kd.R_drew)); exact HO448.out) hb); have n1_ := Aside0.mk (Kd.R_below (by (with_reducible repeat (first | apply Kd.R_alloc | apply Kd.R_drewN | apply Kd.R_drew)); exact HO451.out) hb); have n2_ := Aside0.mk (Kd.R_below (by (with_reducible repeat (first | apply Kd.R_alloc | apply Kd.R_drewN | apply Kd.R_drew)); exact HO457.out) hb); have n3_ := Aside0.mk (Kd.R_below (by (with_reducible repeat (first | apply Kd.R_alloc | apply Kd.R_drewN | apply Kd.R_drew)); exact HO460.out) hb); have n4_ := Aside0.mk (blk_below (g := gb443) (o := .cells #[.slice A0_0 l0_0.length c0_0, .slice A0_1 l0_1.length c0_1, .int .i64 a0_2] 29 (0, 0)) (by (with_reducible repeat (first | refine blk_drewN ?_ _ | refine blk_drew ?_ | refine blk_alloc ?_ _)); exact BK443.out) hb); have n5_ := Aside0.mk (blk_below (g := gb454) (o := .cells #[.slice Ao46 t446.length co46, .slice Ao49 t449.length co49, .int .i64 t452] 29 (0, 0)) (by (with_reducible repeat (first | refine blk_drewN ?_ _ | refine blk_drew ?_ | refine blk_alloc ?_ _)); exact BK454.out) hb); have n6_ := Aside0.mk (below_step (by repeat (first | (with_reducible first | exact HB.out | apply below_alloc | apply pw_below_drewN | apply below_drew1 | refine below_set ?_ GE443.out | refine below_set ?_ GE454.out) | exact HB.out)) hb); have n7_ := Aside0.mk (hbox); have n8_ := Aside0.mk ((by rw [hg]; exact (below_size (by repeat (first | (with_reducible first | exact HB.out | apply below_alloc | apply pw_below_drewN | apply below_drew1 | refine below_set ?_ GE443.out | refine below_set ?_ GE454.out) | exact HB.out))) : w.heap.size ≤ gb463)); have n9_ := Aside0.mk ((by rw [hg]; exact (below_size (by repeat (first | (with_reducible first | exact HB.out | apply below_alloc | apply pw_below_drewN | apply below_drew1 | refine below_set ?_ GE443.out | refine below_set ?_ GE454.out) | exact HB.out))) : w.heap.size ≤ gb463)); have n10_ := Aside0.mk ((by rw [hg]; exact Nat.ne_of_lt (blk_lt (g := gb443) (o := .cells #[.slice A0_0 l0_0.length c0_0, .slice A0_1 l0_1.length c0_1, .int .i64 a0_2] 29 (0, 0)) (by (with_reducible repeat (first | refine blk_drewN ?_ _ | refine blk_drew ?_ | refine blk_alloc ?_ _)); exact BK443.out)) : gb443 ≠ gb463)); have n11_ := Aside0.mk ((by rw [hg]; exact Nat.ne_of_gt (blk_lt (g := gb443) (o := .cells #[.slice A0_0 l0_0.length c0_0, .slice A0_1 l0_1.length c0_1, .int .i64 a0_2] 29 (0, 0)) (by (with_reducible repeat (first | refine blk_drewN ?_ _ | refine blk_drew ?_ | refine blk_alloc ?_ _)); exact BK443.out)) : gb463 ≠ gb443)); have n12_ := Aside0.mk ((by rw [hg]; exact Nat.ne_of_lt (blk_lt (g := gb454) (o := .cells #[.slice Ao46 t446.length co46, .slice Ao49 t449.length co49, .int .i64 t452] 29 (0, 0)) (by (with_reducible repeat (first | refine blk_drewN ?_ _ | refine blk_drew ?_ | refine blk_alloc ?_ _)); exact BK454.out)) : gb454 ≠ gb463)); have n13_ := Aside0.mk ((by rw [hg]; exact Nat.ne_of_gt (blk_lt (g := gb454) (o := .cells #[.slice Ao46 t446.length co46, .slice Ao49 t449.length co49, .int .i64 t452] 29 (0, 0)) (by (with_reducible repeat (first | refine blk_drewN ?_ _ | refine blk_drew ?_ | refine blk_alloc ?_ _)); exact BK454.out)) : gb463 ≠ gb454)); clear HO448; clear HO451; clear HO457; clear HO460; clear BK443; clear BK454; clear HB; have HO448 := n0_; have HO451 := n1_; have HO457 := n2_; have HO460 := n3_; have BK443 := n4_; have BK454 := n5_; have HB := n6_; have BK463 := n7_; have GW463 := n8_; have GE463 := n9_; have NB443_463 := n10_; have NB463_443 := n11_; have NB454_463 := n12_; have NB463_454 := n13_; clear n0_ n1_ n2_ n3_ n4_ n5_ n6_ n7_ n8_ n9_ n10_ n11_ n12_ n13_; clear hb hbox hg; obtain ⟨Ao52, co52, eo52⟩ := Kd.R_slice HO457.out; subst eo52; have hnb53 := NB463_443.out; have hnc53 := NB443_463.out; have hnb54 := NB463_454.out; have hnc54 := NB454_463.out; have hcz55_0 : w51.cell? ⟨gb463, 0, none⟩ = some (.slice none 0 0) := (blk_cell BK463.out 0).trans rfl; have hcz55_1 : w51.cell? ⟨gb463, 1, none⟩ = some (.slice none 0 0) := (blk_cell BK463.out 1).trans rfl; have hcz55_2 : w51.cell? ⟨gb463, 2, none⟩ = some (.int .i64 0) := (blk_cell BK463.out 2).trans rfl; have hfz55_0 := blk_frozen BK463.out 0; have hfz55_1 := blk_frozen BK463.out 1; have hfz55_2 := blk_frozen BK463.out 2; obtain ⟨Ao56, co56, eo56⟩ := Kd.R_slice HO460.out; subst eo56))
          have n0_ : Aside0 (Kd.R Kd.string 9 (((w51.setCell ⟨gb463, 0, none⟩ (.slice Ao52 t455.length co52)).setCell ⟨gb463, 1, none⟩ (.slice Ao56 t458.length co56)).setCell ⟨gb463, 2, none⟩ (.int .i64 t461)) w.heap.size (fun k_ => some k_ ≠ (.slice Ao52 t455.length co52 : Value).ownBlock) (.slice Ao46 t446.length co46) t446) := ⟨by (with_reducible repeat (first | apply Kd.R_alloc | apply Kd.R_drewN | apply Kd.R_drew)); exact Kd.R_mono (Kd.R_far (p := ⟨gb463, 2, none⟩) (Kd.R_far (p := ⟨gb463, 1, none⟩) (Kd.R_far (p := ⟨gb463, 0, none⟩) (Kd.R_types HO448.out BK463.out (by decide)) (fun _ hk => hk.2) (.slice Ao52 t455.length co52)) (fun _ hk => hk.2) (.slice Ao56 t458.length co56)) (fun _ hk => hk.2) (.int .i64 t461)) (fun _ hk => hk.1.2)⟩
          have n1_ : Aside0 (Kd.R k27 27 (((w51.setCell ⟨gb463, 0, none⟩ (.slice Ao52 t455.length co52)).setCell ⟨gb463, 1, none⟩ (.slice Ao56 t458.length co56)).setCell ⟨gb463, 2, none⟩ (.int .i64 t461)) w.heap.size (fun k_ => some k_ ≠ (.slice Ao56 t458.length co56 : Value).ownBlock) (.slice Ao49 t449.length co49) t449) := ⟨by (with_reducible repeat (first | apply Kd.R_alloc | apply Kd.R_drewN | apply Kd.R_drew)); exact Kd.R_mono (Kd.R_far (p := ⟨gb463, 2, none⟩) (Kd.R_far (p := ⟨gb463, 1, none⟩) (Kd.R_far (p := ⟨gb463, 0, none⟩) (Kd.R_types HO451.out BK463.out (by decide)) (fun _ hk => hk.2) (.slice Ao52 t455.length co52)) (fun _ hk => hk.2) (.slice Ao56 t458.length co56)) (fun _ hk => hk.2) (.int .i64 t461)) (fun _ hk => hk.1.2)⟩
          have n2_ : Aside0 (Kd.R Kd.string 9 (((w51.setCell ⟨gb463, 0, none⟩ (.slice Ao52 t455.length co52)).setCell ⟨gb463, 1, none⟩ (.slice Ao56 t458.length co56)).setCell ⟨gb463, 2, none⟩ (.int .i64 t461)) w.heap.size (fun k_ => some k_ ≠ (.slice Ao46 t446.length co46 : Value).ownBlock) (.slice Ao52 t455.length co52) t455) := ⟨by (with_reducible repeat (first | apply Kd.R_alloc | apply Kd.R_drewN | apply Kd.R_drew)); exact Kd.R_mono (Kd.R_far (p := ⟨gb463, 2, none⟩) (Kd.R_far (p := ⟨gb463, 1, none⟩) (Kd.R_far (p := ⟨gb463, 0, none⟩) (Kd.R_types HO457.out BK463.out (by decide)) (fun _ hk => hk.2) (.slice Ao52 t455.length co52)) (fun _ hk => hk.2) (.slice Ao56 t458.length co56)) (fun _ hk => hk.2) (.int .i64 t461)) (fun _ hk => hk.1.2)⟩
          have n3_ : Aside0 (Kd.R k27 27 (((w51.setCell ⟨gb463, 0, none⟩ (.slice Ao52 t455.length co52)).setCell ⟨gb463, 1, none⟩ (.slice Ao56 t458.length co56)).setCell ⟨gb463, 2, none⟩ (.int .i64 t461)) w.heap.size (fun k_ => some k_ ≠ (.slice Ao49 t449.length co49 : Value).ownBlock) (.slice Ao56 t458.length co56) t458) := ⟨by (with_reducible repeat (first | apply Kd.R_alloc | apply Kd.R_drewN | apply Kd.R_drew)); exact Kd.R_mono (Kd.R_far (p := ⟨gb463, 2, none⟩) (Kd.R_far (p := ⟨gb463, 1, none⟩) (Kd.R_far (p := ⟨gb463, 0, none⟩) (Kd.R_types HO460.out BK463.out (by decide)) (fun _ hk => hk.2) (.slice Ao52 t455.length co52)) (fun _ hk => hk.2) (.slice Ao56 t458.length co56)) (fun _ hk => hk.2) (.int .i64 t461)) (fun _ hk => hk.1.2)⟩
          have n4_ : Aside0 ((((w51.setCell ⟨gb463, 0, none⟩ (.slice Ao52 t455.length co52)).setCell ⟨gb463, 1, none⟩ (.slice Ao56 t458.length co56)).setCell ⟨gb463, 2, none⟩ (.int .i64 t461)).heap[gb443]? = some (.cells #[.slice A0_0 l0_0.length c0_0, .slice A0_1 l0_1.length c0_1, .int .i64 a0_2] 29 (0, 0))) := ⟨by (with_reducible repeat (first | refine blk_drewN ?_ _ | refine blk_drew ?_ | refine blk_alloc ?_ _)); refine blk_far ?_ NB443_463.out _; (with_reducible repeat (first | refine blk_drewN ?_ _ | refine blk_drew ?_ | refine blk_alloc ?_ _)); refine blk_far ?_ NB443_463.out _; (with_reducible repeat (first | refine blk_drewN ?_ _ | refine blk_drew ?_ | refine blk_alloc ?_ _)); refine blk_far ?_ NB443_463.out _; (with_reducible repeat (first | refine blk_drewN ?_ _ | refine blk_drew ?_ | refine blk_alloc ?_ _)); exact BK443.out⟩
          have n5_ : Aside0 ((((w51.setCell ⟨gb463, 0, none⟩ (.slice Ao52 t455.length co52)).setCell ⟨gb463, 1, none⟩ (.slice Ao56 t458.length co56)).setCell ⟨gb463, 2, none⟩ (.int .i64 t461)).heap[gb454]? = some (.cells #[.slice Ao46 t446.length co46, .slice Ao49 t449.length co49, .int .i64 t452] 29 (0, 0))) := ⟨by (with_reducible repeat (first | refine blk_drewN ?_ _ | refine blk_drew ?_ | refine blk_alloc ?_ _)); refine blk_far ?_ NB454_463.out _; (with_reducible repeat (first | refine blk_drewN ?_ _ | refine blk_drew ?_ | refine blk_alloc ?_ _)); refine blk_far ?_ NB454_463.out _; (with_reducible repeat (first | refine blk_drewN ?_ _ | refine blk_drew ?_ | refine blk_alloc ?_ _)); refine blk_far ?_ NB454_463.out _; (with_reducible repeat (first | refine blk_drewN ?_ _ | refine blk_drew ?_ | refine blk_alloc ?_ _)); exact BK454.out⟩
          have n6_ : Aside0 ((((w51.setCell ⟨gb463, 0, none⟩ (.slice Ao52 t455.length co52)).setCell ⟨gb463, 1, none⟩ (.slice Ao56 t458.length co56)).setCell ⟨gb463, 2, none⟩ (.int .i64 t461)).heap[gb463]? = some (.cells #[.slice Ao52 t455.length co52, .slice Ao56 t458.length co56, .int .i64 t461] 29 (0, 0))) := ⟨by (with_reducible repeat (first | refine blk_drewN ?_ _ | refine blk_drew ?_ | refine blk_alloc ?_ _)); refine blk_put (cs := #[.slice Ao52 t455.length co52, .slice Ao56 t458.length co56, .int .i64 0]) ?_ 2 _ rfl; (with_reducible repeat (first | refine blk_drewN ?_ _ | refine blk_drew ?_ | refine blk_alloc ?_ _)); refine blk_put (cs := #[.slice Ao52 t455.length co52, .slice none 0 0, .int .i64 0]) ?_ 1 _ rfl; (with_reducible repeat (first | refine blk_drewN ?_ _ | refine blk_drew ?_ | refine blk_alloc ?_ _)); refine blk_put (cs := #[.slice none 0 0, .slice none 0 0, .int .i64 0]) ?_ 0 _ rfl; (with_reducible repeat (first | refine blk_drewN ?_ _ | refine blk_drew ?_ | refine blk_alloc ?_ _)); exact BK463.out⟩
          have n7_ : Aside0 (Below w.heap.size w (((w51.setCell ⟨gb463, 0, none⟩ (.slice Ao52 t455.length co52)).setCell ⟨gb463, 1, none⟩ (.slice Ao56 t458.length co56)).setCell ⟨gb463, 2, none⟩ (.int .i64 t461))) := ⟨by repeat (first | (with_reducible first | exact HB.out | apply below_alloc | apply pw_below_drewN | apply below_drew1 | refine below_set ?_ GE443.out | refine below_set ?_ GE454.out | refine below_set ?_ GE463.out) | exact HB.out)⟩
          (try clear HO448)
          (try clear HO451)
          (try clear HO457)
          (try clear HO460)
          (try clear BK443)
          (try clear BK454)
          (try clear BK463)
          (try clear HB)
          generalize (((w51.setCell ⟨gb463, 0, none⟩ (.slice Ao52 t455.length co52)).setCell ⟨gb463, 1, none⟩ (.slice Ao56 t458.length co56)).setCell ⟨gb463, 2, none⟩ (.int .i64 t461)) = w57 at n0_ n1_ n2_ n3_ n4_ n5_ n6_ n7_ ⊢
          have HO448 := n0_
          have HO451 := n1_
          have HO457 := n2_
          have HO460 := n3_
          have BK443 := n4_
          have BK454 := n5_
          have BK463 := n6_
          have HB := n7_
          clear n0_ n1_ n2_ n3_ n4_ n5_ n6_ n7_
          have n0_ := Aside0.mk (Kd.R_drew HO448.out)
          have n1_ := Aside0.mk (Kd.R_drew HO451.out)
          have n2_ := Aside0.mk (Kd.R_drew HO457.out)
          have n3_ := Aside0.mk (Kd.R_drew HO460.out)
          have n4_ := Aside0.mk (blk_drew BK443.out)
          have n5_ := Aside0.mk (blk_drew BK454.out)
          have n6_ := Aside0.mk (blk_drew BK463.out)
          have n7_ := Aside0.mk (below_drew1 HB.out)
          clear HO448
          clear HO451
          clear HO457
          clear HO460
          clear BK443
          clear BK454
          clear BK463
          clear HB
          have HO448 := n0_
          have HO451 := n1_
          have HO457 := n2_
          have HO460 := n3_
          have BK443 := n4_
          have BK454 := n5_
          have BK463 := n6_
          have HB := n7_
          clear n0_ n1_ n2_ n3_ n4_ n5_ n6_ n7_
          refine start_ (n := 19) (S := fun w' => w'.cell? ⟨gb443, 0, none⟩ = some (.slice A0_0 l0_0.length c0_0) ∧ w'.cell? ⟨gb443, 1, none⟩ = some (.slice A0_1 l0_1.length c0_1) ∧ w'.cell? ⟨gb443, 2, none⟩ = some (.int .i64 a0_2)) (ds := []) #[false, false, false, false, false, false, false, false, false, false, false, false, false, false, false, false, false, false, false] (by kernel_rfl) rfl rfl ⟨(blk_cell BK443.out 0).trans rfl, (blk_cell BK443.out 1).trans rfl, (blk_cell BK443.out 2).trans rfl⟩ (fun hHeld => ?_); refine with_tabW hibernaclelaw15_DriveChecks.tab5 hibernaclelaw15_DriveChecks.bits5 (fun HT_ HW_ => ?_)
          generalize w57.drew = w58 at HO448 HO451 HO457 HO460 BK443 BK454 BK463 HB hHeld ⊢
          refine one_ (i := 0) (N := some 23) #[true, false, false, false, false, false, false, false, false, false, false, false, false, false, false, false, false, false, false] rfl rfl (one_of HT_.out (by kernel_rfl)) (by decide) (fun K hK => ?_)
          refine goes_ Try.func31 (by kernel_rfl) rfl #[] (by rfl) rfl rfl (by (try simp only [List.map_toArray, List.map_cons, List.map_nil]); first | done | rfl | (simp only [List.length_drop, List.length_take]; rfl)) ?_
          with_reducible refine (hibernaclelaw15_fixed.calls  true _ A12.out).mono ?_
          rintro e w59 ⟨rfl, hb⟩
          refine ⟨_, rfl, ?_⟩
          have n0_ := Aside0.mk (Kd.R_below (by (with_reducible repeat (first | apply Kd.R_alloc | apply Kd.R_drewN | apply Kd.R_drew)); exact HO448.out) hb)
          have n1_ := Aside0.mk (Kd.R_below (by (with_reducible repeat (first | apply Kd.R_alloc | apply Kd.R_drewN | apply Kd.R_drew)); exact HO451.out) hb)
          have n2_ := Aside0.mk (Kd.R_below (by (with_reducible repeat (first | apply Kd.R_alloc | apply Kd.R_drewN | apply Kd.R_drew)); exact HO457.out) hb)
          have n3_ := Aside0.mk (Kd.R_below (by (with_reducible repeat (first | apply Kd.R_alloc | apply Kd.R_drewN | apply Kd.R_drew)); exact HO460.out) hb)
          have n4_ := Aside0.mk (blk_below (g := gb443) (o := .cells #[.slice A0_0 l0_0.length c0_0, .slice A0_1 l0_1.length c0_1, .int .i64 a0_2] 29 (0, 0)) (by (with_reducible repeat (first | refine blk_drewN ?_ _ | refine blk_drew ?_ | refine blk_alloc ?_ _)); exact BK443.out) hb)
          have n5_ := Aside0.mk (blk_below (g := gb454) (o := .cells #[.slice Ao46 t446.length co46, .slice Ao49 t449.length co49, .int .i64 t452] 29 (0, 0)) (by (with_reducible repeat (first | refine blk_drewN ?_ _ | refine blk_drew ?_ | refine blk_alloc ?_ _)); exact BK454.out) hb)
          have n6_ := Aside0.mk (blk_below (g := gb463) (o := .cells #[.slice Ao52 t455.length co52, .slice Ao56 t458.length co56, .int .i64 t461] 29 (0, 0)) (by (with_reducible repeat (first | refine blk_drewN ?_ _ | refine blk_drew ?_ | refine blk_alloc ?_ _)); exact BK463.out) hb)
          have n7_ := Aside0.mk (below_step (by repeat (first | (with_reducible first | exact HB.out | apply below_alloc | apply pw_below_drewN | apply below_drew1 | refine below_set ?_ GE443.out | refine below_set ?_ GE454.out | refine below_set ?_ GE463.out) | exact HB.out)) hb)
          clear HO448
          clear HO451
          clear HO457
          clear HO460
          clear BK443
          clear BK454
          clear BK463
          clear HB
          have HO448 := n0_
          have HO451 := n1_
          have HO457 := n2_
          have HO460 := n3_
          have BK443 := n4_
          have BK454 := n5_
          have BK463 := n6_
          have HB := n7_
          clear n0_ n1_ n2_ n3_ n4_ n5_ n6_ n7_
          (try clear hb)
          (try clear hb2)
          (try clear hk)
          (try clear hi)
          refine hK.out _ _ ⟨(blk_cell BK443.out 0).trans rfl, (blk_cell BK443.out 1).trans rfl, (blk_cell BK443.out 2).trans rfl⟩ (fun hHeld => ?_)
          clear hK K
          refine norm_ (a' := ?_) ?_ ?_
          rotate_left
          · show Act.put _ (some 23) _ = _
            simp only [Act.put, List.setIfInBounds_toArray, List.set_cons_zero, List.set_cons_succ, i64_w, i32_w]
            rfl
          refine pure_ (i := 1) (N := some 24) (v := ?_) (a' := ?_) #[true, true, false, false, false, false, false, false, false, false, false, false, false, false, false, false, false, false, false] rfl rfl (any_of HT_.out (by kernel_rfl)) (fun _ _ _ h => h) (Or.inl ⟨by rfl, ?_⟩) ?_ ?_
          rotate_left
          · intro w'
            go_simp
            with_reducible rfl
          rotate_left
          · simp only [Act.put, List.setIfInBounds_toArray, List.set_cons_zero, List.set_cons_succ, i64_w, i32_w]
            rfl
          refine take_ (i := 2) (N := some 25) (v := ?_) (a' := ?_) #[true, true, true, false, false, false, false, false, false, false, false, false, false, false, false, false, false, false, false] rfl rfl (take_ofW HT_.out HW_.out (by kernel_rfl)) (fun _ _ _ h => h) (Or.inl ⟨by rfl, ?_⟩) hHeld ?_ ?_
          rotate_left
          · rintro w' ⟨s0, s1, s2⟩
            go_simp
            with_reducible rfl
          rotate_left
          · simp only [Act.put, List.setIfInBounds_toArray, List.set_cons_zero, List.set_cons_succ, i64_w, i32_w]
            rfl
          refine take_ (i := 4) (N := some 27) (v := ?_) (a' := ?_) #[true, true, true, false, true, false, false, false, false, false, false, false, false, false, false, false, false, false, false] rfl rfl (take_ofW HT_.out HW_.out (by kernel_rfl)) (fun _ _ _ h => h) (Or.inl ⟨by rfl, ?_⟩) hHeld ?_ ?_
          rotate_left
          · rintro w' ⟨s0, s1, s2⟩
            go_simp
            with_reducible rfl
          rotate_left
          · simp only [Act.put, List.setIfInBounds_toArray, List.set_cons_zero, List.set_cons_succ, i64_w, i32_w]
            rfl
          refine one_ (i := 3) (N := some 26) #[true, true, true, true, true, false, false, false, false, false, false, false, false, false, false, false, false, false, false] rfl rfl (one_of HT_.out (by kernel_rfl)) (by decide) (fun K hK => ?_)
          refine goes_ Try.func34 (by kernel_rfl) rfl #[.agg #[.slice A0_0 l0_0.length c0_0, .slice A0_1 l0_1.length c0_1, .int .i64 a0_2]] (by rfl) rfl rfl (by (try simp only [List.map_toArray, List.map_cons, List.map_nil]); first | done | rfl | (simp only [List.length_drop, List.length_take]; rfl)) ?_
          with_reducible refine (drive_Check.calls _ _ l0_0 _ _ l0_1 a0_2 t465 _ ?side1 ?side2 ?side3 ?side4 A14.out).mono ?_
          (case side1 => repeat (first | exact (Kd.C_below HR0_0.out HB.out) | (with_reducible refine Kd.C_alloc ?_ _) | (with_reducible refine Kd.C_drewN ?_ _) | (with_reducible refine Kd.C_drew ?_)))
          (case side2 => exact HC0_0.out)
          (case side3 => repeat (first | exact (Kd.C_below HR0_1.out HB.out) | (with_reducible refine Kd.C_alloc ?_ _) | (with_reducible refine Kd.C_drewN ?_ _) | (with_reducible refine Kd.C_drew ?_)))
          (case side4 => exact HC0_1.out)
          rintro e w60 ⟨rfl, hb⟩
          refine ⟨_, rfl, ?_⟩
          have n0_ := Aside0.mk (Kd.R_below (by (with_reducible repeat (first | apply Kd.R_alloc | apply Kd.R_drewN | apply Kd.R_drew)); exact HO448.out) hb)
          have n1_ := Aside0.mk (Kd.R_below (by (with_reducible repeat (first | apply Kd.R_alloc | apply Kd.R_drewN | apply Kd.R_drew)); exact HO451.out) hb)
          have n2_ := Aside0.mk (Kd.R_below (by (with_reducible repeat (first | apply Kd.R_alloc | apply Kd.R_drewN | apply Kd.R_drew)); exact HO457.out) hb)
          have n3_ := Aside0.mk (Kd.R_below (by (with_reducible repeat (first | apply Kd.R_alloc | apply Kd.R_drewN | apply Kd.R_drew)); exact HO460.out) hb)
          have n4_ := Aside0.mk (blk_below (g := gb443) (o := .cells #[.slice A0_0 l0_0.length c0_0, .slice A0_1 l0_1.length c0_1, .int .i64 a0_2] 29 (0, 0)) (by (with_reducible repeat (first | refine blk_drewN ?_ _ | refine blk_drew ?_ | refine blk_alloc ?_ _)); exact BK443.out) hb)
          have n5_ := Aside0.mk (blk_below (g := gb454) (o := .cells #[.slice Ao46 t446.length co46, .slice Ao49 t449.length co49, .int .i64 t452] 29 (0, 0)) (by (with_reducible repeat (first | refine blk_drewN ?_ _ | refine blk_drew ?_ | refine blk_alloc ?_ _)); exact BK454.out) hb)
          have n6_ := Aside0.mk (blk_below (g := gb463) (o := .cells #[.slice Ao52 t455.length co52, .slice Ao56 t458.length co56, .int .i64 t461] 29 (0, 0)) (by (with_reducible repeat (first | refine blk_drewN ?_ _ | refine blk_drew ?_ | refine blk_alloc ?_ _)); exact BK463.out) hb)
          have n7_ := Aside0.mk (below_step (by repeat (first | (with_reducible first | exact HB.out | apply below_alloc | apply pw_below_drewN | apply below_drew1 | refine below_set ?_ GE443.out | refine below_set ?_ GE454.out | refine below_set ?_ GE463.out) | exact HB.out)) hb)
          clear HO448
          clear HO451
          clear HO457
          clear HO460
          clear BK443
          clear BK454
          clear BK463
          clear HB
          have HO448 := n0_
          have HO451 := n1_
          have HO457 := n2_
          have HO460 := n3_
          have BK443 := n4_
          have BK454 := n5_
          have BK463 := n6_
          have HB := n7_
          clear n0_ n1_ n2_ n3_ n4_ n5_ n6_ n7_
          (try clear hb)
          (try clear hb2)
          (try clear hk)
          (try clear hi)
          refine hK.out _ _ ⟨(blk_cell BK443.out 0).trans rfl, (blk_cell BK443.out 1).trans rfl, (blk_cell BK443.out 2).trans rfl⟩ (fun hHeld => ?_)
          clear hK K
          refine norm_ (a' := ?_) ?_ ?_
          rotate_left
          · show Act.put _ (some 26) _ = _
            simp only [Act.put, List.setIfInBounds_toArray, List.set_cons_zero, List.set_cons_succ, i64_w, i32_w]
            rfl
          refine one_ (i := 5) (N := some 28) #[true, true, true, true, true, true, false, false, false, false, false, false, false, false, false, false, false, false, false] rfl rfl (one_of HT_.out (by kernel_rfl)) (by decide) (fun K hK => ?_)
          refine goes_ Try.func35 (by kernel_rfl) rfl #[.agg #[.slice A0_0 l0_0.length c0_0, .slice A0_1 l0_1.length c0_1, .int .i64 a0_2]] (by rfl) rfl rfl (by (try simp only [List.map_toArray, List.map_cons, List.map_nil]); first | done | rfl | (simp only [List.length_drop, List.length_take]; rfl)) ?_
          with_reducible refine (hibernacleref15_Check.calls k _ _ l0_0 _ _ l0_1 a0_2 t466 _ ?side1 ?side2 ?side3 ?side4 A15.out).mono ?_
          (case side1 => repeat (first | exact (Kd.C_below HR0_0.out HB.out) | (with_reducible refine Kd.C_alloc ?_ _) | (with_reducible refine Kd.C_drewN ?_ _) | (with_reducible refine Kd.C_drew ?_)))
          (case side2 => exact HC0_0.out)
          (case side3 => repeat (first | exact (Kd.C_below HR0_1.out HB.out) | (with_reducible refine Kd.C_alloc ?_ _) | (with_reducible refine Kd.C_drewN ?_ _) | (with_reducible refine Kd.C_drew ?_)))
          (case side4 => exact HC0_1.out)
          rintro e w61 ⟨rfl, hb⟩
          refine ⟨_, rfl, ?_⟩
          have n0_ := Aside0.mk (Kd.R_below (by (with_reducible repeat (first | apply Kd.R_alloc | apply Kd.R_drewN | apply Kd.R_drew)); exact HO448.out) hb)
          have n1_ := Aside0.mk (Kd.R_below (by (with_reducible repeat (first | apply Kd.R_alloc | apply Kd.R_drewN | apply Kd.R_drew)); exact HO451.out) hb)
          have n2_ := Aside0.mk (Kd.R_below (by (with_reducible repeat (first | apply Kd.R_alloc | apply Kd.R_drewN | apply Kd.R_drew)); exact HO457.out) hb)
          have n3_ := Aside0.mk (Kd.R_below (by (with_reducible repeat (first | apply Kd.R_alloc | apply Kd.R_drewN | apply Kd.R_drew)); exact HO460.out) hb)
          have n4_ := Aside0.mk (blk_below (g := gb443) (o := .cells #[.slice A0_0 l0_0.length c0_0, .slice A0_1 l0_1.length c0_1, .int .i64 a0_2] 29 (0, 0)) (by (with_reducible repeat (first | refine blk_drewN ?_ _ | refine blk_drew ?_ | refine blk_alloc ?_ _)); exact BK443.out) hb)
          have n5_ := Aside0.mk (blk_below (g := gb454) (o := .cells #[.slice Ao46 t446.length co46, .slice Ao49 t449.length co49, .int .i64 t452] 29 (0, 0)) (by (with_reducible repeat (first | refine blk_drewN ?_ _ | refine blk_drew ?_ | refine blk_alloc ?_ _)); exact BK454.out) hb)
          have n6_ := Aside0.mk (blk_below (g := gb463) (o := .cells #[.slice Ao52 t455.length co52, .slice Ao56 t458.length co56, .int .i64 t461] 29 (0, 0)) (by (with_reducible repeat (first | refine blk_drewN ?_ _ | refine blk_drew ?_ | refine blk_alloc ?_ _)); exact BK463.out) hb)
          have n7_ := Aside0.mk (below_step (by repeat (first | (with_reducible first | exact HB.out | apply below_alloc | apply pw_below_drewN | apply below_drew1 | refine below_set ?_ GE443.out | refine below_set ?_ GE454.out | refine below_set ?_ GE463.out) | exact HB.out)) hb)
          clear HO448
          clear HO451
          clear HO457
          clear HO460
          clear BK443
          clear BK454
          clear BK463
          clear HB
          have HO448 := n0_
          have HO451 := n1_
          have HO457 := n2_
          have HO460 := n3_
          have BK443 := n4_
          have BK454 := n5_
          have BK463 := n6_
          have HB := n7_
          clear n0_ n1_ n2_ n3_ n4_ n5_ n6_ n7_
          (try clear hb)
          (try clear hb2)
          (try clear hk)
          (try clear hi)
          refine hK.out _ _ ⟨(blk_cell BK443.out 0).trans rfl, (blk_cell BK443.out 1).trans rfl, (blk_cell BK443.out 2).trans rfl⟩ (fun hHeld => ?_)
          clear hK K
          refine norm_ (a' := ?_) ?_ ?_
          rotate_left
          · show Act.put _ (some 28) _ = _
            simp only [Act.put, List.setIfInBounds_toArray, List.set_cons_zero, List.set_cons_succ, i64_w, i32_w]
            rfl
          refine pure_ (i := 6) (N := some 29) (v := ?_) (a' := ?_) #[true, true, true, true, true, true, true, false, false, false, false, false, false, false, false, false, false, false, false] rfl rfl (any_of HT_.out (by kernel_rfl)) (fun _ _ _ h => h) (Or.inl ⟨by rfl, ?_⟩) ?_ ?_
          rotate_left
          · intro w'
            go_simp
            with_reducible rfl
          rotate_left
          · simp only [Act.put, List.setIfInBounds_toArray, List.set_cons_zero, List.set_cons_succ, i64_w, i32_w]
            rfl
          refine pure_ (i := 7) (N := some 30) (v := ?_) (a' := ?_) #[true, true, true, true, true, true, true, true, false, false, false, false, false, false, false, false, false, false, false] rfl rfl (any_of HT_.out (by kernel_rfl)) (fun _ _ _ h => h) (Or.inl ⟨by rfl, ?_⟩) ?_ ?_
          rotate_left
          · intro w'
            go_simp
            with_reducible rfl
          rotate_left
          · simp only [Act.put, List.setIfInBounds_toArray, List.set_cons_zero, List.set_cons_succ, i64_w, i32_w]
            rfl
          refine pure_ (i := 8) (N := some 31) (v := ?_) (a' := ?_) #[true, true, true, true, true, true, true, true, true, false, false, false, false, false, false, false, false, false, false] rfl rfl (any_of HT_.out (by kernel_rfl)) (fun _ _ _ h => h) (Or.inl ⟨by rfl, ?_⟩) ?_ ?_
          rotate_left
          · intro w'
            go_simp
            with_reducible rfl
          rotate_left
          · simp only [Act.put, List.setIfInBounds_toArray, List.set_cons_zero, List.set_cons_succ, i64_w, i32_w]
            rfl
          refine pure_ (i := 9) (N := some 32) (v := ?_) (a' := ?_) #[true, true, true, true, true, true, true, true, true, true, false, false, false, false, false, false, false, false, false] rfl rfl (any_of HT_.out (by kernel_rfl)) (fun _ _ _ h => h) (Or.inl ⟨by rfl, ?_⟩) ?_ ?_
          rotate_left
          · intro w'
            go_simp
            with_reducible rfl
          rotate_left
          · simp only [Act.put, List.setIfInBounds_toArray, List.set_cons_zero, List.set_cons_succ, i64_w, i32_w]
            rfl
          refine pure_ (i := 10) (N := some 33) (v := ?_) (a' := ?_) #[true, true, true, true, true, true, true, true, true, true, true, false, false, false, false, false, false, false, false] rfl rfl (any_of HT_.out (by kernel_rfl)) (fun _ _ _ h => h) (Or.inl ⟨by rfl, ?_⟩) ?_ ?_
          rotate_left
          · intro w'
            go_simp
            with_reducible rfl
          rotate_left
          · simp only [Act.put, List.setIfInBounds_toArray, List.set_cons_zero, List.set_cons_succ, i64_w, i32_w]
            rfl
          refine pure_ (i := 11) (N := some 34) (v := ?_) (a' := ?_) #[true, true, true, true, true, true, true, true, true, true, true, true, false, false, false, false, false, false, false] rfl rfl (any_of HT_.out (by kernel_rfl)) (fun _ _ _ h => h) (Or.inl ⟨by rfl, ?_⟩) ?_ ?_
          rotate_left
          · intro w'
            go_simp
            with_reducible rfl
          rotate_left
          · simp only [Act.put, List.setIfInBounds_toArray, List.set_cons_zero, List.set_cons_succ, i64_w, i32_w]
            rfl
          refine pure_ (i := 12) (N := some 35) (v := ?_) (a' := ?_) #[true, true, true, true, true, true, true, true, true, true, true, true, true, false, false, false, false, false, false] rfl rfl (any_of HT_.out (by kernel_rfl)) (fun _ _ _ h => h) (Or.inl ⟨by rfl, ?_⟩) ?_ ?_
          rotate_left
          · intro w'
            go_simp
            with_reducible rfl
          rotate_left
          · simp only [Act.put, List.setIfInBounds_toArray, List.set_cons_zero, List.set_cons_succ, i64_w, i32_w]
            rfl
          refine pure_ (i := 13) (N := some 36) (v := ?_) (a' := ?_) #[true, true, true, true, true, true, true, true, true, true, true, true, true, true, false, false, false, false, false] rfl rfl (any_of HT_.out (by kernel_rfl)) (fun _ _ _ h => h) (Or.inl ⟨by rfl, ?_⟩) ?_ ?_
          rotate_left
          · intro w'
            go_simp
            with_reducible rfl
          rotate_left
          · simp only [Act.put, List.setIfInBounds_toArray, List.set_cons_zero, List.set_cons_succ, i64_w, i32_w]
            rfl
          refine pure_ (i := 14) (N := some 37) (v := undef) (a' := ?_) #[true, true, true, true, true, true, true, true, true, true, true, true, true, true, true, false, false, false, false] rfl rfl (any_of HT_.out (by kernel_rfl)) (fun _ _ _ h => h) (Or.inr ⟨by rfl, rfl⟩) ?_ ?_
          rotate_left
          · simp only [Act.put, List.setIfInBounds_toArray, List.set_cons_zero, List.set_cons_succ, i64_w, i32_w]
            rfl
          refine pure_ (i := 15) (N := some 38) (v := undef) (a' := ?_) #[true, true, true, true, true, true, true, true, true, true, true, true, true, true, true, true, false, false, false] rfl rfl (any_of HT_.out (by kernel_rfl)) (fun _ _ _ h => h) (Or.inr ⟨by rfl, rfl⟩) ?_ ?_
          rotate_left
          · simp only [Act.put, List.setIfInBounds_toArray, List.set_cons_zero, List.set_cons_succ, i64_w, i32_w]
            rfl
          refine pure_ (i := 16) (N := some 39) (v := undef) (a' := ?_) #[true, true, true, true, true, true, true, true, true, true, true, true, true, true, true, true, true, false, false] rfl rfl (any_of HT_.out (by kernel_rfl)) (fun _ _ _ h => h) (Or.inr ⟨by rfl, rfl⟩) ?_ ?_
          rotate_left
          · simp only [Act.put, List.setIfInBounds_toArray, List.set_cons_zero, List.set_cons_succ, i64_w, i32_w]
            rfl
          refine pure_ (i := 17) (N := some 40) (v := ?_) (a' := ?_) #[true, true, true, true, true, true, true, true, true, true, true, true, true, true, true, true, true, true, false] rfl rfl (any_of HT_.out (by kernel_rfl)) (fun _ _ _ h => h) (Or.inl ⟨by rfl, ?_⟩) ?_ ?_
          rotate_left
          · intro w'
            go_simp
            with_reducible rfl
          rotate_left
          · simp only [Act.put, List.setIfInBounds_toArray, List.set_cons_zero, List.set_cons_succ, i64_w, i32_w]
            rfl
          refine pure_ (i := 18) (N := some 4) (v := ?_) (a' := ?_) #[true, true, true, true, true, true, true, true, true, true, true, true, true, true, true, true, true, true, true] rfl rfl (any_of HT_.out (by kernel_rfl)) (fun _ _ _ h => h) (Or.inl ⟨by rfl, ?_⟩) ?_ ?_
          rotate_left
          · intro w'
            go_simp
            with_reducible rfl
          rotate_left
          · simp only [Act.put, List.setIfInBounds_toArray, List.set_cons_zero, List.set_cons_succ, i64_w, i32_w]
            rfl
          refine done_ (done_of HT_.out (by kernel_rfl)) ?_
          try go_wp2
          go_ret
          exact ⟨by first | rfl | (simp [errW_none, errW_some] <;> rfl) | (simp [*, errW_none, errW_some] <;> rfl), by repeat (first | (with_reducible first | exact HB.out | apply below_alloc | apply pw_below_drewN | apply below_drew1 | refine below_set ?_ GE443.out | refine below_set ?_ GE454.out | refine below_set ?_ GE463.out) | exact HB.out)⟩
      · rw [if_neg c16] at H
        have c16b0 : (t465 == t466) = false := beq_eq_false_iff_ne.mpr c16
        have c16b1 : (t465 != t466) = true := bne_iff_ne.mpr c16
        obtain rfl := Option.some.inj H
        go_enter Try.func5, Try.ntmps5
        try go_wp2_with (first | ((with_reducible refine gate_dst (N := 2) rfl ?_); refine box_event ?hg (N := 2) ?hd (cs := #[.slice A0_0 l0_0.length c0_0, .slice A0_1 l0_1.length c0_1, .int .i64 a0_2]) (t := 29) ?hr ?_; (case hd => rfl); (case hg => rfl); (case hr => first | (go_simp; done) | (go_simp; rfl)); intro gb443 hg w62 hbox hb; have n0_ := Aside0.mk (below_step (by repeat (first | (with_reducible first | exact HB.out | apply below_alloc | apply pw_below_drewN | apply below_drew1) | exact HB.out)) hb); have n1_ := Aside0.mk (hbox); have n2_ := Aside0.mk ((by rw [hg]; exact (below_size (by repeat (first | (with_reducible first | exact HB.out | apply below_alloc | apply pw_below_drewN | apply below_drew1) | exact HB.out))) : w.heap.size ≤ gb443)); have n3_ := Aside0.mk ((by rw [hg]; exact (below_size (by repeat (first | (with_reducible first | exact HB.out | apply below_alloc | apply pw_below_drewN | apply below_drew1) | exact HB.out))) : w.heap.size ≤ gb443)); clear HB; have HB := n0_; have BK443 := n1_; have GW443 := n2_; have GE443 := n3_; clear n0_ n1_ n2_ n3_; clear hb hbox hg; have hcz63_0 : w62.cell? ⟨gb443, 0, none⟩ = some (.slice A0_0 l0_0.length c0_0) := (blk_cell BK443.out 0).trans rfl; have hcz63_1 : w62.cell? ⟨gb443, 1, none⟩ = some (.slice A0_1 l0_1.length c0_1) := (blk_cell BK443.out 1).trans rfl; have hcz63_2 : w62.cell? ⟨gb443, 2, none⟩ = some (.int .i64 a0_2) := (blk_cell BK443.out 2).trans rfl; have hfz63_0 := blk_frozen BK443.out 0; have hfz63_1 := blk_frozen BK443.out 1; have hfz63_2 := blk_frozen BK443.out 2) | ((with_reducible refine gate_callee (f := 30) rfl ?_); refine goesL_ (some 10) rfl rfl Try.func30 (by kernel_rfl) rfl #[.agg #[.slice A0_0 l0_0.length c0_0, .slice A0_1 l0_1.length c0_1, .int .i64 a0_2]] rfl (by (try simp only [List.map_toArray, List.map_cons, List.map_nil]); first | done | rfl | (simp only [List.length_drop, List.length_take]; rfl)) ?_; (with_reducible refine (hibernaclelaw15_Great.calls k _ _ l0_0 _ _ l0_1 a0_2 t444 _ ?side1 ?side2 ?side3 ?side4 A3.out).mono ?_); (case side1 => repeat (first | exact (Kd.C_below HR0_0.out HB.out) | (with_reducible refine Kd.C_alloc ?_ _) | (with_reducible refine Kd.C_drewN ?_ _) | (with_reducible refine Kd.C_drew ?_))); (case side2 => exact HC0_0.out); (case side3 => repeat (first | exact (Kd.C_below HR0_1.out HB.out) | (with_reducible refine Kd.C_alloc ?_ _) | (with_reducible refine Kd.C_drewN ?_ _) | (with_reducible refine Kd.C_drew ?_))); (case side4 => exact HC0_1.out); rintro e w64 ⟨rfl, hb⟩; refine ⟨_, rfl, ?_⟩; have n0_ := Aside0.mk (blk_below (g := gb443) (o := .cells #[.slice A0_0 l0_0.length c0_0, .slice A0_1 l0_1.length c0_1, .int .i64 a0_2] 29 (0, 0)) (by (with_reducible repeat (first | refine blk_drewN ?_ _ | refine blk_drew ?_ | refine blk_alloc ?_ _)); exact BK443.out) hb); have n1_ := Aside0.mk (below_step (by repeat (first | (with_reducible first | exact HB.out | apply below_alloc | apply pw_below_drewN | apply below_drew1 | refine below_set ?_ GE443.out) | exact HB.out)) hb); clear BK443; clear HB; have BK443 := n0_; have HB := n1_; clear n0_ n1_; (try clear hb); (try clear hb2); (try clear hk); (try clear hi)) | ((with_reducible refine gate_callee (f := 32) rfl ?_); refine goesL_ (some 15) rfl rfl Try.func32 (by kernel_rfl) rfl #[.int .i64 a1] rfl (by (try simp only [List.map_toArray, List.map_cons, List.map_nil]); first | done | rfl | (simp only [List.length_drop, List.length_take]; rfl)) ?_; (with_reducible refine (drive_New.calls k a1 t446 t449 t452 t453 _ A10.out).mono ?_); rintro e w65 ⟨v447, v450, rfl, ho0, ho1, hb⟩; refine ⟨_, rfl, ?_⟩; have n0_ := Aside0.mk (Kd.R_lower ho0 (below_size (by repeat (first | (with_reducible first | exact HB.out | apply below_alloc | apply pw_below_drewN | apply below_drew1 | refine below_set ?_ GE443.out) | exact HB.out)))); have n1_ := Aside0.mk (Kd.R_lower ho1 (below_size (by repeat (first | (with_reducible first | exact HB.out | apply below_alloc | apply pw_below_drewN | apply below_drew1 | refine below_set ?_ GE443.out) | exact HB.out)))); have n2_ := Aside0.mk (blk_below (g := gb443) (o := .cells #[.slice A0_0 l0_0.length c0_0, .slice A0_1 l0_1.length c0_1, .int .i64 a0_2] 29 (0, 0)) (by (with_reducible repeat (first | refine blk_drewN ?_ _ | refine blk_drew ?_ | refine blk_alloc ?_ _)); exact BK443.out) hb); have n3_ := Aside0.mk (below_step (by repeat (first | (with_reducible first | exact HB.out | apply below_alloc | apply pw_below_drewN | apply below_drew1 | refine below_set ?_ GE443.out) | exact HB.out)) hb); clear BK443; clear HB; have HO448 := n0_; have HO451 := n1_; have BK443 := n2_; have HB := n3_; clear n0_ n1_ n2_ n3_; (try clear hb); (try clear hb2); (try clear hk); (try clear hi); (try clear ho0); (try clear ho1)) | ((with_reducible refine gate_dst (N := 5) rfl ?_); refine box_event ?hg (N := 5) ?hd (cs := #[.slice none 0 0, .slice none 0 0, .int .i64 0]) (t := 29) ?hr ?_; (case hd => rfl); (case hg => rfl); (case hr => first | (go_simp; done) | (go_simp; rfl)); intro gb454 hg w66 hbox hb; have n0_ := Aside0.mk (Kd.R_below (by (with_reducible repeat (first | apply Kd.R_alloc | apply Kd.R_drewN | apply Kd.R_drew)); exact HO448.out) hb); have n1_ := Aside0.mk (Kd.R_below (by (with_reducible repeat (first | apply Kd.R_alloc | apply Kd.R_drewN | apply Kd.R_drew)); exact HO451.out) hb); have n2_ := Aside0.mk (blk_below (g := gb443) (o := .cells #[.slice A0_0 l0_0.length c0_0, .slice A0_1 l0_1.length c0_1, .int .i64 a0_2] 29 (0, 0)) (by (with_reducible repeat (first | refine blk_drewN ?_ _ | refine blk_drew ?_ | refine blk_alloc ?_ _)); exact BK443.out) hb); have n3_ := Aside0.mk (below_step (by repeat (first | (with_reducible first | exact HB.out | apply below_alloc | apply pw_below_drewN | apply below_drew1 | refine below_set ?_ GE443.out) | exact HB.out)) hb); have n4_ := Aside0.mk (hbox); have n5_ := Aside0.mk ((by rw [hg]; exact (below_size (by repeat (first | (with_reducible first | exact HB.out | apply below_alloc | apply pw_below_drewN | apply below_drew1 | refine below_set ?_ GE443.out) | exact HB.out))) : w.heap.size ≤ gb454)); have n6_ := Aside0.mk ((by rw [hg]; exact (below_size (by repeat (first | (with_reducible first | exact HB.out | apply below_alloc | apply pw_below_drewN | apply below_drew1 | refine below_set ?_ GE443.out) | exact HB.out))) : w.heap.size ≤ gb454)); have n7_ := Aside0.mk ((by rw [hg]; exact Nat.ne_of_lt (blk_lt (g := gb443) (o := .cells #[.slice A0_0 l0_0.length c0_0, .slice A0_1 l0_1.length c0_1, .int .i64 a0_2] 29 (0, 0)) (by (with_reducible repeat (first | refine blk_drewN ?_ _ | refine blk_drew ?_ | refine blk_alloc ?_ _)); exact BK443.out)) : gb443 ≠ gb454)); have n8_ := Aside0.mk ((by rw [hg]; exact Nat.ne_of_gt (blk_lt (g := gb443) (o := .cells #[.slice A0_0 l0_0.length c0_0, .slice A0_1 l0_1.length c0_1, .int .i64 a0_2] 29 (0, 0)) (by (with_reducible repeat (first | refine blk_drewN ?_ _ | refine blk_drew ?_ | refine blk_alloc ?_ _)); exact BK443.out)) : gb454 ≠ gb443)); clear HO448; clear HO451; clear BK443; clear HB; have HO448 := n0_; have HO451 := n1_; have BK443 := n2_; have HB := n3_; have BK454 := n4_; have GW454 := n5_; have GE454 := n6_; have NB443_454 := n7_; have NB454_443 := n8_; clear n0_ n1_ n2_ n3_ n4_ n5_ n6_ n7_ n8_; clear hb hbox hg; obtain ⟨Ao67, co67, eo67⟩ := Kd.R_slice HO448.out; subst eo67; have hnb68 := NB454_443.out; have hnc68 := NB443_454.out; have hcz69_0 : w66.cell? ⟨gb454, 0, none⟩ = some (.slice none 0 0) := (blk_cell BK454.out 0).trans rfl; have hcz69_1 : w66.cell? ⟨gb454, 1, none⟩ = some (.slice none 0 0) := (blk_cell BK454.out 1).trans rfl; have hcz69_2 : w66.cell? ⟨gb454, 2, none⟩ = some (.int .i64 0) := (blk_cell BK454.out 2).trans rfl; have hfz69_0 := blk_frozen BK454.out 0; have hfz69_1 := blk_frozen BK454.out 1; have hfz69_2 := blk_frozen BK454.out 2; obtain ⟨Ao70, co70, eo70⟩ := Kd.R_slice HO451.out; subst eo70) | ((with_reducible refine gate_callee (f := 33) rfl ?_); refine goesL_ (some 20) rfl rfl Try.func33 (by kernel_rfl) rfl #[.int .i64 a1] rfl (by (try simp only [List.map_toArray, List.map_cons, List.map_nil]); first | done | rfl | (simp only [List.length_drop, List.length_take]; rfl)) ?_; (with_reducible refine (hibernacleref15_New.calls k a1 t455 t458 t461 t462 _ A11.out).mono ?_); rintro e w71 ⟨v456, v459, rfl, ho0, ho1, hb⟩; refine ⟨_, rfl, ?_⟩; have n0_ := Aside0.mk (Kd.R_elder' (by (with_reducible repeat (first | apply Kd.R_alloc | apply Kd.R_drewN | apply Kd.R_drew)); exact (Kd.R_mono (Kd.R_far (p := ⟨gb454, 2, none⟩) (Kd.R_far (p := ⟨gb454, 1, none⟩) (Kd.R_far (p := ⟨gb454, 0, none⟩) (Kd.R_types HO448.out BK454.out (by decide)) (fun _ hk => hk.2) (.slice Ao67 t446.length co67)) (fun _ hk => hk.2) (.slice Ao70 t449.length co70)) (fun _ hk => hk.2) (.int .i64 t452)) (fun _ h_ => h_.1))) (Kd.R_base ho0) hb); have n1_ := Aside0.mk (Kd.R_elder' (by (with_reducible repeat (first | apply Kd.R_alloc | apply Kd.R_drewN | apply Kd.R_drew)); exact (Kd.R_mono (Kd.R_far (p := ⟨gb454, 2, none⟩) (Kd.R_far (p := ⟨gb454, 1, none⟩) (Kd.R_far (p := ⟨gb454, 0, none⟩) (Kd.R_types HO451.out BK454.out (by decide)) (fun _ hk => hk.2) (.slice Ao67 t446.length co67)) (fun _ hk => hk.2) (.slice Ao70 t449.length co70)) (fun _ hk => hk.2) (.int .i64 t452)) (fun _ h_ => h_.1))) (Kd.R_base ho1) hb); have n2_ := Aside0.mk (Kd.R_lower (Kd.R_new' ho0 (Kd.R_lt (by (with_reducible repeat (first | apply Kd.R_alloc | apply Kd.R_drewN | apply Kd.R_drew)); exact (Kd.R_mono (Kd.R_far (p := ⟨gb454, 2, none⟩) (Kd.R_far (p := ⟨gb454, 1, none⟩) (Kd.R_far (p := ⟨gb454, 0, none⟩) (Kd.R_types HO448.out BK454.out (by decide)) (fun _ hk => hk.2) (.slice Ao67 t446.length co67)) (fun _ hk => hk.2) (.slice Ao70 t449.length co70)) (fun _ hk => hk.2) (.int .i64 t452)) (fun _ h_ => h_.1))))) (below_size (by repeat (first | (with_reducible first | exact HB.out | apply below_alloc | apply pw_below_drewN | apply below_drew1 | refine below_set ?_ GE443.out | refine below_set ?_ GE454.out) | exact HB.out)))); have n3_ := Aside0.mk (Kd.R_lower (Kd.R_new' ho1 (Kd.R_lt (by (with_reducible repeat (first | apply Kd.R_alloc | apply Kd.R_drewN | apply Kd.R_drew)); exact (Kd.R_mono (Kd.R_far (p := ⟨gb454, 2, none⟩) (Kd.R_far (p := ⟨gb454, 1, none⟩) (Kd.R_far (p := ⟨gb454, 0, none⟩) (Kd.R_types HO451.out BK454.out (by decide)) (fun _ hk => hk.2) (.slice Ao67 t446.length co67)) (fun _ hk => hk.2) (.slice Ao70 t449.length co70)) (fun _ hk => hk.2) (.int .i64 t452)) (fun _ h_ => h_.1))))) (below_size (by repeat (first | (with_reducible first | exact HB.out | apply below_alloc | apply pw_below_drewN | apply below_drew1 | refine below_set ?_ GE443.out | refine below_set ?_ GE454.out) | exact HB.out)))); have n4_ := Aside0.mk (blk_below (g := gb443) (o := .cells #[.slice A0_0 l0_0.length c0_0, .slice A0_1 l0_1.length c0_1, .int .i64 a0_2] 29 (0, 0)) (by (with_reducible repeat (first | refine blk_drewN ?_ _ | refine blk_drew ?_ | refine blk_alloc ?_ _)); refine blk_far ?_ NB443_454.out _; (with_reducible repeat (first | refine blk_drewN ?_ _ | refine blk_drew ?_ | refine blk_alloc ?_ _)); refine blk_far ?_ NB443_454.out _; (with_reducible repeat (first | refine blk_drewN ?_ _ | refine blk_drew ?_ | refine blk_alloc ?_ _)); refine blk_far ?_ NB443_454.out _; (with_reducible repeat (first | refine blk_drewN ?_ _ | refine blk_drew ?_ | refine blk_alloc ?_ _)); exact BK443.out) hb); have n5_ := Aside0.mk (blk_below (g := gb454) (o := .cells #[.slice Ao67 t446.length co67, .slice Ao70 t449.length co70, .int .i64 t452] 29 (0, 0)) (by (with_reducible repeat (first | refine blk_drewN ?_ _ | refine blk_drew ?_ | refine blk_alloc ?_ _)); refine blk_put (cs := #[.slice Ao67 t446.length co67, .slice Ao70 t449.length co70, .int .i64 0]) ?_ 2 _ rfl; (with_reducible repeat (first | refine blk_drewN ?_ _ | refine blk_drew ?_ | refine blk_alloc ?_ _)); refine blk_put (cs := #[.slice Ao67 t446.length co67, .slice none 0 0, .int .i64 0]) ?_ 1 _ rfl; (with_reducible repeat (first | refine blk_drewN ?_ _ | refine blk_drew ?_ | refine blk_alloc ?_ _)); refine blk_put (cs := #[.slice none 0 0, .slice none 0 0, .int .i64 0]) ?_ 0 _ rfl; (with_reducible repeat (first | refine blk_drewN ?_ _ | refine blk_drew ?_ | refine blk_alloc ?_ _)); exact BK454.out) hb); have n6_ := Aside0.mk (below_step (by repeat (first | (with_reducible first | exact HB.out | apply below_alloc | apply pw_below_drewN | apply below_drew1 | refine below_set ?_ GE443.out | refine below_set ?_ GE454.out) | exact HB.out)) hb); clear HO448; clear HO451; clear BK443; clear BK454; clear HB; have HO448 := n0_; have HO451 := n1_; have HO457 := n2_; have HO460 := n3_; have BK443 := n4_; have BK454 := n5_; have HB := n6_; clear n0_ n1_ n2_ n3_ n4_ n5_ n6_; (try clear hb); (try clear hb2); (try clear hk); (try clear hi); (try clear ho0); (try clear ho1)) | ((with_reducible refine gate_dst (N := 7) rfl ?_); refine box_event ?hg (N := 7) ?hd (cs := #[.slice none 0 0, .slice none 0 0, .int .i64 0]) (t := 29) ?hr ?_; (case hd => rfl); (case hg => rfl); (case hr => first | (go_simp; done) | (go_simp; rfl)); intro gb463 hg w72 hbox hb; have n0_ := Aside0.mk (Kd.R_below (by (with_reducible repeat (first | apply Kd.R_alloc | apply Kd.R_drewN | apply Kd.R_drew)); exact HO448.out) hb); have n1_ := Aside0.mk (Kd.R_below (by (with_reducible repeat (first | apply Kd.R_alloc | apply Kd.R_drewN | apply Kd.R_drew)); exact HO451.out) hb); have n2_ := Aside0.mk (Kd.R_below (by (with_reducible repeat (first | apply Kd.R_alloc | apply Kd.R_drewN | apply Kd.R_drew)); exact HO457.out) hb); have n3_ := Aside0.mk (Kd.R_below (by (with_reducible repeat (first | apply Kd.R_alloc | apply Kd.R_drewN | apply Kd.R_drew)); exact HO460.out) hb); have n4_ := Aside0.mk (blk_below (g := gb443) (o := .cells #[.slice A0_0 l0_0.length c0_0, .slice A0_1 l0_1.length c0_1, .int .i64 a0_2] 29 (0, 0)) (by (with_reducible repeat (first | refine blk_drewN ?_ _ | refine blk_drew ?_ | refine blk_alloc ?_ _)); exact BK443.out) hb); have n5_ := Aside0.mk (blk_below (g := gb454) (o := .cells #[.slice Ao67 t446.length co67, .slice Ao70 t449.length co70, .int .i64 t452] 29 (0, 0)) (by (with_reducible repeat (first | refine blk_drewN ?_ _ | refine blk_drew ?_ | refine blk_alloc ?_ _)); exact BK454.out) hb); have n6_ := Aside0.mk (below_step (by repeat (first | (with_reducible first | exact HB.out | apply below_alloc | apply pw_below_drewN | apply below_drew1 | refine below_set ?_ GE443.out | refine below_set ?_ GE454.out) | exact HB.out)) hb); have n7_ := Aside0.mk (hbox); have n8_ := Aside0.mk ((by rw [hg]; exact (below_size (by repeat (first | (with_reducible first | exact HB.out | apply below_alloc | apply pw_below_drewN | apply below_drew1 | refine below_set ?_ GE443.out | refine below_set ?_ GE454.out) | exact HB.out))) : w.heap.size ≤ gb463)); have n9_ := Aside0.mk ((by rw [hg]; exact (below_size (by repeat (first | (with_reducible first | exact HB.out | apply below_alloc | apply pw_below_drewN | apply below_drew1 | refine below_set ?_ GE443.out | refine below_set ?_ GE454.out) | exact HB.out))) : w.heap.size ≤ gb463)); have n10_ := Aside0.mk ((by rw [hg]; exact Nat.ne_of_lt (blk_lt (g := gb443) (o := .cells #[.slice A0_0 l0_0.length c0_0, .slice A0_1 l0_1.length c0_1, .int .i64 a0_2] 29 (0, 0)) (by (with_reducible repeat (first | refine blk_drewN ?_ _ | refine blk_drew ?_ | refine blk_alloc ?_ _)); exact BK443.out)) : gb443 ≠ gb463)); have n11_ := Aside0.mk ((by rw [hg]; exact Nat.ne_of_gt (blk_lt (g := gb443) (o := .cells #[.slice A0_0 l0_0.length c0_0, .slice A0_1 l0_1.length c0_1, .int .i64 a0_2] 29 (0, 0)) (by (with_reducible repeat (first | refine blk_drewN ?_ _ | refine blk_drew ?_ | refine blk_alloc ?_ _)); exact BK443.out)) : gb463 ≠ gb443)); have n12_ := Aside0.mk ((by rw [hg]; exact Nat.ne_of_lt (blk_lt (g := gb454) (o := .cells #[.slice Ao67 t446.length co67, .slice Ao70 t449.length co70, .int .i64 t452] 29 (0, 0)) (by (with_reducible repeat (first | refine blk_drewN ?_ _ | refine blk_drew ?_ | refine blk_alloc ?_ _)); exact BK454.out)) : gb454 ≠ gb463)); have n13_ := Aside0.mk ((by rw [hg]; exact Nat.ne_of_gt (blk_lt (g := gb454) (o := .cells #[.slice Ao67 t446.length co67, .slice Ao70 t449.length co70, .int .i64 t452] 29 (0, 0)) (by (with_reducible repeat (first | refine blk_drewN ?_ _ | refine blk_drew ?_ | refine blk_alloc ?_ _)); exact BK454.out)) : gb463 ≠ gb454)); clear HO448; clear HO451; clear HO457; clear HO460; clear BK443; clear BK454; clear HB; have HO448 := n0_; have HO451 := n1_; have HO457 := n2_; have HO460 := n3_; have BK443 := n4_; have BK454 := n5_; have HB := n6_; have BK463 := n7_; have GW463 := n8_; have GE463 := n9_; have NB443_463 := n10_; have NB463_443 := n11_; have NB454_463 := n12_; have NB463_454 := n13_; clear n0_ n1_ n2_ n3_ n4_ n5_ n6_ n7_ n8_ n9_ n10_ n11_ n12_ n13_; clear hb hbox hg; obtain ⟨Ao73, co73, eo73⟩ := Kd.R_slice HO457.out; subst eo73; have hnb74 := NB463_443.out; have hnc74 := NB443_463.out; have hnb75 := NB463_454.out; have hnc75 := NB454_463.out; have hcz76_0 : w72.cell? ⟨gb463, 0, none⟩ = some (.slice none 0 0) := (blk_cell BK463.out 0).trans rfl; have hcz76_1 : w72.cell? ⟨gb463, 1, none⟩ = some (.slice none 0 0) := (blk_cell BK463.out 1).trans rfl; have hcz76_2 : w72.cell? ⟨gb463, 2, none⟩ = some (.int .i64 0) := (blk_cell BK463.out 2).trans rfl; have hfz76_0 := blk_frozen BK463.out 0; have hfz76_1 := blk_frozen BK463.out 1; have hfz76_2 := blk_frozen BK463.out 2; obtain ⟨Ao77, co77, eo77⟩ := Kd.R_slice HO460.out; subst eo77))
        have n0_ : Aside0 (Kd.R Kd.string 9 (((w72.setCell ⟨gb463, 0, none⟩ (.slice Ao73 t455.length co73)).setCell ⟨gb463, 1, none⟩ (.slice Ao77 t458.length co77)).setCell ⟨gb463, 2, none⟩ (.int .i64 t461)) w.heap.size (fun k_ => some k_ ≠ (.slice Ao73 t455.length co73 : Value).ownBlock) (.slice Ao67 t446.length co67) t446) := ⟨by (with_reducible repeat (first | apply Kd.R_alloc | apply Kd.R_drewN | apply Kd.R_drew)); exact Kd.R_mono (Kd.R_far (p := ⟨gb463, 2, none⟩) (Kd.R_far (p := ⟨gb463, 1, none⟩) (Kd.R_far (p := ⟨gb463, 0, none⟩) (Kd.R_types HO448.out BK463.out (by decide)) (fun _ hk => hk.2) (.slice Ao73 t455.length co73)) (fun _ hk => hk.2) (.slice Ao77 t458.length co77)) (fun _ hk => hk.2) (.int .i64 t461)) (fun _ hk => hk.1.2)⟩
        have n1_ : Aside0 (Kd.R k27 27 (((w72.setCell ⟨gb463, 0, none⟩ (.slice Ao73 t455.length co73)).setCell ⟨gb463, 1, none⟩ (.slice Ao77 t458.length co77)).setCell ⟨gb463, 2, none⟩ (.int .i64 t461)) w.heap.size (fun k_ => some k_ ≠ (.slice Ao77 t458.length co77 : Value).ownBlock) (.slice Ao70 t449.length co70) t449) := ⟨by (with_reducible repeat (first | apply Kd.R_alloc | apply Kd.R_drewN | apply Kd.R_drew)); exact Kd.R_mono (Kd.R_far (p := ⟨gb463, 2, none⟩) (Kd.R_far (p := ⟨gb463, 1, none⟩) (Kd.R_far (p := ⟨gb463, 0, none⟩) (Kd.R_types HO451.out BK463.out (by decide)) (fun _ hk => hk.2) (.slice Ao73 t455.length co73)) (fun _ hk => hk.2) (.slice Ao77 t458.length co77)) (fun _ hk => hk.2) (.int .i64 t461)) (fun _ hk => hk.1.2)⟩
        have n2_ : Aside0 (Kd.R Kd.string 9 (((w72.setCell ⟨gb463, 0, none⟩ (.slice Ao73 t455.length co73)).setCell ⟨gb463, 1, none⟩ (.slice Ao77 t458.length co77)).setCell ⟨gb463, 2, none⟩ (.int .i64 t461)) w.heap.size (fun k_ => some k_ ≠ (.slice Ao67 t446.length co67 : Value).ownBlock) (.slice Ao73 t455.length co73) t455) := ⟨by (with_reducible repeat (first | apply Kd.R_alloc | apply Kd.R_drewN | apply Kd.R_drew)); exact Kd.R_mono (Kd.R_far (p := ⟨gb463, 2, none⟩) (Kd.R_far (p := ⟨gb463, 1, none⟩) (Kd.R_far (p := ⟨gb463, 0, none⟩) (Kd.R_types HO457.out BK463.out (by decide)) (fun _ hk => hk.2) (.slice Ao73 t455.length co73)) (fun _ hk => hk.2) (.slice Ao77 t458.length co77)) (fun _ hk => hk.2) (.int .i64 t461)) (fun _ hk => hk.1.2)⟩
        have n3_ : Aside0 (Kd.R k27 27 (((w72.setCell ⟨gb463, 0, none⟩ (.slice Ao73 t455.length co73)).setCell ⟨gb463, 1, none⟩ (.slice Ao77 t458.length co77)).setCell ⟨gb463, 2, none⟩ (.int .i64 t461)) w.heap.size (fun k_ => some k_ ≠ (.slice Ao70 t449.length co70 : Value).ownBlock) (.slice Ao77 t458.length co77) t458) := ⟨by (with_reducible repeat (first | apply Kd.R_alloc | apply Kd.R_drewN | apply Kd.R_drew)); exact Kd.R_mono (Kd.R_far (p := ⟨gb463, 2, none⟩) (Kd.R_far (p := ⟨gb463, 1, none⟩) (Kd.R_far (p := ⟨gb463, 0, none⟩) (Kd.R_types HO460.out BK463.out (by decide)) (fun _ hk => hk.2) (.slice Ao73 t455.length co73)) (fun _ hk => hk.2) (.slice Ao77 t458.length co77)) (fun _ hk => hk.2) (.int .i64 t461)) (fun _ hk => hk.1.2)⟩
        have n4_ : Aside0 ((((w72.setCell ⟨gb463, 0, none⟩ (.slice Ao73 t455.length co73)).setCell ⟨gb463, 1, none⟩ (.slice Ao77 t458.length co77)).setCell ⟨gb463, 2, none⟩ (.int .i64 t461)).heap[gb443]? = some (.cells #[.slice A0_0 l0_0.length c0_0, .slice A0_1 l0_1.length c0_1, .int .i64 a0_2] 29 (0, 0))) := ⟨by (with_reducible repeat (first | refine blk_drewN ?_ _ | refine blk_drew ?_ | refine blk_alloc ?_ _)); refine blk_far ?_ NB443_463.out _; (with_reducible repeat (first | refine blk_drewN ?_ _ | refine blk_drew ?_ | refine blk_alloc ?_ _)); refine blk_far ?_ NB443_463.out _; (with_reducible repeat (first | refine blk_drewN ?_ _ | refine blk_drew ?_ | refine blk_alloc ?_ _)); refine blk_far ?_ NB443_463.out _; (with_reducible repeat (first | refine blk_drewN ?_ _ | refine blk_drew ?_ | refine blk_alloc ?_ _)); exact BK443.out⟩
        have n5_ : Aside0 ((((w72.setCell ⟨gb463, 0, none⟩ (.slice Ao73 t455.length co73)).setCell ⟨gb463, 1, none⟩ (.slice Ao77 t458.length co77)).setCell ⟨gb463, 2, none⟩ (.int .i64 t461)).heap[gb454]? = some (.cells #[.slice Ao67 t446.length co67, .slice Ao70 t449.length co70, .int .i64 t452] 29 (0, 0))) := ⟨by (with_reducible repeat (first | refine blk_drewN ?_ _ | refine blk_drew ?_ | refine blk_alloc ?_ _)); refine blk_far ?_ NB454_463.out _; (with_reducible repeat (first | refine blk_drewN ?_ _ | refine blk_drew ?_ | refine blk_alloc ?_ _)); refine blk_far ?_ NB454_463.out _; (with_reducible repeat (first | refine blk_drewN ?_ _ | refine blk_drew ?_ | refine blk_alloc ?_ _)); refine blk_far ?_ NB454_463.out _; (with_reducible repeat (first | refine blk_drewN ?_ _ | refine blk_drew ?_ | refine blk_alloc ?_ _)); exact BK454.out⟩
        have n6_ : Aside0 ((((w72.setCell ⟨gb463, 0, none⟩ (.slice Ao73 t455.length co73)).setCell ⟨gb463, 1, none⟩ (.slice Ao77 t458.length co77)).setCell ⟨gb463, 2, none⟩ (.int .i64 t461)).heap[gb463]? = some (.cells #[.slice Ao73 t455.length co73, .slice Ao77 t458.length co77, .int .i64 t461] 29 (0, 0))) := ⟨by (with_reducible repeat (first | refine blk_drewN ?_ _ | refine blk_drew ?_ | refine blk_alloc ?_ _)); refine blk_put (cs := #[.slice Ao73 t455.length co73, .slice Ao77 t458.length co77, .int .i64 0]) ?_ 2 _ rfl; (with_reducible repeat (first | refine blk_drewN ?_ _ | refine blk_drew ?_ | refine blk_alloc ?_ _)); refine blk_put (cs := #[.slice Ao73 t455.length co73, .slice none 0 0, .int .i64 0]) ?_ 1 _ rfl; (with_reducible repeat (first | refine blk_drewN ?_ _ | refine blk_drew ?_ | refine blk_alloc ?_ _)); refine blk_put (cs := #[.slice none 0 0, .slice none 0 0, .int .i64 0]) ?_ 0 _ rfl; (with_reducible repeat (first | refine blk_drewN ?_ _ | refine blk_drew ?_ | refine blk_alloc ?_ _)); exact BK463.out⟩
        have n7_ : Aside0 (Below w.heap.size w (((w72.setCell ⟨gb463, 0, none⟩ (.slice Ao73 t455.length co73)).setCell ⟨gb463, 1, none⟩ (.slice Ao77 t458.length co77)).setCell ⟨gb463, 2, none⟩ (.int .i64 t461))) := ⟨by repeat (first | (with_reducible first | exact HB.out | apply below_alloc | apply pw_below_drewN | apply below_drew1 | refine below_set ?_ GE443.out | refine below_set ?_ GE454.out | refine below_set ?_ GE463.out) | exact HB.out)⟩
        (try clear HO448)
        (try clear HO451)
        (try clear HO457)
        (try clear HO460)
        (try clear BK443)
        (try clear BK454)
        (try clear BK463)
        (try clear HB)
        generalize (((w72.setCell ⟨gb463, 0, none⟩ (.slice Ao73 t455.length co73)).setCell ⟨gb463, 1, none⟩ (.slice Ao77 t458.length co77)).setCell ⟨gb463, 2, none⟩ (.int .i64 t461)) = w78 at n0_ n1_ n2_ n3_ n4_ n5_ n6_ n7_ ⊢
        have HO448 := n0_
        have HO451 := n1_
        have HO457 := n2_
        have HO460 := n3_
        have BK443 := n4_
        have BK454 := n5_
        have BK463 := n6_
        have HB := n7_
        clear n0_ n1_ n2_ n3_ n4_ n5_ n6_ n7_
        have n0_ := Aside0.mk (Kd.R_drew HO448.out)
        have n1_ := Aside0.mk (Kd.R_drew HO451.out)
        have n2_ := Aside0.mk (Kd.R_drew HO457.out)
        have n3_ := Aside0.mk (Kd.R_drew HO460.out)
        have n4_ := Aside0.mk (blk_drew BK443.out)
        have n5_ := Aside0.mk (blk_drew BK454.out)
        have n6_ := Aside0.mk (blk_drew BK463.out)
        have n7_ := Aside0.mk (below_drew1 HB.out)
        clear HO448
        clear HO451
        clear HO457
        clear HO460
        clear BK443
        clear BK454
        clear BK463
        clear HB
        have HO448 := n0_
        have HO451 := n1_
        have HO457 := n2_
        have HO460 := n3_
        have BK443 := n4_
        have BK454 := n5_
        have BK463 := n6_
        have HB := n7_
        clear n0_ n1_ n2_ n3_ n4_ n5_ n6_ n7_
        refine start_ (n := 19) (S := fun w' => w'.cell? ⟨gb443, 0, none⟩ = some (.slice A0_0 l0_0.length c0_0) ∧ w'.cell? ⟨gb443, 1, none⟩ = some (.slice A0_1 l0_1.length c0_1) ∧ w'.cell? ⟨gb443, 2, none⟩ = some (.int .i64 a0_2)) (ds := []) #[false, false, false, false, false, false, false, false, false, false, false, false, false, false, false, false, false, false, false] (by kernel_rfl) rfl rfl ⟨(blk_cell BK443.out 0).trans rfl, (blk_cell BK443.out 1).trans rfl, (blk_cell BK443.out 2).trans rfl⟩ (fun hHeld => ?_); refine with_tabW hibernaclelaw15_DriveChecks.tab5 hibernaclelaw15_DriveChecks.bits5 (fun HT_ HW_ => ?_)
        generalize w78.drew = w79 at HO448 HO451 HO457 HO460 BK443 BK454 BK463 HB hHeld ⊢
        refine one_ (i := 0) (N := some 23) #[true, false, false, false, false, false, false, false, false, false, false, false, false, false, false, false, false, false, false] rfl rfl (one_of HT_.out (by kernel_rfl)) (by decide) (fun K hK => ?_)
        refine goes_ Try.func31 (by kernel_rfl) rfl #[] (by rfl) rfl rfl (by (try simp only [List.map_toArray, List.map_cons, List.map_nil]); first | done | rfl | (simp only [List.length_drop, List.length_take]; rfl)) ?_
        with_reducible refine (hibernaclelaw15_fixed.calls  true _ A12.out).mono ?_
        rintro e w80 ⟨rfl, hb⟩
        refine ⟨_, rfl, ?_⟩
        have n0_ := Aside0.mk (Kd.R_below (by (with_reducible repeat (first | apply Kd.R_alloc | apply Kd.R_drewN | apply Kd.R_drew)); exact HO448.out) hb)
        have n1_ := Aside0.mk (Kd.R_below (by (with_reducible repeat (first | apply Kd.R_alloc | apply Kd.R_drewN | apply Kd.R_drew)); exact HO451.out) hb)
        have n2_ := Aside0.mk (Kd.R_below (by (with_reducible repeat (first | apply Kd.R_alloc | apply Kd.R_drewN | apply Kd.R_drew)); exact HO457.out) hb)
        have n3_ := Aside0.mk (Kd.R_below (by (with_reducible repeat (first | apply Kd.R_alloc | apply Kd.R_drewN | apply Kd.R_drew)); exact HO460.out) hb)
        have n4_ := Aside0.mk (blk_below (g := gb443) (o := .cells #[.slice A0_0 l0_0.length c0_0, .slice A0_1 l0_1.length c0_1, .int .i64 a0_2] 29 (0, 0)) (by (with_reducible repeat (first | refine blk_drewN ?_ _ | refine blk_drew ?_ | refine blk_alloc ?_ _)); exact BK443.out) hb)
        have n5_ := Aside0.mk (blk_below (g := gb454) (o := .cells #[.slice Ao67 t446.length co67, .slice Ao70 t449.length co70, .int .i64 t452] 29 (0, 0)) (by (with_reducible repeat (first | refine blk_drewN ?_ _ | refine blk_drew ?_ | refine blk_alloc ?_ _)); exact BK454.out) hb)
        have n6_ := Aside0.mk (blk_below (g := gb463) (o := .cells #[.slice Ao73 t455.length co73, .slice Ao77 t458.length co77, .int .i64 t461] 29 (0, 0)) (by (with_reducible repeat (first | refine blk_drewN ?_ _ | refine blk_drew ?_ | refine blk_alloc ?_ _)); exact BK463.out) hb)
        have n7_ := Aside0.mk (below_step (by repeat (first | (with_reducible first | exact HB.out | apply below_alloc | apply pw_below_drewN | apply below_drew1 | refine below_set ?_ GE443.out | refine below_set ?_ GE454.out | refine below_set ?_ GE463.out) | exact HB.out)) hb)
        clear HO448
        clear HO451
        clear HO457
        clear HO460
        clear BK443
        clear BK454
        clear BK463
        clear HB
        have HO448 := n0_
        have HO451 := n1_
        have HO457 := n2_
        have HO460 := n3_
        have BK443 := n4_
        have BK454 := n5_
        have BK463 := n6_
        have HB := n7_
        clear n0_ n1_ n2_ n3_ n4_ n5_ n6_ n7_
        (try clear hb)
        (try clear hb2)
        (try clear hk)
        (try clear hi)
        refine hK.out _ _ ⟨(blk_cell BK443.out 0).trans rfl, (blk_cell BK443.out 1).trans rfl, (blk_cell BK443.out 2).trans rfl⟩ (fun hHeld => ?_)
        clear hK K
        refine norm_ (a' := ?_) ?_ ?_
        rotate_left
        · show Act.put _ (some 23) _ = _
          simp only [Act.put, List.setIfInBounds_toArray, List.set_cons_zero, List.set_cons_succ, i64_w, i32_w]
          rfl
        refine pure_ (i := 1) (N := some 24) (v := ?_) (a' := ?_) #[true, true, false, false, false, false, false, false, false, false, false, false, false, false, false, false, false, false, false] rfl rfl (any_of HT_.out (by kernel_rfl)) (fun _ _ _ h => h) (Or.inl ⟨by rfl, ?_⟩) ?_ ?_
        rotate_left
        · intro w'
          go_simp
          with_reducible rfl
        rotate_left
        · simp only [Act.put, List.setIfInBounds_toArray, List.set_cons_zero, List.set_cons_succ, i64_w, i32_w]
          rfl
        refine take_ (i := 2) (N := some 25) (v := ?_) (a' := ?_) #[true, true, true, false, false, false, false, false, false, false, false, false, false, false, false, false, false, false, false] rfl rfl (take_ofW HT_.out HW_.out (by kernel_rfl)) (fun _ _ _ h => h) (Or.inl ⟨by rfl, ?_⟩) hHeld ?_ ?_
        rotate_left
        · rintro w' ⟨s0, s1, s2⟩
          go_simp
          with_reducible rfl
        rotate_left
        · simp only [Act.put, List.setIfInBounds_toArray, List.set_cons_zero, List.set_cons_succ, i64_w, i32_w]
          rfl
        refine take_ (i := 4) (N := some 27) (v := ?_) (a' := ?_) #[true, true, true, false, true, false, false, false, false, false, false, false, false, false, false, false, false, false, false] rfl rfl (take_ofW HT_.out HW_.out (by kernel_rfl)) (fun _ _ _ h => h) (Or.inl ⟨by rfl, ?_⟩) hHeld ?_ ?_
        rotate_left
        · rintro w' ⟨s0, s1, s2⟩
          go_simp
          with_reducible rfl
        rotate_left
        · simp only [Act.put, List.setIfInBounds_toArray, List.set_cons_zero, List.set_cons_succ, i64_w, i32_w]
          rfl
        refine one_ (i := 3) (N := some 26) #[true, true, true, true, true, false, false, false, false, false, false, false, false, false, false, false, false, false, false] rfl rfl (one_of HT_.out (by kernel_rfl)) (by decide) (fun K hK => ?_)
        refine goes_ Try.func34 (by kernel_rfl) rfl #[.agg #[.slice A0_0 l0_0.length c0_0, .slice A0_1 l0_1.length c0_1, .int .i64 a0_2]] (by rfl) rfl rfl (by (try simp only [List.map_toArray, List.map_cons, List.map_nil]); first | done | rfl | (simp only [List.length_drop, List.length_take]; rfl)) ?_
        with_reducible refine (drive_Check.calls _ _ l0_0 _ _ l0_1 a0_2 t465 _ ?side1 ?side2 ?side3 ?side4 A14.out).mono ?_
        (case side1 => repeat (first | exact (Kd.C_below HR0_0.out HB.out) | (with_reducible refine Kd.C_alloc ?_ _) | (with_reducible refine Kd.C_drewN ?_ _) | (with_reducible refine Kd.C_drew ?_)))
        (case side2 => exact HC0_0.out)
        (case side3 => repeat (first | exact (Kd.C_below HR0_1.out HB.out) | (with_reducible refine Kd.C_alloc ?_ _) | (with_reducible refine Kd.C_drewN ?_ _) | (with_reducible refine Kd.C_drew ?_)))
        (case side4 => exact HC0_1.out)
        rintro e w81 ⟨rfl, hb⟩
        refine ⟨_, rfl, ?_⟩
        have n0_ := Aside0.mk (Kd.R_below (by (with_reducible repeat (first | apply Kd.R_alloc | apply Kd.R_drewN | apply Kd.R_drew)); exact HO448.out) hb)
        have n1_ := Aside0.mk (Kd.R_below (by (with_reducible repeat (first | apply Kd.R_alloc | apply Kd.R_drewN | apply Kd.R_drew)); exact HO451.out) hb)
        have n2_ := Aside0.mk (Kd.R_below (by (with_reducible repeat (first | apply Kd.R_alloc | apply Kd.R_drewN | apply Kd.R_drew)); exact HO457.out) hb)
        have n3_ := Aside0.mk (Kd.R_below (by (with_reducible repeat (first | apply Kd.R_alloc | apply Kd.R_drewN | apply Kd.R_drew)); exact HO460.out) hb)
        have n4_ := Aside0.mk (blk_below (g := gb443) (o := .cells #[.slice A0_0 l0_0.length c0_0, .slice A0_1 l0_1.length c0_1, .int .i64 a0_2] 29 (0, 0)) (by (with_reducible repeat (first | refine blk_drewN ?_ _ | refine blk_drew ?_ | refine blk_alloc ?_ _)); exact BK443.out) hb)
        have n5_ := Aside0.mk (blk_below (g := gb454) (o := .cells #[.slice Ao67 t446.length co67, .slice Ao70 t449.length co70, .int .i64 t452] 29 (0, 0)) (by (with_reducible repeat (first | refine blk_drewN ?_ _ | refine blk_drew ?_ | refine blk_alloc ?_ _)); exact BK454.out) hb)
        have n6_ := Aside0.mk (blk_below (g := gb463) (o := .cells #[.slice Ao73 t455.length co73, .slice Ao77 t458.length co77, .int .i64 t461] 29 (0, 0)) (by (with_reducible repeat (first | refine blk_drewN ?_ _ | refine blk_drew ?_ | refine blk_alloc ?_ _)); exact BK463.out) hb)
        have n7_ := Aside0.mk (below_step (by repeat (first | (with_reducible first | exact HB.out | apply below_alloc | apply pw_below_drewN | apply below_drew1 | refine below_set ?_ GE443.out | refine below_set ?_ GE454.out | refine below_set ?_ GE463.out) | exact HB.out)) hb)
        clear HO448
        clear HO451
        clear HO457
        clear HO460
        clear BK443
        clear BK454
        clear BK463
        clear HB
        have HO448 := n0_
        have HO451 := n1_
        have HO457 := n2_
        have HO460 := n3_
        have BK443 := n4_
        have BK454 := n5_
        have BK463 := n6_
        have HB := n7_
        clear n0_ n1_ n2_ n3_ n4_ n5_ n6_ n7_
        (try clear hb)
        (try clear hb2)
        (try clear hk)
        (try clear hi)
        refine hK.out _ _ ⟨(blk_cell BK443.out 0).trans rfl, (blk_cell BK443.out 1).trans rfl, (blk_cell BK443.out 2).trans rfl⟩ (fun hHeld => ?_)
        clear hK K
        refine norm_ (a' := ?_) ?_ ?_
        rotate_left
        · show Act.put _ (some 26) _ = _
          simp only [Act.put, List.setIfInBounds_toArray, List.set_cons_zero, List.set_cons_succ, i64_w, i32_w]
          rfl
        refine one_ (i := 5) (N := some 28) #[true, true, true, true, true, true, false, false, false, false, false, false, false, false, false, false, false, false, false] rfl rfl (one_of HT_.out (by kernel_rfl)) (by decide) (fun K hK => ?_)
        refine goes_ Try.func35 (by kernel_rfl) rfl #[.agg #[.slice A0_0 l0_0.length c0_0, .slice A0_1 l0_1.length c0_1, .int .i64 a0_2]] (by rfl) rfl rfl (by (try simp only [List.map_toArray, List.map_cons, List.map_nil]); first | done | rfl | (simp only [List.length_drop, List.length_take]; rfl)) ?_
        with_reducible refine (hibernacleref15_Check.calls k _ _ l0_0 _ _ l0_1 a0_2 t466 _ ?side1 ?side2 ?side3 ?side4 A15.out).mono ?_
        (case side1 => repeat (first | exact (Kd.C_below HR0_0.out HB.out) | (with_reducible refine Kd.C_alloc ?_ _) | (with_reducible refine Kd.C_drewN ?_ _) | (with_reducible refine Kd.C_drew ?_)))
        (case side2 => exact HC0_0.out)
        (case side3 => repeat (first | exact (Kd.C_below HR0_1.out HB.out) | (with_reducible refine Kd.C_alloc ?_ _) | (with_reducible refine Kd.C_drewN ?_ _) | (with_reducible refine Kd.C_drew ?_)))
        (case side4 => exact HC0_1.out)
        rintro e w82 ⟨rfl, hb⟩
        refine ⟨_, rfl, ?_⟩
        have n0_ := Aside0.mk (Kd.R_below (by (with_reducible repeat (first | apply Kd.R_alloc | apply Kd.R_drewN | apply Kd.R_drew)); exact HO448.out) hb)
        have n1_ := Aside0.mk (Kd.R_below (by (with_reducible repeat (first | apply Kd.R_alloc | apply Kd.R_drewN | apply Kd.R_drew)); exact HO451.out) hb)
        have n2_ := Aside0.mk (Kd.R_below (by (with_reducible repeat (first | apply Kd.R_alloc | apply Kd.R_drewN | apply Kd.R_drew)); exact HO457.out) hb)
        have n3_ := Aside0.mk (Kd.R_below (by (with_reducible repeat (first | apply Kd.R_alloc | apply Kd.R_drewN | apply Kd.R_drew)); exact HO460.out) hb)
        have n4_ := Aside0.mk (blk_below (g := gb443) (o := .cells #[.slice A0_0 l0_0.length c0_0, .slice A0_1 l0_1.length c0_1, .int .i64 a0_2] 29 (0, 0)) (by (with_reducible repeat (first | refine blk_drewN ?_ _ | refine blk_drew ?_ | refine blk_alloc ?_ _)); exact BK443.out) hb)
        have n5_ := Aside0.mk (blk_below (g := gb454) (o := .cells #[.slice Ao67 t446.length co67, .slice Ao70 t449.length co70, .int .i64 t452] 29 (0, 0)) (by (with_reducible repeat (first | refine blk_drewN ?_ _ | refine blk_drew ?_ | refine blk_alloc ?_ _)); exact BK454.out) hb)
        have n6_ := Aside0.mk (blk_below (g := gb463) (o := .cells #[.slice Ao73 t455.length co73, .slice Ao77 t458.length co77, .int .i64 t461] 29 (0, 0)) (by (with_reducible repeat (first | refine blk_drewN ?_ _ | refine blk_drew ?_ | refine blk_alloc ?_ _)); exact BK463.out) hb)
        have n7_ := Aside0.mk (below_step (by repeat (first | (with_reducible first | exact HB.out | apply below_alloc | apply pw_below_drewN | apply below_drew1 | refine below_set ?_ GE443.out | refine below_set ?_ GE454.out | refine below_set ?_ GE463.out) | exact HB.out)) hb)
        clear HO448
        clear HO451
        clear HO457
        clear HO460
        clear BK443
        clear BK454
        clear BK463
        clear HB
        have HO448 := n0_
        have HO451 := n1_
        have HO457 := n2_
        have HO460 := n3_
        have BK443 := n4_
        have BK454 := n5_
        have BK463 := n6_
        have HB := n7_
        clear n0_ n1_ n2_ n3_ n4_ n5_ n6_ n7_
        (try clear hb)
        (try clear hb2)
        (try clear hk)
        (try clear hi)
        refine hK.out _ _ ⟨(blk_cell BK443.out 0).trans rfl, (blk_cell BK443.out 1).trans rfl, (blk_cell BK443.out 2).trans rfl⟩ (fun hHeld => ?_)
        clear hK K
        refine norm_ (a' := ?_) ?_ ?_
        rotate_left
        · show Act.put _ (some 28) _ = _
          simp only [Act.put, List.setIfInBounds_toArray, List.set_cons_zero, List.set_cons_succ, i64_w, i32_w]
          rfl
        refine pure_ (i := 6) (N := some 29) (v := ?_) (a' := ?_) #[true, true, true, true, true, true, true, false, false, false, false, false, false, false, false, false, false, false, false] rfl rfl (any_of HT_.out (by kernel_rfl)) (fun _ _ _ h => h) (Or.inl ⟨by rfl, ?_⟩) ?_ ?_
        rotate_left
        · intro w'
          go_simp
          with_reducible rfl
        rotate_left
        · simp only [Act.put, List.setIfInBounds_toArray, List.set_cons_zero, List.set_cons_succ, i64_w, i32_w]
          rfl
        refine pure_ (i := 7) (N := some 30) (v := ?_) (a' := ?_) #[true, true, true, true, true, true, true, true, false, false, false, false, false, false, false, false, false, false, false] rfl rfl (any_of HT_.out (by kernel_rfl)) (fun _ _ _ h => h) (Or.inl ⟨by rfl, ?_⟩) ?_ ?_
        rotate_left
        · intro w'
          go_simp
          with_reducible rfl
        rotate_left
        · simp only [Act.put, List.setIfInBounds_toArray, List.set_cons_zero, List.set_cons_succ, i64_w, i32_w]
          rfl
        refine pure_ (i := 8) (N := some 31) (v := ?_) (a' := ?_) #[true, true, true, true, true, true, true, true, true, false, false, false, false, false, false, false, false, false, false] rfl rfl (any_of HT_.out (by kernel_rfl)) (fun _ _ _ h => h) (Or.inl ⟨by rfl, ?_⟩) ?_ ?_
        rotate_left
        · intro w'
          go_simp
          with_reducible rfl
        rotate_left
        · simp only [Act.put, List.setIfInBounds_toArray, List.set_cons_zero, List.set_cons_succ, i64_w, i32_w]
          rfl
        refine pure_ (i := 9) (N := some 32) (v := undef) (a' := ?_) #[true, true, true, true, true, true, true, true, true, true, false, false, false, false, false, false, false, false, false] rfl rfl (any_of HT_.out (by kernel_rfl)) (fun _ _ _ h => h) (Or.inr ⟨by rfl, rfl⟩) ?_ ?_
        rotate_left
        · simp only [Act.put, List.setIfInBounds_toArray, List.set_cons_zero, List.set_cons_succ, i64_w, i32_w]
          rfl
        refine pure_ (i := 10) (N := some 33) (v := undef) (a' := ?_) #[true, true, true, true, true, true, true, true, true, true, true, false, false, false, false, false, false, false, false] rfl rfl (any_of HT_.out (by kernel_rfl)) (fun _ _ _ h => h) (Or.inr ⟨by rfl, rfl⟩) ?_ ?_
        rotate_left
        · simp only [Act.put, List.setIfInBounds_toArray, List.set_cons_zero, List.set_cons_succ, i64_w, i32_w]
          rfl
        refine pure_ (i := 11) (N := some 34) (v := undef) (a' := ?_) #[true, true, true, true, true, true, true, true, true, true, true, true, false, false, false, false, false, false, false] rfl rfl (any_of HT_.out (by kernel_rfl)) (fun _ _ _ h => h) (Or.inr ⟨by rfl, rfl⟩) ?_ ?_
        rotate_left
        · simp only [Act.put, List.setIfInBounds_toArray, List.set_cons_zero, List.set_cons_succ, i64_w, i32_w]
          rfl
        refine pure_ (i := 12) (N := some 35) (v := ?_) (a' := ?_) #[true, true, true, true, true, true, true, true, true, true, true, true, true, false, false, false, false, false, false] rfl rfl (any_of HT_.out (by kernel_rfl)) (fun _ _ _ h => h) (Or.inl ⟨by rfl, ?_⟩) ?_ ?_
        rotate_left
        · intro w'
          go_simp
          with_reducible rfl
        rotate_left
        · simp only [Act.put, List.setIfInBounds_toArray, List.set_cons_zero, List.set_cons_succ, i64_w, i32_w]
          rfl
        refine pure_ (i := 13) (N := some 36) (v := ?_) (a' := ?_) #[true, true, true, true, true, true, true, true, true, true, true, true, true, true, false, false, false, false, false] rfl rfl (any_of HT_.out (by kernel_rfl)) (fun _ _ _ h => h) (Or.inl ⟨by rfl, ?_⟩) ?_ ?_
        rotate_left
        · intro w'
          go_simp
          with_reducible rfl
        rotate_left
        · simp only [Act.put, List.setIfInBounds_toArray, List.set_cons_zero, List.set_cons_succ, i64_w, i32_w]
          rfl
        refine pure_ (i := 14) (N := some 37) (v := undef) (a' := ?_) #[true, true, true, true, true, true, true, true, true, true, true, true, true, true, true, false, false, false, false] rfl rfl (any_of HT_.out (by kernel_rfl)) (fun _ _ _ h => h) (Or.inr ⟨by rfl, rfl⟩) ?_ ?_
        rotate_left
        · simp only [Act.put, List.setIfInBounds_toArray, List.set_cons_zero, List.set_cons_succ, i64_w, i32_w]
          rfl
        refine pure_ (i := 15) (N := some 38) (v := undef) (a' := ?_) #[true, true, true, true, true, true, true, true, true, true, true, true, true, true, true, true, false, false, false] rfl rfl (any_of HT_.out (by kernel_rfl)) (fun _ _ _ h => h) (Or.inr ⟨by rfl, rfl⟩) ?_ ?_
        rotate_left
        · simp only [Act.put, List.setIfInBounds_toArray, List.set_cons_zero, List.set_cons_succ, i64_w, i32_w]
          rfl
        refine pure_ (i := 16) (N := some 39) (v := undef) (a' := ?_) #[true, true, true, true, true, true, true, true, true, true, true, true, true, true, true, true, true, false, false] rfl rfl (any_of HT_.out (by kernel_rfl)) (fun _ _ _ h => h) (Or.inr ⟨by rfl, rfl⟩) ?_ ?_
        rotate_left
        · simp only [Act.put, List.setIfInBounds_toArray, List.set_cons_zero, List.set_cons_succ, i64_w, i32_w]
          rfl
        refine pure_ (i := 17) (N := some 40) (v := ?_) (a' := ?_) #[true, true, true, true, true, true, true, true, true, true, true, true, true, true, true, true, true, true, false] rfl rfl (any_of HT_.out (by kernel_rfl)) (fun _ _ _ h => h) (Or.inl ⟨by rfl, ?_⟩) ?_ ?_
        rotate_left
        · intro w'
          go_simp
          with_reducible rfl
        rotate_left
        · simp only [Act.put, List.setIfInBounds_toArray, List.set_cons_zero, List.set_cons_succ, i64_w, i32_w]
          rfl
        refine pure_ (i := 18) (N := some 4) (v := ?_) (a' := ?_) #[true, true, true, true, true, true, true, true, true, true, true, true, true, true, true, true, true, true, true] rfl rfl (any_of HT_.out (by kernel_rfl)) (fun _ _ _ h => h) (Or.inl ⟨by rfl, ?_⟩) ?_ ?_
        rotate_left
        · intro w'
          go_simp
          with_reducible rfl
        rotate_left
        · simp only [Act.put, List.setIfInBounds_toArray, List.set_cons_zero, List.set_cons_succ, i64_w, i32_w]
          rfl
        refine done_ (done_of HT_.out (by kernel_rfl)) ?_
        try go_wp2
        go_ret
        exact ⟨by first | rfl | (simp [errW_none, errW_some] <;> rfl) | (simp [*, errW_none, errW_some] <;> rfl), by repeat (first | (with_reducible first | exact HB.out | apply below_alloc | apply pw_below_drewN | apply below_drew1 | refine below_set ?_ GE443.out | refine below_set ?_ GE454.out | refine below_set ?_ GE463.out) | exact HB.out)⟩
    · replace c13 := Bool.eq_false_iff.mpr c13
      subst c13
      have H1 : (some false) = some r := by rw [if_neg (show ¬ (false = true) by decide)] at H; exact H
      clear H
      have H := H1
      clear H1
      obtain rfl := Option.some.inj H
      go_enter Try.func5, Try.ntmps5
      try go_wp2_with (first | ((with_reducible refine gate_dst (N := 2) rfl ?_); refine box_event ?hg (N := 2) ?hd (cs := #[.slice A0_0 l0_0.length c0_0, .slice A0_1 l0_1.length c0_1, .int .i64 a0_2]) (t := 29) ?hr ?_; (case hd => rfl); (case hg => rfl); (case hr => first | (go_simp; done) | (go_simp; rfl)); intro gb443 hg w83 hbox hb; have n0_ := Aside0.mk (below_step (by repeat (first | (with_reducible first | exact HB.out | apply below_alloc | apply pw_below_drewN | apply below_drew1) | exact HB.out)) hb); have n1_ := Aside0.mk (hbox); have n2_ := Aside0.mk ((by rw [hg]; exact (below_size (by repeat (first | (with_reducible first | exact HB.out | apply below_alloc | apply pw_below_drewN | apply below_drew1) | exact HB.out))) : w.heap.size ≤ gb443)); have n3_ := Aside0.mk ((by rw [hg]; exact (below_size (by repeat (first | (with_reducible first | exact HB.out | apply below_alloc | apply pw_below_drewN | apply below_drew1) | exact HB.out))) : w.heap.size ≤ gb443)); clear HB; have HB := n0_; have BK443 := n1_; have GW443 := n2_; have GE443 := n3_; clear n0_ n1_ n2_ n3_; clear hb hbox hg; have hcz84_0 : w83.cell? ⟨gb443, 0, none⟩ = some (.slice A0_0 l0_0.length c0_0) := (blk_cell BK443.out 0).trans rfl; have hcz84_1 : w83.cell? ⟨gb443, 1, none⟩ = some (.slice A0_1 l0_1.length c0_1) := (blk_cell BK443.out 1).trans rfl; have hcz84_2 : w83.cell? ⟨gb443, 2, none⟩ = some (.int .i64 a0_2) := (blk_cell BK443.out 2).trans rfl; have hfz84_0 := blk_frozen BK443.out 0; have hfz84_1 := blk_frozen BK443.out 1; have hfz84_2 := blk_frozen BK443.out 2) | ((with_reducible refine gate_callee (f := 30) rfl ?_); refine goesL_ (some 10) rfl rfl Try.func30 (by kernel_rfl) rfl #[.agg #[.slice A0_0 l0_0.length c0_0, .slice A0_1 l0_1.length c0_1, .int .i64 a0_2]] rfl (by (try simp only [List.map_toArray, List.map_cons, List.map_nil]); first | done | rfl | (simp only [List.length_drop, List.length_take]; rfl)) ?_; (with_reducible refine (hibernaclelaw15_Great.calls k _ _ l0_0 _ _ l0_1 a0_2 t444 _ ?side1 ?side2 ?side3 ?side4 A3.out).mono ?_); (case side1 => repeat (first | exact (Kd.C_below HR0_0.out HB.out) | (with_reducible refine Kd.C_alloc ?_ _) | (with_reducible refine Kd.C_drewN ?_ _) | (with_reducible refine Kd.C_drew ?_))); (case side2 => exact HC0_0.out); (case side3 => repeat (first | exact (Kd.C_below HR0_1.out HB.out) | (with_reducible refine Kd.C_alloc ?_ _) | (with_reducible refine Kd.C_drewN ?_ _) | (with_reducible refine Kd.C_drew ?_))); (case side4 => exact HC0_1.out); rintro e w85 ⟨rfl, hb⟩; refine ⟨_, rfl, ?_⟩; have n0_ := Aside0.mk (blk_below (g := gb443) (o := .cells #[.slice A0_0 l0_0.length c0_0, .slice A0_1 l0_1.length c0_1, .int .i64 a0_2] 29 (0, 0)) (by (with_reducible repeat (first | refine blk_drewN ?_ _ | refine blk_drew ?_ | refine blk_alloc ?_ _)); exact BK443.out) hb); have n1_ := Aside0.mk (below_step (by repeat (first | (with_reducible first | exact HB.out | apply below_alloc | apply pw_below_drewN | apply below_drew1 | refine below_set ?_ GE443.out) | exact HB.out)) hb); clear BK443; clear HB; have BK443 := n0_; have HB := n1_; clear n0_ n1_; (try clear hb); (try clear hb2); (try clear hk); (try clear hi)) | ((with_reducible refine gate_callee (f := 32) rfl ?_); refine goesL_ (some 15) rfl rfl Try.func32 (by kernel_rfl) rfl #[.int .i64 a1] rfl (by (try simp only [List.map_toArray, List.map_cons, List.map_nil]); first | done | rfl | (simp only [List.length_drop, List.length_take]; rfl)) ?_; (with_reducible refine (drive_New.calls k a1 t446 t449 t452 t453 _ A10.out).mono ?_); rintro e w86 ⟨v447, v450, rfl, ho0, ho1, hb⟩; refine ⟨_, rfl, ?_⟩; have n0_ := Aside0.mk (Kd.R_lower ho0 (below_size (by repeat (first | (with_reducible first | exact HB.out | apply below_alloc | apply pw_below_drewN | apply below_drew1 | refine below_set ?_ GE443.out) | exact HB.out)))); have n1_ := Aside0.mk (Kd.R_lower ho1 (below_size (by repeat (first | (with_reducible first | exact HB.out | apply below_alloc | apply pw_below_drewN | apply below_drew1 | refine below_set ?_ GE443.out) | exact HB.out)))); have n2_ := Aside0.mk (blk_below (g := gb443) (o := .cells #[.slice A0_0 l0_0.length c0_0, .slice A0_1 l0_1.length c0_1, .int .i64 a0_2] 29 (0, 0)) (by (with_reducible repeat (first | refine blk_drewN ?_ _ | refine blk_drew ?_ | refine blk_alloc ?_ _)); exact BK443.out) hb); have n3_ := Aside0.mk (below_step (by repeat (first | (with_reducible first | exact HB.out | apply below_alloc | apply pw_below_drewN | apply below_drew1 | refine below_set ?_ GE443.out) | exact HB.out)) hb); clear BK443; clear HB; have HO448 := n0_; have HO451 := n1_; have BK443 := n2_; have HB := n3_; clear n0_ n1_ n2_ n3_; (try clear hb); (try clear hb2); (try clear hk); (try clear hi); (try clear ho0); (try clear ho1)) | ((with_reducible refine gate_dst (N := 5) rfl ?_); refine box_event ?hg (N := 5) ?hd (cs := #[.slice none 0 0, .slice none 0 0, .int .i64 0]) (t := 29) ?hr ?_; (case hd => rfl); (case hg => rfl); (case hr => first | (go_simp; done) | (go_simp; rfl)); intro gb454 hg w87 hbox hb; have n0_ := Aside0.mk (Kd.R_below (by (with_reducible repeat (first | apply Kd.R_alloc | apply Kd.R_drewN | apply Kd.R_drew)); exact HO448.out) hb); have n1_ := Aside0.mk (Kd.R_below (by (with_reducible repeat (first | apply Kd.R_alloc | apply Kd.R_drewN | apply Kd.R_drew)); exact HO451.out) hb); have n2_ := Aside0.mk (blk_below (g := gb443) (o := .cells #[.slice A0_0 l0_0.length c0_0, .slice A0_1 l0_1.length c0_1, .int .i64 a0_2] 29 (0, 0)) (by (with_reducible repeat (first | refine blk_drewN ?_ _ | refine blk_drew ?_ | refine blk_alloc ?_ _)); exact BK443.out) hb); have n3_ := Aside0.mk (below_step (by repeat (first | (with_reducible first | exact HB.out | apply below_alloc | apply pw_below_drewN | apply below_drew1 | refine below_set ?_ GE443.out) | exact HB.out)) hb); have n4_ := Aside0.mk (hbox); have n5_ := Aside0.mk ((by rw [hg]; exact (below_size (by repeat (first | (with_reducible first | exact HB.out | apply below_alloc | apply pw_below_drewN | apply below_drew1 | refine below_set ?_ GE443.out) | exact HB.out))) : w.heap.size ≤ gb454)); have n6_ := Aside0.mk ((by rw [hg]; exact (below_size (by repeat (first | (with_reducible first | exact HB.out | apply below_alloc | apply pw_below_drewN | apply below_drew1 | refine below_set ?_ GE443.out) | exact HB.out))) : w.heap.size ≤ gb454)); have n7_ := Aside0.mk ((by rw [hg]; exact Nat.ne_of_lt (blk_lt (g := gb443) (o := .cells #[.slice A0_0 l0_0.length c0_0, .slice A0_1 l0_1.length c0_1, .int .i64 a0_2] 29 (0, 0)) (by (with_reducible repeat (first | refine blk_drewN ?_ _ | refine blk_drew ?_ | refine blk_alloc ?_ _)); exact BK443.out)) : gb443 ≠ gb454)); have n8_ := Aside0.mk ((by rw [hg]; exact Nat.ne_of_gt (blk_lt (g := gb443) (o := .cells #[.slice A0_0 l0_0.length c0_0, .slice A0_1 l0_1.length c0_1, .int .i64 a0_2] 29 (0, 0)) (by (with_reducible repeat (first | refine blk_drewN ?_ _ | refine blk_drew ?_ | refine blk_alloc ?_ _)); exact BK443.out)) : gb454 ≠ gb443)); clear HO448; clear HO451; clear BK443; clear HB; have HO448 := n0_; have HO451 := n1_; have BK443 := n2_; have HB := n3_; have BK454 := n4_; have GW454 := n5_; have GE454 := n6_; have NB443_454 := n7_; have NB454_443 := n8_; clear n0_ n1_ n2_ n3_ n4_ n5_ n6_ n7_ n8_; clear hb hbox hg; obtain ⟨Ao88, co88, eo88⟩ := Kd.R_slice HO448.out; subst eo88; have hnb89 := NB454_443.out; have hnc89 := NB443_454.out; have hcz90_0 : w87.cell? ⟨gb454, 0, none⟩ = some (.slice none 0 0) := (blk_cell BK454.out 0).trans rfl; have hcz90_1 : w87.cell? ⟨gb454, 1, none⟩ = some (.slice none 0 0) := (blk_cell BK454.out 1).trans rfl; have hcz90_2 : w87.cell? ⟨gb454, 2, none⟩ = some (.int .i64 0) := (blk_cell BK454.out 2).trans rfl; have hfz90_0 := blk_frozen BK454.out 0; have hfz90_1 := blk_frozen BK454.out 1; have hfz90_2 := blk_frozen BK454.out 2; obtain ⟨Ao91, co91, eo91⟩ := Kd.R_slice HO451.out; subst eo91) | ((with_reducible refine gate_callee (f := 33) rfl ?_); refine goesL_ (some 20) rfl rfl Try.func33 (by kernel_rfl) rfl #[.int .i64 a1] rfl (by (try simp only [List.map_toArray, List.map_cons, List.map_nil]); first | done | rfl | (simp only [List.length_drop, List.length_take]; rfl)) ?_; (with_reducible refine (hibernacleref15_New.calls k a1 t455 t458 t461 t462 _ A11.out).mono ?_); rintro e w92 ⟨v456, v459, rfl, ho0, ho1, hb⟩; refine ⟨_, rfl, ?_⟩; have n0_ := Aside0.mk (Kd.R_elder' (by (with_reducible repeat (first | apply Kd.R_alloc | apply Kd.R_drewN | apply Kd.R_drew)); exact (Kd.R_mono (Kd.R_far (p := ⟨gb454, 2, none⟩) (Kd.R_far (p := ⟨gb454, 1, none⟩) (Kd.R_far (p := ⟨gb454, 0, none⟩) (Kd.R_types HO448.out BK454.out (by decide)) (fun _ hk => hk.2) (.slice Ao88 t446.length co88)) (fun _ hk => hk.2) (.slice Ao91 t449.length co91)) (fun _ hk => hk.2) (.int .i64 t452)) (fun _ h_ => h_.1))) (Kd.R_base ho0) hb); have n1_ := Aside0.mk (Kd.R_elder' (by (with_reducible repeat (first | apply Kd.R_alloc | apply Kd.R_drewN | apply Kd.R_drew)); exact (Kd.R_mono (Kd.R_far (p := ⟨gb454, 2, none⟩) (Kd.R_far (p := ⟨gb454, 1, none⟩) (Kd.R_far (p := ⟨gb454, 0, none⟩) (Kd.R_types HO451.out BK454.out (by decide)) (fun _ hk => hk.2) (.slice Ao88 t446.length co88)) (fun _ hk => hk.2) (.slice Ao91 t449.length co91)) (fun _ hk => hk.2) (.int .i64 t452)) (fun _ h_ => h_.1))) (Kd.R_base ho1) hb); have n2_ := Aside0.mk (Kd.R_lower (Kd.R_new' ho0 (Kd.R_lt (by (with_reducible repeat (first | apply Kd.R_alloc | apply Kd.R_drewN | apply Kd.R_drew)); exact (Kd.R_mono (Kd.R_far (p := ⟨gb454, 2, none⟩) (Kd.R_far (p := ⟨gb454, 1, none⟩) (Kd.R_far (p := ⟨gb454, 0, none⟩) (Kd.R_types HO448.out BK454.out (by decide)) (fun _ hk => hk.2) (.slice Ao88 t446.length co88)) (fun _ hk => hk.2) (.slice Ao91 t449.length co91)) (fun _ hk => hk.2) (.int .i64 t452)) (fun _ h_ => h_.1))))) (below_size (by repeat (first | (with_reducible first | exact HB.out | apply below_alloc | apply pw_below_drewN | apply below_drew1 | refine below_set ?_ GE443.out | refine below_set ?_ GE454.out) | exact HB.out)))); have n3_ := Aside0.mk (Kd.R_lower (Kd.R_new' ho1 (Kd.R_lt (by (with_reducible repeat (first | apply Kd.R_alloc | apply Kd.R_drewN | apply Kd.R_drew)); exact (Kd.R_mono (Kd.R_far (p := ⟨gb454, 2, none⟩) (Kd.R_far (p := ⟨gb454, 1, none⟩) (Kd.R_far (p := ⟨gb454, 0, none⟩) (Kd.R_types HO451.out BK454.out (by decide)) (fun _ hk => hk.2) (.slice Ao88 t446.length co88)) (fun _ hk => hk.2) (.slice Ao91 t449.length co91)) (fun _ hk => hk.2) (.int .i64 t452)) (fun _ h_ => h_.1))))) (below_size (by repeat (first | (with_reducible first | exact HB.out | apply below_alloc | apply pw_below_drewN | apply below_drew1 | refine below_set ?_ GE443.out | refine below_set ?_ GE454.out) | exact HB.out)))); have n4_ := Aside0.mk (blk_below (g := gb443) (o := .cells #[.slice A0_0 l0_0.length c0_0, .slice A0_1 l0_1.length c0_1, .int .i64 a0_2] 29 (0, 0)) (by (with_reducible repeat (first | refine blk_drewN ?_ _ | refine blk_drew ?_ | refine blk_alloc ?_ _)); refine blk_far ?_ NB443_454.out _; (with_reducible repeat (first | refine blk_drewN ?_ _ | refine blk_drew ?_ | refine blk_alloc ?_ _)); refine blk_far ?_ NB443_454.out _; (with_reducible repeat (first | refine blk_drewN ?_ _ | refine blk_drew ?_ | refine blk_alloc ?_ _)); refine blk_far ?_ NB443_454.out _; (with_reducible repeat (first | refine blk_drewN ?_ _ | refine blk_drew ?_ | refine blk_alloc ?_ _)); exact BK443.out) hb); have n5_ := Aside0.mk (blk_below (g := gb454) (o := .cells #[.slice Ao88 t446.length co88, .slice Ao91 t449.length co91, .int .i64 t452] 29 (0, 0)) (by (with_reducible repeat (first | refine blk_drewN ?_ _ | refine blk_drew ?_ | refine blk_alloc ?_ _)); refine blk_put (cs := #[.slice Ao88 t446.length co88, .slice Ao91 t449.length co91, .int .i64 0]) ?_ 2 _ rfl; (with_reducible repeat (first | refine blk_drewN ?_ _ | refine blk_drew ?_ | refine blk_alloc ?_ _)); refine blk_put (cs := #[.slice Ao88 t446.length co88, .slice none 0 0, .int .i64 0]) ?_ 1 _ rfl; (with_reducible repeat (first | refine blk_drewN ?_ _ | refine blk_drew ?_ | refine blk_alloc ?_ _)); refine blk_put (cs := #[.slice none 0 0, .slice none 0 0, .int .i64 0]) ?_ 0 _ rfl; (with_reducible repeat (first | refine blk_drewN ?_ _ | refine blk_drew ?_ | refine blk_alloc ?_ _)); exact BK454.out) hb); have n6_ := Aside0.mk (below_step (by repeat (first | (with_reducible first | exact HB.out | apply below_alloc | apply pw_below_drewN | apply below_drew1 | refine below_set ?_ GE443.out | refine below_set ?_ GE454.out) | exact HB.out)) hb); clear HO448; clear HO451; clear BK443; clear BK454; clear HB; have HO448 := n0_; have HO451 := n1_; have HO457 := n2_; have HO460 := n3_; have BK443 := n4_; have BK454 := n5_; have HB := n6_; clear n0_ n1_ n2_ n3_ n4_ n5_ n6_; (try clear hb); (try clear hb2); (try clear hk); (try clear hi); (try clear ho0); (try clear ho1)) | ((with_reducible refine gate_dst (N := 7) rfl ?_); refine box_event ?hg (N := 7) ?hd (cs := #[.slice none 0 0, .slice none 0 0, .int .i64 0]) (t := 29) ?hr ?_; (case hd => rfl); (case hg => rfl); (case hr => first | (go_simp; done) | (go_simp; rfl)); intro gb463 hg w93 hbox hb; have n0_ := Aside0.mk (Kd.R_below (by (with_reducible repeat (first | apply Kd.R_alloc | apply Kd.R_drewN | apply Kd.R_drew)); exact HO448.out) hb); have n1_ := Aside0.mk (Kd.R_below (by (with_reducible repeat (first | apply Kd.R_alloc | apply Kd.R_drewN | apply Kd.R_drew)); exact HO451.out) hb); have n2_ := Aside0.mk (Kd.R_below (by (with_reducible repeat (first | apply Kd.R_alloc | apply Kd.R_drewN | apply Kd.R_drew)); exact HO457.out) hb); have n3_ := Aside0.mk (Kd.R_below (by (with_reducible repeat (first | apply Kd.R_alloc | apply Kd.R_drewN | apply Kd.R_drew)); exact HO460.out) hb); have n4_ := Aside0.mk (blk_below (g := gb443) (o := .cells #[.slice A0_0 l0_0.length c0_0, .slice A0_1 l0_1.length c0_1, .int .i64 a0_2] 29 (0, 0)) (by (with_reducible repeat (first | refine blk_drewN ?_ _ | refine blk_drew ?_ | refine blk_alloc ?_ _)); exact BK443.out) hb); have n5_ := Aside0.mk (blk_below (g := gb454) (o := .cells #[.slice Ao88 t446.length co88, .slice Ao91 t449.length co91, .int .i64 t452] 29 (0, 0)) (by (with_reducible repeat (first | refine blk_drewN ?_ _ | refine blk_drew ?_ | refine blk_alloc ?_ _)); exact BK454.out) hb); have n6_ := Aside0.mk (below_step (by repeat (first | (with_reducible first | exact HB.out | apply below_alloc | apply pw_below_drewN | apply below_drew1 | refine below_set ?_ GE443.out | refine below_set ?_ GE454.out) | exact HB.out)) hb); have n7_ := Aside0.mk (hbox); have n8_ := Aside0.mk ((by rw [hg]; exact (below_size (by repeat (first | (with_reducible first | exact HB.out | apply below_alloc | apply pw_below_drewN | apply below_drew1 | refine below_set ?_ GE443.out | refine below_set ?_ GE454.out) | exact HB.out))) : w.heap.size ≤ gb463)); have n9_ := Aside0.mk ((by rw [hg]; exact (below_size (by repeat (first | (with_reducible first | exact HB.out | apply below_alloc | apply pw_below_drewN | apply below_drew1 | refine below_set ?_ GE443.out | refine below_set ?_ GE454.out) | exact HB.out))) : w.heap.size ≤ gb463)); have n10_ := Aside0.mk ((by rw [hg]; exact Nat.ne_of_lt (blk_lt (g := gb443) (o := .cells #[.slice A0_0 l0_0.length c0_0, .slice A0_1 l0_1.length c0_1, .int .i64 a0_2] 29 (0, 0)) (by (with_reducible repeat (first | refine blk_drewN ?_ _ | refine blk_drew ?_ | refine blk_alloc ?_ _)); exact BK443.out)) : gb443 ≠ gb463)); have n11_ := Aside0.mk ((by rw [hg]; exact Nat.ne_of_gt (blk_lt (g := gb443) (o := .cells #[.slice A0_0 l0_0.length c0_0, .slice A0_1 l0_1.length c0_1, .int .i64 a0_2] 29 (0, 0)) (by (with_reducible repeat (first | refine blk_drewN ?_ _ | refine blk_drew ?_ | refine blk_alloc ?_ _)); exact BK443.out)) : gb463 ≠ gb443)); have n12_ := Aside0.mk ((by rw [hg]; exact Nat.ne_of_lt (blk_lt (g := gb454) (o := .cells #[.slice Ao88 t446.length co88, .slice Ao91 t449.length co91, .int .i64 t452] 29 (0, 0)) (by (with_reducible repeat (first | refine blk_drewN ?_ _ | refine blk_drew ?_ | refine blk_alloc ?_ _)); exact BK454.out)) : gb454 ≠ gb463)); have n13_ := Aside0.mk ((by rw [hg]; exact Nat.ne_of_gt (blk_lt (g := gb454) (o := .cells #[.slice Ao88 t446.length co88, .slice Ao91 t449.length co91, .int .i64 t452] 29 (0, 0)) (by (with_reducible repeat (first | refine blk_drewN ?_ _ | refine blk_drew ?_ | refine blk_alloc ?_ _)); exact BK454.out)) : gb463 ≠ gb454)); clear HO448; clear HO451; clear HO457; clear HO460; clear BK443; clear BK454; clear HB; have HO448 := n0_; have HO451 := n1_; have HO457 := n2_; have HO460 := n3_; have BK443 := n4_; have BK454 := n5_; have HB := n6_; have BK463 := n7_; have GW463 := n8_; have GE463 := n9_; have NB443_463 := n10_; have NB463_443 := n11_; have NB454_463 := n12_; have NB463_454 := n13_; clear n0_ n1_ n2_ n3_ n4_ n5_ n6_ n7_ n8_ n9_ n10_ n11_ n12_ n13_; clear hb hbox hg; obtain ⟨Ao94, co94, eo94⟩ := Kd.R_slice HO457.out; subst eo94; have hnb95 := NB463_443.out; have hnc95 := NB443_463.out; have hnb96 := NB463_454.out; have hnc96 := NB454_463.out; have hcz97_0 : w93.cell? ⟨gb463, 0, none⟩ = some (.slice none 0 0) := (blk_cell BK463.out 0).trans rfl; have hcz97_1 : w93.cell? ⟨gb463, 1, none⟩ = some (.slice none 0 0) := (blk_cell BK463.out 1).trans rfl; have hcz97_2 : w93.cell? ⟨gb463, 2, none⟩ = some (.int .i64 0) := (blk_cell BK463.out 2).trans rfl; have hfz97_0 := blk_frozen BK463.out 0; have hfz97_1 := blk_frozen BK463.out 1; have hfz97_2 := blk_frozen BK463.out 2; obtain ⟨Ao98, co98, eo98⟩ := Kd.R_slice HO460.out; subst eo98))
      have n0_ : Aside0 (Kd.R Kd.string 9 (((w93.setCell ⟨gb463, 0, none⟩ (.slice Ao94 t455.length co94)).setCell ⟨gb463, 1, none⟩ (.slice Ao98 t458.length co98)).setCell ⟨gb463, 2, none⟩ (.int .i64 t461)) w.heap.size (fun k_ => some k_ ≠ (.slice Ao94 t455.length co94 : Value).ownBlock) (.slice Ao88 t446.length co88) t446) := ⟨by (with_reducible repeat (first | apply Kd.R_alloc | apply Kd.R_drewN | apply Kd.R_drew)); exact Kd.R_mono (Kd.R_far (p := ⟨gb463, 2, none⟩) (Kd.R_far (p := ⟨gb463, 1, none⟩) (Kd.R_far (p := ⟨gb463, 0, none⟩) (Kd.R_types HO448.out BK463.out (by decide)) (fun _ hk => hk.2) (.slice Ao94 t455.length co94)) (fun _ hk => hk.2) (.slice Ao98 t458.length co98)) (fun _ hk => hk.2) (.int .i64 t461)) (fun _ hk => hk.1.2)⟩
      have n1_ : Aside0 (Kd.R k27 27 (((w93.setCell ⟨gb463, 0, none⟩ (.slice Ao94 t455.length co94)).setCell ⟨gb463, 1, none⟩ (.slice Ao98 t458.length co98)).setCell ⟨gb463, 2, none⟩ (.int .i64 t461)) w.heap.size (fun k_ => some k_ ≠ (.slice Ao98 t458.length co98 : Value).ownBlock) (.slice Ao91 t449.length co91) t449) := ⟨by (with_reducible repeat (first | apply Kd.R_alloc | apply Kd.R_drewN | apply Kd.R_drew)); exact Kd.R_mono (Kd.R_far (p := ⟨gb463, 2, none⟩) (Kd.R_far (p := ⟨gb463, 1, none⟩) (Kd.R_far (p := ⟨gb463, 0, none⟩) (Kd.R_types HO451.out BK463.out (by decide)) (fun _ hk => hk.2) (.slice Ao94 t455.length co94)) (fun _ hk => hk.2) (.slice Ao98 t458.length co98)) (fun _ hk => hk.2) (.int .i64 t461)) (fun _ hk => hk.1.2)⟩
      have n2_ : Aside0 (Kd.R Kd.string 9 (((w93.setCell ⟨gb463, 0, none⟩ (.slice Ao94 t455.length co94)).setCell ⟨gb463, 1, none⟩ (.slice Ao98 t458.length co98)).setCell ⟨gb463, 2, none⟩ (.int .i64 t461)) w.heap.size (fun k_ => some k_ ≠ (.slice Ao88 t446.length co88 : Value).ownBlock) (.slice Ao94 t455.length co94) t455) := ⟨by (with_reducible repeat (first | apply Kd.R_alloc | apply Kd.R_drewN | apply Kd.R_drew)); exact Kd.R_mono (Kd.R_far (p := ⟨gb463, 2, none⟩) (Kd.R_far (p := ⟨gb463, 1, none⟩) (Kd.R_far (p := ⟨gb463, 0, none⟩) (Kd.R_types HO457.out BK463.out (by decide)) (fun _ hk => hk.2) (.slice Ao94 t455.length co94)) (fun _ hk => hk.2) (.slice Ao98 t458.length co98)) (fun _ hk => hk.2) (.int .i64 t461)) (fun _ hk => hk.1.2)⟩
      have n3_ : Aside0 (Kd.R k27 27 (((w93.setCell ⟨gb463, 0, none⟩ (.slice Ao94 t455.length co94)).setCell ⟨gb463, 1, none⟩ (.slice Ao98 t458.length co98)).setCell ⟨gb463, 2, none⟩ (.int .i64 t461)) w.heap.size (fun k_ => some k_ ≠ (.slice Ao91 t449.length co91 : Value).ownBlock) (.slice Ao98 t458.length co98) t458) := ⟨by (with_reducible repeat (first | apply Kd.R_alloc | apply Kd.R_drewN | apply Kd.R_drew)); exact Kd.R_mono (Kd.R_far (p := ⟨gb463, 2, none⟩) (Kd.R_far (p := ⟨gb463, 1, none⟩) (Kd.R_far (p := ⟨gb463, 0, none⟩) (Kd.R_types HO460.out BK463.out (by decide)) (fun _ hk => hk.2) (.slice Ao94 t455.length co94)) (fun _ hk => hk.2) (.slice Ao98 t458.length co98)) (fun _ hk => hk.2) (.int .i64 t461)) (fun _ hk => hk.1.2)⟩
      have n4_ : Aside0 ((((w93.setCell ⟨gb463, 0, none⟩ (.slice Ao94 t455.length co94)).setCell ⟨gb463, 1, none⟩ (.slice Ao98 t458.length co98)).setCell ⟨gb463, 2, none⟩ (.int .i64 t461)).heap[gb443]? = some (.cells #[.slice A0_0 l0_0.length c0_0, .slice A0_1 l0_1.length c0_1, .int .i64 a0_2] 29 (0, 0))) := ⟨by (with_reducible repeat (first | refine blk_drewN ?_ _ | refine blk_drew ?_ | refine blk_alloc ?_ _)); refine blk_far ?_ NB443_463.out _; (with_reducible repeat (first | refine blk_drewN ?_ _ | refine blk_drew ?_ | refine blk_alloc ?_ _)); refine blk_far ?_ NB443_463.out _; (with_reducible repeat (first | refine blk_drewN ?_ _ | refine blk_drew ?_ | refine blk_alloc ?_ _)); refine blk_far ?_ NB443_463.out _; (with_reducible repeat (first | refine blk_drewN ?_ _ | refine blk_drew ?_ | refine blk_alloc ?_ _)); exact BK443.out⟩
      have n5_ : Aside0 ((((w93.setCell ⟨gb463, 0, none⟩ (.slice Ao94 t455.length co94)).setCell ⟨gb463, 1, none⟩ (.slice Ao98 t458.length co98)).setCell ⟨gb463, 2, none⟩ (.int .i64 t461)).heap[gb454]? = some (.cells #[.slice Ao88 t446.length co88, .slice Ao91 t449.length co91, .int .i64 t452] 29 (0, 0))) := ⟨by (with_reducible repeat (first | refine blk_drewN ?_ _ | refine blk_drew ?_ | refine blk_alloc ?_ _)); refine blk_far ?_ NB454_463.out _; (with_reducible repeat (first | refine blk_drewN ?_ _ | refine blk_drew ?_ | refine blk_alloc ?_ _)); refine blk_far ?_ NB454_463.out _; (with_reducible repeat (first | refine blk_drewN ?_ _ | refine blk_drew ?_ | refine blk_alloc ?_ _)); refine blk_far ?_ NB454_463.out _; (with_reducible repeat (first | refine blk_drewN ?_ _ | refine blk_drew ?_ | refine blk_alloc ?_ _)); exact BK454.out⟩
      have n6_ : Aside0 ((((w93.setCell ⟨gb463, 0, none⟩ (.slice Ao94 t455.length co94)).setCell ⟨gb463, 1, none⟩ (.slice Ao98 t458.length co98)).setCell ⟨gb463, 2, none⟩ (.int .i64 t461)).heap[gb463]? = some (.cells #[.slice Ao94 t455.length co94, .slice Ao98 t458.length co98, .int .i64 t461] 29 (0, 0))) := ⟨by (with_reducible repeat (first | refine blk_drewN ?_ _ | refine blk_drew ?_ | refine blk_alloc ?_ _)); refine blk_put (cs := #[.slice Ao94 t455.length co94, .slice Ao98 t458.length co98, .int .i64 0]) ?_ 2 _ rfl; (with_reducible repeat (first | refine blk_drewN ?_ _ | refine blk_drew ?_ | refine blk_alloc ?_ _)); refine blk_put (cs := #[.slice Ao94 t455.length co94, .slice none 0 0, .int .i64 0]) ?_ 1 _ rfl; (with_reducible repeat (first | refine blk_drewN ?_ _ | refine blk_drew ?_ | refine blk_alloc ?_ _)); refine blk_put (cs := #[.slice none 0 0, .slice none 0 0, .int .i64 0]) ?_ 0 _ rfl; (with_reducible repeat (first | refine blk_drewN ?_ _ | refine blk_drew ?_ | refine blk_alloc ?_ _)); exact BK463.out⟩
      have n7_ : Aside0 (Below w.heap.size w (((w93.setCell ⟨gb463, 0, none⟩ (.slice Ao94 t455.length co94)).setCell ⟨gb463, 1, none⟩ (.slice Ao98 t458.length co98)).setCell ⟨gb463, 2, none⟩ (.int .i64 t461))) := ⟨by repeat (first | (with_reducible first | exact HB.out | apply below_alloc | apply pw_below_drewN | apply below_drew1 | refine below_set ?_ GE443.out | refine below_set ?_ GE454.out | refine below_set ?_ GE463.out) | exact HB.out)⟩
      (try clear HO448)
      (try clear HO451)
      (try clear HO457)
      (try clear HO460)
      (try clear BK443)
      (try clear BK454)
      (try clear BK463)
      (try clear HB)
      generalize (((w93.setCell ⟨gb463, 0, none⟩ (.slice Ao94 t455.length co94)).setCell ⟨gb463, 1, none⟩ (.slice Ao98 t458.length co98)).setCell ⟨gb463, 2, none⟩ (.int .i64 t461)) = w99 at n0_ n1_ n2_ n3_ n4_ n5_ n6_ n7_ ⊢
      have HO448 := n0_
      have HO451 := n1_
      have HO457 := n2_
      have HO460 := n3_
      have BK443 := n4_
      have BK454 := n5_
      have BK463 := n6_
      have HB := n7_
      clear n0_ n1_ n2_ n3_ n4_ n5_ n6_ n7_
      have n0_ := Aside0.mk (Kd.R_drew HO448.out)
      have n1_ := Aside0.mk (Kd.R_drew HO451.out)
      have n2_ := Aside0.mk (Kd.R_drew HO457.out)
      have n3_ := Aside0.mk (Kd.R_drew HO460.out)
      have n4_ := Aside0.mk (blk_drew BK443.out)
      have n5_ := Aside0.mk (blk_drew BK454.out)
      have n6_ := Aside0.mk (blk_drew BK463.out)
      have n7_ := Aside0.mk (below_drew1 HB.out)
      clear HO448
      clear HO451
      clear HO457
      clear HO460
      clear BK443
      clear BK454
      clear BK463
      clear HB
      have HO448 := n0_
      have HO451 := n1_
      have HO457 := n2_
      have HO460 := n3_
      have BK443 := n4_
      have BK454 := n5_
      have BK463 := n6_
      have HB := n7_
      clear n0_ n1_ n2_ n3_ n4_ n5_ n6_ n7_
      refine start_ (n := 19) (S := fun w' => True) (ds := []) #[false, false, false, false, false, false, false, false, false, false, false, false, false, false, false, false, false, false, false] (by kernel_rfl) rfl rfl trivial (fun hHeld => ?_); refine with_tabW hibernaclelaw15_DriveChecks.tab5 hibernaclelaw15_DriveChecks.bits5 (fun HT_ HW_ => ?_)
      generalize w99.drew = w100 at HO448 HO451 HO457 HO460 BK443 BK454 BK463 HB hHeld ⊢
      refine one_ (i := 0) (N := some 23) #[true, false, false, false, false, false, false, false, false, false, false, false, false, false, false, false, false, false, false] rfl rfl (one_of HT_.out (by kernel_rfl)) (by decide) (fun K hK => ?_)
      refine goes_ Try.func31 (by kernel_rfl) rfl #[] (by rfl) rfl rfl (by (try simp only [List.map_toArray, List.map_cons, List.map_nil]); first | done | rfl | (simp only [List.length_drop, List.length_take]; rfl)) ?_
      with_reducible refine (hibernaclelaw15_fixed.calls  false _ A12.out).mono ?_
      rintro e w101 ⟨rfl, hb⟩
      refine ⟨_, rfl, ?_⟩
      have n0_ := Aside0.mk (Kd.R_below (by (with_reducible repeat (first | apply Kd.R_alloc | apply Kd.R_drewN | apply Kd.R_drew)); exact HO448.out) hb)
      have n1_ := Aside0.mk (Kd.R_below (by (with_reducible repeat (first | apply Kd.R_alloc | apply Kd.R_drewN | apply Kd.R_drew)); exact HO451.out) hb)
      have n2_ := Aside0.mk (Kd.R_below (by (with_reducible repeat (first | apply Kd.R_alloc | apply Kd.R_drewN | apply Kd.R_drew)); exact HO457.out) hb)
      have n3_ := Aside0.mk (Kd.R_below (by (with_reducible repeat (first | apply Kd.R_alloc | apply Kd.R_drewN | apply Kd.R_drew)); exact HO460.out) hb)
      have n4_ := Aside0.mk (blk_below (g := gb443) (o := .cells #[.slice A0_0 l0_0.length c0_0, .slice A0_1 l0_1.length c0_1, .int .i64 a0_2] 29 (0, 0)) (by (with_reducible repeat (first | refine blk_drewN ?_ _ | refine blk_drew ?_ | refine blk_alloc ?_ _)); exact BK443.out) hb)
      have n5_ := Aside0.mk (blk_below (g := gb454) (o := .cells #[.slice Ao88 t446.length co88, .slice Ao91 t449.length co91, .int .i64 t452] 29 (0, 0)) (by (with_reducible repeat (first | refine blk_drewN ?_ _ | refine blk_drew ?_ | refine blk_alloc ?_ _)); exact BK454.out) hb)
      have n6_ := Aside0.mk (blk_below (g := gb463) (o := .cells #[.slice Ao94 t455.length co94, .slice Ao98 t458.length co98, .int .i64 t461] 29 (0, 0)) (by (with_reducible repeat (first | refine blk_drewN ?_ _ | refine blk_drew ?_ | refine blk_alloc ?_ _)); exact BK463.out) hb)
      have n7_ := Aside0.mk (below_step (by repeat (first | (with_reducible first | exact HB.out | apply below_alloc | apply pw_below_drewN | apply below_drew1 | refine below_set ?_ GE443.out | refine below_set ?_ GE454.out | refine below_set ?_ GE463.out) | exact HB.out)) hb)
      clear HO448
      clear HO451
      clear HO457
      clear HO460
      clear BK443
      clear BK454
      clear BK463
      clear HB
      have HO448 := n0_
      have HO451 := n1_
      have HO457 := n2_
      have HO460 := n3_
      have BK443 := n4_
      have BK454 := n5_
      have BK463 := n6_
      have HB := n7_
      clear n0_ n1_ n2_ n3_ n4_ n5_ n6_ n7_
      (try clear hb)
      (try clear hb2)
      (try clear hk)
      (try clear hi)
      refine hK.out _ _ trivial (fun hHeld => ?_)
      clear hK K
      refine norm_ (a' := ?_) ?_ ?_
      rotate_left
      · show Act.put _ (some 23) _ = _
        simp only [Act.put, List.setIfInBounds_toArray, List.set_cons_zero, List.set_cons_succ, i64_w, i32_w]
        rfl
      refine pure_ (i := 1) (N := some 24) (v := ?_) (a' := ?_) #[true, true, false, false, false, false, false, false, false, false, false, false, false, false, false, false, false, false, false] rfl rfl (any_of HT_.out (by kernel_rfl)) (fun _ _ _ h => h) (Or.inl ⟨by rfl, ?_⟩) ?_ ?_
      rotate_left
      · intro w'
        go_simp
        with_reducible rfl
      rotate_left
      · simp only [Act.put, List.setIfInBounds_toArray, List.set_cons_zero, List.set_cons_succ, i64_w, i32_w]
        rfl
      refine pure_ (i := 2) (N := some 25) (v := undef) (a' := ?_) #[true, true, true, false, false, false, false, false, false, false, false, false, false, false, false, false, false, false, false] rfl rfl (any_of HT_.out (by kernel_rfl)) (fun _ _ _ h => h) (Or.inr ⟨by rfl, rfl⟩) ?_ ?_
      rotate_left
      · simp only [Act.put, List.setIfInBounds_toArray, List.set_cons_zero, List.set_cons_succ, i64_w, i32_w]
        rfl
      refine pure_ (i := 3) (N := some 26) (v := undef) (a' := ?_) #[true, true, true, true, false, false, false, false, false, false, false, false, false, false, false, false, false, false, false] rfl rfl (any_of HT_.out (by kernel_rfl)) (fun _ _ _ h => h) (Or.inr ⟨by rfl, rfl⟩) ?_ ?_
      rotate_left
      · simp only [Act.put, List.setIfInBounds_toArray, List.set_cons_zero, List.set_cons_succ, i64_w, i32_w]
        rfl
      refine pure_ (i := 4) (N := some 27) (v := undef) (a' := ?_) #[true, true, true, true, true, false, false, false, false, false, false, false, false, false, false, false, false, false, false] rfl rfl (any_of HT_.out (by kernel_rfl)) (fun _ _ _ h => h) (Or.inr ⟨by rfl, rfl⟩) ?_ ?_
      rotate_left
      · simp only [Act.put, List.setIfInBounds_toArray, List.set_cons_zero, List.set_cons_succ, i64_w, i32_w]
        rfl
      refine pure_ (i := 5) (N := some 28) (v := undef) (a' := ?_) #[true, true, true, true, true, true, false, false, false, false, false, false, false, false, false, false, false, false, false] rfl rfl (any_of HT_.out (by kernel_rfl)) (fun _ _ _ h => h) (Or.inr ⟨by rfl, rfl⟩) ?_ ?_
      rotate_left
      · simp only [Act.put, List.setIfInBounds_toArray, List.set_cons_zero, List.set_cons_succ, i64_w, i32_w]
        rfl
      refine pure_ (i := 6) (N := some 29) (v := undef) (a' := ?_) #[true, true, true, true, true, true, true, false, false, false, false, false, false, false, false, false, false, false, false] rfl rfl (any_of HT_.out (by kernel_rfl)) (fun _ _ _ h => h) (Or.inr ⟨by rfl, rfl⟩) ?_ ?_
      rotate_left
      · simp only [Act.put, List.setIfInBounds_toArray, List.set_cons_zero, List.set_cons_succ, i64_w, i32_w]
        rfl
      refine pure_ (i := 7) (N := some 30) (v := ?_) (a' := ?_) #[true, true, true, true, true, true, true, true, false, false, false, false, false, false, false, false, false, false, false] rfl rfl (any_of HT_.out (by kernel_rfl)) (fun _ _ _ h => h) (Or.inl ⟨by rfl, ?_⟩) ?_ ?_
      rotate_left
      · intro w'
        go_simp
        with_reducible rfl
      rotate_left
      · simp only [Act.put, List.setIfInBounds_toArray, List.set_cons_zero, List.set_cons_succ, i64_w, i32_w]
        rfl
      refine pure_ (i := 8) (N := some 31) (v := ?_) (a' := ?_) #[true, true, true, true, true, true, true, true, true, false, false, false, false, false, false, false, false, false, false] rfl rfl (any_of HT_.out (by kernel_rfl)) (fun _ _ _ h => h) (Or.inl ⟨by rfl, ?_⟩) ?_ ?_
      rotate_left
      · intro w'
        go_simp
        with_reducible rfl
      rotate_left
      · simp only [Act.put, List.setIfInBounds_toArray, List.set_cons_zero, List.set_cons_succ, i64_w, i32_w]
        rfl
      refine pure_ (i := 9) (N := some 32) (v := undef) (a' := ?_) #[true, true, true, true, true, true, true, true, true, true, false, false, false, false, false, false, false, false, false] rfl rfl (any_of HT_.out (by kernel_rfl)) (fun _ _ _ h => h) (Or.inr ⟨by rfl, rfl⟩) ?_ ?_
      rotate_left
      · simp only [Act.put, List.setIfInBounds_toArray, List.set_cons_zero, List.set_cons_succ, i64_w, i32_w]
        rfl
      refine pure_ (i := 10) (N := some 33) (v := undef) (a' := ?_) #[true, true, true, true, true, true, true, true, true, true, true, false, false, false, false, false, false, false, false] rfl rfl (any_of HT_.out (by kernel_rfl)) (fun _ _ _ h => h) (Or.inr ⟨by rfl, rfl⟩) ?_ ?_
      rotate_left
      · simp only [Act.put, List.setIfInBounds_toArray, List.set_cons_zero, List.set_cons_succ, i64_w, i32_w]
        rfl
      refine pure_ (i := 11) (N := some 34) (v := undef) (a' := ?_) #[true, true, true, true, true, true, true, true, true, true, true, true, false, false, false, false, false, false, false] rfl rfl (any_of HT_.out (by kernel_rfl)) (fun _ _ _ h => h) (Or.inr ⟨by rfl, rfl⟩) ?_ ?_
      rotate_left
      · simp only [Act.put, List.setIfInBounds_toArray, List.set_cons_zero, List.set_cons_succ, i64_w, i32_w]
        rfl
      refine pure_ (i := 12) (N := some 35) (v := ?_) (a' := ?_) #[true, true, true, true, true, true, true, true, true, true, true, true, true, false, false, false, false, false, false] rfl rfl (any_of HT_.out (by kernel_rfl)) (fun _ _ _ h => h) (Or.inl ⟨by rfl, ?_⟩) ?_ ?_
      rotate_left
      · intro w'
        go_simp
        with_reducible rfl
      rotate_left
      · simp only [Act.put, List.setIfInBounds_toArray, List.set_cons_zero, List.set_cons_succ, i64_w, i32_w]
        rfl
      refine pure_ (i := 13) (N := some 36) (v := ?_) (a' := ?_) #[true, true, true, true, true, true, true, true, true, true, true, true, true, true, false, false, false, false, false] rfl rfl (any_of HT_.out (by kernel_rfl)) (fun _ _ _ h => h) (Or.inl ⟨by rfl, ?_⟩) ?_ ?_
      rotate_left
      · intro w'
        go_simp
        with_reducible rfl
      rotate_left
      · simp only [Act.put, List.setIfInBounds_toArray, List.set_cons_zero, List.set_cons_succ, i64_w, i32_w]
        rfl
      refine pure_ (i := 14) (N := some 37) (v := undef) (a' := ?_) #[true, true, true, true, true, true, true, true, true, true, true, true, true, true, true, false, false, false, false] rfl rfl (any_of HT_.out (by kernel_rfl)) (fun _ _ _ h => h) (Or.inr ⟨by rfl, rfl⟩) ?_ ?_
      rotate_left
      · simp only [Act.put, List.setIfInBounds_toArray, List.set_cons_zero, List.set_cons_succ, i64_w, i32_w]
        rfl
      refine pure_ (i := 15) (N := some 38) (v := undef) (a' := ?_) #[true, true, true, true, true, true, true, true, true, true, true, true, true, true, true, true, false, false, false] rfl rfl (any_of HT_.out (by kernel_rfl)) (fun _ _ _ h => h) (Or.inr ⟨by rfl, rfl⟩) ?_ ?_
      rotate_left
      · simp only [Act.put, List.setIfInBounds_toArray, List.set_cons_zero, List.set_cons_succ, i64_w, i32_w]
        rfl
      refine pure_ (i := 16) (N := some 39) (v := undef) (a' := ?_) #[true, true, true, true, true, true, true, true, true, true, true, true, true, true, true, true, true, false, false] rfl rfl (any_of HT_.out (by kernel_rfl)) (fun _ _ _ h => h) (Or.inr ⟨by rfl, rfl⟩) ?_ ?_
      rotate_left
      · simp only [Act.put, List.setIfInBounds_toArray, List.set_cons_zero, List.set_cons_succ, i64_w, i32_w]
        rfl
      refine pure_ (i := 17) (N := some 40) (v := ?_) (a' := ?_) #[true, true, true, true, true, true, true, true, true, true, true, true, true, true, true, true, true, true, false] rfl rfl (any_of HT_.out (by kernel_rfl)) (fun _ _ _ h => h) (Or.inl ⟨by rfl, ?_⟩) ?_ ?_
      rotate_left
      · intro w'
        go_simp
        with_reducible rfl
      rotate_left
      · simp only [Act.put, List.setIfInBounds_toArray, List.set_cons_zero, List.set_cons_succ, i64_w, i32_w]
        rfl
      refine pure_ (i := 18) (N := some 4) (v := ?_) (a' := ?_) #[true, true, true, true, true, true, true, true, true, true, true, true, true, true, true, true, true, true, true] rfl rfl (any_of HT_.out (by kernel_rfl)) (fun _ _ _ h => h) (Or.inl ⟨by rfl, ?_⟩) ?_ ?_
      rotate_left
      · intro w'
        go_simp
        with_reducible rfl
      rotate_left
      · simp only [Act.put, List.setIfInBounds_toArray, List.set_cons_zero, List.set_cons_succ, i64_w, i32_w]
        rfl
      refine done_ (done_of HT_.out (by kernel_rfl)) ?_
      try go_wp2
      go_ret
      exact ⟨by first | rfl | (simp [errW_none, errW_some] <;> rfl) | (simp [*, errW_none, errW_some] <;> rfl), by repeat (first | (with_reducible first | exact HB.out | apply below_alloc | apply pw_below_drewN | apply below_drew1 | refine below_set ?_ GE443.out | refine below_set ?_ GE454.out | refine below_set ?_ GE463.out) | exact HB.out)⟩

end Go.Proofs.Ytjfmnkmgnbbfgaa.A
