-- Made by drv.py (ours) by way of the kit's print; Lean checks it.
import Derived.Test.YtjfmnkmgnbbfgaaA0
import Derived.Test.YtjfmnkmgnbbfgaaA30
import Derived.Test.YtjfmnkmgnbbfgaaA38
import Derived.Test.YtjfmnkmgnbbfgaaA45
import Derived.Test.YtjfmnkmgnbbfgaaXcheck
import Derived.Test.YtjfmnkmgnbbfgaaXfixed
import Derived.Test.YtjfmnkmgnbbfgaaXland
namespace Go.Proofs.Ytjfmnkmgnbbfgaa.A
open Go.RowKit Go.Proofs.YtjfmnkmgnbbfgaaW.PrintWords Go.Proofs.YtjfmnkmgnbbfgaaW.PrintLast Go.Proofs.YtjfmnkmgnbbfgaaW.PrintMore
attribute [local go_sem] max2_int min2_int max_two min_two max_three min_three max_four min_four   -- for this text's walks alone
set_option linter.unusedVariables false
set_option linter.unusedSimpArgs false

/-! ### hibernaclelaw15_DriveGone: function 8 -/
mutual
def hibernaclelaw15_DriveGone.j0 : Nat → Int → Bool → List ByteArray → List (S27) → Int → Option (Bool)
  | 0, _, _, _, _, _ => none
  | k + 1, x1, x22, x565000, x565001, x565002 => if x22 = true then ((hibernaclelaw15_fixed.f).bind fun t567 => (some t567)) else (hibernaclelaw15_DriveGone.l0 k x565002 (Int.tmod (wrap64 (x1)) 40) 0 x565000 x565001 x565002)
def hibernaclelaw15_DriveGone.l0 : Nat → Int → Int → Int → List ByteArray → List (S27) → Int → Option (Bool)
  | 0, _, _, _, _, _, _ => none
  | k + 1, x5, x28, x29, x565000, x565001, x565002 => if x29 < x28 then ((drive_Flush.f x565000 x565001 x565002).bind fun bt569 => (if (Int.tmod x29 2) = 0 then ((hibernaclelaw15_ones.f k).bind fun t578 => ((drive_Put.f k x565000 x565001 x565002 0 t578).bind fun bt579 => (hibernaclelaw15_DriveGone.j2 k x5 x29 bt579.2.2.2 x28 x29 x565000 x565001 x565002 bt579.1 bt579.2.1 bt579.2.2.1))) else (hibernaclelaw15_DriveGone.j2 k x5 x29 bt569.2.2.2 x28 x29 x565000 x565001 x565002 bt569.1 bt569.2.1 bt569.2.2.1))) else ((hibernaclelaw15_fixed.f).bind fun t568 => (some t568))
def hibernaclelaw15_DriveGone.j2 : Nat → Int → Int → Int → Int → Int → List ByteArray → List (S27) → Int → List ByteArray → List (S27) → Int → Option (Bool)
  | 0, _, _, _, _, _, _, _, _, _, _, _ => none
  | k + 1, x5, x6, x8, x28, x29, x565000, x565001, x565002, x578000, x578001, x578002 => if x5 < 0 then (if ((x8 == 0) != true) = true then (hibernaclelaw15_DriveGone.j3 k x5 x8 x28 x29 true x565000 x565001 x565002 x578000 x578001 x578002) else (if x8 = 0 then (hibernaclelaw15_DriveGone.j3 k x5 x8 x28 x29 false x565000 x565001 x565002 x578000 x578001 x578002) else (hibernaclelaw15_DriveGone.j3 k x5 x8 x28 x29 (x8 != 17) x565000 x565001 x565002 x578000 x578001 x578002))) else (if ((x8 == 0) != (decide (x6 < x5))) = true then (hibernaclelaw15_DriveGone.j3 k x5 x8 x28 x29 true x565000 x565001 x565002 x578000 x578001 x578002) else (if x8 = 0 then (hibernaclelaw15_DriveGone.j3 k x5 x8 x28 x29 false x565000 x565001 x565002 x578000 x578001 x578002) else (hibernaclelaw15_DriveGone.j3 k x5 x8 x28 x29 (x8 != 17) x565000 x565001 x565002 x578000 x578001 x578002)))
def hibernaclelaw15_DriveGone.j3 : Nat → Int → Int → Int → Int → Bool → List ByteArray → List (S27) → Int → List ByteArray → List (S27) → Int → Option (Bool)
  | 0, _, _, _, _, _, _, _, _, _, _, _ => none
  | k + 1, x5, x8, x28, x29, x63, x565000, x565001, x565002, x578000, x578001, x578002 => if x63 = true then (some false) else (if x8 = 0 then (hibernaclelaw15_DriveGone.l0 k x5 x28 (wrap64 (x29 + 1)) x578000 x578001 x578002) else (hibernaclelaw15_DriveGone.l0 k x5 x28 (wrap64 (x29 + 1)) x565000 x565001 x565002))
end
def hibernaclelaw15_DriveGone.f (k : Nat) (l0_0 : List ByteArray) (l0_1 : List (S27)) (a0_2 : Int) (a1 : Int) : Option (Bool) := (hibernaclelaw15_Great.f k l0_0 l0_1 a0_2).bind fun t565 => (if t565 > 0 then (hibernaclelaw15_DriveGone.j0 k a1 true l0_0 l0_1 a0_2) else ((drive_Check.f l0_0 l0_1 a0_2).bind fun t566 => (if t566 = 0 then (hibernaclelaw15_DriveGone.j0 k a1 ((l0_0.length : Int) == 0) l0_0 l0_1 a0_2) else (hibernaclelaw15_DriveGone.j0 k a1 true l0_0 l0_1 a0_2))))
theorem hibernaclelaw15_DriveGone.mono_l : ∀ k, (∀ y0 y1 y2 y3 y4, LeO (hibernaclelaw15_DriveGone.j0 k y0 y1 y2 y3 y4) (hibernaclelaw15_DriveGone.j0 (k + 1) y0 y1 y2 y3 y4)) ∧ (∀ y0 y1 y2 y3 y4 y5, LeO (hibernaclelaw15_DriveGone.l0 k y0 y1 y2 y3 y4 y5) (hibernaclelaw15_DriveGone.l0 (k + 1) y0 y1 y2 y3 y4 y5)) ∧ (∀ y0 y1 y2 y3 y4 y5 y6 y7 y8 y9 y10, LeO (hibernaclelaw15_DriveGone.j2 k y0 y1 y2 y3 y4 y5 y6 y7 y8 y9 y10) (hibernaclelaw15_DriveGone.j2 (k + 1) y0 y1 y2 y3 y4 y5 y6 y7 y8 y9 y10)) ∧ (∀ y0 y1 y2 y3 y4 y5 y6 y7 y8 y9 y10, LeO (hibernaclelaw15_DriveGone.j3 k y0 y1 y2 y3 y4 y5 y6 y7 y8 y9 y10) (hibernaclelaw15_DriveGone.j3 (k + 1) y0 y1 y2 y3 y4 y5 y6 y7 y8 y9 y10))
  | 0 => ⟨fun _ _ _ _ _ r h => by simp [hibernaclelaw15_DriveGone.j0] at h, fun _ _ _ _ _ _ r h => by simp [hibernaclelaw15_DriveGone.l0] at h, fun _ _ _ _ _ _ _ _ _ _ _ r h => by simp [hibernaclelaw15_DriveGone.j2] at h, fun _ _ _ _ _ _ _ _ _ _ _ r h => by simp [hibernaclelaw15_DriveGone.j3] at h⟩
  | k + 1 => by
    obtain ⟨ih0, ih1, ih2, ih3⟩ := hibernaclelaw15_DriveGone.mono_l k
    refine ⟨?_, ?_, ?_, ?_⟩
    · intro y0 y1 y2 y3 y4
      unfold hibernaclelaw15_DriveGone.j0
      repeat' first
      | (with_reducible exact ih0 _ _ _ _ _)
      | (with_reducible exact ih1 _ _ _ _ _ _)
      | (with_reducible exact ih2 _ _ _ _ _ _ _ _ _ _ _)
      | (with_reducible exact ih3 _ _ _ _ _ _ _ _ _ _ _)
      | (with_reducible exact drive_Put.mono _ _ _ _ _ _)
      | (with_reducible exact hibernaclelaw15_Great.mono _ _ _ _)
      | (with_reducible exact hibernaclelaw15_ones.mono _)
      | (with_reducible exact LeO.refl _)
      | (with_reducible exact LeO.none _)
      | (with_reducible refine LeO.ite ?_ ?_)
      | (with_reducible refine LeO.bind ?_ (fun _ => ?_))
      | exact ih0 _ _ _ _ _
      | exact ih1 _ _ _ _ _ _
      | exact ih2 _ _ _ _ _ _ _ _ _ _ _
      | exact ih3 _ _ _ _ _ _ _ _ _ _ _
      | exact drive_Put.mono _ _ _ _ _ _
      | exact hibernaclelaw15_Great.mono _ _ _ _
      | exact hibernaclelaw15_ones.mono _
      | exact LeO.none _
      | refine LeO.ite ?_ ?_
      | refine LeO.bind ?_ (fun _ => ?_)
    · intro y0 y1 y2 y3 y4 y5
      unfold hibernaclelaw15_DriveGone.l0
      repeat' first
      | (with_reducible exact ih0 _ _ _ _ _)
      | (with_reducible exact ih1 _ _ _ _ _ _)
      | (with_reducible exact ih2 _ _ _ _ _ _ _ _ _ _ _)
      | (with_reducible exact ih3 _ _ _ _ _ _ _ _ _ _ _)
      | (with_reducible exact drive_Put.mono _ _ _ _ _ _)
      | (with_reducible exact hibernaclelaw15_Great.mono _ _ _ _)
      | (with_reducible exact hibernaclelaw15_ones.mono _)
      | (with_reducible exact LeO.refl _)
      | (with_reducible exact LeO.none _)
      | (with_reducible refine LeO.ite ?_ ?_)
      | (with_reducible refine LeO.bind ?_ (fun _ => ?_))
      | exact ih0 _ _ _ _ _
      | exact ih1 _ _ _ _ _ _
      | exact ih2 _ _ _ _ _ _ _ _ _ _ _
      | exact ih3 _ _ _ _ _ _ _ _ _ _ _
      | exact drive_Put.mono _ _ _ _ _ _
      | exact hibernaclelaw15_Great.mono _ _ _ _
      | exact hibernaclelaw15_ones.mono _
      | exact LeO.none _
      | refine LeO.ite ?_ ?_
      | refine LeO.bind ?_ (fun _ => ?_)
    · intro y0 y1 y2 y3 y4 y5 y6 y7 y8 y9 y10
      unfold hibernaclelaw15_DriveGone.j2
      repeat' first
      | (with_reducible exact ih0 _ _ _ _ _)
      | (with_reducible exact ih1 _ _ _ _ _ _)
      | (with_reducible exact ih2 _ _ _ _ _ _ _ _ _ _ _)
      | (with_reducible exact ih3 _ _ _ _ _ _ _ _ _ _ _)
      | (with_reducible exact drive_Put.mono _ _ _ _ _ _)
      | (with_reducible exact hibernaclelaw15_Great.mono _ _ _ _)
      | (with_reducible exact hibernaclelaw15_ones.mono _)
      | (with_reducible exact LeO.refl _)
      | (with_reducible exact LeO.none _)
      | (with_reducible refine LeO.ite ?_ ?_)
      | (with_reducible refine LeO.bind ?_ (fun _ => ?_))
      | exact ih0 _ _ _ _ _
      | exact ih1 _ _ _ _ _ _
      | exact ih2 _ _ _ _ _ _ _ _ _ _ _
      | exact ih3 _ _ _ _ _ _ _ _ _ _ _
      | exact drive_Put.mono _ _ _ _ _ _
      | exact hibernaclelaw15_Great.mono _ _ _ _
      | exact hibernaclelaw15_ones.mono _
      | exact LeO.none _
      | refine LeO.ite ?_ ?_
      | refine LeO.bind ?_ (fun _ => ?_)
    · intro y0 y1 y2 y3 y4 y5 y6 y7 y8 y9 y10
      unfold hibernaclelaw15_DriveGone.j3
      repeat' first
      | (with_reducible exact ih0 _ _ _ _ _)
      | (with_reducible exact ih1 _ _ _ _ _ _)
      | (with_reducible exact ih2 _ _ _ _ _ _ _ _ _ _ _)
      | (with_reducible exact ih3 _ _ _ _ _ _ _ _ _ _ _)
      | (with_reducible exact drive_Put.mono _ _ _ _ _ _)
      | (with_reducible exact hibernaclelaw15_Great.mono _ _ _ _)
      | (with_reducible exact hibernaclelaw15_ones.mono _)
      | (with_reducible exact LeO.refl _)
      | (with_reducible exact LeO.none _)
      | (with_reducible refine LeO.ite ?_ ?_)
      | (with_reducible refine LeO.bind ?_ (fun _ => ?_))
      | exact ih0 _ _ _ _ _
      | exact ih1 _ _ _ _ _ _
      | exact ih2 _ _ _ _ _ _ _ _ _ _ _
      | exact ih3 _ _ _ _ _ _ _ _ _ _ _
      | exact drive_Put.mono _ _ _ _ _ _
      | exact hibernaclelaw15_Great.mono _ _ _ _
      | exact hibernaclelaw15_ones.mono _
      | exact LeO.none _
      | refine LeO.ite ?_ ?_
      | refine LeO.bind ?_ (fun _ => ?_)
theorem hibernaclelaw15_DriveGone.mono : ∀ a0 a1 a2 a3 k, LeO (hibernaclelaw15_DriveGone.f k a0 a1 a2 a3) (hibernaclelaw15_DriveGone.f (k + 1) a0 a1 a2 a3) := by
  intro a0 a1 a2 a3 k
  obtain ⟨ih0, ih1, ih2, ih3⟩ := hibernaclelaw15_DriveGone.mono_l k
  unfold hibernaclelaw15_DriveGone.f
  repeat' first
      | (with_reducible exact ih0 _ _ _ _ _)
      | (with_reducible exact ih1 _ _ _ _ _ _)
      | (with_reducible exact ih2 _ _ _ _ _ _ _ _ _ _ _)
      | (with_reducible exact ih3 _ _ _ _ _ _ _ _ _ _ _)
      | (with_reducible exact drive_Put.mono _ _ _ _ _ _)
      | (with_reducible exact hibernaclelaw15_Great.mono _ _ _ _)
      | (with_reducible exact hibernaclelaw15_ones.mono _)
      | (with_reducible exact LeO.refl _)
      | (with_reducible exact LeO.none _)
      | (with_reducible refine LeO.ite ?_ ?_)
      | (with_reducible refine LeO.bind ?_ (fun _ => ?_))
      | exact ih0 _ _ _ _ _
      | exact ih1 _ _ _ _ _ _
      | exact ih2 _ _ _ _ _ _ _ _ _ _ _
      | exact ih3 _ _ _ _ _ _ _ _ _ _ _
      | exact drive_Put.mono _ _ _ _ _ _
      | exact hibernaclelaw15_Great.mono _ _ _ _
      | exact hibernaclelaw15_ones.mono _
      | exact LeO.none _
      | refine LeO.ite ?_ ?_
      | refine LeO.bind ?_ (fun _ => ?_)
def hibernaclelaw15_DriveGone.T9 : Bool × List (List Nat × List Nat) := (true, [([], []), ([], []), ([0, 1, 1], [0, 1]), ([2], [2]), ([3], [3]), ([3], [3]), ([4, 2, 0, 1, 2, 3, 4], [4]), ([5, 6, 0, 1, 2, 3, 4, 5, 6], [5])])
def hibernaclelaw15_DriveGone.B9 : List Nat := [0, 0, 3, 7, 15, 15, 31, 127]
theorem hibernaclelaw15_DriveGone.tab9 : rtab .any (opsOf Try.f8 9) = hibernaclelaw15_DriveGone.T9 := by kernel_rfl
theorem hibernaclelaw15_DriveGone.bits9 : waitsOk hibernaclelaw15_DriveGone.T9.2 hibernaclelaw15_DriveGone.B9 = true := by kernel_rfl
set_option maxHeartbeats 8000000 in
set_option maxRecDepth 100000 in
theorem hibernaclelaw15_DriveGone.calls (k : Nat) (P0_0_ : Nat → Prop) (A0_0 : Option Addr) (c0_0 : Nat) (l0_0 : List ByteArray) (P0_1_ : Nat → Prop) (A0_1 : Option Addr) (c0_1 : Nat) (l0_1 : List (S27)) (a0_2 : Int) (a1 : Int) (r : Bool) (w : World) (hs0_0 : Kd.V Kd.string 9 w w.heap.size (fun k_ => P0_0_ k_) (.slice A0_0 l0_0.length c0_0) l0_0) (hs0_1 : Kd.V k27 27 w w.heap.size (fun k_ => P0_1_ k_) (.slice A0_1 l0_1.length c0_1) l0_1) (h : hibernaclelaw15_DriveGone.f k l0_0 l0_1 a0_2 a1 = some r) :
    Calls Try.prog 8 #[.agg #[.slice A0_0 l0_0.length c0_0, .slice A0_1 l0_1.length c0_1, .int .i64 a0_2], .int .u8 a1] w fun e w' => e = .returned (.bool r) ∧ Below w.heap.size w w' := by
  have hu29 := Try.underlying29
  have HO0_0 := Aside0.mk (show Kd.V Kd.string 9 w w.heap.size (fun k_ => ((P0_0_ k_ ∨ P0_1_ k_) ∨ w.heap.size ≤ k_)) (.slice A0_0 l0_0.length c0_0) l0_0 from Kd.V_mono hs0_0 (fun k_ hk => .inl (.inl hk)))
  have HO0_1 := Aside0.mk (show Kd.V k27 27 w w.heap.size (fun k_ => ((P0_0_ k_ ∨ P0_1_ k_) ∨ w.heap.size ≤ k_)) (.slice A0_1 l0_1.length c0_1) l0_1 from Kd.V_mono hs0_1 (fun k_ hk => .inl (.inr hk)))
  have HB := Aside0.mk (Below.refl w.heap.size w)
  have H : ((hibernaclelaw15_Great.f k l0_0 l0_1 a0_2).bind fun t565 => (if t565 > 0 then (hibernaclelaw15_DriveGone.j0 k a1 true l0_0 l0_1 a0_2) else ((drive_Check.f l0_0 l0_1 a0_2).bind fun t566 => (if t566 = 0 then (hibernaclelaw15_DriveGone.j0 k a1 ((l0_0.length : Int) == 0) l0_0 l0_1 a0_2) else (hibernaclelaw15_DriveGone.j0 k a1 true l0_0 l0_1 a0_2))))) = some r := h
  clear h
  have HC3 := Aside0.mk H
  clear H
  go_enter Try.func8, Try.ntmps8
  go_upto_region 1 with (first | ((with_reducible refine gate_dst (N := 2) rfl ?_); (try (refine gate_guard (by rfl) ?_; dsimp only)); refine box_event ?hg (N := 2) ?hd (cs := #[.slice A0_0 l0_0.length c0_0, .slice A0_1 l0_1.length c0_1, .int .i64 a0_2]) (t := 29) ?hr ?_; (case hd => rfl); (case hg => rfl); (case hr => first | (go_simp; done) | (go_simp; rfl)); intro gb564 hg w4 hbox hb; have n0_ := Aside0.mk (Kd.V_below (Kd.V_elderB (by (with_reducible repeat (first | apply Kd.V_alloc | apply Kd.V_drewN | apply Kd.V_drew)); exact HO0_0.out) gb564 (Nat.le_of_eq hg.symm)) hb); have n1_ := Aside0.mk (Kd.V_below (Kd.V_elderB (by (with_reducible repeat (first | apply Kd.V_alloc | apply Kd.V_drewN | apply Kd.V_drew)); exact HO0_1.out) gb564 (Nat.le_of_eq hg.symm)) hb); have n2_ := Aside0.mk (below_step (by repeat (first | (with_reducible first | exact HB.out | apply below_alloc | apply pw_below_drewN | apply below_drew1) | exact HB.out)) hb); have n3_ := Aside0.mk (hbox); have n4_ := Aside0.mk ((by rw [hg]; exact (below_size (by repeat (first | (with_reducible first | exact HB.out | apply below_alloc | apply pw_below_drewN | apply below_drew1) | exact HB.out))) : w.heap.size ≤ gb564)); have n5_ := Aside0.mk ((by rw [hg]; exact (below_size (by repeat (first | (with_reducible first | exact HB.out | apply below_alloc | apply pw_below_drewN | apply below_drew1) | exact HB.out))) : w.heap.size ≤ gb564)); clear HO0_0; clear HO0_1; clear HB; have HO0_0 := n0_; have HO0_1 := n1_; have HB := n2_; have BK564 := n3_; have GW564 := n4_; have GE564 := n5_; clear n0_ n1_ n2_ n3_ n4_ n5_; clear hb hbox hg))
  (try simp only [Act.put, List.setIfInBounds_toArray, List.set_cons_zero, List.set_cons_succ])
  go_cut [22] (fun v22 wc => ∃ (kq : Nat) (x22_2 : Bool), v22 = .bool x22_2 ∧ Aside0 (hibernaclelaw15_DriveGone.j0 kq a1 x22_2 l0_0 l0_1 a0_2 = some r) ∧ Aside0 (kq ≤ k) ∧ Aside0 (Kd.V Kd.string 9 wc w.heap.size (fun k_ => ((P0_0_ k_ ∨ P0_1_ k_) ∨ w.heap.size ≤ k_) ∧ k_ ≠ gb564) (.slice A0_0 l0_0.length c0_0) l0_0) ∧ Aside0 (Kd.V k27 27 wc w.heap.size (fun k_ => ((P0_0_ k_ ∨ P0_1_ k_) ∨ w.heap.size ≤ k_) ∧ k_ ≠ gb564) (.slice A0_1 l0_1.length c0_1) l0_1) ∧ Aside0 (wc.heap[gb564]? = some (.cells #[(.slice A0_0 l0_0.length c0_0), (.slice A0_1 l0_1.length c0_1), .int .i64 a0_2] 29 (0, 0))) ∧ Aside0 (Below w.heap.size w wc))
  case first =>
    have H := HC3.out
    clear HC3
    replace H := Option.bind_eq_some_iff.mp H
    obtain ⟨t565, A50, H⟩ := H
    replace H : (if t565 > 0 then (hibernaclelaw15_DriveGone.j0 k a1 true l0_0 l0_1 a0_2) else ((drive_Check.f l0_0 l0_1 a0_2).bind fun t566 => (if t566 = 0 then (hibernaclelaw15_DriveGone.j0 k a1 ((l0_0.length : Int) == 0) l0_0 l0_1 a0_2) else (hibernaclelaw15_DriveGone.j0 k a1 true l0_0 l0_1 a0_2)))) = some r := H
    have A5 := Aside0.mk A50
    clear A50
    by_cases c6 : t565 > 0
    · rw [if_pos c6] at H
      have c6b0 : decide (0 < t565) = true := decide_eq_true c6
      clear c6
      (first | rw [c6b0] | (simp only [i64_w, i32_w]; rw [c6b0]) | skip)
      have H' := Aside0.mk H
      clear H
      have hcz7_0 : w4.cell? ⟨gb564, 0, none⟩ = some (.slice A0_0 l0_0.length c0_0) := (blk_cell BK564.out 0).trans rfl
      have hcz7_1 : w4.cell? ⟨gb564, 1, none⟩ = some (.slice A0_1 l0_1.length c0_1) := (blk_cell BK564.out 1).trans rfl
      have hcz7_2 : w4.cell? ⟨gb564, 2, none⟩ = some (.int .i64 a0_2) := (blk_cell BK564.out 2).trans rfl
      have hfz7_0 := blk_frozen BK564.out 0
      have hfz7_1 := blk_frozen BK564.out 1
      have hfz7_2 := blk_frozen BK564.out 2
      go_wp2_with (first | ((with_reducible refine gate_callee (f := 30) rfl ?_); refine goesL_ (some 10) rfl rfl Try.func30 (by kernel_rfl) rfl #[.agg #[.slice A0_0 l0_0.length c0_0, .slice A0_1 l0_1.length c0_1, .int .i64 a0_2]] rfl (by (try simp only [List.map_toArray, List.map_cons, List.map_nil]); first | done | rfl | (simp only [List.length_drop, List.length_take]; rfl)) ?_; (with_reducible refine (hibernaclelaw15_Great.calls k _ _ l0_0 _ _ l0_1 a0_2 t565 _ ?side1 ?side2 ?side3 ?side4 A5.out).mono ?_); (case side1 => repeat (first | exact (Kd.V_reads' HO0_0.out).2.2 | (with_reducible refine Kd.C_alloc ?_ _) | (with_reducible refine Kd.C_drewN ?_ _) | (with_reducible refine Kd.C_drew ?_))); (case side2 => exact (Kd.V_reads' HO0_0.out).2.1); (case side3 => repeat (first | exact (Kd.V_reads' HO0_1.out).2.2 | (with_reducible refine Kd.C_alloc ?_ _) | (with_reducible refine Kd.C_drewN ?_ _) | (with_reducible refine Kd.C_drew ?_))); (case side4 => exact (Kd.V_reads' HO0_1.out).2.1); rintro e w8 ⟨rfl, hb⟩; refine ⟨_, rfl, ?_⟩; have n0_ := Aside0.mk (Kd.V_below (by (with_reducible repeat (first | apply Kd.V_alloc | apply Kd.V_drewN | apply Kd.V_drew)); exact HO0_0.out) hb); have n1_ := Aside0.mk (Kd.V_below (by (with_reducible repeat (first | apply Kd.V_alloc | apply Kd.V_drewN | apply Kd.V_drew)); exact HO0_1.out) hb); have n2_ := Aside0.mk (blk_below (g := gb564) (o := .cells #[.slice A0_0 l0_0.length c0_0, .slice A0_1 l0_1.length c0_1, .int .i64 a0_2] 29 (0, 0)) (by (with_reducible repeat (first | refine blk_drewN ?_ _ | refine blk_drew ?_ | refine blk_alloc ?_ _)); exact BK564.out) hb); have n3_ := Aside0.mk (below_step (by repeat (first | (with_reducible first | exact HB.out | apply below_alloc | apply pw_below_drewN | apply below_drew1 | refine below_set ?_ GE564.out) | exact HB.out)) hb); clear HO0_0; clear HO0_1; clear BK564; clear HB; have HO0_0 := n0_; have HO0_1 := n1_; have BK564 := n2_; have HB := n3_; clear n0_ n1_ n2_ n3_; (try clear hb); (try clear hb2); (try clear hk); (try clear hi)))
      go_meet
      case rel => exact ⟨_, (true), (by first | rfl | (simp; done) | (simp [*]; done)), H', ⟨by first | omega | exact Nat.le_refl _⟩, ⟨by (with_reducible repeat (first | apply Kd.V_alloc | apply Kd.V_drewN | apply Kd.V_drew)); exact HO0_0.out⟩, ⟨by (with_reducible repeat (first | apply Kd.V_alloc | apply Kd.V_drewN | apply Kd.V_drew)); exact HO0_1.out⟩, ⟨by (with_reducible repeat (first | refine blk_drewN ?_ _ | refine blk_drew ?_ | refine blk_alloc ?_ _)); exact BK564.out⟩, ⟨by repeat (first | (with_reducible first | exact HB.out | apply below_alloc | apply pw_below_drewN | apply below_drew1 | refine below_set ?_ GE564.out) | exact HB.out)⟩⟩
    · rw [if_neg c6] at H
      have c6b0 : decide (0 < t565) = false := decide_eq_false c6
      clear c6
      (first | rw [c6b0] | (simp only [i64_w, i32_w]; rw [c6b0]) | skip)
      replace H := Option.bind_eq_some_iff.mp H
      obtain ⟨t566, A90, H⟩ := H
      replace H : (if t566 = 0 then (hibernaclelaw15_DriveGone.j0 k a1 ((l0_0.length : Int) == 0) l0_0 l0_1 a0_2) else (hibernaclelaw15_DriveGone.j0 k a1 true l0_0 l0_1 a0_2)) = some r := H
      have A9 := Aside0.mk A90
      clear A90
      by_cases c10 : t566 = 0
      · rw [if_pos c10] at H
        have c10b0 : (t566 == 0) = true := beq_iff_eq.mpr c10
        have c10b1 : (t566 != 0) = false := bne_eq_false_iff_eq.mpr c10
        clear c10
        have H' := Aside0.mk H
        clear H
        have hcz11_0 : w4.cell? ⟨gb564, 0, none⟩ = some (.slice A0_0 l0_0.length c0_0) := (blk_cell BK564.out 0).trans rfl
        have hcz11_1 : w4.cell? ⟨gb564, 1, none⟩ = some (.slice A0_1 l0_1.length c0_1) := (blk_cell BK564.out 1).trans rfl
        have hcz11_2 : w4.cell? ⟨gb564, 2, none⟩ = some (.int .i64 a0_2) := (blk_cell BK564.out 2).trans rfl
        have hfz11_0 := blk_frozen BK564.out 0
        have hfz11_1 := blk_frozen BK564.out 1
        have hfz11_2 := blk_frozen BK564.out 2
        go_wp2_with (first | ((with_reducible refine gate_callee (f := 30) rfl ?_); refine goesL_ (some 10) rfl rfl Try.func30 (by kernel_rfl) rfl #[.agg #[.slice A0_0 l0_0.length c0_0, .slice A0_1 l0_1.length c0_1, .int .i64 a0_2]] rfl (by (try simp only [List.map_toArray, List.map_cons, List.map_nil]); first | done | rfl | (simp only [List.length_drop, List.length_take]; rfl)) ?_; (with_reducible refine (hibernaclelaw15_Great.calls k _ _ l0_0 _ _ l0_1 a0_2 t565 _ ?side1 ?side2 ?side3 ?side4 A5.out).mono ?_); (case side1 => repeat (first | exact (Kd.V_reads' HO0_0.out).2.2 | (with_reducible refine Kd.C_alloc ?_ _) | (with_reducible refine Kd.C_drewN ?_ _) | (with_reducible refine Kd.C_drew ?_))); (case side2 => exact (Kd.V_reads' HO0_0.out).2.1); (case side3 => repeat (first | exact (Kd.V_reads' HO0_1.out).2.2 | (with_reducible refine Kd.C_alloc ?_ _) | (with_reducible refine Kd.C_drewN ?_ _) | (with_reducible refine Kd.C_drew ?_))); (case side4 => exact (Kd.V_reads' HO0_1.out).2.1); rintro e w12 ⟨rfl, hb⟩; refine ⟨_, rfl, ?_⟩; have n0_ := Aside0.mk (Kd.V_below (by (with_reducible repeat (first | apply Kd.V_alloc | apply Kd.V_drewN | apply Kd.V_drew)); exact HO0_0.out) hb); have n1_ := Aside0.mk (Kd.V_below (by (with_reducible repeat (first | apply Kd.V_alloc | apply Kd.V_drewN | apply Kd.V_drew)); exact HO0_1.out) hb); have n2_ := Aside0.mk (blk_below (g := gb564) (o := .cells #[.slice A0_0 l0_0.length c0_0, .slice A0_1 l0_1.length c0_1, .int .i64 a0_2] 29 (0, 0)) (by (with_reducible repeat (first | refine blk_drewN ?_ _ | refine blk_drew ?_ | refine blk_alloc ?_ _)); exact BK564.out) hb); have n3_ := Aside0.mk (below_step (by repeat (first | (with_reducible first | exact HB.out | apply below_alloc | apply pw_below_drewN | apply below_drew1 | refine below_set ?_ GE564.out) | exact HB.out)) hb); clear HO0_0; clear HO0_1; clear BK564; clear HB; have HO0_0 := n0_; have HO0_1 := n1_; have BK564 := n2_; have HB := n3_; clear n0_ n1_ n2_ n3_; (try clear hb); (try clear hb2); (try clear hk); (try clear hi); have hcz13_0 : w12.cell? ⟨gb564, 0, none⟩ = some (.slice A0_0 l0_0.length c0_0) := (blk_cell BK564.out 0).trans rfl; have hcz13_1 : w12.cell? ⟨gb564, 1, none⟩ = some (.slice A0_1 l0_1.length c0_1) := (blk_cell BK564.out 1).trans rfl; have hcz13_2 : w12.cell? ⟨gb564, 2, none⟩ = some (.int .i64 a0_2) := (blk_cell BK564.out 2).trans rfl; have hfz13_0 := blk_frozen BK564.out 0; have hfz13_1 := blk_frozen BK564.out 1; have hfz13_2 := blk_frozen BK564.out 2) | (go_at_call 34; (with_reducible refine (drive_Check.calls _ _ l0_0 _ _ l0_1 a0_2 t566 _ ?side1 ?side2 ?side3 ?side4 A9.out).mono ?_); (case side1 => repeat (first | exact (Kd.V_reads' HO0_0.out).2.2 | (with_reducible refine Kd.C_alloc ?_ _) | (with_reducible refine Kd.C_drewN ?_ _) | (with_reducible refine Kd.C_drew ?_))); (case side2 => exact (Kd.V_reads' HO0_0.out).2.1); (case side3 => repeat (first | exact (Kd.V_reads' HO0_1.out).2.2 | (with_reducible refine Kd.C_alloc ?_ _) | (with_reducible refine Kd.C_drewN ?_ _) | (with_reducible refine Kd.C_drew ?_))); (case side4 => exact (Kd.V_reads' HO0_1.out).2.1); rintro e w14 ⟨rfl, hb⟩; have n0_ := Aside0.mk (Kd.V_below (by (with_reducible repeat (first | apply Kd.V_alloc | apply Kd.V_drewN | apply Kd.V_drew)); exact HO0_0.out) hb); have n1_ := Aside0.mk (Kd.V_below (by (with_reducible repeat (first | apply Kd.V_alloc | apply Kd.V_drewN | apply Kd.V_drew)); exact HO0_1.out) hb); have n2_ := Aside0.mk (blk_below (g := gb564) (o := .cells #[.slice A0_0 l0_0.length c0_0, .slice A0_1 l0_1.length c0_1, .int .i64 a0_2] 29 (0, 0)) (by (with_reducible repeat (first | refine blk_drewN ?_ _ | refine blk_drew ?_ | refine blk_alloc ?_ _)); exact BK564.out) hb); have n3_ := Aside0.mk (below_step (by repeat (first | (with_reducible first | exact HB.out | apply below_alloc | apply pw_below_drewN | apply below_drew1 | refine below_set ?_ GE564.out) | exact HB.out)) hb); clear HO0_0; clear HO0_1; clear BK564; clear HB; have HO0_0 := n0_; have HO0_1 := n1_; have BK564 := n2_; have HB := n3_; clear n0_ n1_ n2_ n3_; (try clear hb); (try clear hb2); (try clear hk); (try clear hi); have hcz15_0 : w14.cell? ⟨gb564, 0, none⟩ = some (.slice A0_0 l0_0.length c0_0) := (blk_cell BK564.out 0).trans rfl; have hcz15_1 : w14.cell? ⟨gb564, 1, none⟩ = some (.slice A0_1 l0_1.length c0_1) := (blk_cell BK564.out 1).trans rfl; have hcz15_2 : w14.cell? ⟨gb564, 2, none⟩ = some (.int .i64 a0_2) := (blk_cell BK564.out 2).trans rfl; have hfz15_0 := blk_frozen BK564.out 0; have hfz15_1 := blk_frozen BK564.out 1; have hfz15_2 := blk_frozen BK564.out 2))
        go_meet
        case rel => exact ⟨_, (((l0_0.length : Int) == 0)), (by first | rfl | (simp; done) | (simp [*]; done)), H', ⟨by first | omega | exact Nat.le_refl _⟩, ⟨by (with_reducible repeat (first | apply Kd.V_alloc | apply Kd.V_drewN | apply Kd.V_drew)); exact HO0_0.out⟩, ⟨by (with_reducible repeat (first | apply Kd.V_alloc | apply Kd.V_drewN | apply Kd.V_drew)); exact HO0_1.out⟩, ⟨by (with_reducible repeat (first | refine blk_drewN ?_ _ | refine blk_drew ?_ | refine blk_alloc ?_ _)); exact BK564.out⟩, ⟨by repeat (first | (with_reducible first | exact HB.out | apply below_alloc | apply pw_below_drewN | apply below_drew1 | refine below_set ?_ GE564.out) | exact HB.out)⟩⟩
      · rw [if_neg c10] at H
        have c10b0 : (t566 == 0) = false := beq_eq_false_iff_ne.mpr c10
        have c10b1 : (t566 != 0) = true := bne_iff_ne.mpr c10
        have H' := Aside0.mk H
        clear H
        have hcz16_0 : w4.cell? ⟨gb564, 0, none⟩ = some (.slice A0_0 l0_0.length c0_0) := (blk_cell BK564.out 0).trans rfl
        have hcz16_1 : w4.cell? ⟨gb564, 1, none⟩ = some (.slice A0_1 l0_1.length c0_1) := (blk_cell BK564.out 1).trans rfl
        have hcz16_2 : w4.cell? ⟨gb564, 2, none⟩ = some (.int .i64 a0_2) := (blk_cell BK564.out 2).trans rfl
        have hfz16_0 := blk_frozen BK564.out 0
        have hfz16_1 := blk_frozen BK564.out 1
        have hfz16_2 := blk_frozen BK564.out 2
        go_wp2_with (first | ((with_reducible refine gate_callee (f := 30) rfl ?_); refine goesL_ (some 10) rfl rfl Try.func30 (by kernel_rfl) rfl #[.agg #[.slice A0_0 l0_0.length c0_0, .slice A0_1 l0_1.length c0_1, .int .i64 a0_2]] rfl (by (try simp only [List.map_toArray, List.map_cons, List.map_nil]); first | done | rfl | (simp only [List.length_drop, List.length_take]; rfl)) ?_; (with_reducible refine (hibernaclelaw15_Great.calls k _ _ l0_0 _ _ l0_1 a0_2 t565 _ ?side1 ?side2 ?side3 ?side4 A5.out).mono ?_); (case side1 => repeat (first | exact (Kd.V_reads' HO0_0.out).2.2 | (with_reducible refine Kd.C_alloc ?_ _) | (with_reducible refine Kd.C_drewN ?_ _) | (with_reducible refine Kd.C_drew ?_))); (case side2 => exact (Kd.V_reads' HO0_0.out).2.1); (case side3 => repeat (first | exact (Kd.V_reads' HO0_1.out).2.2 | (with_reducible refine Kd.C_alloc ?_ _) | (with_reducible refine Kd.C_drewN ?_ _) | (with_reducible refine Kd.C_drew ?_))); (case side4 => exact (Kd.V_reads' HO0_1.out).2.1); rintro e w17 ⟨rfl, hb⟩; refine ⟨_, rfl, ?_⟩; have n0_ := Aside0.mk (Kd.V_below (by (with_reducible repeat (first | apply Kd.V_alloc | apply Kd.V_drewN | apply Kd.V_drew)); exact HO0_0.out) hb); have n1_ := Aside0.mk (Kd.V_below (by (with_reducible repeat (first | apply Kd.V_alloc | apply Kd.V_drewN | apply Kd.V_drew)); exact HO0_1.out) hb); have n2_ := Aside0.mk (blk_below (g := gb564) (o := .cells #[.slice A0_0 l0_0.length c0_0, .slice A0_1 l0_1.length c0_1, .int .i64 a0_2] 29 (0, 0)) (by (with_reducible repeat (first | refine blk_drewN ?_ _ | refine blk_drew ?_ | refine blk_alloc ?_ _)); exact BK564.out) hb); have n3_ := Aside0.mk (below_step (by repeat (first | (with_reducible first | exact HB.out | apply below_alloc | apply pw_below_drewN | apply below_drew1 | refine below_set ?_ GE564.out) | exact HB.out)) hb); clear HO0_0; clear HO0_1; clear BK564; clear HB; have HO0_0 := n0_; have HO0_1 := n1_; have BK564 := n2_; have HB := n3_; clear n0_ n1_ n2_ n3_; (try clear hb); (try clear hb2); (try clear hk); (try clear hi); have hcz18_0 : w17.cell? ⟨gb564, 0, none⟩ = some (.slice A0_0 l0_0.length c0_0) := (blk_cell BK564.out 0).trans rfl; have hcz18_1 : w17.cell? ⟨gb564, 1, none⟩ = some (.slice A0_1 l0_1.length c0_1) := (blk_cell BK564.out 1).trans rfl; have hcz18_2 : w17.cell? ⟨gb564, 2, none⟩ = some (.int .i64 a0_2) := (blk_cell BK564.out 2).trans rfl; have hfz18_0 := blk_frozen BK564.out 0; have hfz18_1 := blk_frozen BK564.out 1; have hfz18_2 := blk_frozen BK564.out 2) | (go_at_call 34; (with_reducible refine (drive_Check.calls _ _ l0_0 _ _ l0_1 a0_2 t566 _ ?side1 ?side2 ?side3 ?side4 A9.out).mono ?_); (case side1 => repeat (first | exact (Kd.V_reads' HO0_0.out).2.2 | (with_reducible refine Kd.C_alloc ?_ _) | (with_reducible refine Kd.C_drewN ?_ _) | (with_reducible refine Kd.C_drew ?_))); (case side2 => exact (Kd.V_reads' HO0_0.out).2.1); (case side3 => repeat (first | exact (Kd.V_reads' HO0_1.out).2.2 | (with_reducible refine Kd.C_alloc ?_ _) | (with_reducible refine Kd.C_drewN ?_ _) | (with_reducible refine Kd.C_drew ?_))); (case side4 => exact (Kd.V_reads' HO0_1.out).2.1); rintro e w19 ⟨rfl, hb⟩; have n0_ := Aside0.mk (Kd.V_below (by (with_reducible repeat (first | apply Kd.V_alloc | apply Kd.V_drewN | apply Kd.V_drew)); exact HO0_0.out) hb); have n1_ := Aside0.mk (Kd.V_below (by (with_reducible repeat (first | apply Kd.V_alloc | apply Kd.V_drewN | apply Kd.V_drew)); exact HO0_1.out) hb); have n2_ := Aside0.mk (blk_below (g := gb564) (o := .cells #[.slice A0_0 l0_0.length c0_0, .slice A0_1 l0_1.length c0_1, .int .i64 a0_2] 29 (0, 0)) (by (with_reducible repeat (first | refine blk_drewN ?_ _ | refine blk_drew ?_ | refine blk_alloc ?_ _)); exact BK564.out) hb); have n3_ := Aside0.mk (below_step (by repeat (first | (with_reducible first | exact HB.out | apply below_alloc | apply pw_below_drewN | apply below_drew1 | refine below_set ?_ GE564.out) | exact HB.out)) hb); clear HO0_0; clear HO0_1; clear BK564; clear HB; have HO0_0 := n0_; have HO0_1 := n1_; have BK564 := n2_; have HB := n3_; clear n0_ n1_ n2_ n3_; (try clear hb); (try clear hb2); (try clear hk); (try clear hi)))
        go_meet
        case rel => exact ⟨_, (true), (by first | rfl | (simp; done) | (simp [*]; done)), H', ⟨by first | omega | exact Nat.le_refl _⟩, ⟨by (with_reducible repeat (first | apply Kd.V_alloc | apply Kd.V_drewN | apply Kd.V_drew)); exact HO0_0.out⟩, ⟨by (with_reducible repeat (first | apply Kd.V_alloc | apply Kd.V_drewN | apply Kd.V_drew)); exact HO0_1.out⟩, ⟨by (with_reducible repeat (first | refine blk_drewN ?_ _ | refine blk_drew ?_ | refine blk_alloc ?_ _)); exact BK564.out⟩, ⟨by repeat (first | (with_reducible first | exact HB.out | apply below_alloc | apply pw_below_drewN | apply below_drew1 | refine below_set ?_ GE564.out) | exact HB.out)⟩⟩
  case rest =>
    clear HC3
    try clear c1
    try clear p2
    try clear c3
    try clear c6
    try clear c6b0
    try clear c8
    try clear c10
    try clear c10b0
    try clear c10b1
    try clear hcz11_0
    try clear hcz11_1
    try clear hcz11_2
    try clear hcz13_0
    try clear hcz13_1
    try clear hcz13_2
    try clear hcz15_0
    try clear hcz15_1
    try clear hcz15_2
    try clear hcz16_0
    try clear hcz16_1
    try clear hcz16_2
    try clear hcz18_0
    try clear hcz18_1
    try clear hcz18_2
    try clear hcz7_0
    try clear hcz7_1
    try clear hcz7_2
    try clear hfz11_0
    try clear hfz11_1
    try clear hfz11_2
    try clear hfz13_0
    try clear hfz13_1
    try clear hfz13_2
    try clear hfz15_0
    try clear hfz15_1
    try clear hfz15_2
    try clear hfz16_0
    try clear hfz16_1
    try clear hfz16_2
    try clear hfz18_0
    try clear hfz18_1
    try clear hfz18_2
    try clear hfz7_0
    try clear hfz7_1
    try clear hfz7_2
    obtain ⟨kq, x22_2, rfl, HA, HJ2, HO_565000, HO_565001, BK564, HB⟩ := hcut
    cases kq with
    | zero => exact absurd HA.out (by simp [hibernaclelaw15_DriveGone.j0])
    | succ kj2 =>
      have H := HA.out
      clear HA
      simp only [hibernaclelaw15_DriveGone.j0] at H
      by_cases c20 : x22_2 = true
      · subst c20
        have H1 : ((hibernaclelaw15_fixed.f).bind fun t567 => (some t567)) = some r := by rw [if_pos rfl] at H; exact H
        clear H
        have H := H1
        clear H1
        replace H := Option.bind_eq_some_iff.mp H
        obtain ⟨t567, A210, H⟩ := H
        replace H : (some t567) = some r := H
        have A21 := Aside0.mk A210
        clear A210
        obtain rfl := Option.some.inj H
        go_wp2_with (first | ((with_reducible refine gate_callee (f := 31) rfl ?_); refine goesL_ (some 23) rfl rfl Try.func31 (by kernel_rfl) rfl #[] rfl (by (try simp only [List.map_toArray, List.map_cons, List.map_nil]); first | done | rfl | (simp only [List.length_drop, List.length_take]; rfl)) ?_; (with_reducible refine (hibernaclelaw15_fixed.calls  t567 _ A21.out).mono ?_); rintro e w22 ⟨rfl, hb⟩; refine ⟨_, rfl, ?_⟩; have n0_ := Aside0.mk (Kd.V_below (by (with_reducible repeat (first | apply Kd.V_alloc | apply Kd.V_drewN | apply Kd.V_drew)); exact HO_565000.out) hb); have n1_ := Aside0.mk (Kd.V_below (by (with_reducible repeat (first | apply Kd.V_alloc | apply Kd.V_drewN | apply Kd.V_drew)); exact HO_565001.out) hb); have n2_ := Aside0.mk (blk_below (g := gb564) (o := .cells #[.slice A0_0 l0_0.length c0_0, .slice A0_1 l0_1.length c0_1, .int .i64 a0_2] 29 (0, 0)) (by (with_reducible repeat (first | refine blk_drewN ?_ _ | refine blk_drew ?_ | refine blk_alloc ?_ _)); exact BK564.out) hb); have n3_ := Aside0.mk (below_step (by repeat (first | (with_reducible first | exact HB.out | apply below_alloc | apply pw_below_drewN | apply below_drew1 | refine below_set ?_ GE564.out) | exact HB.out)) hb); clear HO_565000; clear HO_565001; clear BK564; clear HB; have HO_565000 := n0_; have HO_565001 := n1_; have BK564 := n2_; have HB := n3_; clear n0_ n1_ n2_ n3_; (try clear hb); (try clear hb2); (try clear hk); (try clear hi)))
        go_ret
        exact ⟨by first | rfl | (simp [errW_none, errW_some] <;> rfl) | (simp [*, errW_none, errW_some] <;> rfl), by repeat (first | (with_reducible first | exact HB.out | apply below_alloc | apply pw_below_drewN | apply below_drew1 | refine below_set ?_ GE564.out) | exact HB.out)⟩
      · replace c20 := Bool.eq_false_iff.mpr c20
        subst c20
        have H1 : (hibernaclelaw15_DriveGone.l0 kj2 a0_2 (Int.tmod (wrap64 (a1)) 40) 0 l0_0 l0_1 a0_2) = some r := by rw [if_neg (show ¬ (false = true) by decide)] at H; exact H
        clear H
        have H := H1
        clear H1
        have H' := Aside0.mk H
        clear H
        have hcz23_0 : wc.cell? ⟨gb564, 0, none⟩ = some (.slice A0_0 l0_0.length c0_0) := (blk_cell BK564.out 0).trans rfl
        have hcz23_1 : wc.cell? ⟨gb564, 1, none⟩ = some (.slice A0_1 l0_1.length c0_1) := (blk_cell BK564.out 1).trans rfl
        have hcz23_2 : wc.cell? ⟨gb564, 2, none⟩ = some (.int .i64 a0_2) := (blk_cell BK564.out 2).trans rfl
        have hfz23_0 := blk_frozen BK564.out 0
        have hfz23_1 := blk_frozen BK564.out 1
        have hfz23_2 := blk_frozen BK564.out 2
        go_wp2
        go_loopg [29] kj2 (fun kq v29 w' => ∃ (x29_2 : Int) (x565000_2 : List ByteArray) (x565001_2 : List (S27)) (x565002_2 : Int) (u565000 : Value) (u565001 : Value), v29 = .int .i64 x29_2 ∧ Aside0 (hibernaclelaw15_DriveGone.l0 kq a0_2 (Int.tmod (wrap64 (a1)) 40) x29_2 x565000_2 x565001_2 x565002_2 = some r) ∧ Aside0 (kq ≤ kj2) ∧ Aside0 (Kd.V Kd.string 9 w' w.heap.size (fun k_ => ((P0_0_ k_ ∨ P0_1_ k_) ∨ w.heap.size ≤ k_) ∧ k_ ≠ gb564) u565000 x565000_2) ∧ Aside0 (Kd.V k27 27 w' w.heap.size (fun k_ => ((P0_0_ k_ ∨ P0_1_ k_) ∨ w.heap.size ≤ k_) ∧ k_ ≠ gb564) u565001 x565001_2) ∧ Aside0 (w'.heap[gb564]? = some (.cells #[u565000, u565001, .int .i64 x565002_2] 29 (0, 0))) ∧ Aside0 (Below w.heap.size w w'))
        case atStart => exact ⟨(0), (l0_0), (l0_1), (a0_2), (.slice A0_0 l0_0.length c0_0), (.slice A0_1 l0_1.length c0_1), (by first | rfl | (simp; done) | (simp [*]; done)), H', ⟨Nat.le_refl _⟩, ⟨by (with_reducible repeat (first | apply Kd.V_alloc | apply Kd.V_drewN | apply Kd.V_drew)); exact HO_565000.out⟩, ⟨by (with_reducible repeat (first | apply Kd.V_alloc | apply Kd.V_drewN | apply Kd.V_drew)); exact HO_565001.out⟩, ⟨by (with_reducible repeat (first | refine blk_drewN ?_ _ | refine blk_drew ?_ | refine blk_alloc ?_ _)); exact BK564.out⟩, ⟨by repeat (first | (with_reducible first | exact HB.out | apply below_alloc | apply pw_below_drewN | apply below_drew1 | refine below_set ?_ GE564.out) | exact HB.out)⟩⟩
        case round =>
          clear H'
          try clear c1
          try clear c2
          try clear p2
          try clear c3
          try clear c6
          try clear c6b0
          try clear p6
          try clear c8
          try clear c10
          try clear c10b0
          try clear c10b1
          try clear c20
          try clear hcz11_0
          try clear hcz11_1
          try clear hcz11_2
          try clear hcz13_0
          try clear hcz13_1
          try clear hcz13_2
          try clear hcz15_0
          try clear hcz15_1
          try clear hcz15_2
          try clear hcz16_0
          try clear hcz16_1
          try clear hcz16_2
          try clear hcz18_0
          try clear hcz18_1
          try clear hcz18_2
          try clear hcz23_0
          try clear hcz23_1
          try clear hcz23_2
          try clear hcz7_0
          try clear hcz7_1
          try clear hcz7_2
          try clear hfz11_0
          try clear hfz11_1
          try clear hfz11_2
          try clear hfz13_0
          try clear hfz13_1
          try clear hfz13_2
          try clear hfz15_0
          try clear hfz15_1
          try clear hfz15_2
          try clear hfz16_0
          try clear hfz16_1
          try clear hfz16_2
          try clear hfz18_0
          try clear hfz18_1
          try clear hfz18_2
          try clear hfz23_0
          try clear hfz23_1
          try clear hfz23_2
          try clear hfz7_0
          try clear hfz7_1
          try clear hfz7_2
          try clear p2
          obtain ⟨x29_2, x565000_2, x565001_2, x565002_2, u565000, u565001, rfl, HA, HK2, HO_565000, HO_565001, BK564, HB⟩ := hrel
          cases gk with
          | zero => exact absurd HA.out (by simp [hibernaclelaw15_DriveGone.l0])
          | succ k2 =>
            have H := HA.out
            clear HA
            simp only [hibernaclelaw15_DriveGone.l0] at H
            by_cases c24 : x29_2 < (Int.tmod (wrap64 (a1)) 40)
            · rw [if_pos c24] at H
              have c24b0 : decide (x29_2 < (Int.tmod (wrap64 (a1)) 40)) = true := decide_eq_true c24
              clear c24
              replace H := Option.bind_eq_some_iff.mp H
              obtain ⟨⟨t569, t572, t575, t576⟩, A250, H⟩ := H
              replace H : (if (Int.tmod x29_2 2) = 0 then ((hibernaclelaw15_ones.f k2).bind fun t578 => ((drive_Put.f k2 x565000_2 x565001_2 x565002_2 0 t578).bind fun bt579 => (hibernaclelaw15_DriveGone.j2 k2 a0_2 x29_2 bt579.2.2.2 (Int.tmod (wrap64 (a1)) 40) x29_2 x565000_2 x565001_2 x565002_2 bt579.1 bt579.2.1 bt579.2.2.1))) else (hibernaclelaw15_DriveGone.j2 k2 a0_2 x29_2 t576 (Int.tmod (wrap64 (a1)) 40) x29_2 x565000_2 x565001_2 x565002_2 t569 t572 t575)) = some r := H
              have A25 := Aside0.mk A250
              clear A250
              have HC26 := Aside0.mk H
              clear H
              have hcz27_0 : wr.cell? ⟨gb564, 0, none⟩ = some (u565000) := (blk_cell BK564.out 0).trans rfl
              have hcz27_1 : wr.cell? ⟨gb564, 1, none⟩ = some (u565001) := (blk_cell BK564.out 1).trans rfl
              have hcz27_2 : wr.cell? ⟨gb564, 2, none⟩ = some (.int .i64 x565002_2) := (blk_cell BK564.out 2).trans rfl
              have hfz27_0 := blk_frozen BK564.out 0
              have hfz27_1 := blk_frozen BK564.out 1
              have hfz27_2 := blk_frozen BK564.out 2
              obtain ⟨Ao28, co28, eo28⟩ := Kd.V_slice HO_565000.out
              subst eo28
              obtain ⟨Ao29, co29, eo29⟩ := Kd.V_slice HO_565001.out
              subst eo29
              go_upto_if 39 with (first | ((with_reducible refine gate_callee (f := 40) rfl ?_); refine goesL_ (some 34) rfl rfl Try.func40 (by kernel_rfl) rfl #[.agg #[.slice Ao28 x565000_2.length co28, .slice Ao29 x565001_2.length co29, .int .i64 x565002_2]] rfl (by (try simp only [List.map_toArray, List.map_cons, List.map_nil]); first | done | rfl | (simp only [List.length_drop, List.length_take]; rfl)) ?_; (with_reducible refine (drive_Flush.calls _ _ x565000_2 _ _ x565001_2 x565002_2 t569 t572 t575 t576 _ ?side1 ?side2 ?side3 ?side4 A25.out).mono ?_); (case side1 => repeat (first | exact (Kd.V_reads' HO_565000.out).2.2 | (with_reducible refine Kd.C_alloc ?_ _) | (with_reducible refine Kd.C_drewN ?_ _) | (with_reducible refine Kd.C_drew ?_))); (case side2 => exact (Kd.V_reads' HO_565000.out).2.1); (case side3 => repeat (first | exact (Kd.V_reads' HO_565001.out).2.2 | (with_reducible refine Kd.C_alloc ?_ _) | (with_reducible refine Kd.C_drewN ?_ _) | (with_reducible refine Kd.C_drew ?_))); (case side4 => exact (Kd.V_reads' HO_565001.out).2.1); rintro e w30 ⟨v570, v573, rfl, ho0, ho1, hb⟩; refine ⟨_, rfl, ?_⟩; have n0_ := Aside0.mk (Kd.V_mono (Kd.V_told (Kd.V_told (Kd.V_old (by (with_reducible repeat (first | apply Kd.V_alloc | apply Kd.V_drewN | apply Kd.V_drew)); exact HO_565000.out) hb) (Kd.R_base ho0)) (Kd.R_base ho1)) (fun _ h_ => h_.1)); have n1_ := Aside0.mk (Kd.V_mono (Kd.V_told (Kd.V_told (Kd.V_old (by (with_reducible repeat (first | apply Kd.V_alloc | apply Kd.V_drewN | apply Kd.V_drew)); exact HO_565001.out) hb) (Kd.R_base ho0)) (Kd.R_base ho1)) (fun _ h_ => h_.1)); have n2_ := Aside0.mk (Kd.R_lower (Kd.R_newM (M := fun k_ => (w.heap.size ≤ k_)) ho0 (below_size (by repeat (first | (with_reducible first | exact HB.out | apply below_alloc | apply pw_below_drewN | apply below_drew1 | refine below_set ?_ GE564.out) | exact HB.out))) (fun k_ h_ => h_)) (below_size (by repeat (first | (with_reducible first | exact HB.out | apply below_alloc | apply pw_below_drewN | apply below_drew1 | refine below_set ?_ GE564.out) | exact HB.out)))); have n3_ := Aside0.mk (Kd.R_lower (Kd.R_newM (M := fun k_ => (w.heap.size ≤ k_)) ho1 (below_size (by repeat (first | (with_reducible first | exact HB.out | apply below_alloc | apply pw_below_drewN | apply below_drew1 | refine below_set ?_ GE564.out) | exact HB.out))) (fun k_ h_ => h_)) (below_size (by repeat (first | (with_reducible first | exact HB.out | apply below_alloc | apply pw_below_drewN | apply below_drew1 | refine below_set ?_ GE564.out) | exact HB.out)))); have n4_ := Aside0.mk (blk_below (g := gb564) (o := .cells #[.slice Ao28 x565000_2.length co28, .slice Ao29 x565001_2.length co29, .int .i64 x565002_2] 29 (0, 0)) (by (with_reducible repeat (first | refine blk_drewN ?_ _ | refine blk_drew ?_ | refine blk_alloc ?_ _)); exact BK564.out) hb); have n5_ := Aside0.mk (below_step (by repeat (first | (with_reducible first | exact HB.out | apply below_alloc | apply pw_below_drewN | apply below_drew1 | refine below_set ?_ GE564.out) | exact HB.out)) hb); clear HO_565000; clear HO_565001; clear BK564; clear HB; have HO_565000 := n0_; have HO_565001 := n1_; have HO571 := n2_; have HO574 := n3_; have BK564 := n4_; have HB := n5_; clear n0_ n1_ n2_ n3_ n4_ n5_; (try clear hb); (try clear hb2); (try clear hk); (try clear hi); (try clear ho0); (try clear ho1)) | ((with_reducible refine gate_dst (N := 7) rfl ?_); (try (refine gate_guard (by rfl) ?_; dsimp only)); refine box_event ?hg (N := 7) ?hd (cs := #[.slice none 0 0, .slice none 0 0, .int .i64 0]) (t := 29) ?hr ?_; (case hd => rfl); (case hg => rfl); (case hr => first | (go_simp; done) | (go_simp; rfl)); intro gb577 hg w31 hbox hb; have n0_ := Aside0.mk (Kd.V_below (Kd.V_elderB (by (with_reducible repeat (first | apply Kd.V_alloc | apply Kd.V_drewN | apply Kd.V_drew)); exact HO_565000.out) gb577 (Nat.le_of_eq hg.symm)) hb); have n1_ := Aside0.mk (Kd.V_below (Kd.V_elderB (by (with_reducible repeat (first | apply Kd.V_alloc | apply Kd.V_drewN | apply Kd.V_drew)); exact HO_565001.out) gb577 (Nat.le_of_eq hg.symm)) hb); have n2_ := Aside0.mk (Kd.R_below (by (with_reducible repeat (first | apply Kd.R_alloc | apply Kd.R_drewN | apply Kd.R_drew)); exact HO571.out) hb); have n3_ := Aside0.mk (Kd.R_below (by (with_reducible repeat (first | apply Kd.R_alloc | apply Kd.R_drewN | apply Kd.R_drew)); exact HO574.out) hb); have n4_ := Aside0.mk (blk_below (g := gb564) (o := .cells #[.slice Ao28 x565000_2.length co28, .slice Ao29 x565001_2.length co29, .int .i64 x565002_2] 29 (0, 0)) (by (with_reducible repeat (first | refine blk_drewN ?_ _ | refine blk_drew ?_ | refine blk_alloc ?_ _)); exact BK564.out) hb); have n5_ := Aside0.mk (below_step (by repeat (first | (with_reducible first | exact HB.out | apply below_alloc | apply pw_below_drewN | apply below_drew1 | refine below_set ?_ GE564.out) | exact HB.out)) hb); have n6_ := Aside0.mk (hbox); have n7_ := Aside0.mk ((by rw [hg]; exact (below_size (by repeat (first | (with_reducible first | exact HB.out | apply below_alloc | apply pw_below_drewN | apply below_drew1 | refine below_set ?_ GE564.out) | exact HB.out))) : w.heap.size ≤ gb577)); have n8_ := Aside0.mk ((by rw [hg]; exact (below_size (by repeat (first | (with_reducible first | exact HB.out | apply below_alloc | apply pw_below_drewN | apply below_drew1 | refine below_set ?_ GE564.out) | exact HB.out))) : w.heap.size ≤ gb577)); have n9_ := Aside0.mk ((by rw [hg]; exact Nat.ne_of_lt (blk_lt (g := gb564) (o := .cells #[.slice Ao28 x565000_2.length co28, .slice Ao29 x565001_2.length co29, .int .i64 x565002_2] 29 (0, 0)) (by (with_reducible repeat (first | refine blk_drewN ?_ _ | refine blk_drew ?_ | refine blk_alloc ?_ _)); exact BK564.out)) : gb564 ≠ gb577)); have n10_ := Aside0.mk ((by rw [hg]; exact Nat.ne_of_gt (blk_lt (g := gb564) (o := .cells #[.slice Ao28 x565000_2.length co28, .slice Ao29 x565001_2.length co29, .int .i64 x565002_2] 29 (0, 0)) (by (with_reducible repeat (first | refine blk_drewN ?_ _ | refine blk_drew ?_ | refine blk_alloc ?_ _)); exact BK564.out)) : gb577 ≠ gb564)); clear HO_565000; clear HO_565001; clear HO571; clear HO574; clear BK564; clear HB; have HO_565000 := n0_; have HO_565001 := n1_; have HO571 := n2_; have HO574 := n3_; have BK564 := n4_; have HB := n5_; have BK577 := n6_; have GW577 := n7_; have GE577 := n8_; have NB564_577 := n9_; have NB577_564 := n10_; clear n0_ n1_ n2_ n3_ n4_ n5_ n6_ n7_ n8_ n9_ n10_; clear hb hbox hg; obtain ⟨Ao32, co32, eo32⟩ := Kd.R_slice HO571.out; subst eo32; have hnb33 := NB577_564.out; have hnc33 := NB564_577.out; have hcz34_0 : w31.cell? ⟨gb577, 0, none⟩ = some (.slice none 0 0) := (blk_cell BK577.out 0).trans rfl; have hcz34_1 : w31.cell? ⟨gb577, 1, none⟩ = some (.slice none 0 0) := (blk_cell BK577.out 1).trans rfl; have hcz34_2 : w31.cell? ⟨gb577, 2, none⟩ = some (.int .i64 0) := (blk_cell BK577.out 2).trans rfl; have hfz34_0 := blk_frozen BK577.out 0; have hfz34_1 := blk_frozen BK577.out 1; have hfz34_2 := blk_frozen BK577.out 2; obtain ⟨Ao35, co35, eo35⟩ := Kd.R_slice HO574.out; subst eo35))
              (try simp only [Act.put, List.setIfInBounds_toArray, List.set_cons_zero, List.set_cons_succ])
              go_cut [8] (fun v8 wc => ∃ (kq : Nat) (x8_25 : Int) (x578000_25 : List ByteArray) (x578001_25 : List (S27)) (x578002_25 : Int) (u578000 : Value) (u578001 : Value), v8 = .int .i64 x8_25 ∧ Aside0 (hibernaclelaw15_DriveGone.j2 kq a0_2 x29_2 x8_25 (Int.tmod (wrap64 (a1)) 40) x29_2 x565000_2 x565001_2 x565002_2 x578000_25 x578001_25 x578002_25 = some r) ∧ Aside0 (kq ≤ k2) ∧ Aside0 (Kd.V Kd.string 9 wc w.heap.size (fun k_ => ((P0_0_ k_ ∨ P0_1_ k_) ∨ w.heap.size ≤ k_) ∧ some k_ ≠ (u578000 : Value).ownBlock ∧ some k_ ≠ (u578001 : Value).ownBlock ∧ k_ ≠ gb564 ∧ k_ ≠ gb577) (.slice Ao28 x565000_2.length co28) x565000_2) ∧ Aside0 (Kd.V k27 27 wc w.heap.size (fun k_ => ((P0_0_ k_ ∨ P0_1_ k_) ∨ w.heap.size ≤ k_) ∧ some k_ ≠ (u578000 : Value).ownBlock ∧ some k_ ≠ (u578001 : Value).ownBlock ∧ k_ ≠ gb564 ∧ k_ ≠ gb577) (.slice Ao29 x565001_2.length co29) x565001_2) ∧ Aside0 (Kd.R Kd.string 9 wc w.heap.size (fun k_ => (w.heap.size ≤ k_)) u578000 x578000_25) ∧ Aside0 (Kd.R k27 27 wc w.heap.size (fun k_ => (w.heap.size ≤ k_)) u578001 x578001_25) ∧ Aside0 (wc.heap[gb564]? = some (.cells #[(.slice Ao28 x565000_2.length co28), (.slice Ao29 x565001_2.length co29), .int .i64 x565002_2] 29 (0, 0))) ∧ Aside0 (wc.heap[gb577]? = some (.cells #[u578000, u578001, .int .i64 x578002_25] 29 (0, 0))) ∧ Aside0 (Below w.heap.size w wc))
              case first =>
                have H := HC26.out
                clear HC26
                by_cases c36 : (Int.tmod x29_2 2) = 0
                · rw [if_pos c36] at H
                  have c36b0 : ((Int.tmod x29_2 2) == 0) = true := beq_iff_eq.mpr c36
                  have c36b1 : ((Int.tmod x29_2 2) != 0) = false := bne_eq_false_iff_eq.mpr c36
                  clear c36
                  (first | rw [c36b0] | (simp only [i64_w, i32_w]; rw [c36b0]) | skip)
                  replace H := Option.bind_eq_some_iff.mp H
                  obtain ⟨t578, A370, H⟩ := H
                  replace H : ((drive_Put.f k2 x565000_2 x565001_2 x565002_2 0 t578).bind fun bt579 => (hibernaclelaw15_DriveGone.j2 k2 a0_2 x29_2 bt579.2.2.2 (Int.tmod (wrap64 (a1)) 40) x29_2 x565000_2 x565001_2 x565002_2 bt579.1 bt579.2.1 bt579.2.2.1)) = some r := H
                  have A37 := Aside0.mk A370
                  clear A370
                  replace H := Option.bind_eq_some_iff.mp H
                  obtain ⟨⟨t579, t582, t585, t586⟩, A380, H⟩ := H
                  replace H : (hibernaclelaw15_DriveGone.j2 k2 a0_2 x29_2 t586 (Int.tmod (wrap64 (a1)) 40) x29_2 x565000_2 x565001_2 x565002_2 t579 t582 t585) = some r := H
                  have A38 := Aside0.mk A380
                  clear A380
                  have H' := Aside0.mk H
                  clear H
                  try go_wp2
                  have n0_ : Aside0 (Kd.V Kd.string 9 (((w31.setCell ⟨gb577, 0, none⟩ (.slice Ao32 t569.length co32)).setCell ⟨gb577, 1, none⟩ (.slice Ao35 t572.length co35)).setCell ⟨gb577, 2, none⟩ (.int .i64 t575)) w.heap.size (fun k_ => ((P0_0_ k_ ∨ P0_1_ k_) ∨ w.heap.size ≤ k_) ∧ some k_ ≠ (.slice Ao32 t569.length co32 : Value).ownBlock ∧ some k_ ≠ (.slice Ao35 t572.length co35 : Value).ownBlock ∧ k_ ≠ gb564 ∧ k_ ≠ gb577) (.slice Ao28 x565000_2.length co28) x565000_2) := ⟨by (with_reducible repeat (first | apply Kd.V_alloc | apply Kd.V_drewN | apply Kd.V_drew)); exact Kd.V_mono (Kd.V_far (p := ⟨gb577, 2, none⟩) (Kd.V_far (p := ⟨gb577, 1, none⟩) (Kd.V_far (p := ⟨gb577, 0, none⟩) (Kd.V_mono HO_565000.out (fun k_ hk => (⟨hk, hk.2⟩ : _ ∧ k_ ≠ gb577))) (fun _ hk => hk.2) (.slice Ao32 t569.length co32)) (fun _ hk => hk.2) (.slice Ao35 t572.length co35)) (fun _ hk => hk.2) (.int .i64 t575)) (fun _ hk => ⟨hk.1.1.1.1.1, ⟨hk.1.1.1.2, ⟨hk.1.1.2, ⟨hk.1.1.1.1.2, hk.1.2⟩⟩⟩⟩)⟩
                  have n1_ : Aside0 (Kd.V k27 27 (((w31.setCell ⟨gb577, 0, none⟩ (.slice Ao32 t569.length co32)).setCell ⟨gb577, 1, none⟩ (.slice Ao35 t572.length co35)).setCell ⟨gb577, 2, none⟩ (.int .i64 t575)) w.heap.size (fun k_ => ((P0_0_ k_ ∨ P0_1_ k_) ∨ w.heap.size ≤ k_) ∧ some k_ ≠ (.slice Ao32 t569.length co32 : Value).ownBlock ∧ some k_ ≠ (.slice Ao35 t572.length co35 : Value).ownBlock ∧ k_ ≠ gb564 ∧ k_ ≠ gb577) (.slice Ao29 x565001_2.length co29) x565001_2) := ⟨by (with_reducible repeat (first | apply Kd.V_alloc | apply Kd.V_drewN | apply Kd.V_drew)); exact Kd.V_mono (Kd.V_far (p := ⟨gb577, 2, none⟩) (Kd.V_far (p := ⟨gb577, 1, none⟩) (Kd.V_far (p := ⟨gb577, 0, none⟩) (Kd.V_mono HO_565001.out (fun k_ hk => (⟨hk, hk.2⟩ : _ ∧ k_ ≠ gb577))) (fun _ hk => hk.2) (.slice Ao32 t569.length co32)) (fun _ hk => hk.2) (.slice Ao35 t572.length co35)) (fun _ hk => hk.2) (.int .i64 t575)) (fun _ hk => ⟨hk.1.1.1.1.1, ⟨hk.1.1.1.2, ⟨hk.1.1.2, ⟨hk.1.1.1.1.2, hk.1.2⟩⟩⟩⟩)⟩
                  have n2_ : Aside0 (Kd.R Kd.string 9 (((w31.setCell ⟨gb577, 0, none⟩ (.slice Ao32 t569.length co32)).setCell ⟨gb577, 1, none⟩ (.slice Ao35 t572.length co35)).setCell ⟨gb577, 2, none⟩ (.int .i64 t575)) w.heap.size (fun k_ => (w.heap.size ≤ k_)) (.slice Ao32 t569.length co32) t569) := ⟨by (with_reducible repeat (first | apply Kd.R_alloc | apply Kd.R_drewN | apply Kd.R_drew)); exact Kd.R_mono (Kd.R_far (p := ⟨gb577, 2, none⟩) (Kd.R_far (p := ⟨gb577, 1, none⟩) (Kd.R_far (p := ⟨gb577, 0, none⟩) (Kd.R_types HO571.out BK577.out (by decide)) (fun _ hk => hk.2) (.slice Ao32 t569.length co32)) (fun _ hk => hk.2) (.slice Ao35 t572.length co35)) (fun _ hk => hk.2) (.int .i64 t575)) (fun _ hk => hk.1.1)⟩
                  have n3_ : Aside0 (Kd.R k27 27 (((w31.setCell ⟨gb577, 0, none⟩ (.slice Ao32 t569.length co32)).setCell ⟨gb577, 1, none⟩ (.slice Ao35 t572.length co35)).setCell ⟨gb577, 2, none⟩ (.int .i64 t575)) w.heap.size (fun k_ => (w.heap.size ≤ k_)) (.slice Ao35 t572.length co35) t572) := ⟨by (with_reducible repeat (first | apply Kd.R_alloc | apply Kd.R_drewN | apply Kd.R_drew)); exact Kd.R_mono (Kd.R_far (p := ⟨gb577, 2, none⟩) (Kd.R_far (p := ⟨gb577, 1, none⟩) (Kd.R_far (p := ⟨gb577, 0, none⟩) (Kd.R_types HO574.out BK577.out (by decide)) (fun _ hk => hk.2) (.slice Ao32 t569.length co32)) (fun _ hk => hk.2) (.slice Ao35 t572.length co35)) (fun _ hk => hk.2) (.int .i64 t575)) (fun _ hk => hk.1.1)⟩
                  have n4_ : Aside0 ((((w31.setCell ⟨gb577, 0, none⟩ (.slice Ao32 t569.length co32)).setCell ⟨gb577, 1, none⟩ (.slice Ao35 t572.length co35)).setCell ⟨gb577, 2, none⟩ (.int .i64 t575)).heap[gb564]? = some (.cells #[.slice Ao28 x565000_2.length co28, .slice Ao29 x565001_2.length co29, .int .i64 x565002_2] 29 (0, 0))) := ⟨by (with_reducible repeat (first | refine blk_drewN ?_ _ | refine blk_drew ?_ | refine blk_alloc ?_ _)); refine blk_far ?_ NB564_577.out _; (with_reducible repeat (first | refine blk_drewN ?_ _ | refine blk_drew ?_ | refine blk_alloc ?_ _)); refine blk_far ?_ NB564_577.out _; (with_reducible repeat (first | refine blk_drewN ?_ _ | refine blk_drew ?_ | refine blk_alloc ?_ _)); refine blk_far ?_ NB564_577.out _; (with_reducible repeat (first | refine blk_drewN ?_ _ | refine blk_drew ?_ | refine blk_alloc ?_ _)); exact BK564.out⟩
                  have n5_ : Aside0 ((((w31.setCell ⟨gb577, 0, none⟩ (.slice Ao32 t569.length co32)).setCell ⟨gb577, 1, none⟩ (.slice Ao35 t572.length co35)).setCell ⟨gb577, 2, none⟩ (.int .i64 t575)).heap[gb577]? = some (.cells #[.slice Ao32 t569.length co32, .slice Ao35 t572.length co35, .int .i64 t575] 29 (0, 0))) := ⟨by (with_reducible repeat (first | refine blk_drewN ?_ _ | refine blk_drew ?_ | refine blk_alloc ?_ _)); refine blk_put (cs := #[.slice Ao32 t569.length co32, .slice Ao35 t572.length co35, .int .i64 0]) ?_ 2 _ rfl; (with_reducible repeat (first | refine blk_drewN ?_ _ | refine blk_drew ?_ | refine blk_alloc ?_ _)); refine blk_put (cs := #[.slice Ao32 t569.length co32, .slice none 0 0, .int .i64 0]) ?_ 1 _ rfl; (with_reducible repeat (first | refine blk_drewN ?_ _ | refine blk_drew ?_ | refine blk_alloc ?_ _)); refine blk_put (cs := #[.slice none 0 0, .slice none 0 0, .int .i64 0]) ?_ 0 _ rfl; (with_reducible repeat (first | refine blk_drewN ?_ _ | refine blk_drew ?_ | refine blk_alloc ?_ _)); exact BK577.out⟩
                  have n6_ : Aside0 (Below w.heap.size w (((w31.setCell ⟨gb577, 0, none⟩ (.slice Ao32 t569.length co32)).setCell ⟨gb577, 1, none⟩ (.slice Ao35 t572.length co35)).setCell ⟨gb577, 2, none⟩ (.int .i64 t575))) := ⟨by repeat (first | (with_reducible first | exact HB.out | apply below_alloc | apply pw_below_drewN | apply below_drew1 | refine below_set ?_ GE564.out | refine below_set ?_ GE577.out) | exact HB.out)⟩
                  (try clear HO_565000)
                  (try clear HO_565001)
                  (try clear HO571)
                  (try clear HO574)
                  (try clear BK564)
                  (try clear BK577)
                  (try clear HB)
                  generalize (((w31.setCell ⟨gb577, 0, none⟩ (.slice Ao32 t569.length co32)).setCell ⟨gb577, 1, none⟩ (.slice Ao35 t572.length co35)).setCell ⟨gb577, 2, none⟩ (.int .i64 t575)) = w39 at n0_ n1_ n2_ n3_ n4_ n5_ n6_ ⊢
                  have HO_565000 := n0_
                  have HO_565001 := n1_
                  have HO571 := n2_
                  have HO574 := n3_
                  have BK564 := n4_
                  have BK577 := n5_
                  have HB := n6_
                  clear n0_ n1_ n2_ n3_ n4_ n5_ n6_
                  have n0_ := Aside0.mk (Kd.V_drew HO_565000.out)
                  have n1_ := Aside0.mk (Kd.V_drew HO_565001.out)
                  have n2_ := Aside0.mk (Kd.R_drew HO571.out)
                  have n3_ := Aside0.mk (Kd.R_drew HO574.out)
                  have n4_ := Aside0.mk (blk_drew BK564.out)
                  have n5_ := Aside0.mk (blk_drew BK577.out)
                  have n6_ := Aside0.mk (below_drew1 HB.out)
                  clear HO_565000
                  clear HO_565001
                  clear HO571
                  clear HO574
                  clear BK564
                  clear BK577
                  clear HB
                  have HO_565000 := n0_
                  have HO_565001 := n1_
                  have HO571 := n2_
                  have HO574 := n3_
                  have BK564 := n4_
                  have BK577 := n5_
                  have HB := n6_
                  clear n0_ n1_ n2_ n3_ n4_ n5_ n6_
                  refine start_ (n := 8) (S := fun w' => w'.cell? ⟨gb564, 0, none⟩ = some (.slice Ao28 x565000_2.length co28) ∧ w'.cell? ⟨gb564, 1, none⟩ = some (.slice Ao29 x565001_2.length co29) ∧ w'.cell? ⟨gb564, 2, none⟩ = some (.int .i64 x565002_2)) (ds := []) #[false, false, false, false, false, false, false, false] (by kernel_rfl) rfl rfl ⟨(blk_cell BK564.out 0).trans rfl, (blk_cell BK564.out 1).trans rfl, (blk_cell BK564.out 2).trans rfl⟩ (fun hHeld => ?_); refine with_tabW hibernaclelaw15_DriveGone.tab9 hibernaclelaw15_DriveGone.bits9 (fun HT_ HW_ => ?_)
                  generalize w39.drew = w40 at HO_565000 HO_565001 HO571 HO574 BK564 BK577 HB hHeld ⊢
                  refine take_ (i := 0) (N := some 41) (v := ?_) (a' := ?_) #[true, false, false, false, false, false, false, false] rfl rfl (take_ofW HT_.out HW_.out (by kernel_rfl)) (fun _ _ _ h => h) (Or.inl ⟨by rfl, ?_⟩) hHeld ?_ ?_
                  rotate_left
                  · rintro w' ⟨s0, s1, s2⟩
                    go_simp
                    with_reducible rfl
                  rotate_left
                  · simp only [Act.put, List.setIfInBounds_toArray, List.set_cons_zero, List.set_cons_succ, i64_w, i32_w]
                    rfl
                  refine one_ (i := 1) (N := some 42) #[true, true, false, false, false, false, false, false] rfl rfl (one_of HT_.out (by kernel_rfl)) (by decide) (fun K hK => ?_)
                  refine goes_ Try.func45 (by kernel_rfl) rfl #[] (by rfl) rfl rfl (by (try simp only [List.map_toArray, List.map_cons, List.map_nil]); first | done | rfl | (simp only [List.length_drop, List.length_take]; rfl)) ?_
                  with_reducible refine (hibernaclelaw15_ones.calls k2  t578 _ A37.out).mono ?_
                  rintro e w41 ⟨rfl, hb⟩
                  refine ⟨_, rfl, ?_⟩
                  have n0_ := Aside0.mk (Kd.V_below (by (with_reducible repeat (first | apply Kd.V_alloc | apply Kd.V_drewN | apply Kd.V_drew)); exact HO_565000.out) hb)
                  have n1_ := Aside0.mk (Kd.V_below (by (with_reducible repeat (first | apply Kd.V_alloc | apply Kd.V_drewN | apply Kd.V_drew)); exact HO_565001.out) hb)
                  have n2_ := Aside0.mk (Kd.R_below (by (with_reducible repeat (first | apply Kd.R_alloc | apply Kd.R_drewN | apply Kd.R_drew)); exact HO571.out) hb)
                  have n3_ := Aside0.mk (Kd.R_below (by (with_reducible repeat (first | apply Kd.R_alloc | apply Kd.R_drewN | apply Kd.R_drew)); exact HO574.out) hb)
                  have n4_ := Aside0.mk (blk_below (g := gb564) (o := .cells #[.slice Ao28 x565000_2.length co28, .slice Ao29 x565001_2.length co29, .int .i64 x565002_2] 29 (0, 0)) (by (with_reducible repeat (first | refine blk_drewN ?_ _ | refine blk_drew ?_ | refine blk_alloc ?_ _)); exact BK564.out) hb)
                  have n5_ := Aside0.mk (blk_below (g := gb577) (o := .cells #[.slice Ao32 t569.length co32, .slice Ao35 t572.length co35, .int .i64 t575] 29 (0, 0)) (by (with_reducible repeat (first | refine blk_drewN ?_ _ | refine blk_drew ?_ | refine blk_alloc ?_ _)); exact BK577.out) hb)
                  have n6_ := Aside0.mk (below_step (by repeat (first | (with_reducible first | exact HB.out | apply below_alloc | apply pw_below_drewN | apply below_drew1 | refine below_set ?_ GE564.out | refine below_set ?_ GE577.out) | exact HB.out)) hb)
                  clear HO_565000
                  clear HO_565001
                  clear HO571
                  clear HO574
                  clear BK564
                  clear BK577
                  clear HB
                  have HO_565000 := n0_
                  have HO_565001 := n1_
                  have HO571 := n2_
                  have HO574 := n3_
                  have BK564 := n4_
                  have BK577 := n5_
                  have HB := n6_
                  clear n0_ n1_ n2_ n3_ n4_ n5_ n6_
                  (try clear hb)
                  (try clear hb2)
                  (try clear hk)
                  (try clear hi)
                  refine hK.out _ _ ⟨(blk_cell BK564.out 0).trans rfl, (blk_cell BK564.out 1).trans rfl, (blk_cell BK564.out 2).trans rfl⟩ (fun hHeld => ?_)
                  clear hK K
                  refine norm_ (a' := ?_) ?_ ?_
                  rotate_left
                  · show Act.put _ (some 42) _ = _
                    simp only [Act.put, List.setIfInBounds_toArray, List.set_cons_zero, List.set_cons_succ, i64_w, i32_w]
                    rfl
                  refine one_ (i := 2) (N := some 43) #[true, true, true, false, false, false, false, false] rfl rfl (one_of HT_.out (by kernel_rfl)) (by decide) (fun K hK => ?_)
                  refine goes_ Try.func38 (by kernel_rfl) rfl #[.agg #[.slice Ao28 x565000_2.length co28, .slice Ao29 x565001_2.length co29, .int .i64 x565002_2], .int .i64 0, .string t578] (by rfl) rfl rfl (by (try simp only [List.map_toArray, List.map_cons, List.map_nil]); first | done | rfl | (simp only [List.length_drop, List.length_take]; rfl)) ?_
                  with_reducible refine (drive_Put.calls k2 _ _ x565000_2 _ _ x565001_2 x565002_2 0 t578 t579 t582 t585 t586 _ ?side1 ?side2 ?side3 ?side4 A38.out).mono ?_
                  (case side1 => repeat (first | exact (Kd.V_reads' HO_565000.out).2.2 | (with_reducible refine Kd.C_alloc ?_ _) | (with_reducible refine Kd.C_drewN ?_ _) | (with_reducible refine Kd.C_drew ?_)))
                  (case side2 => exact (Kd.V_reads' HO_565000.out).2.1)
                  (case side3 => repeat (first | exact (Kd.V_reads' HO_565001.out).2.2 | (with_reducible refine Kd.C_alloc ?_ _) | (with_reducible refine Kd.C_drewN ?_ _) | (with_reducible refine Kd.C_drew ?_)))
                  (case side4 => exact (Kd.V_reads' HO_565001.out).2.1)
                  rintro e w42 ⟨v580, v583, rfl, ho0, ho1, hb⟩
                  refine ⟨_, rfl, ?_⟩
                  have n0_ := Aside0.mk (Kd.V_mono (Kd.V_told (Kd.V_told (Kd.V_old (by (with_reducible repeat (first | apply Kd.V_alloc | apply Kd.V_drewN | apply Kd.V_drew)); exact HO_565000.out) hb) (Kd.R_base ho0)) (Kd.R_base ho1)) (fun _ h_ => h_.1))
                  have n1_ := Aside0.mk (Kd.V_mono (Kd.V_told (Kd.V_told (Kd.V_old (by (with_reducible repeat (first | apply Kd.V_alloc | apply Kd.V_drewN | apply Kd.V_drew)); exact HO_565001.out) hb) (Kd.R_base ho0)) (Kd.R_base ho1)) (fun _ h_ => h_.1))
                  have n2_ := Aside0.mk (Kd.R_elder' (by (with_reducible repeat (first | apply Kd.R_alloc | apply Kd.R_drewN | apply Kd.R_drew)); exact HO571.out) (Kd.R_base ho0) hb)
                  have n3_ := Aside0.mk (Kd.R_elder' (by (with_reducible repeat (first | apply Kd.R_alloc | apply Kd.R_drewN | apply Kd.R_drew)); exact HO574.out) (Kd.R_base ho1) hb)
                  have n4_ := Aside0.mk (Kd.R_lower (Kd.R_new' (Kd.R_newM (M := fun k_ => (w.heap.size ≤ k_)) ho0 (below_size (by repeat (first | (with_reducible first | exact HB.out | apply below_alloc | apply pw_below_drewN | apply below_drew1 | refine below_set ?_ GE564.out | refine below_set ?_ GE577.out) | exact HB.out))) (fun k_ h_ => h_)) (Kd.R_lt (by (with_reducible repeat (first | apply Kd.R_alloc | apply Kd.R_drewN | apply Kd.R_drew)); exact HO571.out))) (below_size (by repeat (first | (with_reducible first | exact HB.out | apply below_alloc | apply pw_below_drewN | apply below_drew1 | refine below_set ?_ GE564.out | refine below_set ?_ GE577.out) | exact HB.out))))
                  have n5_ := Aside0.mk (Kd.R_lower (Kd.R_new' (Kd.R_newM (M := fun k_ => (w.heap.size ≤ k_)) ho1 (below_size (by repeat (first | (with_reducible first | exact HB.out | apply below_alloc | apply pw_below_drewN | apply below_drew1 | refine below_set ?_ GE564.out | refine below_set ?_ GE577.out) | exact HB.out))) (fun k_ h_ => h_)) (Kd.R_lt (by (with_reducible repeat (first | apply Kd.R_alloc | apply Kd.R_drewN | apply Kd.R_drew)); exact HO574.out))) (below_size (by repeat (first | (with_reducible first | exact HB.out | apply below_alloc | apply pw_below_drewN | apply below_drew1 | refine below_set ?_ GE564.out | refine below_set ?_ GE577.out) | exact HB.out))))
                  have n6_ := Aside0.mk (blk_below (g := gb564) (o := .cells #[.slice Ao28 x565000_2.length co28, .slice Ao29 x565001_2.length co29, .int .i64 x565002_2] 29 (0, 0)) (by (with_reducible repeat (first | refine blk_drewN ?_ _ | refine blk_drew ?_ | refine blk_alloc ?_ _)); exact BK564.out) hb)
                  have n7_ := Aside0.mk (blk_below (g := gb577) (o := .cells #[.slice Ao32 t569.length co32, .slice Ao35 t572.length co35, .int .i64 t575] 29 (0, 0)) (by (with_reducible repeat (first | refine blk_drewN ?_ _ | refine blk_drew ?_ | refine blk_alloc ?_ _)); exact BK577.out) hb)
                  have n8_ := Aside0.mk (below_step (by repeat (first | (with_reducible first | exact HB.out | apply below_alloc | apply pw_below_drewN | apply below_drew1 | refine below_set ?_ GE564.out | refine below_set ?_ GE577.out) | exact HB.out)) hb)
                  clear HO_565000
                  clear HO_565001
                  clear HO571
                  clear HO574
                  clear BK564
                  clear BK577
                  clear HB
                  have HO_565000 := n0_
                  have HO_565001 := n1_
                  have HO571 := n2_
                  have HO574 := n3_
                  have HO581 := n4_
                  have HO584 := n5_
                  have BK564 := n6_
                  have BK577 := n7_
                  have HB := n8_
                  clear n0_ n1_ n2_ n3_ n4_ n5_ n6_ n7_ n8_
                  (try clear hb)
                  (try clear hb2)
                  (try clear hk)
                  (try clear hi)
                  (try clear ho0)
                  (try clear ho1)
                  obtain ⟨Ao43, co43, eo43⟩ := Kd.R_slice HO581.out
                  (first | subst eo43 | (injection eo43 with f1_ f2_ f3_; have f4_ := f1_.symm; have f5_ := f3_.symm; clear f1_ f2_ f3_; subst f4_; subst f5_))
                  obtain ⟨Ao45, co45, eo45⟩ := Kd.R_slice HO584.out
                  (first | subst eo45 | (injection eo45 with f1_ f2_ f3_; have f4_ := f1_.symm; have f5_ := f3_.symm; clear f1_ f2_ f3_; subst f4_; subst f5_))
                  refine hK.out _ _ ⟨(blk_cell BK564.out 0).trans rfl, (blk_cell BK564.out 1).trans rfl, (blk_cell BK564.out 2).trans rfl⟩ (fun hHeld => ?_)
                  clear hK K
                  refine norm_ (a' := ?_) ?_ ?_
                  rotate_left
                  · show Act.put _ (some 43) _ = _
                    simp only [Act.put, List.setIfInBounds_toArray, List.set_cons_zero, List.set_cons_succ, i64_w, i32_w]
                    rfl
                  refine pure_ (i := 3) (N := some 40) (v := ?_) (a' := ?_) #[true, true, true, true, false, false, false, false] rfl rfl (any_of HT_.out (by kernel_rfl)) (fun _ _ _ h => h) (Or.inl ⟨by rfl, ?_⟩) ?_ ?_
                  rotate_left
                  · intro w'
                    go_simp
                    with_reducible rfl
                  rotate_left
                  · simp only [Act.put, List.setIfInBounds_toArray, List.set_cons_zero, List.set_cons_succ, i64_w, i32_w]
                    rfl
                  refine pure_ (i := 4) (N := some 44) (v := ?_) (a' := ?_) #[true, true, true, true, true, false, false, false] rfl rfl (any_of HT_.out (by kernel_rfl)) (fun _ _ _ h => h) (Or.inl ⟨by rfl, ?_⟩) ?_ ?_
                  rotate_left
                  · intro w'
                    go_simp
                    with_reducible rfl
                  rotate_left
                  · simp only [Act.put, List.setIfInBounds_toArray, List.set_cons_zero, List.set_cons_succ, i64_w, i32_w]
                    rfl
                  refine pure_ (i := 5) (N := some 45) (v := ?_) (a' := ?_) #[true, true, true, true, true, true, false, false] rfl rfl (any_of HT_.out (by kernel_rfl)) (fun _ _ _ h => h) (Or.inl ⟨by rfl, ?_⟩) ?_ ?_
                  rotate_left
                  · intro w'
                    go_simp
                    with_reducible rfl
                  rotate_left
                  · simp only [Act.put, List.setIfInBounds_toArray, List.set_cons_zero, List.set_cons_succ, i64_w, i32_w]
                    rfl
                  refine one_ (i := 6) (N := none) #[true, true, true, true, true, true, true, false] rfl rfl (one_of HT_.out (by kernel_rfl)) (by decide) (fun K hK => ?_)
                  have hs44 : w42.cell? ⟨gb577, 0, none⟩ = some (.slice Ao32 t569.length co32) := (blk_cell BK577.out 0).trans rfl
                  have hfs44 := blk_frozen BK577.out 0
                  have hns44_0 := NB564_577.out
                  have hms44_0 := NB577_564.out
                  have hs46 : w42.cell? ⟨gb577, 1, none⟩ = some (.slice Ao35 t572.length co35) := (blk_cell BK577.out 1).trans rfl
                  have hfs46 := blk_frozen BK577.out 1
                  have hns46_0 := NB564_577.out
                  have hms46_0 := NB577_564.out
                  have hs47 : w42.cell? ⟨gb577, 2, none⟩ = some (.int .i64 t575) := (blk_cell BK577.out 2).trans rfl
                  have hfs47 := blk_frozen BK577.out 2
                  have hns47_0 := NB564_577.out
                  have hms47_0 := NB577_564.out
                  refine skip_ (w1 := ?_) (by rfl) rfl ?_ ?_
                  rotate_left
                  · go_simp
                    rfl
                  refine hK.out _ _ ⟨((cell_far (p := ⟨gb577, _, none⟩) NB564_577.out _).trans (((cell_far (p := ⟨gb577, _, none⟩) NB564_577.out _).trans (((cell_far (p := ⟨gb577, _, none⟩) NB564_577.out _).trans (hHeld.1)))))), ((cell_far (p := ⟨gb577, _, none⟩) NB564_577.out _).trans (((cell_far (p := ⟨gb577, _, none⟩) NB564_577.out _).trans (((cell_far (p := ⟨gb577, _, none⟩) NB564_577.out _).trans (hHeld.2.1)))))), ((cell_far (p := ⟨gb577, _, none⟩) NB564_577.out _).trans (((cell_far (p := ⟨gb577, _, none⟩) NB564_577.out _).trans (((cell_far (p := ⟨gb577, _, none⟩) NB564_577.out _).trans (hHeld.2.2))))))⟩ (fun hHeld => ?_)
                  clear hK K
                  refine pure_ (i := 7) (N := some 8) (v := ?_) (a' := ?_) #[true, true, true, true, true, true, true, true] rfl rfl (any_of HT_.out (by kernel_rfl)) (fun _ _ _ h => h) (Or.inl ⟨by rfl, ?_⟩) ?_ ?_
                  rotate_left
                  · intro w'
                    go_simp
                    with_reducible rfl
                  rotate_left
                  · simp only [Act.put, List.setIfInBounds_toArray, List.set_cons_zero, List.set_cons_succ, i64_w, i32_w]
                    rfl
                  refine done_ (done_of HT_.out (by kernel_rfl)) ?_
                  try go_wp2
                  go_meet
                  case rel => exact ⟨_, (t586), (t579), (t582), (t585), (.slice Ao43 t579.length co43), (.slice Ao45 t582.length co45), (by first | rfl | (simp; done) | (simp [*]; done)), H', ⟨by have := HJ2.out; have := HK2.out; first | omega | exact Nat.le_refl _⟩, ⟨by (with_reducible repeat (first | apply Kd.V_alloc | apply Kd.V_drewN | apply Kd.V_drew)); exact Kd.V_mono (Kd.V_far (p := ⟨gb577, 2, none⟩) (Kd.V_far (p := ⟨gb577, 1, none⟩) (Kd.V_far (p := ⟨gb577, 0, none⟩) (Kd.V_mono HO_565000.out (fun k_ hk => (⟨hk, hk.1.1.2.2.2.2⟩ : _ ∧ k_ ≠ gb577))) (fun _ hk => hk.2) (.slice Ao43 t579.length co43)) (fun _ hk => hk.2) (.slice Ao45 t582.length co45)) (fun _ hk => hk.2) (.int .i64 t585)) (fun _ hk => ⟨hk.1.1.1.1, ⟨hk.1.1.2, ⟨hk.1.2, ⟨hk.1.1.1.2.2.2.1, hk.1.1.1.2.2.2.2⟩⟩⟩⟩)⟩, ⟨by (with_reducible repeat (first | apply Kd.V_alloc | apply Kd.V_drewN | apply Kd.V_drew)); exact Kd.V_mono (Kd.V_far (p := ⟨gb577, 2, none⟩) (Kd.V_far (p := ⟨gb577, 1, none⟩) (Kd.V_far (p := ⟨gb577, 0, none⟩) (Kd.V_mono HO_565001.out (fun k_ hk => (⟨hk, hk.1.1.2.2.2.2⟩ : _ ∧ k_ ≠ gb577))) (fun _ hk => hk.2) (.slice Ao43 t579.length co43)) (fun _ hk => hk.2) (.slice Ao45 t582.length co45)) (fun _ hk => hk.2) (.int .i64 t585)) (fun _ hk => ⟨hk.1.1.1.1, ⟨hk.1.1.2, ⟨hk.1.2, ⟨hk.1.1.1.2.2.2.1, hk.1.1.1.2.2.2.2⟩⟩⟩⟩)⟩, ⟨by (with_reducible repeat (first | apply Kd.R_alloc | apply Kd.R_drewN | apply Kd.R_drew)); exact Kd.R_mono (Kd.R_far (p := ⟨gb577, 2, none⟩) (Kd.R_far (p := ⟨gb577, 1, none⟩) (Kd.R_far (p := ⟨gb577, 0, none⟩) (Kd.R_types HO581.out BK577.out (by decide)) (fun _ hk => hk.2) (.slice Ao43 t579.length co43)) (fun _ hk => hk.2) (.slice Ao45 t582.length co45)) (fun _ hk => hk.2) (.int .i64 t585)) (fun _ hk => hk.1.1.1)⟩, ⟨by (with_reducible repeat (first | apply Kd.R_alloc | apply Kd.R_drewN | apply Kd.R_drew)); exact Kd.R_mono (Kd.R_far (p := ⟨gb577, 2, none⟩) (Kd.R_far (p := ⟨gb577, 1, none⟩) (Kd.R_far (p := ⟨gb577, 0, none⟩) (Kd.R_types HO584.out BK577.out (by decide)) (fun _ hk => hk.2) (.slice Ao43 t579.length co43)) (fun _ hk => hk.2) (.slice Ao45 t582.length co45)) (fun _ hk => hk.2) (.int .i64 t585)) (fun _ hk => hk.1.1.1)⟩, ⟨by (with_reducible repeat (first | refine blk_drewN ?_ _ | refine blk_drew ?_ | refine blk_alloc ?_ _)); refine blk_far ?_ NB564_577.out _; (with_reducible repeat (first | refine blk_drewN ?_ _ | refine blk_drew ?_ | refine blk_alloc ?_ _)); refine blk_far ?_ NB564_577.out _; (with_reducible repeat (first | refine blk_drewN ?_ _ | refine blk_drew ?_ | refine blk_alloc ?_ _)); refine blk_far ?_ NB564_577.out _; (with_reducible repeat (first | refine blk_drewN ?_ _ | refine blk_drew ?_ | refine blk_alloc ?_ _)); exact BK564.out⟩, ⟨by (with_reducible repeat (first | refine blk_drewN ?_ _ | refine blk_drew ?_ | refine blk_alloc ?_ _)); refine blk_put (cs := #[.slice Ao43 t579.length co43, .slice Ao45 t582.length co45, .int .i64 t575]) ?_ 2 _ rfl; (with_reducible repeat (first | refine blk_drewN ?_ _ | refine blk_drew ?_ | refine blk_alloc ?_ _)); refine blk_put (cs := #[.slice Ao43 t579.length co43, .slice Ao35 t572.length co35, .int .i64 t575]) ?_ 1 _ rfl; (with_reducible repeat (first | refine blk_drewN ?_ _ | refine blk_drew ?_ | refine blk_alloc ?_ _)); refine blk_put (cs := #[.slice Ao32 t569.length co32, .slice Ao35 t572.length co35, .int .i64 t575]) ?_ 0 _ rfl; (with_reducible repeat (first | refine blk_drewN ?_ _ | refine blk_drew ?_ | refine blk_alloc ?_ _)); exact BK577.out⟩, ⟨by repeat (first | (with_reducible first | exact HB.out | apply below_alloc | apply pw_below_drewN | apply below_drew1 | refine below_set ?_ GE564.out | refine below_set ?_ GE577.out) | exact HB.out)⟩⟩
                · rw [if_neg c36] at H
                  have c36b0 : ((Int.tmod x29_2 2) == 0) = false := beq_eq_false_iff_ne.mpr c36
                  have c36b1 : ((Int.tmod x29_2 2) != 0) = true := bne_iff_ne.mpr c36
                  (first | rw [c36b0] | (simp only [i64_w, i32_w]; rw [c36b0]) | skip)
                  have H' := Aside0.mk H
                  clear H
                  go_wp2
                  go_meet
                  case rel => exact ⟨_, (t576), (t569), (t572), (t575), (.slice Ao32 t569.length co32), (.slice Ao35 t572.length co35), (by first | rfl | (simp; done) | (simp [*]; done)), H', ⟨by have := HJ2.out; have := HK2.out; first | omega | exact Nat.le_refl _⟩, ⟨by (with_reducible repeat (first | apply Kd.V_alloc | apply Kd.V_drewN | apply Kd.V_drew)); exact Kd.V_mono (Kd.V_far (p := ⟨gb577, 2, none⟩) (Kd.V_far (p := ⟨gb577, 1, none⟩) (Kd.V_far (p := ⟨gb577, 0, none⟩) (Kd.V_mono HO_565000.out (fun k_ hk => (⟨hk, hk.2⟩ : _ ∧ k_ ≠ gb577))) (fun _ hk => hk.2) (.slice Ao32 t569.length co32)) (fun _ hk => hk.2) (.slice Ao35 t572.length co35)) (fun _ hk => hk.2) (.int .i64 t575)) (fun _ hk => ⟨hk.1.1.1.1.1, ⟨hk.1.1.1.2, ⟨hk.1.1.2, ⟨hk.1.1.1.1.2, hk.1.2⟩⟩⟩⟩)⟩, ⟨by (with_reducible repeat (first | apply Kd.V_alloc | apply Kd.V_drewN | apply Kd.V_drew)); exact Kd.V_mono (Kd.V_far (p := ⟨gb577, 2, none⟩) (Kd.V_far (p := ⟨gb577, 1, none⟩) (Kd.V_far (p := ⟨gb577, 0, none⟩) (Kd.V_mono HO_565001.out (fun k_ hk => (⟨hk, hk.2⟩ : _ ∧ k_ ≠ gb577))) (fun _ hk => hk.2) (.slice Ao32 t569.length co32)) (fun _ hk => hk.2) (.slice Ao35 t572.length co35)) (fun _ hk => hk.2) (.int .i64 t575)) (fun _ hk => ⟨hk.1.1.1.1.1, ⟨hk.1.1.1.2, ⟨hk.1.1.2, ⟨hk.1.1.1.1.2, hk.1.2⟩⟩⟩⟩)⟩, ⟨by (with_reducible repeat (first | apply Kd.R_alloc | apply Kd.R_drewN | apply Kd.R_drew)); exact Kd.R_mono (Kd.R_far (p := ⟨gb577, 2, none⟩) (Kd.R_far (p := ⟨gb577, 1, none⟩) (Kd.R_far (p := ⟨gb577, 0, none⟩) (Kd.R_types HO571.out BK577.out (by decide)) (fun _ hk => hk.2) (.slice Ao32 t569.length co32)) (fun _ hk => hk.2) (.slice Ao35 t572.length co35)) (fun _ hk => hk.2) (.int .i64 t575)) (fun _ hk => hk.1.1)⟩, ⟨by (with_reducible repeat (first | apply Kd.R_alloc | apply Kd.R_drewN | apply Kd.R_drew)); exact Kd.R_mono (Kd.R_far (p := ⟨gb577, 2, none⟩) (Kd.R_far (p := ⟨gb577, 1, none⟩) (Kd.R_far (p := ⟨gb577, 0, none⟩) (Kd.R_types HO574.out BK577.out (by decide)) (fun _ hk => hk.2) (.slice Ao32 t569.length co32)) (fun _ hk => hk.2) (.slice Ao35 t572.length co35)) (fun _ hk => hk.2) (.int .i64 t575)) (fun _ hk => hk.1.1)⟩, ⟨by (with_reducible repeat (first | refine blk_drewN ?_ _ | refine blk_drew ?_ | refine blk_alloc ?_ _)); refine blk_far ?_ NB564_577.out _; (with_reducible repeat (first | refine blk_drewN ?_ _ | refine blk_drew ?_ | refine blk_alloc ?_ _)); refine blk_far ?_ NB564_577.out _; (with_reducible repeat (first | refine blk_drewN ?_ _ | refine blk_drew ?_ | refine blk_alloc ?_ _)); refine blk_far ?_ NB564_577.out _; (with_reducible repeat (first | refine blk_drewN ?_ _ | refine blk_drew ?_ | refine blk_alloc ?_ _)); exact BK564.out⟩, ⟨by (with_reducible repeat (first | refine blk_drewN ?_ _ | refine blk_drew ?_ | refine blk_alloc ?_ _)); refine blk_put (cs := #[.slice Ao32 t569.length co32, .slice Ao35 t572.length co35, .int .i64 0]) ?_ 2 _ rfl; (with_reducible repeat (first | refine blk_drewN ?_ _ | refine blk_drew ?_ | refine blk_alloc ?_ _)); refine blk_put (cs := #[.slice Ao32 t569.length co32, .slice none 0 0, .int .i64 0]) ?_ 1 _ rfl; (with_reducible repeat (first | refine blk_drewN ?_ _ | refine blk_drew ?_ | refine blk_alloc ?_ _)); refine blk_put (cs := #[.slice none 0 0, .slice none 0 0, .int .i64 0]) ?_ 0 _ rfl; (with_reducible repeat (first | refine blk_drewN ?_ _ | refine blk_drew ?_ | refine blk_alloc ?_ _)); exact BK577.out⟩, ⟨by repeat (first | (with_reducible first | exact HB.out | apply below_alloc | apply pw_below_drewN | apply below_drew1 | refine below_set ?_ GE564.out | refine below_set ?_ GE577.out) | exact HB.out)⟩⟩
              case rest =>
                clear HC26
                try clear c1
                try clear c2
                try clear p2
                try clear c3
                try clear c4
                try clear c6
                try clear c6b0
                try clear p6
                try clear c8
                try clear c10
                try clear c10b0
                try clear c10b1
                try clear c20
                try clear c24
                try clear c24b0
                try clear c30
                try clear c31
                try clear c33
                try clear c36
                try clear c36b0
                try clear c36b1
                try clear c38
                try clear c40
                try clear c45
                try clear hcz11_0
                try clear hcz11_1
                try clear hcz11_2
                try clear hcz13_0
                try clear hcz13_1
                try clear hcz13_2
                try clear hcz15_0
                try clear hcz15_1
                try clear hcz15_2
                try clear hcz16_0
                try clear hcz16_1
                try clear hcz16_2
                try clear hcz18_0
                try clear hcz18_1
                try clear hcz18_2
                try clear hcz23_0
                try clear hcz23_1
                try clear hcz23_2
                try clear hcz27_0
                try clear hcz27_1
                try clear hcz27_2
                try clear hcz34_0
                try clear hcz34_1
                try clear hcz34_2
                try clear hcz7_0
                try clear hcz7_1
                try clear hcz7_2
                try clear hfz11_0
                try clear hfz11_1
                try clear hfz11_2
                try clear hfz13_0
                try clear hfz13_1
                try clear hfz13_2
                try clear hfz15_0
                try clear hfz15_1
                try clear hfz15_2
                try clear hfz16_0
                try clear hfz16_1
                try clear hfz16_2
                try clear hfz18_0
                try clear hfz18_1
                try clear hfz18_2
                try clear hfz23_0
                try clear hfz23_1
                try clear hfz23_2
                try clear hfz27_0
                try clear hfz27_1
                try clear hfz27_2
                try clear hfz34_0
                try clear hfz34_1
                try clear hfz34_2
                try clear hfz7_0
                try clear hfz7_1
                try clear hfz7_2
                try clear p2
                try clear p6
                obtain ⟨kq, x8_25, x578000_25, x578001_25, x578002_25, u578000, u578001, rfl, HA, HJ25, HO_565000, HO_565001, HO_578000, HO_578001, BK564, BK577, HB⟩ := hcut
                cases kq with
                | zero => exact absurd HA.out (by simp [hibernaclelaw15_DriveGone.j2])
                | succ kj25 =>
                  have H := HA.out
                  clear HA
                  simp only [hibernaclelaw15_DriveGone.j2] at H
                  have HC48 := Aside0.mk H
                  clear H
                  go_upto_region 10 with (fail)
                  go_cut [63] (fun v63 wc => ∃ (kq : Nat) (x63_47 : Bool), v63 = .bool x63_47 ∧ Aside0 (hibernaclelaw15_DriveGone.j3 kq a0_2 x8_25 (Int.tmod (wrap64 (a1)) 40) x29_2 x63_47 x565000_2 x565001_2 x565002_2 x578000_25 x578001_25 x578002_25 = some r) ∧ Aside0 (kq ≤ kj25) ∧ Aside0 (Kd.V Kd.string 9 wc w.heap.size (fun k_ => ((P0_0_ k_ ∨ P0_1_ k_) ∨ w.heap.size ≤ k_) ∧ some k_ ≠ (u578000 : Value).ownBlock ∧ some k_ ≠ (u578001 : Value).ownBlock ∧ k_ ≠ gb564 ∧ k_ ≠ gb577) (.slice Ao28 x565000_2.length co28) x565000_2) ∧ Aside0 (Kd.V k27 27 wc w.heap.size (fun k_ => ((P0_0_ k_ ∨ P0_1_ k_) ∨ w.heap.size ≤ k_) ∧ some k_ ≠ (u578000 : Value).ownBlock ∧ some k_ ≠ (u578001 : Value).ownBlock ∧ k_ ≠ gb564 ∧ k_ ≠ gb577) (.slice Ao29 x565001_2.length co29) x565001_2) ∧ Aside0 (Kd.R Kd.string 9 wc w.heap.size (fun k_ => (w.heap.size ≤ k_)) u578000 x578000_25) ∧ Aside0 (Kd.R k27 27 wc w.heap.size (fun k_ => (w.heap.size ≤ k_)) u578001 x578001_25) ∧ Aside0 (wc.heap[gb564]? = some (.cells #[(.slice Ao28 x565000_2.length co28), (.slice Ao29 x565001_2.length co29), .int .i64 x565002_2] 29 (0, 0))) ∧ Aside0 (wc.heap[gb577]? = some (.cells #[u578000, u578001, .int .i64 x578002_25] 29 (0, 0))) ∧ Aside0 (Below w.heap.size w wc))
                  case first =>
                    have H := HC48.out
                    clear HC48
                    by_cases c49 : a0_2 < 0
                    · rw [if_pos c49] at H
                      have c49b0 : decide (a0_2 < 0) = true := decide_eq_true c49
                      clear c49
                      (first | rw [c49b0] | (simp only [i64_w, i32_w]; rw [c49b0]) | skip)
                      by_cases c50 : ((x8_25 == 0) != true) = true
                      · rw [if_pos c50] at H
                        have c50b0 : ((x8_25 == 0) != true) = true := c50
                        (try (have c50b1 : decide ((x8_25 == 0) = true) = false := by simpa using c50))
                        (try (have c50b2 : ((x8_25 == 0) == true) = false := by simpa using c50))
                        (try (have c50b3 : ¬ ((x8_25 == 0) = true) := by simpa using c50))
                        clear c50
                        have H' := Aside0.mk H
                        clear H
                        go_wp2
                        go_meet
                        case rel => exact ⟨_, (true), (by first | rfl | (simp; done) | (simp [*]; done)), H', ⟨by have := HJ2.out; have := HK2.out; have := HJ25.out; first | omega | exact Nat.le_refl _⟩, ⟨by (with_reducible repeat (first | apply Kd.V_alloc | apply Kd.V_drewN | apply Kd.V_drew)); exact HO_565000.out⟩, ⟨by (with_reducible repeat (first | apply Kd.V_alloc | apply Kd.V_drewN | apply Kd.V_drew)); exact HO_565001.out⟩, ⟨by (with_reducible repeat (first | apply Kd.R_alloc | apply Kd.R_drewN | apply Kd.R_drew)); exact HO_578000.out⟩, ⟨by (with_reducible repeat (first | apply Kd.R_alloc | apply Kd.R_drewN | apply Kd.R_drew)); exact HO_578001.out⟩, ⟨by (with_reducible repeat (first | refine blk_drewN ?_ _ | refine blk_drew ?_ | refine blk_alloc ?_ _)); exact BK564.out⟩, ⟨by (with_reducible repeat (first | refine blk_drewN ?_ _ | refine blk_drew ?_ | refine blk_alloc ?_ _)); exact BK577.out⟩, ⟨by repeat (first | (with_reducible first | exact HB.out | apply below_alloc | apply pw_below_drewN | apply below_drew1 | refine below_set ?_ GE564.out | refine below_set ?_ GE577.out) | exact HB.out)⟩⟩
                      · rw [if_neg c50] at H
                        have c50b0 : ((x8_25 == 0) != true) = false := by simpa using c50
                        (try (have c50b1 : decide ((x8_25 == 0) = true) = true := by simpa using c50))
                        (try (have c50b2 : ((x8_25 == 0) == true) = true := by simpa using c50))
                        clear c50
                        by_cases c51 : x8_25 = 0
                        · rw [if_pos c51] at H
                          have c51b0 : (x8_25 == 0) = true := beq_iff_eq.mpr c51
                          have c51b1 : (x8_25 != 0) = false := bne_eq_false_iff_eq.mpr c51
                          clear c51
                          have H' := Aside0.mk H
                          clear H
                          go_wp2
                          go_meet
                          case rel => exact ⟨_, (false), (by first | rfl | (simp; done) | (simp [*]; done)), H', ⟨by have := HJ2.out; have := HK2.out; have := HJ25.out; first | omega | exact Nat.le_refl _⟩, ⟨by (with_reducible repeat (first | apply Kd.V_alloc | apply Kd.V_drewN | apply Kd.V_drew)); exact HO_565000.out⟩, ⟨by (with_reducible repeat (first | apply Kd.V_alloc | apply Kd.V_drewN | apply Kd.V_drew)); exact HO_565001.out⟩, ⟨by (with_reducible repeat (first | apply Kd.R_alloc | apply Kd.R_drewN | apply Kd.R_drew)); exact HO_578000.out⟩, ⟨by (with_reducible repeat (first | apply Kd.R_alloc | apply Kd.R_drewN | apply Kd.R_drew)); exact HO_578001.out⟩, ⟨by (with_reducible repeat (first | refine blk_drewN ?_ _ | refine blk_drew ?_ | refine blk_alloc ?_ _)); exact BK564.out⟩, ⟨by (with_reducible repeat (first | refine blk_drewN ?_ _ | refine blk_drew ?_ | refine blk_alloc ?_ _)); exact BK577.out⟩, ⟨by repeat (first | (with_reducible first | exact HB.out | apply below_alloc | apply pw_below_drewN | apply below_drew1 | refine below_set ?_ GE564.out | refine below_set ?_ GE577.out) | exact HB.out)⟩⟩
                        · rw [if_neg c51] at H
                          have c51b0 : (x8_25 == 0) = false := beq_eq_false_iff_ne.mpr c51
                          exact absurd (by simpa using c50b1) c51
                    · rw [if_neg c49] at H
                      have c49b0 : decide (a0_2 < 0) = false := decide_eq_false c49
                      clear c49
                      (first | rw [c49b0] | (simp only [i64_w, i32_w]; rw [c49b0]) | skip)
                      by_cases c52 : ((x8_25 == 0) != (decide (x29_2 < a0_2))) = true
                      · rw [if_pos c52] at H
                        have c52b0 : ((x8_25 == 0) != (decide (x29_2 < a0_2))) = true := c52
                        (try (have c52b1 : decide ((x8_25 == 0) = (decide (x29_2 < a0_2))) = false := by simpa using c52))
                        (try (have c52b2 : ((x8_25 == 0) == (decide (x29_2 < a0_2))) = false := by simpa using c52))
                        (try (have c52b3 : ¬ ((x8_25 == 0) = (decide (x29_2 < a0_2))) := by simpa using c52))
                        clear c52
                        have H' := Aside0.mk H
                        clear H
                        go_wp2
                        go_meet
                        case rel => exact ⟨_, (true), (by first | rfl | (simp; done) | (simp [*]; done)), H', ⟨by have := HJ2.out; have := HK2.out; have := HJ25.out; first | omega | exact Nat.le_refl _⟩, ⟨by (with_reducible repeat (first | apply Kd.V_alloc | apply Kd.V_drewN | apply Kd.V_drew)); exact HO_565000.out⟩, ⟨by (with_reducible repeat (first | apply Kd.V_alloc | apply Kd.V_drewN | apply Kd.V_drew)); exact HO_565001.out⟩, ⟨by (with_reducible repeat (first | apply Kd.R_alloc | apply Kd.R_drewN | apply Kd.R_drew)); exact HO_578000.out⟩, ⟨by (with_reducible repeat (first | apply Kd.R_alloc | apply Kd.R_drewN | apply Kd.R_drew)); exact HO_578001.out⟩, ⟨by (with_reducible repeat (first | refine blk_drewN ?_ _ | refine blk_drew ?_ | refine blk_alloc ?_ _)); exact BK564.out⟩, ⟨by (with_reducible repeat (first | refine blk_drewN ?_ _ | refine blk_drew ?_ | refine blk_alloc ?_ _)); exact BK577.out⟩, ⟨by repeat (first | (with_reducible first | exact HB.out | apply below_alloc | apply pw_below_drewN | apply below_drew1 | refine below_set ?_ GE564.out | refine below_set ?_ GE577.out) | exact HB.out)⟩⟩
                      · rw [if_neg c52] at H
                        have c52b0 : ((x8_25 == 0) != (decide (x29_2 < a0_2))) = false := by simpa using c52
                        (try (have c52b1 : decide ((x8_25 == 0) = (decide (x29_2 < a0_2))) = true := by simpa using c52))
                        (try (have c52b2 : ((x8_25 == 0) == (decide (x29_2 < a0_2))) = true := by simpa using c52))
                        clear c52
                        by_cases c53 : x8_25 = 0
                        · rw [if_pos c53] at H
                          have c53b0 : (x8_25 == 0) = true := beq_iff_eq.mpr c53
                          have c53b9 : decide (x29_2 < a0_2) = true := by rw [c53b0] at c52b1; simpa using c52b1
                          have c53b1 : (x8_25 != 0) = false := bne_eq_false_iff_eq.mpr c53
                          clear c53
                          have H' := Aside0.mk H
                          clear H
                          go_wp2
                          go_meet
                          case rel => exact ⟨_, (false), (by first | rfl | (simp; done) | (simp [*]; done)), H', ⟨by have := HJ2.out; have := HK2.out; have := HJ25.out; first | omega | exact Nat.le_refl _⟩, ⟨by (with_reducible repeat (first | apply Kd.V_alloc | apply Kd.V_drewN | apply Kd.V_drew)); exact HO_565000.out⟩, ⟨by (with_reducible repeat (first | apply Kd.V_alloc | apply Kd.V_drewN | apply Kd.V_drew)); exact HO_565001.out⟩, ⟨by (with_reducible repeat (first | apply Kd.R_alloc | apply Kd.R_drewN | apply Kd.R_drew)); exact HO_578000.out⟩, ⟨by (with_reducible repeat (first | apply Kd.R_alloc | apply Kd.R_drewN | apply Kd.R_drew)); exact HO_578001.out⟩, ⟨by (with_reducible repeat (first | refine blk_drewN ?_ _ | refine blk_drew ?_ | refine blk_alloc ?_ _)); exact BK564.out⟩, ⟨by (with_reducible repeat (first | refine blk_drewN ?_ _ | refine blk_drew ?_ | refine blk_alloc ?_ _)); exact BK577.out⟩, ⟨by repeat (first | (with_reducible first | exact HB.out | apply below_alloc | apply pw_below_drewN | apply below_drew1 | refine below_set ?_ GE564.out | refine below_set ?_ GE577.out) | exact HB.out)⟩⟩
                        · rw [if_neg c53] at H
                          have c53b0 : (x8_25 == 0) = false := beq_eq_false_iff_ne.mpr c53
                          have c53b9 : decide (x29_2 < a0_2) = false := by rw [c53b0] at c52b1; simpa using c52b1
                          have c53b1 : (x8_25 != 0) = true := bne_iff_ne.mpr c53
                          have H' := Aside0.mk H
                          clear H
                          go_wp2
                          go_meet
                          case rel => exact ⟨_, ((x8_25 != 17)), (by first | rfl | (simp; done) | (simp [*]; done)), H', ⟨by have := HJ2.out; have := HK2.out; have := HJ25.out; first | omega | exact Nat.le_refl _⟩, ⟨by (with_reducible repeat (first | apply Kd.V_alloc | apply Kd.V_drewN | apply Kd.V_drew)); exact HO_565000.out⟩, ⟨by (with_reducible repeat (first | apply Kd.V_alloc | apply Kd.V_drewN | apply Kd.V_drew)); exact HO_565001.out⟩, ⟨by (with_reducible repeat (first | apply Kd.R_alloc | apply Kd.R_drewN | apply Kd.R_drew)); exact HO_578000.out⟩, ⟨by (with_reducible repeat (first | apply Kd.R_alloc | apply Kd.R_drewN | apply Kd.R_drew)); exact HO_578001.out⟩, ⟨by (with_reducible repeat (first | refine blk_drewN ?_ _ | refine blk_drew ?_ | refine blk_alloc ?_ _)); exact BK564.out⟩, ⟨by (with_reducible repeat (first | refine blk_drewN ?_ _ | refine blk_drew ?_ | refine blk_alloc ?_ _)); exact BK577.out⟩, ⟨by repeat (first | (with_reducible first | exact HB.out | apply below_alloc | apply pw_below_drewN | apply below_drew1 | refine below_set ?_ GE564.out | refine below_set ?_ GE577.out) | exact HB.out)⟩⟩
                  case rest =>
                    clear HC48
                    try clear c1
                    try clear c2
                    try clear p2
                    try clear c3
                    try clear c4
                    try clear c5
                    try clear c6
                    try clear c6b0
                    try clear p6
                    try clear c8
                    try clear c10
                    try clear c10b0
                    try clear c10b1
                    try clear c20
                    try clear c24
                    try clear c24b0
                    try clear c30
                    try clear c31
                    try clear c33
                    try clear c36
                    try clear c36b0
                    try clear c36b1
                    try clear c38
                    try clear c40
                    try clear c45
                    try clear c49
                    try clear c49b0
                    try clear c50
                    try clear c50b0
                    try clear c50b1
                    try clear c50b2
                    try clear c51
                    try clear c51b0
                    try clear c51b1
                    try clear c52
                    try clear c52b0
                    try clear c52b1
                    try clear c52b2
                    try clear c53
                    try clear c53b0
                    try clear c53b1
                    try clear hcz11_0
                    try clear hcz11_1
                    try clear hcz11_2
                    try clear hcz13_0
                    try clear hcz13_1
                    try clear hcz13_2
                    try clear hcz15_0
                    try clear hcz15_1
                    try clear hcz15_2
                    try clear hcz16_0
                    try clear hcz16_1
                    try clear hcz16_2
                    try clear hcz18_0
                    try clear hcz18_1
                    try clear hcz18_2
                    try clear hcz23_0
                    try clear hcz23_1
                    try clear hcz23_2
                    try clear hcz27_0
                    try clear hcz27_1
                    try clear hcz27_2
                    try clear hcz34_0
                    try clear hcz34_1
                    try clear hcz34_2
                    try clear hcz7_0
                    try clear hcz7_1
                    try clear hcz7_2
                    try clear hfz11_0
                    try clear hfz11_1
                    try clear hfz11_2
                    try clear hfz13_0
                    try clear hfz13_1
                    try clear hfz13_2
                    try clear hfz15_0
                    try clear hfz15_1
                    try clear hfz15_2
                    try clear hfz16_0
                    try clear hfz16_1
                    try clear hfz16_2
                    try clear hfz18_0
                    try clear hfz18_1
                    try clear hfz18_2
                    try clear hfz23_0
                    try clear hfz23_1
                    try clear hfz23_2
                    try clear hfz27_0
                    try clear hfz27_1
                    try clear hfz27_2
                    try clear hfz34_0
                    try clear hfz34_1
                    try clear hfz34_2
                    try clear hfz7_0
                    try clear hfz7_1
                    try clear hfz7_2
                    try clear p2
                    try clear p6
                    obtain ⟨kq, x63_47, rfl, HA, HJ47, HO_565000, HO_565001, HO_578000, HO_578001, BK564, BK577, HB⟩ := hcut
                    cases kq with
                    | zero => exact absurd HA.out (by simp [hibernaclelaw15_DriveGone.j3])
                    | succ kj47 =>
                      have H := HA.out
                      clear HA
                      simp only [hibernaclelaw15_DriveGone.j3] at H
                      by_cases c54 : x63_47 = true
                      · subst c54
                        have H1 : (some false) = some r := by rw [if_pos rfl] at H; exact H
                        clear H
                        have H := H1
                        clear H1
                        obtain rfl := Option.some.inj H
                        go_wp2
                        go_ret
                        exact ⟨by first | rfl | (simp [errW_none, errW_some] <;> rfl) | (simp [*, errW_none, errW_some] <;> rfl), by repeat (first | (with_reducible first | exact HB.out | apply below_alloc | apply pw_below_drewN | apply below_drew1 | refine below_set ?_ GE564.out | refine below_set ?_ GE577.out) | exact HB.out)⟩
                      · replace c54 := Bool.eq_false_iff.mpr c54
                        subst c54
                        have H1 : (if x8_25 = 0 then (hibernaclelaw15_DriveGone.l0 kj47 a0_2 (Int.tmod (wrap64 (a1)) 40) (wrap64 (x29_2 + 1)) x578000_25 x578001_25 x578002_25) else (hibernaclelaw15_DriveGone.l0 kj47 a0_2 (Int.tmod (wrap64 (a1)) 40) (wrap64 (x29_2 + 1)) x565000_2 x565001_2 x565002_2)) = some r := by rw [if_neg (show ¬ (false = true) by decide)] at H; exact H
                        clear H
                        have H := H1
                        clear H1
                        by_cases c55 : x8_25 = 0
                        · rw [if_pos c55] at H
                          have c55b0 : (x8_25 == 0) = true := beq_iff_eq.mpr c55
                          have c55b1 : (x8_25 != 0) = false := bne_eq_false_iff_eq.mpr c55
                          clear c55
                          have H' := Aside0.mk H
                          clear H
                          have hnb56 := NB577_564.out
                          have hnc56 := NB564_577.out
                          have hcz57_0 : wc.cell? ⟨gb577, 0, none⟩ = some (u578000) := (blk_cell BK577.out 0).trans rfl
                          have hcz57_1 : wc.cell? ⟨gb577, 1, none⟩ = some (u578001) := (blk_cell BK577.out 1).trans rfl
                          have hcz57_2 : wc.cell? ⟨gb577, 2, none⟩ = some (.int .i64 x578002_25) := (blk_cell BK577.out 2).trans rfl
                          have hfz57_0 := blk_frozen BK577.out 0
                          have hfz57_1 := blk_frozen BK577.out 1
                          have hfz57_2 := blk_frozen BK577.out 2
                          obtain ⟨Ao58, co58, eo58⟩ := Kd.R_slice HO_578000.out
                          subst eo58
                          have hcz59_0 : wc.cell? ⟨gb564, 0, none⟩ = some (.slice Ao28 x565000_2.length co28) := (blk_cell BK564.out 0).trans rfl
                          have hcz59_1 : wc.cell? ⟨gb564, 1, none⟩ = some (.slice Ao29 x565001_2.length co29) := (blk_cell BK564.out 1).trans rfl
                          have hcz59_2 : wc.cell? ⟨gb564, 2, none⟩ = some (.int .i64 x565002_2) := (blk_cell BK564.out 2).trans rfl
                          have hfz59_0 := blk_frozen BK564.out 0
                          have hfz59_1 := blk_frozen BK564.out 1
                          have hfz59_2 := blk_frozen BK564.out 2
                          obtain ⟨Ao60, co60, eo60⟩ := Kd.R_slice HO_578001.out
                          subst eo60
                          go_wp2
                          go_roundg kj47
                          case measure => have := HJ2.out; have := HK2.out; have := HJ25.out; have := HJ47.out; omega
                          case rel => exact ⟨(wrap64 (x29_2 + 1)), (x578000_25), (x578001_25), (x578002_25), (.slice Ao58 x578000_25.length co58), (.slice Ao60 x578001_25.length co60), (by first | rfl | (simp; done) | (simp [*]; done)), H', ⟨by have := HJ2.out; have := HK2.out; have := HJ25.out; have := HJ47.out; omega⟩, ⟨Kd.V_mono (Kd.R_V (ok := fun k_ => (w.heap.size ≤ k_) ∧ k_ ≠ gb564) (by (with_reducible repeat (first | apply Kd.R_alloc | apply Kd.R_drewN | apply Kd.R_drew)); exact Kd.R_mono (Kd.R_far (p := ⟨gb564, 2, none⟩) (Kd.R_far (p := ⟨gb564, 1, none⟩) (Kd.R_far (p := ⟨gb564, 0, none⟩) (Kd.R_types (Kd.R_types HO_578000.out BK564.out (by decide)) BK564.out (by decide)) (fun _ hk => hk.2) (.slice Ao58 x578000_25.length co58)) (fun _ hk => hk.2) (.slice Ao60 x578001_25.length co60)) (fun _ hk => hk.2) (.int .i64 x578002_25)) (fun _ hk => ⟨hk.1.1, hk.1.2⟩))) (fun k_ hk => by first | exact ⟨(.inr (hk.1)), hk.2⟩ | exact (.inr (hk)))⟩, ⟨Kd.V_mono (Kd.R_V (ok := fun k_ => (w.heap.size ≤ k_) ∧ k_ ≠ gb564) (by (with_reducible repeat (first | apply Kd.R_alloc | apply Kd.R_drewN | apply Kd.R_drew)); exact Kd.R_mono (Kd.R_far (p := ⟨gb564, 2, none⟩) (Kd.R_far (p := ⟨gb564, 1, none⟩) (Kd.R_far (p := ⟨gb564, 0, none⟩) (Kd.R_types (Kd.R_types HO_578001.out BK564.out (by decide)) BK564.out (by decide)) (fun _ hk => hk.2) (.slice Ao58 x578000_25.length co58)) (fun _ hk => hk.2) (.slice Ao60 x578001_25.length co60)) (fun _ hk => hk.2) (.int .i64 x578002_25)) (fun _ hk => ⟨hk.1.1, hk.1.2⟩))) (fun k_ hk => by first | exact ⟨(.inr (hk.1)), hk.2⟩ | exact (.inr (hk)))⟩, ⟨by (with_reducible repeat (first | refine blk_drewN ?_ _ | refine blk_drew ?_ | refine blk_alloc ?_ _)); refine blk_put (cs := #[.slice Ao58 x578000_25.length co58, .slice Ao60 x578001_25.length co60, .int .i64 x565002_2]) ?_ 2 _ rfl; (with_reducible repeat (first | refine blk_drewN ?_ _ | refine blk_drew ?_ | refine blk_alloc ?_ _)); refine blk_put (cs := #[.slice Ao58 x578000_25.length co58, .slice Ao29 x565001_2.length co29, .int .i64 x565002_2]) ?_ 1 _ rfl; (with_reducible repeat (first | refine blk_drewN ?_ _ | refine blk_drew ?_ | refine blk_alloc ?_ _)); refine blk_put (cs := #[.slice Ao28 x565000_2.length co28, .slice Ao29 x565001_2.length co29, .int .i64 x565002_2]) ?_ 0 _ rfl; (with_reducible repeat (first | refine blk_drewN ?_ _ | refine blk_drew ?_ | refine blk_alloc ?_ _)); exact BK564.out⟩, ⟨by repeat (first | (with_reducible first | exact HB.out | apply below_alloc | apply pw_below_drewN | apply below_drew1 | refine below_set ?_ GE564.out | refine below_set ?_ GE577.out) | exact HB.out)⟩⟩
                        · rw [if_neg c55] at H
                          have c55b0 : (x8_25 == 0) = false := beq_eq_false_iff_ne.mpr c55
                          have c55b1 : (x8_25 != 0) = true := bne_iff_ne.mpr c55
                          have H' := Aside0.mk H
                          clear H
                          go_wp2
                          go_roundg kj47
                          case measure => have := HJ2.out; have := HK2.out; have := HJ25.out; have := HJ47.out; omega
                          case rel => exact ⟨(wrap64 (x29_2 + 1)), (x565000_2), (x565001_2), (x565002_2), (.slice Ao28 x565000_2.length co28), (.slice Ao29 x565001_2.length co29), (by first | rfl | (simp; done) | (simp [*]; done)), H', ⟨by have := HJ2.out; have := HK2.out; have := HJ25.out; have := HJ47.out; omega⟩, ⟨by (with_reducible repeat (first | apply Kd.V_alloc | apply Kd.V_drewN | apply Kd.V_drew)); exact Kd.V_mono HO_565000.out (fun _ hk => ⟨hk.1, hk.2.2.2.1⟩)⟩, ⟨by (with_reducible repeat (first | apply Kd.V_alloc | apply Kd.V_drewN | apply Kd.V_drew)); exact Kd.V_mono HO_565001.out (fun _ hk => ⟨hk.1, hk.2.2.2.1⟩)⟩, ⟨by (with_reducible repeat (first | refine blk_drewN ?_ _ | refine blk_drew ?_ | refine blk_alloc ?_ _)); exact BK564.out⟩, ⟨by repeat (first | (with_reducible first | exact HB.out | apply below_alloc | apply pw_below_drewN | apply below_drew1 | refine below_set ?_ GE564.out | refine below_set ?_ GE577.out) | exact HB.out)⟩⟩
            · rw [if_neg c24] at H
              have c24b0 : decide (x29_2 < (Int.tmod (wrap64 (a1)) 40)) = false := decide_eq_false c24
              clear c24
              replace H := Option.bind_eq_some_iff.mp H
              obtain ⟨t568, A610, H⟩ := H
              replace H : (some t568) = some r := H
              have A61 := Aside0.mk A610
              clear A610
              obtain rfl := Option.some.inj H
              go_wp2_with (first | ((with_reducible refine gate_callee (f := 31) rfl ?_); refine goesL_ (some 68) rfl rfl Try.func31 (by kernel_rfl) rfl #[] rfl (by (try simp only [List.map_toArray, List.map_cons, List.map_nil]); first | done | rfl | (simp only [List.length_drop, List.length_take]; rfl)) ?_; (with_reducible refine (hibernaclelaw15_fixed.calls  t568 _ A61.out).mono ?_); rintro e w62 ⟨rfl, hb⟩; refine ⟨_, rfl, ?_⟩; have n0_ := Aside0.mk (Kd.V_below (by (with_reducible repeat (first | apply Kd.V_alloc | apply Kd.V_drewN | apply Kd.V_drew)); exact HO_565000.out) hb); have n1_ := Aside0.mk (Kd.V_below (by (with_reducible repeat (first | apply Kd.V_alloc | apply Kd.V_drewN | apply Kd.V_drew)); exact HO_565001.out) hb); have n2_ := Aside0.mk (blk_below (g := gb564) (o := .cells #[u565000, u565001, .int .i64 x565002_2] 29 (0, 0)) (by (with_reducible repeat (first | refine blk_drewN ?_ _ | refine blk_drew ?_ | refine blk_alloc ?_ _)); exact BK564.out) hb); have n3_ := Aside0.mk (below_step (by repeat (first | (with_reducible first | exact HB.out | apply below_alloc | apply pw_below_drewN | apply below_drew1 | refine below_set ?_ GE564.out) | exact HB.out)) hb); clear HO_565000; clear HO_565001; clear BK564; clear HB; have HO_565000 := n0_; have HO_565001 := n1_; have BK564 := n2_; have HB := n3_; clear n0_ n1_ n2_ n3_; (try clear hb); (try clear hb2); (try clear hk); (try clear hi)))
              go_ret
              exact ⟨by first | rfl | (simp [errW_none, errW_some] <;> rfl) | (simp [*, errW_none, errW_some] <;> rfl), by repeat (first | (with_reducible first | exact HB.out | apply below_alloc | apply pw_below_drewN | apply below_drew1 | refine below_set ?_ GE564.out) | exact HB.out)⟩

end Go.Proofs.Ytjfmnkmgnbbfgaa.A
