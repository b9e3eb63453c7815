-- Made by drv.py (ours) by way of the kit's print; Lean checks it.
import Derived.Test.YtjfmnkmgnbbfgaaA0
import Derived.Test.YtjfmnkmgnbbfgaaXrepeat
namespace Go.Proofs.Ytjfmnkmgnbbfgaa.A
open Go.RowKit Go.Proofs.YtjfmnkmgnbbfgaaW.PrintWords Go.Proofs.YtjfmnkmgnbbfgaaW.PrintLast Go.Proofs.YtjfmnkmgnbbfgaaW.PrintMore
attribute [local go_sem] max2_int min2_int max_two min_two max_three min_three max_four min_four   -- for this text's walks alone
set_option linter.unusedVariables false
set_option linter.unusedSimpArgs false

/-! ### drive_New: function 32 -/
mutual
def drive_New.j0 : Nat → Int → Bool → Option (List ByteArray × (List (S27)) × Int × Int)
  | 0, _, _ => none
  | k + 1, x0, x10 => if x10 = true then (some (([] : List ByteArray), ([] : List (S27)), 0, 2)) else (drive_New.l0 k x0 0 ([] : List ByteArray) (-1))
def drive_New.l0 : Nat → Int → Int → List ByteArray → Int → Option (List ByteArray × (List (S27)) × Int × Int)
  | 0, _, _, _, _ => none
  | k + 1, x13, x14, x407000, x407002 => if x14 < x13 then ((strings_Repeat.f (⟨#[0]⟩ : ByteArray) 128).bind fun t407 => (if x407000.length < 8796093022208 then (drive_New.l0 k x13 (wrap64 (x14 + 1)) (x407000 ++ [t407]) x407002) else (none))) else (some (x407000, ([] : List (S27)), x407002, 0))
end
def drive_New.f (k : Nat) (a0 : Int) : Option (List ByteArray × (List (S27)) × Int × Int) := if a0 < 0 then (drive_New.j0 k a0 true) else (drive_New.j0 k a0 (decide (a0 > 256)))
theorem drive_New.mono_l : ∀ k, (∀ y0 y1, LeO (drive_New.j0 k y0 y1) (drive_New.j0 (k + 1) y0 y1)) ∧ (∀ y0 y1 y2 y3, LeO (drive_New.l0 k y0 y1 y2 y3) (drive_New.l0 (k + 1) y0 y1 y2 y3))
  | 0 => ⟨fun _ _ r h => by simp [drive_New.j0] at h, fun _ _ _ _ r h => by simp [drive_New.l0] at h⟩
  | k + 1 => by
    obtain ⟨ih0, ih1⟩ := drive_New.mono_l k
    refine ⟨?_, ?_⟩
    · intro y0 y1
      unfold drive_New.j0
      repeat' first
      | (with_reducible exact ih0 _ _)
      | (with_reducible exact ih1 _ _ _ _)
      | (with_reducible exact LeO.refl _)
      | (with_reducible exact LeO.none _)
      | (with_reducible refine LeO.ite ?_ ?_)
      | (with_reducible refine LeO.bind ?_ (fun _ => ?_))
      | exact ih0 _ _
      | exact ih1 _ _ _ _
      | exact LeO.none _
      | refine LeO.ite ?_ ?_
      | refine LeO.bind ?_ (fun _ => ?_)
    · intro y0 y1 y2 y3
      unfold drive_New.l0
      repeat' first
      | (with_reducible exact ih0 _ _)
      | (with_reducible exact ih1 _ _ _ _)
      | (with_reducible exact LeO.refl _)
      | (with_reducible exact LeO.none _)
      | (with_reducible refine LeO.ite ?_ ?_)
      | (with_reducible refine LeO.bind ?_ (fun _ => ?_))
      | exact ih0 _ _
      | exact ih1 _ _ _ _
      | exact LeO.none _
      | refine LeO.ite ?_ ?_
      | refine LeO.bind ?_ (fun _ => ?_)
theorem drive_New.mono : ∀ a0 k, LeO (drive_New.f k a0) (drive_New.f (k + 1) a0) := by
  intro a0 k
  obtain ⟨ih0, ih1⟩ := drive_New.mono_l k
  unfold drive_New.f
  repeat' first
      | (with_reducible exact ih0 _ _)
      | (with_reducible exact ih1 _ _ _ _)
      | (with_reducible exact LeO.refl _)
      | (with_reducible exact LeO.none _)
      | (with_reducible refine LeO.ite ?_ ?_)
      | (with_reducible refine LeO.bind ?_ (fun _ => ?_))
      | exact ih0 _ _
      | exact ih1 _ _ _ _
      | exact LeO.none _
      | refine LeO.ite ?_ ?_
      | refine LeO.bind ?_ (fun _ => ?_)
set_option maxHeartbeats 8000000 in
set_option maxRecDepth 100000 in
theorem drive_New.calls (k : Nat) (a0 : Int) (r1 : List ByteArray) (r2 : List (S27)) (r3 : Int) (r4 : Int) (w : World) (h : drive_New.f k a0 = some (r1, r2, r3, r4)) :
    Calls Try.prog 32 #[.int .i64 a0] w fun e w' => ∃ v0_ v1_ : Value, e = .returned (.tuple #[.agg #[v0_, v1_, .int .i64 r3], .int .i64 r4]) ∧ Kd.R Kd.string 9 w' w.heap.size (fun _ => True) v0_ r1 ∧ Kd.R k27 27 w' w.heap.size (fun _ => True) v1_ r2 ∧ Below w.heap.size w w' := by
  have hu29 := Try.underlying29
  have HB := Aside0.mk (Below.refl w.heap.size w)
  have H : (if a0 < 0 then (drive_New.j0 k a0 true) else (drive_New.j0 k a0 (decide (a0 > 256)))) = some (r1, r2, r3, r4) := h
  clear h
  have HC2 := Aside0.mk H
  clear H
  go_enter Try.func32, Try.ntmps32
  go_upto_region 1 with (first | ((with_reducible refine gate_dst (N := 2) rfl ?_); refine box_event ?hg (N := 2) ?hd (cs := #[.slice none 0 0, .slice none 0 0, .int .i64 0]) (t := 29) ?hr ?_; (case hd => rfl); (case hg => rfl); (case hr => first | (go_simp; done) | (go_simp; rfl)); intro gb405 hg w3 hbox hb; have n0_ := Aside0.mk (below_step (by repeat (first | (with_reducible first | exact HB.out | apply below_alloc | apply pw_below_drewN | apply below_drew1) | exact HB.out)) hb); have n1_ := Aside0.mk (hbox); have n2_ := Aside0.mk ((by rw [hg]; exact (below_size (by repeat (first | (with_reducible first | exact HB.out | apply below_alloc | apply pw_below_drewN | apply below_drew1) | exact HB.out))) : w.heap.size ≤ gb405)); have n3_ := Aside0.mk ((by rw [hg]; exact (below_size (by repeat (first | (with_reducible first | exact HB.out | apply below_alloc | apply pw_below_drewN | apply below_drew1) | exact HB.out))) : w.heap.size ≤ gb405)); clear HB; have HB := n0_; have BK405 := n1_; have GW405 := n2_; have GE405 := n3_; clear n0_ n1_ n2_ n3_; clear hb hbox hg))
  (try simp only [Act.put, List.setIfInBounds_toArray, List.set_cons_zero, List.set_cons_succ])
  go_cut [10] (fun v10 wc => ∃ (kq : Nat) (x10_1 : Bool), v10 = .bool x10_1 ∧ Aside0 (drive_New.j0 kq a0 x10_1 = some (r1, r2, r3, r4)) ∧ Aside0 (kq ≤ k) ∧ Aside0 (wc.heap[gb405]? = some (.cells #[(.slice none 0 0), (.slice none 0 0), .int .i64 0] 29 (0, 0))) ∧ Aside0 (Below w.heap.size w wc))
  case first =>
    have H := HC2.out
    clear HC2
    by_cases c4 : a0 < 0
    · rw [if_pos c4] at H
      have c4b0 : decide (a0 < 0) = true := decide_eq_true c4
      clear c4
      (first | rw [c4b0] | (simp only [i64_w, i32_w]; rw [c4b0]) | skip)
      have H' := Aside0.mk H
      clear H
      go_wp2
      go_meet
      case rel => exact ⟨_, (true), (by first | rfl | (simp; done) | (simp [*]; done)), H', ⟨by first | omega | exact Nat.le_refl _⟩, ⟨by (with_reducible repeat (first | refine blk_drewN ?_ _ | refine blk_drew ?_ | refine blk_alloc ?_ _)); exact BK405.out⟩, ⟨by repeat (first | (with_reducible first | exact HB.out | apply below_alloc | apply pw_below_drewN | apply below_drew1 | refine below_set ?_ GE405.out) | exact HB.out)⟩⟩
    · rw [if_neg c4] at H
      have c4b0 : decide (a0 < 0) = false := decide_eq_false c4
      clear c4
      (first | rw [c4b0] | (simp only [i64_w, i32_w]; rw [c4b0]) | skip)
      have H' := Aside0.mk H
      clear H
      go_wp2
      go_meet
      case rel => exact ⟨_, (decide (a0 > 256)), (by first | rfl | (simp; done) | (simp [*]; done)), H', ⟨by first | omega | exact Nat.le_refl _⟩, ⟨by (with_reducible repeat (first | refine blk_drewN ?_ _ | refine blk_drew ?_ | refine blk_alloc ?_ _)); exact BK405.out⟩, ⟨by repeat (first | (with_reducible first | exact HB.out | apply below_alloc | apply pw_below_drewN | apply below_drew1 | refine below_set ?_ GE405.out) | exact HB.out)⟩⟩
  case rest =>
    clear HC2
    try clear p2
    try clear c3
    try clear c4
    try clear c4b0
    obtain ⟨kq, x10_1, rfl, HA, HJ1, BK405, HB⟩ := hcut
    cases kq with
    | zero => exact absurd HA.out (by simp [drive_New.j0])
    | succ kj1 =>
      have H := HA.out
      clear HA
      simp only [drive_New.j0] at H
      by_cases c5 : x10_1 = true
      · subst c5
        have H1 : (some (([] : List ByteArray), ([] : List (S27)), 0, 2)) = some (r1, r2, r3, r4) := by rw [if_pos rfl] at H; exact H
        clear H
        have H := H1
        clear H1
        simp only [Option.some.injEq, Prod.mk.injEq] at H
        obtain ⟨rfl, rfl, rfl, rfl⟩ := H
        have hcz6_0 : wc.cell? ⟨gb405, 0, none⟩ = some (.slice none 0 0) := (blk_cell BK405.out 0).trans rfl
        have hcz6_1 : wc.cell? ⟨gb405, 1, none⟩ = some (.slice none 0 0) := (blk_cell BK405.out 1).trans rfl
        have hcz6_2 : wc.cell? ⟨gb405, 2, none⟩ = some (.int .i64 0) := (blk_cell BK405.out 2).trans rfl
        have hfz6_0 := blk_frozen BK405.out 0
        have hfz6_1 := blk_frozen BK405.out 1
        have hfz6_2 := blk_frozen BK405.out 2
        go_wp2
        refine bodyPost_ret (results_ct rfl _ _ gb405 29 #[.slice none 0 0, .slice none 0 0, .int .i64 0] (0, 0) _ rfl (by (with_reducible repeat (first | refine blk_drewN ?_ _ | refine blk_drew ?_ | refine blk_alloc ?_ _)); refine blk_put (cs := #[.slice none 0 0, .slice none 0 0, .int .i64 0]) ?_ 2 _ rfl; (with_reducible repeat (first | refine blk_drewN ?_ _ | refine blk_drew ?_ | refine blk_alloc ?_ _)); refine blk_put (cs := #[.slice none 0 0, .slice none 0 0, .int .i64 0]) ?_ 1 _ rfl; (with_reducible repeat (first | refine blk_drewN ?_ _ | refine blk_drew ?_ | refine blk_alloc ?_ _)); refine blk_put (cs := #[.slice none 0 0, .slice none 0 0, .int .i64 0]) ?_ 0 _ rfl; (with_reducible repeat (first | refine blk_drewN ?_ _ | refine blk_drew ?_ | refine blk_alloc ?_ _)); exact BK405.out) Try.underlying29 rfl (by kernel_rfl)) rfl ?_
        exact ⟨_, _, by first | rfl | (simp [errW_none, errW_some] <;> rfl) | (simp [*, errW_none, errW_some] <;> rfl), by first | exact Kd.R_nil _ _ _ _ _ | exact Kd.N_nil _ _ _ _ _ | exact Kd.V_nil _ _ _ _ _ | exact Kd.Q_nil _ _ _ _ _ | exact Kd.S_nil _ _ _ _ _, by first | exact Kd.R_nil _ _ _ _ _ | exact Kd.N_nil _ _ _ _ _ | exact Kd.V_nil _ _ _ _ _ | exact Kd.Q_nil _ _ _ _ _ | exact Kd.S_nil _ _ _ _ _, by repeat (first | (with_reducible first | exact HB.out | apply below_alloc | apply pw_below_drewN | apply below_drew1 | refine below_set ?_ GE405.out) | exact HB.out)⟩
      · replace c5 := Bool.eq_false_iff.mpr c5
        subst c5
        have H1 : (drive_New.l0 kj1 a0 0 ([] : List ByteArray) (-1)) = some (r1, r2, r3, r4) := by rw [if_neg (show ¬ (false = true) by decide)] at H; exact H
        clear H
        have H := H1
        clear H1
        have H' := Aside0.mk H
        clear H
        go_wp2_with (first | ((with_reducible refine gate_dst (N := 4) rfl ?_); refine box_event ?hg (N := 4) ?hd (cs := #[.slice none 0 0, .slice none 0 0, .int .i64 0]) (t := 29) ?hr ?_; (case hd => rfl); (case hg => rfl); (case hr => first | (go_simp; done) | (go_simp; rfl)); intro gb406 hg w7 hbox hb; have n0_ := Aside0.mk (blk_below (g := gb405) (o := .cells #[.slice none 0 0, .slice none 0 0, .int .i64 0] 29 (0, 0)) (by (with_reducible repeat (first | refine blk_drewN ?_ _ | refine blk_drew ?_ | refine blk_alloc ?_ _)); exact BK405.out) hb); have n1_ := Aside0.mk (below_step (by repeat (first | (with_reducible first | exact HB.out | apply below_alloc | apply pw_below_drewN | apply below_drew1 | refine below_set ?_ GE405.out) | exact HB.out)) hb); have n2_ := Aside0.mk (hbox); have n3_ := Aside0.mk ((by rw [hg]; exact (below_size (by repeat (first | (with_reducible first | exact HB.out | apply below_alloc | apply pw_below_drewN | apply below_drew1 | refine below_set ?_ GE405.out) | exact HB.out))) : w.heap.size ≤ gb406)); have n4_ := Aside0.mk ((by rw [hg]; exact (below_size (by repeat (first | (with_reducible first | exact HB.out | apply below_alloc | apply pw_below_drewN | apply below_drew1 | refine below_set ?_ GE405.out) | exact HB.out))) : w.heap.size ≤ gb406)); have n5_ := Aside0.mk ((by rw [hg]; exact Nat.ne_of_lt (blk_lt (g := gb405) (o := .cells #[.slice none 0 0, .slice none 0 0, .int .i64 0] 29 (0, 0)) (by (with_reducible repeat (first | refine blk_drewN ?_ _ | refine blk_drew ?_ | refine blk_alloc ?_ _)); exact BK405.out)) : gb405 ≠ gb406)); have n6_ := Aside0.mk ((by rw [hg]; exact Nat.ne_of_gt (blk_lt (g := gb405) (o := .cells #[.slice none 0 0, .slice none 0 0, .int .i64 0] 29 (0, 0)) (by (with_reducible repeat (first | refine blk_drewN ?_ _ | refine blk_drew ?_ | refine blk_alloc ?_ _)); exact BK405.out)) : gb406 ≠ gb405)); clear BK405; clear HB; have BK405 := n0_; have HB := n1_; have BK406 := n2_; have GW406 := n3_; have GE406 := n4_; have NB405_406 := n5_; have NB406_405 := n6_; clear n0_ n1_ n2_ n3_ n4_ n5_ n6_; clear hb hbox hg; have hnb8 := NB406_405.out; have hnc8 := NB405_406.out; have hcz9_0 : w7.cell? ⟨gb406, 0, none⟩ = some (.slice none 0 0) := (blk_cell BK406.out 0).trans rfl; have hcz9_1 : w7.cell? ⟨gb406, 1, none⟩ = some (.slice none 0 0) := (blk_cell BK406.out 1).trans rfl; have hcz9_2 : w7.cell? ⟨gb406, 2, none⟩ = some (.int .i64 0) := (blk_cell BK406.out 2).trans rfl; have hfz9_0 := blk_frozen BK406.out 0; have hfz9_1 := blk_frozen BK406.out 1; have hfz9_2 := blk_frozen BK406.out 2))
        go_loopg [14] kj1 (fun kq v14 w' => ∃ (x14_2 : Int) (x407000_2 : List ByteArray) (u407000 : Value), v14 = .int .i64 x14_2 ∧ Aside0 (drive_New.l0 kq a0 x14_2 x407000_2 (-1) = some (r1, r2, r3, r4)) ∧ Aside0 (kq ≤ kj1) ∧ Aside0 (Kd.R Kd.string 9 w' w.heap.size (fun _ => True) u407000 x407000_2) ∧ Aside0 (w'.heap[gb405]? = some (.cells #[(.slice none 0 0), (.slice none 0 0), .int .i64 0] 29 (0, 0))) ∧ Aside0 (w'.heap[gb406]? = some (.cells #[u407000, (.slice none 0 0), .int .i64 (-1)] 29 (0, 0))) ∧ Aside0 (Below w.heap.size w w'))
        case atStart => exact ⟨(0), (([] : List ByteArray)), (.slice none 0 0), (by first | rfl | (simp; done) | (simp [*]; done)), H', ⟨Nat.le_refl _⟩, ⟨by first | exact Kd.R_nil _ _ _ _ _ | exact Kd.N_nil _ _ _ _ _ | exact Kd.V_nil _ _ _ _ _ | exact Kd.Q_nil _ _ _ _ _ | exact Kd.S_nil _ _ _ _ _⟩, ⟨by (with_reducible repeat (first | refine blk_drewN ?_ _ | refine blk_drew ?_ | refine blk_alloc ?_ _)); refine blk_far ?_ NB405_406.out _; (with_reducible repeat (first | refine blk_drewN ?_ _ | refine blk_drew ?_ | refine blk_alloc ?_ _)); refine blk_far ?_ NB405_406.out _; (with_reducible repeat (first | refine blk_drewN ?_ _ | refine blk_drew ?_ | refine blk_alloc ?_ _)); refine blk_far ?_ NB405_406.out _; (with_reducible repeat (first | refine blk_drewN ?_ _ | refine blk_drew ?_ | refine blk_alloc ?_ _)); exact BK405.out⟩, ⟨by (with_reducible repeat (first | refine blk_drewN ?_ _ | refine blk_drew ?_ | refine blk_alloc ?_ _)); refine blk_put (cs := #[.slice none 0 0, .slice none 0 0, .int .i64 0]) ?_ 2 _ rfl; (with_reducible repeat (first | refine blk_drewN ?_ _ | refine blk_drew ?_ | refine blk_alloc ?_ _)); refine blk_put (cs := #[.slice none 0 0, .slice none 0 0, .int .i64 0]) ?_ 1 _ rfl; (with_reducible repeat (first | refine blk_drewN ?_ _ | refine blk_drew ?_ | refine blk_alloc ?_ _)); refine blk_put (cs := #[.slice none 0 0, .slice none 0 0, .int .i64 0]) ?_ 0 _ rfl; (with_reducible repeat (first | refine blk_drewN ?_ _ | refine blk_drew ?_ | refine blk_alloc ?_ _)); exact BK406.out⟩, ⟨by repeat (first | (with_reducible first | exact HB.out | apply below_alloc | apply pw_below_drewN | apply below_drew1 | refine below_set ?_ GE405.out | refine below_set ?_ GE406.out) | exact HB.out)⟩⟩
        case round =>
          clear H'
          try clear p2
          try clear c3
          try clear c4
          try clear c4b0
          try clear c5
          try clear c8
          try clear hcz6_0
          try clear hcz6_1
          try clear hcz6_2
          try clear hcz9_0
          try clear hcz9_1
          try clear hcz9_2
          try clear hfz6_0
          try clear hfz6_1
          try clear hfz6_2
          try clear hfz9_0
          try clear hfz9_1
          try clear hfz9_2
          try clear p2
          obtain ⟨x14_2, x407000_2, u407000, rfl, HA, HK2, HO_407000, BK405, BK406, HB⟩ := hrel
          cases gk with
          | zero => exact absurd HA.out (by simp [drive_New.l0])
          | succ k2 =>
            have H := HA.out
            clear HA
            simp only [drive_New.l0] at H
            by_cases c10 : x14_2 < a0
            · rw [if_pos c10] at H
              have c10b0 : decide (x14_2 < a0) = true := decide_eq_true c10
              clear c10
              replace H := Option.bind_eq_some_iff.mp H
              obtain ⟨t407, A110, H⟩ := H
              replace H : (if x407000_2.length < 8796093022208 then (drive_New.l0 k2 a0 (wrap64 (x14_2 + 1)) (x407000_2 ++ [t407]) (-1)) else (none)) = some (r1, r2, r3, r4) := H
              have A11 := Aside0.mk A110
              clear A110
              by_cases c12 : x407000_2.length < 8796093022208
              · rw [if_pos c12] at H
                have LMc12 := Aside0.mk c12
                clear c12
                obtain ⟨y408, hy408⟩ : ∃ y_ : List ByteArray, y_ = (x407000_2 ++ [t407]) := ⟨_, rfl⟩
                replace H : (drive_New.l0 k2 a0 (wrap64 (x14_2 + 1)) y408 (-1)) = some (r1, r2, r3, r4) := by first | (rw [hy408]; with_reducible exact H) | (have H2_ := (Option.bind_some _ _).symm.trans H; rw [hy408]; with_reducible exact H2_) | (have H2_ := (Option.bind_some _ _).symm.trans H; with_reducible exact H2_) | with_reducible exact H | (rw [hy408]; exact H) | exact H
                have Ny408 := Aside0.mk hy408
                clear hy408
                have H' := Aside0.mk H
                clear H
                try go_wp2
                have n0_ := Aside0.mk (Kd.R_drew HO_407000.out)
                have n1_ := Aside0.mk (blk_drew BK405.out)
                have n2_ := Aside0.mk (blk_drew BK406.out)
                have n3_ := Aside0.mk (below_drew1 HB.out)
                clear HO_407000
                clear BK405
                clear BK406
                clear HB
                have HO_407000 := n0_
                have BK405 := n1_
                have BK406 := n2_
                have HB := n3_
                clear n0_ n1_ n2_ n3_
                refine start_ (n := 7) (S := fun w' => w'.cell? ⟨gb406, 0, none⟩ = some (u407000) ∧ w'.cell? ⟨gb406, 1, none⟩ = some (.slice none 0 0) ∧ w'.cell? ⟨gb406, 2, none⟩ = some (.int .i64 (-1))) (ds := [6]) #[false, false, false, false, false, false, false] (by kernel_rfl) rfl rfl ⟨(blk_cell BK406.out 0).trans rfl, (blk_cell BK406.out 1).trans rfl, (blk_cell BK406.out 2).trans rfl⟩ (fun hHeld => ?_)
                generalize wr.drew = w13 at HO_407000 BK405 BK406 HB hHeld ⊢
                refine pure_ (i := 0) (N := some 16) (v := ?_) (a' := ?_) #[true, false, false, false, false, false, false] rfl rfl (by kernel_rfl) (fun _ _ _ h => h) (Or.inl ⟨by rfl, ?_⟩) ?_ ?_
                rotate_left
                · intro w'
                  go_simp
                  with_reducible rfl
                rotate_left
                · simp only [Act.put, List.setIfInBounds_toArray, List.set_cons_zero, List.set_cons_succ, i64_w, i32_w]
                  rfl
                refine take_ (i := 1) (N := some 17) (v := ?_) (a' := ?_) #[true, true, false, false, false, false, false] rfl rfl (by kernel_rfl) (fun _ _ _ h => h) (Or.inl ⟨by rfl, ?_⟩) hHeld ?_ ?_
                rotate_left
                · rintro w' ⟨s0, s1, s2⟩
                  go_simp
                  with_reducible rfl
                rotate_left
                · simp only [Act.put, List.setIfInBounds_toArray, List.set_cons_zero, List.set_cons_succ, i64_w, i32_w]
                  rfl
                refine one_ (i := 2) (N := some 18) #[true, true, true, false, false, false, false] rfl rfl (by kernel_rfl) (by decide) (fun K hK => ?_)
                refine goes_ Try.func75 (by kernel_rfl) rfl #[.string (⟨#[0]⟩ : ByteArray), .int .i64 128] (by rfl) rfl rfl (by (try simp only [List.map_toArray, List.map_cons, List.map_nil]); first | done | rfl | (simp only [List.length_drop, List.length_take]; rfl)) ?_
                with_reducible refine (strings_Repeat.calls (⟨#[0]⟩ : ByteArray) 128 t407 _ A11.out).mono ?_
                rintro e w14 ⟨rfl, hb⟩
                refine ⟨_, rfl, ?_⟩
                have n0_ := Aside0.mk (Kd.R_below (by (with_reducible repeat (first | apply Kd.R_alloc | apply Kd.R_drewN | apply Kd.R_drew)); exact HO_407000.out) hb)
                have n1_ := Aside0.mk (blk_below (g := gb405) (o := .cells #[.slice none 0 0, .slice none 0 0, .int .i64 0] 29 (0, 0)) (by (with_reducible repeat (first | refine blk_drewN ?_ _ | refine blk_drew ?_ | refine blk_alloc ?_ _)); exact BK405.out) hb)
                have n2_ := Aside0.mk (blk_below (g := gb406) (o := .cells #[u407000, .slice none 0 0, .int .i64 (-1)] 29 (0, 0)) (by (with_reducible repeat (first | refine blk_drewN ?_ _ | refine blk_drew ?_ | refine blk_alloc ?_ _)); exact BK406.out) hb)
                have n3_ := Aside0.mk (below_step (by repeat (first | (with_reducible first | exact HB.out | apply below_alloc | apply pw_below_drewN | apply below_drew1 | refine below_set ?_ GE405.out | refine below_set ?_ GE406.out) | exact HB.out)) hb)
                clear HO_407000
                clear BK405
                clear BK406
                clear HB
                have HO_407000 := n0_
                have BK405 := n1_
                have BK406 := n2_
                have HB := n3_
                clear n0_ n1_ n2_ n3_
                (try clear hb)
                (try clear hb2)
                (try clear hk)
                (try clear hi)
                refine hK.out _ _ ⟨(blk_cell BK406.out 0).trans rfl, (blk_cell BK406.out 1).trans rfl, (blk_cell BK406.out 2).trans rfl⟩ (fun hHeld => ?_)
                clear hK K
                refine norm_ (a' := ?_) ?_ ?_
                rotate_left
                · show Act.put _ (some 18) _ = _
                  simp only [Act.put, List.setIfInBounds_toArray, List.set_cons_zero, List.set_cons_succ, i64_w, i32_w]
                  rfl
                refine one_ (i := 3) (N := some 19) #[true, true, true, true, false, false, false] rfl rfl (by kernel_rfl) (by decide) (fun K hK => ?_)
                refine value_ (w1 := ?_) (v := ?_) (by rfl) rfl ?_ ?_
                rotate_left 2
                · go_simp
                  constructor
                  · rfl
                  · rfl
                refine hK.out _ _ ⟨(blk_cell (blk_alloc BK406.out _) 0).trans rfl, (blk_cell (blk_alloc BK406.out _) 1).trans rfl, (blk_cell (blk_alloc BK406.out _) 2).trans rfl⟩ (fun hHeld => ?_)
                clear hK K
                refine norm_ (a' := ?_) ?_ ?_
                rotate_left
                · show Act.put _ (some 19) _ = _
                  simp only [Act.put, List.setIfInBounds_toArray, List.set_cons_zero, List.set_cons_succ, i64_w, i32_w]
                  rfl
                refine one_ (i := 4) (N := some 20) #[true, true, true, true, true, false, false] rfl rfl (by kernel_rfl) (by decide) (fun K hK => ?_)
                refine Kd.R_append_step Kd.string (w0 := w) w.heap.size (by rfl) (.tmp 17) (.tmp 19) 22 9 (.string ⟨#[]⟩) 16 rfl Try.underlying22 info9 rfl (by decide) (by omega) u407000 x407000_2 t407 [.string t407] (fun _ => True) (fun _ => False) rfl rfl ?aP (fun _ hk => hk.elim) ?aF ?aO ?aB ?aS ?aL ?_
                (case aP => exact rfl)
                (case aB => exact (by repeat (first | (with_reducible first | exact HB.out | apply below_alloc | apply pw_below_drewN | apply below_drew1 | refine below_set ?_ GE405.out | refine below_set ?_ GE406.out) | exact HB.out)))
                (case aF => exact (fun _ _ => trivial))
                (case aO => exact (by (with_reducible repeat (first | apply Kd.R_alloc | apply Kd.R_drewN | apply Kd.R_drew)); exact HO_407000.out))
                (case aS => exact (below_size (by repeat (first | (with_reducible first | exact HB.out | apply below_alloc | apply pw_below_drewN | apply below_drew1 | refine below_set ?_ GE405.out | refine below_set ?_ GE406.out) | exact HB.out))))
                (case aL => have := LMc12.out; omega)
                intro v409 w15 ho hb hg hat
                rw [← Ny408.out] at ho
                have n0_ := Aside0.mk (blk_grown (g := gb405) (o := .cells #[.slice none 0 0, .slice none 0 0, .int .i64 0] 29 (0, 0)) (by (with_reducible repeat (first | refine blk_drewN ?_ _ | refine blk_drew ?_ | refine blk_alloc ?_ _)); exact BK405.out) hg (Kd.R_ne HO_407000.out BK405.out (by decide)))
                have n1_ := Aside0.mk (blk_grown (g := gb406) (o := .cells #[u407000, .slice none 0 0, .int .i64 (-1)] 29 (0, 0)) (by (with_reducible repeat (first | refine blk_drewN ?_ _ | refine blk_drew ?_ | refine blk_alloc ?_ _)); exact BK406.out) hg (Kd.R_ne HO_407000.out BK406.out (by decide)))
                have n2_ := Aside0.mk (hb)
                have n3_ := Aside0.mk (ho)
                clear BK405
                clear BK406
                clear HB
                clear HO_407000
                have BK405 := n0_
                have BK406 := n1_
                have HB := n2_
                have HO410 := n3_
                clear n0_ n1_ n2_ n3_
                clear ho hb hg hat
                obtain ⟨Ao16, co16, eo16⟩ := Kd.R_slice HO410.out
                (first | subst eo16 | (injection eo16 with f1_ f2_ f3_; have f4_ := f1_.symm; have f5_ := f3_.symm; clear f1_ f2_ f3_; subst f4_; subst f5_))
                refine hK.out _ _ ⟨(blk_cell BK406.out 0).trans rfl, (blk_cell BK406.out 1).trans rfl, (blk_cell BK406.out 2).trans rfl⟩ (fun hHeld => ?_)
                clear hK K
                refine norm_ (a' := ?_) ?_ ?_
                rotate_left
                · show Act.put _ (some 20) _ = _
                  simp only [Act.put, List.setIfInBounds_toArray, List.set_cons_zero, List.set_cons_succ, i64_w, i32_w]
                  rfl
                refine pure_ (i := 5) (N := some 21) (v := ?_) (a' := ?_) #[true, true, true, true, true, true, false] rfl rfl (by kernel_rfl) (fun _ _ _ h => h) (Or.inl ⟨by rfl, ?_⟩) ?_ ?_
                rotate_left
                · intro w'
                  go_simp
                  with_reducible rfl
                rotate_left
                · simp only [Act.put, List.setIfInBounds_toArray, List.set_cons_zero, List.set_cons_succ, i64_w, i32_w]
                  rfl
                refine last_ (i := 6) (N := none) #[true, true, true, true, true, true, true] rfl rfl (by kernel_rfl) (by decide) (fun K hK => ?_)
                have hs17 : w15.cell? ⟨gb406, 0, none⟩ = some (u407000) := (blk_cell BK406.out 0).trans rfl
                have hfs17 := blk_frozen BK406.out 0
                have hns17_0 := NB405_406.out
                have hms17_0 := NB406_405.out
                refine skip_ (w1 := ?_) (by rfl) rfl ?_ ?_
                rotate_left
                · go_simp
                  rfl
                refine hK.out _ _ ?_
                clear hK K
                refine done_ (by kernel_rfl) ?_
                try go_wp2
                go_roundg k2
                case measure => have := HJ1.out; have := HK2.out; omega
                case rel => exact ⟨(wrap64 (x14_2 + 1)), (y408), (.slice Ao16 y408.length co16), (by first | rfl | (simp; done) | (simp [*]; done)), H', ⟨by have := HJ1.out; have := HK2.out; omega⟩, ⟨by (with_reducible repeat (first | apply Kd.R_alloc | apply Kd.R_drewN | apply Kd.R_drew)); exact Kd.R_mono (Kd.R_far (p := ⟨gb406, 0, none⟩) (Kd.R_types HO410.out BK406.out (by decide)) (fun _ hk => hk.2) (.slice Ao16 y408.length co16)) (fun _ hk => trivial)⟩, ⟨by (with_reducible repeat (first | refine blk_drewN ?_ _ | refine blk_drew ?_ | refine blk_alloc ?_ _)); refine blk_far ?_ NB405_406.out _; (with_reducible repeat (first | refine blk_drewN ?_ _ | refine blk_drew ?_ | refine blk_alloc ?_ _)); exact BK405.out⟩, ⟨by (with_reducible repeat (first | refine blk_drewN ?_ _ | refine blk_drew ?_ | refine blk_alloc ?_ _)); refine blk_put (cs := #[u407000, .slice none 0 0, .int .i64 (-1)]) ?_ 0 _ rfl; (with_reducible repeat (first | refine blk_drewN ?_ _ | refine blk_drew ?_ | refine blk_alloc ?_ _)); exact BK406.out⟩, ⟨by repeat (first | (with_reducible first | exact HB.out | apply below_alloc | apply pw_below_drewN | apply below_drew1 | refine below_set ?_ GE405.out | refine below_set ?_ GE406.out) | exact HB.out)⟩⟩
              · rw [if_neg c12] at H
                exact absurd H (by simp)
            · rw [if_neg c10] at H
              have c10b0 : decide (x14_2 < a0) = false := decide_eq_false c10
              clear c10
              simp only [Option.some.injEq, Prod.mk.injEq] at H
              obtain ⟨rfl, rfl, rfl, rfl⟩ := H
              have hnb18 := NB406_405.out
              have hnc18 := NB405_406.out
              have hcz19_0 : wr.cell? ⟨gb406, 0, none⟩ = some (u407000) := (blk_cell BK406.out 0).trans rfl
              have hcz19_1 : wr.cell? ⟨gb406, 1, none⟩ = some (.slice none 0 0) := (blk_cell BK406.out 1).trans rfl
              have hcz19_2 : wr.cell? ⟨gb406, 2, none⟩ = some (.int .i64 (-1)) := (blk_cell BK406.out 2).trans rfl
              have hfz19_0 := blk_frozen BK406.out 0
              have hfz19_1 := blk_frozen BK406.out 1
              have hfz19_2 := blk_frozen BK406.out 2
              obtain ⟨Ao20, co20, eo20⟩ := Kd.R_slice HO_407000.out
              subst eo20
              have hcz21_0 : wr.cell? ⟨gb405, 0, none⟩ = some (.slice none 0 0) := (blk_cell BK405.out 0).trans rfl
              have hcz21_1 : wr.cell? ⟨gb405, 1, none⟩ = some (.slice none 0 0) := (blk_cell BK405.out 1).trans rfl
              have hcz21_2 : wr.cell? ⟨gb405, 2, none⟩ = some (.int .i64 0) := (blk_cell BK405.out 2).trans rfl
              have hfz21_0 := blk_frozen BK405.out 0
              have hfz21_1 := blk_frozen BK405.out 1
              have hfz21_2 := blk_frozen BK405.out 2
              go_wp2
              refine bodyPost_ret (results_ct rfl _ _ gb405 29 #[.slice Ao20 x407000_2.length co20, .slice none 0 0, .int .i64 (-1)] (0, 0) _ rfl (by (with_reducible repeat (first | refine blk_drewN ?_ _ | refine blk_drew ?_ | refine blk_alloc ?_ _)); refine blk_put (cs := #[.slice Ao20 x407000_2.length co20, .slice none 0 0, .int .i64 0]) ?_ 2 _ rfl; (with_reducible repeat (first | refine blk_drewN ?_ _ | refine blk_drew ?_ | refine blk_alloc ?_ _)); refine blk_put (cs := #[.slice Ao20 x407000_2.length co20, .slice none 0 0, .int .i64 0]) ?_ 1 _ rfl; (with_reducible repeat (first | refine blk_drewN ?_ _ | refine blk_drew ?_ | refine blk_alloc ?_ _)); refine blk_put (cs := #[.slice none 0 0, .slice none 0 0, .int .i64 0]) ?_ 0 _ rfl; (with_reducible repeat (first | refine blk_drewN ?_ _ | refine blk_drew ?_ | refine blk_alloc ?_ _)); exact BK405.out) Try.underlying29 rfl (by kernel_rfl)) rfl ?_
              exact ⟨_, _, by first | rfl | (simp [errW_none, errW_some] <;> rfl) | (simp [*, errW_none, errW_some] <;> rfl), by (with_reducible repeat (first | apply Kd.R_alloc | apply Kd.R_drewN | apply Kd.R_drew)); exact Kd.R_mono (Kd.R_far (p := ⟨gb405, 2, none⟩) (Kd.R_far (p := ⟨gb405, 1, none⟩) (Kd.R_far (p := ⟨gb405, 0, none⟩) (Kd.R_types HO_407000.out BK405.out (by decide)) (fun _ hk => hk.2) (.slice Ao20 x407000_2.length co20)) (fun _ hk => hk.2) (.slice none 0 0)) (fun _ hk => hk.2) (.int .i64 (-1))) (fun _ hk => trivial), by first | exact Kd.R_nil _ _ _ _ _ | exact Kd.N_nil _ _ _ _ _ | exact Kd.V_nil _ _ _ _ _ | exact Kd.Q_nil _ _ _ _ _ | exact Kd.S_nil _ _ _ _ _, by repeat (first | (with_reducible first | exact HB.out | apply below_alloc | apply pw_below_drewN | apply below_drew1 | refine below_set ?_ GE405.out | refine below_set ?_ GE406.out) | exact HB.out)⟩

end Go.Proofs.Ytjfmnkmgnbbfgaa.A
