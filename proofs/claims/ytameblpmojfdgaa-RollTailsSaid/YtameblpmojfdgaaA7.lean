-- Made by drv.py (ours) by way of the kit's print; Lean checks it.
import Derived.Test.YtameblpmojfdgaaA0
import Derived.Test.YtameblpmojfdgaaA10
import Derived.Test.YtameblpmojfdgaaA13
import Derived.Test.YtameblpmojfdgaaA9
import Derived.Test.YtameblpmojfdgaaXjoin
namespace Go.Proofs.Ytameblpmojfdgaa.A
open Go.RowKit Go.Proofs.YtameblpmojfdgaaW.PrintWords Go.Proofs.YtameblpmojfdgaaW.PrintLast Go.Proofs.YtameblpmojfdgaaW.PrintMore
attribute [local go_sem] max2_int min2_int max_two min_two max_three min_three max_four min_four   -- for this text's walks alone
set_option linter.unusedVariables false
set_option linter.unusedSimpArgs false

/-! ### hibernaclelaw09_RollWhole: function 7 -/
def hibernaclelaw09_RollWhole.l0 : Nat → ByteArray → List ByteArray → List ByteArray → Int → Int → Int → Int → Int → Int → Option (Bool)
  | 0, _, _, _, _, _, _, _, _, _ => none
  | k + 1, x0, x5, x31, x32, x33, x185000, x185001, x185002, x185003 => if x33 < x32 then (if 0 ≤ x33 then (if x33 < (x31.length : Int) then (if ((rdOf ByteArray.empty x31 x33).size : Int) > x185002 then (some false) else (if ((rdOf ByteArray.empty x31 x33).size : Int) < 1 then (some false) else (if ((rdOf ByteArray.empty x31 x33).size : Int) < x185001 then (if x33 < (wrap64 ((x5.length : Int) - 1)) then (some false) else (hibernaclelaw09_RollWhole.l0 k x0 x5 x31 x32 (wrap64 (x33 + 1)) x185000 x185001 x185002 x185003)) else (hibernaclelaw09_RollWhole.l0 k x0 x5 x31 x32 (wrap64 (x33 + 1)) x185000 x185001 x185002 x185003)))) else (none)) else (none)) else ((strings_Join.f x5 (⟨#[]⟩ : ByteArray)).bind fun t192 => (some (t192.toList == x0.toList)))
def hibernaclelaw09_RollWhole.f (k : Nat) (a0 : ByteArray) (a1_0 : Int) (a1_1 : Int) (a1_2 : Int) (a1_3 : Int) : Option (Bool) := (hibernaclelaw09_rollAlive.f k).bind fun t185 => (if t185 = true then (if (a0.size : Int) > 5000 then (some true) else ((roll_Cut.f k a0 a1_0 a1_1 a1_2 a1_3).bind fun bt186 => (if bt186.2 = 0 then (hibernaclelaw09_RollWhole.l0 k a0 bt186.1 bt186.1 (bt186.1.length : Int) 0 a1_0 a1_1 a1_2 a1_3) else (if (bt186.1.length : Int) = 0 then ((roll_Check.f a1_0 a1_1 a1_2 a1_3).bind fun t190 => (some (t190 == bt186.2))) else (some false))))) else (some false))
theorem hibernaclelaw09_RollWhole.mono_l : ∀ k, (∀ y0 y1 y2 y3 y4 y5 y6 y7 y8, LeO (hibernaclelaw09_RollWhole.l0 k y0 y1 y2 y3 y4 y5 y6 y7 y8) (hibernaclelaw09_RollWhole.l0 (k + 1) y0 y1 y2 y3 y4 y5 y6 y7 y8))
  | 0 => fun _ _ _ _ _ _ _ _ _ r h => by simp [hibernaclelaw09_RollWhole.l0] at h
  | k + 1 => by
    have ih0 := hibernaclelaw09_RollWhole.mono_l k
    · intro y0 y1 y2 y3 y4 y5 y6 y7 y8
      unfold hibernaclelaw09_RollWhole.l0
      repeat' first
      | (with_reducible exact ih0 _ _ _ _ _ _ _ _ _)
      | (with_reducible exact hibernaclelaw09_rollAlive.mono _)
      | (with_reducible exact roll_Cut.mono _ _ _ _ _ _)
      | (with_reducible exact LeO.refl _)
      | (with_reducible exact LeO.none _)
      | (with_reducible refine LeO.ite ?_ ?_)
      | (with_reducible refine LeO.bind ?_ (fun _ => ?_))
      | exact ih0 _ _ _ _ _ _ _ _ _
      | exact hibernaclelaw09_rollAlive.mono _
      | exact roll_Cut.mono _ _ _ _ _ _
      | exact LeO.none _
      | refine LeO.ite ?_ ?_
      | refine LeO.bind ?_ (fun _ => ?_)
theorem hibernaclelaw09_RollWhole.mono : ∀ a0 a1 a2 a3 a4 k, LeO (hibernaclelaw09_RollWhole.f k a0 a1 a2 a3 a4) (hibernaclelaw09_RollWhole.f (k + 1) a0 a1 a2 a3 a4) := by
  intro a0 a1 a2 a3 a4 k
  have ih0 := hibernaclelaw09_RollWhole.mono_l k
  unfold hibernaclelaw09_RollWhole.f
  repeat' first
      | (with_reducible exact ih0 _ _ _ _ _ _ _ _ _)
      | (with_reducible exact hibernaclelaw09_rollAlive.mono _)
      | (with_reducible exact roll_Cut.mono _ _ _ _ _ _)
      | (with_reducible exact LeO.refl _)
      | (with_reducible exact LeO.none _)
      | (with_reducible refine LeO.ite ?_ ?_)
      | (with_reducible refine LeO.bind ?_ (fun _ => ?_))
      | exact ih0 _ _ _ _ _ _ _ _ _
      | exact hibernaclelaw09_rollAlive.mono _
      | exact roll_Cut.mono _ _ _ _ _ _
      | exact LeO.none _
      | refine LeO.ite ?_ ?_
      | refine LeO.bind ?_ (fun _ => ?_)
set_option maxHeartbeats 8000000 in
set_option maxRecDepth 100000 in
theorem hibernaclelaw09_RollWhole.calls (k : Nat) (a0 : ByteArray) (a1_0 : Int) (a1_1 : Int) (a1_2 : Int) (a1_3 : Int) (r : Bool) (w : World) (h : hibernaclelaw09_RollWhole.f k a0 a1_0 a1_1 a1_2 a1_3 = some r) :
    Calls Try.prog 7 #[.string a0, .agg #[.int .i64 a1_0, .int .i64 a1_1, .int .i64 a1_2, .int .u32 a1_3]] w fun e w' => e = .returned (.bool r) ∧ Below w.heap.size w w' := by
  have hu24 := Try.underlying24
  have HB := Aside0.mk (Below.refl w.heap.size w)
  have H : ((hibernaclelaw09_rollAlive.f k).bind fun t185 => (if t185 = true then (if (a0.size : Int) > 5000 then (some true) else ((roll_Cut.f k a0 a1_0 a1_1 a1_2 a1_3).bind fun bt186 => (if bt186.2 = 0 then (hibernaclelaw09_RollWhole.l0 k a0 bt186.1 bt186.1 (bt186.1.length : Int) 0 a1_0 a1_1 a1_2 a1_3) else (if (bt186.1.length : Int) = 0 then ((roll_Check.f a1_0 a1_1 a1_2 a1_3).bind fun t190 => (some (t190 == bt186.2))) else (some false))))) else (some false))) = some r := h
  clear h
  replace H := Option.bind_eq_some_iff.mp H
  obtain ⟨t185, A30, H⟩ := H
  replace H : (if t185 = true then (if (a0.size : Int) > 5000 then (some true) else ((roll_Cut.f k a0 a1_0 a1_1 a1_2 a1_3).bind fun bt186 => (if bt186.2 = 0 then (hibernaclelaw09_RollWhole.l0 k a0 bt186.1 bt186.1 (bt186.1.length : Int) 0 a1_0 a1_1 a1_2 a1_3) else (if (bt186.1.length : Int) = 0 then ((roll_Check.f a1_0 a1_1 a1_2 a1_3).bind fun t190 => (some (t190 == bt186.2))) else (some false))))) else (some false)) = some r := H
  have A3 := Aside0.mk A30
  clear A30
  by_cases c4 : t185 = true
  · subst c4
    have H1 : (if (a0.size : Int) > 5000 then (some true) else ((roll_Cut.f k a0 a1_0 a1_1 a1_2 a1_3).bind fun bt186 => (if bt186.2 = 0 then (hibernaclelaw09_RollWhole.l0 k a0 bt186.1 bt186.1 (bt186.1.length : Int) 0 a1_0 a1_1 a1_2 a1_3) else (if (bt186.1.length : Int) = 0 then ((roll_Check.f a1_0 a1_1 a1_2 a1_3).bind fun t190 => (some (t190 == bt186.2))) else (some false))))) = some r := by rw [if_pos rfl] at H; exact H
    clear H
    have H := H1
    clear H1
    by_cases c5 : (a0.size : Int) > 5000
    · rw [if_pos c5] at H
      have c5b0 : decide (5000 < (a0.size : Int)) = true := decide_eq_true c5
      have c5b1 : decide (5000 < a0.size) = true := decide_eq_true (by omega)
      clear c5
      obtain rfl := Option.some.inj H
      go_enter Try.func7, Try.ntmps7
      go_wp2_with (first | ((with_reducible refine gate_dst (N := 3) rfl ?_); (try (refine gate_guard (by rfl) ?_; dsimp only)); refine box_event ?hg (N := 3) ?hd (cs := #[.int .i64 a1_0, .int .i64 a1_1, .int .i64 a1_2, .int .u32 a1_3]) (t := 24) ?hr ?_; (case hd => rfl); (case hg => rfl); (case hr => first | (go_simp; done) | (go_simp; rfl)); intro gb184 hg w6 hbox hb; have n0_ := Aside0.mk (below_step (by repeat (first | (with_reducible first | exact HB.out | apply below_alloc | apply pw_below_drewN | apply below_drew1) | exact HB.out)) hb); have n1_ := Aside0.mk (hbox); have n2_ := Aside0.mk ((by rw [hg]; exact (below_size (by repeat (first | (with_reducible first | exact HB.out | apply below_alloc | apply pw_below_drewN | apply below_drew1) | exact HB.out))) : w.heap.size ≤ gb184)); have n3_ := Aside0.mk ((by rw [hg]; exact (below_size (by repeat (first | (with_reducible first | exact HB.out | apply below_alloc | apply pw_below_drewN | apply below_drew1) | exact HB.out))) : w.heap.size ≤ gb184)); clear HB; have HB := n0_; have BK184 := n1_; have GW184 := n2_; have GE184 := n3_; clear n0_ n1_ n2_ n3_; clear hb hbox hg) | ((with_reducible refine gate_callee (f := 9) rfl ?_); refine goesL_ (some 9) rfl rfl Try.func9 (by kernel_rfl) rfl #[] rfl (by (try simp only [List.map_toArray, List.map_cons, List.map_nil]); first | done | rfl | (simp only [List.length_drop, List.length_take]; rfl)) ?_; (with_reducible refine (hibernaclelaw09_rollAlive.calls k  true _ A3.out).mono ?_); rintro e w7 ⟨rfl, hb⟩; refine ⟨_, rfl, ?_⟩; have n0_ := Aside0.mk (blk_below (g := gb184) (o := .cells #[.int .i64 a1_0, .int .i64 a1_1, .int .i64 a1_2, .int .u32 a1_3] 24 (0, 0)) (by (with_reducible repeat (first | refine blk_drewN ?_ _ | refine blk_drew ?_ | refine blk_alloc ?_ _)); exact BK184.out) hb); have n1_ := Aside0.mk (below_step (by repeat (first | (with_reducible first | exact HB.out | apply below_alloc | apply pw_below_drewN | apply below_drew1 | refine below_set ?_ GE184.out) | exact HB.out)) hb); clear BK184; clear HB; have BK184 := n0_; have HB := n1_; clear n0_ n1_; (try clear hb); (try clear hb2); (try clear hk); (try clear hi)))
      go_ret
      exact ⟨by first | rfl | (simp [errW_none, errW_some] <;> rfl) | (simp [*, errW_none, errW_some] <;> rfl), by repeat (first | (with_reducible first | exact HB.out | apply below_alloc | apply pw_below_drewN | apply below_drew1 | refine below_set ?_ GE184.out) | exact HB.out)⟩
    · rw [if_neg c5] at H
      have c5b0 : decide (5000 < (a0.size : Int)) = false := decide_eq_false c5
      have c5b1 : decide (5000 < a0.size) = false := decide_eq_false (by omega)
      clear c5
      replace H := Option.bind_eq_some_iff.mp H
      obtain ⟨⟨t186, t189⟩, A80, H⟩ := H
      replace H : (if t189 = 0 then (hibernaclelaw09_RollWhole.l0 k a0 t186 t186 (t186.length : Int) 0 a1_0 a1_1 a1_2 a1_3) else (if (t186.length : Int) = 0 then ((roll_Check.f a1_0 a1_1 a1_2 a1_3).bind fun t190 => (some (t190 == t189))) else (some false))) = some r := H
      have A8 := Aside0.mk A80
      clear A80
      by_cases c9 : t189 = 0
      · rw [if_pos c9] at H
        have c9b0 : (t189 == 0) = true := beq_iff_eq.mpr c9
        have c9b1 : (t189 != 0) = false := bne_eq_false_iff_eq.mpr c9
        clear c9
        have H' := Aside0.mk H
        clear H
        go_enter Try.func7, Try.ntmps7
        go_wp2_with (first | ((with_reducible refine gate_dst (N := 3) rfl ?_); (try (refine gate_guard (by rfl) ?_; dsimp only)); refine box_event ?hg (N := 3) ?hd (cs := #[.int .i64 a1_0, .int .i64 a1_1, .int .i64 a1_2, .int .u32 a1_3]) (t := 24) ?hr ?_; (case hd => rfl); (case hg => rfl); (case hr => first | (go_simp; done) | (go_simp; rfl)); intro gb184 hg w10 hbox hb; have n0_ := Aside0.mk (below_step (by repeat (first | (with_reducible first | exact HB.out | apply below_alloc | apply pw_below_drewN | apply below_drew1) | exact HB.out)) hb); have n1_ := Aside0.mk (hbox); have n2_ := Aside0.mk ((by rw [hg]; exact (below_size (by repeat (first | (with_reducible first | exact HB.out | apply below_alloc | apply pw_below_drewN | apply below_drew1) | exact HB.out))) : w.heap.size ≤ gb184)); have n3_ := Aside0.mk ((by rw [hg]; exact (below_size (by repeat (first | (with_reducible first | exact HB.out | apply below_alloc | apply pw_below_drewN | apply below_drew1) | exact HB.out))) : w.heap.size ≤ gb184)); clear HB; have HB := n0_; have BK184 := n1_; have GW184 := n2_; have GE184 := n3_; clear n0_ n1_ n2_ n3_; clear hb hbox hg) | ((with_reducible refine gate_callee (f := 9) rfl ?_); refine goesL_ (some 9) rfl rfl Try.func9 (by kernel_rfl) rfl #[] rfl (by (try simp only [List.map_toArray, List.map_cons, List.map_nil]); first | done | rfl | (simp only [List.length_drop, List.length_take]; rfl)) ?_; (with_reducible refine (hibernaclelaw09_rollAlive.calls k  true _ A3.out).mono ?_); rintro e w11 ⟨rfl, hb⟩; refine ⟨_, rfl, ?_⟩; have n0_ := Aside0.mk (blk_below (g := gb184) (o := .cells #[.int .i64 a1_0, .int .i64 a1_1, .int .i64 a1_2, .int .u32 a1_3] 24 (0, 0)) (by (with_reducible repeat (first | refine blk_drewN ?_ _ | refine blk_drew ?_ | refine blk_alloc ?_ _)); exact BK184.out) hb); have n1_ := Aside0.mk (below_step (by repeat (first | (with_reducible first | exact HB.out | apply below_alloc | apply pw_below_drewN | apply below_drew1 | refine below_set ?_ GE184.out) | exact HB.out)) hb); clear BK184; clear HB; have BK184 := n0_; have HB := n1_; clear n0_ n1_; (try clear hb); (try clear hb2); (try clear hk); (try clear hi); have hcz12_0 : w11.cell? ⟨gb184, 0, none⟩ = some (.int .i64 a1_0) := (blk_cell BK184.out 0).trans rfl; have hcz12_1 : w11.cell? ⟨gb184, 1, none⟩ = some (.int .i64 a1_1) := (blk_cell BK184.out 1).trans rfl; have hcz12_2 : w11.cell? ⟨gb184, 2, none⟩ = some (.int .i64 a1_2) := (blk_cell BK184.out 2).trans rfl; have hcz12_3 : w11.cell? ⟨gb184, 3, none⟩ = some (.int .u32 a1_3) := (blk_cell BK184.out 3).trans rfl; have hfz12_0 := blk_frozen BK184.out 0; have hfz12_1 := blk_frozen BK184.out 1; have hfz12_2 := blk_frozen BK184.out 2; have hfz12_3 := blk_frozen BK184.out 3) | ((with_reducible refine gate_callee (f := 10) rfl ?_); refine goesL_ (some 17) rfl rfl Try.func10 (by kernel_rfl) rfl #[.string a0, .agg #[.int .i64 a1_0, .int .i64 a1_1, .int .i64 a1_2, .int .u32 a1_3]] rfl (by (try simp only [List.map_toArray, List.map_cons, List.map_nil]); first | done | rfl | (simp only [List.length_drop, List.length_take]; rfl)) ?_; (with_reducible refine (roll_Cut.calls k a0 a1_0 a1_1 a1_2 a1_3 t186 t189 _ A8.out).mono ?_); rintro e w13 ⟨v187, rfl, ho0, hb⟩; refine ⟨_, rfl, ?_⟩; have n0_ := Aside0.mk (Kd.R_lower ho0 (below_size (by repeat (first | (with_reducible first | exact HB.out | apply below_alloc | apply pw_below_drewN | apply below_drew1 | refine below_set ?_ GE184.out) | exact HB.out)))); have n1_ := Aside0.mk (blk_below (g := gb184) (o := .cells #[.int .i64 a1_0, .int .i64 a1_1, .int .i64 a1_2, .int .u32 a1_3] 24 (0, 0)) (by (with_reducible repeat (first | refine blk_drewN ?_ _ | refine blk_drew ?_ | refine blk_alloc ?_ _)); exact BK184.out) hb); have n2_ := Aside0.mk (below_step (by repeat (first | (with_reducible first | exact HB.out | apply below_alloc | apply pw_below_drewN | apply below_drew1 | refine below_set ?_ GE184.out) | exact HB.out)) hb); clear BK184; clear HB; have HO188 := n0_; have BK184 := n1_; have HB := n2_; clear n0_ n1_ n2_; (try clear hb); (try clear hb2); (try clear hk); (try clear hi); (try clear ho0); obtain ⟨Ao14, co14, eo14⟩ := Kd.R_slice HO188.out; subst eo14))
        go_loopg [33] k (fun kq v33 w' => ∃ (x33_1 : Int), v33 = .int .i64 x33_1 ∧ Aside0 (hibernaclelaw09_RollWhole.l0 kq a0 t186 t186 (t186.length : Int) x33_1 a1_0 a1_1 a1_2 a1_3 = some r) ∧ Aside0 (kq ≤ k) ∧ Aside0 (Kd.R Kd.string 9 w' w.heap.size (fun _ => True) (.slice Ao14 t186.length co14) t186) ∧ Aside0 (Kd.R Kd.string 9 w' w.heap.size (fun _ => True) (.slice Ao14 t186.length co14) t186) ∧ Aside0 (w'.heap[gb184]? = some (.cells #[.int .i64 a1_0, .int .i64 a1_1, .int .i64 a1_2, .int .u32 a1_3] 24 (0, 0))) ∧ Aside0 (Below w.heap.size w w'))
        case atStart => exact ⟨(0), (by first | rfl | (simp; done) | (simp [*]; done)), H', ⟨Nat.le_refl _⟩, ⟨by (with_reducible repeat (first | apply Kd.R_alloc | apply Kd.R_drewN | apply Kd.R_drew)); exact HO188.out⟩, ⟨by (with_reducible repeat (first | apply Kd.R_alloc | apply Kd.R_drewN | apply Kd.R_drew)); exact HO188.out⟩, ⟨by (with_reducible repeat (first | refine blk_drewN ?_ _ | refine blk_drew ?_ | refine blk_alloc ?_ _)); exact BK184.out⟩, ⟨by repeat (first | (with_reducible first | exact HB.out | apply below_alloc | apply pw_below_drewN | apply below_drew1 | refine below_set ?_ GE184.out) | exact HB.out)⟩⟩
        case round =>
          clear H'
          try clear c1
          try clear p2
          try clear c4
          try clear c5
          try clear c5b0
          try clear c5b1
          try clear c7
          try clear c9
          try clear c9b0
          try clear c9b1
          try clear c10
          try clear hcz12_0
          try clear hcz12_1
          try clear hcz12_2
          try clear hcz12_3
          try clear hfz12_0
          try clear hfz12_1
          try clear hfz12_2
          try clear hfz12_3
          obtain ⟨x33_1, rfl, HA, HK1, HO_5, HO_31, BK184, HB⟩ := hrel
          cases gk with
          | zero => exact absurd HA.out (by simp [hibernaclelaw09_RollWhole.l0])
          | succ k1 =>
            have H := HA.out
            clear HA
            simp only [hibernaclelaw09_RollWhole.l0] at H
            by_cases c15 : x33_1 < (t186.length : Int)
            · rw [if_pos c15] at H
              have c15b0 : decide (x33_1 < (t186.length : Int)) = true := decide_eq_true c15
              clear c15
              by_cases c16 : 0 ≤ x33_1
              · rw [if_pos c16] at H
                have c16b0 : decide (0 ≤ x33_1) = true := decide_eq_true c16
                clear c16
                by_cases c17 : x33_1 < (t186.length : Int)
                · rw [if_pos c17] at H
                  have c17b0 : decide (x33_1 < (t186.length : Int)) = true := decide_eq_true c17
                  clear c17
                  by_cases c18 : ((rdOf ByteArray.empty t186 x33_1).size : Int) > a1_2
                  · rw [if_pos c18] at H
                    have c18b0 : decide (a1_2 < ((rdOf ByteArray.empty t186 x33_1).size : Int)) = true := decide_eq_true c18
                    clear c18
                    obtain rfl := Option.some.inj H
                    have p191 : 0 ≤ (x33_1 : Int) := of_decide_eq_true (by first | (with_reducible assumption) | assumption)
                    have q191 : x33_1 < (t186.length : Int) := of_decide_eq_true (by first | (with_reducible assumption) | assumption)
                    obtain ⟨ad191, e191, hx191_0⟩ := Kd.at_string (Kd.R_reads' HO_31.out).2.2 x33_1 p191 q191
                    cases e191
                    replace p191 := eq_true p191
                    replace q191 := eq_true q191
                    have hcz19_0 : wr.cell? ⟨gb184, 0, none⟩ = some (.int .i64 a1_0) := (blk_cell BK184.out 0).trans rfl
                    have hcz19_1 : wr.cell? ⟨gb184, 1, none⟩ = some (.int .i64 a1_1) := (blk_cell BK184.out 1).trans rfl
                    have hcz19_2 : wr.cell? ⟨gb184, 2, none⟩ = some (.int .i64 a1_2) := (blk_cell BK184.out 2).trans rfl
                    have hcz19_3 : wr.cell? ⟨gb184, 3, none⟩ = some (.int .u32 a1_3) := (blk_cell BK184.out 3).trans rfl
                    have hfz19_0 := blk_frozen BK184.out 0
                    have hfz19_1 := blk_frozen BK184.out 1
                    have hfz19_2 := blk_frozen BK184.out 2
                    have hfz19_3 := blk_frozen BK184.out 3
                    go_wp2
                    go_ret
                    exact ⟨by first | rfl | (simp [errW_none, errW_some] <;> rfl) | (simp [*, errW_none, errW_some] <;> rfl), by repeat (first | (with_reducible first | exact HB.out | apply below_alloc | apply pw_below_drewN | apply below_drew1 | refine below_set ?_ GE184.out) | exact HB.out)⟩
                  · rw [if_neg c18] at H
                    have c18b0 : decide (a1_2 < ((rdOf ByteArray.empty t186 x33_1).size : Int)) = false := decide_eq_false c18
                    clear c18
                    by_cases c20 : ((rdOf ByteArray.empty t186 x33_1).size : Int) < 1
                    · rw [if_pos c20] at H
                      have c20b0 : decide (((rdOf ByteArray.empty t186 x33_1).size : Int) < 1) = true := decide_eq_true c20
                      have c20b1 : decide ((rdOf ByteArray.empty t186 x33_1).size < 1) = true := decide_eq_true (by omega)
                      clear c20
                      obtain rfl := Option.some.inj H
                      have p191 : 0 ≤ (x33_1 : Int) := of_decide_eq_true (by first | (with_reducible assumption) | assumption)
                      have q191 : x33_1 < (t186.length : Int) := of_decide_eq_true (by first | (with_reducible assumption) | assumption)
                      obtain ⟨ad191, e191, hx191_0⟩ := Kd.at_string (Kd.R_reads' HO_31.out).2.2 x33_1 p191 q191
                      cases e191
                      replace p191 := eq_true p191
                      replace q191 := eq_true q191
                      have hcz21_0 : wr.cell? ⟨gb184, 0, none⟩ = some (.int .i64 a1_0) := (blk_cell BK184.out 0).trans rfl
                      have hcz21_1 : wr.cell? ⟨gb184, 1, none⟩ = some (.int .i64 a1_1) := (blk_cell BK184.out 1).trans rfl
                      have hcz21_2 : wr.cell? ⟨gb184, 2, none⟩ = some (.int .i64 a1_2) := (blk_cell BK184.out 2).trans rfl
                      have hcz21_3 : wr.cell? ⟨gb184, 3, none⟩ = some (.int .u32 a1_3) := (blk_cell BK184.out 3).trans rfl
                      have hfz21_0 := blk_frozen BK184.out 0
                      have hfz21_1 := blk_frozen BK184.out 1
                      have hfz21_2 := blk_frozen BK184.out 2
                      have hfz21_3 := blk_frozen BK184.out 3
                      go_wp2
                      go_ret
                      exact ⟨by first | rfl | (simp [errW_none, errW_some] <;> rfl) | (simp [*, errW_none, errW_some] <;> rfl), by repeat (first | (with_reducible first | exact HB.out | apply below_alloc | apply pw_below_drewN | apply below_drew1 | refine below_set ?_ GE184.out) | exact HB.out)⟩
                    · rw [if_neg c20] at H
                      have c20b0 : decide (((rdOf ByteArray.empty t186 x33_1).size : Int) < 1) = false := decide_eq_false c20
                      have c20b1 : decide ((rdOf ByteArray.empty t186 x33_1).size < 1) = false := decide_eq_false (by omega)
                      clear c20
                      by_cases c22 : ((rdOf ByteArray.empty t186 x33_1).size : Int) < a1_1
                      · rw [if_pos c22] at H
                        have c22b0 : decide (((rdOf ByteArray.empty t186 x33_1).size : Int) < a1_1) = true := decide_eq_true c22
                        clear c22
                        by_cases c23 : x33_1 < (wrap64 ((t186.length : Int) - 1))
                        · rw [if_pos c23] at H
                          have c23b0 : decide (x33_1 < (wrap64 ((t186.length : Int) - 1))) = true := decide_eq_true c23
                          clear c23
                          obtain rfl := Option.some.inj H
                          have p191 : 0 ≤ (x33_1 : Int) := of_decide_eq_true (by first | (with_reducible assumption) | assumption)
                          have q191 : x33_1 < (t186.length : Int) := of_decide_eq_true (by first | (with_reducible assumption) | assumption)
                          obtain ⟨ad191, e191, hx191_0⟩ := Kd.at_string (Kd.R_reads' HO_31.out).2.2 x33_1 p191 q191
                          cases e191
                          replace p191 := eq_true p191
                          replace q191 := eq_true q191
                          have hcz24_0 : wr.cell? ⟨gb184, 0, none⟩ = some (.int .i64 a1_0) := (blk_cell BK184.out 0).trans rfl
                          have hcz24_1 : wr.cell? ⟨gb184, 1, none⟩ = some (.int .i64 a1_1) := (blk_cell BK184.out 1).trans rfl
                          have hcz24_2 : wr.cell? ⟨gb184, 2, none⟩ = some (.int .i64 a1_2) := (blk_cell BK184.out 2).trans rfl
                          have hcz24_3 : wr.cell? ⟨gb184, 3, none⟩ = some (.int .u32 a1_3) := (blk_cell BK184.out 3).trans rfl
                          have hfz24_0 := blk_frozen BK184.out 0
                          have hfz24_1 := blk_frozen BK184.out 1
                          have hfz24_2 := blk_frozen BK184.out 2
                          have hfz24_3 := blk_frozen BK184.out 3
                          go_wp2
                          go_ret
                          exact ⟨by first | rfl | (simp [errW_none, errW_some] <;> rfl) | (simp [*, errW_none, errW_some] <;> rfl), by repeat (first | (with_reducible first | exact HB.out | apply below_alloc | apply pw_below_drewN | apply below_drew1 | refine below_set ?_ GE184.out) | exact HB.out)⟩
                        · rw [if_neg c23] at H
                          have c23b0 : decide (x33_1 < (wrap64 ((t186.length : Int) - 1))) = false := decide_eq_false c23
                          clear c23
                          have H' := Aside0.mk H
                          clear H
                          have p191 : 0 ≤ (x33_1 : Int) := of_decide_eq_true (by first | (with_reducible assumption) | assumption)
                          have q191 : x33_1 < (t186.length : Int) := of_decide_eq_true (by first | (with_reducible assumption) | assumption)
                          obtain ⟨ad191, e191, hx191_0⟩ := Kd.at_string (Kd.R_reads' HO_31.out).2.2 x33_1 p191 q191
                          cases e191
                          replace p191 := eq_true p191
                          replace q191 := eq_true q191
                          have hcz25_0 : wr.cell? ⟨gb184, 0, none⟩ = some (.int .i64 a1_0) := (blk_cell BK184.out 0).trans rfl
                          have hcz25_1 : wr.cell? ⟨gb184, 1, none⟩ = some (.int .i64 a1_1) := (blk_cell BK184.out 1).trans rfl
                          have hcz25_2 : wr.cell? ⟨gb184, 2, none⟩ = some (.int .i64 a1_2) := (blk_cell BK184.out 2).trans rfl
                          have hcz25_3 : wr.cell? ⟨gb184, 3, none⟩ = some (.int .u32 a1_3) := (blk_cell BK184.out 3).trans rfl
                          have hfz25_0 := blk_frozen BK184.out 0
                          have hfz25_1 := blk_frozen BK184.out 1
                          have hfz25_2 := blk_frozen BK184.out 2
                          have hfz25_3 := blk_frozen BK184.out 3
                          go_wp2
                          go_roundg k1
                          case measure => have := HK1.out; omega
                          case rel => exact ⟨(wrap64 (x33_1 + 1)), (by first | rfl | (simp; done) | (simp [*]; done)), H', ⟨by have := HK1.out; omega⟩, ⟨by (with_reducible repeat (first | apply Kd.R_alloc | apply Kd.R_drewN | apply Kd.R_drew)); exact HO_5.out⟩, ⟨by (with_reducible repeat (first | apply Kd.R_alloc | apply Kd.R_drewN | apply Kd.R_drew)); exact HO_31.out⟩, ⟨by (with_reducible repeat (first | refine blk_drewN ?_ _ | refine blk_drew ?_ | refine blk_alloc ?_ _)); exact BK184.out⟩, ⟨by repeat (first | (with_reducible first | exact HB.out | apply below_alloc | apply pw_below_drewN | apply below_drew1 | refine below_set ?_ GE184.out) | exact HB.out)⟩⟩
                      · rw [if_neg c22] at H
                        have c22b0 : decide (((rdOf ByteArray.empty t186 x33_1).size : Int) < a1_1) = false := decide_eq_false c22
                        clear c22
                        have H' := Aside0.mk H
                        clear H
                        have p191 : 0 ≤ (x33_1 : Int) := of_decide_eq_true (by first | (with_reducible assumption) | assumption)
                        have q191 : x33_1 < (t186.length : Int) := of_decide_eq_true (by first | (with_reducible assumption) | assumption)
                        obtain ⟨ad191, e191, hx191_0⟩ := Kd.at_string (Kd.R_reads' HO_31.out).2.2 x33_1 p191 q191
                        cases e191
                        replace p191 := eq_true p191
                        replace q191 := eq_true q191
                        have hcz26_0 : wr.cell? ⟨gb184, 0, none⟩ = some (.int .i64 a1_0) := (blk_cell BK184.out 0).trans rfl
                        have hcz26_1 : wr.cell? ⟨gb184, 1, none⟩ = some (.int .i64 a1_1) := (blk_cell BK184.out 1).trans rfl
                        have hcz26_2 : wr.cell? ⟨gb184, 2, none⟩ = some (.int .i64 a1_2) := (blk_cell BK184.out 2).trans rfl
                        have hcz26_3 : wr.cell? ⟨gb184, 3, none⟩ = some (.int .u32 a1_3) := (blk_cell BK184.out 3).trans rfl
                        have hfz26_0 := blk_frozen BK184.out 0
                        have hfz26_1 := blk_frozen BK184.out 1
                        have hfz26_2 := blk_frozen BK184.out 2
                        have hfz26_3 := blk_frozen BK184.out 3
                        go_wp2
                        go_roundg k1
                        case measure => have := HK1.out; omega
                        case rel => exact ⟨(wrap64 (x33_1 + 1)), (by first | rfl | (simp; done) | (simp [*]; done)), H', ⟨by have := HK1.out; omega⟩, ⟨by (with_reducible repeat (first | apply Kd.R_alloc | apply Kd.R_drewN | apply Kd.R_drew)); exact HO_5.out⟩, ⟨by (with_reducible repeat (first | apply Kd.R_alloc | apply Kd.R_drewN | apply Kd.R_drew)); exact HO_31.out⟩, ⟨by (with_reducible repeat (first | refine blk_drewN ?_ _ | refine blk_drew ?_ | refine blk_alloc ?_ _)); exact BK184.out⟩, ⟨by repeat (first | (with_reducible first | exact HB.out | apply below_alloc | apply pw_below_drewN | apply below_drew1 | refine below_set ?_ GE184.out) | exact HB.out)⟩⟩
                · rw [if_neg c17] at H
                  exact absurd H (by simp)
              · rw [if_neg c16] at H
                exact absurd H (by simp)
            · rw [if_neg c15] at H
              have c15b0 : decide (x33_1 < (t186.length : Int)) = false := decide_eq_false c15
              clear c15
              replace H := Option.bind_eq_some_iff.mp H
              obtain ⟨t192, A270, H⟩ := H
              replace H : (some (t192.toList == a0.toList)) = some r := H
              have A27 := Aside0.mk A270
              clear A270
              obtain rfl := Option.some.inj H
              go_wp2_with (first | ((with_reducible refine gate_callee (f := 17) rfl ?_); refine goesL_ (some 64) rfl rfl Try.func17 (by kernel_rfl) rfl #[.slice Ao14 t186.length co14, .string (⟨#[]⟩ : ByteArray)] rfl (by (try simp only [List.map_toArray, List.map_cons, List.map_nil]); first | done | rfl | (simp only [List.length_drop, List.length_take]; rfl)) ?_; (with_reducible refine (strings_Join.calls _ _ t186 (⟨#[]⟩ : ByteArray) t192 _ ?side1 ?side2 A27.out).mono ?_); (case side1 => repeat (first | exact (Kd.R_reads' HO_5.out).2.2 | (with_reducible refine Kd.C_alloc ?_ _) | (with_reducible refine Kd.C_drewN ?_ _) | (with_reducible refine Kd.C_drew ?_))); (case side2 => exact (Kd.R_reads' HO_5.out).2.1); rintro e w28 ⟨rfl, hb⟩; refine ⟨_, rfl, ?_⟩; have n0_ := Aside0.mk (Kd.R_below (by (with_reducible repeat (first | apply Kd.R_alloc | apply Kd.R_drewN | apply Kd.R_drew)); exact HO_5.out) hb); have n1_ := Aside0.mk (Kd.R_below (by (with_reducible repeat (first | apply Kd.R_alloc | apply Kd.R_drewN | apply Kd.R_drew)); exact HO_31.out) hb); have n2_ := Aside0.mk (blk_below (g := gb184) (o := .cells #[.int .i64 a1_0, .int .i64 a1_1, .int .i64 a1_2, .int .u32 a1_3] 24 (0, 0)) (by (with_reducible repeat (first | refine blk_drewN ?_ _ | refine blk_drew ?_ | refine blk_alloc ?_ _)); exact BK184.out) hb); have n3_ := Aside0.mk (below_step (by repeat (first | (with_reducible first | exact HB.out | apply below_alloc | apply pw_below_drewN | apply below_drew1 | refine below_set ?_ GE184.out) | exact HB.out)) hb); clear HO_5; clear HO_31; clear BK184; clear HB; have HO_5 := n0_; have HO_31 := n1_; have BK184 := n2_; have HB := n3_; clear n0_ n1_ n2_ n3_; (try clear hb); (try clear hb2); (try clear hk); (try clear hi)))
              go_ret
              exact ⟨by first | rfl | (simp [errW_none, errW_some] <;> rfl) | (simp [*, errW_none, errW_some] <;> rfl), by repeat (first | (with_reducible first | exact HB.out | apply below_alloc | apply pw_below_drewN | apply below_drew1 | refine below_set ?_ GE184.out) | exact HB.out)⟩
      · rw [if_neg c9] at H
        have c9b0 : (t189 == 0) = false := beq_eq_false_iff_ne.mpr c9
        have c9b1 : (t189 != 0) = true := bne_iff_ne.mpr c9
        by_cases c29 : (t186.length : Int) = 0
        · rw [if_pos c29] at H
          have c29b0 : ((t186.length : Int) == 0) = true := beq_iff_eq.mpr c29
          have c29b1 : ((t186.length : Int) != 0) = false := bne_eq_false_iff_eq.mpr c29
          clear c29
          replace H := Option.bind_eq_some_iff.mp H
          obtain ⟨t190, A300, H⟩ := H
          replace H : (some (t190 == t189)) = some r := H
          have A30 := Aside0.mk A300
          clear A300
          obtain rfl := Option.some.inj H
          go_enter Try.func7, Try.ntmps7
          go_wp2_with (first | ((with_reducible refine gate_dst (N := 3) rfl ?_); (try (refine gate_guard (by rfl) ?_; dsimp only)); refine box_event ?hg (N := 3) ?hd (cs := #[.int .i64 a1_0, .int .i64 a1_1, .int .i64 a1_2, .int .u32 a1_3]) (t := 24) ?hr ?_; (case hd => rfl); (case hg => rfl); (case hr => first | (go_simp; done) | (go_simp; rfl)); intro gb184 hg w31 hbox hb; have n0_ := Aside0.mk (below_step (by repeat (first | (with_reducible first | exact HB.out | apply below_alloc | apply pw_below_drewN | apply below_drew1) | exact HB.out)) hb); have n1_ := Aside0.mk (hbox); have n2_ := Aside0.mk ((by rw [hg]; exact (below_size (by repeat (first | (with_reducible first | exact HB.out | apply below_alloc | apply pw_below_drewN | apply below_drew1) | exact HB.out))) : w.heap.size ≤ gb184)); have n3_ := Aside0.mk ((by rw [hg]; exact (below_size (by repeat (first | (with_reducible first | exact HB.out | apply below_alloc | apply pw_below_drewN | apply below_drew1) | exact HB.out))) : w.heap.size ≤ gb184)); clear HB; have HB := n0_; have BK184 := n1_; have GW184 := n2_; have GE184 := n3_; clear n0_ n1_ n2_ n3_; clear hb hbox hg) | ((with_reducible refine gate_callee (f := 9) rfl ?_); refine goesL_ (some 9) rfl rfl Try.func9 (by kernel_rfl) rfl #[] rfl (by (try simp only [List.map_toArray, List.map_cons, List.map_nil]); first | done | rfl | (simp only [List.length_drop, List.length_take]; rfl)) ?_; (with_reducible refine (hibernaclelaw09_rollAlive.calls k  true _ A3.out).mono ?_); rintro e w32 ⟨rfl, hb⟩; refine ⟨_, rfl, ?_⟩; have n0_ := Aside0.mk (blk_below (g := gb184) (o := .cells #[.int .i64 a1_0, .int .i64 a1_1, .int .i64 a1_2, .int .u32 a1_3] 24 (0, 0)) (by (with_reducible repeat (first | refine blk_drewN ?_ _ | refine blk_drew ?_ | refine blk_alloc ?_ _)); exact BK184.out) hb); have n1_ := Aside0.mk (below_step (by repeat (first | (with_reducible first | exact HB.out | apply below_alloc | apply pw_below_drewN | apply below_drew1 | refine below_set ?_ GE184.out) | exact HB.out)) hb); clear BK184; clear HB; have BK184 := n0_; have HB := n1_; clear n0_ n1_; (try clear hb); (try clear hb2); (try clear hk); (try clear hi); have hcz33_0 : w32.cell? ⟨gb184, 0, none⟩ = some (.int .i64 a1_0) := (blk_cell BK184.out 0).trans rfl; have hcz33_1 : w32.cell? ⟨gb184, 1, none⟩ = some (.int .i64 a1_1) := (blk_cell BK184.out 1).trans rfl; have hcz33_2 : w32.cell? ⟨gb184, 2, none⟩ = some (.int .i64 a1_2) := (blk_cell BK184.out 2).trans rfl; have hcz33_3 : w32.cell? ⟨gb184, 3, none⟩ = some (.int .u32 a1_3) := (blk_cell BK184.out 3).trans rfl; have hfz33_0 := blk_frozen BK184.out 0; have hfz33_1 := blk_frozen BK184.out 1; have hfz33_2 := blk_frozen BK184.out 2; have hfz33_3 := blk_frozen BK184.out 3) | ((with_reducible refine gate_callee (f := 10) rfl ?_); refine goesL_ (some 17) rfl rfl Try.func10 (by kernel_rfl) rfl #[.string a0, .agg #[.int .i64 a1_0, .int .i64 a1_1, .int .i64 a1_2, .int .u32 a1_3]] rfl (by (try simp only [List.map_toArray, List.map_cons, List.map_nil]); first | done | rfl | (simp only [List.length_drop, List.length_take]; rfl)) ?_; (with_reducible refine (roll_Cut.calls k a0 a1_0 a1_1 a1_2 a1_3 t186 t189 _ A8.out).mono ?_); rintro e w34 ⟨v187, rfl, ho0, hb⟩; refine ⟨_, rfl, ?_⟩; have n0_ := Aside0.mk (Kd.R_lower ho0 (below_size (by repeat (first | (with_reducible first | exact HB.out | apply below_alloc | apply pw_below_drewN | apply below_drew1 | refine below_set ?_ GE184.out) | exact HB.out)))); have n1_ := Aside0.mk (blk_below (g := gb184) (o := .cells #[.int .i64 a1_0, .int .i64 a1_1, .int .i64 a1_2, .int .u32 a1_3] 24 (0, 0)) (by (with_reducible repeat (first | refine blk_drewN ?_ _ | refine blk_drew ?_ | refine blk_alloc ?_ _)); exact BK184.out) hb); have n2_ := Aside0.mk (below_step (by repeat (first | (with_reducible first | exact HB.out | apply below_alloc | apply pw_below_drewN | apply below_drew1 | refine below_set ?_ GE184.out) | exact HB.out)) hb); clear BK184; clear HB; have HO188 := n0_; have BK184 := n1_; have HB := n2_; clear n0_ n1_ n2_; (try clear hb); (try clear hb2); (try clear hk); (try clear hi); (try clear ho0); obtain ⟨Ao35, co35, eo35⟩ := Kd.R_slice HO188.out; subst eo35; have hcz36_0 : w34.cell? ⟨gb184, 0, none⟩ = some (.int .i64 a1_0) := (blk_cell BK184.out 0).trans rfl; have hcz36_1 : w34.cell? ⟨gb184, 1, none⟩ = some (.int .i64 a1_1) := (blk_cell BK184.out 1).trans rfl; have hcz36_2 : w34.cell? ⟨gb184, 2, none⟩ = some (.int .i64 a1_2) := (blk_cell BK184.out 2).trans rfl; have hcz36_3 : w34.cell? ⟨gb184, 3, none⟩ = some (.int .u32 a1_3) := (blk_cell BK184.out 3).trans rfl; have hfz36_0 := blk_frozen BK184.out 0; have hfz36_1 := blk_frozen BK184.out 1; have hfz36_2 := blk_frozen BK184.out 2; have hfz36_3 := blk_frozen BK184.out 3) | (go_at_call 13; (with_reducible refine (roll_Check.calls a1_0 a1_1 a1_2 a1_3 t190 _ A30.out).mono ?_); rintro e w37 ⟨rfl, hb⟩; have n0_ := Aside0.mk (Kd.R_below (by (with_reducible repeat (first | apply Kd.R_alloc | apply Kd.R_drewN | apply Kd.R_drew)); exact HO188.out) hb); have n1_ := Aside0.mk (blk_below (g := gb184) (o := .cells #[.int .i64 a1_0, .int .i64 a1_1, .int .i64 a1_2, .int .u32 a1_3] 24 (0, 0)) (by (with_reducible repeat (first | refine blk_drewN ?_ _ | refine blk_drew ?_ | refine blk_alloc ?_ _)); exact BK184.out) hb); have n2_ := Aside0.mk (below_step (by repeat (first | (with_reducible first | exact HB.out | apply below_alloc | apply pw_below_drewN | apply below_drew1 | refine below_set ?_ GE184.out) | exact HB.out)) hb); clear HO188; clear BK184; clear HB; have HO188 := n0_; have BK184 := n1_; have HB := n2_; clear n0_ n1_ n2_; (try clear hb); (try clear hb2); (try clear hk); (try clear hi)))
          go_ret
          exact ⟨by first | rfl | (simp [errW_none, errW_some] <;> rfl) | (simp [*, errW_none, errW_some] <;> rfl), by repeat (first | (with_reducible first | exact HB.out | apply below_alloc | apply pw_below_drewN | apply below_drew1 | refine below_set ?_ GE184.out) | exact HB.out)⟩
        · rw [if_neg c29] at H
          have c29b0 : ((t186.length : Int) == 0) = false := beq_eq_false_iff_ne.mpr c29
          have c29b1 : ((t186.length : Int) != 0) = true := bne_iff_ne.mpr c29
          have c29b2 : ¬ (t186 = []) := fun h_ => c29 (by rw [h_]; rfl)
          obtain rfl := Option.some.inj H
          go_enter Try.func7, Try.ntmps7
          go_wp2_with (first | ((with_reducible refine gate_dst (N := 3) rfl ?_); (try (refine gate_guard (by rfl) ?_; dsimp only)); refine box_event ?hg (N := 3) ?hd (cs := #[.int .i64 a1_0, .int .i64 a1_1, .int .i64 a1_2, .int .u32 a1_3]) (t := 24) ?hr ?_; (case hd => rfl); (case hg => rfl); (case hr => first | (go_simp; done) | (go_simp; rfl)); intro gb184 hg w38 hbox hb; have n0_ := Aside0.mk (below_step (by repeat (first | (with_reducible first | exact HB.out | apply below_alloc | apply pw_below_drewN | apply below_drew1) | exact HB.out)) hb); have n1_ := Aside0.mk (hbox); have n2_ := Aside0.mk ((by rw [hg]; exact (below_size (by repeat (first | (with_reducible first | exact HB.out | apply below_alloc | apply pw_below_drewN | apply below_drew1) | exact HB.out))) : w.heap.size ≤ gb184)); have n3_ := Aside0.mk ((by rw [hg]; exact (below_size (by repeat (first | (with_reducible first | exact HB.out | apply below_alloc | apply pw_below_drewN | apply below_drew1) | exact HB.out))) : w.heap.size ≤ gb184)); clear HB; have HB := n0_; have BK184 := n1_; have GW184 := n2_; have GE184 := n3_; clear n0_ n1_ n2_ n3_; clear hb hbox hg) | ((with_reducible refine gate_callee (f := 9) rfl ?_); refine goesL_ (some 9) rfl rfl Try.func9 (by kernel_rfl) rfl #[] rfl (by (try simp only [List.map_toArray, List.map_cons, List.map_nil]); first | done | rfl | (simp only [List.length_drop, List.length_take]; rfl)) ?_; (with_reducible refine (hibernaclelaw09_rollAlive.calls k  true _ A3.out).mono ?_); rintro e w39 ⟨rfl, hb⟩; refine ⟨_, rfl, ?_⟩; have n0_ := Aside0.mk (blk_below (g := gb184) (o := .cells #[.int .i64 a1_0, .int .i64 a1_1, .int .i64 a1_2, .int .u32 a1_3] 24 (0, 0)) (by (with_reducible repeat (first | refine blk_drewN ?_ _ | refine blk_drew ?_ | refine blk_alloc ?_ _)); exact BK184.out) hb); have n1_ := Aside0.mk (below_step (by repeat (first | (with_reducible first | exact HB.out | apply below_alloc | apply pw_below_drewN | apply below_drew1 | refine below_set ?_ GE184.out) | exact HB.out)) hb); clear BK184; clear HB; have BK184 := n0_; have HB := n1_; clear n0_ n1_; (try clear hb); (try clear hb2); (try clear hk); (try clear hi); have hcz40_0 : w39.cell? ⟨gb184, 0, none⟩ = some (.int .i64 a1_0) := (blk_cell BK184.out 0).trans rfl; have hcz40_1 : w39.cell? ⟨gb184, 1, none⟩ = some (.int .i64 a1_1) := (blk_cell BK184.out 1).trans rfl; have hcz40_2 : w39.cell? ⟨gb184, 2, none⟩ = some (.int .i64 a1_2) := (blk_cell BK184.out 2).trans rfl; have hcz40_3 : w39.cell? ⟨gb184, 3, none⟩ = some (.int .u32 a1_3) := (blk_cell BK184.out 3).trans rfl; have hfz40_0 := blk_frozen BK184.out 0; have hfz40_1 := blk_frozen BK184.out 1; have hfz40_2 := blk_frozen BK184.out 2; have hfz40_3 := blk_frozen BK184.out 3) | ((with_reducible refine gate_callee (f := 10) rfl ?_); refine goesL_ (some 17) rfl rfl Try.func10 (by kernel_rfl) rfl #[.string a0, .agg #[.int .i64 a1_0, .int .i64 a1_1, .int .i64 a1_2, .int .u32 a1_3]] rfl (by (try simp only [List.map_toArray, List.map_cons, List.map_nil]); first | done | rfl | (simp only [List.length_drop, List.length_take]; rfl)) ?_; (with_reducible refine (roll_Cut.calls k a0 a1_0 a1_1 a1_2 a1_3 t186 t189 _ A8.out).mono ?_); rintro e w41 ⟨v187, rfl, ho0, hb⟩; refine ⟨_, rfl, ?_⟩; have n0_ := Aside0.mk (Kd.R_lower ho0 (below_size (by repeat (first | (with_reducible first | exact HB.out | apply below_alloc | apply pw_below_drewN | apply below_drew1 | refine below_set ?_ GE184.out) | exact HB.out)))); have n1_ := Aside0.mk (blk_below (g := gb184) (o := .cells #[.int .i64 a1_0, .int .i64 a1_1, .int .i64 a1_2, .int .u32 a1_3] 24 (0, 0)) (by (with_reducible repeat (first | refine blk_drewN ?_ _ | refine blk_drew ?_ | refine blk_alloc ?_ _)); exact BK184.out) hb); have n2_ := Aside0.mk (below_step (by repeat (first | (with_reducible first | exact HB.out | apply below_alloc | apply pw_below_drewN | apply below_drew1 | refine below_set ?_ GE184.out) | exact HB.out)) hb); clear BK184; clear HB; have HO188 := n0_; have BK184 := n1_; have HB := n2_; clear n0_ n1_ n2_; (try clear hb); (try clear hb2); (try clear hk); (try clear hi); (try clear ho0); obtain ⟨Ao42, co42, eo42⟩ := Kd.R_slice HO188.out; subst eo42))
          go_ret
          exact ⟨by first | rfl | (simp [errW_none, errW_some] <;> rfl) | (simp [*, errW_none, errW_some] <;> rfl), by repeat (first | (with_reducible first | exact HB.out | apply below_alloc | apply pw_below_drewN | apply below_drew1 | refine below_set ?_ GE184.out) | exact HB.out)⟩
  · replace c4 := Bool.eq_false_iff.mpr c4
    subst c4
    have H1 : (some false) = some r := by rw [if_neg (show ¬ (false = true) by decide)] at H; exact H
    clear H
    have H := H1
    clear H1
    obtain rfl := Option.some.inj H
    go_enter Try.func7, Try.ntmps7
    go_wp2_with (first | ((with_reducible refine gate_dst (N := 3) rfl ?_); (try (refine gate_guard (by rfl) ?_; dsimp only)); refine box_event ?hg (N := 3) ?hd (cs := #[.int .i64 a1_0, .int .i64 a1_1, .int .i64 a1_2, .int .u32 a1_3]) (t := 24) ?hr ?_; (case hd => rfl); (case hg => rfl); (case hr => first | (go_simp; done) | (go_simp; rfl)); intro gb184 hg w43 hbox hb; have n0_ := Aside0.mk (below_step (by repeat (first | (with_reducible first | exact HB.out | apply below_alloc | apply pw_below_drewN | apply below_drew1) | exact HB.out)) hb); have n1_ := Aside0.mk (hbox); have n2_ := Aside0.mk ((by rw [hg]; exact (below_size (by repeat (first | (with_reducible first | exact HB.out | apply below_alloc | apply pw_below_drewN | apply below_drew1) | exact HB.out))) : w.heap.size ≤ gb184)); have n3_ := Aside0.mk ((by rw [hg]; exact (below_size (by repeat (first | (with_reducible first | exact HB.out | apply below_alloc | apply pw_below_drewN | apply below_drew1) | exact HB.out))) : w.heap.size ≤ gb184)); clear HB; have HB := n0_; have BK184 := n1_; have GW184 := n2_; have GE184 := n3_; clear n0_ n1_ n2_ n3_; clear hb hbox hg) | ((with_reducible refine gate_callee (f := 9) rfl ?_); refine goesL_ (some 9) rfl rfl Try.func9 (by kernel_rfl) rfl #[] rfl (by (try simp only [List.map_toArray, List.map_cons, List.map_nil]); first | done | rfl | (simp only [List.length_drop, List.length_take]; rfl)) ?_; (with_reducible refine (hibernaclelaw09_rollAlive.calls k  false _ A3.out).mono ?_); rintro e w44 ⟨rfl, hb⟩; refine ⟨_, rfl, ?_⟩; have n0_ := Aside0.mk (blk_below (g := gb184) (o := .cells #[.int .i64 a1_0, .int .i64 a1_1, .int .i64 a1_2, .int .u32 a1_3] 24 (0, 0)) (by (with_reducible repeat (first | refine blk_drewN ?_ _ | refine blk_drew ?_ | refine blk_alloc ?_ _)); exact BK184.out) hb); have n1_ := Aside0.mk (below_step (by repeat (first | (with_reducible first | exact HB.out | apply below_alloc | apply pw_below_drewN | apply below_drew1 | refine below_set ?_ GE184.out) | exact HB.out)) hb); clear BK184; clear HB; have BK184 := n0_; have HB := n1_; clear n0_ n1_; (try clear hb); (try clear hb2); (try clear hk); (try clear hi)))
    go_ret
    exact ⟨by first | rfl | (simp [errW_none, errW_some] <;> rfl) | (simp [*, errW_none, errW_some] <;> rfl), by repeat (first | (with_reducible first | exact HB.out | apply below_alloc | apply pw_below_drewN | apply below_drew1 | refine below_set ?_ GE184.out) | exact HB.out)⟩

end Go.Proofs.Ytameblpmojfdgaa.A
