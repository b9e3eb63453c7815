-- Made by drv.py (ours) by way of the kit's print; Lean checks it.
import Derived.Test.YtjfmnkmgnbbfgaaA0
namespace Go.Proofs.Ytjfmnkmgnbbfgaa.A
open Go.RowKit Go.Proofs.YtjfmnkmgnbbfgaaW.PrintWords Go.Proofs.YtjfmnkmgnbbfgaaW.PrintLast Go.Proofs.YtjfmnkmgnbbfgaaW.PrintMore
attribute [local go_sem] max2_int min2_int max_two min_two max_three min_three max_four min_four   -- for this text's walks alone
set_option linter.unusedVariables false
set_option linter.unusedSimpArgs false

/-! ### hibernaclelaw15_Great: function 30 -/
mutual
def hibernaclelaw15_Great.j0 : Nat → Bool → List ByteArray → List (S27) → Int → Option (Int)
  | 0, _, _, _, _ => none
  | k + 1, x16, x402000, x402001, x402002 => if x16 = true then (some 1) else (hibernaclelaw15_Great.l0 k x402000 (x402000.length : Int) 0 x402000 x402001 x402002)
def hibernaclelaw15_Great.l0 : Nat → List ByteArray → Int → Int → List ByteArray → List (S27) → Int → Option (Int)
  | 0, _, _, _, _, _, _ => none
  | k + 1, x18, x19, x20, x402000, x402001, x402002 => if x20 < x19 then (if 0 ≤ x20 then (if x20 < (x18.length : Int) then (if ((rdOf ByteArray.empty x18 x20).size : Int) > 1000 then (some 1) else (hibernaclelaw15_Great.l0 k x18 x19 (wrap64 (x20 + 1)) x402000 x402001 x402002)) else (none)) else (none)) else (hibernaclelaw15_Great.l1 k x402001 (x402001.length : Int) 0)
def hibernaclelaw15_Great.l1 : Nat → List (S27) → Int → Int → Option (Int)
  | 0, _, _, _ => none
  | k + 1, x29, x30, x31 => if x31 < x30 then (if 0 ≤ x31 then (if x31 < (x29.length : Int) then (if (((rd_T27 x29 x31).f1).size : Int) > 1000 then (some 1) else (hibernaclelaw15_Great.l1 k x29 x30 (wrap64 (x31 + 1)))) else (none)) else (none)) else (some 0)
end
def hibernaclelaw15_Great.f (k : Nat) (l0_0 : List ByteArray) (l0_1 : List (S27)) (a0_2 : Int) : Option (Int) := if (l0_0.length : Int) > 260 then (hibernaclelaw15_Great.j0 k true l0_0 l0_1 a0_2) else (hibernaclelaw15_Great.j0 k (decide ((l0_1.length : Int) > 60)) l0_0 l0_1 a0_2)
theorem hibernaclelaw15_Great.mono_l : ∀ k, (∀ y0 y1 y2 y3, LeO (hibernaclelaw15_Great.j0 k y0 y1 y2 y3) (hibernaclelaw15_Great.j0 (k + 1) y0 y1 y2 y3)) ∧ (∀ y0 y1 y2 y3 y4 y5, LeO (hibernaclelaw15_Great.l0 k y0 y1 y2 y3 y4 y5) (hibernaclelaw15_Great.l0 (k + 1) y0 y1 y2 y3 y4 y5)) ∧ (∀ y0 y1 y2, LeO (hibernaclelaw15_Great.l1 k y0 y1 y2) (hibernaclelaw15_Great.l1 (k + 1) y0 y1 y2))
  | 0 => ⟨fun _ _ _ _ r h => by simp [hibernaclelaw15_Great.j0] at h, fun _ _ _ _ _ _ r h => by simp [hibernaclelaw15_Great.l0] at h, fun _ _ _ r h => by simp [hibernaclelaw15_Great.l1] at h⟩
  | k + 1 => by
    obtain ⟨ih0, ih1, ih2⟩ := hibernaclelaw15_Great.mono_l k
    refine ⟨?_, ?_, ?_⟩
    · intro y0 y1 y2 y3
      unfold hibernaclelaw15_Great.j0
      repeat' first
      | (with_reducible exact ih0 _ _ _ _)
      | (with_reducible exact ih1 _ _ _ _ _ _)
      | (with_reducible exact ih2 _ _ _)
      | (with_reducible exact LeO.refl _)
      | (with_reducible exact LeO.none _)
      | (with_reducible refine LeO.ite ?_ ?_)
      | (with_reducible refine LeO.bind ?_ (fun _ => ?_))
      | exact ih0 _ _ _ _
      | exact ih1 _ _ _ _ _ _
      | exact ih2 _ _ _
      | exact LeO.none _
      | refine LeO.ite ?_ ?_
      | refine LeO.bind ?_ (fun _ => ?_)
    · intro y0 y1 y2 y3 y4 y5
      unfold hibernaclelaw15_Great.l0
      repeat' first
      | (with_reducible exact ih0 _ _ _ _)
      | (with_reducible exact ih1 _ _ _ _ _ _)
      | (with_reducible exact ih2 _ _ _)
      | (with_reducible exact LeO.refl _)
      | (with_reducible exact LeO.none _)
      | (with_reducible refine LeO.ite ?_ ?_)
      | (with_reducible refine LeO.bind ?_ (fun _ => ?_))
      | exact ih0 _ _ _ _
      | exact ih1 _ _ _ _ _ _
      | exact ih2 _ _ _
      | exact LeO.none _
      | refine LeO.ite ?_ ?_
      | refine LeO.bind ?_ (fun _ => ?_)
    · intro y0 y1 y2
      unfold hibernaclelaw15_Great.l1
      repeat' first
      | (with_reducible exact ih0 _ _ _ _)
      | (with_reducible exact ih1 _ _ _ _ _ _)
      | (with_reducible exact ih2 _ _ _)
      | (with_reducible exact LeO.refl _)
      | (with_reducible exact LeO.none _)
      | (with_reducible refine LeO.ite ?_ ?_)
      | (with_reducible refine LeO.bind ?_ (fun _ => ?_))
      | exact ih0 _ _ _ _
      | exact ih1 _ _ _ _ _ _
      | exact ih2 _ _ _
      | exact LeO.none _
      | refine LeO.ite ?_ ?_
      | refine LeO.bind ?_ (fun _ => ?_)
theorem hibernaclelaw15_Great.mono : ∀ a0 a1 a2 k, LeO (hibernaclelaw15_Great.f k a0 a1 a2) (hibernaclelaw15_Great.f (k + 1) a0 a1 a2) := by
  intro a0 a1 a2 k
  obtain ⟨ih0, ih1, ih2⟩ := hibernaclelaw15_Great.mono_l k
  unfold hibernaclelaw15_Great.f
  repeat' first
      | (with_reducible exact ih0 _ _ _ _)
      | (with_reducible exact ih1 _ _ _ _ _ _)
      | (with_reducible exact ih2 _ _ _)
      | (with_reducible exact LeO.refl _)
      | (with_reducible exact LeO.none _)
      | (with_reducible refine LeO.ite ?_ ?_)
      | (with_reducible refine LeO.bind ?_ (fun _ => ?_))
      | exact ih0 _ _ _ _
      | exact ih1 _ _ _ _ _ _
      | exact ih2 _ _ _
      | exact LeO.none _
      | refine LeO.ite ?_ ?_
      | refine LeO.bind ?_ (fun _ => ?_)
set_option maxHeartbeats 8000000 in
set_option maxRecDepth 100000 in
theorem hibernaclelaw15_Great.calls (k : Nat) (A0_0 : Option Addr) (c0_0 : Nat) (l0_0 : List ByteArray) (A0_1 : Option Addr) (c0_1 : Nat) (l0_1 : List (S27)) (a0_2 : Int) (r : Int) (w : World) (hr0_0 : Kd.C Kd.string w A0_0 l0_0.length l0_0) (hc0_0 : l0_0.length ≤ c0_0) (hr0_1 : Kd.C k27 w A0_1 l0_1.length l0_1) (hc0_1 : l0_1.length ≤ c0_1) (h : hibernaclelaw15_Great.f k l0_0 l0_1 a0_2 = some r) :
    Calls Try.prog 30 #[.agg #[.slice A0_0 l0_0.length c0_0, .slice A0_1 l0_1.length c0_1, .int .i64 a0_2]] w fun e w' => e = .returned (.int .i64 r) ∧ Below w.heap.size w w' := by
  have hu29 := Try.underlying29
  have hu27 := Try.underlying27
  have HR0_0 := Aside0.mk hr0_0
  have HC0_0 := Aside0.mk hc0_0
  clear hr0_0 hc0_0
  have HR0_1 := Aside0.mk hr0_1
  have HC0_1 := Aside0.mk hc0_1
  clear hr0_1 hc0_1
  have HB := Aside0.mk (Below.refl w.heap.size w)
  have H : (if (l0_0.length : Int) > 260 then (hibernaclelaw15_Great.j0 k true l0_0 l0_1 a0_2) else (hibernaclelaw15_Great.j0 k (decide ((l0_1.length : Int) > 60)) l0_0 l0_1 a0_2)) = some r := h
  clear h
  have HC2 := Aside0.mk H
  clear H
  go_enter Try.func30, Try.ntmps30
  go_upto_region 1 with (first | ((with_reducible refine gate_dst (N := 1) rfl ?_); (try (refine gate_guard (by rfl) ?_; dsimp only)); refine box_event ?hg (N := 1) ?hd (cs := #[.slice A0_0 l0_0.length c0_0, .slice A0_1 l0_1.length c0_1, .int .i64 a0_2]) (t := 29) ?hr ?_; (case hd => rfl); (case hg => rfl); (case hr => first | (go_simp; done) | (go_simp; rfl)); intro gb401 hg w3 hbox hb; have n0_ := Aside0.mk (below_step (by repeat (first | (with_reducible first | exact HB.out | apply below_alloc | apply pw_below_drewN | apply below_drew1) | exact HB.out)) hb); have n1_ := Aside0.mk (hbox); have n2_ := Aside0.mk ((by rw [hg]; exact (below_size (by repeat (first | (with_reducible first | exact HB.out | apply below_alloc | apply pw_below_drewN | apply below_drew1) | exact HB.out))) : w.heap.size ≤ gb401)); have n3_ := Aside0.mk ((by rw [hg]; exact (below_size (by repeat (first | (with_reducible first | exact HB.out | apply below_alloc | apply pw_below_drewN | apply below_drew1) | exact HB.out))) : w.heap.size ≤ gb401)); clear HB; have HB := n0_; have BK401 := n1_; have GW401 := n2_; have GE401 := n3_; clear n0_ n1_ n2_ n3_; clear hb hbox hg))
  (try simp only [Act.put, List.setIfInBounds_toArray, List.set_cons_zero, List.set_cons_succ])
  go_cut [16] (fun v16 wc => ∃ (kq : Nat) (x16_1 : Bool), v16 = .bool x16_1 ∧ Aside0 (hibernaclelaw15_Great.j0 kq x16_1 l0_0 l0_1 a0_2 = some r) ∧ Aside0 (kq ≤ k) ∧ Aside0 (wc.heap[gb401]? = some (.cells #[(.slice A0_0 l0_0.length c0_0), (.slice A0_1 l0_1.length c0_1), .int .i64 a0_2] 29 (0, 0))) ∧ Aside0 (Below w.heap.size w wc))
  case first =>
    have H := HC2.out
    clear HC2
    by_cases c4 : (l0_0.length : Int) > 260
    · rw [if_pos c4] at H
      have c4b0 : decide (260 < (l0_0.length : Int)) = true := decide_eq_true c4
      have c4b1 : decide (260 < l0_0.length) = true := decide_eq_true (by omega)
      clear c4
      (first | rw [c4b0] | (simp only [i64_w, i32_w]; rw [c4b0]) | skip)
      have H' := Aside0.mk H
      clear H
      have hcz5_0 : w3.cell? ⟨gb401, 0, none⟩ = some (.slice A0_0 l0_0.length c0_0) := (blk_cell BK401.out 0).trans rfl
      have hcz5_1 : w3.cell? ⟨gb401, 1, none⟩ = some (.slice A0_1 l0_1.length c0_1) := (blk_cell BK401.out 1).trans rfl
      have hcz5_2 : w3.cell? ⟨gb401, 2, none⟩ = some (.int .i64 a0_2) := (blk_cell BK401.out 2).trans rfl
      have hfz5_0 := blk_frozen BK401.out 0
      have hfz5_1 := blk_frozen BK401.out 1
      have hfz5_2 := blk_frozen BK401.out 2
      go_wp2
      go_meet
      case rel => exact ⟨_, (true), (by first | rfl | (simp; done) | (simp [*]; done)), H', ⟨by first | omega | exact Nat.le_refl _⟩, ⟨by (with_reducible repeat (first | refine blk_drewN ?_ _ | refine blk_drew ?_ | refine blk_alloc ?_ _)); exact BK401.out⟩, ⟨by repeat (first | (with_reducible first | exact HB.out | apply below_alloc | apply pw_below_drewN | apply below_drew1 | refine below_set ?_ GE401.out) | exact HB.out)⟩⟩
    · rw [if_neg c4] at H
      have c4b0 : decide (260 < (l0_0.length : Int)) = false := decide_eq_false c4
      have c4b1 : decide (260 < l0_0.length) = false := decide_eq_false (by omega)
      clear c4
      (first | rw [c4b0] | (simp only [i64_w, i32_w]; rw [c4b0]) | skip)
      have H' := Aside0.mk H
      clear H
      have hcz6_0 : w3.cell? ⟨gb401, 0, none⟩ = some (.slice A0_0 l0_0.length c0_0) := (blk_cell BK401.out 0).trans rfl
      have hcz6_1 : w3.cell? ⟨gb401, 1, none⟩ = some (.slice A0_1 l0_1.length c0_1) := (blk_cell BK401.out 1).trans rfl
      have hcz6_2 : w3.cell? ⟨gb401, 2, none⟩ = some (.int .i64 a0_2) := (blk_cell BK401.out 2).trans rfl
      have hfz6_0 := blk_frozen BK401.out 0
      have hfz6_1 := blk_frozen BK401.out 1
      have hfz6_2 := blk_frozen BK401.out 2
      go_wp2
      go_meet
      case rel => exact ⟨_, (decide ((l0_1.length : Int) > 60)), (by first | rfl | (simp; done) | (simp [*]; done)), H', ⟨by first | omega | exact Nat.le_refl _⟩, ⟨by (with_reducible repeat (first | refine blk_drewN ?_ _ | refine blk_drew ?_ | refine blk_alloc ?_ _)); exact BK401.out⟩, ⟨by repeat (first | (with_reducible first | exact HB.out | apply below_alloc | apply pw_below_drewN | apply below_drew1 | refine below_set ?_ GE401.out) | exact HB.out)⟩⟩
  case rest =>
    clear HC2
    try clear p2
    try clear c3
    try clear c4
    try clear c4b0
    try clear c4b1
    try clear hcz5_0
    try clear hcz5_1
    try clear hcz5_2
    try clear hcz6_0
    try clear hcz6_1
    try clear hcz6_2
    try clear hfz5_0
    try clear hfz5_1
    try clear hfz5_2
    try clear hfz6_0
    try clear hfz6_1
    try clear hfz6_2
    obtain ⟨kq, x16_1, rfl, HA, HJ1, BK401, HB⟩ := hcut
    cases kq with
    | zero => exact absurd HA.out (by simp [hibernaclelaw15_Great.j0])
    | succ kj1 =>
      have H := HA.out
      clear HA
      simp only [hibernaclelaw15_Great.j0] at H
      by_cases c7 : x16_1 = true
      · subst c7
        have H1 : (some 1) = some r := by rw [if_pos rfl] at H; exact H
        clear H
        have H := H1
        clear H1
        obtain rfl := Option.some.inj H
        go_wp2
        go_ret
        exact ⟨by first | rfl | (simp [errW_none, errW_some] <;> rfl) | (simp [*, errW_none, errW_some] <;> rfl), by repeat (first | (with_reducible first | exact HB.out | apply below_alloc | apply pw_below_drewN | apply below_drew1 | refine below_set ?_ GE401.out) | exact HB.out)⟩
      · replace c7 := Bool.eq_false_iff.mpr c7
        subst c7
        have H1 : (hibernaclelaw15_Great.l0 kj1 l0_0 (l0_0.length : Int) 0 l0_0 l0_1 a0_2) = some r := by rw [if_neg (show ¬ (false = true) by decide)] at H; exact H
        clear H
        have H := H1
        clear H1
        have H' := Aside0.mk H
        clear H
        have hcz8_0 : wc.cell? ⟨gb401, 0, none⟩ = some (.slice A0_0 l0_0.length c0_0) := (blk_cell BK401.out 0).trans rfl
        have hcz8_1 : wc.cell? ⟨gb401, 1, none⟩ = some (.slice A0_1 l0_1.length c0_1) := (blk_cell BK401.out 1).trans rfl
        have hcz8_2 : wc.cell? ⟨gb401, 2, none⟩ = some (.int .i64 a0_2) := (blk_cell BK401.out 2).trans rfl
        have hfz8_0 := blk_frozen BK401.out 0
        have hfz8_1 := blk_frozen BK401.out 1
        have hfz8_2 := blk_frozen BK401.out 2
        go_wp2
        go_loopg [20] kj1 (fun kq v20 w' => ∃ (x20_2 : Int), v20 = .int .i64 x20_2 ∧ Aside0 (hibernaclelaw15_Great.l0 kq l0_0 (l0_0.length : Int) x20_2 l0_0 l0_1 a0_2 = some r) ∧ Aside0 (kq ≤ kj1) ∧ Aside0 (w'.heap[gb401]? = some (.cells #[(.slice A0_0 l0_0.length c0_0), (.slice A0_1 l0_1.length c0_1), .int .i64 a0_2] 29 (0, 0))) ∧ Aside0 (Below w.heap.size w w'))
        case atStart => exact ⟨(0), (by first | rfl | (simp; done) | (simp [*]; done)), H', ⟨Nat.le_refl _⟩, ⟨by (with_reducible repeat (first | refine blk_drewN ?_ _ | refine blk_drew ?_ | refine blk_alloc ?_ _)); exact BK401.out⟩, ⟨by repeat (first | (with_reducible first | exact HB.out | apply below_alloc | apply pw_below_drewN | apply below_drew1 | refine below_set ?_ GE401.out) | exact HB.out)⟩⟩
        case round =>
          clear H'
          try clear p2
          try clear c3
          try clear c4
          try clear c4b0
          try clear c4b1
          try clear c7
          try clear hcz5_0
          try clear hcz5_1
          try clear hcz5_2
          try clear hcz6_0
          try clear hcz6_1
          try clear hcz6_2
          try clear hcz8_0
          try clear hcz8_1
          try clear hcz8_2
          try clear hfz5_0
          try clear hfz5_1
          try clear hfz5_2
          try clear hfz6_0
          try clear hfz6_1
          try clear hfz6_2
          try clear hfz8_0
          try clear hfz8_1
          try clear hfz8_2
          try clear p2
          obtain ⟨x20_2, rfl, HA, HK2, BK401, HB⟩ := hrel
          cases gk with
          | zero => exact absurd HA.out (by simp [hibernaclelaw15_Great.l0])
          | succ k2 =>
            have H := HA.out
            clear HA
            simp only [hibernaclelaw15_Great.l0] at H
            by_cases c9 : x20_2 < (l0_0.length : Int)
            · rw [if_pos c9] at H
              have c9b0 : decide (x20_2 < (l0_0.length : Int)) = true := decide_eq_true c9
              clear c9
              by_cases c10 : 0 ≤ x20_2
              · rw [if_pos c10] at H
                have c10b0 : decide (0 ≤ x20_2) = true := decide_eq_true c10
                clear c10
                by_cases c11 : x20_2 < (l0_0.length : Int)
                · rw [if_pos c11] at H
                  have c11b0 : decide (x20_2 < (l0_0.length : Int)) = true := decide_eq_true c11
                  clear c11
                  by_cases c12 : ((rdOf ByteArray.empty l0_0 x20_2).size : Int) > 1000
                  · rw [if_pos c12] at H
                    have c12b0 : decide (1000 < ((rdOf ByteArray.empty l0_0 x20_2).size : Int)) = true := decide_eq_true c12
                    have c12b1 : decide (1000 < (rdOf ByteArray.empty l0_0 x20_2).size) = true := decide_eq_true (by omega)
                    clear c12
                    obtain rfl := Option.some.inj H
                    have p402 : 0 ≤ (x20_2 : Int) := of_decide_eq_true (by first | (with_reducible assumption) | assumption)
                    have q402 : x20_2 < (l0_0.length : Int) := of_decide_eq_true (by first | (with_reducible assumption) | assumption)
                    obtain ⟨ad402, e402, hx402_0⟩ := Kd.at_string HR0_0.out x20_2 p402 q402
                    cases e402
                    replace hx402_0 := (HB.out.cell (World.block_lt_of_cell? w _ hx402_0)).trans hx402_0
                    replace p402 := eq_true p402
                    replace q402 := eq_true q402
                    go_wp2
                    go_ret
                    exact ⟨by first | rfl | (simp [errW_none, errW_some] <;> rfl) | (simp [*, errW_none, errW_some] <;> rfl), by repeat (first | (with_reducible first | exact HB.out | apply below_alloc | apply pw_below_drewN | apply below_drew1 | refine below_set ?_ GE401.out) | exact HB.out)⟩
                  · rw [if_neg c12] at H
                    have c12b0 : decide (1000 < ((rdOf ByteArray.empty l0_0 x20_2).size : Int)) = false := decide_eq_false c12
                    have c12b1 : decide (1000 < (rdOf ByteArray.empty l0_0 x20_2).size) = false := decide_eq_false (by omega)
                    clear c12
                    have H' := Aside0.mk H
                    clear H
                    have p402 : 0 ≤ (x20_2 : Int) := of_decide_eq_true (by first | (with_reducible assumption) | assumption)
                    have q402 : x20_2 < (l0_0.length : Int) := of_decide_eq_true (by first | (with_reducible assumption) | assumption)
                    obtain ⟨ad402, e402, hx402_0⟩ := Kd.at_string HR0_0.out x20_2 p402 q402
                    cases e402
                    replace hx402_0 := (HB.out.cell (World.block_lt_of_cell? w _ hx402_0)).trans hx402_0
                    replace p402 := eq_true p402
                    replace q402 := eq_true q402
                    go_wp2
                    go_roundg k2
                    case measure => have := HJ1.out; have := HK2.out; omega
                    case rel => exact ⟨(wrap64 (x20_2 + 1)), (by first | rfl | (simp; done) | (simp [*]; done)), H', ⟨by have := HJ1.out; have := HK2.out; omega⟩, ⟨by (with_reducible repeat (first | refine blk_drewN ?_ _ | refine blk_drew ?_ | refine blk_alloc ?_ _)); exact BK401.out⟩, ⟨by repeat (first | (with_reducible first | exact HB.out | apply below_alloc | apply pw_below_drewN | apply below_drew1 | refine below_set ?_ GE401.out) | exact HB.out)⟩⟩
                · rw [if_neg c11] at H
                  exact absurd H (by simp)
              · rw [if_neg c10] at H
                exact absurd H (by simp)
            · rw [if_neg c9] at H
              have c9b0 : decide (x20_2 < (l0_0.length : Int)) = false := decide_eq_false c9
              clear c9
              have H' := Aside0.mk H
              clear H
              have hcz13_0 : wr.cell? ⟨gb401, 0, none⟩ = some (.slice A0_0 l0_0.length c0_0) := (blk_cell BK401.out 0).trans rfl
              have hcz13_1 : wr.cell? ⟨gb401, 1, none⟩ = some (.slice A0_1 l0_1.length c0_1) := (blk_cell BK401.out 1).trans rfl
              have hcz13_2 : wr.cell? ⟨gb401, 2, none⟩ = some (.int .i64 a0_2) := (blk_cell BK401.out 2).trans rfl
              have hfz13_0 := blk_frozen BK401.out 0
              have hfz13_1 := blk_frozen BK401.out 1
              have hfz13_2 := blk_frozen BK401.out 2
              go_wp2
              go_loopg [31] k2 (fun kq v31 w' => ∃ (x31_3 : Int), v31 = .int .i64 x31_3 ∧ Aside0 (hibernaclelaw15_Great.l1 kq l0_1 (l0_1.length : Int) x31_3 = some r) ∧ Aside0 (kq ≤ k2) ∧ Aside0 (w'.heap[gb401]? = some (.cells #[(.slice A0_0 l0_0.length c0_0), (.slice A0_1 l0_1.length c0_1), .int .i64 a0_2] 29 (0, 0))) ∧ Aside0 (Below w.heap.size w w'))
              case atStart => exact ⟨(0), (by first | rfl | (simp; done) | (simp [*]; done)), H', ⟨Nat.le_refl _⟩, ⟨by (with_reducible repeat (first | refine blk_drewN ?_ _ | refine blk_drew ?_ | refine blk_alloc ?_ _)); exact BK401.out⟩, ⟨by repeat (first | (with_reducible first | exact HB.out | apply below_alloc | apply pw_below_drewN | apply below_drew1 | refine below_set ?_ GE401.out) | exact HB.out)⟩⟩
              case round =>
                clear H'
                try clear c1
                try clear p2
                try clear c3
                try clear c4
                try clear c4b0
                try clear c4b1
                try clear p4
                try clear q4
                try clear hx4
                try clear p6
                try clear c7
                try clear c9
                try clear c9b0
                try clear c10
                try clear c10b0
                try clear c11
                try clear c11b0
                try clear c12
                try clear c12b0
                try clear c12b1
                try clear hcz13_0
                try clear hcz13_1
                try clear hcz13_2
                try clear hcz5_0
                try clear hcz5_1
                try clear hcz5_2
                try clear hcz6_0
                try clear hcz6_1
                try clear hcz6_2
                try clear hcz8_0
                try clear hcz8_1
                try clear hcz8_2
                try clear hfz13_0
                try clear hfz13_1
                try clear hfz13_2
                try clear hfz5_0
                try clear hfz5_1
                try clear hfz5_2
                try clear hfz6_0
                try clear hfz6_1
                try clear hfz6_2
                try clear hfz8_0
                try clear hfz8_1
                try clear hfz8_2
                try clear hx402_0
                try clear p2
                try clear p402
                try clear q402
                obtain ⟨x31_3, rfl, HA, HK3, BK401, HB⟩ := hrel
                cases gk with
                | zero => exact absurd HA.out (by simp [hibernaclelaw15_Great.l1])
                | succ k3 =>
                  have H := HA.out
                  clear HA
                  simp only [hibernaclelaw15_Great.l1] at H
                  by_cases c14 : x31_3 < (l0_1.length : Int)
                  · rw [if_pos c14] at H
                    have c14b0 : decide (x31_3 < (l0_1.length : Int)) = true := decide_eq_true c14
                    clear c14
                    by_cases c15 : 0 ≤ x31_3
                    · rw [if_pos c15] at H
                      have c15b0 : decide (0 ≤ x31_3) = true := decide_eq_true c15
                      clear c15
                      by_cases c16 : x31_3 < (l0_1.length : Int)
                      · rw [if_pos c16] at H
                        have c16b0 : decide (x31_3 < (l0_1.length : Int)) = true := decide_eq_true c16
                        clear c16
                        by_cases c17 : (((rd_T27 l0_1 x31_3).f1).size : Int) > 1000
                        · rw [if_pos c17] at H
                          have c17b0 : decide (1000 < (((rd_T27 l0_1 x31_3).f1).size : Int)) = true := decide_eq_true c17
                          have c17b1 : decide (1000 < ((rd_T27 l0_1 x31_3).f1).size) = true := decide_eq_true (by omega)
                          clear c17
                          obtain rfl := Option.some.inj H
                          have p403 : 0 ≤ (x31_3 : Int) := of_decide_eq_true (by first | (with_reducible assumption) | assumption)
                          have q403 : x31_3 < (l0_1.length : Int) := of_decide_eq_true (by first | (with_reducible assumption) | assumption)
                          obtain ⟨ad403, e403, hx403_0, hx403_1⟩ := at_T27 HR0_1.out x31_3 p403 q403
                          cases e403
                          replace hx403_0 := (HB.out.cell (World.block_lt_of_cell? w _ hx403_0)).trans hx403_0
                          replace hx403_1 := (HB.out.cell (World.block_lt_of_cell? w _ hx403_1)).trans hx403_1
                          replace p403 := eq_true p403
                          replace q403 := eq_true q403
                          go_wp2_with (first | ((with_reducible refine gate_dst (N := 6) rfl ?_); (try (refine gate_guard (by rfl) ?_; dsimp only)); refine box_event ?hg (N := 6) ?hd (cs := #[.int .i64 0, .string (⟨#[]⟩ : ByteArray)]) (t := 27) ?hr ?_; (case hd => rfl); (case hg => rfl); (case hr => first | (go_simp; done) | (go_simp; rfl)); intro gb404 hg w18 hbox hb; have n0_ := Aside0.mk (blk_below (g := gb401) (o := .cells #[.slice A0_0 l0_0.length c0_0, .slice (some ad403) l0_1.length c0_1, .int .i64 a0_2] 29 (0, 0)) (by (with_reducible repeat (first | refine blk_drewN ?_ _ | refine blk_drew ?_ | refine blk_alloc ?_ _)); exact BK401.out) hb); have n1_ := Aside0.mk (below_step (by repeat (first | (with_reducible first | exact HB.out | apply below_alloc | apply pw_below_drewN | apply below_drew1 | refine below_set ?_ GE401.out) | exact HB.out)) hb); have n2_ := Aside0.mk (hbox); have n3_ := Aside0.mk ((by rw [hg]; exact (below_size (by repeat (first | (with_reducible first | exact HB.out | apply below_alloc | apply pw_below_drewN | apply below_drew1 | refine below_set ?_ GE401.out) | exact HB.out))) : w.heap.size ≤ gb404)); have n4_ := Aside0.mk ((by rw [hg]; exact (below_size (by repeat (first | (with_reducible first | exact HB.out | apply below_alloc | apply pw_below_drewN | apply below_drew1 | refine below_set ?_ GE401.out) | exact HB.out))) : w.heap.size ≤ gb404)); have n5_ := Aside0.mk ((by rw [hg]; exact Nat.ne_of_lt (blk_lt (g := gb401) (o := .cells #[.slice A0_0 l0_0.length c0_0, .slice (some ad403) l0_1.length c0_1, .int .i64 a0_2] 29 (0, 0)) (by (with_reducible repeat (first | refine blk_drewN ?_ _ | refine blk_drew ?_ | refine blk_alloc ?_ _)); exact BK401.out)) : gb401 ≠ gb404)); have n6_ := Aside0.mk ((by rw [hg]; exact Nat.ne_of_gt (blk_lt (g := gb401) (o := .cells #[.slice A0_0 l0_0.length c0_0, .slice (some ad403) l0_1.length c0_1, .int .i64 a0_2] 29 (0, 0)) (by (with_reducible repeat (first | refine blk_drewN ?_ _ | refine blk_drew ?_ | refine blk_alloc ?_ _)); exact BK401.out)) : gb404 ≠ gb401)); clear BK401; clear HB; have BK401 := n0_; have HB := n1_; have BK404 := n2_; have GW404 := n3_; have GE404 := n4_; have NB401_404 := n5_; have NB404_401 := n6_; clear n0_ n1_ n2_ n3_ n4_ n5_ n6_; clear hb hbox hg; have hnb19 := NB404_401.out; have hnc19 := NB401_404.out; have hcz20_0 : w18.cell? ⟨gb404, 0, none⟩ = some (.int .i64 0) := (blk_cell BK404.out 0).trans rfl; have hcz20_1 : w18.cell? ⟨gb404, 1, none⟩ = some (.string (⟨#[]⟩ : ByteArray)) := (blk_cell BK404.out 1).trans rfl; have hfz20_0 := blk_frozen BK404.out 0; have hfz20_1 := blk_frozen BK404.out 1))
                          go_ret
                          exact ⟨by first | rfl | (simp [errW_none, errW_some] <;> rfl) | (simp [*, errW_none, errW_some] <;> rfl), by repeat (first | (with_reducible first | exact HB.out | apply below_alloc | apply pw_below_drewN | apply below_drew1 | refine below_set ?_ GE401.out | refine below_set ?_ GE404.out) | exact HB.out)⟩
                        · rw [if_neg c17] at H
                          have c17b0 : decide (1000 < (((rd_T27 l0_1 x31_3).f1).size : Int)) = false := decide_eq_false c17
                          have c17b1 : decide (1000 < ((rd_T27 l0_1 x31_3).f1).size) = false := decide_eq_false (by omega)
                          clear c17
                          have H' := Aside0.mk H
                          clear H
                          have p403 : 0 ≤ (x31_3 : Int) := of_decide_eq_true (by first | (with_reducible assumption) | assumption)
                          have q403 : x31_3 < (l0_1.length : Int) := of_decide_eq_true (by first | (with_reducible assumption) | assumption)
                          obtain ⟨ad403, e403, hx403_0, hx403_1⟩ := at_T27 HR0_1.out x31_3 p403 q403
                          cases e403
                          replace hx403_0 := (HB.out.cell (World.block_lt_of_cell? w _ hx403_0)).trans hx403_0
                          replace hx403_1 := (HB.out.cell (World.block_lt_of_cell? w _ hx403_1)).trans hx403_1
                          replace p403 := eq_true p403
                          replace q403 := eq_true q403
                          go_wp2_with (first | ((with_reducible refine gate_dst (N := 6) rfl ?_); (try (refine gate_guard (by rfl) ?_; dsimp only)); refine box_event ?hg (N := 6) ?hd (cs := #[.int .i64 0, .string (⟨#[]⟩ : ByteArray)]) (t := 27) ?hr ?_; (case hd => rfl); (case hg => rfl); (case hr => first | (go_simp; done) | (go_simp; rfl)); intro gb404 hg w21 hbox hb; have n0_ := Aside0.mk (blk_below (g := gb401) (o := .cells #[.slice A0_0 l0_0.length c0_0, .slice (some ad403) l0_1.length c0_1, .int .i64 a0_2] 29 (0, 0)) (by (with_reducible repeat (first | refine blk_drewN ?_ _ | refine blk_drew ?_ | refine blk_alloc ?_ _)); exact BK401.out) hb); have n1_ := Aside0.mk (below_step (by repeat (first | (with_reducible first | exact HB.out | apply below_alloc | apply pw_below_drewN | apply below_drew1 | refine below_set ?_ GE401.out) | exact HB.out)) hb); have n2_ := Aside0.mk (hbox); have n3_ := Aside0.mk ((by rw [hg]; exact (below_size (by repeat (first | (with_reducible first | exact HB.out | apply below_alloc | apply pw_below_drewN | apply below_drew1 | refine below_set ?_ GE401.out) | exact HB.out))) : w.heap.size ≤ gb404)); have n4_ := Aside0.mk ((by rw [hg]; exact (below_size (by repeat (first | (with_reducible first | exact HB.out | apply below_alloc | apply pw_below_drewN | apply below_drew1 | refine below_set ?_ GE401.out) | exact HB.out))) : w.heap.size ≤ gb404)); have n5_ := Aside0.mk ((by rw [hg]; exact Nat.ne_of_lt (blk_lt (g := gb401) (o := .cells #[.slice A0_0 l0_0.length c0_0, .slice (some ad403) l0_1.length c0_1, .int .i64 a0_2] 29 (0, 0)) (by (with_reducible repeat (first | refine blk_drewN ?_ _ | refine blk_drew ?_ | refine blk_alloc ?_ _)); exact BK401.out)) : gb401 ≠ gb404)); have n6_ := Aside0.mk ((by rw [hg]; exact Nat.ne_of_gt (blk_lt (g := gb401) (o := .cells #[.slice A0_0 l0_0.length c0_0, .slice (some ad403) l0_1.length c0_1, .int .i64 a0_2] 29 (0, 0)) (by (with_reducible repeat (first | refine blk_drewN ?_ _ | refine blk_drew ?_ | refine blk_alloc ?_ _)); exact BK401.out)) : gb404 ≠ gb401)); clear BK401; clear HB; have BK401 := n0_; have HB := n1_; have BK404 := n2_; have GW404 := n3_; have GE404 := n4_; have NB401_404 := n5_; have NB404_401 := n6_; clear n0_ n1_ n2_ n3_ n4_ n5_ n6_; clear hb hbox hg; have hnb22 := NB404_401.out; have hnc22 := NB401_404.out; have hcz23_0 : w21.cell? ⟨gb404, 0, none⟩ = some (.int .i64 0) := (blk_cell BK404.out 0).trans rfl; have hcz23_1 : w21.cell? ⟨gb404, 1, none⟩ = some (.string (⟨#[]⟩ : ByteArray)) := (blk_cell BK404.out 1).trans rfl; have hfz23_0 := blk_frozen BK404.out 0; have hfz23_1 := blk_frozen BK404.out 1))
                          go_roundg k3
                          case measure => have := HJ1.out; have := HK2.out; have := HK3.out; omega
                          case rel => exact ⟨(wrap64 (x31_3 + 1)), (by first | rfl | (simp; done) | (simp [*]; done)), H', ⟨by have := HJ1.out; have := HK2.out; have := HK3.out; omega⟩, ⟨by (with_reducible repeat (first | refine blk_drewN ?_ _ | refine blk_drew ?_ | refine blk_alloc ?_ _)); refine blk_far ?_ NB401_404.out _; (with_reducible repeat (first | refine blk_drewN ?_ _ | refine blk_drew ?_ | refine blk_alloc ?_ _)); refine blk_far ?_ NB401_404.out _; (with_reducible repeat (first | refine blk_drewN ?_ _ | refine blk_drew ?_ | refine blk_alloc ?_ _)); exact BK401.out⟩, ⟨by repeat (first | (with_reducible first | exact HB.out | apply below_alloc | apply pw_below_drewN | apply below_drew1 | refine below_set ?_ GE401.out | refine below_set ?_ GE404.out) | exact HB.out)⟩⟩
                      · rw [if_neg c16] at H
                        exact absurd H (by simp)
                    · rw [if_neg c15] at H
                      exact absurd H (by simp)
                  · rw [if_neg c14] at H
                    have c14b0 : decide (x31_3 < (l0_1.length : Int)) = false := decide_eq_false c14
                    clear c14
                    obtain rfl := Option.some.inj H
                    go_wp2
                    go_ret
                    exact ⟨by first | rfl | (simp [errW_none, errW_some] <;> rfl) | (simp [*, errW_none, errW_some] <;> rfl), by repeat (first | (with_reducible first | exact HB.out | apply below_alloc | apply pw_below_drewN | apply below_drew1 | refine below_set ?_ GE401.out) | exact HB.out)⟩

end Go.Proofs.Ytjfmnkmgnbbfgaa.A
