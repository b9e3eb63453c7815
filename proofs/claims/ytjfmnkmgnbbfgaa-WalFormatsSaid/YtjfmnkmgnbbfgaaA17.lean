-- Made by drv.py (ours) by way of the kit's print; Lean checks it.
import Derived.Test.YtjfmnkmgnbbfgaaA0
import Derived.Test.YtjfmnkmgnbbfgaaA22
import Derived.Test.YtjfmnkmgnbbfgaaA24
import Derived.Test.YtjfmnkmgnbbfgaaA25
import Derived.Test.YtjfmnkmgnbbfgaaA29
import Derived.Test.YtjfmnkmgnbbfgaaA56
import Derived.Test.YtjfmnkmgnbbfgaaW0
namespace Go.Proofs.Ytjfmnkmgnbbfgaa.A
open Go.RowKit Go.Proofs.YtjfmnkmgnbbfgaaW.PrintWords Go.Proofs.YtjfmnkmgnbbfgaaW.PrintLast Go.Proofs.YtjfmnkmgnbbfgaaW.PrintMore
attribute [local go_sem] max2_int min2_int max_two min_two max_three min_three max_four min_four   -- for this text's walks alone
set_option linter.unusedVariables false
set_option linter.unusedSimpArgs false

/-! ### hibernaclelaw16_WalFormats: function 17 -/
mutual
def hibernaclelaw16_WalFormats.l0 : Nat → List ByteArray → Int → Option (Bool)
  | 0, _, _ => none
  | k + 1, x0, x3 => if x3 < (x0.length : Int) then (if 0 ≤ x3 then (if ((rdOf ByteArray.empty x0 x3).size : Int) > 200 then ((hibernaclelaw16_awake.f).bind fun t656 => (some t656)) else (hibernaclelaw16_WalFormats.l0 k x0 (wrap64 (x3 + 1)))) else (none)) else ((wal_Format.f k x0).bind fun bt657 => ((hibernacleref16_Format.f k x0).bind fun bt666 => (if bt657.2.2.2 = bt666.2.2.2 then ((hibernacleref16_SameDrive.f k bt657.1 bt657.2.1 bt657.2.2.1 bt666.1 bt666.2.1 bt666.2.2.1).bind fun t675 => (hibernaclelaw16_WalFormats.j1 k x0 bt657.2.2.2 (!t675) bt657.1 bt657.2.1 bt657.2.2.1)) else (hibernaclelaw16_WalFormats.j1 k x0 bt657.2.2.2 true bt657.1 bt657.2.1 bt657.2.2.1))))
def hibernaclelaw16_WalFormats.j1 : Nat → List ByteArray → Int → Bool → List ByteArray → List (S27) → Int → Option (Bool)
  | 0, _, _, _, _, _, _ => none
  | k + 1, x0, x5, x43, x666000, x666001, x666002 => if x43 = true then (some false) else (if x5 = 0 then ((wal_Home.f k x666000 x666001 x666002).bind fun t676 => ((hibernacleref16_SameBlocks.f k t676 x0).bind fun t679 => (if t679 = true then ((hibernaclelaw16_awake.f).bind fun t680 => (some t680)) else (some false)))) else ((hibernaclelaw16_awake.f).bind fun t681 => (some t681)))
end
def hibernaclelaw16_WalFormats.f (k : Nat) (l0 : List ByteArray) : Option (Bool) := if (l0.length : Int) > 230 then ((hibernaclelaw16_awake.f).bind fun t654 => (some t654)) else (hibernaclelaw16_WalFormats.l0 k l0 0)
theorem hibernaclelaw16_WalFormats.mono_l : ∀ k, (∀ y0 y1, LeO (hibernaclelaw16_WalFormats.l0 k y0 y1) (hibernaclelaw16_WalFormats.l0 (k + 1) y0 y1)) ∧ (∀ y0 y1 y2 y3 y4 y5, LeO (hibernaclelaw16_WalFormats.j1 k y0 y1 y2 y3 y4 y5) (hibernaclelaw16_WalFormats.j1 (k + 1) y0 y1 y2 y3 y4 y5))
  | 0 => ⟨fun _ _ r h => by simp [hibernaclelaw16_WalFormats.l0] at h, fun _ _ _ _ _ _ r h => by simp [hibernaclelaw16_WalFormats.j1] at h⟩
  | k + 1 => by
    obtain ⟨ih0, ih1⟩ := hibernaclelaw16_WalFormats.mono_l k
    refine ⟨?_, ?_⟩
    · intro y0 y1
      unfold hibernaclelaw16_WalFormats.l0
      repeat' first
      | (with_reducible exact ih0 _ _)
      | (with_reducible exact ih1 _ _ _ _ _ _)
      | (with_reducible exact hibernacleref16_Format.mono _ _)
      | (with_reducible exact hibernacleref16_SameBlocks.mono _ _ _)
      | (with_reducible exact hibernacleref16_SameDrive.mono _ _ _ _ _ _ _)
      | (with_reducible exact wal_Format.mono _ _)
      | (with_reducible exact wal_Home.mono _ _ _ _)
      | (with_reducible exact LeO.refl _)
      | (with_reducible exact LeO.none _)
      | (with_reducible refine LeO.ite ?_ ?_)
      | (with_reducible refine LeO.bind ?_ (fun _ => ?_))
      | exact ih0 _ _
      | exact ih1 _ _ _ _ _ _
      | exact hibernacleref16_Format.mono _ _
      | exact hibernacleref16_SameBlocks.mono _ _ _
      | exact hibernacleref16_SameDrive.mono _ _ _ _ _ _ _
      | exact wal_Format.mono _ _
      | exact wal_Home.mono _ _ _ _
      | exact LeO.none _
      | refine LeO.ite ?_ ?_
      | refine LeO.bind ?_ (fun _ => ?_)
    · intro y0 y1 y2 y3 y4 y5
      unfold hibernaclelaw16_WalFormats.j1
      repeat' first
      | (with_reducible exact ih0 _ _)
      | (with_reducible exact ih1 _ _ _ _ _ _)
      | (with_reducible exact hibernacleref16_Format.mono _ _)
      | (with_reducible exact hibernacleref16_SameBlocks.mono _ _ _)
      | (with_reducible exact hibernacleref16_SameDrive.mono _ _ _ _ _ _ _)
      | (with_reducible exact wal_Format.mono _ _)
      | (with_reducible exact wal_Home.mono _ _ _ _)
      | (with_reducible exact LeO.refl _)
      | (with_reducible exact LeO.none _)
      | (with_reducible refine LeO.ite ?_ ?_)
      | (with_reducible refine LeO.bind ?_ (fun _ => ?_))
      | exact ih0 _ _
      | exact ih1 _ _ _ _ _ _
      | exact hibernacleref16_Format.mono _ _
      | exact hibernacleref16_SameBlocks.mono _ _ _
      | exact hibernacleref16_SameDrive.mono _ _ _ _ _ _ _
      | exact wal_Format.mono _ _
      | exact wal_Home.mono _ _ _ _
      | exact LeO.none _
      | refine LeO.ite ?_ ?_
      | refine LeO.bind ?_ (fun _ => ?_)
theorem hibernaclelaw16_WalFormats.mono : ∀ a0 k, LeO (hibernaclelaw16_WalFormats.f k a0) (hibernaclelaw16_WalFormats.f (k + 1) a0) := by
  intro a0 k
  obtain ⟨ih0, ih1⟩ := hibernaclelaw16_WalFormats.mono_l k
  unfold hibernaclelaw16_WalFormats.f
  repeat' first
      | (with_reducible exact ih0 _ _)
      | (with_reducible exact ih1 _ _ _ _ _ _)
      | (with_reducible exact hibernacleref16_Format.mono _ _)
      | (with_reducible exact hibernacleref16_SameBlocks.mono _ _ _)
      | (with_reducible exact hibernacleref16_SameDrive.mono _ _ _ _ _ _ _)
      | (with_reducible exact wal_Format.mono _ _)
      | (with_reducible exact wal_Home.mono _ _ _ _)
      | (with_reducible exact LeO.refl _)
      | (with_reducible exact LeO.none _)
      | (with_reducible refine LeO.ite ?_ ?_)
      | (with_reducible refine LeO.bind ?_ (fun _ => ?_))
      | exact ih0 _ _
      | exact ih1 _ _ _ _ _ _
      | exact hibernacleref16_Format.mono _ _
      | exact hibernacleref16_SameBlocks.mono _ _ _
      | exact hibernacleref16_SameDrive.mono _ _ _ _ _ _ _
      | exact wal_Format.mono _ _
      | exact wal_Home.mono _ _ _ _
      | exact LeO.none _
      | refine LeO.ite ?_ ?_
      | refine LeO.bind ?_ (fun _ => ?_)
set_option maxHeartbeats 8000000 in
set_option maxRecDepth 100000 in
theorem hibernaclelaw16_WalFormats.calls (k : Nat) (A0 : Option Addr) (c0 : Nat) (l0 : List ByteArray) (r : Bool) (w : World) (hr0 : Kd.C Kd.string w A0 l0.length l0) (hc0 : l0.length ≤ c0) (h : hibernaclelaw16_WalFormats.f k l0 = some r) :
    Calls Try.prog 17 #[.slice A0 l0.length c0] w fun e w' => e = .returned (.bool r) ∧ Below w.heap.size w w' := by
  have hu29 := Try.underlying29
  have HR0 := Aside0.mk hr0
  have HC0 := Aside0.mk hc0
  clear hr0 hc0
  have HB := Aside0.mk (Below.refl w.heap.size w)
  have H : (if (l0.length : Int) > 230 then ((hibernaclelaw16_awake.f).bind fun t654 => (some t654)) else (hibernaclelaw16_WalFormats.l0 k l0 0)) = some r := h
  clear h
  by_cases c2 : (l0.length : Int) > 230
  · rw [if_pos c2] at H
    have c2b0 : decide (230 < (l0.length : Int)) = true := decide_eq_true c2
    have c2b1 : decide (230 < l0.length) = true := decide_eq_true (by omega)
    clear c2
    replace H := Option.bind_eq_some_iff.mp H
    obtain ⟨t654, A30, H⟩ := H
    replace H : (some t654) = some r := H
    have A3 := Aside0.mk A30
    clear A30
    obtain rfl := Option.some.inj H
    go_enter Try.func17, Try.ntmps17
    go_wp2_with (first | ((with_reducible refine gate_callee (f := 21) rfl ?_); refine goesL_ (some 11) rfl rfl Try.func21 (by kernel_rfl) rfl #[] rfl (by (try simp only [List.map_toArray, List.map_cons, List.map_nil]); first | done | rfl | (simp only [List.length_drop, List.length_take]; rfl)) ?_; (with_reducible refine (hibernaclelaw16_awake.calls  t654 _ A3.out).mono ?_); rintro e w4 ⟨rfl, hb⟩; refine ⟨_, rfl, ?_⟩; have n0_ := Aside0.mk (below_step (by repeat (first | (with_reducible first | exact HB.out | apply below_alloc | apply pw_below_drewN | apply below_drew1) | exact HB.out)) hb); clear HB; have HB := n0_; clear n0_; (try clear hb); (try clear hb2); (try clear hk); (try clear hi)))
    go_ret
    exact ⟨by first | rfl | (simp [errW_none, errW_some] <;> rfl) | (simp [*, errW_none, errW_some] <;> rfl), by repeat (first | (with_reducible first | exact HB.out | apply below_alloc | apply pw_below_drewN | apply below_drew1) | exact HB.out)⟩
  · rw [if_neg c2] at H
    have c2b0 : decide (230 < (l0.length : Int)) = false := decide_eq_false c2
    have c2b1 : decide (230 < l0.length) = false := decide_eq_false (by omega)
    clear c2
    have H' := Aside0.mk H
    clear H
    go_enter Try.func17, Try.ntmps17
    go_wp2
    go_loopg [3] k (fun kq v3 w' => ∃ (x3_1 : Int), v3 = .int .i64 x3_1 ∧ Aside0 (hibernaclelaw16_WalFormats.l0 kq l0 x3_1 = some r) ∧ Aside0 (kq ≤ k) ∧ Aside0 (Below w.heap.size w w'))
    case atStart => exact ⟨(0), (by first | rfl | (simp; done) | (simp [*]; done)), H', ⟨Nat.le_refl _⟩, ⟨by repeat (first | (with_reducible first | exact HB.out | apply below_alloc | apply pw_below_drewN | apply below_drew1) | exact HB.out)⟩⟩
    case round =>
      clear H'
      try clear c1
      try clear c2
      try clear c2b0
      try clear c2b1
      try clear p2
      obtain ⟨x3_1, rfl, HA, HK1, HB⟩ := hrel
      cases gk with
      | zero => exact absurd HA.out (by simp [hibernaclelaw16_WalFormats.l0])
      | succ k1 =>
        have H := HA.out
        clear HA
        simp only [hibernaclelaw16_WalFormats.l0] at H
        by_cases c5 : x3_1 < (l0.length : Int)
        · rw [if_pos c5] at H
          have c5b0 : decide (x3_1 < (l0.length : Int)) = true := decide_eq_true c5
          clear c5
          by_cases c6 : 0 ≤ x3_1
          · rw [if_pos c6] at H
            have c6b0 : decide (0 ≤ x3_1) = true := decide_eq_true c6
            clear c6
            by_cases c7 : ((rdOf ByteArray.empty l0 x3_1).size : Int) > 200
            · rw [if_pos c7] at H
              have c7b0 : decide (200 < ((rdOf ByteArray.empty l0 x3_1).size : Int)) = true := decide_eq_true c7
              have c7b1 : decide (200 < (rdOf ByteArray.empty l0 x3_1).size) = true := decide_eq_true (by omega)
              clear c7
              replace H := Option.bind_eq_some_iff.mp H
              obtain ⟨t656, A80, H⟩ := H
              replace H : (some t656) = some r := H
              have A8 := Aside0.mk A80
              clear A80
              obtain rfl := Option.some.inj H
              have p655 : 0 ≤ (x3_1 : Int) := of_decide_eq_true (by first | (with_reducible assumption) | assumption)
              have q655 : x3_1 < (l0.length : Int) := of_decide_eq_true (by first | (with_reducible assumption) | assumption)
              obtain ⟨ad655, e655, hx655_0⟩ := Kd.at_string HR0.out x3_1 p655 q655
              cases e655
              replace hx655_0 := (HB.out.cell (World.block_lt_of_cell? w _ hx655_0)).trans hx655_0
              replace p655 := eq_true p655
              replace q655 := eq_true q655
              go_wp2_with (first | ((with_reducible refine gate_callee (f := 21) rfl ?_); refine goesL_ (some 24) rfl rfl Try.func21 (by kernel_rfl) rfl #[] rfl (by (try simp only [List.map_toArray, List.map_cons, List.map_nil]); first | done | rfl | (simp only [List.length_drop, List.length_take]; rfl)) ?_; (with_reducible refine (hibernaclelaw16_awake.calls  t656 _ A8.out).mono ?_); rintro e w9 ⟨rfl, hb⟩; refine ⟨_, rfl, ?_⟩; have n0_ := Aside0.mk (below_step (by repeat (first | (with_reducible first | exact HB.out | apply below_alloc | apply pw_below_drewN | apply below_drew1) | exact HB.out)) hb); clear HB; have HB := n0_; clear n0_; (try clear hb); (try clear hb2); (try clear hk); (try clear hi)))
              go_ret
              exact ⟨by first | rfl | (simp [errW_none, errW_some] <;> rfl) | (simp [*, errW_none, errW_some] <;> rfl), by repeat (first | (with_reducible first | exact HB.out | apply below_alloc | apply pw_below_drewN | apply below_drew1) | exact HB.out)⟩
            · rw [if_neg c7] at H
              have c7b0 : decide (200 < ((rdOf ByteArray.empty l0 x3_1).size : Int)) = false := decide_eq_false c7
              have c7b1 : decide (200 < (rdOf ByteArray.empty l0 x3_1).size) = false := decide_eq_false (by omega)
              clear c7
              have H' := Aside0.mk H
              clear H
              have p655 : 0 ≤ (x3_1 : Int) := of_decide_eq_true (by first | (with_reducible assumption) | assumption)
              have q655 : x3_1 < (l0.length : Int) := of_decide_eq_true (by first | (with_reducible assumption) | assumption)
              obtain ⟨ad655, e655, hx655_0⟩ := Kd.at_string HR0.out x3_1 p655 q655
              cases e655
              replace hx655_0 := (HB.out.cell (World.block_lt_of_cell? w _ hx655_0)).trans hx655_0
              replace p655 := eq_true p655
              replace q655 := eq_true q655
              go_wp2
              go_roundg k1
              case measure => have := HK1.out; omega
              case rel => exact ⟨(wrap64 (x3_1 + 1)), (by first | rfl | (simp; done) | (simp [*]; done)), H', ⟨by have := HK1.out; omega⟩, ⟨by repeat (first | (with_reducible first | exact HB.out | apply below_alloc | apply pw_below_drewN | apply below_drew1) | exact HB.out)⟩⟩
          · rw [if_neg c6] at H
            exact absurd H (by simp)
        · rw [if_neg c5] at H
          have c5b0 : decide (x3_1 < (l0.length : Int)) = false := decide_eq_false c5
          clear c5
          replace H := Option.bind_eq_some_iff.mp H
          obtain ⟨⟨t657, t660, t663, t664⟩, A100, H⟩ := H
          replace H : ((hibernacleref16_Format.f k1 l0).bind fun bt666 => (if t664 = bt666.2.2.2 then ((hibernacleref16_SameDrive.f k1 t657 t660 t663 bt666.1 bt666.2.1 bt666.2.2.1).bind fun t675 => (hibernaclelaw16_WalFormats.j1 k1 l0 t664 (!t675) t657 t660 t663)) else (hibernaclelaw16_WalFormats.j1 k1 l0 t664 true t657 t660 t663))) = some r := H
          have A10 := Aside0.mk A100
          clear A100
          replace H := Option.bind_eq_some_iff.mp H
          obtain ⟨⟨t666, t669, t672, t673⟩, A110, H⟩ := H
          replace H : (if t664 = t673 then ((hibernacleref16_SameDrive.f k1 t657 t660 t663 t666 t669 t672).bind fun t675 => (hibernaclelaw16_WalFormats.j1 k1 l0 t664 (!t675) t657 t660 t663)) else (hibernaclelaw16_WalFormats.j1 k1 l0 t664 true t657 t660 t663)) = some r := H
          have A11 := Aside0.mk A110
          clear A110
          have HC12 := Aside0.mk H
          clear H
          go_upto_region 10 with (first | ((with_reducible refine gate_callee (f := 22) rfl ?_); refine goesL_ (some 27) rfl rfl Try.func22 (by kernel_rfl) rfl #[.slice A0 l0.length c0] rfl (by (try simp only [List.map_toArray, List.map_cons, List.map_nil]); first | done | rfl | (simp only [List.length_drop, List.length_take]; rfl)) ?_; (with_reducible refine (wal_Format.calls k1 _ _ l0 t657 t660 t663 t664 _ ?side1 ?side2 A10.out).mono ?_); (case side1 => repeat (first | exact (Kd.C_below HR0.out HB.out) | (with_reducible refine Kd.C_alloc ?_ _) | (with_reducible refine Kd.C_drewN ?_ _) | (with_reducible refine Kd.C_drew ?_))); (case side2 => exact HC0.out); rintro e w13 ⟨v658, v661, rfl, ho0, ho1, hb⟩; refine ⟨_, rfl, ?_⟩; have n0_ := Aside0.mk (Kd.R_lower ho0 (below_size (by repeat (first | (with_reducible first | exact HB.out | apply below_alloc | apply pw_below_drewN | apply below_drew1) | exact HB.out)))); have n1_ := Aside0.mk (Kd.R_lower ho1 (below_size (by repeat (first | (with_reducible first | exact HB.out | apply below_alloc | apply pw_below_drewN | apply below_drew1) | exact HB.out)))); have n2_ := Aside0.mk (below_step (by repeat (first | (with_reducible first | exact HB.out | apply below_alloc | apply pw_below_drewN | apply below_drew1) | exact HB.out)) hb); clear HB; have HO659 := n0_; have HO662 := n1_; have HB := n2_; clear n0_ n1_ n2_; (try clear hb); (try clear hb2); (try clear hk); (try clear hi); (try clear ho0); (try clear ho1)) | ((with_reducible refine gate_dst (N := 4) rfl ?_); refine box_event ?hg (N := 4) ?hd (cs := #[.slice none 0 0, .slice none 0 0, .int .i64 0]) (t := 29) ?hr ?_; (case hd => rfl); (case hg => rfl); (case hr => first | (go_simp; done) | (go_simp; rfl)); intro gb665 hg w14 hbox hb; have n0_ := Aside0.mk (Kd.R_below (by (with_reducible repeat (first | apply Kd.R_alloc | apply Kd.R_drewN | apply Kd.R_drew)); exact HO659.out) hb); have n1_ := Aside0.mk (Kd.R_below (by (with_reducible repeat (first | apply Kd.R_alloc | apply Kd.R_drewN | apply Kd.R_drew)); exact HO662.out) hb); have n2_ := Aside0.mk (below_step (by repeat (first | (with_reducible first | exact HB.out | apply below_alloc | apply pw_below_drewN | apply below_drew1) | exact HB.out)) hb); have n3_ := Aside0.mk (hbox); have n4_ := Aside0.mk ((by rw [hg]; exact (below_size (by repeat (first | (with_reducible first | exact HB.out | apply below_alloc | apply pw_below_drewN | apply below_drew1) | exact HB.out))) : w.heap.size ≤ gb665)); have n5_ := Aside0.mk ((by rw [hg]; exact (below_size (by repeat (first | (with_reducible first | exact HB.out | apply below_alloc | apply pw_below_drewN | apply below_drew1) | exact HB.out))) : w.heap.size ≤ gb665)); clear HO659; clear HO662; clear HB; have HO659 := n0_; have HO662 := n1_; have HB := n2_; have BK665 := n3_; have GW665 := n4_; have GE665 := n5_; clear n0_ n1_ n2_ n3_ n4_ n5_; clear hb hbox hg; obtain ⟨Ao15, co15, eo15⟩ := Kd.R_slice HO659.out; subst eo15; have hcz16_0 : w14.cell? ⟨gb665, 0, none⟩ = some (.slice none 0 0) := (blk_cell BK665.out 0).trans rfl; have hcz16_1 : w14.cell? ⟨gb665, 1, none⟩ = some (.slice none 0 0) := (blk_cell BK665.out 1).trans rfl; have hcz16_2 : w14.cell? ⟨gb665, 2, none⟩ = some (.int .i64 0) := (blk_cell BK665.out 2).trans rfl; have hfz16_0 := blk_frozen BK665.out 0; have hfz16_1 := blk_frozen BK665.out 1; have hfz16_2 := blk_frozen BK665.out 2; obtain ⟨Ao17, co17, eo17⟩ := Kd.R_slice HO662.out; subst eo17) | ((with_reducible refine gate_callee (f := 56) rfl ?_); refine goesL_ (some 32) rfl rfl Try.func56 (by kernel_rfl) rfl #[.slice A0 l0.length c0] rfl (by (try simp only [List.map_toArray, List.map_cons, List.map_nil]); first | done | rfl | (simp only [List.length_drop, List.length_take]; rfl)) ?_; (with_reducible refine (hibernacleref16_Format.calls k1 _ _ l0 t666 t669 t672 t673 _ ?side1 ?side2 A11.out).mono ?_); (case side1 => exact Kd.C_below HR0.out (by repeat (first | (with_reducible first | exact HB.out | apply below_alloc | apply pw_below_drewN | apply below_drew1 | refine below_set ?_ GE665.out) | exact HB.out))); (case side2 => exact HC0.out); rintro e w18 ⟨v667, v670, rfl, ho0, ho1, hb⟩; refine ⟨_, rfl, ?_⟩; have n0_ := Aside0.mk (Kd.R_elder' (by (with_reducible repeat (first | apply Kd.R_alloc | apply Kd.R_drewN | apply Kd.R_drew)); exact (Kd.R_mono (Kd.R_far (p := ⟨gb665, 2, none⟩) (Kd.R_far (p := ⟨gb665, 1, none⟩) (Kd.R_far (p := ⟨gb665, 0, none⟩) (Kd.R_types HO659.out BK665.out (by decide)) (fun _ hk => hk.2) (.slice Ao15 t657.length co15)) (fun _ hk => hk.2) (.slice Ao17 t660.length co17)) (fun _ hk => hk.2) (.int .i64 t663)) (fun _ h_ => h_.1))) (Kd.R_base ho0) hb); have n1_ := Aside0.mk (Kd.R_elder' (by (with_reducible repeat (first | apply Kd.R_alloc | apply Kd.R_drewN | apply Kd.R_drew)); exact (Kd.R_mono (Kd.R_far (p := ⟨gb665, 2, none⟩) (Kd.R_far (p := ⟨gb665, 1, none⟩) (Kd.R_far (p := ⟨gb665, 0, none⟩) (Kd.R_types HO662.out BK665.out (by decide)) (fun _ hk => hk.2) (.slice Ao15 t657.length co15)) (fun _ hk => hk.2) (.slice Ao17 t660.length co17)) (fun _ hk => hk.2) (.int .i64 t663)) (fun _ h_ => h_.1))) (Kd.R_base ho1) hb); have n2_ := Aside0.mk (Kd.R_lower (Kd.R_new' ho0 (Kd.R_lt (by (with_reducible repeat (first | apply Kd.R_alloc | apply Kd.R_drewN | apply Kd.R_drew)); exact (Kd.R_mono (Kd.R_far (p := ⟨gb665, 2, none⟩) (Kd.R_far (p := ⟨gb665, 1, none⟩) (Kd.R_far (p := ⟨gb665, 0, none⟩) (Kd.R_types HO659.out BK665.out (by decide)) (fun _ hk => hk.2) (.slice Ao15 t657.length co15)) (fun _ hk => hk.2) (.slice Ao17 t660.length co17)) (fun _ hk => hk.2) (.int .i64 t663)) (fun _ h_ => h_.1))))) (below_size (by repeat (first | (with_reducible first | exact HB.out | apply below_alloc | apply pw_below_drewN | apply below_drew1 | refine below_set ?_ GE665.out) | exact HB.out)))); have n3_ := Aside0.mk (Kd.R_lower (Kd.R_new' ho1 (Kd.R_lt (by (with_reducible repeat (first | apply Kd.R_alloc | apply Kd.R_drewN | apply Kd.R_drew)); exact (Kd.R_mono (Kd.R_far (p := ⟨gb665, 2, none⟩) (Kd.R_far (p := ⟨gb665, 1, none⟩) (Kd.R_far (p := ⟨gb665, 0, none⟩) (Kd.R_types HO662.out BK665.out (by decide)) (fun _ hk => hk.2) (.slice Ao15 t657.length co15)) (fun _ hk => hk.2) (.slice Ao17 t660.length co17)) (fun _ hk => hk.2) (.int .i64 t663)) (fun _ h_ => h_.1))))) (below_size (by repeat (first | (with_reducible first | exact HB.out | apply below_alloc | apply pw_below_drewN | apply below_drew1 | refine below_set ?_ GE665.out) | exact HB.out)))); have n4_ := Aside0.mk (blk_below (g := gb665) (o := .cells #[.slice Ao15 t657.length co15, .slice Ao17 t660.length co17, .int .i64 t663] 29 (0, 0)) (by (with_reducible repeat (first | refine blk_drewN ?_ _ | refine blk_drew ?_ | refine blk_alloc ?_ _)); refine blk_put (cs := #[.slice Ao15 t657.length co15, .slice Ao17 t660.length co17, .int .i64 0]) ?_ 2 _ rfl; (with_reducible repeat (first | refine blk_drewN ?_ _ | refine blk_drew ?_ | refine blk_alloc ?_ _)); refine blk_put (cs := #[.slice Ao15 t657.length co15, .slice none 0 0, .int .i64 0]) ?_ 1 _ rfl; (with_reducible repeat (first | refine blk_drewN ?_ _ | refine blk_drew ?_ | refine blk_alloc ?_ _)); refine blk_put (cs := #[.slice none 0 0, .slice none 0 0, .int .i64 0]) ?_ 0 _ rfl; (with_reducible repeat (first | refine blk_drewN ?_ _ | refine blk_drew ?_ | refine blk_alloc ?_ _)); exact BK665.out) hb); have n5_ := Aside0.mk (below_step (by repeat (first | (with_reducible first | exact HB.out | apply below_alloc | apply pw_below_drewN | apply below_drew1 | refine below_set ?_ GE665.out) | exact HB.out)) hb); clear HO659; clear HO662; clear BK665; clear HB; have HO659 := n0_; have HO662 := n1_; have HO668 := n2_; have HO671 := n3_; have BK665 := n4_; have HB := n5_; clear n0_ n1_ n2_ n3_ n4_ n5_; (try clear hb); (try clear hb2); (try clear hk); (try clear hi); (try clear ho0); (try clear ho1)) | ((with_reducible refine gate_dst (N := 6) rfl ?_); refine box_event ?hg (N := 6) ?hd (cs := #[.slice none 0 0, .slice none 0 0, .int .i64 0]) (t := 29) ?hr ?_; (case hd => rfl); (case hg => rfl); (case hr => first | (go_simp; done) | (go_simp; rfl)); intro gb674 hg w19 hbox hb; have n0_ := Aside0.mk (Kd.R_below (by (with_reducible repeat (first | apply Kd.R_alloc | apply Kd.R_drewN | apply Kd.R_drew)); exact HO659.out) hb); have n1_ := Aside0.mk (Kd.R_below (by (with_reducible repeat (first | apply Kd.R_alloc | apply Kd.R_drewN | apply Kd.R_drew)); exact HO662.out) hb); have n2_ := Aside0.mk (Kd.R_below (by (with_reducible repeat (first | apply Kd.R_alloc | apply Kd.R_drewN | apply Kd.R_drew)); exact HO668.out) hb); have n3_ := Aside0.mk (Kd.R_below (by (with_reducible repeat (first | apply Kd.R_alloc | apply Kd.R_drewN | apply Kd.R_drew)); exact HO671.out) hb); have n4_ := Aside0.mk (blk_below (g := gb665) (o := .cells #[.slice Ao15 t657.length co15, .slice Ao17 t660.length co17, .int .i64 t663] 29 (0, 0)) (by (with_reducible repeat (first | refine blk_drewN ?_ _ | refine blk_drew ?_ | refine blk_alloc ?_ _)); exact BK665.out) hb); have n5_ := Aside0.mk (below_step (by repeat (first | (with_reducible first | exact HB.out | apply below_alloc | apply pw_below_drewN | apply below_drew1 | refine below_set ?_ GE665.out) | exact HB.out)) hb); have n6_ := Aside0.mk (hbox); have n7_ := Aside0.mk ((by rw [hg]; exact (below_size (by repeat (first | (with_reducible first | exact HB.out | apply below_alloc | apply pw_below_drewN | apply below_drew1 | refine below_set ?_ GE665.out) | exact HB.out))) : w.heap.size ≤ gb674)); have n8_ := Aside0.mk ((by rw [hg]; exact (below_size (by repeat (first | (with_reducible first | exact HB.out | apply below_alloc | apply pw_below_drewN | apply below_drew1 | refine below_set ?_ GE665.out) | exact HB.out))) : w.heap.size ≤ gb674)); have n9_ := Aside0.mk ((by rw [hg]; exact Nat.ne_of_lt (blk_lt (g := gb665) (o := .cells #[.slice Ao15 t657.length co15, .slice Ao17 t660.length co17, .int .i64 t663] 29 (0, 0)) (by (with_reducible repeat (first | refine blk_drewN ?_ _ | refine blk_drew ?_ | refine blk_alloc ?_ _)); exact BK665.out)) : gb665 ≠ gb674)); have n10_ := Aside0.mk ((by rw [hg]; exact Nat.ne_of_gt (blk_lt (g := gb665) (o := .cells #[.slice Ao15 t657.length co15, .slice Ao17 t660.length co17, .int .i64 t663] 29 (0, 0)) (by (with_reducible repeat (first | refine blk_drewN ?_ _ | refine blk_drew ?_ | refine blk_alloc ?_ _)); exact BK665.out)) : gb674 ≠ gb665)); clear HO659; clear HO662; clear HO668; clear HO671; clear BK665; clear HB; have HO659 := n0_; have HO662 := n1_; have HO668 := n2_; have HO671 := n3_; have BK665 := n4_; have HB := n5_; have BK674 := n6_; have GW674 := n7_; have GE674 := n8_; have NB665_674 := n9_; have NB674_665 := n10_; clear n0_ n1_ n2_ n3_ n4_ n5_ n6_ n7_ n8_ n9_ n10_; clear hb hbox hg; obtain ⟨Ao20, co20, eo20⟩ := Kd.R_slice HO668.out; subst eo20; have hnb21 := NB674_665.out; have hnc21 := NB665_674.out; have hcz22_0 : w19.cell? ⟨gb674, 0, none⟩ = some (.slice none 0 0) := (blk_cell BK674.out 0).trans rfl; have hcz22_1 : w19.cell? ⟨gb674, 1, none⟩ = some (.slice none 0 0) := (blk_cell BK674.out 1).trans rfl; have hcz22_2 : w19.cell? ⟨gb674, 2, none⟩ = some (.int .i64 0) := (blk_cell BK674.out 2).trans rfl; have hfz22_0 := blk_frozen BK674.out 0; have hfz22_1 := blk_frozen BK674.out 1; have hfz22_2 := blk_frozen BK674.out 2; obtain ⟨Ao23, co23, eo23⟩ := Kd.R_slice HO671.out; subst eo23))
          (try simp only [Act.put, List.setIfInBounds_toArray, List.set_cons_zero, List.set_cons_succ])
          go_cut [43] (fun v43 wc => ∃ (kq : Nat) (x43_11 : Bool), v43 = .bool x43_11 ∧ Aside0 (hibernaclelaw16_WalFormats.j1 kq l0 t664 x43_11 t657 t660 t663 = some r) ∧ Aside0 (kq ≤ k1) ∧ Aside0 (Kd.R Kd.string 9 wc w.heap.size (fun k_ => some k_ ≠ ((.slice Ao20 t666.length co20) : Value).ownBlock) (.slice Ao15 t657.length co15) t657) ∧ Aside0 (Kd.R k27 27 wc w.heap.size (fun k_ => some k_ ≠ ((.slice Ao23 t669.length co23) : Value).ownBlock) (.slice Ao17 t660.length co17) t660) ∧ Aside0 (Kd.R Kd.string 9 wc w.heap.size (fun k_ => some k_ ≠ ((.slice Ao15 t657.length co15) : Value).ownBlock) (.slice Ao20 t666.length co20) t666) ∧ Aside0 (Kd.R k27 27 wc w.heap.size (fun k_ => some k_ ≠ ((.slice Ao17 t660.length co17) : Value).ownBlock) (.slice Ao23 t669.length co23) t669) ∧ Aside0 (wc.heap[gb665]? = some (.cells #[(.slice Ao15 t657.length co15), (.slice Ao17 t660.length co17), .int .i64 t663] 29 (0, 0))) ∧ Aside0 (wc.heap[gb674]? = some (.cells #[(.slice Ao20 t666.length co20), (.slice Ao23 t669.length co23), .int .i64 t672] 29 (0, 0))) ∧ Aside0 (Below w.heap.size w wc))
          case first =>
            have H := HC12.out
            clear HC12
            by_cases c24 : t664 = t673
            · rw [if_pos c24] at H
              have c24b0 : (t664 == t673) = true := beq_iff_eq.mpr c24
              have c24b1 : (t664 != t673) = false := bne_eq_false_iff_eq.mpr c24
              clear c24
              (first | rw [c24b0] | (simp only [i64_w, i32_w]; rw [c24b0]) | skip)
              replace H := Option.bind_eq_some_iff.mp H
              obtain ⟨t675, A250, H⟩ := H
              replace H : (hibernaclelaw16_WalFormats.j1 k1 l0 t664 (!t675) t657 t660 t663) = some r := H
              have A25 := Aside0.mk A250
              clear A250
              have H' := Aside0.mk H
              clear H
              have hnb26 := NB665_674.out
              have hnc26 := NB674_665.out
              have hcz27_0 : w19.cell? ⟨gb665, 0, none⟩ = some (.slice Ao15 t657.length co15) := (blk_cell BK665.out 0).trans rfl
              have hcz27_1 : w19.cell? ⟨gb665, 1, none⟩ = some (.slice Ao17 t660.length co17) := (blk_cell BK665.out 1).trans rfl
              have hcz27_2 : w19.cell? ⟨gb665, 2, none⟩ = some (.int .i64 t663) := (blk_cell BK665.out 2).trans rfl
              have hfz27_0 := blk_frozen BK665.out 0
              have hfz27_1 := blk_frozen BK665.out 1
              have hfz27_2 := blk_frozen BK665.out 2
              have hcz28_0 : w19.cell? ⟨gb674, 0, none⟩ = some (.slice none 0 0) := (blk_cell BK674.out 0).trans rfl
              have hcz28_1 : w19.cell? ⟨gb674, 1, none⟩ = some (.slice none 0 0) := (blk_cell BK674.out 1).trans rfl
              have hcz28_2 : w19.cell? ⟨gb674, 2, none⟩ = some (.int .i64 0) := (blk_cell BK674.out 2).trans rfl
              have hfz28_0 := blk_frozen BK674.out 0
              have hfz28_1 := blk_frozen BK674.out 1
              have hfz28_2 := blk_frozen BK674.out 2
              go_wp2_with (first | (go_at_call 29; (with_reducible refine (hibernacleref16_SameDrive.calls k1 _ _ t657 _ _ t660 t663 _ _ t666 _ _ t669 t672 t675 _ ?side1 ?side2 ?side3 ?side4 ?side5 ?side6 ?side7 ?side8 A25.out).mono ?_); (case side1 => refine (Kd.R_reads' (e := 9) (base := w.heap.size) (ok := fun k_ => (True ∧ some k_ ≠ (.slice Ao20 t666.length co20 : Value).ownBlock)) (n := t657.length) (c := co15) ?_).2.2; exact (by (with_reducible repeat (first | apply Kd.R_alloc | apply Kd.R_drewN | apply Kd.R_drew)); exact (Kd.R_mono (Kd.R_far (p := ⟨gb674, 2, none⟩) (Kd.R_far (p := ⟨gb674, 1, none⟩) (Kd.R_far (p := ⟨gb674, 0, none⟩) (Kd.R_types HO659.out BK674.out (by decide)) (fun _ hk => hk.2) (.slice Ao20 t666.length co20)) (fun _ hk => hk.2) (.slice Ao23 t669.length co23)) (fun _ hk => hk.2) (.int .i64 t672)) (fun _ h_ => h_.1)))); (case side2 => exact (Kd.R_reads' HO659.out).2.1); (case side3 => refine (Kd.R_reads' (e := 27) (base := w.heap.size) (ok := fun k_ => (True ∧ some k_ ≠ (.slice Ao23 t669.length co23 : Value).ownBlock)) (n := t660.length) (c := co17) ?_).2.2; exact (by (with_reducible repeat (first | apply Kd.R_alloc | apply Kd.R_drewN | apply Kd.R_drew)); exact (Kd.R_mono (Kd.R_far (p := ⟨gb674, 2, none⟩) (Kd.R_far (p := ⟨gb674, 1, none⟩) (Kd.R_far (p := ⟨gb674, 0, none⟩) (Kd.R_types HO662.out BK674.out (by decide)) (fun _ hk => hk.2) (.slice Ao20 t666.length co20)) (fun _ hk => hk.2) (.slice Ao23 t669.length co23)) (fun _ hk => hk.2) (.int .i64 t672)) (fun _ h_ => h_.1)))); (case side4 => exact (Kd.R_reads' HO662.out).2.1); (case side5 => refine (Kd.R_reads' (e := 9) (base := w.heap.size) (ok := fun k_ => (True ∧ some k_ ≠ (.slice Ao15 t657.length co15 : Value).ownBlock)) (n := t666.length) (c := co20) ?_).2.2; exact (by (with_reducible repeat (first | apply Kd.R_alloc | apply Kd.R_drewN | apply Kd.R_drew)); exact (Kd.R_mono (Kd.R_far (p := ⟨gb674, 2, none⟩) (Kd.R_far (p := ⟨gb674, 1, none⟩) (Kd.R_far (p := ⟨gb674, 0, none⟩) (Kd.R_types HO668.out BK674.out (by decide)) (fun _ hk => hk.2) (.slice Ao20 t666.length co20)) (fun _ hk => hk.2) (.slice Ao23 t669.length co23)) (fun _ hk => hk.2) (.int .i64 t672)) (fun _ h_ => h_.1)))); (case side6 => exact (Kd.R_reads' HO668.out).2.1); (case side7 => refine (Kd.R_reads' (e := 27) (base := w.heap.size) (ok := fun k_ => (True ∧ some k_ ≠ (.slice Ao17 t660.length co17 : Value).ownBlock)) (n := t669.length) (c := co23) ?_).2.2; exact (by (with_reducible repeat (first | apply Kd.R_alloc | apply Kd.R_drewN | apply Kd.R_drew)); exact (Kd.R_mono (Kd.R_far (p := ⟨gb674, 2, none⟩) (Kd.R_far (p := ⟨gb674, 1, none⟩) (Kd.R_far (p := ⟨gb674, 0, none⟩) (Kd.R_types HO671.out BK674.out (by decide)) (fun _ hk => hk.2) (.slice Ao20 t666.length co20)) (fun _ hk => hk.2) (.slice Ao23 t669.length co23)) (fun _ hk => hk.2) (.int .i64 t672)) (fun _ h_ => h_.1)))); (case side8 => exact (Kd.R_reads' HO671.out).2.1); rintro e w29 ⟨rfl, hb⟩; have n0_ := Aside0.mk (Kd.R_below (by (with_reducible repeat (first | apply Kd.R_alloc | apply Kd.R_drewN | apply Kd.R_drew)); exact (Kd.R_mono (Kd.R_far (p := ⟨gb674, 2, none⟩) (Kd.R_far (p := ⟨gb674, 1, none⟩) (Kd.R_far (p := ⟨gb674, 0, none⟩) (Kd.R_types HO659.out BK674.out (by decide)) (fun _ hk => hk.2) (.slice Ao20 t666.length co20)) (fun _ hk => hk.2) (.slice Ao23 t669.length co23)) (fun _ hk => hk.2) (.int .i64 t672)) (fun _ h_ => h_.1))) hb); have n1_ := Aside0.mk (Kd.R_below (by (with_reducible repeat (first | apply Kd.R_alloc | apply Kd.R_drewN | apply Kd.R_drew)); exact (Kd.R_mono (Kd.R_far (p := ⟨gb674, 2, none⟩) (Kd.R_far (p := ⟨gb674, 1, none⟩) (Kd.R_far (p := ⟨gb674, 0, none⟩) (Kd.R_types HO662.out BK674.out (by decide)) (fun _ hk => hk.2) (.slice Ao20 t666.length co20)) (fun _ hk => hk.2) (.slice Ao23 t669.length co23)) (fun _ hk => hk.2) (.int .i64 t672)) (fun _ h_ => h_.1))) hb); have n2_ := Aside0.mk (Kd.R_below (by (with_reducible repeat (first | apply Kd.R_alloc | apply Kd.R_drewN | apply Kd.R_drew)); exact (Kd.R_mono (Kd.R_far (p := ⟨gb674, 2, none⟩) (Kd.R_far (p := ⟨gb674, 1, none⟩) (Kd.R_far (p := ⟨gb674, 0, none⟩) (Kd.R_types HO668.out BK674.out (by decide)) (fun _ hk => hk.2) (.slice Ao20 t666.length co20)) (fun _ hk => hk.2) (.slice Ao23 t669.length co23)) (fun _ hk => hk.2) (.int .i64 t672)) (fun _ h_ => h_.1))) hb); have n3_ := Aside0.mk (Kd.R_below (by (with_reducible repeat (first | apply Kd.R_alloc | apply Kd.R_drewN | apply Kd.R_drew)); exact (Kd.R_mono (Kd.R_far (p := ⟨gb674, 2, none⟩) (Kd.R_far (p := ⟨gb674, 1, none⟩) (Kd.R_far (p := ⟨gb674, 0, none⟩) (Kd.R_types HO671.out BK674.out (by decide)) (fun _ hk => hk.2) (.slice Ao20 t666.length co20)) (fun _ hk => hk.2) (.slice Ao23 t669.length co23)) (fun _ hk => hk.2) (.int .i64 t672)) (fun _ h_ => h_.1))) hb); have n4_ := Aside0.mk (blk_below (g := gb665) (o := .cells #[.slice Ao15 t657.length co15, .slice Ao17 t660.length co17, .int .i64 t663] 29 (0, 0)) (by (with_reducible repeat (first | refine blk_drewN ?_ _ | refine blk_drew ?_ | refine blk_alloc ?_ _)); refine blk_far ?_ NB665_674.out _; (with_reducible repeat (first | refine blk_drewN ?_ _ | refine blk_drew ?_ | refine blk_alloc ?_ _)); refine blk_far ?_ NB665_674.out _; (with_reducible repeat (first | refine blk_drewN ?_ _ | refine blk_drew ?_ | refine blk_alloc ?_ _)); refine blk_far ?_ NB665_674.out _; (with_reducible repeat (first | refine blk_drewN ?_ _ | refine blk_drew ?_ | refine blk_alloc ?_ _)); exact BK665.out) hb); have n5_ := Aside0.mk (blk_below (g := gb674) (o := .cells #[.slice Ao20 t666.length co20, .slice Ao23 t669.length co23, .int .i64 t672] 29 (0, 0)) (by (with_reducible repeat (first | refine blk_drewN ?_ _ | refine blk_drew ?_ | refine blk_alloc ?_ _)); refine blk_put (cs := #[.slice Ao20 t666.length co20, .slice Ao23 t669.length co23, .int .i64 0]) ?_ 2 _ rfl; (with_reducible repeat (first | refine blk_drewN ?_ _ | refine blk_drew ?_ | refine blk_alloc ?_ _)); refine blk_put (cs := #[.slice Ao20 t666.length co20, .slice none 0 0, .int .i64 0]) ?_ 1 _ rfl; (with_reducible repeat (first | refine blk_drewN ?_ _ | refine blk_drew ?_ | refine blk_alloc ?_ _)); refine blk_put (cs := #[.slice none 0 0, .slice none 0 0, .int .i64 0]) ?_ 0 _ rfl; (with_reducible repeat (first | refine blk_drewN ?_ _ | refine blk_drew ?_ | refine blk_alloc ?_ _)); exact BK674.out) hb); have n6_ := Aside0.mk (below_step (by repeat (first | (with_reducible first | exact HB.out | apply below_alloc | apply pw_below_drewN | apply below_drew1 | refine below_set ?_ GE665.out | refine below_set ?_ GE674.out) | exact HB.out)) hb); clear HO659; clear HO662; clear HO668; clear HO671; clear BK665; clear BK674; clear HB; have HO659 := n0_; have HO662 := n1_; have HO668 := n2_; have HO671 := n3_; have BK665 := n4_; have BK674 := n5_; have HB := n6_; clear n0_ n1_ n2_ n3_ n4_ n5_ n6_; (try clear hb); (try clear hb2); (try clear hk); (try clear hi)))
              go_meet
              case rel => exact ⟨_, (!t675), (by first | rfl | (simp; done) | (simp [*]; done)), H', ⟨by have := HK1.out; first | omega | exact Nat.le_refl _⟩, ⟨by (with_reducible repeat (first | apply Kd.R_alloc | apply Kd.R_drewN | apply Kd.R_drew)); exact Kd.R_mono HO659.out (fun _ hk => hk.2)⟩, ⟨by (with_reducible repeat (first | apply Kd.R_alloc | apply Kd.R_drewN | apply Kd.R_drew)); exact Kd.R_mono HO662.out (fun _ hk => hk.2)⟩, ⟨by (with_reducible repeat (first | apply Kd.R_alloc | apply Kd.R_drewN | apply Kd.R_drew)); exact Kd.R_mono HO668.out (fun _ hk => hk.2)⟩, ⟨by (with_reducible repeat (first | apply Kd.R_alloc | apply Kd.R_drewN | apply Kd.R_drew)); exact Kd.R_mono HO671.out (fun _ hk => hk.2)⟩, ⟨by (with_reducible repeat (first | refine blk_drewN ?_ _ | refine blk_drew ?_ | refine blk_alloc ?_ _)); exact BK665.out⟩, ⟨by (with_reducible repeat (first | refine blk_drewN ?_ _ | refine blk_drew ?_ | refine blk_alloc ?_ _)); exact BK674.out⟩, ⟨by repeat (first | (with_reducible first | exact HB.out | apply below_alloc | apply pw_below_drewN | apply below_drew1 | refine below_set ?_ GE665.out | refine below_set ?_ GE674.out) | exact HB.out)⟩⟩
            · rw [if_neg c24] at H
              have c24b0 : (t664 == t673) = false := beq_eq_false_iff_ne.mpr c24
              have c24b1 : (t664 != t673) = true := bne_iff_ne.mpr c24
              (first | rw [c24b0] | (simp only [i64_w, i32_w]; rw [c24b0]) | skip)
              have H' := Aside0.mk H
              clear H
              go_wp2
              go_meet
              case rel => exact ⟨_, (true), (by first | rfl | (simp; done) | (simp [*]; done)), H', ⟨by have := HK1.out; first | omega | exact Nat.le_refl _⟩, ⟨by (with_reducible repeat (first | apply Kd.R_alloc | apply Kd.R_drewN | apply Kd.R_drew)); exact Kd.R_mono (Kd.R_far (p := ⟨gb674, 2, none⟩) (Kd.R_far (p := ⟨gb674, 1, none⟩) (Kd.R_far (p := ⟨gb674, 0, none⟩) (Kd.R_types HO659.out BK674.out (by decide)) (fun _ hk => hk.2) (.slice Ao20 t666.length co20)) (fun _ hk => hk.2) (.slice Ao23 t669.length co23)) (fun _ hk => hk.2) (.int .i64 t672)) (fun _ hk => hk.1.2)⟩, ⟨by (with_reducible repeat (first | apply Kd.R_alloc | apply Kd.R_drewN | apply Kd.R_drew)); exact Kd.R_mono (Kd.R_far (p := ⟨gb674, 2, none⟩) (Kd.R_far (p := ⟨gb674, 1, none⟩) (Kd.R_far (p := ⟨gb674, 0, none⟩) (Kd.R_types HO662.out BK674.out (by decide)) (fun _ hk => hk.2) (.slice Ao20 t666.length co20)) (fun _ hk => hk.2) (.slice Ao23 t669.length co23)) (fun _ hk => hk.2) (.int .i64 t672)) (fun _ hk => hk.1.2)⟩, ⟨by (with_reducible repeat (first | apply Kd.R_alloc | apply Kd.R_drewN | apply Kd.R_drew)); exact Kd.R_mono (Kd.R_far (p := ⟨gb674, 2, none⟩) (Kd.R_far (p := ⟨gb674, 1, none⟩) (Kd.R_far (p := ⟨gb674, 0, none⟩) (Kd.R_types HO668.out BK674.out (by decide)) (fun _ hk => hk.2) (.slice Ao20 t666.length co20)) (fun _ hk => hk.2) (.slice Ao23 t669.length co23)) (fun _ hk => hk.2) (.int .i64 t672)) (fun _ hk => hk.1.2)⟩, ⟨by (with_reducible repeat (first | apply Kd.R_alloc | apply Kd.R_drewN | apply Kd.R_drew)); exact Kd.R_mono (Kd.R_far (p := ⟨gb674, 2, none⟩) (Kd.R_far (p := ⟨gb674, 1, none⟩) (Kd.R_far (p := ⟨gb674, 0, none⟩) (Kd.R_types HO671.out BK674.out (by decide)) (fun _ hk => hk.2) (.slice Ao20 t666.length co20)) (fun _ hk => hk.2) (.slice Ao23 t669.length co23)) (fun _ hk => hk.2) (.int .i64 t672)) (fun _ hk => hk.1.2)⟩, ⟨by (with_reducible repeat (first | refine blk_drewN ?_ _ | refine blk_drew ?_ | refine blk_alloc ?_ _)); refine blk_far ?_ NB665_674.out _; (with_reducible repeat (first | refine blk_drewN ?_ _ | refine blk_drew ?_ | refine blk_alloc ?_ _)); refine blk_far ?_ NB665_674.out _; (with_reducible repeat (first | refine blk_drewN ?_ _ | refine blk_drew ?_ | refine blk_alloc ?_ _)); refine blk_far ?_ NB665_674.out _; (with_reducible repeat (first | refine blk_drewN ?_ _ | refine blk_drew ?_ | refine blk_alloc ?_ _)); exact BK665.out⟩, ⟨by (with_reducible repeat (first | refine blk_drewN ?_ _ | refine blk_drew ?_ | refine blk_alloc ?_ _)); refine blk_put (cs := #[.slice Ao20 t666.length co20, .slice Ao23 t669.length co23, .int .i64 0]) ?_ 2 _ rfl; (with_reducible repeat (first | refine blk_drewN ?_ _ | refine blk_drew ?_ | refine blk_alloc ?_ _)); refine blk_put (cs := #[.slice Ao20 t666.length co20, .slice none 0 0, .int .i64 0]) ?_ 1 _ rfl; (with_reducible repeat (first | refine blk_drewN ?_ _ | refine blk_drew ?_ | refine blk_alloc ?_ _)); refine blk_put (cs := #[.slice none 0 0, .slice none 0 0, .int .i64 0]) ?_ 0 _ rfl; (with_reducible repeat (first | refine blk_drewN ?_ _ | refine blk_drew ?_ | refine blk_alloc ?_ _)); exact BK674.out⟩, ⟨by repeat (first | (with_reducible first | exact HB.out | apply below_alloc | apply pw_below_drewN | apply below_drew1 | refine below_set ?_ GE665.out | refine below_set ?_ GE674.out) | exact HB.out)⟩⟩
          case rest =>
            clear HC12
            try clear c1
            try clear c2
            try clear c2b0
            try clear c2b1
            try clear p2
            try clear c5
            try clear c5b0
            try clear c6
            try clear c6b0
            try clear p6
            try clear q6
            try clear hx6
            try clear c7
            try clear c7b0
            try clear c7b1
            try clear c17
            try clear c21
            try clear c22
            try clear c24
            try clear c24b0
            try clear c24b1
            try clear c26
            try clear hcz16_0
            try clear hcz16_1
            try clear hcz16_2
            try clear hcz22_0
            try clear hcz22_1
            try clear hcz22_2
            try clear hcz27_0
            try clear hcz27_1
            try clear hcz27_2
            try clear hcz28_0
            try clear hcz28_1
            try clear hcz28_2
            try clear hfz16_0
            try clear hfz16_1
            try clear hfz16_2
            try clear hfz22_0
            try clear hfz22_1
            try clear hfz22_2
            try clear hfz27_0
            try clear hfz27_1
            try clear hfz27_2
            try clear hfz28_0
            try clear hfz28_1
            try clear hfz28_2
            try clear hx655_0
            try clear p2
            try clear p655
            try clear q655
            obtain ⟨kq, x43_11, rfl, HA, HJ11, HO_666000, HO_666001, HO_675000, HO_675001, BK665, BK674, HB⟩ := hcut
            cases kq with
            | zero => exact absurd HA.out (by simp [hibernaclelaw16_WalFormats.j1])
            | succ kj11 =>
              have H := HA.out
              clear HA
              simp only [hibernaclelaw16_WalFormats.j1] at H
              by_cases c30 : x43_11 = true
              · subst c30
                have H1 : (some false) = some r := by rw [if_pos rfl] at H; exact H
                clear H
                have H := H1
                clear H1
                obtain rfl := Option.some.inj H
                go_wp2
                go_ret
                exact ⟨by first | rfl | (simp [errW_none, errW_some] <;> rfl) | (simp [*, errW_none, errW_some] <;> rfl), by repeat (first | (with_reducible first | exact HB.out | apply below_alloc | apply pw_below_drewN | apply below_drew1 | refine below_set ?_ GE665.out | refine below_set ?_ GE674.out) | exact HB.out)⟩
              · replace c30 := Bool.eq_false_iff.mpr c30
                subst c30
                have H1 : (if t664 = 0 then ((wal_Home.f kj11 t657 t660 t663).bind fun t676 => ((hibernacleref16_SameBlocks.f kj11 t676 l0).bind fun t679 => (if t679 = true then ((hibernaclelaw16_awake.f).bind fun t680 => (some t680)) else (some false)))) else ((hibernaclelaw16_awake.f).bind fun t681 => (some t681))) = some r := by rw [if_neg (show ¬ (false = true) by decide)] at H; exact H
                clear H
                have H := H1
                clear H1
                by_cases c31 : t664 = 0
                · rw [if_pos c31] at H
                  have c31b0 : (t664 == 0) = true := beq_iff_eq.mpr c31
                  have c31b1 : (t664 != 0) = false := bne_eq_false_iff_eq.mpr c31
                  clear c31
                  replace H := Option.bind_eq_some_iff.mp H
                  obtain ⟨t676, A320, H⟩ := H
                  replace H : ((hibernacleref16_SameBlocks.f kj11 t676 l0).bind fun t679 => (if t679 = true then ((hibernaclelaw16_awake.f).bind fun t680 => (some t680)) else (some false))) = some r := H
                  have A32 := Aside0.mk A320
                  clear A320
                  replace H := Option.bind_eq_some_iff.mp H
                  obtain ⟨t679, A330, H⟩ := H
                  replace H : (if t679 = true then ((hibernaclelaw16_awake.f).bind fun t680 => (some t680)) else (some false)) = some r := H
                  have A33 := Aside0.mk A330
                  clear A330
                  by_cases c34 : t679 = true
                  · subst c34
                    have H1 : ((hibernaclelaw16_awake.f).bind fun t680 => (some t680)) = some r := by rw [if_pos rfl] at H; exact H
                    clear H
                    have H := H1
                    clear H1
                    replace H := Option.bind_eq_some_iff.mp H
                    obtain ⟨t680, A350, H⟩ := H
                    replace H : (some t680) = some r := H
                    have A35 := Aside0.mk A350
                    clear A350
                    obtain rfl := Option.some.inj H
                    have hnb36 := NB665_674.out
                    have hnc36 := NB674_665.out
                    have hcz37_0 : wc.cell? ⟨gb665, 0, none⟩ = some (.slice Ao15 t657.length co15) := (blk_cell BK665.out 0).trans rfl
                    have hcz37_1 : wc.cell? ⟨gb665, 1, none⟩ = some (.slice Ao17 t660.length co17) := (blk_cell BK665.out 1).trans rfl
                    have hcz37_2 : wc.cell? ⟨gb665, 2, none⟩ = some (.int .i64 t663) := (blk_cell BK665.out 2).trans rfl
                    have hfz37_0 := blk_frozen BK665.out 0
                    have hfz37_1 := blk_frozen BK665.out 1
                    have hfz37_2 := blk_frozen BK665.out 2
                    go_wp2_with (first | (go_at_call 25; (with_reducible refine (wal_Home.calls kj11 _ _ t657 _ _ t660 t663 t676 _ ?side1 ?side2 ?side3 ?side4 A32.out).mono ?_); (case side1 => repeat (first | exact (Kd.R_reads' HO_666000.out).2.2 | (with_reducible refine Kd.C_alloc ?_ _) | (with_reducible refine Kd.C_drewN ?_ _) | (with_reducible refine Kd.C_drew ?_))); (case side2 => exact (Kd.R_reads' HO_666000.out).2.1); (case side3 => repeat (first | exact (Kd.R_reads' HO_666001.out).2.2 | (with_reducible refine Kd.C_alloc ?_ _) | (with_reducible refine Kd.C_drewN ?_ _) | (with_reducible refine Kd.C_drew ?_))); (case side4 => exact (Kd.R_reads' HO_666001.out).2.1); rintro e w38 ⟨v677, rfl, ho0, hb⟩; have n0_ := Aside0.mk (Kd.R_elder' (by (with_reducible repeat (first | apply Kd.R_alloc | apply Kd.R_drewN | apply Kd.R_drew)); exact HO_666000.out) (Kd.R_base ho0) hb); have n1_ := Aside0.mk (Kd.R_below (by (with_reducible repeat (first | apply Kd.R_alloc | apply Kd.R_drewN | apply Kd.R_drew)); exact HO_666001.out) hb); have n2_ := Aside0.mk (Kd.R_elder' (by (with_reducible repeat (first | apply Kd.R_alloc | apply Kd.R_drewN | apply Kd.R_drew)); exact HO_675000.out) (Kd.R_base ho0) hb); have n3_ := Aside0.mk (Kd.R_below (by (with_reducible repeat (first | apply Kd.R_alloc | apply Kd.R_drewN | apply Kd.R_drew)); exact HO_675001.out) hb); have n4_ := Aside0.mk (Kd.R_lower (Kd.R_new' (Kd.R_new' ho0 (Kd.R_lt (by (with_reducible repeat (first | apply Kd.R_alloc | apply Kd.R_drewN | apply Kd.R_drew)); exact HO_666000.out))) (Kd.R_lt (by (with_reducible repeat (first | apply Kd.R_alloc | apply Kd.R_drewN | apply Kd.R_drew)); exact HO_675000.out))) (below_size (by repeat (first | (with_reducible first | exact HB.out | apply below_alloc | apply pw_below_drewN | apply below_drew1 | refine below_set ?_ GE665.out | refine below_set ?_ GE674.out) | exact HB.out)))); have n5_ := Aside0.mk (blk_below (g := gb665) (o := .cells #[.slice Ao15 t657.length co15, .slice Ao17 t660.length co17, .int .i64 t663] 29 (0, 0)) (by (with_reducible repeat (first | refine blk_drewN ?_ _ | refine blk_drew ?_ | refine blk_alloc ?_ _)); exact BK665.out) hb); have n6_ := Aside0.mk (blk_below (g := gb674) (o := .cells #[.slice Ao20 t666.length co20, .slice Ao23 t669.length co23, .int .i64 t672] 29 (0, 0)) (by (with_reducible repeat (first | refine blk_drewN ?_ _ | refine blk_drew ?_ | refine blk_alloc ?_ _)); exact BK674.out) hb); have n7_ := Aside0.mk (below_step (by repeat (first | (with_reducible first | exact HB.out | apply below_alloc | apply pw_below_drewN | apply below_drew1 | refine below_set ?_ GE665.out | refine below_set ?_ GE674.out) | exact HB.out)) hb); clear HO_666000; clear HO_666001; clear HO_675000; clear HO_675001; clear BK665; clear BK674; clear HB; have HO_666000 := n0_; have HO_666001 := n1_; have HO_675000 := n2_; have HO_675001 := n3_; have HO678 := n4_; have BK665 := n5_; have BK674 := n6_; have HB := n7_; clear n0_ n1_ n2_ n3_ n4_ n5_ n6_ n7_; (try clear hb); (try clear hb2); (try clear hk); (try clear hi); (try clear ho0); obtain ⟨Ao39, co39, eo39⟩ := Kd.R_slice HO678.out; subst eo39) | (go_at_call 24; (with_reducible refine (hibernacleref16_SameBlocks.calls kj11 _ _ t676 _ _ l0 true _ ?side1 ?side2 ?side3 ?side4 A33.out).mono ?_); (case side1 => repeat (first | exact (Kd.R_reads' HO678.out).2.2 | (with_reducible refine Kd.C_alloc ?_ _) | (with_reducible refine Kd.C_drewN ?_ _) | (with_reducible refine Kd.C_drew ?_))); (case side2 => exact (Kd.R_reads' HO678.out).2.1); (case side3 => repeat (first | exact (Kd.C_below HR0.out HB.out) | (with_reducible refine Kd.C_alloc ?_ _) | (with_reducible refine Kd.C_drewN ?_ _) | (with_reducible refine Kd.C_drew ?_))); (case side4 => exact HC0.out); rintro e w' ⟨rfl, ⟨nd, rfl⟩⟩) | (go_at_call 21; (with_reducible refine (hibernaclelaw16_awake.calls  t680 _ A35.out).mono ?_); rintro e w40 ⟨rfl, hb⟩; have n0_ := Aside0.mk (Kd.R_below (by (with_reducible repeat (first | apply Kd.R_alloc | apply Kd.R_drewN | apply Kd.R_drew)); exact HO_666000.out) hb); have n1_ := Aside0.mk (Kd.R_below (by (with_reducible repeat (first | apply Kd.R_alloc | apply Kd.R_drewN | apply Kd.R_drew)); exact HO_666001.out) hb); have n2_ := Aside0.mk (Kd.R_below (by (with_reducible repeat (first | apply Kd.R_alloc | apply Kd.R_drewN | apply Kd.R_drew)); exact HO_675000.out) hb); have n3_ := Aside0.mk (Kd.R_below (by (with_reducible repeat (first | apply Kd.R_alloc | apply Kd.R_drewN | apply Kd.R_drew)); exact HO_675001.out) hb); have n4_ := Aside0.mk (Kd.R_below (by (with_reducible repeat (first | apply Kd.R_alloc | apply Kd.R_drewN | apply Kd.R_drew)); exact HO678.out) hb); have n5_ := Aside0.mk (blk_below (g := gb665) (o := .cells #[.slice Ao15 t657.length co15, .slice Ao17 t660.length co17, .int .i64 t663] 29 (0, 0)) (by (with_reducible repeat (first | refine blk_drewN ?_ _ | refine blk_drew ?_ | refine blk_alloc ?_ _)); exact BK665.out) hb); have n6_ := Aside0.mk (blk_below (g := gb674) (o := .cells #[.slice Ao20 t666.length co20, .slice Ao23 t669.length co23, .int .i64 t672] 29 (0, 0)) (by (with_reducible repeat (first | refine blk_drewN ?_ _ | refine blk_drew ?_ | refine blk_alloc ?_ _)); exact BK674.out) hb); have n7_ := Aside0.mk (below_step (by repeat (first | (with_reducible first | exact HB.out | apply below_alloc | apply pw_below_drewN | apply below_drew1 | refine below_set ?_ GE665.out | refine below_set ?_ GE674.out) | exact HB.out)) hb); clear HO_666000; clear HO_666001; clear HO_675000; clear HO_675001; clear HO678; clear BK665; clear BK674; clear HB; have HO_666000 := n0_; have HO_666001 := n1_; have HO_675000 := n2_; have HO_675001 := n3_; have HO678 := n4_; have BK665 := n5_; have BK674 := n6_; have HB := n7_; clear n0_ n1_ n2_ n3_ n4_ n5_ n6_ n7_; (try clear hb); (try clear hb2); (try clear hk); (try clear hi)))
                    go_ret
                    exact ⟨by first | rfl | (simp [errW_none, errW_some] <;> rfl) | (simp [*, errW_none, errW_some] <;> rfl), by repeat (first | (with_reducible first | exact HB.out | apply below_alloc | apply pw_below_drewN | apply below_drew1 | refine below_set ?_ GE665.out | refine below_set ?_ GE674.out) | exact HB.out)⟩
                  · replace c34 := Bool.eq_false_iff.mpr c34
                    subst c34
                    have H1 : (some false) = some r := by rw [if_neg (show ¬ (false = true) by decide)] at H; exact H
                    clear H
                    have H := H1
                    clear H1
                    obtain rfl := Option.some.inj H
                    have hnb41 := NB665_674.out
                    have hnc41 := NB674_665.out
                    have hcz42_0 : wc.cell? ⟨gb665, 0, none⟩ = some (.slice Ao15 t657.length co15) := (blk_cell BK665.out 0).trans rfl
                    have hcz42_1 : wc.cell? ⟨gb665, 1, none⟩ = some (.slice Ao17 t660.length co17) := (blk_cell BK665.out 1).trans rfl
                    have hcz42_2 : wc.cell? ⟨gb665, 2, none⟩ = some (.int .i64 t663) := (blk_cell BK665.out 2).trans rfl
                    have hfz42_0 := blk_frozen BK665.out 0
                    have hfz42_1 := blk_frozen BK665.out 1
                    have hfz42_2 := blk_frozen BK665.out 2
                    go_wp2_with (first | (go_at_call 25; (with_reducible refine (wal_Home.calls kj11 _ _ t657 _ _ t660 t663 t676 _ ?side1 ?side2 ?side3 ?side4 A32.out).mono ?_); (case side1 => repeat (first | exact (Kd.R_reads' HO_666000.out).2.2 | (with_reducible refine Kd.C_alloc ?_ _) | (with_reducible refine Kd.C_drewN ?_ _) | (with_reducible refine Kd.C_drew ?_))); (case side2 => exact (Kd.R_reads' HO_666000.out).2.1); (case side3 => repeat (first | exact (Kd.R_reads' HO_666001.out).2.2 | (with_reducible refine Kd.C_alloc ?_ _) | (with_reducible refine Kd.C_drewN ?_ _) | (with_reducible refine Kd.C_drew ?_))); (case side4 => exact (Kd.R_reads' HO_666001.out).2.1); rintro e w43 ⟨v677, rfl, ho0, hb⟩; have n0_ := Aside0.mk (Kd.R_elder' (by (with_reducible repeat (first | apply Kd.R_alloc | apply Kd.R_drewN | apply Kd.R_drew)); exact HO_666000.out) (Kd.R_base ho0) hb); have n1_ := Aside0.mk (Kd.R_below (by (with_reducible repeat (first | apply Kd.R_alloc | apply Kd.R_drewN | apply Kd.R_drew)); exact HO_666001.out) hb); have n2_ := Aside0.mk (Kd.R_elder' (by (with_reducible repeat (first | apply Kd.R_alloc | apply Kd.R_drewN | apply Kd.R_drew)); exact HO_675000.out) (Kd.R_base ho0) hb); have n3_ := Aside0.mk (Kd.R_below (by (with_reducible repeat (first | apply Kd.R_alloc | apply Kd.R_drewN | apply Kd.R_drew)); exact HO_675001.out) hb); have n4_ := Aside0.mk (Kd.R_lower (Kd.R_new' (Kd.R_new' ho0 (Kd.R_lt (by (with_reducible repeat (first | apply Kd.R_alloc | apply Kd.R_drewN | apply Kd.R_drew)); exact HO_666000.out))) (Kd.R_lt (by (with_reducible repeat (first | apply Kd.R_alloc | apply Kd.R_drewN | apply Kd.R_drew)); exact HO_675000.out))) (below_size (by repeat (first | (with_reducible first | exact HB.out | apply below_alloc | apply pw_below_drewN | apply below_drew1 | refine below_set ?_ GE665.out | refine below_set ?_ GE674.out) | exact HB.out)))); have n5_ := Aside0.mk (blk_below (g := gb665) (o := .cells #[.slice Ao15 t657.length co15, .slice Ao17 t660.length co17, .int .i64 t663] 29 (0, 0)) (by (with_reducible repeat (first | refine blk_drewN ?_ _ | refine blk_drew ?_ | refine blk_alloc ?_ _)); exact BK665.out) hb); have n6_ := Aside0.mk (blk_below (g := gb674) (o := .cells #[.slice Ao20 t666.length co20, .slice Ao23 t669.length co23, .int .i64 t672] 29 (0, 0)) (by (with_reducible repeat (first | refine blk_drewN ?_ _ | refine blk_drew ?_ | refine blk_alloc ?_ _)); exact BK674.out) hb); have n7_ := Aside0.mk (below_step (by repeat (first | (with_reducible first | exact HB.out | apply below_alloc | apply pw_below_drewN | apply below_drew1 | refine below_set ?_ GE665.out | refine below_set ?_ GE674.out) | exact HB.out)) hb); clear HO_666000; clear HO_666001; clear HO_675000; clear HO_675001; clear BK665; clear BK674; clear HB; have HO_666000 := n0_; have HO_666001 := n1_; have HO_675000 := n2_; have HO_675001 := n3_; have HO678 := n4_; have BK665 := n5_; have BK674 := n6_; have HB := n7_; clear n0_ n1_ n2_ n3_ n4_ n5_ n6_ n7_; (try clear hb); (try clear hb2); (try clear hk); (try clear hi); (try clear ho0); obtain ⟨Ao44, co44, eo44⟩ := Kd.R_slice HO678.out; subst eo44) | (go_at_call 24; (with_reducible refine (hibernacleref16_SameBlocks.calls kj11 _ _ t676 _ _ l0 false _ ?side1 ?side2 ?side3 ?side4 A33.out).mono ?_); (case side1 => repeat (first | exact (Kd.R_reads' HO678.out).2.2 | (with_reducible refine Kd.C_alloc ?_ _) | (with_reducible refine Kd.C_drewN ?_ _) | (with_reducible refine Kd.C_drew ?_))); (case side2 => exact (Kd.R_reads' HO678.out).2.1); (case side3 => repeat (first | exact (Kd.C_below HR0.out HB.out) | (with_reducible refine Kd.C_alloc ?_ _) | (with_reducible refine Kd.C_drewN ?_ _) | (with_reducible refine Kd.C_drew ?_))); (case side4 => exact HC0.out); rintro e w' ⟨rfl, ⟨nd, rfl⟩⟩))
                    go_ret
                    exact ⟨by first | rfl | (simp [errW_none, errW_some] <;> rfl) | (simp [*, errW_none, errW_some] <;> rfl), by repeat (first | (with_reducible first | exact HB.out | apply below_alloc | apply pw_below_drewN | apply below_drew1 | refine below_set ?_ GE665.out | refine below_set ?_ GE674.out) | exact HB.out)⟩
                · rw [if_neg c31] at H
                  have c31b0 : (t664 == 0) = false := beq_eq_false_iff_ne.mpr c31
                  have c31b1 : (t664 != 0) = true := bne_iff_ne.mpr c31
                  replace H := Option.bind_eq_some_iff.mp H
                  obtain ⟨t681, A450, H⟩ := H
                  replace H : (some t681) = some r := H
                  have A45 := Aside0.mk A450
                  clear A450
                  obtain rfl := Option.some.inj H
                  go_wp2_with (first | (go_at_call 21; (with_reducible refine (hibernaclelaw16_awake.calls  t681 _ A45.out).mono ?_); rintro e w46 ⟨rfl, hb⟩; have n0_ := Aside0.mk (Kd.R_below (by (with_reducible repeat (first | apply Kd.R_alloc | apply Kd.R_drewN | apply Kd.R_drew)); exact HO_666000.out) hb); have n1_ := Aside0.mk (Kd.R_below (by (with_reducible repeat (first | apply Kd.R_alloc | apply Kd.R_drewN | apply Kd.R_drew)); exact HO_666001.out) hb); have n2_ := Aside0.mk (Kd.R_below (by (with_reducible repeat (first | apply Kd.R_alloc | apply Kd.R_drewN | apply Kd.R_drew)); exact HO_675000.out) hb); have n3_ := Aside0.mk (Kd.R_below (by (with_reducible repeat (first | apply Kd.R_alloc | apply Kd.R_drewN | apply Kd.R_drew)); exact HO_675001.out) hb); have n4_ := Aside0.mk (blk_below (g := gb665) (o := .cells #[.slice Ao15 t657.length co15, .slice Ao17 t660.length co17, .int .i64 t663] 29 (0, 0)) (by (with_reducible repeat (first | refine blk_drewN ?_ _ | refine blk_drew ?_ | refine blk_alloc ?_ _)); exact BK665.out) hb); have n5_ := Aside0.mk (blk_below (g := gb674) (o := .cells #[.slice Ao20 t666.length co20, .slice Ao23 t669.length co23, .int .i64 t672] 29 (0, 0)) (by (with_reducible repeat (first | refine blk_drewN ?_ _ | refine blk_drew ?_ | refine blk_alloc ?_ _)); exact BK674.out) hb); have n6_ := Aside0.mk (below_step (by repeat (first | (with_reducible first | exact HB.out | apply below_alloc | apply pw_below_drewN | apply below_drew1 | refine below_set ?_ GE665.out | refine below_set ?_ GE674.out) | exact HB.out)) hb); clear HO_666000; clear HO_666001; clear HO_675000; clear HO_675001; clear BK665; clear BK674; clear HB; have HO_666000 := n0_; have HO_666001 := n1_; have HO_675000 := n2_; have HO_675001 := n3_; have BK665 := n4_; have BK674 := n5_; have HB := n6_; clear n0_ n1_ n2_ n3_ n4_ n5_ n6_; (try clear hb); (try clear hb2); (try clear hk); (try clear hi)))
                  go_ret
                  exact ⟨by first | rfl | (simp [errW_none, errW_some] <;> rfl) | (simp [*, errW_none, errW_some] <;> rfl), by repeat (first | (with_reducible first | exact HB.out | apply below_alloc | apply pw_below_drewN | apply below_drew1 | refine below_set ?_ GE665.out | refine below_set ?_ GE674.out) | exact HB.out)⟩

end Go.Proofs.Ytjfmnkmgnbbfgaa.A
