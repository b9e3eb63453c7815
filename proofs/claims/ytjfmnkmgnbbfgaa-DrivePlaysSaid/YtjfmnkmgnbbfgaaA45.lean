-- Made by drv.py (ours) by way of the kit's print; Lean checks it.
import Derived.Test.YtjfmnkmgnbbfgaaA0
namespace Go.Proofs.Ytjfmnkmgnbbfgaa.A
open Go.RowKit Go.Proofs.YtjfmnkmgnbbfgaaW.PrintWords Go.Proofs.YtjfmnkmgnbbfgaaW.PrintLast Go.Proofs.YtjfmnkmgnbbfgaaW.PrintMore
attribute [local go_sem] max2_int min2_int max_two min_two max_three min_three max_four min_four   -- for this text's walks alone
set_option linter.unusedVariables false
set_option linter.unusedSimpArgs false

/-! ### hibernaclelaw15_ones: function 45 -/
def hibernaclelaw15_ones.l0 : Nat → List Int → Int → Int → Option (ByteArray)
  | 0, _, _, _ => none
  | k + 1, x1, x5, x6 => if x6 < x5 then (if 0 ≤ x6 then (if x6 < (x1.length : Int) then (hibernaclelaw15_ones.l0 k (x1.set (x6 : Int).toNat 1) x5 (wrap64 (x6 + 1))) else (none)) else (none)) else (some (strOfNums x1))
def hibernaclelaw15_ones.f (k : Nat)  : Option (ByteArray) := if 128 ≤ 281474976710656 then ((some (List.replicate 128 0 : List Int)).bind fun y425 => (hibernaclelaw15_ones.l0 k y425 (y425.length : Int) 0)) else (none)
theorem hibernaclelaw15_ones.mono_l : ∀ k, (∀ y0 y1 y2, LeO (hibernaclelaw15_ones.l0 k y0 y1 y2) (hibernaclelaw15_ones.l0 (k + 1) y0 y1 y2))
  | 0 => fun _ _ _ r h => by simp [hibernaclelaw15_ones.l0] at h
  | k + 1 => by
    have ih0 := hibernaclelaw15_ones.mono_l k
    · intro y0 y1 y2
      unfold hibernaclelaw15_ones.l0
      repeat' first
      | (with_reducible exact ih0 _ _ _)
      | (with_reducible exact LeO.refl _)
      | (with_reducible exact LeO.none _)
      | (with_reducible refine LeO.ite ?_ ?_)
      | (with_reducible refine LeO.bind ?_ (fun _ => ?_))
      | exact ih0 _ _ _
      | exact LeO.none _
      | refine LeO.ite ?_ ?_
      | refine LeO.bind ?_ (fun _ => ?_)
theorem hibernaclelaw15_ones.mono : ∀ k, LeO (hibernaclelaw15_ones.f k ) (hibernaclelaw15_ones.f (k + 1) ) := by
  intro  k
  have ih0 := hibernaclelaw15_ones.mono_l k
  unfold hibernaclelaw15_ones.f
  repeat' first
      | (with_reducible exact ih0 _ _ _)
      | (with_reducible exact LeO.refl _)
      | (with_reducible exact LeO.none _)
      | (with_reducible refine LeO.ite ?_ ?_)
      | (with_reducible refine LeO.bind ?_ (fun _ => ?_))
      | exact ih0 _ _ _
      | exact LeO.none _
      | refine LeO.ite ?_ ?_
      | refine LeO.bind ?_ (fun _ => ?_)
set_option maxHeartbeats 8000000 in
set_option maxRecDepth 100000 in
theorem hibernaclelaw15_ones.calls (k : Nat)  (r : ByteArray) (w : World) (h : hibernaclelaw15_ones.f k  = some r) :
    Calls Try.prog 45 #[] w fun e w' => e = .returned (.string r) ∧ Below w.heap.size w w' := by
  have HB := Aside0.mk (Below.refl w.heap.size w)
  have H : (if 128 ≤ 281474976710656 then ((some (List.replicate 128 0 : List Int)).bind fun y425 => (hibernaclelaw15_ones.l0 k y425 (y425.length : Int) 0)) else (none)) = some r := h
  clear h
  by_cases c1 : 128 ≤ 281474976710656
  · rw [if_pos c1] at H
    have c1b0 := eq_true c1
    have c1b1 : decide (128 ≤ 281474976710656) = true := decide_eq_true c1
    clear c1
    obtain ⟨y425, hy425⟩ : ∃ y_ : List Int, y_ = (List.replicate 128 0) := ⟨_, rfl⟩
    replace H : (hibernaclelaw15_ones.l0 k y425 (y425.length : Int) 0) = some r := by first | (rw [hy425]; with_reducible exact H) | (have H2_ := (Option.bind_some _ _).symm.trans H; rw [hy425]; with_reducible exact H2_) | (have H2_ := (Option.bind_some _ _).symm.trans H; with_reducible exact H2_) | with_reducible exact H | (rw [hy425]; exact H) | exact H
    have Ny425 := Aside0.mk hy425
    clear hy425
    have H' := Aside0.mk H
    clear H
    go_enter Try.func45, Try.ntmps45
    go_wp2_with (first | ((with_reducible refine gate_dst (N := 3) rfl ?_); refine Kd.R_make (Kd.int .u8) _ 5 rfl (N := 3) rfl 77 _ _ rfl 128 rfl rfl Try.underlying77 (.int .u8 0) 1 info5 rfl (by decide) (by omega) 0 (ok := fun _ => True) (okp := fun _ => True) rfl (fun _ hk => hk) trivial (by omega) (by omega) (Below.refl _ _) (Nat.le_refl _) ?_; intro v426 w2 ho3 hb hg_ hnew_; clear hg_ hnew_; (first | rw [← Ny425.out] at ho3 | (simp only [Int.reduceToNat] at ho3; rw [← Ny425.out] at ho3)); have n0_ := Aside0.mk (Kd.R_lower ho3 (below_size (by repeat (first | (with_reducible first | exact HB.out | apply below_alloc | apply pw_below_drewN | apply below_drew1) | exact HB.out)))); have n1_ := Aside0.mk (below_step (by repeat (first | (with_reducible first | exact HB.out | apply below_alloc | apply pw_below_drewN | apply below_drew1) | exact HB.out)) hb); clear HB; have HO427 := n0_; have HB := n1_; clear n0_ n1_; clear hb ho3; obtain ⟨Ao4, co4, eo4⟩ := Kd.R_slice HO427.out; subst eo4))
    go_loopg [6] k (fun kq v6 w' => ∃ (x1_1 : List Int) (x6_1 : Int), v6 = .int .i64 x6_1 ∧ Aside0 (hibernaclelaw15_ones.l0 kq x1_1 (y425.length : Int) x6_1 = some r) ∧ Aside0 (kq ≤ k) ∧ Aside0 (Kd.R (Kd.int .u8) 5 w' w.heap.size (fun _ => True) (.slice Ao4 y425.length co4) x1_1) ∧ Aside0 (Below w.heap.size w w'))
    case atStart => exact ⟨(y425), (0), (by first | rfl | (simp; done) | (simp [*]; done)), H', ⟨Nat.le_refl _⟩, ⟨by (with_reducible repeat (first | apply Kd.R_alloc | apply Kd.R_drewN | apply Kd.R_drew)); exact HO427.out⟩, ⟨by repeat (first | (with_reducible first | exact HB.out | apply below_alloc | apply pw_below_drewN | apply below_drew1) | exact HB.out)⟩⟩
    case round =>
      clear H'
      try clear c1
      try clear c1b0
      try clear c1b1
      try clear p2
      try clear c4
      obtain ⟨x1_1, x6_1, rfl, HA, HK1, HO_1, HB⟩ := hrel
      have hl1_1 := (Kd.R_reads' HO_1.out).1
      rw [hl1_1] at HO_1
      (try simp only [hl1_1])
      cases gk with
      | zero => exact absurd HA.out (by simp [hibernaclelaw15_ones.l0])
      | succ k1 =>
        have H := HA.out
        clear HA
        simp only [hibernaclelaw15_ones.l0] at H
        by_cases c5 : x6_1 < (y425.length : Int)
        · rw [if_pos c5] at H
          have c5b0 : decide (x6_1 < (y425.length : Int)) = true := decide_eq_true c5
          clear c5
          by_cases c6 : 0 ≤ x6_1
          · rw [if_pos c6] at H
            have c6b0 : decide (0 ≤ x6_1) = true := decide_eq_true c6
            clear c6
            by_cases c7 : x6_1 < (x1_1.length : Int)
            · rw [if_pos c7] at H
              have c7b0 : decide (x6_1 < (x1_1.length : Int)) = true := decide_eq_true c7
              clear c7
              obtain ⟨y428, hy428⟩ : ∃ y_ : List Int, y_ = (x1_1.set (x6_1 : Int).toNat 1) := ⟨_, rfl⟩
              replace H : (hibernaclelaw15_ones.l0 k1 y428 (y425.length : Int) (wrap64 (x6_1 + 1))) = some r := by first | (rw [hy428]; with_reducible exact H) | (have H2_ := (Option.bind_some _ _).symm.trans H; rw [hy428]; with_reducible exact H2_) | (have H2_ := (Option.bind_some _ _).symm.trans H; with_reducible exact H2_) | with_reducible exact H | (rw [hy428]; exact H) | exact H
              have Ny428 := Aside0.mk hy428
              clear hy428
              have H' := Aside0.mk H
              clear H
              have p8 : 0 ≤ (x6_1 : Int) := of_decide_eq_true (by first | (with_reducible assumption) | assumption)
              have q8 : (x6_1 : Int) < ((x1_1.length : Int) : Int) := of_decide_eq_true (by first | (with_reducible assumption) | assumption)
              obtain ⟨go8, co8, eo8, gb8, gl8, cl8, HG8⟩ := Kd.R_form HO_1.out (by omega)
              (first | cases eo8 | (injection eo8 with ea_ en_ ec_; (first | subst ea_ | (injection ea_ with ea_; subst ea_)); subst ec_; clear en_))
              have GB8 := Aside0.mk gb8
              have GG8 := Aside0.mk HG8
              clear gb8 gl8 HG8
              obtain ⟨hx8_0, hf8_0⟩ := Kd.R_celln 0 HO_1.out (x6_1 : Int) p8 q8
              replace p8 := eq_true p8
              replace q8 := eq_true q8
              have HP9 := Kd.R_putg HO_1.out (x6_1 : Int) 1
              go_wp2_with (first | ((with_reducible refine gate_store (t := 5) (p := 11) rfl ?_); refine store_event (t := 5) (p := 11) (v := ?vo_w10) (w1 := (wr.setCell ⟨go8, (x6_1 : Int).toNat, none⟩ (.int .u8 1))) ?hg ?ho ?hn ?hr ?_; (case ho => rfl); (case hg => rfl); (case hn => rfl); (case hr => first | (go_simp; done) | (go_simp; rfl)); intro w10 hw; have hg : wr.grownBy w10 (some go8) := (by rw [hw]; exact HP9.2); have hp_ : Kd.R (Kd.int .u8) 5 w10 w.heap.size (fun _ => True) (.slice (some ⟨go8, 0, none⟩) x1_1.length co4) y428 := (by rw [hw, Ny428.out]; exact HP9.1); clear HP9; have n0_ := Aside0.mk (hp_); have n1_ := Aside0.mk ((by rw [hw]; exact below_set (HB.out) GB8.out : Below w.heap.size w w10)); clear HO_1; clear HB; have HO_1 := n0_; have HB := n1_; clear n0_ n1_; clear hg hw hp_))
              (try simp only [← hl1_1])
              go_roundg k1
              case measure => have := HK1.out; omega
              case rel => exact ⟨(y428), (wrap64 (x6_1 + 1)), (by first | rfl | (simp; done) | (simp [*]; done)), H', ⟨by have := HK1.out; omega⟩, ⟨by (try simp only [hl1_1]); (with_reducible repeat (first | apply Kd.R_alloc | apply Kd.R_drewN | apply Kd.R_drew)); exact HO_1.out⟩, ⟨by repeat (first | (with_reducible first | exact HB.out | apply below_alloc | apply pw_below_drewN | apply below_drew1) | exact HB.out)⟩⟩
            · rw [if_neg c7] at H
              exact absurd H (by simp)
          · rw [if_neg c6] at H
            exact absurd H (by simp)
        · rw [if_neg c5] at H
          have c5b0 : decide (x6_1 < (y425.length : Int)) = false := decide_eq_false c5
          try rw [hl1_1] at c5b0
          clear c5
          obtain rfl := Option.some.inj H
          have hcv11 := own_string (P := Try.prog) Try.underlying77 Try.underlying5 Try.underlying9 (Kd.own_of_R HO_1.out)
          go_wp2
          go_ret
          exact ⟨by first | rfl | (simp [errW_none, errW_some] <;> rfl) | (simp [*, errW_none, errW_some] <;> rfl), by repeat (first | (with_reducible first | exact HB.out | apply below_alloc | apply pw_below_drewN | apply below_drew1) | exact HB.out)⟩
  · rw [if_neg c1] at H
    exact absurd H (by simp)

end Go.Proofs.Ytjfmnkmgnbbfgaa.A
