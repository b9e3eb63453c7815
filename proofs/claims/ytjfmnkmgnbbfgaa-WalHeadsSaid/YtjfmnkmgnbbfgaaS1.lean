/- Several texts of this claim in one: A20, S1. -/
import Derived.Test.YtjfmnkmgnbbfgaaA0
import Derived.Test.YtjfmnkmgnbbfgaaA56
import Derived.Test.YtjfmnkmgnbbfgaaA57
import Derived.Test.YtjfmnkmgnbbfgaaA62
import Derived.Test.YtjfmnkmgnbbfgaaS0
import Derived.Test.YtjfmnkmgnbbfgaaR0
-- Made by drv.py (ours) by way of the kit's print; Lean checks it.
namespace Go.Proofs.Ytjfmnkmgnbbfgaa.A
open Go.RowKit Go.Proofs.YtjfmnkmgnbbfgaaW.PrintWords Go.Proofs.YtjfmnkmgnbbfgaaW.PrintLast Go.Proofs.YtjfmnkmgnbbfgaaW.PrintMore
attribute [local go_sem] max2_int min2_int max_two min_two max_three min_three max_four min_four   -- for this text's walks alone
set_option linter.unusedVariables false
set_option linter.unusedSimpArgs false

/-! ### hibernaclelaw16_fits: function 20 -/
def hibernaclelaw16_fits.f (k : Nat) (l0 : List ByteArray) (l1 : List (S27)) : Option (Bool) := if (l0.length : Int) < 1 then (some false) else (if (l0.length : Int) > 40 then (some false) else ((hibernacleref16_Long.f k l1).bind fun t118 => (if t118 > 0 then (some false) else ((hibernacleref16_May.f k l1 (l0.length : Int)).bind fun t119 => (if t119 = 0 then ((hibernacleref16_Format.f k l0).bind fun bt120 => (some (bt120.2.2.2 == 0))) else (some false))))))
theorem hibernaclelaw16_fits.mono : ∀ a0 a1 k, LeO (hibernaclelaw16_fits.f k a0 a1) (hibernaclelaw16_fits.f (k + 1) a0 a1) := by
  intro a0 a1 k
  unfold hibernaclelaw16_fits.f
  repeat' first
      | (with_reducible exact hibernacleref16_Format.mono _ _)
      | (with_reducible exact hibernacleref16_Long.mono _ _)
      | (with_reducible exact hibernacleref16_May.mono _ _ _)
      | (with_reducible exact LeO.refl _)
      | (with_reducible exact LeO.none _)
      | (with_reducible refine LeO.ite ?_ ?_)
      | (with_reducible refine LeO.bind ?_ (fun _ => ?_))
      | exact hibernacleref16_Format.mono _ _
      | exact hibernacleref16_Long.mono _ _
      | exact hibernacleref16_May.mono _ _ _
      | exact LeO.none _
      | refine LeO.ite ?_ ?_
      | refine LeO.bind ?_ (fun _ => ?_)
set_option maxHeartbeats 8000000 in
set_option maxRecDepth 100000 in
theorem hibernaclelaw16_fits.calls (k : Nat) (A0 : Option Addr) (c0 : Nat) (l0 : List ByteArray) (A1 : Option Addr) (c1 : Nat) (l1 : List (S27)) (r : Bool) (w : World) (hr0 : Kd.C Kd.string w A0 l0.length l0) (hc0 : l0.length ≤ c0) (hr1 : Kd.C k27 w A1 l1.length l1) (hc1 : l1.length ≤ c1) (h : hibernaclelaw16_fits.f k l0 l1 = some r) :
    Calls Try.prog 20 #[.slice A0 l0.length c0, .slice A1 l1.length c1] w fun e w' => e = .returned (.bool r) ∧ Below w.heap.size w w' := by
  have hu29 := Try.underlying29
  have HR0 := Aside0.mk hr0
  have HC0 := Aside0.mk hc0
  clear hr0 hc0
  have HR1 := Aside0.mk hr1
  have HC1 := Aside0.mk hc1
  clear hr1 hc1
  have HB := Aside0.mk (Below.refl w.heap.size w)
  have H : (if (l0.length : Int) < 1 then (some false) else (if (l0.length : Int) > 40 then (some false) else ((hibernacleref16_Long.f k l1).bind fun t118 => (if t118 > 0 then (some false) else ((hibernacleref16_May.f k l1 (l0.length : Int)).bind fun t119 => (if t119 = 0 then ((hibernacleref16_Format.f k l0).bind fun bt120 => (some (bt120.2.2.2 == 0))) else (some false))))))) = some r := h
  clear h
  by_cases c3 : (l0.length : Int) < 1
  · rw [if_pos c3] at H
    have c3b0 : decide ((l0.length : Int) < 1) = true := decide_eq_true c3
    have c3b1 : decide (l0.length < 1) = true := decide_eq_true (by omega)
    clear c3
    obtain rfl := Option.some.inj H
    go_enter Try.func20, Try.ntmps20
    go_wp2
    go_ret
    exact ⟨by first | rfl | (simp [errW_none, errW_some] <;> rfl) | (simp [*, errW_none, errW_some] <;> rfl), by repeat (first | (with_reducible first | exact HB.out | apply below_alloc | apply pw_below_drewN | apply below_drew1) | exact HB.out)⟩
  · rw [if_neg c3] at H
    have c3b0 : decide ((l0.length : Int) < 1) = false := decide_eq_false c3
    have c3b1 : decide (l0.length < 1) = false := decide_eq_false (by omega)
    clear c3
    by_cases c4 : (l0.length : Int) > 40
    · rw [if_pos c4] at H
      have c4b0 : decide (40 < (l0.length : Int)) = true := decide_eq_true c4
      have c4b1 : decide (40 < l0.length) = true := decide_eq_true (by omega)
      clear c4
      obtain rfl := Option.some.inj H
      go_enter Try.func20, Try.ntmps20
      go_wp2
      go_ret
      exact ⟨by first | rfl | (simp [errW_none, errW_some] <;> rfl) | (simp [*, errW_none, errW_some] <;> rfl), by repeat (first | (with_reducible first | exact HB.out | apply below_alloc | apply pw_below_drewN | apply below_drew1) | exact HB.out)⟩
    · rw [if_neg c4] at H
      have c4b0 : decide (40 < (l0.length : Int)) = false := decide_eq_false c4
      have c4b1 : decide (40 < l0.length) = false := decide_eq_false (by omega)
      clear c4
      replace H := Option.bind_eq_some_iff.mp H
      obtain ⟨t118, A50, H⟩ := H
      replace H : (if t118 > 0 then (some false) else ((hibernacleref16_May.f k l1 (l0.length : Int)).bind fun t119 => (if t119 = 0 then ((hibernacleref16_Format.f k l0).bind fun bt120 => (some (bt120.2.2.2 == 0))) else (some false)))) = some r := H
      have A5 := Aside0.mk A50
      clear A50
      by_cases c6 : t118 > 0
      · rw [if_pos c6] at H
        have c6b0 : decide (0 < t118) = true := decide_eq_true c6
        clear c6
        obtain rfl := Option.some.inj H
        go_enter Try.func20, Try.ntmps20
        go_wp2_with (first | (go_at_call 57; (with_reducible refine (hibernacleref16_Long.calls k _ _ l1 t118 _ ?side1 ?side2 A5.out).mono ?_); (case side1 => repeat (first | exact HR1.out | (with_reducible refine Kd.C_alloc ?_ _) | (with_reducible refine Kd.C_drewN ?_ _) | (with_reducible refine Kd.C_drew ?_))); (case side2 => exact HC1.out); rintro e w' ⟨rfl, ⟨nd, rfl⟩⟩))
        go_ret
        exact ⟨by first | rfl | (simp [errW_none, errW_some] <;> rfl) | (simp [*, errW_none, errW_some] <;> rfl), by repeat (first | (with_reducible first | exact HB.out | apply below_alloc | apply pw_below_drewN | apply below_drew1) | exact HB.out)⟩
      · rw [if_neg c6] at H
        have c6b0 : decide (0 < t118) = false := decide_eq_false c6
        clear c6
        replace H := Option.bind_eq_some_iff.mp H
        obtain ⟨t119, A70, H⟩ := H
        replace H : (if t119 = 0 then ((hibernacleref16_Format.f k l0).bind fun bt120 => (some (bt120.2.2.2 == 0))) else (some false)) = some r := H
        have A7 := Aside0.mk A70
        clear A70
        by_cases c8 : t119 = 0
        · rw [if_pos c8] at H
          have c8b0 : (t119 == 0) = true := beq_iff_eq.mpr c8
          have c8b1 : (t119 != 0) = false := bne_eq_false_iff_eq.mpr c8
          clear c8
          replace H := Option.bind_eq_some_iff.mp H
          obtain ⟨⟨t120, t123, t126, t127⟩, A90, H⟩ := H
          replace H : (some (t127 == 0)) = some r := H
          have A9 := Aside0.mk A90
          clear A90
          obtain rfl := Option.some.inj H
          go_enter Try.func20, Try.ntmps20
          go_wp2_with (first | (go_at_call 57; (with_reducible refine (hibernacleref16_Long.calls k _ _ l1 t118 _ ?side1 ?side2 A5.out).mono ?_); (case side1 => repeat (first | exact HR1.out | (with_reducible refine Kd.C_alloc ?_ _) | (with_reducible refine Kd.C_drewN ?_ _) | (with_reducible refine Kd.C_drew ?_))); (case side2 => exact HC1.out); rintro e w' ⟨rfl, ⟨nd, rfl⟩⟩) | (go_at_call 62; (with_reducible refine (hibernacleref16_May.calls k _ _ l1 (l0.length : Int) t119 _ ?side1 ?side2 A7.out).mono ?_); (case side1 => repeat (first | exact HR1.out | (with_reducible refine Kd.C_alloc ?_ _) | (with_reducible refine Kd.C_drewN ?_ _) | (with_reducible refine Kd.C_drew ?_))); (case side2 => exact HC1.out); rintro e w' ⟨rfl, ⟨nd, rfl⟩⟩) | ((with_reducible refine gate_callee (f := 56) rfl ?_); refine goesL_ (some 29) rfl rfl Try.func56 (by kernel_rfl) rfl #[.slice A0 l0.length c0] rfl (by (try simp only [List.map_toArray, List.map_cons, List.map_nil]); first | done | rfl | (simp only [List.length_drop, List.length_take]; rfl)) ?_; (with_reducible refine (hibernacleref16_Format.calls k _ _ l0 t120 t123 t126 t127 _ ?side1 ?side2 A9.out).mono ?_); (case side1 => repeat (first | exact HR0.out | (with_reducible refine Kd.C_alloc ?_ _) | (with_reducible refine Kd.C_drewN ?_ _) | (with_reducible refine Kd.C_drew ?_))); (case side2 => exact HC0.out); rintro e w10 ⟨v121, v124, rfl, ho0, ho1, hb⟩; refine ⟨_, rfl, ?_⟩; have n0_ := Aside0.mk (Kd.R_lower ho0 (below_size (by repeat (first | (with_reducible first | exact HB.out | apply below_alloc | apply pw_below_drewN | apply below_drew1) | exact HB.out)))); have n1_ := Aside0.mk (Kd.R_lower ho1 (below_size (by repeat (first | (with_reducible first | exact HB.out | apply below_alloc | apply pw_below_drewN | apply below_drew1) | exact HB.out)))); have n2_ := Aside0.mk (below_step (by repeat (first | (with_reducible first | exact HB.out | apply below_alloc | apply pw_below_drewN | apply below_drew1) | exact HB.out)) hb); clear HB; have HO122 := n0_; have HO125 := n1_; have HB := n2_; clear n0_ n1_ n2_; (try clear hb); (try clear hb2); (try clear hk); (try clear hi); (try clear ho0); (try clear ho1)) | ((with_reducible refine gate_dst (N := 5) rfl ?_); (try (refine gate_guard (by rfl) ?_; dsimp only)); refine box_event ?hg (N := 5) ?hd (cs := #[.slice none 0 0, .slice none 0 0, .int .i64 0]) (t := 29) ?hr ?_; (case hd => rfl); (case hg => rfl); (case hr => first | (go_simp; done) | (go_simp; rfl)); intro gb128 hg w11 hbox hb; have n0_ := Aside0.mk (Kd.R_below (by (with_reducible repeat (first | apply Kd.R_alloc | apply Kd.R_drewN | apply Kd.R_drew)); exact HO122.out) hb); have n1_ := Aside0.mk (Kd.R_below (by (with_reducible repeat (first | apply Kd.R_alloc | apply Kd.R_drewN | apply Kd.R_drew)); exact HO125.out) hb); have n2_ := Aside0.mk (below_step (by repeat (first | (with_reducible first | exact HB.out | apply below_alloc | apply pw_below_drewN | apply below_drew1) | exact HB.out)) hb); have n3_ := Aside0.mk (hbox); have n4_ := Aside0.mk ((by rw [hg]; exact (below_size (by repeat (first | (with_reducible first | exact HB.out | apply below_alloc | apply pw_below_drewN | apply below_drew1) | exact HB.out))) : w.heap.size ≤ gb128)); have n5_ := Aside0.mk ((by rw [hg]; exact (below_size (by repeat (first | (with_reducible first | exact HB.out | apply below_alloc | apply pw_below_drewN | apply below_drew1) | exact HB.out))) : w.heap.size ≤ gb128)); clear HO122; clear HO125; clear HB; have HO122 := n0_; have HO125 := n1_; have HB := n2_; have BK128 := n3_; have GW128 := n4_; have GE128 := n5_; clear n0_ n1_ n2_ n3_ n4_ n5_; clear hb hbox hg; obtain ⟨Ao12, co12, eo12⟩ := Kd.R_slice HO122.out; subst eo12; have hcz13_0 : w11.cell? ⟨gb128, 0, none⟩ = some (.slice none 0 0) := (blk_cell BK128.out 0).trans rfl; have hcz13_1 : w11.cell? ⟨gb128, 1, none⟩ = some (.slice none 0 0) := (blk_cell BK128.out 1).trans rfl; have hcz13_2 : w11.cell? ⟨gb128, 2, none⟩ = some (.int .i64 0) := (blk_cell BK128.out 2).trans rfl; have hfz13_0 := blk_frozen BK128.out 0; have hfz13_1 := blk_frozen BK128.out 1; have hfz13_2 := blk_frozen BK128.out 2; obtain ⟨Ao14, co14, eo14⟩ := Kd.R_slice HO125.out; subst eo14))
          go_ret
          exact ⟨by first | rfl | (simp [errW_none, errW_some] <;> rfl) | (simp [*, errW_none, errW_some] <;> rfl), by repeat (first | (with_reducible first | exact HB.out | apply below_alloc | apply pw_below_drewN | apply below_drew1 | refine below_set ?_ GE128.out) | exact HB.out)⟩
        · rw [if_neg c8] at H
          have c8b0 : (t119 == 0) = false := beq_eq_false_iff_ne.mpr c8
          have c8b1 : (t119 != 0) = true := bne_iff_ne.mpr c8
          obtain rfl := Option.some.inj H
          go_enter Try.func20, Try.ntmps20
          go_wp2_with (first | (go_at_call 57; (with_reducible refine (hibernacleref16_Long.calls k _ _ l1 t118 _ ?side1 ?side2 A5.out).mono ?_); (case side1 => repeat (first | exact HR1.out | (with_reducible refine Kd.C_alloc ?_ _) | (with_reducible refine Kd.C_drewN ?_ _) | (with_reducible refine Kd.C_drew ?_))); (case side2 => exact HC1.out); rintro e w' ⟨rfl, ⟨nd, rfl⟩⟩) | (go_at_call 62; (with_reducible refine (hibernacleref16_May.calls k _ _ l1 (l0.length : Int) t119 _ ?side1 ?side2 A7.out).mono ?_); (case side1 => repeat (first | exact HR1.out | (with_reducible refine Kd.C_alloc ?_ _) | (with_reducible refine Kd.C_drewN ?_ _) | (with_reducible refine Kd.C_drew ?_))); (case side2 => exact HC1.out); rintro e w' ⟨rfl, ⟨nd, rfl⟩⟩))
          go_ret
          exact ⟨by first | rfl | (simp [errW_none, errW_some] <;> rfl) | (simp [*, errW_none, errW_some] <;> rfl), by repeat (first | (with_reducible first | exact HB.out | apply below_alloc | apply pw_below_drewN | apply below_drew1) | exact HB.out)⟩

end Go.Proofs.Ytjfmnkmgnbbfgaa.A
/- Plain: fits; the two orders of commits. -/
set_option linter.unusedVariables false
set_option linter.unusedSimpArgs false
namespace Go.Proofs.Ytjfmnkmgnbbfgaa.A
open Go.RowKit Go.Proofs.YtjfmnkmgnbbfgaaW.PrintWords Go.Proofs.YtjfmnkmgnbbfgaaW.PrintLast Go.Proofs.YtjfmnkmgnbbfgaaW.PrintMore
/-- what the writes and the volume are, where they fit -/
structure Fits (v : List ByteArray) (l : List S27) : Prop where
  lo : 1 ≤ v.length
  hi : v.length ≤ 40
  whole : whole v = true
  may : mayV l (v.length : Int) = 0
theorem fits_some (v : List ByteArray) (l : List S27) (hl : l.length ≤ 9223372036854775807) (k : Nat) (hk : l.length + 2000 < k) : ∃ r, hibernaclelaw16_fits.f k v l = some r ∧ (r = true → Fits v l) := by
  unfold hibernaclelaw16_fits.f
  by_cases h1 : (v.length : Int) < 1
  · rw [if_pos h1]; exact ⟨false, rfl, fun h => by cases h⟩
  · rw [if_neg h1]
    by_cases h2 : (v.length : Int) > 40
    · rw [if_pos h2]; exact ⟨false, rfl, fun h => by cases h⟩
    · rw [if_neg h2]
      obtain ⟨u, hu, hy⟩ := long16_some l hl k (by omega)
      rw [hu, Option.bind_some]
      rcases hy with rfl | ⟨rfl, hl4⟩
      · rw [if_pos (by decide)]; exact ⟨false, rfl, fun h => by cases h⟩
      · rw [if_neg (by decide), rmay_some l _ k (by omega), Option.bind_some]
        by_cases h3 : mayV l (v.length : Int) = 0
        · rw [if_pos h3, rform_some v k (by omega), Option.bind_some]
          refine ⟨_, rfl, fun h => ?_⟩
          have h4 : (formV v).2.2.2 = 0 := eq_of_beq h
          unfold formV at h4
          rw [if_neg (by omega)] at h4
          split at h4
          · rename_i h5
            exact ⟨by omega, by omega, h5, h3⟩
          · cases h4
        · rw [if_neg h3]; exact ⟨false, rfl, fun h => by cases h⟩
theorem fits_form {v : List ByteArray} {l : List S27} (h : Fits v l) : formV v = (List.replicate 33 zeroS ++ v, [], -1, 0) := by
  have h1 := h.lo
  have h2 := h.hi
  unfold formV
  rw [if_neg (by omega), if_pos h.whole]
def baseB (v : List ByteArray) : List ByteArray := List.replicate 33 zeroS ++ v
theorem baseB_len (v : List ByteArray) : (baseB v).length = 33 + v.length := by rw [baseB, List.length_append, List.length_replicate]
theorem baseB_drop (v : List ByteArray) : (baseB v).drop 33 = v := by
  rw [baseB, List.drop_append_of_le_length (by rw [List.length_replicate]; exact Nat.le_refl _), List.drop_of_length_le (by rw [List.length_replicate]; exact Nat.le_refl _), List.nil_append]
theorem baseB_valid {v : List ByteArray} (h2 : v.length ≤ 40) (hw : whole v = true) : Valid (baseB v) [] := form_valid v (by omega) hw
/-- the blocks behind a commit -/
def afterB (b : List ByteArray) (l : List S27) : List ByteArray := if l = [] then b else setH (landP b l) l
section
variable {b : List ByteArray} {l : List S27} {n : Nat}
theorem after_eq (hv : Valid b []) (hn : 1 ≤ n) (hn2 : n ≤ 223) (hb : b.length = 33 + n) (h : mayV l (n : Int) = 0) : commitV b [] (-1) l = (afterB b l, [], -1, 0) := by
  unfold afterB
  by_cases hl : l = []
  · rw [if_pos hl, hl]; exact commit_nil hv (by omega) (-1)
  · rw [if_neg hl]; exact commit_neg hv hn hn2 hb h hl
theorem after_valid (hv : Valid b []) (hn2 : n ≤ 223) (hb : b.length = 33 + n) (h : mayV l (n : Int) = 0) : Valid (afterB b l) [] ∧ (afterB b l).length = 33 + n ∧ (afterB b l).drop 33 = withL (b.drop 33) l := by
  unfold afterB
  by_cases hl : l = []
  · rw [if_pos hl, hl]; exact ⟨hv, hb, rfl⟩
  · have hm := mayOk_of l n (by omega) h
    rw [if_neg hl]; exact ⟨commit_ok hv hn2 hb hm, commit_len hv hb hm, commit_drop hv hb hm⟩
end
/-- the two orders leave the same volume -/
theorem swap_home (v : List ByteArray) (l m : List S27) (hl : Fits v l) (hm : Fits v m) (hd : ∀ x ∈ l, ∀ y ∈ m, x.f0 ≠ y.f0) : homeL (afterB (afterB (baseB v) l) m) [] = homeL (afterB (afterB (baseB v) m) l) [] := by
  have h1 := hl.lo
  have h2 := hl.hi
  have hv := baseB_valid h2 hl.whole
  have hb := baseB_len v
  obtain ⟨a1, a2, a3⟩ := after_valid hv (by omega) hb hl.may
  obtain ⟨b1, b2, b3⟩ := after_valid hv (by omega) hb hm.may
  obtain ⟨c1, c2, c3⟩ := after_valid a1 (by omega) a2 hm.may
  obtain ⟨d1, d2, d3⟩ := after_valid b1 (by omega) b2 hl.may
  rw [home_drop c1 (by omega), home_drop d1 (by omega), c3, d3, a3, b3]
  apply withL_swap
  intro x hx y hy
  have ox := (mayOk_of l v.length (by omega) hl.may).blk x hx
  have oy := (mayOk_of m v.length (by omega) hm.may).blk y hy
  have := hd x hx y hy
  omega
end Go.Proofs.Ytjfmnkmgnbbfgaa.A
