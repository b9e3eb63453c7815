/- The contracts of slices.Clone at []string and at []api.Write: a new row with the same elements. -/
import Derived.Test.YtjfmnkmgnbbfgaaA0
import Derived.Lib.BufferMore

namespace Go.Proofs.Ytjfmnkmgnbbfgaa.A
open Go.RowKit Go.Proofs.YtjfmnkmgnbbfgaaW.PrintWords Go.Proofs.YtjfmnkmgnbbfgaaW.PrintLast Go.Proofs.YtjfmnkmgnbbfgaaW.PrintMore

def api_Write_111.f (l0 : List S27) : Option (List S27) := if l0.length * 24 ≤ 140737488355328 then some l0 else none
set_option maxHeartbeats 400000 in
set_option maxRecDepth 100000 in
theorem api_Write_111.nil (c0 : Nat) (w : World) :
    Calls Try.prog 111 #[.slice none 0 c0] w fun e w' => e = .returned (.slice none 0 0) ∧ w = w' := by
  have he := fun (W : World) => Go.Lib.run_eql_slice_nil_nil (P := Try.prog) W 0 c0 Try.underlying23
  go_enter Try.func111, Try.ntmps111
  go_wp2
  go_ret
  exact ⟨rfl, rfl⟩
set_option maxHeartbeats 400000 in
set_option maxRecDepth 100000 in
theorem api_Write_111.some_ (ad : Addr) (c0 : Nat) (l0 : List S27) (w : World) (hr0 : Kd.C k27 w (some ad) l0.length l0) (hs : l0.length * 24 ≤ 140737488355328) :
    Calls Try.prog 111 #[.slice (some ad) l0.length c0] w fun e w' => ∃ v0_ : Value, e = .returned v0_ ∧ Kd.R k27 27 w' w.heap.size (fun _ => True) v0_ l0 ∧ Below w.heap.size w w' := by
  have HR := Aside0.mk hr0
  clear hr0
  have he := fun (W : World) => Go.Lib.run_eql_slice_some_nil (P := Try.prog) W ad l0.length c0 Try.underlying23
  go_enter Try.func111, Try.ntmps111
  go_wp2_with (first
    | ((with_reducible refine gate_dst (N := 5) rfl ?_); refine Kd.R_lit k27 _ 27 ?hg (N := 5) ?hd (xs := ([] : List S27)) (inner := []) (ok := fun _ => True) (okp := fun _ => True) ?hr ?hp (fun _ hk => hk) trivial (Below.refl _ _) (Nat.le_refl _) (by simp) ?_; (case hd => rfl); (case hg => rfl); (case hr => first | (go_simp; done) | (go_simp; rfl)); (case hp => exact (Reps.none _ _)); intro v1 w1 ho1 hb1 hg1 ha1;
        have HB := Aside0.mk (below_step (by repeat (first | exact Below.refl _ _ | apply below_alloc | apply pw_below_drewN | apply below_drew1)) hb1 : Below w.heap.size w w1);
        have HO := Aside0.mk (Kd.R_lower ho1 (below_size (by repeat (first | exact Below.refl _ _ | apply below_alloc | apply pw_below_drewN | apply below_drew1)) : w.heap.size ≤ _)); clear ho1 hb1 hg1 ha1)
    | ((with_reducible refine gate_builtin (b := .append) (xs := #[.tmp 5, .tmp 6]) rfl ?_); (try (refine gate_guard (by rfl) ?_; dsimp only)); at_builtin; refine Kd.R_append_rows k27 (Rr := Kd.K k27 w) (w0 := w) w.heap.size rfl (.tmp 5) (.tmp 6) 23 27 (.agg #[(.int .i64 0), (.string ⟨#[]⟩)]) 24 rfl Try.underlying23 info27 rfl (by decide) (by omega) _ [] l0 _ _ _ (fun _ => True) (fun _ => False) rfl rfl ?aO ?aR (fun x cs h => by obtain rfl := k27_open h; exact k27_mkM _ _ _ x) (fun _ h => h.elim) (fun _ _ => trivial) ?aB ?aS ?aL ?_;
        (case aR => exact ReadsRow.imp_ HR.out (by repeat (first | exact HB.out | apply below_alloc | apply pw_below_drewN | apply below_drew1)) (fun _ _ h => h));
        (case aB => exact (by repeat (first | exact HB.out | apply below_alloc | apply pw_below_drewN | apply below_drew1)));
        (case aO => exact (by (with_reducible repeat (first | apply Kd.R_alloc | apply Kd.R_drewN | apply Kd.R_drew)); exact HO.out));
        (case aS => exact (below_size (by repeat (first | exact HB.out | apply below_alloc | apply pw_below_drewN | apply below_drew1))));
        (case aL => rw [List.length_nil, Nat.zero_add]; exact hs);
        intro v2 w2 ho2 hb2 hg2 hat2; have HO2 := Aside0.mk ho2; have HB2 := Aside0.mk hb2; clear ho2 hb2 hg2 hat2))
  go_ret
  exact ⟨_, rfl, HO2.out, HB2.out⟩
theorem api_Write_111.calls (A0 : Option Addr) (c0 : Nat) (l0 : List S27) (r : List S27) (w : World) (hr0 : Kd.C k27 w A0 l0.length l0) (hc0 : l0.length ≤ c0) (h : api_Write_111.f l0 = some r) :
    Calls Try.prog 111 #[.slice A0 l0.length c0] w fun e w' => ∃ v0_ : Value, e = .returned v0_ ∧ Kd.R k27 27 w' w.heap.size (fun _ => True) v0_ r ∧ Below w.heap.size w w' := by
  unfold api_Write_111.f at h
  split at h
  · next hs =>
    cases h
    cases A0 with
    | some ad => exact api_Write_111.some_ ad c0 l0 w hr0 hs
    | none =>
      have h0 : l0.length = 0 := by
        rcases Nat.eq_zero_or_pos l0.length with h0 | h0
        · exact h0
        · obtain ⟨ad, h, _⟩ := hr0.2.2 h0
          cases h
      obtain rfl : l0 = [] := List.eq_nil_of_length_eq_zero h0
      refine (api_Write_111.nil c0 w).mono ?_
      rintro e w' ⟨rfl, rfl⟩
      exact ⟨_, rfl, Kd.R_nil _ _ _ _ _, Below.refl _ _⟩
  · cases h

def slices_Clone_string_string.f (l0 : List ByteArray) : Option (List ByteArray) := if l0.length * 16 ≤ 140737488355328 then some l0 else none
set_option maxHeartbeats 400000 in
set_option maxRecDepth 100000 in
theorem slices_Clone_string_string.nil (c0 : Nat) (w : World) :
    Calls Try.prog 110 #[.slice none 0 c0] w fun e w' => e = .returned (.slice none 0 0) ∧ w = w' := by
  have he := fun (W : World) => Go.Lib.run_eql_slice_nil_nil (P := Try.prog) W 0 c0 Try.underlying22
  go_enter Try.func110, Try.ntmps110
  go_wp2
  go_ret
  exact ⟨rfl, rfl⟩
set_option maxHeartbeats 400000 in
set_option maxRecDepth 100000 in
theorem slices_Clone_string_string.some_ (ad : Addr) (c0 : Nat) (l0 : List ByteArray) (w : World) (hr0 : Kd.C Kd.string w (some ad) l0.length l0) (hs : l0.length * 16 ≤ 140737488355328) :
    Calls Try.prog 110 #[.slice (some ad) l0.length c0] w fun e w' => ∃ v0_ : Value, e = .returned v0_ ∧ Kd.R Kd.string 9 w' w.heap.size (fun _ => True) v0_ l0 ∧ Below w.heap.size w w' := by
  have HR := Aside0.mk hr0
  clear hr0
  have he := fun (W : World) => Go.Lib.run_eql_slice_some_nil (P := Try.prog) W ad l0.length c0 Try.underlying22
  go_enter Try.func110, Try.ntmps110
  go_wp2_with (first
    | ((with_reducible refine gate_dst (N := 5) rfl ?_); refine Kd.R_lit Kd.string _ 9 ?hg (N := 5) ?hd (xs := ([] : List ByteArray)) (inner := []) (ok := fun _ => True) (okp := fun _ => True) ?hr ?hp (fun _ hk => hk) trivial (Below.refl _ _) (Nat.le_refl _) (by simp) ?_; (case hd => rfl); (case hg => rfl); (case hr => first | (go_simp; done) | (go_simp; rfl)); (case hp => exact (Reps.none _ _)); intro v1 w1 ho1 hb1 hg1 ha1;
        have HB := Aside0.mk (below_step (by repeat (first | exact Below.refl _ _ | apply below_alloc | apply pw_below_drewN | apply below_drew1)) hb1 : Below w.heap.size w w1);
        have HO := Aside0.mk (Kd.R_lower ho1 (below_size (by repeat (first | exact Below.refl _ _ | apply below_alloc | apply pw_below_drewN | apply below_drew1)) : w.heap.size ≤ _)); clear ho1 hb1 hg1 ha1)
    | ((with_reducible refine gate_builtin (b := .append) (xs := #[.tmp 5, .tmp 6]) rfl ?_); (try (refine gate_guard (by rfl) ?_; dsimp only)); at_builtin; refine Kd.R_append_rows Kd.string (Rr := Kd.K Kd.string w) (w0 := w) w.heap.size rfl (.tmp 5) (.tmp 6) 22 9 (.string ⟨#[]⟩) 16 rfl Try.underlying22 info9 rfl (by decide) (by omega) _ [] l0 _ _ _ (fun _ => True) (fun _ => False) rfl rfl ?aO ?aR (fun x cs h => h) (fun _ h => h.elim) (fun _ _ => trivial) ?aB ?aS ?aL ?_;
        (case aR => exact ReadsRow.imp_ HR.out (by repeat (first | exact HB.out | apply below_alloc | apply pw_below_drewN | apply below_drew1)) (fun _ _ h => h));
        (case aB => exact (by repeat (first | exact HB.out | apply below_alloc | apply pw_below_drewN | apply below_drew1)));
        (case aO => exact (by (with_reducible repeat (first | apply Kd.R_alloc | apply Kd.R_drewN | apply Kd.R_drew)); exact HO.out));
        (case aS => exact (below_size (by repeat (first | exact HB.out | apply below_alloc | apply pw_below_drewN | apply below_drew1))));
        (case aL => rw [List.length_nil, Nat.zero_add]; exact hs);
        intro v2 w2 ho2 hb2 hg2 hat2; have HO2 := Aside0.mk ho2; have HB2 := Aside0.mk hb2; clear ho2 hb2 hg2 hat2))
  go_ret
  exact ⟨_, rfl, HO2.out, HB2.out⟩
theorem slices_Clone_string_string.calls (A0 : Option Addr) (c0 : Nat) (l0 : List ByteArray) (r : List ByteArray) (w : World) (hr0 : Kd.C Kd.string w A0 l0.length l0) (hc0 : l0.length ≤ c0) (h : slices_Clone_string_string.f l0 = some r) :
    Calls Try.prog 110 #[.slice A0 l0.length c0] w fun e w' => ∃ v0_ : Value, e = .returned v0_ ∧ Kd.R Kd.string 9 w' w.heap.size (fun _ => True) v0_ r ∧ Below w.heap.size w w' := by
  unfold slices_Clone_string_string.f at h
  split at h
  · next hs =>
    cases h
    cases A0 with
    | some ad => exact slices_Clone_string_string.some_ ad c0 l0 w hr0 hs
    | none =>
      have h0 : l0.length = 0 := by
        rcases Nat.eq_zero_or_pos l0.length with h0 | h0
        · exact h0
        · obtain ⟨ad, h, _⟩ := hr0.2.2 h0
          cases h
      obtain rfl : l0 = [] := List.eq_nil_of_length_eq_zero h0
      refine (slices_Clone_string_string.nil c0 w).mono ?_
      rintro e w' ⟨rfl, rfl⟩
      exact ⟨_, rfl, Kd.R_nil _ _ _ _ _, Below.refl _ _⟩
  · cases h
end Go.Proofs.Ytjfmnkmgnbbfgaa.A
