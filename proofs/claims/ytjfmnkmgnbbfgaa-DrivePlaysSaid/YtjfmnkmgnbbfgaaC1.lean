/- A call's value called: the drive behind it. -/
import Derived.Test.YtjfmnkmgnbbfgaaC0
set_option linter.unusedVariables false
set_option linter.unusedSimpArgs false
namespace Go.Proofs.Ytjfmnkmgnbbfgaa.A
open Go.RowKit Go.Proofs.YtjfmnkmgnbbfgaaW.PrintWords Go.Proofs.YtjfmnkmgnbbfgaaW.PrintLast Go.Proofs.YtjfmnkmgnbbfgaaW.PrintMore
/-- a drive and an error are handed back -/
def DrOut (w w' : World) (e : Ending) (r : List ByteArray × List S27 × Int × Int) : Prop :=
  ∃ v0 v1 : Value, e = .returned (.tuple #[.agg #[v0, v1, .int .i64 r.2.2.1], .int .i64 r.2.2.2]) ∧ Kd.R Kd.string 9 w' w.heap.size (fun _ => True) v0 r.1 ∧ Kd.R k27 27 w' w.heap.size (fun _ => True) v1 r.2.1 ∧ Below w.heap.size w w'
/-- what a call makes of a drive -/
def callV (c : CallV) (b : List ByteArray) (p : List S27) (a : Int) : List ByteArray × List S27 × Int × Int :=
  match c with
  | .put i s => putV b p a i s
  | .flush => flushV b p a
set_option maxHeartbeats 2000000 in
set_option maxRecDepth 100000 in
theorem putc_walk (A0 : Option Addr) (c0 : Nat) (l0 : List ByteArray) (A1 : Option Addr) (c1 : Nat) (l1 : List S27) (a : Int) (u1 u2 : Nat) (i : Int) (s : ByteArray) (w : World) (hr0 : Kd.C Kd.string w A0 l0.length l0) (hc0 : l0.length ≤ c0) (hr1 : Kd.C k27 w A1 l1.length l1) (hc1 : l1.length ≤ c1)
    (h1 : w.heap[u1]? = some (.cells #[.int .i64 i] 3 (0, 0))) (h2 : w.heap[u2]? = some (.cells #[.string s] 9 (0, 0))) (hb : l0.length ≤ 256) (hp : l1.length ≤ 1000) :
    Calls Try.prog 99 #[.agg #[.slice A0 l0.length c0, .slice A1 l1.length c1, .int .i64 a], .pointer (some ⟨u1, 0, none⟩), .pointer (some ⟨u2, 0, none⟩)] w fun e w' => DrOut w w' e (putV l0 l1 a i s) := by
  have hu29 := Try.underlying29
  have H0 := Aside0.mk hr0
  have H1 := Aside0.mk hr1
  have HU1 := Aside0.mk h1
  have HU2 := Aside0.mk h2
  clear hr0 hr1 h1 h2
  have hT := dput_many l0 l1 a i s hb hp 2 (by omega)
  generalize putV l0 l1 a i s = T at hT ⊢
  obtain ⟨t1, t2, t3, t4⟩ := T
  have HT := Aside0.mk hT
  clear hT
  go_enter Try.func99, Try.ntmps99
  go_wp2_with (first
    | ((with_reducible refine gate_dst (N := 3) rfl ?_); refine box_event ?hg (N := 3) ?hd (cs := #[.slice A0 l0.length c0, .slice A1 l1.length c1, .int .i64 a]) (t := 29) ?hr ?_; (case hd => rfl); (case hg => rfl); (case hr => first | (go_simp; done) | (go_simp; rfl)); intro b1 hb1 w1 hx1 hl1;
        have c10 : w1.cell? ⟨b1, 0, none⟩ = some (.slice A0 l0.length c0) := (blk_cell hx1 0).trans rfl;
        have c11 : w1.cell? ⟨b1, 1, none⟩ = some (.slice A1 l1.length c1) := (blk_cell hx1 1).trans rfl;
        have c12 : w1.cell? ⟨b1, 2, none⟩ = some (.int .i64 a) := (blk_cell hx1 2).trans rfl;
        have HX1 := Aside0.mk hx1; have HL1 := Aside0.mk hl1; have HB1 := Aside0.mk hb1; clear hx1 hl1 hb1)
    | ((with_reducible refine gate_dst (N := 4) rfl ?_); refine box_event ?hg (N := 4) ?hd (cs := #[.slice none 0 0, .slice none 0 0, .int .i64 0]) (t := 29) ?hr ?_; (case hd => rfl); (case hg => rfl); (case hr => first | (go_simp; done) | (go_simp; rfl)); intro b2 hb2 w2 hx2 hl2;
        have d10 := pw_cell_below hl2 c10; have d11 := pw_cell_below hl2 c11; have d12 := pw_cell_below hl2 c12; clear c10 c11 c12;
        have v1 : w2.cell? ⟨u1, 0, none⟩ = some (.int .i64 i) := (blk_cell (blk_below HU1.out (below_step HL1.out hl2)) 0).trans rfl;
        have v2 : w2.cell? ⟨u2, 0, none⟩ = some (.string s) := (blk_cell (blk_below HU2.out (below_step HL1.out hl2)) 0).trans rfl;
        have HX2 := Aside0.mk hx2; have HL2 := Aside0.mk hl2; have HB2 := Aside0.mk hb2; clear hx2 hl2 hb2))
  have hbw2 := below_step HL1.out HL2.out
  refine (drive_Put.calls 2 A0 c0 l0 A1 c1 l1 a i s t1 t2 t3 t4 w2 (Kd.C_below H0.out hbw2) hc0 (Kd.C_below H1.out hbw2) hc1 HT.out).mono ?_
  rintro e w3 ⟨v0, v1, rfl, ho0, ho1, hb3⟩
  obtain ⟨B0, e0, rfl⟩ := Kd.R_slice ho0
  obtain ⟨B1, e1, rfl⟩ := Kd.R_slice ho1
  have hx23 := blk_below HX2.out hb3
  have g2 : w.heap.size ≤ b2 := by rw [HB2.out]; exact HL1.out.size
  have o0 := Kd.R_lower ho0 hbw2.size
  have o1 := Kd.R_lower ho1 hbw2.size
  have hB3 := below_step hbw2 hb3
  have m0 := (blk_cell hx23 0).trans rfl
  have m1 := (blk_cell hx23 1).trans rfl
  have m2 := (blk_cell hx23 2).trans rfl
  have e0_ := blk_frozen hx23 0
  have e1_ := blk_frozen hx23 1
  have e2_ := blk_frozen hx23 2
  have HK2 := Aside0.mk hx23
  have HR := Aside0.mk o0
  have HW := Aside0.mk o1
  have HB := Aside0.mk hB3
  clear hx23 o0 o1 ho0 ho1 hb3 hB3 HX1 HX2 d10 d11 d12
  go_wp2
  refine bodyPost_ret (results_ct rfl _ _ b2 29 #[.slice B0 t1.length e0, .slice B1 t2.length e1, .int .i64 t3] (0, 0) _ rfl (blk_put (blk_put (blk_put HK2.out 0 _ rfl) 1 _ rfl) 2 _ rfl) Try.underlying29 rfl (by kernel_rfl)) rfl ?_
  exact ⟨_, _, rfl, R_set3 HR.out HK2.out (by decide) _ _ _, R_set3 HW.out HK2.out (by decide) _ _ _, below_set3 HB.out g2 _ _ _⟩
/-- a call's value, called -/
theorem call_walk (c : CallV) (A0 : Option Addr) (c0 : Nat) (l0 : List ByteArray) (A1 : Option Addr) (c1 : Nat) (l1 : List S27) (a : Int) (ok : Nat → Prop) (v : Value) (w : World) (hv : FnIs w ok v c) (hr0 : Kd.C Kd.string w A0 l0.length l0) (hc0 : l0.length ≤ c0) (hr1 : Kd.C k27 w A1 l1.length l1) (hc1 : l1.length ≤ c1)
    (hb : l0.length ≤ 256) (hp : l1.length ≤ 1000) :
    ∃ F fn caps, v = .func (.func F) #[] caps ∧ Try.prog.funcs[F]? = some fn ∧ (fn.name == "runtime.NumGoroutine") = false ∧ fn.body.isSome = true ∧ Calls Try.prog F (#[.agg #[.slice A0 l0.length c0, .slice A1 l1.length c1, .int .i64 a]] ++ caps) w fun e w' => DrOut w w' e (callV c l0 l1 a) := by
  cases c with
  | put i s =>
    obtain ⟨b1, b2, rfl, h1, h2, _⟩ := hv
    exact ⟨99, _, _, rfl, Try.func99, by kernel_rfl, rfl, putc_walk A0 c0 l0 A1 c1 l1 a b1 b2 i s w hr0 hc0 hr1 hc1 h1 h2 hb hp⟩
  | flush =>
    refine ⟨40, _, #[], hv, Try.func40, by kernel_rfl, rfl, ?_⟩
    have h := dflush_many l0 l1 a hb hp
    exact drive_Flush.calls A0 c0 l0 A1 c1 l1 a _ _ _ _ w hr0 hc0 hr1 hc1 h
end Go.Proofs.Ytjfmnkmgnbbfgaa.A
