/- The row of the law RollTails: for every input it returns true, and each argument reads behind the call as it read before. Conditions: none. -/
import Derived.Test.YtameblpmojfdgaaRows
import Derived.Test.YtameblpmojfdgaaXtails
import Derived.WalkKit
import Derived.ProofKit
import Derived.OpenShut
import Derived.ShutString
import Derived.ChangeOld
import Derived.Below
import Derived.SizedLaws
import Derived.Lib.SmallJoins
import Derived.Carry
namespace Go.Proofs.Ytameblpmojfdgaa.rollTails
open Go.ChangeShapes Go.WideShapes Go.ChangeAt Go.RowKit Go.Joins
open Go.ChangeMaps (open_string shut_string)

theorem own : ownKnob Try.prog.godebug = none := by kernel_rfl
theorem laidOut : laidOutB Try.prog = true := by kernel_rfl

set_option maxRecDepth 100000 in
theorem lifted (os : Os) (started : os.Started) (H : Type) (enc : TypeId × Value → H) :
    ReturnsInHanded {} Try.checked os 4 .any (Rows.rollTailsSpec.pre6 enc Try.prog Try.f4 Rows.rollTailsRow.domain false) (Rows.rollTailsSpec.post enc Try.prog Try.f4 false true false false) := by
  refine returnsInHanded_of_change_sized (C := Try.checked) own started (by kernel_rfl) Try.func4
    (ChangeSpec.witness6 (enc := enc) (C := Try.checked) false ⟨#[], #[.agg #[.string ByteArray.empty, .string ByteArray.empty], .string ByteArray.empty, .agg #[.int .i64 0, .int .i64 0, .int .i64 0, .int .u32 0]], []⟩ 8 (by kernel_rfl) (by kernel_rfl) (by kernel_rfl) (by kernel_rfl)) ?_
  intro W base args ds gs before hval0 hW hcnd hsz0 _
  have hsz : (DataW.weightsEach Try.prog (Try.f4.params.toList ++ Rows.rollTailsSpec.plain.varTypes Try.prog) (ds ++ gs)).all (· ≤ reachBytes) = true := hsz0
  have hval : ∀ (j : Nat) t v, Try.f4.params[j]? = some t → args[j]? = some v → Value.okWide Try.prog W .any base t v := hval0
  have hW' := hW
  obtain ⟨p, q, hA0, hV, rfl, hfz, hnd⟩ := hW
  have hA : DataW.TrodAll enc Try.prog W 0 (fun _ => true) true Try.f4.params.toList args.toList ds p := hA0
  rw [Try.params4] at hA hval hsz
  obtain ⟨v0, vs0, d0, ds0, p0, q0, hargs, rfl, rfl, h0, r0⟩ := trodAll_cons hA
  obtain ⟨v1, vs1, d1, ds1, p1, q1, rfl, rfl, rfl, h1, r1⟩ := trodAll_cons r0
  obtain ⟨v2, vs2, d2, ds2, p2, q2, rfl, rfl, rfl, h2, r2⟩ := trodAll_cons r1
  obtain ⟨rfl, rfl, rfl⟩ := trodAll_nil r2
  obtain rfl : args = #[v0, v1, v2] := by cases args; simp_all
  obtain ⟨rfl, rfl⟩ := trodVars_none hV
  have k0 := h0
  have lt0 : ∀ x ∈ p0, x.block < W.heap.size := by obtain ⟨m, hm⟩ := k0; exact DataW.trod_lt m _ _ _ hm
  have k1 := h1
  have lt1 : ∀ x ∈ p1, x.block < W.heap.size := by obtain ⟨m, hm⟩ := k1; exact DataW.trod_lt m _ _ _ hm
  have k2 := h2
  have lt2 : ∀ x ∈ p2, x.block < W.heap.size := by obtain ⟨m, hm⟩ := k2; exact DataW.trod_lt m _ _ _ hm
  obtain ⟨ca, rfl, hca, _⟩ : ∃ cs, v0 = .agg cs ∧ cs.size = Try.prog.cellsOf 34 ∧ Row.okWide Try.prog W .any base 34 cs := by
    have := (hval 0 34 v0 rfl rfl)
    simpa only [Value.okWide, Try.underlying34] using this
  obtain ⟨x0, x1, rfl⟩ := array2 (hca.trans (show Try.prog.cellsOf 34 = 2 by kernel_rfl))
  obtain ⟨fuel, hf⟩ := h0
  obtain ⟨xs, m, rfl, hx, _, hl, hall⟩ := DataW.trod_array Try.underlying34 hf
  have hc9 : Try.prog.cellsOf 9 = 1 := by kernel_rfl
  have b0 := hall 0 (by decide)
  have b1 := hall 1 (by decide)
  rw [hc9] at b0 b1
  obtain ⟨y0, y1, rfl⟩ : ∃ y0 y1, xs = [y0, y1] := by
    match xs, hl with
    | [y0, y1], _ => exact ⟨y0, y1, rfl⟩
  obtain ⟨s0, e0, rfl, m0⟩ := DataW.trod_string Try.underlying9 (x := y0) b0
  obtain ⟨s1, e1, rfl, m1⟩ := DataW.trod_string Try.underlying9 (x := y1) b1
  obtain rfl : x0 = .string s0 := by simpa [Value.cells] using e0
  obtain rfl : x1 = .string s1 := by simpa [Value.cells] using e1
  have hd0 : d0 = .agg [.lit (.string s0.data.toList), .lit (.string s1.data.toList)] := congrArg Prod.fst hx
  have z0 : s0.size ≤ 140737488351232 := by
    have := List.all_eq_true.1 hsz _ (DataW.weights_mem_each (j := 0) (t := 34) rfl (by rw [hd0]; rfl) s0.data.toList.length (by simp [DataW.weights, Try.underlying34, DataW.weightsAll]))
    rw [Array.length_toList] at this
    exact of_decide_eq_true this
  have z1 : s1.size ≤ 140737488351232 := by
    have := List.all_eq_true.1 hsz _ (DataW.weights_mem_each (j := 0) (t := 34) rfl (by rw [hd0]; rfl) s1.data.toList.length (by simp [DataW.weights, Try.underlying34, DataW.weightsAll]))
    rw [Array.length_toList] at this
    exact of_decide_eq_true this
  obtain ⟨a1, rfl, hd1, hp1, y1⟩ := open_string Try.underlying9 (hval 1 9 v1 rfl rfl) h1
  have w1 : a1.size ≤ 140737488351232 := by
    have z := sized_string hsz (j := 1) (t := 9) rfl (by rw [hd1]; rfl)
    rw [Array.length_toList] at z
    exact z
  obtain ⟨x20, x21, x22, x23, z20, z21, z22, z23, m2, rfl, hd2, hp2, g20, g21, g22, g23⟩ := open_agg4 Try.underlying24 (by kernel_rfl) (show Try.prog.cellsOf 24 = 4 by kernel_rfl) (hval 2 24 v2 rfl rfl) h2
  obtain ⟨a20, e20, rfl, wa20⟩ := DataW.trod_int Try.underlying3 g20
  obtain ⟨a21, e21, rfl, wa21⟩ := DataW.trod_int Try.underlying3 g21
  obtain ⟨a22, e22, rfl, wa22⟩ := DataW.trod_int Try.underlying3 g22
  obtain ⟨a23, e23, rfl, wa23⟩ := DataW.trod_int Try.underlying22 g23
  simp only [List.cons.injEq, and_true] at e20 e21 e22 e23
  subst e20 e21 e22 e23
  clear hA0 hval0 hsz0
  refine (A.RollTails.calls s0 s1 a1 a20 a21 a22 a23 W z0 z1 w1).mono fun e W' ⟨he, bel⟩ => ?_
  subst he
  exact ⟨_, rfl, _, _, _, [], _, [], hW', trodAll_mk1 (shut_bool Try.underlying4 _), (trodAll_cons_mk (Below.trod laidOut (by kernel_rfl) (of_decide_eq_true (by kernel_rfl)) k0 bel lt0) (trodAll_cons_mk (Below.trod laidOut (by kernel_rfl) (of_decide_eq_true (by kernel_rfl)) k1 bel lt1) (trodAll_cons_mk (Below.trod laidOut (by kernel_rfl) (of_decide_eq_true (by kernel_rfl)) k2 bel lt2) trodAll_mk0))), rfl, bel.frame _, fun h => by cases h⟩
theorem over : Rows.rollTailsRow.holds Try.pinned (OpenSpec.ofChange Rows.rollTailsSpec) :=
  OpenClaim.holds_of_wide 4 Try.f4 rfl rfl rfl rfl rfl rfl rfl ⟨rfl, rfl, rfl, rfl, rfl⟩ rfl rfl rfl rfl rfl (by kernel_rfl) Try.func4 (by kernel_rfl)
    (of_decide_eq_true (by kernel_rfl)) (by unfold Func.isWrapper; first | (rw [if_pos (by decide +kernel)]; kernel_rfl) | (rw [if_neg (by decide +kernel)]; exact ⟨rfl, rfl⟩))
    (fun os started H enc _ => lifted os started H enc)
theorem proved : Rows.RollTailsSaid := over
#print axioms proved
end Go.Proofs.Ytameblpmojfdgaa.rollTails
namespace Go.Proofs.Ytameblpmojfdgaa
/-- The row, under a short name, for the claim. -/
theorem rollTails_holds : Rows.RollTailsSaid := rollTails.proved
end Go.Proofs.Ytameblpmojfdgaa
