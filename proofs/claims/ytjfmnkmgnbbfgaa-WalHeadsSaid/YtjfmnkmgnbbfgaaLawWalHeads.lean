/- The row of the law WalHeads: for every input it returns true, and each argument reads behind the call as it read before. Conditions: none. -/
import Derived.Test.YtjfmnkmgnbbfgaaRows
import Derived.Test.YtjfmnkmgnbbfgaaCmWalHeads
import Derived.Test.YtjfmnkmgnbbfgaaS3
import Derived.Test.YtjfmnkmgnbbfgaaOpen
import Derived.WalkKit
import Derived.ProofKit
import Derived.OpenShut
import Derived.ShutString
import Derived.ChangeOld
import Derived.Below
import Derived.SizedLaws
import Derived.Lib.SmallJoins
import Derived.Carry
namespace Go.Proofs.Ytjfmnkmgnbbfgaa.walHeads
open Go.ChangeShapes Go.WideShapes Go.ChangeAt Go.RowKit Go.Joins
open Go.ChangeMaps (open_string shut_string)

theorem own : ownKnob Try.prog.godebug = none := by kernel_rfl
theorem laidOut : laidOutB Try.prog = true := by kernel_rfl

set_option maxRecDepth 100000 in
theorem lifted (os : Os) (started : os.Started) (H : Type) (enc : TypeId × Value → H) :
    ReturnsInHanded {} Try.checked os 19 .any (Rows.walHeadsSpec.pre6 enc Try.prog Try.f19 Rows.walHeadsRow.domain false) (Rows.walHeadsSpec.post enc Try.prog Try.f19 false true false false) := by
  refine returnsInHanded_of_change_sized (C := Try.checked) own started (by kernel_rfl) Try.func19
    (ChangeSpec.witness6 (enc := enc) (C := Try.checked) false ⟨#[], #[.slice none 0 0, .slice none 0 0], []⟩ 8 (by kernel_rfl) (by kernel_rfl) (by kernel_rfl) (by kernel_rfl)) ?_
  intro W base args ds gs before hval0 hW hcnd hsz0 _
  have hsz : (DataW.weightsEach Try.prog (Try.f19.params.toList ++ Rows.walHeadsSpec.plain.varTypes Try.prog) (ds ++ gs)).all (· ≤ reachBytes) = true := hsz0
  have hval : ∀ (j : Nat) t v, Try.f19.params[j]? = some t → args[j]? = some v → Value.okWide Try.prog W .any base t v := hval0
  have hW' := hW
  obtain ⟨p, q, hA0, hV, rfl, hfz, hnd⟩ := hW
  have hA : DataW.TrodAll enc Try.prog W 0 (fun _ => true) true Try.f19.params.toList args.toList ds p := hA0
  rw [Try.params19] at hA hval hsz
  obtain ⟨v0, vs0, d0, ds0, p0, q0, hargs, rfl, rfl, h0, r0⟩ := trodAll_cons hA
  obtain ⟨v1, vs1, d1, ds1, p1, q1, rfl, rfl, rfl, h1, r1⟩ := trodAll_cons r0
  obtain ⟨rfl, rfl, rfl⟩ := trodAll_nil r1
  obtain rfl : args = #[v0, v1] := by cases args; simp_all
  obtain ⟨rfl, rfl⟩ := trodVars_none hV
  have k0 := h0
  have lt0 : ∀ x ∈ p0, x.block < W.heap.size := by obtain ⟨m, hm⟩ := k0; exact DataW.trod_lt m _ _ _ hm
  have k1 := h1
  have lt1 : ∀ x ∈ p1, x.block < W.heap.size := by obtain ⟨m, hm⟩ := k1; exact DataW.trod_lt m _ _ _ hm
  obtain ⟨A0, n0, c0, rfl⟩ := okWide_slice Try.underlying22 (hval 0 22 v0 rfl rfl)
  obtain ⟨fuel0, hf0⟩ := h0
  obtain ⟨s0, A0', c0', hcs0, l0, g0⟩ := A.opens_22 _ _ _ hf0
  have hcz0 : [Value.slice A0 n0 c0] = [.slice A0' s0.length c0'] := by simpa [Value.cells] using hcs0
  simp only [List.cons.injEq, Value.slice.injEq, and_true] at hcz0
  obtain ⟨rfl, rfl, rfl⟩ := hcz0
  obtain ⟨A1, n1, c1, rfl⟩ := okWide_slice Try.underlying23 (hval 1 23 v1 rfl rfl)
  obtain ⟨fuel1, hf1⟩ := h1
  obtain ⟨s1, A1', c1', hcs1, l1, g1⟩ := A.opens_23 _ _ _ hf1
  have hcz1 : [Value.slice A1 n1 c1] = [.slice A1' s1.length c1'] := by simpa [Value.cells] using hcs1
  simp only [List.cons.injEq, Value.slice.injEq, and_true] at hcz1
  obtain ⟨rfl, rfl, rfl⟩ := hcz1
  clear hA0 hval0 hsz0
  refine (A.heads_walk A0 c0 s0 A1 c1 s1 W g0 l0 g1 l1).mono fun e W' ⟨he, bel⟩ => ?_
  subst he
  exact ⟨_, rfl, _, _, _, [], _, [], hW', trodAll_mk1 (shut_bool Try.underlying4 _), (trodAll_cons_mk (Below.trod laidOut (by kernel_rfl) (of_decide_eq_true (by kernel_rfl)) k0 bel lt0) (trodAll_cons_mk (Below.trod laidOut (by kernel_rfl) (of_decide_eq_true (by kernel_rfl)) k1 bel lt1) trodAll_mk0)), rfl, bel.frame _, fun h => by cases h⟩
-- closed, named: in the module of the closed facts
theorem over : Rows.walHeadsRow.holds Try.pinned (OpenSpec.ofChange Rows.walHeadsSpec) :=
  OpenClaim.holds_of_wide 19 Try.f19 rfl rfl rfl rfl rfl rfl rfl ⟨rfl, rfl, rfl, rfl, rfl⟩ rfl rfl rfl rfl rfl named Try.func19 closed
    (of_decide_eq_true (by kernel_rfl)) (by unfold Func.isWrapper; first | (rw [if_pos (by decide +kernel)]; kernel_rfl) | (rw [if_neg (by decide +kernel)]; exact ⟨rfl, rfl⟩))
    (fun os started H enc _ => lifted os started H enc)
theorem proved : Rows.WalHeadsSaid := over
#print axioms proved
end Go.Proofs.Ytjfmnkmgnbbfgaa.walHeads
namespace Go.Proofs.Ytjfmnkmgnbbfgaa
/-- The row, under a short name, for the claim. -/
theorem walHeads_holds : Rows.WalHeadsSaid := walHeads.proved
end Go.Proofs.Ytjfmnkmgnbbfgaa
