/- The row of the law WalRecovers: for every input it returns true, and each argument reads behind the call as it read before. Conditions: none. -/
import Derived.Test.YtjfmnkmgnbbfgaaRows
import Derived.Test.YtjfmnkmgnbbfgaaCmWalRecovers
import Derived.Test.YtjfmnkmgnbbfgaaOpen2
import Derived.WalkKit
import Derived.ProofKit
import Derived.OpenShut
import Derived.ShutString
import Derived.ChangeOld
import Derived.Below
import Derived.SizedLaws
import Derived.Lib.SmallJoins
import Derived.Carry
namespace Go.Proofs.Ytjfmnkmgnbbfgaa.walRecovers
open Go.ChangeShapes Go.WideShapes Go.ChangeAt Go.RowKit Go.Joins
open Go.ChangeMaps (open_string shut_string)
theorem own : ownKnob Try.prog.godebug = none := by kernel_rfl
theorem laidOut : laidOutB Try.prog = true := by kernel_rfl
set_option maxRecDepth 100000 in
theorem lifted (os : Os) (started : os.Started) (H : Type) (enc : TypeId × Value → H) :
    ReturnsInHanded {} Try.checked os 4 .any (Rows.walRecoversSpec.pre6 enc Try.prog Try.f4 Rows.walRecoversRow.domain false) (Rows.walRecoversSpec.post enc Try.prog Try.f4 false true false false) := by
  refine returnsInHanded_of_change_sized (C := Try.checked) own started (by kernel_rfl) Try.func4
    (ChangeSpec.witness6 (enc := enc) (C := Try.checked) false ⟨#[], #[.agg #[.slice none 0 0, .slice none 0 0, .int .i64 0]], []⟩ 8 (by kernel_rfl) (by kernel_rfl) (by kernel_rfl) (by kernel_rfl)) ?_
  intro W base args ds gs before hval0 hW hcnd hsz0 _
  have hsz : (DataW.weightsEach Try.prog (Try.f4.params.toList ++ Rows.walRecoversSpec.plain.varTypes Try.prog) (ds ++ gs)).all (· ≤ reachBytes) = true := hsz0
  have hval : ∀ (j : Nat) t v, Try.f4.params[j]? = some t → args[j]? = some v → Value.okWide Try.prog W .any base t v := hval0
  have hW' := hW
  obtain ⟨p, q, hA0, hV, rfl, hfz, hnd⟩ := hW
  have hA : DataW.TrodAll enc Try.prog W 0 (fun _ => true) true Try.f4.params.toList args.toList ds p := hA0
  rw [Try.params4] at hA hval hsz
  obtain ⟨v0, vs0, d0, ds0, p0, q0, hargs, rfl, rfl, h0, r0⟩ := trodAll_cons hA
  obtain ⟨rfl, rfl, rfl⟩ := trodAll_nil r0
  obtain rfl : args = #[v0] := by cases args; simp_all
  obtain ⟨rfl, rfl⟩ := trodVars_none hV
  have k0 := h0
  have lt0 : ∀ x ∈ p0, x.block < W.heap.size := by obtain ⟨m, hm⟩ := k0; exact DataW.trod_lt m _ _ _ hm
  obtain ⟨ca0, rfl, hca0, _⟩ : ∃ cs, v0 = .agg cs ∧ cs.size = Try.prog.cellsOf 29 ∧ Row.okWide Try.prog W .any base 29 cs := by
    have := (hval 0 29 v0 rfl rfl)
    simpa only [Value.okWide, Try.underlying29] using this
  obtain ⟨x00, x01, x02, rfl⟩ := A.array3 (hca0.trans A.cells29)
  obtain ⟨fuel0, hf0⟩ := h0
  obtain ⟨s0, hk0⟩ := A.opens_29 _ _ _ hf0
  obtain ⟨A00, c00, A01, c01, hcs0, l00, g00, l01, g01⟩ := A.k29_open hk0
  have hcz0 : [x00, x01, x02] = [.slice A00 s0.f0.length c00, .slice A01 s0.f1.length c01, .int .i64 s0.f2] := by simpa [Value.cells] using hcs0
  simp only [List.cons.injEq, and_true] at hcz0
  obtain ⟨rfl, rfl, rfl⟩ := hcz0
  clear hA0 hval0 hsz0
  refine (A.recovers_walk A00 c00 s0.f0 A01 c01 s0.f1 s0.f2 (fun k_ => k_ < W.heap.size) W ⟨A.V_str l00 g00, A.V_27 l01 g01⟩).mono fun e W' ⟨he, bel⟩ => ?_
  subst he
  exact ⟨_, rfl, _, _, _, [], _, [], hW', trodAll_mk1 (shut_bool Try.underlying4 _), (trodAll_cons_mk (Below.trod laidOut (by kernel_rfl) (of_decide_eq_true (by kernel_rfl)) k0 bel lt0) trodAll_mk0), rfl, bel.frame _, fun h => by cases h⟩
theorem over : Rows.walRecoversRow.holds Try.pinned (OpenSpec.ofChange Rows.walRecoversSpec) :=
  OpenClaim.holds_of_wide 4 Try.f4 rfl rfl rfl rfl rfl rfl rfl ⟨rfl, rfl, rfl, rfl, rfl⟩ rfl rfl rfl rfl rfl named Try.func4 closed
    (of_decide_eq_true (by kernel_rfl)) (by unfold Func.isWrapper; first | (rw [if_pos (by decide +kernel)]; kernel_rfl) | (rw [if_neg (by decide +kernel)]; exact ⟨rfl, rfl⟩))
    (fun os started H enc _ => lifted os started H enc)
theorem proved : Rows.WalRecoversSaid := over
#print axioms proved
end Go.Proofs.Ytjfmnkmgnbbfgaa.walRecovers
namespace Go.Proofs.Ytjfmnkmgnbbfgaa
theorem walRecovers_holds : Rows.WalRecoversSaid := walRecovers.proved
end Go.Proofs.Ytjfmnkmgnbbfgaa
