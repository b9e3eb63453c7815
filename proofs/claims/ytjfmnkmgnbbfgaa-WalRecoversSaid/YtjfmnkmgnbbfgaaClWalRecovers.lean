/- The closed facts of the row of WalRecovers, each by the kernel's own reckoning. -/
import Derived.Test.YtjfmnkmgnbbfgaaRows
import Derived.JoinedOf
import Derived.WalkKit
import Derived.ProofKit
set_option linter.unusedVariables false
namespace Go.Proofs.Ytjfmnkmgnbbfgaa.walRecovers
open Go.ChangeShapes Go.WideShapes Go.ChangeAt Go.RowKit
theorem c0 : (fun (P : Program) (f : FuncId) (fn : Func) (s : ChangeSpec) (c : OpenClaim) => c.wf (OpenSpec.ofChange s)) Try.prog 4 Try.f4 Rows.walRecoversSpec Rows.walRecoversRow = true := by kernel_rfl
theorem c1 : (fun (P : Program) (f : FuncId) (fn : Func) (s : ChangeSpec) (c : OpenClaim) => laidOutB P) Try.prog 4 Try.f4 Rows.walRecoversSpec Rows.walRecoversRow = true := by kernel_rfl
theorem c2 : (fun (P : Program) (f : FuncId) (fn : Func) (s : ChangeSpec) (c : OpenClaim) => mapsRowed P) Try.prog 4 Try.f4 Rows.walRecoversSpec Rows.walRecoversRow = true := by kernel_rfl
theorem c3 : (fun (P : Program) (f : FuncId) (fn : Func) (s : ChangeSpec) (c : OpenClaim) => fn.params.all (P.readableRec ·)) Try.prog 4 Try.f4 Rows.walRecoversSpec Rows.walRecoversRow = true := by kernel_rfl
theorem c4 : (fun (P : Program) (f : FuncId) (fn : Func) (s : ChangeSpec) (c : OpenClaim) => namedTie P c.named s.vars) Try.prog 4 Try.f4 Rows.walRecoversSpec Rows.walRecoversRow = true := by kernel_rfl
theorem c5 : (fun (P : Program) (f : FuncId) (fn : Func) (s : ChangeSpec) (c : OpenClaim) => (c.stops == [])) Try.prog 4 Try.f4 Rows.walRecoversSpec Rows.walRecoversRow = true := by kernel_rfl
theorem c6 : (fun (P : Program) (f : FuncId) (fn : Func) (s : ChangeSpec) (c : OpenClaim) => (P.stops == [])) Try.prog 4 Try.f4 Rows.walRecoversSpec Rows.walRecoversRow = true := by kernel_rfl
theorem c7 : (fun (P : Program) (f : FuncId) (fn : Func) (s : ChangeSpec) (c : OpenClaim) => (c.knobs == [])) Try.prog 4 Try.f4 Rows.walRecoversSpec Rows.walRecoversRow = true := by kernel_rfl
theorem c8 : (fun (P : Program) (f : FuncId) (fn : Func) (s : ChangeSpec) (c : OpenClaim) => (P.stopKnobs == [])) Try.prog 4 Try.f4 Rows.walRecoversSpec Rows.walRecoversRow = true := by kernel_rfl
theorem c9 : (fun (P : Program) (f : FuncId) (fn : Func) (s : ChangeSpec) (c : OpenClaim) => (c.inPlace == P.inPlace f)) Try.prog 4 Try.f4 Rows.walRecoversSpec Rows.walRecoversRow = true := by kernel_rfl
theorem c10 : (fun (P : Program) (f : FuncId) (fn : Func) (s : ChangeSpec) (c : OpenClaim) => (c.unfollowed == P.unfollowed f)) Try.prog 4 Try.f4 Rows.walRecoversSpec Rows.walRecoversRow = true := by kernel_rfl
theorem c11 : (fun (P : Program) (f : FuncId) (fn : Func) (s : ChangeSpec) (c : OpenClaim) => (c.recurses == P.recurses f)) Try.prog 4 Try.f4 Rows.walRecoversSpec Rows.walRecoversRow = true := by kernel_rfl
theorem c12 : (fun (P : Program) (f : FuncId) (fn : Func) (s : ChangeSpec) (c : OpenClaim) => (c.named == P.varsNamed f)) Try.prog 4 Try.f4 Rows.walRecoversSpec Rows.walRecoversRow = true := by kernel_rfl
theorem c13 : (fun (P : Program) (f : FuncId) (fn : Func) (s : ChangeSpec) (c : OpenClaim) => (c.maps == (fn.params.toList ++ s.plain.varTypes P).any (P.mapsRec ·))) Try.prog 4 Try.f4 Rows.walRecoversSpec Rows.walRecoversRow = true := by kernel_rfl
theorem c14 : (fun (P : Program) (f : FuncId) (fn : Func) (s : ChangeSpec) (c : OpenClaim) => (c.ifaces == (fn.params.toList ++ s.plain.varTypes P).any (P.ifacesRec ·))) Try.prog 4 Try.f4 Rows.walRecoversSpec Rows.walRecoversRow = true := by kernel_rfl
theorem c15 : (fun (P : Program) (f : FuncId) (fn : Func) (s : ChangeSpec) (c : OpenClaim) => (c.mapsOut == P.mapsAmong fn.resultTypes.toList)) Try.prog 4 Try.f4 Rows.walRecoversSpec Rows.walRecoversRow = true := by kernel_rfl
theorem c16 : (fun (P : Program) (f : FuncId) (fn : Func) (s : ChangeSpec) (c : OpenClaim) => (c.loops == (fn.params.toList ++ s.plain.varTypes P).any (P.loopsFrom ·))) Try.prog 4 Try.f4 Rows.walRecoversSpec Rows.walRecoversRow = true := by kernel_rfl
theorem c17 : (fun (P : Program) (f : FuncId) (fn : Func) (s : ChangeSpec) (c : OpenClaim) => (c.wideKeys == (fn.params.toList ++ s.plain.varTypes P ++ fn.resultTypes.toList).any (P.wideKeysFrom ·))) Try.prog 4 Try.f4 Rows.walRecoversSpec Rows.walRecoversRow = true := by kernel_rfl
theorem c18 : (fun (P : Program) (f : FuncId) (fn : Func) (s : ChangeSpec) (c : OpenClaim) => s.vars.all (P.varReadable ·)) Try.prog 4 Try.f4 Rows.walRecoversSpec Rows.walRecoversRow = true := by kernel_rfl
theorem c19 : (fun (P : Program) (f : FuncId) (fn : Func) (s : ChangeSpec) (c : OpenClaim) => fn.resultTypes.all (fun t => P.readableRec t && decide (t < P.types.size))) Try.prog 4 Try.f4 Rows.walRecoversSpec Rows.walRecoversRow = true := by kernel_rfl
theorem c20 : (fun (P : Program) (f : FuncId) (fn : Func) (s : ChangeSpec) (c : OpenClaim) => (c.ifacesOut == fn.resultTypes.toList.any (P.ifacesRec ·))) Try.prog 4 Try.f4 Rows.walRecoversSpec Rows.walRecoversRow = true := by kernel_rfl
theorem c21 : (fun (P : Program) (f : FuncId) (fn : Func) (s : ChangeSpec) (c : OpenClaim) => (c.loopsOut == fn.resultTypes.toList.any (P.loopsFrom ·))) Try.prog 4 Try.f4 Rows.walRecoversSpec Rows.walRecoversRow = true := by kernel_rfl
theorem c22 : (fun (P : Program) (f : FuncId) (fn : Func) (s : ChangeSpec) (c : OpenClaim) => (c.plainKeys == P.plainKeys)) Try.prog 4 Try.f4 Rows.walRecoversSpec Rows.walRecoversRow = true := by kernel_rfl
theorem c23 : (fun (P : Program) (f : FuncId) (fn : Func) (s : ChangeSpec) (c : OpenClaim) => c.shortTexts.isNone) Try.prog 4 Try.f4 Rows.walRecoversSpec Rows.walRecoversRow = true := by kernel_rfl
theorem c24 : (fun (P : Program) (f : FuncId) (fn : Func) (s : ChangeSpec) (c : OpenClaim) => P.stopsHeard) Try.prog 4 Try.f4 Rows.walRecoversSpec Rows.walRecoversRow = true := by kernel_rfl
theorem c25 : (fun (P : Program) (f : FuncId) (fn : Func) (s : ChangeSpec) (c : OpenClaim) => P.mayEnter) Try.prog 4 Try.f4 Rows.walRecoversSpec Rows.walRecoversRow = true := by kernel_rfl
theorem c26 : (fun (P : Program) (f : FuncId) (fn : Func) (s : ChangeSpec) (c : OpenClaim) => (c.lifted == P.liftsFinal)) Try.prog 4 Try.f4 Rows.walRecoversSpec Rows.walRecoversRow = true := by kernel_rfl
theorem c27 : (fun (P : Program) (f : FuncId) (fn : Func) (s : ChangeSpec) (c : OpenClaim) => (P.make == some c.make)) Try.prog 4 Try.f4 Rows.walRecoversSpec Rows.walRecoversRow = true := by kernel_rfl
theorem c28 : (fun (P : Program) (f : FuncId) (fn : Func) (s : ChangeSpec) (c : OpenClaim) => (c.kinds == (if c.domain.isEmpty then [] else fn.params.toList.map fun t => match P.underlying t with | some (.int k) => some k | _ => none))) Try.prog 4 Try.f4 Rows.walRecoversSpec Rows.walRecoversRow = true := by kernel_rfl
theorem c29 : (fun (P : Program) (f : FuncId) (fn : Func) (s : ChangeSpec) (c : OpenClaim) => (c.pinned == c.pinnedBy)) Try.prog 4 Try.f4 Rows.walRecoversSpec Rows.walRecoversRow = true := by kernel_rfl
theorem c30 : (fun (P : Program) (f : FuncId) (fn : Func) (s : ChangeSpec) (c : OpenClaim) => (c.veiled == (fn.params.toList ++ s.plain.varTypes P ++ fn.resultTypes.toList).any (P.veiledRec ·))) Try.prog 4 Try.f4 Rows.walRecoversSpec Rows.walRecoversRow = true := by kernel_rfl
theorem c31 : (fun (P : Program) (f : FuncId) (fn : Func) (s : ChangeSpec) (c : OpenClaim) => c.veiledFits P fn.params.toList (fn.params.toList ++ s.plain.varTypes P ++ fn.resultTypes.toList)) Try.prog 4 Try.f4 Rows.walRecoversSpec Rows.walRecoversRow = true := by kernel_rfl
theorem and2 {a b : Bool} (h : a = true) (k : b = true) : (a && b) = true := by rw [h, k]; rfl
end Go.Proofs.Ytjfmnkmgnbbfgaa.walRecovers
