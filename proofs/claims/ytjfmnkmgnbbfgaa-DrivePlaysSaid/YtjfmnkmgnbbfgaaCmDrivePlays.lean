/- The closed facts of the row of DrivePlays, together. -/
import Derived.Test.YtjfmnkmgnbbfgaaClDrivePlays
namespace Go.Proofs.Ytjfmnkmgnbbfgaa.drivePlays
open Go.ChangeShapes Go.WideShapes Go.ChangeAt Go.RowKit
set_option maxRecDepth 100000 in
theorem closed : joinedFacts Try.prog 7 Try.f7 Rows.drivePlaysSpec Rows.drivePlaysRow = true := (and2 (and2 (and2 (and2 (and2 (and2 (and2 (and2 (and2 (and2 (and2 (and2 (and2 (and2 (and2 (and2 (and2 (and2 (and2 (and2 (and2 (and2 (and2 (and2 (and2 (and2 (and2 (and2 (and2 (and2 (and2 c0 c1) c2) c3) c4) c5) c6) c7) c8) c9) c10) c11) c12) c13) c14) c15) c16) c17) c18) c19) c20) c21) c22) c23) c24) c25) c26) c27) c28) c29) c30) c31)
theorem named : Try.prog.funcNamed Rows.drivePlaysRow.func = some 7 := by kernel_rfl
end Go.Proofs.Ytjfmnkmgnbbfgaa.drivePlays
