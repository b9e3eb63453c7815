/- The closed facts of the row of WalRecovers, together. -/
import Derived.Test.YtjfmnkmgnbbfgaaClWalRecovers
namespace Go.Proofs.Ytjfmnkmgnbbfgaa.walRecovers
open Go.ChangeShapes Go.WideShapes Go.ChangeAt Go.RowKit
set_option maxRecDepth 100000 in
theorem closed : joinedFacts Try.prog 4 Try.f4 Rows.walRecoversSpec Rows.walRecoversRow = true := (and2 (and2 (and2 (and2 (and2 (and2 (and2 (and2 (and2 (and2 (and2 (and2 (and2 (and2 (and2 (and2 (and2 (and2 (and2 (and2 (and2 (and2 (and2 (and2 (and2 (and2 (and2 (and2 (and2 (and2 (and2 c0 c1) c2) c3) c4) c5) c6) c7) c8) c9) c10) c11) c12) c13) c14) c15) c16) c17) c18) c19) c20) c21) c22) c23) c24) c25) c26) c27) c28) c29) c30) c31)
theorem named : Try.prog.funcNamed Rows.walRecoversRow.func = some 4 := by kernel_rfl
end Go.Proofs.Ytjfmnkmgnbbfgaa.walRecovers
