/-
  No cell of these rows narrows 'for every input' (looked for: loops, veiled, ifaces, maps, wideKeys, modest, calm, conditions, laid).
  DERIVED. THE GIVEN ROWS OF THIS SEAT. 17 by the template 'for every input the law returns true; each argument reads behind the call as it read before'; 0 by the template 'total and deterministic' (their statements: YtjfmnkmgnbbfgaaTotals.lean).
  GIVEN WITH THE SEED: the statements are not yours to turn. If you find one false, say at which input.
  Laid BY PROGRAM, IN A SANDBOX (cutbox-rows.mjs): the forced cells as the released guide's own fill.sh prints them over the translation debfb168388ba0bc… (all of the seat's roots in one cut). By AI agents, Wed Nov 11 2026. No macro, syntax, notation, axiom, sorry.
-/
import Derived.Test.YtjfmnkmgnbbfgaaChecked
import GoSem.Claim
import GoSem.ClaimJoined
import GoSem.ClaimMapViews
import Derived.JoinedTies
import Derived.KernelRfl
namespace Go.Proofs.Ytjfmnkmgnbbfgaa
/- THE CELL 'sum', in the pinned program and in every row, IS THE sha256 OF THE DUMP (.gsa) THAT YtjfmnkmgnbbfgaaProg.lean LOADS. Nothing in Lean hashes anything: it is a label: what it is worth is what the hold of that sum in a sandbox is worth. -/
noncomputable def Try.pinned : Pinned := { name := "ytjfmnkmgnbbfgaa", sum := "debfb168388ba0bc926bfc94c4a68331f67300be3fb38355b34b8b12c37d1b16", checked := Try.checked }
namespace Rows
def none {H : Type} : Left H := { results := [], args := [] }

/-- 'hibernaclelaw16.WalSwaps': WHATEVER THE INPUT: true; the input reads as it did. -/
def walSwapsSpec : ChangeSpec := { name := "walSwaps", fn := fun _ => fun
  | [d1, d2, d3] => { results := [.lit (.bool true)], args := [d1, d2, d3] }
  | _ => none }
def walSwapsRow : OpenClaim := { program := "ytjfmnkmgnbbfgaa", sum := "debfb168388ba0bc926bfc94c4a68331f67300be3fb38355b34b8b12c37d1b16", func := "hibernacle/hibernaclelaw16.WalSwaps", spec := "walSwaps", inPlace := ["internal/abi.NoEscape", "internal/bytealg.MakeNoZero", "internal/bytealg.IndexByteString"], unfollowed := true, recurses := true, apart := false }
def WalSwapsSaid : Prop := walSwapsRow.holds Try.pinned (OpenSpec.ofChange walSwapsSpec)

/-- ITS FALSE NEIGHBOUR: 'it returns false'. Refute it at one input. -/
def walSwapsWrong : ChangeSpec := { name := "walSwaps", fn := fun _ => fun
  | [d1, d2, d3] => { results := [.lit (.bool false)], args := [d1, d2, d3] }
  | _ => none }
def WalSwapsWrongFalsely : Prop := walSwapsRow.holds Try.pinned (OpenSpec.ofChange walSwapsWrong)

/-- 'hibernaclelaw16.WalRecovers': WHATEVER THE INPUT: true; the input reads as it did. -/
def walRecoversSpec : ChangeSpec := { name := "walRecovers", fn := fun _ => fun
  | [d] => { results := [.lit (.bool true)], args := [d] }
  | _ => none }
def walRecoversRow : OpenClaim := { program := "ytjfmnkmgnbbfgaa", sum := "debfb168388ba0bc926bfc94c4a68331f67300be3fb38355b34b8b12c37d1b16", func := "hibernacle/hibernaclelaw16.WalRecovers", spec := "walRecovers", inPlace := ["internal/abi.NoEscape", "internal/bytealg.MakeNoZero", "internal/bytealg.IndexByteString"], unfollowed := true, recurses := true, apart := false }
def WalRecoversSaid : Prop := walRecoversRow.holds Try.pinned (OpenSpec.ofChange walRecoversSpec)

/-- ITS FALSE NEIGHBOUR: 'it returns false'. Refute it at one input. -/
def walRecoversWrong : ChangeSpec := { name := "walRecovers", fn := fun _ => fun
  | [d] => { results := [.lit (.bool false)], args := [d] }
  | _ => none }
def WalRecoversWrongFalsely : Prop := walRecoversRow.holds Try.pinned (OpenSpec.ofChange walRecoversWrong)

/-- 'hibernaclelaw15.DriveChecks': WHATEVER THE INPUT: true; the input reads as it did. -/
def driveChecksSpec : ChangeSpec := { name := "driveChecks", fn := fun _ => fun
  | [d1, d2] => { results := [.lit (.bool true)], args := [d1, d2] }
  | _ => none }
def driveChecksRow : OpenClaim := { program := "ytjfmnkmgnbbfgaa", sum := "debfb168388ba0bc926bfc94c4a68331f67300be3fb38355b34b8b12c37d1b16", func := "hibernacle/hibernaclelaw15.DriveChecks", spec := "driveChecks", inPlace := ["internal/abi.NoEscape", "internal/bytealg.MakeNoZero"], unfollowed := true, recurses := true, apart := false }
def DriveChecksSaid : Prop := driveChecksRow.holds Try.pinned (OpenSpec.ofChange driveChecksSpec)

/-- ITS FALSE NEIGHBOUR: 'it returns false'. Refute it at one input. -/
def driveChecksWrong : ChangeSpec := { name := "driveChecks", fn := fun _ => fun
  | [d1, d2] => { results := [.lit (.bool false)], args := [d1, d2] }
  | _ => none }
def DriveChecksWrongFalsely : Prop := driveChecksRow.holds Try.pinned (OpenSpec.ofChange driveChecksWrong)

/-- 'hibernaclelaw15.DriveHalves': WHATEVER THE INPUT: true; the input reads as it did. -/
def driveHalvesSpec : ChangeSpec := { name := "driveHalves", fn := fun _ => fun
  | [d1, d2] => { results := [.lit (.bool true)], args := [d1, d2] }
  | _ => none }
def driveHalvesRow : OpenClaim := { program := "ytjfmnkmgnbbfgaa", sum := "debfb168388ba0bc926bfc94c4a68331f67300be3fb38355b34b8b12c37d1b16", func := "hibernacle/hibernaclelaw15.DriveHalves", spec := "driveHalves", inPlace := ["internal/abi.NoEscape", "internal/bytealg.MakeNoZero"], unfollowed := true, recurses := true, apart := false }
def DriveHalvesSaid : Prop := driveHalvesRow.holds Try.pinned (OpenSpec.ofChange driveHalvesSpec)

/-- ITS FALSE NEIGHBOUR: 'it returns false'. Refute it at one input. -/
def driveHalvesWrong : ChangeSpec := { name := "driveHalves", fn := fun _ => fun
  | [d1, d2] => { results := [.lit (.bool false)], args := [d1, d2] }
  | _ => none }
def DriveHalvesWrongFalsely : Prop := driveHalvesRow.holds Try.pinned (OpenSpec.ofChange driveHalvesWrong)

/-- 'hibernaclelaw15.DrivePlays': WHATEVER THE INPUT: true; the input reads as it did. -/
def drivePlaysSpec : ChangeSpec := { name := "drivePlays", fn := fun _ => fun
  | [d1, d2, d3] => { results := [.lit (.bool true)], args := [d1, d2, d3] }
  | _ => none }
def drivePlaysRow : OpenClaim := { program := "ytjfmnkmgnbbfgaa", sum := "debfb168388ba0bc926bfc94c4a68331f67300be3fb38355b34b8b12c37d1b16", func := "hibernacle/hibernaclelaw15.DrivePlays", spec := "drivePlays", inPlace := ["internal/abi.NoEscape", "internal/bytealg.MakeNoZero"], unfollowed := true, recurses := true, apart := false }
def DrivePlaysSaid : Prop := drivePlaysRow.holds Try.pinned (OpenSpec.ofChange drivePlaysSpec)

/-- ITS FALSE NEIGHBOUR: 'it returns false'. Refute it at one input. -/
def drivePlaysWrong : ChangeSpec := { name := "drivePlays", fn := fun _ => fun
  | [d1, d2, d3] => { results := [.lit (.bool false)], args := [d1, d2, d3] }
  | _ => none }
def DrivePlaysWrongFalsely : Prop := drivePlaysRow.holds Try.pinned (OpenSpec.ofChange drivePlaysWrong)

/-- 'hibernaclelaw15.DriveGone': WHATEVER THE INPUT: true; the input reads as it did. -/
def driveGoneSpec : ChangeSpec := { name := "driveGone", fn := fun _ => fun
  | [d1, d2] => { results := [.lit (.bool true)], args := [d1, d2] }
  | _ => none }
def driveGoneRow : OpenClaim := { program := "ytjfmnkmgnbbfgaa", sum := "debfb168388ba0bc926bfc94c4a68331f67300be3fb38355b34b8b12c37d1b16", func := "hibernacle/hibernaclelaw15.DriveGone", spec := "driveGone", inPlace := ["internal/abi.NoEscape", "internal/bytealg.MakeNoZero"], unfollowed := true, recurses := true, apart := false }
def DriveGoneSaid : Prop := driveGoneRow.holds Try.pinned (OpenSpec.ofChange driveGoneSpec)

/-- ITS FALSE NEIGHBOUR: 'it returns false'. Refute it at one input. -/
def driveGoneWrong : ChangeSpec := { name := "driveGone", fn := fun _ => fun
  | [d1, d2] => { results := [.lit (.bool false)], args := [d1, d2] }
  | _ => none }
def DriveGoneWrongFalsely : Prop := driveGoneRow.holds Try.pinned (OpenSpec.ofChange driveGoneWrong)

/-- 'hibernaclelaw02.HashSums': WHATEVER THE INPUT: true; the input reads as it did. -/
def hashSumsSpec : ChangeSpec := { name := "hashSums", fn := fun _ => fun
  | [d] => { results := [.lit (.bool true)], args := [d] }
  | _ => none }
def hashSumsRow : OpenClaim := { program := "ytjfmnkmgnbbfgaa", sum := "debfb168388ba0bc926bfc94c4a68331f67300be3fb38355b34b8b12c37d1b16", func := "hibernacle/hibernaclelaw02.HashSums", spec := "hashSums", inPlace := ["internal/abi.NoEscape", "internal/bytealg.MakeNoZero", "internal/bytealg.IndexByteString"], unfollowed := true, recurses := true, apart := false }
def HashSumsSaid : Prop := hashSumsRow.holds Try.pinned (OpenSpec.ofChange hashSumsSpec)

/-- ITS FALSE NEIGHBOUR: 'it returns false'. Refute it at one input. -/
def hashSumsWrong : ChangeSpec := { name := "hashSums", fn := fun _ => fun
  | [d] => { results := [.lit (.bool false)], args := [d] }
  | _ => none }
def HashSumsWrongFalsely : Prop := hashSumsRow.holds Try.pinned (OpenSpec.ofChange hashSumsWrong)

/-- 'hibernaclelaw02.HashKeyed': WHATEVER THE INPUT: true; the input reads as it did. -/
def hashKeyedSpec : ChangeSpec := { name := "hashKeyed", fn := fun _ => fun
  | [d1, d2] => { results := [.lit (.bool true)], args := [d1, d2] }
  | _ => none }
def hashKeyedRow : OpenClaim := { program := "ytjfmnkmgnbbfgaa", sum := "debfb168388ba0bc926bfc94c4a68331f67300be3fb38355b34b8b12c37d1b16", func := "hibernacle/hibernaclelaw02.HashKeyed", spec := "hashKeyed", inPlace := ["internal/abi.NoEscape", "internal/bytealg.MakeNoZero", "internal/bytealg.IndexByteString"], unfollowed := true, recurses := true, apart := false }
def HashKeyedSaid : Prop := hashKeyedRow.holds Try.pinned (OpenSpec.ofChange hashKeyedSpec)

/-- ITS FALSE NEIGHBOUR: 'it returns false'. Refute it at one input. -/
def hashKeyedWrong : ChangeSpec := { name := "hashKeyed", fn := fun _ => fun
  | [d1, d2] => { results := [.lit (.bool false)], args := [d1, d2] }
  | _ => none }
def HashKeyedWrongFalsely : Prop := hashKeyedRow.holds Try.pinned (OpenSpec.ofChange hashKeyedWrong)

/-- 'hibernaclelaw02.HashParts': WHATEVER THE INPUT: true; the input reads as it did. -/
def hashPartsSpec : ChangeSpec := { name := "hashParts", fn := fun _ => fun
  | [d1, d2, d3] => { results := [.lit (.bool true)], args := [d1, d2, d3] }
  | _ => none }
def hashPartsRow : OpenClaim := { program := "ytjfmnkmgnbbfgaa", sum := "debfb168388ba0bc926bfc94c4a68331f67300be3fb38355b34b8b12c37d1b16", func := "hibernacle/hibernaclelaw02.HashParts", spec := "hashParts", inPlace := ["internal/abi.NoEscape", "internal/bytealg.MakeNoZero", "internal/bytealg.IndexByteString"], unfollowed := true, recurses := true, apart := false }
def HashPartsSaid : Prop := hashPartsRow.holds Try.pinned (OpenSpec.ofChange hashPartsSpec)

/-- ITS FALSE NEIGHBOUR: 'it returns false'. Refute it at one input. -/
def hashPartsWrong : ChangeSpec := { name := "hashParts", fn := fun _ => fun
  | [d1, d2, d3] => { results := [.lit (.bool false)], args := [d1, d2, d3] }
  | _ => none }
def HashPartsWrongFalsely : Prop := hashPartsRow.holds Try.pinned (OpenSpec.ofChange hashPartsWrong)

/-- 'hibernaclelaw02.HashFilled': WHATEVER THE INPUT: true; the input reads as it did. -/
def hashFilledSpec : ChangeSpec := { name := "hashFilled", fn := fun _ => fun
  | [d1, d2, d3] => { results := [.lit (.bool true)], args := [d1, d2, d3] }
  | _ => none }
def hashFilledRow : OpenClaim := { program := "ytjfmnkmgnbbfgaa", sum := "debfb168388ba0bc926bfc94c4a68331f67300be3fb38355b34b8b12c37d1b16", func := "hibernacle/hibernaclelaw02.HashFilled", spec := "hashFilled", inPlace := ["internal/abi.NoEscape", "internal/bytealg.MakeNoZero", "internal/bytealg.IndexByteString"], unfollowed := true, recurses := true, apart := false }
def HashFilledSaid : Prop := hashFilledRow.holds Try.pinned (OpenSpec.ofChange hashFilledSpec)

/-- ITS FALSE NEIGHBOUR: 'it returns false'. Refute it at one input. -/
def hashFilledWrong : ChangeSpec := { name := "hashFilled", fn := fun _ => fun
  | [d1, d2, d3] => { results := [.lit (.bool false)], args := [d1, d2, d3] }
  | _ => none }
def HashFilledWrongFalsely : Prop := hashFilledRow.holds Try.pinned (OpenSpec.ofChange hashFilledWrong)

/-- 'hibernaclelaw15.DriveReads': WHATEVER THE INPUT: true; the input reads as it did. -/
def driveReadsSpec : ChangeSpec := { name := "driveReads", fn := fun _ => fun
  | [d1, d2, d3] => { results := [.lit (.bool true)], args := [d1, d2, d3] }
  | _ => none }
def driveReadsRow : OpenClaim := { program := "ytjfmnkmgnbbfgaa", sum := "debfb168388ba0bc926bfc94c4a68331f67300be3fb38355b34b8b12c37d1b16", func := "hibernacle/hibernaclelaw15.DriveReads", spec := "driveReads", inPlace := ["internal/abi.NoEscape", "internal/bytealg.MakeNoZero"], unfollowed := true, recurses := true, apart := false }
def DriveReadsSaid : Prop := driveReadsRow.holds Try.pinned (OpenSpec.ofChange driveReadsSpec)

/-- ITS FALSE NEIGHBOUR: 'it returns false'. Refute it at one input. -/
def driveReadsWrong : ChangeSpec := { name := "driveReads", fn := fun _ => fun
  | [d1, d2, d3] => { results := [.lit (.bool false)], args := [d1, d2, d3] }
  | _ => none }
def DriveReadsWrongFalsely : Prop := driveReadsRow.holds Try.pinned (OpenSpec.ofChange driveReadsWrong)

/-- 'hibernaclelaw15.DriveSure': WHATEVER THE INPUT: true; the input reads as it did. -/
def driveSureSpec : ChangeSpec := { name := "driveSure", fn := fun _ => fun
  | [d1, d2] => { results := [.lit (.bool true)], args := [d1, d2] }
  | _ => none }
def driveSureRow : OpenClaim := { program := "ytjfmnkmgnbbfgaa", sum := "debfb168388ba0bc926bfc94c4a68331f67300be3fb38355b34b8b12c37d1b16", func := "hibernacle/hibernaclelaw15.DriveSure", spec := "driveSure", inPlace := ["internal/abi.NoEscape", "internal/bytealg.MakeNoZero"], unfollowed := true, recurses := true, apart := false }
def DriveSureSaid : Prop := driveSureRow.holds Try.pinned (OpenSpec.ofChange driveSureSpec)

/-- ITS FALSE NEIGHBOUR: 'it returns false'. Refute it at one input. -/
def driveSureWrong : ChangeSpec := { name := "driveSure", fn := fun _ => fun
  | [d1, d2] => { results := [.lit (.bool false)], args := [d1, d2] }
  | _ => none }
def DriveSureWrongFalsely : Prop := driveSureRow.holds Try.pinned (OpenSpec.ofChange driveSureWrong)

/-- 'hibernaclelaw02.HashTexts': WHATEVER THE INPUT: true; the input reads as it did. -/
def hashTextsSpec : ChangeSpec := { name := "hashTexts", fn := fun _ => fun
  | [d1, d2] => { results := [.lit (.bool true)], args := [d1, d2] }
  | _ => none }
def hashTextsRow : OpenClaim := { program := "ytjfmnkmgnbbfgaa", sum := "debfb168388ba0bc926bfc94c4a68331f67300be3fb38355b34b8b12c37d1b16", func := "hibernacle/hibernaclelaw02.HashTexts", spec := "hashTexts", inPlace := ["internal/abi.NoEscape", "internal/bytealg.MakeNoZero", "internal/bytealg.IndexByteString"], unfollowed := true, recurses := true, apart := false }
def HashTextsSaid : Prop := hashTextsRow.holds Try.pinned (OpenSpec.ofChange hashTextsSpec)

/-- ITS FALSE NEIGHBOUR: 'it returns false'. Refute it at one input. -/
def hashTextsWrong : ChangeSpec := { name := "hashTexts", fn := fun _ => fun
  | [d1, d2] => { results := [.lit (.bool false)], args := [d1, d2] }
  | _ => none }
def HashTextsWrongFalsely : Prop := hashTextsRow.holds Try.pinned (OpenSpec.ofChange hashTextsWrong)

/-- 'hibernaclelaw02.HashOf': WHATEVER THE INPUT: true; the input reads as it did. -/
def hashOfSpec : ChangeSpec := { name := "hashOf", fn := fun _ => fun
  | [d] => { results := [.lit (.bool true)], args := [d] }
  | _ => none }
def hashOfRow : OpenClaim := { program := "ytjfmnkmgnbbfgaa", sum := "debfb168388ba0bc926bfc94c4a68331f67300be3fb38355b34b8b12c37d1b16", func := "hibernacle/hibernaclelaw02.HashOf", spec := "hashOf", inPlace := ["internal/abi.NoEscape", "internal/bytealg.MakeNoZero", "internal/bytealg.IndexByteString"], unfollowed := true, recurses := true, apart := false }
def HashOfSaid : Prop := hashOfRow.holds Try.pinned (OpenSpec.ofChange hashOfSpec)

/-- ITS FALSE NEIGHBOUR: 'it returns false'. Refute it at one input. -/
def hashOfWrong : ChangeSpec := { name := "hashOf", fn := fun _ => fun
  | [d] => { results := [.lit (.bool false)], args := [d] }
  | _ => none }
def HashOfWrongFalsely : Prop := hashOfRow.holds Try.pinned (OpenSpec.ofChange hashOfWrong)

/-- 'hibernaclelaw16.WalFormats': WHATEVER THE INPUT: true; the input reads as it did. -/
def walFormatsSpec : ChangeSpec := { name := "walFormats", fn := fun _ => fun
  | [d] => { results := [.lit (.bool true)], args := [d] }
  | _ => none }
def walFormatsRow : OpenClaim := { program := "ytjfmnkmgnbbfgaa", sum := "debfb168388ba0bc926bfc94c4a68331f67300be3fb38355b34b8b12c37d1b16", func := "hibernacle/hibernaclelaw16.WalFormats", spec := "walFormats", inPlace := ["internal/abi.NoEscape", "internal/bytealg.MakeNoZero", "internal/bytealg.IndexByteString"], unfollowed := true, recurses := true, apart := false }
def WalFormatsSaid : Prop := walFormatsRow.holds Try.pinned (OpenSpec.ofChange walFormatsSpec)

/-- ITS FALSE NEIGHBOUR: 'it returns false'. Refute it at one input. -/
def walFormatsWrong : ChangeSpec := { name := "walFormats", fn := fun _ => fun
  | [d] => { results := [.lit (.bool false)], args := [d] }
  | _ => none }
def WalFormatsWrongFalsely : Prop := walFormatsRow.holds Try.pinned (OpenSpec.ofChange walFormatsWrong)

/-- 'hibernaclelaw16.WalCommits': WHATEVER THE INPUT: true; the input reads as it did. -/
def walCommitsSpec : ChangeSpec := { name := "walCommits", fn := fun _ => fun
  | [d1, d2] => { results := [.lit (.bool true)], args := [d1, d2] }
  | _ => none }
def walCommitsRow : OpenClaim := { program := "ytjfmnkmgnbbfgaa", sum := "debfb168388ba0bc926bfc94c4a68331f67300be3fb38355b34b8b12c37d1b16", func := "hibernacle/hibernaclelaw16.WalCommits", spec := "walCommits", inPlace := ["internal/abi.NoEscape", "internal/bytealg.MakeNoZero", "internal/bytealg.IndexByteString"], unfollowed := true, recurses := true, apart := false }
def WalCommitsSaid : Prop := walCommitsRow.holds Try.pinned (OpenSpec.ofChange walCommitsSpec)

/-- ITS FALSE NEIGHBOUR: 'it returns false'. Refute it at one input. -/
def walCommitsWrong : ChangeSpec := { name := "walCommits", fn := fun _ => fun
  | [d1, d2] => { results := [.lit (.bool false)], args := [d1, d2] }
  | _ => none }
def WalCommitsWrongFalsely : Prop := walCommitsRow.holds Try.pinned (OpenSpec.ofChange walCommitsWrong)

/-- 'hibernaclelaw16.WalHeads': WHATEVER THE INPUT: true; the input reads as it did. -/
def walHeadsSpec : ChangeSpec := { name := "walHeads", fn := fun _ => fun
  | [d1, d2] => { results := [.lit (.bool true)], args := [d1, d2] }
  | _ => none }
def walHeadsRow : OpenClaim := { program := "ytjfmnkmgnbbfgaa", sum := "debfb168388ba0bc926bfc94c4a68331f67300be3fb38355b34b8b12c37d1b16", func := "hibernacle/hibernaclelaw16.WalHeads", spec := "walHeads", inPlace := ["internal/abi.NoEscape", "internal/bytealg.MakeNoZero", "internal/bytealg.IndexByteString"], unfollowed := true, recurses := true, apart := false }
def WalHeadsSaid : Prop := walHeadsRow.holds Try.pinned (OpenSpec.ofChange walHeadsSpec)

/-- ITS FALSE NEIGHBOUR: 'it returns false'. Refute it at one input. -/
def walHeadsWrong : ChangeSpec := { name := "walHeads", fn := fun _ => fun
  | [d1, d2] => { results := [.lit (.bool false)], args := [d1, d2] }
  | _ => none }
def WalHeadsWrongFalsely : Prop := walHeadsRow.holds Try.pinned (OpenSpec.ofChange walHeadsWrong)

/- THE SECOND FORM. 'bulk': how many values and letters a reading holds, each counted each time it is reached (what is shared counts as often as it is met; a slice's spare places count too). A statement '..UptoSaid' is the law's where the arguments, and the package variables that the reading takes, are together of bulk at most 1048576: NARROWER than '..Said'. Prove '..Said' where nothing that the law and all that it calls make is longer than what came in: it says more and counts as full. Else prove '..UptoSaid'. A law counts once. -/
mutual
def uptoBulk {H : Type} : DataW H → Nat
  | .lit (.string bytes) => bytes.length + 1
  | .lit _ => 1
  | .nil => 1
  | .ptr d => uptoBulk d + 1
  | .slice elems spare => uptoBulkAll elems + uptoBulkAll spare + 1
  | .agg parts => uptoBulkAll parts + 1
  | .iface _ d => uptoBulk d + 1
  | .map entries => uptoBulkEntries entries + 1
  | .held _ => 1
def uptoBulkAll {H : Type} : List (DataW H) → Nat
  | [] => 0
  | d :: r => uptoBulk d + uptoBulkAll r
def uptoBulkEntries {H : Type} : List (Lit × DataW H) → Nat
  | [] => 0
  | x :: r => uptoBulkEntry x + uptoBulkEntries r
def uptoBulkEntry {H : Type} : Lit × DataW H → Nat
  | (.string bytes, d) => bytes.length + uptoBulk d + 1
  | (_, d) => uptoBulk d + 1
 end
def uptoSmall : (H : Type) → List (DataW H) → Bool := fun _ ds => decide (uptoBulkAll ds ≤ 1048576)
def OpenSpec.upto (s : _root_.Go.ChangeSpec) : _root_.Go.OpenSpec := { _root_.Go.OpenSpec.ofChange s with cond := some uptoSmall }

/-- 'hibernaclelaw16.WalSwaps', WHERE WHAT IT READS IS OF BULK AT MOST 1048576: true; the input reads as it did. -/
def walSwapsUptoRow : OpenClaim := { program := "ytjfmnkmgnbbfgaa", sum := "debfb168388ba0bc926bfc94c4a68331f67300be3fb38355b34b8b12c37d1b16", func := "hibernacle/hibernaclelaw16.WalSwaps", spec := "walSwaps", inPlace := ["internal/abi.NoEscape", "internal/bytealg.MakeNoZero", "internal/bytealg.IndexByteString"], unfollowed := true, recurses := true, apart := false, narrowed := true }
def WalSwapsUptoSaid : Prop := walSwapsUptoRow.holds Try.pinned (OpenSpec.upto walSwapsSpec)

/-- 'hibernaclelaw16.WalRecovers', WHERE WHAT IT READS IS OF BULK AT MOST 1048576: true; the input reads as it did. -/
def walRecoversUptoRow : OpenClaim := { program := "ytjfmnkmgnbbfgaa", sum := "debfb168388ba0bc926bfc94c4a68331f67300be3fb38355b34b8b12c37d1b16", func := "hibernacle/hibernaclelaw16.WalRecovers", spec := "walRecovers", inPlace := ["internal/abi.NoEscape", "internal/bytealg.MakeNoZero", "internal/bytealg.IndexByteString"], unfollowed := true, recurses := true, apart := false, narrowed := true }
def WalRecoversUptoSaid : Prop := walRecoversUptoRow.holds Try.pinned (OpenSpec.upto walRecoversSpec)

/-- 'hibernaclelaw15.DriveChecks', WHERE WHAT IT READS IS OF BULK AT MOST 1048576: true; the input reads as it did. -/
def driveChecksUptoRow : OpenClaim := { program := "ytjfmnkmgnbbfgaa", sum := "debfb168388ba0bc926bfc94c4a68331f67300be3fb38355b34b8b12c37d1b16", func := "hibernacle/hibernaclelaw15.DriveChecks", spec := "driveChecks", inPlace := ["internal/abi.NoEscape", "internal/bytealg.MakeNoZero"], unfollowed := true, recurses := true, apart := false, narrowed := true }
def DriveChecksUptoSaid : Prop := driveChecksUptoRow.holds Try.pinned (OpenSpec.upto driveChecksSpec)

/-- 'hibernaclelaw15.DriveHalves', WHERE WHAT IT READS IS OF BULK AT MOST 1048576: true; the input reads as it did. -/
def driveHalvesUptoRow : OpenClaim := { program := "ytjfmnkmgnbbfgaa", sum := "debfb168388ba0bc926bfc94c4a68331f67300be3fb38355b34b8b12c37d1b16", func := "hibernacle/hibernaclelaw15.DriveHalves", spec := "driveHalves", inPlace := ["internal/abi.NoEscape", "internal/bytealg.MakeNoZero"], unfollowed := true, recurses := true, apart := false, narrowed := true }
def DriveHalvesUptoSaid : Prop := driveHalvesUptoRow.holds Try.pinned (OpenSpec.upto driveHalvesSpec)

/-- 'hibernaclelaw15.DrivePlays', WHERE WHAT IT READS IS OF BULK AT MOST 1048576: true; the input reads as it did. -/
def drivePlaysUptoRow : OpenClaim := { program := "ytjfmnkmgnbbfgaa", sum := "debfb168388ba0bc926bfc94c4a68331f67300be3fb38355b34b8b12c37d1b16", func := "hibernacle/hibernaclelaw15.DrivePlays", spec := "drivePlays", inPlace := ["internal/abi.NoEscape", "internal/bytealg.MakeNoZero"], unfollowed := true, recurses := true, apart := false, narrowed := true }
def DrivePlaysUptoSaid : Prop := drivePlaysUptoRow.holds Try.pinned (OpenSpec.upto drivePlaysSpec)

/-- 'hibernaclelaw15.DriveGone', WHERE WHAT IT READS IS OF BULK AT MOST 1048576: true; the input reads as it did. -/
def driveGoneUptoRow : OpenClaim := { program := "ytjfmnkmgnbbfgaa", sum := "debfb168388ba0bc926bfc94c4a68331f67300be3fb38355b34b8b12c37d1b16", func := "hibernacle/hibernaclelaw15.DriveGone", spec := "driveGone", inPlace := ["internal/abi.NoEscape", "internal/bytealg.MakeNoZero"], unfollowed := true, recurses := true, apart := false, narrowed := true }
def DriveGoneUptoSaid : Prop := driveGoneUptoRow.holds Try.pinned (OpenSpec.upto driveGoneSpec)

/-- 'hibernaclelaw02.HashSums', WHERE WHAT IT READS IS OF BULK AT MOST 1048576: true; the input reads as it did. -/
def hashSumsUptoRow : OpenClaim := { program := "ytjfmnkmgnbbfgaa", sum := "debfb168388ba0bc926bfc94c4a68331f67300be3fb38355b34b8b12c37d1b16", func := "hibernacle/hibernaclelaw02.HashSums", spec := "hashSums", inPlace := ["internal/abi.NoEscape", "internal/bytealg.MakeNoZero", "internal/bytealg.IndexByteString"], unfollowed := true, recurses := true, apart := false, narrowed := true }
def HashSumsUptoSaid : Prop := hashSumsUptoRow.holds Try.pinned (OpenSpec.upto hashSumsSpec)

/-- 'hibernaclelaw02.HashKeyed', WHERE WHAT IT READS IS OF BULK AT MOST 1048576: true; the input reads as it did. -/
def hashKeyedUptoRow : OpenClaim := { program := "ytjfmnkmgnbbfgaa", sum := "debfb168388ba0bc926bfc94c4a68331f67300be3fb38355b34b8b12c37d1b16", func := "hibernacle/hibernaclelaw02.HashKeyed", spec := "hashKeyed", inPlace := ["internal/abi.NoEscape", "internal/bytealg.MakeNoZero", "internal/bytealg.IndexByteString"], unfollowed := true, recurses := true, apart := false, narrowed := true }
def HashKeyedUptoSaid : Prop := hashKeyedUptoRow.holds Try.pinned (OpenSpec.upto hashKeyedSpec)

/-- 'hibernaclelaw02.HashParts', WHERE WHAT IT READS IS OF BULK AT MOST 1048576: true; the input reads as it did. -/
def hashPartsUptoRow : OpenClaim := { program := "ytjfmnkmgnbbfgaa", sum := "debfb168388ba0bc926bfc94c4a68331f67300be3fb38355b34b8b12c37d1b16", func := "hibernacle/hibernaclelaw02.HashParts", spec := "hashParts", inPlace := ["internal/abi.NoEscape", "internal/bytealg.MakeNoZero", "internal/bytealg.IndexByteString"], unfollowed := true, recurses := true, apart := false, narrowed := true }
def HashPartsUptoSaid : Prop := hashPartsUptoRow.holds Try.pinned (OpenSpec.upto hashPartsSpec)

/-- 'hibernaclelaw02.HashFilled', WHERE WHAT IT READS IS OF BULK AT MOST 1048576: true; the input reads as it did. -/
def hashFilledUptoRow : OpenClaim := { program := "ytjfmnkmgnbbfgaa", sum := "debfb168388ba0bc926bfc94c4a68331f67300be3fb38355b34b8b12c37d1b16", func := "hibernacle/hibernaclelaw02.HashFilled", spec := "hashFilled", inPlace := ["internal/abi.NoEscape", "internal/bytealg.MakeNoZero", "internal/bytealg.IndexByteString"], unfollowed := true, recurses := true, apart := false, narrowed := true }
def HashFilledUptoSaid : Prop := hashFilledUptoRow.holds Try.pinned (OpenSpec.upto hashFilledSpec)

/-- 'hibernaclelaw15.DriveReads', WHERE WHAT IT READS IS OF BULK AT MOST 1048576: true; the input reads as it did. -/
def driveReadsUptoRow : OpenClaim := { program := "ytjfmnkmgnbbfgaa", sum := "debfb168388ba0bc926bfc94c4a68331f67300be3fb38355b34b8b12c37d1b16", func := "hibernacle/hibernaclelaw15.DriveReads", spec := "driveReads", inPlace := ["internal/abi.NoEscape", "internal/bytealg.MakeNoZero"], unfollowed := true, recurses := true, apart := false, narrowed := true }
def DriveReadsUptoSaid : Prop := driveReadsUptoRow.holds Try.pinned (OpenSpec.upto driveReadsSpec)

/-- 'hibernaclelaw15.DriveSure', WHERE WHAT IT READS IS OF BULK AT MOST 1048576: true; the input reads as it did. -/
def driveSureUptoRow : OpenClaim := { program := "ytjfmnkmgnbbfgaa", sum := "debfb168388ba0bc926bfc94c4a68331f67300be3fb38355b34b8b12c37d1b16", func := "hibernacle/hibernaclelaw15.DriveSure", spec := "driveSure", inPlace := ["internal/abi.NoEscape", "internal/bytealg.MakeNoZero"], unfollowed := true, recurses := true, apart := false, narrowed := true }
def DriveSureUptoSaid : Prop := driveSureUptoRow.holds Try.pinned (OpenSpec.upto driveSureSpec)

/-- 'hibernaclelaw02.HashTexts', WHERE WHAT IT READS IS OF BULK AT MOST 1048576: true; the input reads as it did. -/
def hashTextsUptoRow : OpenClaim := { program := "ytjfmnkmgnbbfgaa", sum := "debfb168388ba0bc926bfc94c4a68331f67300be3fb38355b34b8b12c37d1b16", func := "hibernacle/hibernaclelaw02.HashTexts", spec := "hashTexts", inPlace := ["internal/abi.NoEscape", "internal/bytealg.MakeNoZero", "internal/bytealg.IndexByteString"], unfollowed := true, recurses := true, apart := false, narrowed := true }
def HashTextsUptoSaid : Prop := hashTextsUptoRow.holds Try.pinned (OpenSpec.upto hashTextsSpec)

/-- 'hibernaclelaw02.HashOf', WHERE WHAT IT READS IS OF BULK AT MOST 1048576: true; the input reads as it did. -/
def hashOfUptoRow : OpenClaim := { program := "ytjfmnkmgnbbfgaa", sum := "debfb168388ba0bc926bfc94c4a68331f67300be3fb38355b34b8b12c37d1b16", func := "hibernacle/hibernaclelaw02.HashOf", spec := "hashOf", inPlace := ["internal/abi.NoEscape", "internal/bytealg.MakeNoZero", "internal/bytealg.IndexByteString"], unfollowed := true, recurses := true, apart := false, narrowed := true }
def HashOfUptoSaid : Prop := hashOfUptoRow.holds Try.pinned (OpenSpec.upto hashOfSpec)

/-- 'hibernaclelaw16.WalFormats', WHERE WHAT IT READS IS OF BULK AT MOST 1048576: true; the input reads as it did. -/
def walFormatsUptoRow : OpenClaim := { program := "ytjfmnkmgnbbfgaa", sum := "debfb168388ba0bc926bfc94c4a68331f67300be3fb38355b34b8b12c37d1b16", func := "hibernacle/hibernaclelaw16.WalFormats", spec := "walFormats", inPlace := ["internal/abi.NoEscape", "internal/bytealg.MakeNoZero", "internal/bytealg.IndexByteString"], unfollowed := true, recurses := true, apart := false, narrowed := true }
def WalFormatsUptoSaid : Prop := walFormatsUptoRow.holds Try.pinned (OpenSpec.upto walFormatsSpec)

/-- 'hibernaclelaw16.WalCommits', WHERE WHAT IT READS IS OF BULK AT MOST 1048576: true; the input reads as it did. -/
def walCommitsUptoRow : OpenClaim := { program := "ytjfmnkmgnbbfgaa", sum := "debfb168388ba0bc926bfc94c4a68331f67300be3fb38355b34b8b12c37d1b16", func := "hibernacle/hibernaclelaw16.WalCommits", spec := "walCommits", inPlace := ["internal/abi.NoEscape", "internal/bytealg.MakeNoZero", "internal/bytealg.IndexByteString"], unfollowed := true, recurses := true, apart := false, narrowed := true }
def WalCommitsUptoSaid : Prop := walCommitsUptoRow.holds Try.pinned (OpenSpec.upto walCommitsSpec)

/-- 'hibernaclelaw16.WalHeads', WHERE WHAT IT READS IS OF BULK AT MOST 1048576: true; the input reads as it did. -/
def walHeadsUptoRow : OpenClaim := { program := "ytjfmnkmgnbbfgaa", sum := "debfb168388ba0bc926bfc94c4a68331f67300be3fb38355b34b8b12c37d1b16", func := "hibernacle/hibernaclelaw16.WalHeads", spec := "walHeads", inPlace := ["internal/abi.NoEscape", "internal/bytealg.MakeNoZero", "internal/bytealg.IndexByteString"], unfollowed := true, recurses := true, apart := false, narrowed := true }
def WalHeadsUptoSaid : Prop := walHeadsUptoRow.holds Try.pinned (OpenSpec.upto walHeadsSpec)

end Rows
end Go.Proofs.Ytjfmnkmgnbbfgaa
