/- The library's functions that this seat's program calls: their contracts off the shelf, laid at this program in plain words by the shelf's own program. -/
import Derived.Shelf.Strings.Builder1
import Derived.Shelf.Strings.Builder2
import Derived.Shelf.Strings.OnBuilder
import Derived.Shelf.Small.Strs
import Derived.Shelf.Strings.BuilderF
import Derived.Shelf.Strings.Search1
import Derived.Shelf.Strings.Prefix
import Derived.Shelf.Bits.Mul64
import Derived.Shelf.Strings.Repeat
import Derived.Ground.Names2Prog
import Derived.Shelf.Slices.Clone
import Derived.Ground.SlgnProg
import Derived.Shelf.SlicesE.Clone
import Derived.Test.YtjfmnkmgnbbfgaaProg
namespace Go.Proofs
open Go.Shelf
def Try.lays156_ren:Go.Shelf.Ren:=⟨fun |156=>88 |165=>106 |166=>107 |169=>93 |240=>118 |241=>123 |276=>130 |277=>132 |n=>n,fun |31=>22 |9=>9 |3=>3 |4=>4 |0=>0 |20=>20 |72=>107 |76=>123 |70=>105 |37=>77 |75=>109 |127=>133 |164=>146 |5=>5 |80=>54 |n=>n,fun |n=>n⟩
theorem Try.lays156:Go.Proofs.Lays.n156 Try.prog Try.lays156_ren:={
 mixed:=by kernel_rfl
 f156:=Try.func88.trans (congrArg some (by kernel_rfl))
 f165:=Try.func106.trans (congrArg some (by kernel_rfl))
 f166:=Try.func107.trans (congrArg some (by kernel_rfl))
 f169:=Try.func93.trans (congrArg some (by kernel_rfl))
 f240:=Try.func118.trans (congrArg some (by kernel_rfl))
 f241:=Try.func123.trans (congrArg some (by kernel_rfl))
 f276:=Try.func130.trans (congrArg some (by kernel_rfl))
 f277:=Try.func132.trans (congrArg some (by kernel_rfl))
 t0:=Try.underlying0
 a0:=Try.isAgg0
 z0:=Try.sizeOf0
 v0:=Try.zeroValue0
 t3:=Try.underlying3
 a3:=Try.isAgg3
 z3:=Try.sizeOf3
 v3:=Try.zeroValue3
 t4:=Try.underlying4
 a4:=Try.isAgg4
 z4:=Try.sizeOf4
 v4:=Try.zeroValue4
 t9:=Try.underlying9
 a9:=Try.isAgg9
 z9:=Try.sizeOf9
 v9:=Try.zeroValue9
 t20:=Try.underlying20
 a20:=Try.isAgg20
 z20:=Try.sizeOf20
 v20:=Try.zeroValue20
 t31:=Try.underlying22
 a31:=Try.isAgg22
 z31:=Try.sizeOf22
 v31:=Try.zeroValue22
 t37:=Try.underlying77
 a37:=Try.isAgg77
 z37:=Try.sizeOf77
 v37:=Try.zeroValue77
 t70:=Try.underlying105
 a70:=Try.isAgg105
 z70:=Try.sizeOf105
 v70:=Try.zeroValue105
 t72:=Try.underlying107
 a72:=Try.isAgg107
 z72:=Try.sizeOf107
 v72:=Try.zeroValue107
 t75:=Try.underlying109
 a75:=Try.isAgg109
 z75:=Try.sizeOf109
 v75:=Try.zeroValue109
 t76:=Try.underlying123
 a76:=Try.isAgg123
 z76:=Try.sizeOf123
 v76:=Try.zeroValue123
 t127:=Try.underlying133
 a127:=Try.isAgg133
 z127:=Try.sizeOf133
 v127:=Try.zeroValue133
 t164:=Try.underlying146
 a164:=Try.isAgg146
 z164:=Try.sizeOf146
 v164:=Try.zeroValue146 }
theorem Try.Builder_Extra_156:Builder.Extra Try.prog Try.lays156_ren:={
 sizeBuilder:=by kernel_rfl
 liesBuilder:=by kernel_rfl
 t5:=Try.underlying5
 a5:=Try.isAgg5
 z5:=Try.sizeOf5
 v5:=Try.zeroValue5
 infoByte:=by kernel_rfl
 cellsByte:=by kernel_rfl
 sizeByte:=by kernel_rfl
 neB5:=by decide }
open Go.RowKit in
theorem Try.strings_Join_none (a:Option Addr) (c:Nat) (sep:ByteArray) (w:World) :
  Calls Try.prog 88 #[.slice a 0 c,.string sep] w fun e w'=>e=.returned (.string ⟨#[]⟩)∧w'=w:=Any.strings_Join_none Try.lays156 Try.Builder_Extra_156 a c sep w
open Go.RowKit in
theorem Try.strings_Join (bk o c:Nat) (xs:List ByteArray) (sep:ByteArray) (w:World) (hcells:∀ (j:Nat) x,xs[j]?=some x→w.cell? ⟨bk,o + j,none⟩=some (.string x)) (hbk:bk<w.heap.size) (hN:xs.length≤140737488355328) (hcap:xs.length≤c) (hlen:(Lib.join (xs.map (·.data.toList)) sep.data.toList).length≤140737488355328) :
  Calls Try.prog 88 #[.slice (some ⟨bk,o,none⟩) xs.length c,.string sep] w fun e w'=>e=.returned (.string ⟨(Lib.join (xs.map (·.data.toList)) sep.data.toList).toArray⟩)∧Below w.heap.size w w':=Any.strings_Join Try.lays156 Try.Builder_Extra_156 bk o c xs sep w hcells hbk hN hcap hlen
def Try.lays137_ren:Go.Shelf.Ren:=⟨fun |137=>94 |217=>119 |266=>131 |n=>n,fun |9=>9 |5=>5 |3=>3 |n=>n,fun |n=>n⟩
theorem Try.lays137:Go.Proofs.Lays.n137 Try.prog Try.lays137_ren:={
 mixed:=by kernel_rfl
 f137:=Try.func94.trans (congrArg some (by kernel_rfl))
 f217:=Try.func119.trans (congrArg some (by kernel_rfl))
 f266:=Try.func131.trans (congrArg some (by kernel_rfl))
 t3:=Try.underlying3
 a3:=Try.isAgg3
 z3:=Try.sizeOf3
 v3:=Try.zeroValue3
 t5:=Try.underlying5
 a5:=Try.isAgg5
 z5:=Try.sizeOf5
 v5:=Try.zeroValue5
 t9:=Try.underlying9
 a9:=Try.isAgg9
 z9:=Try.sizeOf9
 v9:=Try.zeroValue9 }
open Go.RowKit in
theorem Try.strings_IndexByte (s:ByteArray) (c:Int) (w:World) :
  Calls Try.prog 94 #[.string s,.int .u8 c] w fun e w'=>e=.returned (.int .i64 (Lib.indexByte s.data.toList c.toNat.toUInt8))∧w'=w:=Any.strings_IndexByte Try.lays137 s c w
def Try.lays206_ren:Go.Shelf.Ren:=⟨fun |206=>120 |n=>n,fun |9=>9 |4=>4 |3=>3 |n=>n,fun |n=>n⟩
theorem Try.lays206:Go.Proofs.Lays.n206 Try.prog Try.lays206_ren:={
 mixed:=by kernel_rfl
 f206:=Try.func120.trans (congrArg some (by kernel_rfl))
 t3:=Try.underlying3
 a3:=Try.isAgg3
 z3:=Try.sizeOf3
 v3:=Try.zeroValue3
 t4:=Try.underlying4
 a4:=Try.isAgg4
 z4:=Try.sizeOf4
 v4:=Try.zeroValue4
 t9:=Try.underlying9
 a9:=Try.isAgg9
 z9:=Try.sizeOf9
 v9:=Try.zeroValue9 }
open Go.RowKit Go.Lib in
theorem Try.stringslite_HasPrefix (s p:ByteArray) (w:World) :
  Calls Try.prog 120 #[.string s,.string p] w fun e w'=>e=.returned (.bool (Lib.hasPrefix s.data.toList p.data.toList))∧w'=w:=Any.stringslite_HasPrefix Try.lays206 s p w
def Try.lays99_ren:Go.Shelf.Ren:=⟨fun |99=>103 |206=>120 |n=>n,fun |9=>9 |4=>4 |3=>3 |n=>n,fun |n=>n⟩
theorem Try.lays99:Go.Proofs.Lays.n99 Try.prog Try.lays99_ren:={
 mixed:=by kernel_rfl
 f99:=Try.func103.trans (congrArg some (by kernel_rfl))
 f206:=Try.func120.trans (congrArg some (by kernel_rfl))
 t3:=Try.underlying3
 a3:=Try.isAgg3
 z3:=Try.sizeOf3
 v3:=Try.zeroValue3
 t4:=Try.underlying4
 a4:=Try.isAgg4
 z4:=Try.sizeOf4
 v4:=Try.zeroValue4
 t9:=Try.underlying9
 a9:=Try.isAgg9
 z9:=Try.sizeOf9
 v9:=Try.zeroValue9 }
open Go.RowKit Go.Lib in
theorem Try.strings_HasPrefix (s p:ByteArray) (w:World) :
  Calls Try.prog 103 #[.string s,.string p] w fun e w'=>e=.returned (.bool (Lib.hasPrefix s.data.toList p.data.toList))∧w'=w:=Any.strings_HasPrefix Try.lays99 s p w
def Try.lays105_ren:Go.Shelf.Ren:=⟨fun |105=>75 |212=>105 |99=>103 |165=>106 |166=>107 |170=>108 |169=>93 |263=>121 |264=>122 |206=>120 |240=>118 |241=>123 |276=>130 |277=>132 |n=>n,fun |9=>9 |3=>3 |4=>4 |20=>20 |0=>0 |46=>111 |109=>120 |5=>5 |72=>107 |76=>123 |51=>98 |146=>134 |53=>116 |148=>136 |70=>105 |37=>77 |75=>109 |127=>133 |164=>146 |80=>54 |n=>n,fun |n=>n⟩
theorem Try.lays105:Go.Proofs.Lays.n105 Try.prog Try.lays105_ren:={
 mixed:=by kernel_rfl
 f99:=Try.func103.trans (congrArg some (by kernel_rfl))
 f105:=Try.func75.trans (congrArg some (by kernel_rfl))
 f165:=Try.func106.trans (congrArg some (by kernel_rfl))
 f166:=Try.func107.trans (congrArg some (by kernel_rfl))
 f169:=Try.func93.trans (congrArg some (by kernel_rfl))
 f170:=Try.func108.trans (congrArg some (by kernel_rfl))
 f206:=Try.func120.trans (congrArg some (by kernel_rfl))
 f212:=Try.func105.trans (congrArg some (by kernel_rfl))
 f240:=Try.func118.trans (congrArg some (by kernel_rfl))
 f241:=Try.func123.trans (congrArg some (by kernel_rfl))
 f263:=Try.func121.trans (congrArg some (by kernel_rfl))
 f264:=Try.func122.trans (congrArg some (by kernel_rfl))
 f276:=Try.func130.trans (congrArg some (by kernel_rfl))
 f277:=Try.func132.trans (congrArg some (by kernel_rfl))
 t0:=Try.underlying0
 a0:=Try.isAgg0
 z0:=Try.sizeOf0
 v0:=Try.zeroValue0
 t3:=Try.underlying3
 a3:=Try.isAgg3
 z3:=Try.sizeOf3
 v3:=Try.zeroValue3
 t4:=Try.underlying4
 a4:=Try.isAgg4
 z4:=Try.sizeOf4
 v4:=Try.zeroValue4
 t5:=Try.underlying5
 a5:=Try.isAgg5
 z5:=Try.sizeOf5
 v5:=Try.zeroValue5
 t9:=Try.underlying9
 a9:=Try.isAgg9
 z9:=Try.sizeOf9
 v9:=Try.zeroValue9
 t20:=Try.underlying20
 a20:=Try.isAgg20
 z20:=Try.sizeOf20
 v20:=Try.zeroValue20
 t37:=Try.underlying77
 a37:=Try.isAgg77
 z37:=Try.sizeOf77
 v37:=Try.zeroValue77
 t46:=Try.underlying111
 a46:=Try.isAgg111
 z46:=Try.sizeOf111
 v46:=Try.zeroValue111
 t51:=Try.underlying98
 a51:=Try.isAgg98
 z51:=Try.sizeOf98
 v51:=Try.zeroValue98
 t53:=Try.underlying116
 a53:=Try.isAgg116
 z53:=Try.sizeOf116
 v53:=Try.zeroValue116
 t70:=Try.underlying105
 a70:=Try.isAgg105
 z70:=Try.sizeOf105
 v70:=Try.zeroValue105
 t72:=Try.underlying107
 a72:=Try.isAgg107
 z72:=Try.sizeOf107
 v72:=Try.zeroValue107
 t75:=Try.underlying109
 a75:=Try.isAgg109
 z75:=Try.sizeOf109
 v75:=Try.zeroValue109
 t76:=Try.underlying123
 a76:=Try.isAgg123
 z76:=Try.sizeOf123
 v76:=Try.zeroValue123
 t109:=Try.underlying120
 a109:=Try.isAgg120
 z109:=Try.sizeOf120
 v109:=Try.zeroValue120
 t127:=Try.underlying133
 a127:=Try.isAgg133
 z127:=Try.sizeOf133
 v127:=Try.zeroValue133
 t146:=Try.underlying134
 a146:=Try.isAgg134
 z146:=Try.sizeOf134
 v146:=Try.zeroValue134
 t148:=Try.underlying136
 a148:=Try.isAgg136
 z148:=Try.sizeOf136
 v148:=Try.zeroValue136
 t164:=Try.underlying146
 a164:=Try.isAgg146
 z164:=Try.sizeOf146
 v164:=Try.zeroValue146 }
theorem Try.Builder_Extra_105:Builder.Extra Try.prog Try.lays105_ren:={
 sizeBuilder:=by kernel_rfl
 liesBuilder:=by kernel_rfl
 t5:=Try.underlying5
 a5:=Try.isAgg5
 z5:=Try.sizeOf5
 v5:=Try.zeroValue5
 infoByte:=by kernel_rfl
 cellsByte:=by kernel_rfl
 sizeByte:=by kernel_rfl
 neB5:=by decide }
open Go.RowKit Go.Lib in
theorem Try.strings_Repeat (s:ByteArray) (c:Nat) (w:World) (hc:c≤9223372036854775807) (hlen:s.size * c≤140737488355328) :
  Calls Try.prog 75 #[.string s,.int .i64 c] w fun e w'=>e=.returned (.string ⟨(Lib.repeatL s.data.toList c).toArray⟩)∧Below w.heap.size w w':=Any.strings_Repeat Try.lays105 Try.Builder_Extra_105 s c w hc hlen
end Go.Proofs
