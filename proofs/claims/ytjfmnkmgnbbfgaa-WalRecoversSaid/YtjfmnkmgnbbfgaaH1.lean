/- Several texts of this claim in one: A124, H1. -/
import Derived.Test.YtjfmnkmgnbbfgaaA0
import Derived.Test.YtjfmnkmgnbbfgaaH0
import Derived.Test.YtjfmnkmgnbbfgaaC1
import Derived.Deep.WholeRow
import Derived.Laws.CopyRow
namespace Go.Proofs.Ytjfmnkmgnbbfgaa.A
open Go.RowKit Go.Proofs.YtjfmnkmgnbbfgaaW.PrintWords Go.Proofs.YtjfmnkmgnbbfgaaW.PrintLast Go.Proofs.YtjfmnkmgnbbfgaaW.PrintMore
attribute [local go_sem] max2_int min2_int max_two min_two max_three min_three max_four min_four   -- for this text's walks alone
set_option linter.unusedVariables false
set_option linter.unusedSimpArgs false
def hash_word.f (a0:ByteArray):Option (Int):=if 0<(a0.size:Int) then (if 1<(a0.size:Int) then (if 2<(a0.size:Int) then (if 3<(a0.size:Int) then (some (Go.bits .or .u32 (Go.bits .or .u32 (Go.bits .or .u32 ((bt a0 0) % 4294967296) ((((bt a0 1) % 4294967296) * 256) % 4294967296)) ((((bt a0 2) % 4294967296) * 65536) % 4294967296)) ((((bt a0 3) % 4294967296) * 16777216) % 4294967296))) else (none)) else (none)) else (none)) else (none)
set_option maxHeartbeats 8000000 in
set_option maxRecDepth 100000 in
theorem hash_word.calls (a0:ByteArray) (r:Int) (w:World) (h:hash_word.f a0=some r) :
  Calls Try.prog 124 #[.string a0] w fun e w'=>e=.returned (.int .u32 r)∧Drawn0 w w':=by
 have H:(if 0<(a0.size:Int) then (if 1<(a0.size:Int) then (if 2<(a0.size:Int) then (if 3<(a0.size:Int) then (some (Go.bits .or .u32 (Go.bits .or .u32 (Go.bits .or .u32 ((bt a0 0) % 4294967296) ((((bt a0 1) % 4294967296) * 256) % 4294967296)) ((((bt a0 2) % 4294967296) * 65536) % 4294967296)) ((((bt a0 3) % 4294967296) * 16777216) % 4294967296))) else (none)) else (none)) else (none)) else (none))=some r:=h
 clear h
 by_cases c2:0<(a0.size:Int)
 ·rw [if_pos c2] at H
  have c2b0:decide (0<(a0.size:Int))=true:=decide_eq_true c2
  have c2b1:decide (0<a0.size)=true:=decide_eq_true (by omega)
  clear c2
  by_cases c4:1<(a0.size:Int)
  ·rw [if_pos c4] at H
   have c4b0:decide (1<(a0.size:Int))=true:=decide_eq_true c4
   have c4b1:decide (1<a0.size)=true:=decide_eq_true (by omega)
   clear c4
   by_cases c6:2<(a0.size:Int)
   ·rw [if_pos c6] at H
    have c6b0:decide (2<(a0.size:Int))=true:=decide_eq_true c6
    have c6b1:decide (2<a0.size)=true:=decide_eq_true (by omega)
    clear c6
    by_cases c8:3<(a0.size:Int)
    ·rw [if_pos c8] at H
     have c8b0:decide (3<(a0.size:Int))=true:=decide_eq_true c8
     have c8b1:decide (3<a0.size)=true:=decide_eq_true (by omega)
     clear c8
     obtain rfl:=Option.some.inj H
     have p3:0≤(0:Int):=(by omega)
     have q3:0<a0.size:=(by have:(0:Int)<(a0.size:Int):=of_decide_eq_true (by first |(with_reducible assumption) |assumption);omega)
     have hx3:∀ h:0<a0.size,((a0[0]'h).toNat:Int)=bt a0 0:=bt_at a0 0
     clear p3
     have qi3:(0<(a0.size:Int))=True:=eq_true (of_decide_eq_true (by first |(with_reducible assumption) |assumption))
     replace q3:=eq_true q3
     have p5:0≤(1:Int):=(by omega)
     have q5:1<a0.size:=(by have:(1:Int)<(a0.size:Int):=of_decide_eq_true (by first |(with_reducible assumption) |assumption);omega)
     have hx5:∀ h:1<a0.size,((a0[1]'h).toNat:Int)=bt a0 1:=bt_at a0 1
     clear p5
     have qi5:(1<(a0.size:Int))=True:=eq_true (of_decide_eq_true (by first |(with_reducible assumption) |assumption))
     replace q5:=eq_true q5
     have p7:0≤(2:Int):=(by omega)
     have q7:2<a0.size:=(by have:(2:Int)<(a0.size:Int):=of_decide_eq_true (by first |(with_reducible assumption) |assumption);omega)
     have hx7:∀ h:2<a0.size,((a0[2]'h).toNat:Int)=bt a0 2:=bt_at a0 2
     clear p7
     have qi7:(2<(a0.size:Int))=True:=eq_true (of_decide_eq_true (by first |(with_reducible assumption) |assumption))
     replace q7:=eq_true q7
     have p9:0≤(3:Int):=(by omega)
     have q9:3<a0.size:=(by have:(3:Int)<(a0.size:Int):=of_decide_eq_true (by first |(with_reducible assumption) |assumption);omega)
     have hx9:∀ h:3<a0.size,((a0[3]'h).toNat:Int)=bt a0 3:=bt_at a0 3
     clear p9
     have qi9:(3<(a0.size:Int))=True:=eq_true (of_decide_eq_true (by first |(with_reducible assumption) |assumption))
     replace q9:=eq_true q9
     go_enter Try.func124,Try.ntmps124
     go_wp2
     repeat (go_quiet (fail);try go_wp2)
     go_ret
     exact ⟨by first |rfl |(simp;done) |(simp [*];done),by repeat (first |exact Drawn0.refl _ |apply Drawn0.step)⟩
    ·rw [if_neg c8] at H
     exact absurd H (by simp)
   ·rw [if_neg c6] at H
    exact absurd H (by simp)
  ·rw [if_neg c4] at H
   exact absurd H (by simp)
 ·rw [if_neg c2] at H
  exact absurd H (by simp)
end Go.Proofs.Ytjfmnkmgnbbfgaa.A
set_option linter.unusedVariables false
set_option linter.unusedSimpArgs false
namespace Go.Proofs.Ytjfmnkmgnbbfgaa.A
open Go.RowKit Go.Proofs.YtjfmnkmgnbbfgaaW.PrintWords Go.Proofs.YtjfmnkmgnbbfgaaW.PrintLast Go.Proofs.YtjfmnkmgnbbfgaaW.PrintMore
def ivF:List Int:=[1779033703,3144134277,1013904242,2773480762,1359893119,2600822924,528734635,1541459225]
set_option maxRecDepth 100000 in
theorem hash_eight.walk (w:World):Calls Try.prog 86 #[] w fun e w'=>e=.returned (.agg (u32s ivF))∧Below w.heap.size w w':=by
 go_enter Try.func86,Try.ntmps86
 go_wp2
 refine bodyPost_ret (results_cell_row rfl _ _ w.heap.size 99 (u32s ivF) (0,0) _ rfl (heap_alloc_last _ _) Try.underlying99 rfl (by kernel_rfl)) rfl ?_
 exact ⟨rfl,below_alloc (Below.refl _ _) _⟩
set_option maxRecDepth 100000 in
theorem ref_eight.walk (w:World):Calls Try.prog 89 #[] w fun e w'=>e=.returned (.agg (u32s ivF))∧Below w.heap.size w w':=by
 go_enter Try.func89,Try.ntmps89
 go_wp2
 refine bodyPost_ret (results_cell_row rfl _ _ w.heap.size 99 (u32s ivF) (0,0) _ rfl (heap_alloc_last _ _) Try.underlying99 rfl (by kernel_rfl)) rfl ?_
 exact ⟨rfl,below_alloc (Below.refl _ _) _⟩
def sgL:List Nat:=[0,1,2,3,4,5,6,7,8,9,10,11,12,13,14,15,14,10,4,8,9,15,13,6,1,12,0,2,11,7,5,3,11,8,12,0,5,2,15,13,10,14,3,6,7,1,9,4,7,9,3,1,13,12,11,14,2,6,5,10,4,0,15,8,9,0,5,7,2,4,10,15,14,1,11,12,6,8,3,13,2,12,6,10,0,11,8,3,4,13,7,5,15,14,1,9,12,5,1,15,14,13,4,10,0,7,6,3,9,2,8,11,13,11,7,14,12,1,3,9,5,0,15,4,8,6,2,10,6,15,14,9,11,3,0,8,12,2,13,7,1,4,10,5,10,2,8,4,7,6,1,5,15,11,9,14,3,12,13,0]
def sg (k:Nat):Nat:=sgL.getD k 0
def sgS:ByteArray:=⟨#[48,49,50,51,52,53,54,55,56,57,97,98,99,100,101,102,101,97,52,56,57,102,100,54,49,99,48,50,98,55,53,51,98,56,99,48,53,50,102,100,97,101,51,54,55,49,57,52,55,57,51,49,100,99,98,101,50,54,53,97,52,48,102,56,57,48,53,55,50,52,97,102,101,49,98,99,54,56,51,100,50,99,54,97,48,98,56,51,52,100,55,53,102,101,49,57,99,53,49,102,101,100,52,97,48,55,54,51,57,50,56,98,100,98,55,101,99,49,51,57,53,48,102,52,56,54,50,97,54,102,101,57,98,51,48,56,99,50,100,55,49,52,97,53,97,50,56,52,55,54,49,53,102,98,57,101,51,99,100,48]⟩
def dgS:ByteArray:=⟨#[48,49,50,51,52,53,54,55,56,57,97,98,99,100,101,102]⟩
theorem sg_byte:∀ (k:Nat) (h:k<sgS.size),Lib.indexByte dgS.data.toList ((sgS[k].toNat:Nat):Int).toNat.toUInt8=(sg k:Int):=by
 have h:(List.range 160).all (fun k=>Lib.indexByte dgS.data.toList (bt sgS (k:Int)).toNat.toUInt8 == (sg k:Int))=true:=by kernel_rfl
 intro k hk
 have:=List.all_eq_true.1 h k (List.mem_range.2 hk)
 have e:=bt_at sgS (k:Int) hk
 rw [← e] at this
 exact eq_of_beq this
theorem sg_lt:∀ k,k<160→sg k<16:=by
 have h:(List.range 160).all (fun k=>sg k<16)=true:=by kernel_rfl
 intro k hk
 have:=List.all_eq_true.1 h k (List.mem_range.2 hk)
 simpa using this
set_option maxRecDepth 100000 in
theorem hash_row.walk (r i:Nat) (hr:r<10) (hi:i<16) (w:World) :
  Calls Try.prog 126 #[.int .i64 r,.int .i64 i] w fun e w'=>e=.returned (.int .i64 (sg (16 * r + i)))∧w'=w:=by
 have h1:16 * (r:Int) + (i:Int)<160:=by omega
 have h1':16 * r + i<160:=by omega
 have h0:(0:Int)≤16 * (r:Int) + (i:Int):=by omega
 have hn:(16 * (r:Int) + (i:Int)).toNat=16 * r + i:=by omega
 have hsz:sgS.size=160:=by kernel_rfl
 go_enter Try.func126,Try.ntmps126
 go_wp2_with (go_at_call 94;refine (Try.strings_IndexByte _ _ _).mono ?_;rintro e w3 ⟨rfl,rfl⟩)
 go_ret
 refine ⟨?_,rfl⟩
 have hb:=sg_byte (16 * r + i) h1'
 rw [Int.toNat_natCast,show (sgS[16 * r + i]'h1').toNat.toUInt8=sgS[16 * r + i]'h1' from by simp] at hb
 exact congrArg (fun z=>Ending.returned (Value.int .i64 z)) hb
def wordV (s:ByteArray) (i:Nat):Int:=bt s (4 * i:Nat) + bt s (4 * i + 1:Nat) * 256 + bt s (4 * i + 2:Nat) * 65536 + bt s (4 * i + 3:Nat) * 16777216
theorem or_bytes (a b c d:Nat) (ha:a<256) (hb:b<256) (hc:c<256) (hd:d<256) :
  Go.bits .or .u32 (Go.bits .or .u32 (Go.bits .or .u32 ((a:Int) % 4294967296) ((((b:Int) % 4294967296) * 256) % 4294967296)) ((((c:Int) % 4294967296) * 65536) % 4294967296)) ((((d:Int) % 4294967296) * 16777216) % 4294967296)=((a + b * 256 + c * 65536 + d * 16777216:Nat):Int):=by
 have e0:(a:Int) % 4294967296=(a:Int):=by omega
 have e1:(((b:Int) % 4294967296) * 256) % 4294967296=((b * 256:Nat):Int):=by omega
 have e2:(((c:Int) % 4294967296) * 65536) % 4294967296=((c * 65536:Nat):Int):=by omega
 have e3:(((d:Int) % 4294967296) * 16777216) % 4294967296=((d * 16777216:Nat):Int):=by omega
 rw [e0,e1,e2,e3]
 have p1:a ||| b * 256=a + b * 256:=by
  have:=Nat.two_pow_add_eq_or_of_lt (i:=8) (b:=a) (by omega) b
  rw [Nat.or_comm,show b * 256=2 ^ 8 * b from by omega,← this];omega
 have p2:(a + b * 256) ||| c * 65536=a + b * 256 + c * 65536:=by
  have:=Nat.two_pow_add_eq_or_of_lt (i:=16) (b:=a + b * 256) (by omega) c
  rw [Nat.or_comm,show c * 65536=2 ^ 16 * c from by omega,← this];omega
 have p3:(a + b * 256 + c * 65536) ||| d * 16777216=a + b * 256 + c * 65536 + d * 16777216:=by
  have:=Nat.two_pow_add_eq_or_of_lt (i:=24) (b:=a + b * 256 + c * 65536) (by omega) d
  rw [Nat.or_comm,show d * 16777216=2 ^ 24 * d from by omega,← this];omega
 rw [u32_or_nat _ _ (by omega) (by omega),p1,u32_or_nat _ _ (by omega) (by omega),p2,u32_or_nat _ _ (by omega) (by omega),p3]
theorem bt_nat (s:ByteArray) (i:Int):∃ n:Nat,bt s i=n∧n<256:=⟨(bt s i).toNat,by have:=bt_range s i;omega,by have:=bt_range s i;omega⟩
theorem bt_ext (s:ByteArray) (a:Nat) (j:Nat) (h:a + j<s.size):bt (s.extract a s.size) (j:Int)=bt s ((a + j:Nat):Int):=by
 unfold bt
 have h1:((j:Int)).toNat<(s.extract a s.size).size:=by rw [Int.toNat_natCast,ByteArray.size_extract];omega
 have h2:(((a + j:Nat):Int)).toNat<s.size:=by rw [Int.toNat_natCast];exact h
 rw [dif_pos h1,dif_pos h2]
 congr 2
 rw [ByteArray.getElem_extract]
 congr 1
theorem word_f (s:ByteArray) (i:Nat) (h:4 * i + 3<s.size):hash_word.f (s.extract (4 * i) s.size)=some (wordV s i):=by
 have hsz:(s.extract (4 * i) s.size).size=s.size - 4 * i:=by simp
 unfold hash_word.f
 rw [if_pos (by omega),if_pos (by omega),if_pos (by omega),if_pos (by omega)]
 obtain ⟨a,ea,ha⟩:=bt_nat s ((4 * i + 0:Nat):Int)
 obtain ⟨b,eb,hb⟩:=bt_nat s ((4 * i + 1:Nat):Int)
 obtain ⟨c,ec,hc⟩:=bt_nat s ((4 * i + 2:Nat):Int)
 obtain ⟨d,ed,hd⟩:=bt_nat s ((4 * i + 3:Nat):Int)
 have f0:=bt_ext s (4 * i) 0 (by omega)
 have f1:=bt_ext s (4 * i) 1 (by omega)
 have f2:=bt_ext s (4 * i) 2 (by omega)
 have f3:=bt_ext s (4 * i) 3 (by omega)
 rw [show bt (s.extract (4 * i) s.size) 0=_ from f0,show bt (s.extract (4 * i) s.size) 1=_ from f1,show bt (s.extract (4 * i) s.size) 2=_ from f2,show bt (s.extract (4 * i) s.size) 3=_ from f3,ea,eb,ec,ed,or_bytes a b c d ha hb hc hd]
 unfold wordV
 rw [Nat.add_zero] at ea
 rw [ea,eb,ec,ed]
 congr 1
theorem hash_word.walk (s:ByteArray) (i:Nat) (h:4 * i + 3<s.size) (w:World) :
  Calls Try.prog 124 #[.string (s.extract (4 * i) s.size)] w fun e w'=>e=.returned (.int .u32 (wordV s i))∧Drawn0 w w':=hash_word.calls _ _ w (word_f s i h)
end Go.Proofs.Ytjfmnkmgnbbfgaa.A
