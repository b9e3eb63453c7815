/- The contract of drive.Check: why a drive may not be. -/
import Derived.Test.YtjfmnkmgnbbfgaaA0
import Derived.Test.YtjfmnkmgnbbfgaaXclone
import Derived.Lib.Hide
set_option linter.unusedVariables false
namespace Go.Proofs.Ytjfmnkmgnbbfgaa.A
open Go.RowKit Go.Proofs.YtjfmnkmgnbbfgaaW.PrintWords Go.Proofs.YtjfmnkmgnbbfgaaW.PrintLast Go.Proofs.YtjfmnkmgnbbfgaaW.PrintMore
def lookV (n:Nat) (i:Int) (s:ByteArray):Int:=if i<0∨(n:Int)≤i then 2 else if (s.size:Int)≠128 then 3 else 0
theorem look_some (l0:List ByteArray) (l1:List S27) (a:Int) (i:Int) (s:ByteArray):drive_look.f 2 l0 l1 a i s=some (lookV l0.length i s):=by
 unfold drive_look.f lookV
 simp only [drive_look.j0]
 by_cases h1:i<0
 ·simp [h1]
 ·by_cases h2:(l0.length:Int)≤i
  ·simp [h1,h2]
  ·by_cases h3:(s.size:Int)=128
   ·simp [h1,h2,h3]
   ·simp [h1,h2,h3]
theorem at_str {w:World} {A:Option Addr} {xs:List ByteArray} (h:Kd.string.C w A xs.length xs) (q:Nat) (hq:q<xs.length) :
  ∃ ad,A=some ad∧w.cell? (ad.add q)=some (.string xs[q]):=by
 obtain ⟨ad,e,hc⟩:=Kd.at_string h (q:Int) (by omega) (by omega)
 refine ⟨ad,e, ?_⟩
 rw [Int.toNat_natCast] at hc
 rw [hc]
 unfold rdOf
 rw [Int.toNat_natCast,List.getD_eq_getElem?_getD,List.getElem?_eq_getElem hq,Option.getD_some]
theorem len128_any (s:ByteArray) (w:World) :
  Calls Try.prog 77 #[.string s] w fun e w'=>e=.returned (.bool (!decide ((s.size:Int)=128)))∧w'=w:=by
 go_enter Try.func77,Try.ntmps77
 go_wp2
 go_ret
 exact ⟨rfl,rfl⟩
set_option maxRecDepth 100000 in
theorem indexFunc_any (A:Option Addr) (c:Nat) (l:List ByteArray) (w:World) (hr:Kd.C Kd.string w A l.length l) (hc:l.length≤c) (hs:l.length≤140737488355328) :
  Calls Try.prog 109 #[.slice A l.length c,.func (.func 77) #[] #[]] w fun e w'=>∃ z:Int,e=.returned (.int .i64 z)∧((∀ b ∈ l,(b.size:Int)=128)∧z=-1∨(∃ b ∈ l,(b.size:Int)≠128)∧0≤z)∧w'=w:=by
 have HR:=Lib.hid hr
 clear hr
 go_enter Try.func109,Try.ntmps109
 go_wp2_with fail
 go_loopw [8] (fun i wr=>∃ q:Nat,q≤l.length∧i=.int .i64 q∧Hid (∀ b ∈ l.take q,(b.size:Int)=128)∧wr=w) (fun i _=>l.length - (intOf i).toNat)
 case atStart=>exact ⟨0,Nat.zero_le _,rfl,Lib.hid (by simp),rfl⟩
 case round=>
  obtain ⟨q,hq,rfl,HT,rfl⟩:=hrel
  by_cases hlt:q<l.length
  ·obtain ⟨ad,rfl,hcell⟩:=at_str HR.out q hlt
   have hlt':(q:Int)<(l.length:Int):=by omega
   by_cases hb:(l[q].size:Int)=128
   ·go_wp2_with (go_at_call 77;refine (len128_any _ _).mono ?_;rintro e w3 ⟨rfl,rfl⟩)
    go_roundw
    case rel=>
     refine ⟨q + 1,by omega,rfl,Lib.hid ?_,trivial⟩
     intro b hb'
     rw [List.take_add_one,List.getElem?_eq_getElem hlt,List.mem_append] at hb'
     rcases hb' with hb' |hb'
     ·exact HT.out b hb'
     ·simp at hb';rw [hb'];exact hb
    case measure=>
     show l.length - (intOf (Value.int IntKind.i64 ((q:Int) + 1))).toNat<l.length - (intOf (Value.int IntKind.i64 (q:Int))).toNat
     simp only [intOf]
     omega
   ·go_wp2_with (go_at_call 77;refine (len128_any _ _).mono ?_;rintro e w3 ⟨rfl,rfl⟩)
    go_ret
    exact ⟨_,rfl,.inr ⟨⟨_,List.getElem_mem hlt,hb⟩,by omega⟩,rfl⟩
  ·have hge:(l.length:Int)≤(q:Int):=by omega
   go_wp2
   go_ret
   refine ⟨_,rfl,.inl ⟨fun b hb=>HT.out b ?_,rfl⟩,rfl⟩
   rw [List.take_of_length_le (by omega)]
   exact hb
set_option maxRecDepth 100000 in
theorem containsFunc_any (A:Option Addr) (c:Nat) (l:List ByteArray) (w:World) (hr:Kd.C Kd.string w A l.length l) (hc:l.length≤c) (hs:l.length≤140737488355328) :
  Calls Try.prog 76 #[.slice A l.length c,.func (.func 77) #[] #[]] w fun e w'=>e=.returned (.bool (l.any fun b=>!decide ((b.size:Int)=128)))∧w'=w:=by
 have HR:=Lib.hid hr
 clear hr
 go_enter Try.func76,Try.ntmps76
 go_wp2_with (go_at_call 109;refine (indexFunc_any A c l _ HR.out hc hs).mono ?_;rintro e w3 ⟨z,rfl,hz,rfl⟩)
 go_ret
 refine ⟨?_,rfl⟩
 rcases hz with ⟨ha,rfl⟩ |⟨⟨b,hb,hn⟩,h0⟩
 ·rw [List.any_eq_false.2]
  ·rfl
  ·intro b hb;simp [ha b hb]
 ·rw [List.any_eq_true.2 ⟨b,hb,by simp [hn]⟩]
  simp [h0]
def firstErr (n:Nat):List S27→Int
 | []=>0
 | x :: l=>if lookV n x.f0 x.f1≠0 then lookV n x.f0 x.f1 else firstErr n l
def checkV (l0:List ByteArray) (l1:List S27):Int:=
 if 256<l0.length then 6 else if l0.any (fun b=>!decide ((b.size:Int)=128)) then 3 else firstErr l0.length l1
def drive_Check.f (l0:List ByteArray) (l1:List S27) (_:Int):Option Int:=if l1.length≤140737488355328 then some (checkV l0 l1) else none
theorem firstErr_none (n:Nat) (l:List S27) (h:∀ x ∈ l,lookV n x.f0 x.f1=0):firstErr n l=0:=by
 induction l with
 | nil=>rfl
 | cons x l ih=>
  unfold firstErr
  rw [if_neg (by simp [h x (by simp)]),ih (fun y hy=>h y (by simp [hy]))]
theorem firstErr_at (n:Nat) (l:List S27) (q:Nat) (hq:q<l.length) (h:∀ x ∈ l.take q,lookV n x.f0 x.f1=0) (hn:lookV n l[q].f0 l[q].f1≠0):firstErr n l=lookV n l[q].f0 l[q].f1:=by
 induction l generalizing q with
 | nil=>simp at hq
 | cons x l ih=>
  cases q with
  | zero=>unfold firstErr;rw [List.getElem_cons_zero] at hn;rw [if_pos hn];rfl
  | succ q=>
   unfold firstErr
   rw [if_neg (by simp [h x (by simp)])]
   exact ih q (by simpa using hq) (fun y hy=>h y (by simp [hy])) (by simpa using hn)
set_option maxHeartbeats 1000000 in
set_option maxRecDepth 100000 in
theorem drive_Check.calls (A0_0:Option Addr) (c0_0:Nat) (l0_0:List ByteArray) (A0_1:Option Addr) (c0_1:Nat) (l0_1:List S27) (a0_2:Int) (r:Int) (w:World) (hr0_0:Kd.C Kd.string w A0_0 l0_0.length l0_0) (hc0_0:l0_0.length≤c0_0) (hr0_1:Kd.C k27 w A0_1 l0_1.length l0_1) (hc0_1:l0_1.length≤c0_1) (h:drive_Check.f l0_0 l0_1 a0_2=some r) :
  Calls Try.prog 34 #[.agg #[.slice A0_0 l0_0.length c0_0,.slice A0_1 l0_1.length c0_1,.int .i64 a0_2]] w fun e w'=>e=.returned (.int .i64 r)∧Below w.heap.size w w':=by
 have hu29:=Try.underlying29
 have hu27:=Try.underlying27
 have H0:=Lib.hid hr0_0
 have H1:=Lib.hid hr0_1
 clear hr0_0 hr0_1
 unfold drive_Check.f at h
 split at h
 case isFalse=>cases h
 case isTrue hl1=>
 obtain rfl:checkV l0_0 l0_1=r:=Option.some.inj h
 clear h
 unfold checkV
 by_cases h1:256<l0_0.length
 ·rw [if_pos h1]
  have h1':(256:Int)<(l0_0.length:Int):=by omega
  go_enter Try.func34,Try.ntmps34
  go_wp2
  go_ret
  exact ⟨rfl,below_alloc (Below.refl _ _) _⟩
 ·rw [if_neg h1]
  have h1':(l0_0.length:Int)≤256:=by omega
  have HB:Below w.heap.size w (w.alloc (.cells #[.slice A0_0 l0_0.length c0_0,.slice A0_1 l0_1.length c0_1,.int .i64 a0_2] 29 (0,0))):=below_alloc (Below.refl _ _) _
  by_cases h2:l0_0.any (fun b=>!decide ((b.size:Int)=128))=true
  ·rw [if_pos h2]
   go_enter Try.func34,Try.ntmps34
   go_wp2_with (go_at_call 76;refine (containsFunc_any A0_0 c0_0 l0_0 _ (Kd.C_below H0.out HB) hc0_0 (by omega)).mono ?_;rintro e w3 ⟨rfl,rfl⟩)
   go_ret
   exact ⟨rfl,HB⟩
  ·rw [if_neg h2]
   have h2':l0_0.any (fun b=>!decide ((b.size:Int)=128))=false:=by simpa using h2
   clear h2
   go_enter Try.func34,Try.ntmps34
   go_wp2_with (go_at_call 76;refine (containsFunc_any A0_0 c0_0 l0_0 _ (Kd.C_below H0.out HB) hc0_0 (by omega)).mono ?_;rintro e w3 ⟨rfl,rfl⟩)
   go_loopw [16] (fun i wr=>∃ q:Nat,q≤l0_1.length∧i=.int .i64 q∧Hid (∀ x ∈ l0_1.take q,lookV l0_0.length x.f0 x.f1=0)∧wr.heap[w.heap.size]?=some (.cells #[.slice A0_0 l0_0.length c0_0,.slice A0_1 l0_1.length c0_1,.int .i64 a0_2] 29 (0,0))∧Below w.heap.size w wr) (fun i _=>l0_1.length - (intOf i).toNat)
   case atStart=>exact ⟨0,Nat.zero_le _,rfl,Lib.hid (by simp),blk_new _ _,HB⟩
   case round=>
    obtain ⟨q,hq,rfl,HT,hbk,hB⟩:=hrel
    clear HB
    by_cases hlt:q<l0_1.length
    ·obtain ⟨ad,rfl,hc0,hc1⟩:=at_T27 (Kd.C_below H1.out hB) (q:Int) (by omega) (by omega)
     have hrd:rd_T27 l0_1 (q:Int)=l0_1[q]:=by unfold rd_T27;rw [Int.toNat_natCast,List.getD_eq_getElem?_getD,List.getElem?_eq_getElem hlt,Option.getD_some]
     rw [hrd,Int.toNat_natCast] at hc0 hc1
     have hlt':(q:Int)<(l0_1.length:Int):=by omega
     have hgw:=hB.size
     go_wp2_with (
      (with_reducible refine gate_dst (N:=4) rfl ?_);refine box_event ?hg (N:=4) ?hd (cs:=#[.int .i64 0,.string (⟨#[]⟩:ByteArray)]) (t:=27) ?hr ?_;(case hd=>rfl);(case hg=>rfl);(case hr=>first |(go_simp;done) |(go_simp;rfl));intro g hg w1 hbox hb;have hbk1:w1.heap[w.heap.size]?=_:=blk_below (g:=w.heap.size) (o:=.cells #[.slice A0_0 l0_0.length c0_0,.slice (some ad) l0_1.length c0_1,.int .i64 a0_2] 29 (0,0)) hbk hb;have hB1:=below_step hB hb;have hge:w.heap.size≤g:=(by (rw [hg];exact hB.size));have hn1:w.heap.size≠g:=(by (rw [hg];exact Nat.ne_of_lt (blk_lt hbk)));have hn2:g≠w.heap.size:=Ne.symm hn1;have b0:w1.cell? ⟨w.heap.size,0,none⟩=some (.slice A0_0 l0_0.length c0_0):=(blk_cell hbk1 0).trans rfl;have b1:w1.cell? ⟨w.heap.size,1,none⟩=some (.slice (some ad) l0_1.length c0_1):=(blk_cell hbk1 1).trans rfl;have b2:w1.cell? ⟨w.heap.size,2,none⟩=some (.int .i64 a0_2):=(blk_cell hbk1 2).trans rfl;have g0:w1.cell? ⟨g,0,none⟩=some (.int .i64 0):=(blk_cell hbox 0).trans rfl;have g1:w1.cell? ⟨g,1,none⟩=some (.string (⟨#[]⟩:ByteArray)):=(blk_cell hbox 1).trans rfl;have f0:=blk_frozen hbox 0;have f1:=blk_frozen hbox 1;clear hg)
     have hbk2:=blk_far (blk_far hbk1 (p:=⟨g,0,none⟩) hn1 (.int .i64 l0_1[q].f0)) (p:=⟨g,1,none⟩) hn1 (.string l0_1[q].f1)
     have hB2:=below_set (below_set hB1 hge (v:=.int .i64 l0_1[q].f0) (j:=0)) hge (v:=.string l0_1[q].f1) (j:=1)
     have LK:=drive_look.calls 2 A0_0 c0_0 l0_0 (some ad) c0_1 l0_1 a0_2 l0_1[q].f0 l0_1[q].f1 _ _ (Kd.C_below H0.out hB2) hc0_0 (Kd.C_below H1.out hB2) hc0_1 (look_some _ _ _ _ _)
     refine LK.mono ?_
     clear LK
     rintro e w3 ⟨rfl,hb3⟩
     have hB3:=below_step hB2 hb3
     have hbk3:=blk_below hbk2 hb3
     clear hB2 hbk2 hb3 hbk1 hB1 b0 b1 b2 f0 f1 g0 g1 hbox hb
     by_cases hz:lookV l0_0.length l0_1[q].f0 l0_1[q].f1=0
     ·rw [hz]
      go_wp2
      go_roundw
      case rel=>
       refine ⟨q + 1,by omega,rfl,Lib.hid ?_,hbk3,hB3⟩
       intro b hb'
       rw [List.take_add_one,List.getElem?_eq_getElem hlt,List.mem_append] at hb'
       rcases hb' with hb' |hb'
       ·exact HT.out b hb'
       ·simp at hb';rw [hb'];exact hz
      case measure=>
       show l0_1.length - (intOf (Value.int IntKind.i64 ((q:Int) + 1))).toNat<l0_1.length - (intOf (Value.int IntKind.i64 (q:Int))).toNat
       simp only [intOf]
       omega
     ·go_wp2
      go_ret
      exact ⟨congrArg (fun z=>Ending.returned (Value.int .i64 z)) (firstErr_at _ _ q hlt HT.out hz).symm,hB3⟩
    ·have hge:(l0_1.length:Int)≤(q:Int):=by omega
     go_wp2
     go_ret
     exact ⟨congrArg (fun z=>Ending.returned (Value.int .i64 z)) (firstErr_none _ _ (fun x hx=>HT.out x (by rw [List.take_of_length_le (by omega)];exact hx))).symm,hB⟩
end Go.Proofs.Ytjfmnkmgnbbfgaa.A
