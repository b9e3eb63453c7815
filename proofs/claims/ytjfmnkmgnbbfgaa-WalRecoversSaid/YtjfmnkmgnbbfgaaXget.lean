/- The contract of drive.Get: a block, as it was last written: the loop over slices.Backward. -/
import Derived.RangeFuncNested
import Derived.RangeFuncBound
import Derived.RangeFuncCalls
import Derived.RangeFuncLeaves
import Derived.Shelf.Abstract
import Derived.Shelf.RegionOpen
import Derived.WalkKit
import Derived.OwnWalkIn
import Derived.TacticsInMore
import Derived.LoopNIn
import Derived.LoopIn
import Derived.Maps.AppendAt
import Derived.Test.YtjfmnkmgnbbfgaaA0
import Derived.Lib.Hide
set_option linter.unusedVariables false
namespace Go.Proofs.Ytjfmnkmgnbbfgaa.A
open Go.RowKit Go.Shelf Go.Proofs.YtjfmnkmgnbbfgaaW.PrintWords Go.Proofs.YtjfmnkmgnbbfgaaW.PrintLast Go.Proofs.YtjfmnkmgnbbfgaaW.PrintMore
attribute [local go_sem] Oper.semAt_some
theorem cA {W:World} {a:Addr} {v:Value} (o:Obj) (h:W.cell? a=some v):(W.alloc o).cell? a=some v:=Go.cell_kept h (World.grownBy_alloc W o none) (fun r e=>by cases e)
theorem fA {W:World} {a:Addr} {v:Value} (o:Obj) (h:W.cell? a=some v) (hf:W.frozen? a=false):(W.alloc o).frozen? a=false:=(Go.frozen_kept h (World.grownBy_alloc W o none) (fun r e=>by cases e)).trans hf
def backTo (zs:List S27) (k:Nat):List (Int × S27):=(List.range k).map fun j=>((((zs.length - 1 - j:Nat)):Int),zs.getD (zs.length - 1 - j) z27)
theorem backTo_succ (zs:List S27) (k:Nat):backTo zs (k + 1)=backTo zs k ++ [((((zs.length - 1 - k:Nat)):Int),zs.getD (zs.length - 1 - k) z27)]:=by simp [backTo,List.range_succ]
theorem backTo_length (zs:List S27) (k:Nat):(backTo zs k).length=k:=by simp [backTo]
set_option maxRecDepth 100000 in
set_option maxHeartbeats 2000000 in
theorem back1_in (F:Fence) (n:Nat) (h8:F.fn 115) (hro:F.round=none) (hn:1≤n) (l Bs n₀:Nat) (A:Option Addr) (cap:Nat) (zs:List S27) (hreach:zs.length≤140737488355328) (hBn:Bs<n₀) (J Jx:List (Int × S27)→World→Prop)
  (hY:∀ pre x W,J pre W→pre.length<zs.length→YieldAt F (n - 1) Try.prog l #[.int .i64 x.1,.agg #[.int .i64 x.2.f0,.string x.2.f1]] W fun e W'=>
   (e=.returned (.bool true)∧J (pre ++ [x]) W'∧Below n₀ W W')∨(e=.returned (.bool false)∧Jx (pre ++ [x]) W'))
  (W:World) (hBs:W.cell? ⟨Bs,0,none⟩=some (.slice A zs.length cap))
  (hc:∀ q,q<zs.length→∃ ad,A=some ad∧W.cell? (ad.add (q * 2))=some (.int .i64 (zs.getD q z27).f0)∧W.cell? ⟨(ad.add (q * 2)).block,(ad.add (q * 2)).off + 1,none⟩=some (.string (zs.getD q z27).f1)∧(ad.add (q * 2)).block<n₀) (h0:J [] W) :
  CallsIn F n Try.prog 115 #[.func (.yield l) #[] #[],.pointer (some ⟨Bs,0,none⟩)] W fun e W'=>(∃ v,e=.returned v) ∧
   ((∃ ys,ys=backTo zs zs.length∧J ys W')∨(∃ pre,(∃ k,k≤zs.length∧pre=backTo zs k)∧Jx pre W')):=by
 have hu27:=Try.underlying27
 have HC:=Lib.hid hc
 clear hc
 refine callsIn_of_wp Try.func115 rfl h8 ?_ hro
 simp only [Try.ntmps115,List.size_toArray,List.length_cons,List.length_nil,Nat.reduceAdd,Nat.reduceSub,Array.replicate_succ,Array.replicate_zero,List.push_toArray,List.append_toArray,List.nil_append,List.cons_append]
 gi_wp2
 gi_loopw [3] (fun i wr=>∃ k:Nat,k≤zs.length∧i=.int .i64 ((zs.length:Int) - 1 - k)∧J (backTo zs k) wr∧Below n₀ W wr)
  (fun i _=>(intOf i + 1).toNat)
 case atStart=>exact ⟨0,Nat.zero_le _,by simp,h0,Below.refl _ _⟩
 case round=>
  obtain ⟨k,hk,rfl,hJs,hnx⟩:=hrel
  have hBs':=(hnx.cell (p:=⟨Bs,0,none⟩) hBn).trans hBs
  by_cases hlt:k<zs.length
  ·have e1:((zs.length:Int) - 1 - k)=((zs.length - 1 - k:Nat):Int):=by omega
   obtain ⟨q,hq⟩:∃ q,q=zs.length - 1 - k:=⟨_,rfl⟩
   rw [e1,← hq]
   obtain ⟨ad,rfl,g0,g1,gb⟩:=HC.out q (by omega)
   obtain ⟨x,hx⟩:∃ x,x=zs.getD q z27:=⟨_,rfl⟩
   rw [← hx] at g0 g1
   have g0':=(hnx.cell (p:=ad.add (q * 2)) gb).trans g0
   have g1':=(hnx.cell (p:=⟨(ad.add (q * 2)).block,(ad.add (q * 2)).off + 1,none⟩) gb).trans g1
   obtain ⟨fn,tmps,assign,body,hy,hR⟩:=hY _ ((q:Int),x) wr hJs (by rw [backTo_length];exact hlt)
   dsimp only at hy
   have hql:(q:Int)<zs.length:=by omega
   have hqr:(q:Int)≤140737488355328:=by omega
   have HQ:=Lib.hid hq
   have HX:=Lib.hid hx
   clear hq hx e1 g0 g1 gb hreach
   gi_wp2
   refine hR.mono ?_
   rintro e W3 (⟨rfl,hJ3,hk3⟩ |⟨rfl,hJx3⟩)
   ·gi_wp2
    go_roundw
    case rel=>
     refine ⟨k + 1,by omega, ?_, ?_,hnx.trans hk3⟩
     ·have:=HQ.out
      rw [show ((zs.length:Int) - 1 - ((k + 1:Nat):Int))=(q:Int) - 1 by omega]
     ·rw [backTo_succ,← HQ.out,← HX.out];exact hJ3
    case measure=>simp only [intOf];omega
   ·gi_wp2
    refine bodyPost_ret (results_none rfl _ _ _) rfl ?_
    exact ⟨⟨_,rfl⟩,.inr ⟨_,⟨k + 1,by omega,by rw [backTo_succ,← HQ.out,← HX.out]⟩,hJx3⟩⟩
  ·obtain rfl:k=zs.length:=by omega
   rw [show ((zs.length:Int) - 1 - zs.length)=-1 by omega]
   gi_wp2
   go_end0
   exact ⟨⟨_,rfl⟩,.inl ⟨_,rfl,hJs⟩⟩
set_option maxHeartbeats 1000000 in
theorem back_in (F:Fence) (n:Nat) (h5:F.fn 85) (hro:F.round=none) (a:Option Addr) (len cap:Nat) (w:World) :
  CallsIn F n Try.prog 85 #[.slice a len cap] w fun e w'=>e=.returned (.func (.func 115) #[] #[.pointer (some ⟨w.heap.size,0,none⟩)])∧w'=w.alloc (.cells #[.slice a len cap] 23):=by
 refine callsIn_of_wp Try.func85 rfl h5 ?_ hro
 simp only [Try.ntmps85,List.size_toArray,List.length_cons,List.length_nil,Nat.reduceAdd,Nat.reduceSub,Array.replicate_succ,Array.replicate_zero,List.push_toArray,List.append_toArray,List.nil_append,List.cons_append]
 gi_wp2
 go_ret
 exact ⟨rfl,rfl⟩
theorem back_stops (F:Fence) (n:Nat) (h7:F.fn 115) (hro:F.round=none) (hn:1≤n) (Bs:Nat) (A:Option Addr) (cap:Nat) (zs:List S27) (hreach:zs.length≤140737488355328) (w:World) (hBs:Bs<w.heap.size)
  (hc:w.cell? ⟨Bs,0,none⟩=some (.slice A zs.length cap)) (hI:Kd.C k27 w A zs.length zs) :
  SeqStopsK F n Try.prog 115 #[.pointer (some ⟨Bs,0,none⟩)] (fun x:Int × S27=>#[Value.int .i64 x.1,.agg #[.int .i64 x.2.f0,.string x.2.f1]]) (Below w.heap.size) (fun ys=>ys=backTo zs zs.length) (fun pre=>∃ k,k≤zs.length∧pre=backTo zs k) zs.length w:=fun l J Jx W hW _ _ hY h0=>by
 refine back1_in F n h7 hro hn l Bs w.heap.size A cap zs hreach hBs J Jx hY W ((hW.cell (p:=⟨Bs,0,none⟩) hBs).trans hc) ?_ h0
 intro q hq
 obtain ⟨ad,rfl,g0,g1⟩:=at_T27 hI (q:Int) (by omega) (by omega)
 unfold rd_T27 at g0 g1
 rw [Int.toNat_natCast] at g0 g1
 have gb:=World.block_lt_of_cell? w _ g0
 exact ⟨ad,rfl,(hW.cell (p:=ad.add (q * 2)) gb).trans g0,(hW.cell (p:=⟨(ad.add (q * 2)).block,(ad.add (q * 2)).off + 1,none⟩) gb).trans g1,gb⟩
def getV (l0:List ByteArray) (l1:List S27) (i:Int):ByteArray:=
 match (backTo l1 l1.length).find? (fun p=>decide (p.2.f0=i)) with
 | some p=>p.2.f1
 | none=>rdOf ByteArray.empty l0 i
set_option maxRecDepth 100000 in
set_option maxHeartbeats 2000000 in
theorem get_out (A0:Option Addr) (c0:Nat) (l0:List ByteArray) (A1:Option Addr) (c1:Nat) (l1:List S27) (a2 i:Int) (w:World) (hr1:i<0∨(l0.length:Int)≤i) :
  Calls Try.prog 43 #[.agg #[.slice A0 l0.length c0,.slice A1 l1.length c1,.int .i64 a2],.int .i64 i] w fun e w'=>e=.returned (.tuple #[.string ⟨#[]⟩,.int .i64 2])∧Below w.heap.size w w':=by
 have hu29:=Try.underlying29
 have hB:∀ o1 o2 o3 o4,Below w.heap.size w ((((w.alloc o1).alloc o2).alloc o3).alloc o4):=fun o1 o2 o3 o4=>below_alloc (below_alloc (below_alloc (below_alloc (Below.refl _ _) _) _) _) _
 by_cases h0:i<0
 ·go_enter Try.func43,Try.ntmps43
  go_wp2
  refine bodyPost_ret (v:=.tuple #[.string ⟨#[]⟩,.int .i64 2]) (by simp [results,Try.f43,go_sem]) rfl ?_
  exact ⟨rfl,hB _ _ _ _⟩
 ·have h:(l0.length:Int)≤i:=by omega
  go_enter Try.func43,Try.ntmps43
  go_wp2
  refine bodyPost_ret (v:=.tuple #[.string ⟨#[]⟩,.int .i64 2]) (by simp [results,Try.f43,go_sem]) rfl ?_
  exact ⟨rfl,hB _ _ _ _⟩
set_option maxRecDepth 100000 in
set_option maxHeartbeats 4000000 in
theorem get_in (A0:Option Addr) (c0:Nat) (l0:List ByteArray) (A1:Option Addr) (c1:Nat) (l1:List S27) (a2 i:Int) (w:World) (hr0:Kd.C Kd.string w A0 l0.length l0) (hc0:l0.length≤c0) (hr1:Kd.C k27 w A1 l1.length l1) (hc1:l1.length≤c1) (h0:0≤i) (h1:i<l0.length) (hreach:l1.length≤140737488355328) (F:Fence) (n:Nat) (f43:F.fn 43) (f85:F.fn 85) (f115:F.fn 115) (hro:F.round=none) (hn:3≤n) :
  CallsIn F n Try.prog 43 #[.agg #[.slice A0 l0.length c0,.slice A1 l1.length c1,.int .i64 a2],.int .i64 i] w fun e w'=>e=.returned (.tuple #[.string (getV l0 l1 i),.int .i64 0])∧Below w.heap.size w w':=by
 have hu29:=Try.underlying29
 have hu27:=Try.underlying27
 have h1':1≤n:=by omega
 have H0:=Lib.hid hr0
 have H1:=Lib.hid hr1
 clear hr0 hr1
 refine callsIn_of_wp_marks Try.func43 rfl f43 ?_ hro
 simp only [Try.ntmps43,List.size_toArray,List.length_cons,List.length_nil,Nat.reduceAdd,Nat.reduceSub,Array.replicate_succ,Array.replicate_zero,List.push_toArray,List.append_toArray,List.nil_append,List.cons_append]
 have hd1:decide (i<0)=false:=decide_eq_false (by omega)
 have hd2:decide ((l0.length:Int)≤i)=false:=decide_eq_false (by omega)
 gi_wp2_with (gi_at_call 85;refine (back_in F (n - 1) f85 hro _ _ _ _).mono ?_;rintro e w' ⟨rfl,rfl⟩)
 obtain ⟨W0,hW0⟩:∃ W0,W0=(((((w.alloc (.cells #[.slice A0 l0.length c0,.slice A1 l1.length c1,.int .i64 a2] 29 (0,0))).alloc (.cells #[.int .i64 i] 3 (0,0))).alloc (.cells #[.string ⟨#[]⟩] 9 (0,0))).alloc (.cells #[.int .i64 0] 30 (0,0))).alloc (.cells #[.slice A1 l1.length c1] 23 (0,0))):=⟨_,rfl⟩
 have hB0:Below w.heap.size w W0:=by rw [hW0];exact below_alloc (below_alloc (below_alloc (below_alloc (below_alloc (Below.refl _ _) _) _) _) _) _
 have hsz:W0.heap.size=w.heap.size + 5:=by rw [hW0];simp
 have k0:W0.cell? ⟨w.heap.size,0,none⟩=some (.slice A0 l0.length c0):=by rw [hW0];simp [go_sem]
 have k1:W0.cell? ⟨w.heap.size + 1,0,none⟩=some (.int .i64 i):=by rw [hW0];simp [go_sem]
 have k2:W0.cell? ⟨w.heap.size + 1 + 1,0,none⟩=some (.string ⟨#[]⟩):=by rw [hW0];simp [go_sem]
 have k3:W0.cell? ⟨w.heap.size + 1 + 1 + 1,0,none⟩=some (.int .i64 0):=by rw [hW0];simp [go_sem]
 have k4:W0.cell? ⟨w.heap.size + 1 + 1 + 1 + 1,0,none⟩=some (.slice A1 l1.length c1):=by rw [hW0];simp [go_sem]
 have f2:W0.frozen? ⟨w.heap.size + 1 + 1,0,none⟩=false:=by rw [hW0];simp [go_sem]
 have f3:W0.frozen? ⟨w.heap.size + 1 + 1 + 1,0,none⟩=false:=by rw [hW0];simp [go_sem]
 rw [← hW0]
 clear hW0
 refine wpIn_rangeFunc_ownH hro h1' (gf:=115) (lb:=#[.pointer (some ⟨w.heap.size + 1 + 1 + 1 + 1,0,none⟩)]) rfl f115 (enters_of Try.func115 (by kernel_rfl) rfl)
  (back_stops F (n - 1) f115 hro (by omega) (w.heap.size + 1 + 1 + 1 + 1) A1 c1 l1 hreach W0 (by omega) k4 (Kd.C_below H1.out hB0)) belowK_t (belowK_b (Nat.le_refl _)) (Below.refl _ _) (fun _=>rfl)
  (fun pre W=>(((∀ p ∈ pre,p.2.f0≠i)∧W.cell? ⟨w.heap.size,0,none⟩=some (.slice A0 l0.length c0)∧W.cell? ⟨w.heap.size + 1,0,none⟩=some (.int .i64 i))∧(W.cell? ⟨w.heap.size + 1 + 1,0,none⟩=some (.string ⟨#[]⟩)∧W.frozen? ⟨w.heap.size + 1 + 1,0,none⟩=false)∧(W.cell? ⟨w.heap.size + 1 + 1 + 1,0,none⟩=some (.int .i64 0)∧W.frozen? ⟨w.heap.size + 1 + 1 + 1,0,none⟩=false)∧W0.heap.size≤W.heap.size)∧Below w.heap.size w W)
  (fun c pre W=>((c=.ret∧∃ ini last,pre=ini ++ [last]∧(∀ p ∈ ini,p.2.f0≠i)∧last.2.f0=i∧W.cell? ⟨w.heap.size + 1 + 1,0,none⟩=some (.string last.2.f1))∧W.cell? ⟨w.heap.size + 1 + 1 + 1,0,none⟩=some (.int .i64 0))∧Below w.heap.size w W)
  (OwnFrom.and (Own.from (fun s A B row hs hg hr=>⟨⟨hs.1.1,cell_kept hs.1.2.1 hg hr,cell_kept hs.1.2.2 hg hr⟩,⟨cell_kept hs.2.1.1 hg hr,(frozen_kept hs.2.1.1 hg hr).trans hs.2.1.2⟩,⟨cell_kept hs.2.2.1.1 hg hr,(frozen_kept hs.2.2.1.1 hg hr).trans hs.2.2.1.2⟩,Nat.le_trans hs.2.2.2 hg.size⟩) _) (ownFrom_below (Nat.le_refl _) (by omega)))
  (fun c=>OwnFrom.and (Own.from (fun s A B row hs hg hr=>by obtain ⟨⟨hc,ini,last,e1,e2,e3,e4⟩,e5⟩:=hs;exact ⟨⟨hc,ini,last,e1,e2,e3,cell_kept e4 hg hr⟩,cell_kept e5 hg hr⟩) _) (ownFrom_below (Nat.le_refl _) (by omega)))
  ⟨⟨⟨by simp,k0,k1⟩,⟨k2,f2⟩,⟨k3,f3⟩,Nat.le_refl _⟩,hB0⟩
  (fun x a' W=>∃ Bx,True∧(W.cell? ⟨Bx,0,none⟩=some (.int .i64 x.2.f0)∧W.cell? ⟨Bx,1,none⟩=some (.string x.2.f1))∧a'={ tmps:=#[.agg #[.slice A0 l0.length c0,.slice A1 l1.length c1,.int .i64 a2],.int .i64 i,.pointer (some ⟨w.heap.size,0,none⟩),.pointer (some ⟨w.heap.size + 1,0,none⟩),.pointer (some ⟨w.heap.size + 1 + 1,0,none⟩),.pointer (some ⟨w.heap.size + 1 + 1 + 1,0,none⟩),undef,.pointer (some ⟨Bx,0,none⟩),.int .i64 i,.bool false,.bool false,.int .i64 i,.pointer (some ⟨w.heap.size,0,none⟩),.slice A0 l0.length c0,.int .i64 l0.length,.bool false,.bool false,.pointer (some ⟨w.heap.size,1,none⟩),.slice A1 l1.length c1,.func (.func 115) #[] #[.pointer (some ⟨w.heap.size + 1 + 1 + 1 + 1,0,none⟩)],.int .i64 x.1,.agg #[.int .i64 x.2.f0,.string x.2.f1],undef,undef,undef,undef,undef,undef,undef,undef,undef,undef,undef],defers:=[] })
  (fun x a' _ X Y row hs hg hr=>by obtain ⟨Bx,h1,h2,h3⟩:=hs;exact ⟨Bx,h1,⟨cell_kept h2.1 hg (fun r e=>(hr r e).2),cell_kept h2.2 hg (fun r e=>(hr r e).2)⟩,h3⟩)
  ?assign ?body ?done ?stop
 case assign=>
  rintro l pre x W K ⟨⟨⟨p0,p1,p2⟩,⟨p3,p4⟩,⟨p5,p6⟩,hgr⟩,hB1⟩ hK
  gi_wp2
  exact hK _ _ ((KeepsOthers.alloc _ _).from _) ((Below.refl _ W).alloc hgr _) ⟨⟨⟨p0,cA _ p1,cA _ p2⟩,⟨cA _ p3,fA _ p3 p4⟩,⟨cA _ p5,fA _ p5 p6⟩,by simp;omega⟩,hB1.alloc hB1.size _⟩ ⟨W.heap.size,trivial,⟨by simp [go_sem],by simp [go_sem]⟩,rfl⟩
 case body=>
  rintro l pre x a' W hl ⟨r,hr⟩ ⟨⟨⟨p0,p1,p2⟩,⟨p3,p4⟩,⟨p5,p6⟩,hgr⟩,hB1⟩ ⟨Bx,hBx,⟨x0,x1⟩,rfl⟩ hlt
  by_cases hx:x.2.f0=i
  ·have hx':(x.2.f0 == i)=true:=by simp [hx]
   gi_wp2
   refine ⟨((KeepsOthers.setCell _ _ _).from _).trans ((KeepsOthers.setCell _ _ _).from _),⟨⟨rfl,pre,x,rfl,p0,hx, ?_⟩, ?_⟩,(hB1.setCell (p:=⟨w.heap.size + 1 + 1,0,none⟩) (by simp;omega) _).setCell (p:=⟨w.heap.size + 1 + 1 + 1,0,none⟩) (by simp;omega) _⟩
   ·simp [go_sem,p3]
   ·simp [go_sem,p5]
  ·have hx':(x.2.f0 == i)=false:=by simp [hx]
   gi_wp2
   exact ⟨KeepsFrom.refl _ _,Below.refl _ _,⟨⟨fun p hp'=>(List.mem_append.1 hp').elim (p0 p) (fun e=>by simp at e;subst e;exact hx),p1,p2⟩,⟨p3,p4⟩,⟨p5,p6⟩,hgr⟩,hB1⟩
 case done=>
  rintro D ys W hD rfl ⟨⟨⟨p0,p1,p2⟩,⟨p3,p4⟩,⟨p5,p6⟩,hgr⟩,hB1⟩ hK
  obtain ⟨ad,rfl,hcell⟩:=Kd.at_string (Kd.C_below H0.out hB1) i h0 h1
  gi_wp2
  have hv:getV l0 l1 i=rdOf ByteArray.empty l0 i:=by
   unfold getV
   rw [List.find?_eq_none.2 (fun p hp=>by simp [p0 p hp])]
  rw [hv]
  have hK':=(KeepsOthers.setCell (W.setCell ⟨w.heap.size + 1 + 1,0,none⟩ (.string (rdOf ByteArray.empty l0 i))) ⟨w.heap.size + 1 + 1 + 1,0,none⟩ (.int .i64 0)).same D _ ((KeepsOthers.setCell W ⟨w.heap.size + 1 + 1,0,none⟩ (.string (rdOf ByteArray.empty l0 i))).same D _ hK rfl) rfl
  have c2:((W.setCell ⟨w.heap.size + 1 + 1,0,none⟩ (.string (rdOf ByteArray.empty l0 i))).setCell ⟨w.heap.size + 1 + 1 + 1,0,none⟩ (.int .i64 0)).cell? ⟨w.heap.size + 1 + 1,0,none⟩=some (.string (rdOf ByteArray.empty l0 i)):=by simp [go_sem,p3]
  have c3:((W.setCell ⟨w.heap.size + 1 + 1,0,none⟩ (.string (rdOf ByteArray.empty l0 i))).setCell ⟨w.heap.size + 1 + 1 + 1,0,none⟩ (.int .i64 0)).cell? ⟨w.heap.size + 1 + 1 + 1,0,none⟩=some (.int .i64 0):=by simp [go_sem,p5]
  refine ⟨by simp,.inl ⟨_,_,rfl,run_takeDeferred hK', ?_⟩⟩
  have d2:=cell_kept c2 (grownBy_putObj' _ D (.deferred none)) (fun r e=>by cases e;exact ⟨_,hK',rfl⟩)
  have d3:=cell_kept c3 (grownBy_putObj' _ D (.deferred none)) (fun r e=>by cases e;exact ⟨_,hK',rfl⟩)
  refine ⟨.tuple #[.string (rdOf ByteArray.empty l0 i),.int .i64 0], ?_,rfl,((hB1.setCell (p:=⟨w.heap.size + 1 + 1,0,none⟩) (by simp;omega) _).setCell (p:=⟨w.heap.size + 1 + 1 + 1,0,none⟩) (by simp;omega) _).trans (belowK_b (w:=w) (Nat.le_refl _) _ D _ _ (by omega) hK' rfl rfl)⟩
  simp [results,Try.f43,go_sem,d2,d3]
 case stop=>
  rintro D c pre W hD ⟨k,hk,rfl⟩ ⟨⟨⟨rfl,ini,last,e1,e2,e3,q0⟩,q1⟩,hB1⟩ hK
  gi_wp2
  refine ⟨by simp,.inl ⟨_,_,rfl,run_takeDeferred hK, ?_⟩⟩
  have hv:getV l0 l1 i=last.2.f1:=by
   unfold getV
   have hpre:backTo l1 l1.length=ini ++ ([last] ++ (List.range' k (l1.length - k)).map fun j=>((((l1.length - 1 - j:Nat)):Int),l1.getD (l1.length - 1 - j) z27)):=by
    rw [← List.append_assoc,← e1]
    unfold backTo
    rw [← List.map_append,List.range_eq_range',List.range_eq_range']
    have hra:=List.range'_append_1 (s:=0) (m:=k) (n:=l1.length - k)
    rw [Nat.zero_add,show k + (l1.length - k)=l1.length by omega] at hra
    rw [hra]
   rw [hpre,List.find?_append,List.find?_eq_none.2 (fun p hp=>by simp [e2 p hp])]
   simp [e3]
  rw [hv]
  have d2:=cell_kept q0 (grownBy_putObj' _ D (.deferred none)) (fun r e=>by cases e;exact ⟨_,hK,rfl⟩)
  have d3:=cell_kept q1 (grownBy_putObj' _ D (.deferred none)) (fun r e=>by cases e;exact ⟨_,hK,rfl⟩)
  refine ⟨.tuple #[.string last.2.f1,.int .i64 0], ?_,rfl,hB1.trans (belowK_b (w:=w) (Nat.le_refl _) W D _ _ (by omega) hK rfl rfl)⟩
  simp [results,Try.f43,go_sem,d2,d3]
def drive_Get.f (l0:List ByteArray) (l1:List S27) (_:Int) (i:Int):Option (ByteArray × Int):=
 if l1.length≤140737488355328 then (if i<0∨(l0.length:Int)≤i then some (⟨#[]⟩,2) else some (getV l0 l1 i,0)) else none
theorem drive_Get.calls (A0_0:Option Addr) (c0_0:Nat) (l0_0:List ByteArray) (A0_1:Option Addr) (c0_1:Nat) (l0_1:List S27) (a0_2 a1:Int) (r1:ByteArray) (r2:Int) (w:World) (hr0_0:Kd.C Kd.string w A0_0 l0_0.length l0_0) (hc0_0:l0_0.length≤c0_0) (hr0_1:Kd.C k27 w A0_1 l0_1.length l0_1) (hc0_1:l0_1.length≤c0_1) (h:drive_Get.f l0_0 l0_1 a0_2 a1=some (r1,r2)) :
  Calls Try.prog 43 #[.agg #[.slice A0_0 l0_0.length c0_0,.slice A0_1 l0_1.length c0_1,.int .i64 a0_2],.int .i64 a1] w fun e w'=>e=.returned (.tuple #[.string r1,.int .i64 r2])∧Below w.heap.size w w':=by
 unfold drive_Get.f at h
 split at h
 case isFalse=>cases h
 case isTrue hl=>
  split at h
  ·next ho=>
   cases h
   exact get_out _ _ _ _ _ _ _ _ _ ho
  ·next ho=>
   cases h
   exact callsIn_wide.1 (get_in _ _ _ _ _ _ _ _ _ hr0_0 hc0_0 hr0_1 hc0_1 (by omega) (by omega) hl Fence.wide 3 trivial trivial trivial rfl (Nat.le_refl _))
end Go.Proofs.Ytjfmnkmgnbbfgaa.A
