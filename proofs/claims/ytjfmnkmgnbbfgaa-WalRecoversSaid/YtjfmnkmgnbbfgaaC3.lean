/- Several texts of this claim in one: C2, C3. -/
import Derived.Test.YtjfmnkmgnbbfgaaC1
set_option linter.unusedVariables false
set_option linter.unusedSimpArgs false
namespace Go.Proofs.Ytjfmnkmgnbbfgaa.A
open Go.RowKit Go.Proofs.YtjfmnkmgnbbfgaaW.PrintWords Go.Proofs.YtjfmnkmgnbbfgaaW.PrintLast Go.Proofs.YtjfmnkmgnbbfgaaW.PrintMore
def doV:List CallV→List ByteArray→List S27→Int→List ByteArray × List S27 × Int × Int
 | [],b,p,a=>(b,p,a,0)
 | c :: cs,b,p,a=>if (callV c b p a).2.2.2=0 then doV cs (callV c b p a).1 (callV c b p a).2.1 (callV c b p a).2.2.1 else callV c b p a
theorem landTo_length (n:Nat) (hv:Nat→Int) (xs:List S27):∀ q l,(landTo n hv q xs l).length=l.length:=by
 induction xs with
 | nil=>intro q l;rfl
 | cons x xs ih=>intro q l;rw [landTo,ih,landStep_length]
theorem callV_len (c:CallV) (b:List ByteArray) (p:List S27) (a:Int) (hb:b.length≤256):(callV c b p a).1.length≤256∧(callV c b p a).2.1.length≤p.length + 1:=by
 cases c with
 | put i s=>
  simp only [callV,putV]
  split
  ·split
   ·exact ⟨hb,by simp⟩
   ·exact ⟨hb,by simp⟩
  ·exact ⟨by simp,by simp⟩
 | flush=>
  simp only [callV,flushV]
  split
  ·exact ⟨hb,by simp⟩
  ·exact ⟨by rw [landTo_length];exact hb,by simp⟩
def Dr (W:World) (ok:Nat→Prop) (v0 v1:Value) (b:List ByteArray) (p:List S27):Prop:=Kd.V Kd.string 9 W 0 ok v0 b∧Kd.V k27 27 W 0 ok v1 p
section
variable {W W1:World} {ok ok':Nat→Prop} {v0 v1:Value} {b:List ByteArray} {p:List S27}
theorem Dr.below (h:Dr W ok v0 v1 b p) (hb:Below W.heap.size W W1):Dr W1 ok v0 v1 b p:=⟨Kd.V_below h.1 hb,Kd.V_below h.2 hb⟩
theorem Dr.mono (h:Dr W ok v0 v1 b p) (hk:∀ k,ok k→ok' k):Dr W ok' v0 v1 b p:=⟨Kd.V_mono h.1 hk,Kd.V_mono h.2 hk⟩
theorem Dr.bound (h:Dr W ok v0 v1 b p):Dr W (fun k=>ok k∧k<W.heap.size) v0 v1 b p:=⟨Kd.V_bound h.1,Kd.V_bound h.2⟩
theorem Dr.set3 (h:Dr W ok v0 v1 b p) {g:Nat} (hk:∀ k,ok k→k≠g) (x y z:Value):Dr (((W.setCell ⟨g,0,none⟩ x).setCell ⟨g,1,none⟩ y).setCell ⟨g,2,none⟩ z) ok v0 v1 b p:=
 ⟨Kd.V_far (Kd.V_far (Kd.V_far h.1 (p:=⟨g,0,none⟩) hk x) (p:=⟨g,1,none⟩) hk y) (p:=⟨g,2,none⟩) hk z,Kd.V_far (Kd.V_far (Kd.V_far h.2 (p:=⟨g,0,none⟩) hk x) (p:=⟨g,1,none⟩) hk y) (p:=⟨g,2,none⟩) hk z⟩
theorem Dr.slices (h:Dr W ok v0 v1 b p):∃ B0 e0 B1 e1,v0=.slice B0 b.length e0∧v1=.slice B1 p.length e1:=by
 obtain ⟨A,c,rfl⟩:=Kd.V_slice h.1
 obtain ⟨A',c',rfl⟩:=Kd.V_slice h.2
 exact ⟨A,c,A',c',rfl,rfl⟩
theorem Dr.of_R {base:Nat} (h0:Kd.R Kd.string 9 W base (fun _=>True) v0 b) (h1:Kd.R k27 27 W base (fun _=>True) v1 p):Dr W (fun k=>base≤k∧k<W.heap.size) v0 v1 b p:=
 ⟨Kd.R_V (Kd.R_mono (Kd.R_bound h0) (fun k hk=>⟨hk.2.1,hk.2.2.1⟩)),Kd.R_V (Kd.R_mono (Kd.R_bound h1) (fun k hk=>⟨hk.2.1,hk.2.2.1⟩))⟩
end
def DoOut (w w':World) (ok:Nat→Prop) (e:Ending) (r:List ByteArray × List S27 × Int × Int):Prop:=
 ∃ v0 v1:Value,e=.returned (.tuple #[.agg #[v0,v1,.int .i64 r.2.2.1],.int .i64 r.2.2.2])∧Dr w' (fun k=>ok k∨w.heap.size≤k) v0 v1 r.1 r.2.1∧Below w.heap.size w w'
theorem kcall_at {w:World} {A:Option Addr} {xs:List CallV} (h:Kd.C kcall w A xs.length xs) (j:Nat) (hj:j<xs.length):∃ ad v,A=some ad∧w.cell? (ad.add j)=some v∧FnIs w (fun _=>True) v xs[j]:=by
 obtain ⟨ad,c,rfl,hl,⟨v,rfl,hv⟩,hc⟩:=Kd.C_get h (.flush) (j:Int) (by omega) (by omega)
 refine ⟨ad,v,rfl, ?_, ?_⟩
 ·have:=hc 0 v rfl
  simpa [kcall] using this
 ·rw [show xs.getD ((j:Int).toNat) .flush=xs[j] from by simp [hj]] at hv
  exact hv
set_option maxHeartbeats 4000000 in
set_option maxRecDepth 100000 in
theorem do_walk (cs:List CallV) (Ac:Option Addr) (cc:Nat) (A0:Option Addr) (c0:Nat) (l0:List ByteArray) (A1:Option Addr) (c1:Nat) (l1:List S27) (a:Int) (ok:Nat→Prop) (w:World)
  (hd:Dr w ok (.slice A0 l0.length c0) (.slice A1 l1.length c1) l0 l1) (hcs:Kd.C kcall w Ac cs.length cs) (hb:l0.length≤256) (hp:l1.length + cs.length≤1000) :
  Calls Try.prog 69 #[.agg #[.slice A0 l0.length c0,.slice A1 l1.length c1,.int .i64 a],.slice Ac cs.length cc] w fun e w'=>DoOut w w' ok e (doV cs l0 l1 a):=by
 have hu29:=Try.underlying29
 have HD:=Aside0.mk hd
 have HCS:=Aside0.mk hcs
 clear hd hcs
 go_enter Try.func69,Try.ntmps69
 go_wp2_with (first
  | ((with_reducible refine gate_dst (N:=2) rfl ?_);refine box_event ?hg (N:=2) ?hd (cs:=#[.slice A0 l0.length c0,.slice A1 l1.length c1,.int .i64 a]) (t:=29) ?hr ?_;(case hd=>rfl);(case hg=>rfl);(case hr=>first |(go_simp;done) |(go_simp;rfl));intro b2 hb2 w2 hx2 hl2;have HX2:=Aside0.mk hx2;have HL2:=Aside0.mk hl2;have HB2:=Aside0.mk hb2;clear hx2 hl2 hb2)
  | ((with_reducible refine gate_dst (N:=4) rfl ?_);refine box_event ?hg (N:=4) ?hd (cs:=#[.slice none 0 0,.slice none 0 0,.int .i64 0]) (t:=29) ?hr ?_;(case hd=>rfl);(case hg=>rfl);(case hr=>first |(go_simp;done) |(go_simp;rfl));intro b4 hb4 w4 hx4 hl4;have HX4:=Aside0.mk hx4;have HL4:=Aside0.mk hl4;have HB4:=Aside0.mk hb4;clear hx4 hl4 hb4))
 have hbw:=below_step HL2.out HL4.out
 have g2:w.heap.size≤b2:=Nat.le_of_eq HB2.out.symm
 have g4:w.heap.size≤b4:=by rw [HB4.out];exact HL2.out.size
 have n24:b2≠b4:=by rw [HB4.out];exact Nat.ne_of_lt (blk_lt HX2.out)
 have HD0:=Aside0.mk (((HD.out.bound).below hbw).mono (ok':=fun k=>(ok k∨w.heap.size≤k)∧k≠b2∧k≠b4) (fun k hk=>⟨.inl hk.1,by have:=hk.2;omega,by have:=hk.2;omega⟩))
 have HBX2:=Aside0.mk (blk_below HX2.out HL4.out)
 have HBW:=Aside0.mk hbw
 clear HD hbw HX2
 go_loopw [12] (fun i wr=>∃ (j:Nat) (b:List ByteArray) (p:List S27) (x:Int) (B0:Option Addr) (e0:Nat) (B1:Option Addr) (e1:Nat),j≤cs.length∧i=.int .i64 (j:Int)∧Aside0 (doV (cs.drop j) b p x=doV cs l0 l1 a)∧Aside0 (b.length≤256∧p.length≤l1.length + j)∧Aside0 (wr.heap[b2]?=some (.cells #[.slice B0 b.length e0,.slice B1 p.length e1,.int .i64 x] 29 (0,0)))∧Aside0 (wr.heap[b4]?=some (.cells #[.slice none 0 0,.slice none 0 0,.int .i64 0] 29 (0,0)))∧Aside0 (Dr wr (fun k=>(ok k∨w.heap.size≤k)∧k≠b2∧k≠b4) (.slice B0 b.length e0) (.slice B1 p.length e1) b p)∧Aside0 (Below w.heap.size w wr)) (fun i _=>cs.length - (intOf i).toNat)
 case atStart=>exact ⟨0,l0,l1,a,A0,c0,A1,c1,Nat.zero_le _,rfl,⟨rfl⟩,⟨hb,by omega⟩,HBX2,HX4,HD0,HBW⟩
 case round=>
  clear HBX2 HX4 HD0 HBW
  obtain ⟨j,b,p,x,B0,e0,B1,e1,hj,rfl,HV,HLN,HBX2,HBX4,HD0,HBW⟩:=hrel
  by_cases hlt:j<cs.length
  ·have hjl:(j:Int)<cs.length:=by omega
   have hjr:(j:Int)≤140737488355328:=by omega
   obtain ⟨ad,v,rfl,hcv,hfn⟩:=kcall_at (Kd.C_below HCS.out HBW.out) j hlt
   have k0:=(blk_cell HBX2.out 0).trans rfl
   have k1:=(blk_cell HBX2.out 1).trans rfl
   have k2:=(blk_cell HBX2.out 2).trans rfl
   have f0:=blk_frozen HBX2.out 0
   have f1:=blk_frozen HBX2.out 1
   have f2:=blk_frozen HBX2.out 2
   have hV:=HV.out
   rw [List.drop_eq_getElem_cons hlt,doV] at hV
   have hln:=callV_len cs[j] b p x HLN.out.1
   obtain ⟨F,fn,caps,rfl,hf,hnm,hbd,hcall⟩:=call_walk cs[j] B0 e0 b B1 e1 p x _ v wr hfn (Kd.V_reads' HD0.out.1).2.2 (Kd.V_reads' HD0.out.1).2.1 (Kd.V_reads' HD0.out.2).2.2 (Kd.V_reads' HD0.out.2).2.1 HLN.out.1 (by have:=HLN.out.2;omega)
   generalize callV cs[j] b p x=T at hV hcall hln
   obtain ⟨t1,t2,t3,t4⟩:=T
   have HCALL:=Aside0.mk hcall
   have HV2:=Aside0.mk hV
   have HLN2:=Aside0.mk hln
   clear hcall hV HV hfn hln
   go_wp2
   rw [enters_ hf hnm hbd,Oper.upon_enter]
   refine HCALL.out.mono ?_
   rintro e w5 ⟨v0,v1,rfl,ho0,ho1,hb5⟩
   have hD5:=Dr.of_R ho0 ho1
   obtain ⟨C0,q0,C1,q1,rfl,rfl⟩:=hD5.slices
   have HD5:=Aside0.mk hD5
   have HB5:=Aside0.mk hb5
   clear hD5 ho0 ho1 hb5 HCALL k0 k1 k2 f0 f1 f2
   by_cases h4:t4=0
   ·have h4b:(t4 == 0)=true:=beq_iff_eq.mpr h4
    have h4c:(t4 != 0)=false:=bne_eq_false_iff_eq.mpr h4
    go_wp2_with (first
     | ((with_reducible refine gate_dst (N:=8) rfl ?_);refine box_event ?hg (N:=8) ?hd (cs:=#[.slice none 0 0,.slice none 0 0,.int .i64 0]) (t:=29) ?hr ?_;(case hd=>rfl);(case hg=>rfl);(case hr=>first |(go_simp;done) |(go_simp;rfl));intro b8 hb8 w8 hx8 hl8;have y2:=blk_below (blk_below HBX2.out HB5.out) hl8;have y4:=blk_below (blk_below HBX4.out HB5.out) hl8;have n28:b2≠b8:=(by rw [hb8];exact Nat.ne_of_lt (blk_lt (blk_below HBX2.out HB5.out)));have n48:b4≠b8:=(by rw [hb8];exact Nat.ne_of_lt (blk_lt (blk_below HBX4.out HB5.out)));have m0:=(blk_cell hx8 0).trans rfl;have mf0:=blk_frozen hx8 0;have m1:=(blk_cell hx8 1).trans rfl;have mf1:=blk_frozen hx8 1;have m2:=(blk_cell hx8 2).trans rfl;have mf2:=blk_frozen hx8 2;have x0:=(blk_cell y2 0).trans rfl;have xf0:=blk_frozen y2 0;have x1:=(blk_cell y2 1).trans rfl;have xf1:=blk_frozen y2 1;have x2:=(blk_cell y2 2).trans rfl;have xf2:=blk_frozen y2 2;have z0:=(blk_cell y4 0).trans rfl;have zf0:=blk_frozen y4 0;have z1:=(blk_cell y4 1).trans rfl;have zf1:=blk_frozen y4 1;have z2:=(blk_cell y4 2).trans rfl;have zf2:=blk_frozen y4 2;have HX8:=Aside0.mk hx8;have HL8:=Aside0.mk hl8;have HB8:=Aside0.mk hb8;have Y2:=Aside0.mk y2;have Y4:=Aside0.mk y4;clear hx8 hl8 hb8 y2 y4) |fail)
    go_roundw
    case rel=>
     have hV:=HV2.out
     rw [if_pos h4] at hV
     refine ⟨j + 1,t1,t2,t3,C0,q0,C1,q1,by omega,by simp,⟨hV⟩,⟨HLN2.out.1,by have:=HLN2.out.2;have:=HLN.out.2;omega⟩,⟨?_⟩,⟨?_⟩,⟨?_⟩,⟨?_⟩⟩
     ·exact blk_put (blk_put (blk_put (blk_far (blk_far (blk_far Y2.out n28 _) n28 _) n28 _) 0 _ rfl) 1 _ rfl) 2 _ rfl
     ·exact blk_far (blk_far (blk_far (blk_far (blk_far (blk_far Y4.out n48 _) n48 _) n48 _) n24.symm _) n24.symm _) n24.symm _
     ·have:=((HD5.out.mono (ok':=fun k=>k<w5.heap.size∧(ok k∨w.heap.size≤k)∧k≠b2∧k≠b4) (fun k hk=>⟨hk.2,.inr (Nat.le_trans HBW.out.size hk.1),by have:=hk.1;have:=blk_lt HBX2.out;omega,by have:=hk.1;have:=blk_lt HBX4.out;omega⟩)).below HL8.out)
      exact ((this.set3 (g:=b8) (fun k hk=>by rw [HB8.out];have:=hk.1;omega) _ _ _).set3 (g:=b2) (fun k hk=>hk.2.2.1) _ _ _).mono (fun k hk=>hk.2)
     ·have g8:w.heap.size≤b8:=by rw [HB8.out];exact Nat.le_trans HBW.out.size HB5.out.size
      exact below_set3 (below_set3 (below_step (below_step HBW.out HB5.out) HL8.out) g8 _ _ _) g2 _ _ _
    case measure=>simp only [intOf];omega
   ·have h4b:(t4 == 0)=false:=beq_eq_false_iff_ne.mpr h4
    have h4c:(t4 != 0)=true:=bne_iff_ne.mpr h4
    go_wp2_with (first
     | ((with_reducible refine gate_dst (N:=8) rfl ?_);refine box_event ?hg (N:=8) ?hd (cs:=#[.slice none 0 0,.slice none 0 0,.int .i64 0]) (t:=29) ?hr ?_;(case hd=>rfl);(case hg=>rfl);(case hr=>first |(go_simp;done) |(go_simp;rfl));intro b8 hb8 w8 hx8 hl8;have y2:=blk_below (blk_below HBX2.out HB5.out) hl8;have y4:=blk_below (blk_below HBX4.out HB5.out) hl8;have n28:b2≠b8:=(by rw [hb8];exact Nat.ne_of_lt (blk_lt (blk_below HBX2.out HB5.out)));have n48:b4≠b8:=(by rw [hb8];exact Nat.ne_of_lt (blk_lt (blk_below HBX4.out HB5.out)));have m0:=(blk_cell hx8 0).trans rfl;have mf0:=blk_frozen hx8 0;have m1:=(blk_cell hx8 1).trans rfl;have mf1:=blk_frozen hx8 1;have m2:=(blk_cell hx8 2).trans rfl;have mf2:=blk_frozen hx8 2;have x0:=(blk_cell y2 0).trans rfl;have xf0:=blk_frozen y2 0;have x1:=(blk_cell y2 1).trans rfl;have xf1:=blk_frozen y2 1;have x2:=(blk_cell y2 2).trans rfl;have xf2:=blk_frozen y2 2;have z0:=(blk_cell y4 0).trans rfl;have zf0:=blk_frozen y4 0;have z1:=(blk_cell y4 1).trans rfl;have zf1:=blk_frozen y4 1;have z2:=(blk_cell y4 2).trans rfl;have zf2:=blk_frozen y4 2;have HX8:=Aside0.mk hx8;have HL8:=Aside0.mk hl8;have HB8:=Aside0.mk hb8;have Y2:=Aside0.mk y2;have Y4:=Aside0.mk y4;clear hx8 hl8 hb8 y2 y4) |fail)
    have hV:=HV2.out
    rw [if_neg h4] at hV
    refine bodyPost_ret (results_ct rfl _ _ b4 29 #[.slice C0 t1.length q0,.slice C1 t2.length q1,.int .i64 t3] (0,0) _ rfl (blk_put (blk_put (blk_put (blk_far (blk_far (blk_far Y4.out n48 _) n48 _) n48 _) 0 _ rfl) 1 _ rfl) 2 _ rfl) Try.underlying29 rfl (by kernel_rfl)) rfl ?_
    rw [← hV]
    have g8:w.heap.size≤b8:=by rw [HB8.out];exact Nat.le_trans HBW.out.size HB5.out.size
    have:=((HD5.out.mono (ok':=fun k=>k<w5.heap.size∧w.heap.size≤k∧k≠b4) (fun k hk=>⟨hk.2,Nat.le_trans HBW.out.size hk.1,by have:=hk.1;have:=blk_lt HBX4.out;omega⟩)).below HL8.out)
    exact ⟨_,_,rfl,((this.set3 (g:=b8) (fun k hk=>by rw [HB8.out];have:=hk.1;omega) _ _ _).set3 (g:=b4) (fun k hk=>hk.2.2) _ _ _).mono (fun k hk=>.inr hk.2.1),below_set3 (below_set3 (below_step (below_step HBW.out HB5.out) HL8.out) g8 _ _ _) g4 _ _ _⟩
  ·obtain rfl:j=cs.length:=by omega
   have k0:=(blk_cell HBX2.out 0).trans rfl
   have k1:=(blk_cell HBX2.out 1).trans rfl
   have k2:=(blk_cell HBX2.out 2).trans rfl
   have f0:=blk_frozen HBX2.out 0
   have f1:=blk_frozen HBX2.out 1
   have f2:=blk_frozen HBX2.out 2
   have m0:=(blk_cell HBX4.out 0).trans rfl
   have m1:=(blk_cell HBX4.out 1).trans rfl
   have m2:=(blk_cell HBX4.out 2).trans rfl
   have r0:=blk_frozen HBX4.out 0
   have r1:=blk_frozen HBX4.out 1
   have r2:=blk_frozen HBX4.out 2
   go_wp2
   refine bodyPost_ret (results_ct rfl _ _ b4 29 #[.slice B0 b.length e0,.slice B1 p.length e1,.int .i64 x] (0,0) _ rfl (blk_put (blk_put (blk_put HBX4.out 0 _ rfl) 1 _ rfl) 2 _ rfl) Try.underlying29 rfl (by kernel_rfl)) rfl ?_
   have hV:=HV.out
   rw [List.drop_of_length_le (by omega),doV] at hV
   rw [← hV]
   exact ⟨_,_,rfl,(HD0.out.set3 (fun k hk=>hk.2.2) _ _ _).mono (fun k hk=>hk.1),below_set3 HBW.out g4 _ _ _⟩
end Go.Proofs.Ytjfmnkmgnbbfgaa.A
set_option linter.unusedVariables false
set_option linter.unusedSimpArgs false
namespace Go.Proofs.Ytjfmnkmgnbbfgaa.A
open Go.RowKit Go.Proofs.YtjfmnkmgnbbfgaaW.PrintWords Go.Proofs.YtjfmnkmgnbbfgaaW.PrintLast Go.Proofs.YtjfmnkmgnbbfgaaW.PrintMore
theorem info83:(Try.prog.info? 83).map (fun i=>(i.zero,i.size,i.bytes))=some (some .nilFunc,1,8):=by kernel_rfl
theorem wal_put.walk2 (i:Int) (s:ByteArray) (w:World):Calls Try.prog 67 #[.int .i64 i,.string s] w fun e w'=>∃ caps,e=.returned (.func (.func 99) #[] caps)∧kcall.M w' w.heap.size (fun k=>w.heap.size≤k) (.put i s) [.func (.func 99) #[] caps]∧Below w.heap.size w w':=by
 refine (wal_put.walk i s w).mono ?_
 rintro e w' ⟨v,rfl,hm,hb⟩
 have hm2:=hm
 obtain ⟨v',hv',u1,u2,rfl,_⟩:=hm
 obtain rfl:v=.func (.func 99) #[] #[.pointer (some ⟨u1,0,none⟩),.pointer (some ⟨u2,0,none⟩)]:=by simpa using hv'
 exact ⟨_,rfl,hm2,hb⟩
def homeC (x:S27):CallV:=.put (wrap64 (33 + x.f0)) x.f1
def homeV (l:List S27):List CallV:=l.map homeC ++ [.flush]
set_option maxHeartbeats 4000000 in
set_option maxRecDepth 100000 in
theorem home_walk (A:Option Addr) (c:Nat) (l:List S27) (w:World) (hl:Kd.C k27 w A l.length l) (hn:l.length≤1000) :
  Calls Try.prog 70 #[.slice A l.length c] w fun e w'=>∃ v,e=.returned v∧Kd.R kcall 83 w' w.heap.size (fun _=>True) v (homeV l)∧Below w.heap.size w w':=by
 have hu27:=Try.underlying27
 have HL:=Aside0.mk hl
 clear hl
 go_enter Try.func70,Try.ntmps70
 go_wp2
 go_loopw [3,8] (fun v i wr=>∃ j:Nat,j≤l.length∧i=.int .i64 (j:Int)∧Aside0 (Kd.R kcall 83 wr w.heap.size (fun _=>True) v ((l.take j).map homeC))∧Aside0 (Below w.heap.size w wr)) (fun _ i _=>l.length - (intOf i).toNat)
 case atStart=>exact ⟨0,Nat.zero_le _,rfl,⟨Kd.R_nil _ _ _ _ _⟩,⟨Below.refl _ _⟩⟩
 case round=>
  obtain ⟨j,hj,rfl,HR,HB⟩:=hrel
  by_cases hlt:j<l.length
  ·have hjl:(j:Int)<l.length:=by omega
   have hjr:(j:Int)≤140737488355328:=by omega
   obtain ⟨ad,rfl,g0,g1⟩:=at_T27 (Kd.C_below HL.out HB.out) (j:Int) (by omega) (by omega)
   rw [show rd_T27 l (j:Int)=l[j] from rdTN l j hlt] at g0 g1
   obtain ⟨x,hx⟩:∃ x,x=l[j]:=⟨_,rfl⟩
   rw [← hx] at g0 g1
   simp only [Int.toNat_natCast] at g0 g1
   have HX:=Aside0.mk hx
   clear hx
   go_wp2_with (first
    | ((with_reducible refine gate_dst (N:=5) rfl ?_);refine box_event ?hg (N:=5) ?hd (cs:=#[.int .i64 0,.string ⟨#[]⟩]) (t:=27) ?hr ?_;(case hd=>rfl);(case hg=>rfl);(case hr=>first |(go_simp;done) |(go_simp;rfl));intro b5 hb5 w5 hx5 hl5;have m0:=(blk_cell hx5 0).trans rfl;have m1:=(blk_cell hx5 1).trans rfl;have g5:w.heap.size≤b5:=(by rw [hb5];exact HB.out.size);have f0:=blk_frozen hx5 0;have f1:=blk_frozen hx5 1;have HX5:=Aside0.mk hx5;have HL5:=Aside0.mk hl5;have HB5:=Aside0.mk hb5;clear hx5 hl5 hb5)
    | ((with_reducible refine gate_callee (f:=67) rfl ?_);refine goesL_ (some 18) rfl rfl Try.func67 (by kernel_rfl) rfl #[.int .i64 (wrap64 (33 + x.f0)),.string x.f1] rfl (by (try simp only [List.map_toArray,List.map_cons,List.map_nil]);first |done |rfl) ?_;refine (wal_put.walk2 (wrap64 (33 + x.f0)) x.f1 _).mono ?_;rintro e w6 ⟨caps,rfl,hm6,hb6⟩;refine ⟨_,rfl, ?_⟩;have hRX:=R_set2 (Kd.R_below HR.out HL5.out) HX5.out (by decide) (.int .i64 x.f0) (.string x.f1);have hBX:=((below_step HB.out HL5.out).setCell (p:=⟨b5,0,none⟩) g5 (.int .i64 x.f0)).setCell (p:=⟨b5,1,none⟩) g5 (.string x.f1);have hM:=kcall.M_lower hBX.size hm6;have hne:∀ k,(((w5.setCell ⟨b5,0,none⟩ (.int .i64 x.f0)).setCell ⟨b5,1,none⟩ (.string x.f1)).heap.size≤k)→True∧some k≠u3.ownBlock:=(fun k hk=>⟨trivial,fun e_=>by have:=(Kd.R_bound hRX).1 k e_.symm;omega⟩);have HM6:=Aside0.mk hM;have HN6:=Aside0.mk hne;have HR6:=Aside0.mk (Kd.R_below hRX hb6);have HB6:=Aside0.mk (below_step hBX hb6);clear hm6 hb6 hRX hBX hM hne)
    | ((with_reducible refine gate_builtin (b:=.append) (xs:=#[.tmp 12,.tmp 19]) rfl ?_);at_builtin;refine Kd.R_append kcall (w0:=w) w.heap.size rfl (.tmp 12) (.tmp 19) 82 83 .nilFunc 8 rfl Try.underlying82 info83 rfl (by decide) (by omega) u3 ((l.take j).map homeC) (homeC x) [.func (.func 99) #[] caps] (fun _=>True) _ rfl rfl HM6.out HN6.out (fun _ _=>trivial) HR6.out HB6.out HB6.out.size ?aL ?_;(case aL=>simp;omega);intro v1 w7 ho hb7 hg hat;have HR7:=Aside0.mk ho;have HB7:=Aside0.mk hb7;clear ho hb7 hg hat)
    | fail)
   go_roundw
   case rel=>
    refine ⟨j + 1,by omega,by simp,⟨?_⟩,HB7⟩
    rw [← List.take_append_getElem hlt,List.map_append,← HX.out]
    exact HR7.out
   case measure=>simp only [intOf];omega
  ·obtain rfl:j=l.length:=by omega
   go_wp2_with (first
    | ((with_reducible refine gate_builtin (b:=.append) (xs:=#[.tmp 22,.tmp 23]) rfl ?_);at_builtin;refine Kd.R_append kcall (w0:=w) w.heap.size rfl (.tmp 22) (.tmp 23) 82 83 .nilFunc 8 rfl Try.underlying82 info83 rfl (by decide) (by omega) u3 ((l.take l.length).map homeC) .flush [.func (.func 40) #[] #[]] (fun _=>True) (fun _=>False) rfl rfl ⟨_,rfl,rfl⟩ (fun _ h=>h.elim) (fun _ _=>trivial) HR.out HB.out HB.out.size ?aL ?_;(case aL=>simp;omega);intro v1 w7 ho hb7 hg hat;have HR7:=Aside0.mk ho;have HB7:=Aside0.mk hb7;clear ho hb7 hg hat)
    | fail)
   go_ret
   refine ⟨_,rfl, ?_,HB7.out⟩
   have:=HR7.out
   rw [List.take_length] at this
   exact this
end Go.Proofs.Ytjfmnkmgnbbfgaa.A
