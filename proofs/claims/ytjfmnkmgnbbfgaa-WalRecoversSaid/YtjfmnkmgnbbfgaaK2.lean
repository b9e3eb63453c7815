/- Several texts of this claim in one: Pu4, K2. -/
import Derived.Test.YtjfmnkmgnbbfgaaH3
import Derived.Test.YtjfmnkmgnbbfgaaA103
import Derived.Test.YtjfmnkmgnbbfgaaA104
import Derived.Test.YtjfmnkmgnbbfgaaA73
set_option linter.unusedVariables false
set_option linter.unusedSimpArgs false
namespace Go.Proofs.Ytjfmnkmgnbbfgaa.A
open Go.RowKit Go.Proofs.YtjfmnkmgnbbfgaaW.PrintWords Go.Proofs.YtjfmnkmgnbbfgaaW.PrintLast Go.Proofs.YtjfmnkmgnbbfgaaW.PrintMore
theorem ref01_get2 (s:ByteArray) (hs:s.size=2) (k:Nat) (hk:3<k):hibernacleref01_Get.f k s=some (get2 s):=by
 obtain ⟨k,rfl⟩:∃ j,k=j + 3:=⟨k - 3,by omega⟩
 have h0:=bt_bounds s 0
 have h1:=bt_bounds s 1
 have a1:wrap64 ((2:Int) - 1)=1:=by unfold wrap64;omega
 have a2:wrap64 ((1:Int) - 1)=0:=by unfold wrap64;omega
 have a3:wrap64 ((0:Int) - 1)=-1:=by unfold wrap64;omega
 have u1:IntKind.u64.wrap (IntKind.u64.wrap (0 * 256) + IntKind.u64.wrap (bt s 1))=bt s 1:=by
  rw [u64_byte _ h1.1 h1.2,u64_small (0 * 256) (by omega) (by omega),u64_small _ (by omega) (by omega)]
  omega
 have u2:IntKind.u64.wrap (IntKind.u64.wrap (bt s 1 * 256) + IntKind.u64.wrap (bt s 0))=get2 s:=by
  rw [u64_byte _ h0.1 h0.2,u64_small (bt s 1 * 256) (by omega) (by omega),u64_small _ (by omega) (by omega)]
  unfold get2
  omega
 have hz:(s.size:Int)=2:=by omega
 unfold hibernacleref01_Get.f
 rw [hz,a1]
 simp only [hibernacleref01_Get.l0,hz]
 rw [if_pos (by decide),if_pos (by decide),if_pos (by decide),if_pos (by decide),u1,a2,if_pos (by decide),if_pos (by decide),if_pos (by decide),if_pos (by decide),u2,a3]
 cases k with
 | zero=>simp only [hibernacleref01_Get.l0];rw [if_neg (by decide)]
 | succ k=>simp only [hibernacleref01_Get.l0];rw [if_neg (by decide)]
theorem rtold_l0 (b:List ByteArray) (p:List S27) (a:Int) (hv:Valid b p) (h33:33<b.length) (hp:p.length≤1000) (N:Nat) (hN:N≤32) (d:Nat):∀ k i,i + d=N→d + 1401<k →
  hibernacleref16_Told.l0 k [] (getV b p 0) (N:Int) (tellL b p (getV b p 0) i) (i:Int) b p a =
   some (if mayV (tellL b p (getV b p 0) N) ((b.length:Int) - 33)=0∧headV (tellL b p (getV b p 0) N)=getV b p 0 then tellL b p (getV b p 0) N else []):=by
 have h256:=hv.1
 have hF:=getV_size hv 0 (by omega) (by omega)
 induction d with
 | zero=>
  intro k i hi hk
  obtain ⟨k,rfl⟩:∃ m,k=m + 1:=⟨k - 1,by omega⟩
  obtain rfl:i=N:=by omega
  have hw:wrap64 ((b.length:Int) - 33)=(b.length:Int) - 33:=by unfold wrap64;omega
  simp only [hibernacleref16_Told.l0]
  rw [if_neg (by omega),hw,rmay_some _ _ k (by omega),Option.bind_some]
  by_cases h2:mayV (tellL b p (getV b p 0) i) ((b.length:Int) - 33)=0
  ·have hfit:=fit_may _ (by omega) _ h2
   rw [if_pos h2]
   unfold hibernacleref16_Head.f
   rw [if_pos hfit,Option.bind_some]
   by_cases h3:headV (tellL b p (getV b p 0) i)=getV b p 0
   ·rw [if_pos (by rw [h3]),if_pos ⟨h2,h3⟩]
   ·rw [if_neg (fun h=>h3 (toL_inj h)),if_neg (fun h=>h3 h.2)]
  ·rw [if_neg h2,if_neg (fun h=>h2 h.1)]
 | succ d ih=>
  intro k i hi hk
  obtain ⟨k,rfl⟩:∃ m,k=m + 1:=⟨k - 1,by omega⟩
  have w1:wrap64 (2 * (i:Int))=2 * (i:Int):=by unfold wrap64;omega
  have w2:wrap64 (6 + 2 * (i:Int))=6 + 2 * (i:Int):=by unfold wrap64;omega
  have w3:wrap64 (8 + 2 * (i:Int))=8 + 2 * (i:Int):=by unfold wrap64;omega
  have hx:(getV b p 0).extract (6 + 2 * (i:Int)).toNat (8 + 2 * (i:Int)).toNat=(getV b p 0).extract (6 + 2 * i) (8 + 2 * i):=by
   rw [show (6 + 2 * (i:Int)).toNat=6 + 2 * i by omega,show (8 + 2 * (i:Int)).toNat=8 + 2 * i by omega]
  have hb2:=get2_bounds ((getV b p 0).extract (6 + 2 * i) (8 + 2 * i))
  have w4:wrap64 (get2 ((getV b p 0).extract (6 + 2 * i) (8 + 2 * i)))=tellAt (getV b p 0) i:=by
   show _=get2 _
   unfold wrap64;omega
  have hd:hibernacleref15_Get.f k b p a ((i + 1:Nat):Int)=some (getV b p ((i + 1:Nat):Int),0):=by rw [rget_many b p a _ hp k (by omega),if_neg (by omega)]
  simp only [hibernacleref16_Told.l0]
  rw [if_pos (by omega),wrapS (by omega),hd,Option.bind_some,w1,w2,w3]
  rw [if_pos (by omega),if_pos (by omega),if_pos (by omega),hx,
   ref01_get2 _ (by rw [ByteArray.size_extract];omega) k (by omega),Option.bind_some,if_pos (by rw [tellL_len];omega),w4]
  have e:=ih k (i + 1) (by omega) (by omega)
  rw [tellL_succ] at e
  exact e
theorem rtold_some (b:List ByteArray) (p:List S27) (a:Int) (h0:badV b p=0) (hp:p.length≤800) (k:Nat) (hk:4000<k):hibernacleref16_Told.f k b p a=some (tellV b p):=by
 obtain ⟨hv,h33⟩:=badV_zero h0
 have h256:=hv.1
 have hF:=getV_size hv 0 (by omega) (by omega)
 obtain ⟨k,rfl⟩:∃ m,k=m + 1:=⟨k - 1,by omega⟩
 have hb2:=get2_bounds ((getV b p 0).extract 4 6)
 have hw:wrap64 (get2 ((getV b p 0).extract 4 6))=tellN (getV b p 0):=by
  show _=get2 _
  unfold wrap64;omega
 have hj:∀ k x,hibernacleref16_Told.j0 (k + 1) [] (getV b p 0) x true b p a=some []:=fun k x=>by
  simp only [hibernacleref16_Told.j0,if_true]
 have hd:hibernacleref15_Get.f (k + 1) b p a 0=some (getV b p 0,0):=by rw [rget_many b p a _ (by omega) (k + 1) (by omega),if_neg (by omega)]
 unfold hibernacleref16_Told.f tellV
 rw [Option.bind_some,rbad_some b p a (by omega) (k + 1) (by omega),Option.bind_some,if_pos h0,hd,Option.bind_some,if_pos (by decide)]
 dsimp only
 rw [if_pos (by omega),ref01_get2 _ (by rw [ByteArray.size_extract];omega) (k + 1) (by omega),Option.bind_some,if_pos (by decide),if_pos (by omega),hw]
 by_cases h1:((getV b p 0).extract 0 4).toList=[104,105,98,106]
 ·rw [if_pos h1]
  by_cases h2:tellN (getV b p 0)<1
  ·rw [if_pos h2,hj,if_neg (fun h=>by have:=h.2.1;omega)]
  ·rw [if_neg h2]
   by_cases h3:tellN (getV b p 0) > 32
   ·rw [decide_eq_true h3,hj,if_neg (fun h=>by have:=h.2.2;omega)]
   ·rw [decide_eq_false h3,if_pos ⟨h1,by omega,by omega⟩]
    simp only [hibernacleref16_Told.j0,Bool.false_eq_true,if_false]
    have e:=rtold_l0 b p a hv h33 (by omega) (tellN (getV b p 0)).toNat (by omega) (tellN (getV b p 0)).toNat k 0 (by omega) (by omega)
    rw [show (((tellN (getV b p 0)).toNat:Nat):Int)=tellN (getV b p 0) by omega] at e
    exact e
 ·rw [if_neg h1,hj,if_neg (fun h=>h1 h.1)]
theorem recoverV_size (b:List ByteArray) (p:List S27) (a:Int) (hb:b.length≤256) (hp:p.length≤200):(recoverV b p a).1.length≤256∧(recoverV b p a).2.1.length≤500:=by
 unfold recoverV
 split
 ·split
  ·exact ⟨hb,by dsimp only;omega⟩
  ·have h1:=doV_b256 (homeV (tellV b p)) b p a hb
   have h2:=doV_plen (homeV (tellV b p)) b p a
   rw [homeV_len] at h2
   have:=tellV_len b p
   exact ⟨h1,by omega⟩
 ·exact ⟨hb,by dsimp only;omega⟩
theorem doV_puts_ok (ws:List S27) (rest:List CallV) (b:List ByteArray):∀ p a,(doV (ws.map asPut ++ rest) b p a).2.2.2=0→∃ a',doV (ws.map asPut ++ rest) b p a=doV rest b (p ++ ws) a':=by
 induction ws with
 | nil=>intro p a _;exact ⟨a,by rw [List.append_nil];rfl⟩
 | cons x ws ih=>
  intro p a h
  rw [List.map_cons,List.cons_append,doV] at h ⊢
  by_cases h1:(callV (asPut x) b p a).2.2.2=0
  ·rw [if_pos h1] at h ⊢
   have e:callV (asPut x) b p a=(b,p ++ [x],lessV a,0):=by
    simp only [asPut,callV,putV] at h1 ⊢
    by_cases h2:lookV b.length x.f0 x.f1=0
    ·rw [if_pos h2] at h1 ⊢
     by_cases h3:a=0
     ·rw [if_pos h3] at h1;cases h1
     ·rw [if_neg h3]
    ·rw [if_neg h2] at h1;exact absurd h1 h2
   rw [e] at h ⊢
   obtain ⟨a',ha⟩:=ih (p ++ [x]) (lessV a) h
   exact ⟨a',by rw [ha,List.append_assoc];rfl⟩
  ·rw [if_neg h1] at h;exact absurd h h1
theorem getV_far (b:List ByteArray) (i:Int) (ws:List S27):∀ p,(∀ x ∈ ws,x.f0≠i)→getV b (p ++ ws) i=getV b p i:=by
 induction ws with
 | nil=>intro p _;rw [List.append_nil]
 | cons x ws ih=>
  intro p h
  rw [show p ++ x :: ws=(p ++ [x]) ++ ws by rw [List.append_assoc];rfl,ih (p ++ [x]) (fun y hy=>h y (List.mem_cons_of_mem _ hy)),getV_snoc4,if_neg (h x List.mem_cons_self)]
theorem getV_over (b c:List ByteArray) (i:Int) (p ws:List S27) (h:rdOf ByteArray.empty c i=getV b (p ++ ws) i):getV c ws i=getV b (p ++ ws) i:=by
 rw [getV_rev,getV_rev,List.reverse_append,List.find?_append] at *
 cases hf:List.find? (fun x=>decide (x.f0=i)) ws.reverse with
 | some x=>rfl
 | none=>rw [hf] at h;exact h
theorem tellL_cong (b c:List ByteArray) (p q:List S27) (f:ByteArray) (n:Nat) (h:∀ i:Nat,i≤n→getV c q (i:Int)=getV b p (i:Int)):tellL c q f n=tellL b p f n:=by
 unfold tellL
 apply List.map_congr_left
 intro i hi
 rw [h (i + 1) (by have:=List.mem_range.1 hi;omega)]
theorem tellV_cong (b c:List ByteArray) (p q:List S27) (hl:c.length=b.length) (h:∀ i:Nat,i≤32→getV c q (i:Int)=getV b p (i:Int)):tellV c q=tellV b p:=by
 have h0:getV c q 0=getV b p 0:=h 0 (by omega)
 unfold tellV
 rw [h0]
 by_cases hk:tellOk (getV b p 0)
 ·have hn:=hk.2.2
  rw [if_pos hk,if_pos hk,tellL_cong b c p q (getV b p 0) (tellN (getV b p 0)).toNat (fun i hi=>h i (by omega)),hl]
 ·rw [if_neg hk,if_neg hk]
theorem tellV_may (b:List ByteArray) (p:List S27) (h:tellV b p≠[]):mayV (tellV b p) ((b.length:Int) - 33)=0:=by
 unfold tellV at h ⊢
 by_cases hk:tellOk (getV b p 0)
 ·rw [if_pos hk] at h ⊢
  by_cases hm:mayV (tellL b p (getV b p 0) (tellN (getV b p 0)).toNat) ((b.length:Int) - 33)=0∧headV (tellL b p (getV b p 0) (tellN (getV b p 0)).toNat)=getV b p 0
  ·rw [if_pos hm];exact hm.1
  ·rw [if_neg hm] at h;exact absurd rfl h
 ·rw [if_neg hk] at h;exact absurd rfl h
theorem recover_again (b:List ByteArray) (p:List S27) (a:Int) (t1:List ByteArray) (t2:List S27) (t3:Int) (hT:recoverV b p a=(t1,t2,t3,0)):recoverV t1 t2 (-1)=(t1,t2,-1,0):=by
 have h0:badV b p=0:=by
  by_cases h:badV b p=0
  ·exact h
  ·rw [recoverV,if_neg h] at hT
   have:=congrArg (fun z=>z.2.2.2) hT
   exact this
 obtain ⟨hv,h33⟩:=badV_zero h0
 have h256:=hv.1
 rw [recoverV,if_pos h0] at hT
 by_cases hn:tellV b p=[]
 ·rw [if_pos hn] at hT
  obtain ⟨rfl,rfl,rfl⟩:b=t1∧p=t2∧a=t3:=by simpa using hT
  rw [recoverV,if_pos h0,if_pos hn]
 ·rw [if_neg hn] at hT
  have hmay:=tellV_may b p hn
  obtain ⟨n,hbn⟩:∃ n,b.length=33 + n:=⟨b.length - 33,by omega⟩
  obtain ⟨l,hl⟩:∃ z,z=tellV b p:=⟨_,rfl⟩
  rw [← hl] at hT hmay hn
  have hm:=mayOk_of l n (by omega) (by rw [show (n:Int)=(b.length:Int) - 33 by omega];exact hmay)
  have hlook:=hw_look l n b.length hm (by omega) hbn
  have hq:Valid b (p ++ hw l):=valid_append hv hlook
  have hz:(doV ((hw l).map asPut ++ [.flush]) b p a).2.2.2=0:=by rw [← homeV_hw,hT]
  obtain ⟨a',ha⟩:=doV_puts_ok (hw l) [.flush] b p a hz
  rw [homeV_hw,ha] at hT
  rw [ha] at hz
  have ha':a'≠0:=by
   intro h
   rw [doV,callV,flushV,if_pos h,if_neg (show ¬((17:Int)=0) by decide)] at hz
   cases hz
  rw [doV_flush _ _ _ _ ha'] at hT
  obtain ⟨rfl,rfl⟩:landTo b.length (fun _=>1) 0 (p ++ hw l) b=t1∧[]=t2:=by
   have h1:=congrArg (fun z=>z.1) hT
   have h2:=congrArg (fun z=>z.2.1) hT
   exact ⟨h1,h2⟩
  obtain ⟨c,hc⟩:∃ z,z=landTo b.length (fun _=>1) 0 (p ++ hw l) b:=⟨_,rfl⟩
  have hcl:c.length=b.length:=by rw [hc];exact land_len hq
  have hcv:Valid c []:=by rw [hc];exact land_valid hq
  have hcr:∀ i:Int,0≤i→i<b.length→rdOf ByteArray.empty c i=getV b (p ++ hw l) i:=by rw [hc];exact (land_whole _ 0 b hq).2.2
  rw [← hc]
  have hb1:badV c []=0:=badV_valid hcv (by omega)
  have ht:tellV c []=l:=by
   rw [hl]
   apply tellV_cong b c p [] hcl
   intro i hi
   rw [getV_nil,hcr (i:Int) (by omega) (by omega)]
   apply getV_far
   intro x hx
   obtain ⟨y,hy,rfl⟩:=List.mem_map.1 hx
   have:=hm.blk y hy
   dsimp only
   rw [wrap33 y.f0 this.1 (by omega)]
   omega
  have hlook2:∀ x ∈ hw l,lookV c.length x.f0 x.f1=0:=by rw [hcl];exact hlook
  have hq2:Valid c (hw l):=valid_append (p:=[]) hcv hlook2
  have hsame:landTo c.length (fun _=>1) 0 (hw l) c=c:=by
   apply list_rd2
   ·exact land_len hq2
   ·intro i hi
    rw [(land_whole _ 0 c hq2).2.2 (i:Int) (by omega) (by omega),hcr (i:Int) (by omega) (by omega)]
    exact getV_over b c (i:Int) p (hw l) (hcr (i:Int) (by omega) (by omega))
  rw [recoverV,if_pos hb1,ht,if_neg hn,homeV_hw,doV_asPuts (hw l) _ c [] hlook2,List.nil_append,doV_flush _ _ _ _ (by decide),less_neg,hsame]
  rfl
end Go.Proofs.Ytjfmnkmgnbbfgaa.A
set_option linter.unusedVariables false
set_option linter.unusedSimpArgs false
namespace Go.Proofs.Ytjfmnkmgnbbfgaa.A
open Go.RowKit Go.Proofs.YtjfmnkmgnbbfgaaW.PrintWords Go.Proofs.YtjfmnkmgnbbfgaaW.PrintLast Go.Proofs.YtjfmnkmgnbbfgaaW.PrintMore
set_option maxHeartbeats 8000000 in
set_option maxRecDepth 100000 in
theorem rrecover_walk (A0:Option Addr) (c0:Nat) (b:List ByteArray) (A1:Option Addr) (c1:Nat) (p:List S27) (a:Int) (ok:Nat→Prop) (w:World)
  (hd:Dr w ok (.slice A0 b.length c0) (.slice A1 p.length c1) b p) (hb:b.length≤300) (hp:p.length≤800) :
  Calls Try.prog 28 #[.agg #[.slice A0 b.length c0,.slice A1 p.length c1,.int .i64 a]] w fun e w'=>DoOut w w' ok e (recoverV b p a):=by
 have hu29:=Try.underlying29
 have HBAD:=Aside0.mk (rbad_some b p a (by omega) 2000 (by omega))
 have HD:=Aside0.mk hd
 clear hd
 go_enter Try.func28,Try.ntmps28
 go_wp2_with (first
  | ((with_reducible refine gate_dst (N:=1) rfl ?_);refine box_event ?hg (N:=1) ?hd (cs:=#[.slice A0 b.length c0,.slice A1 p.length c1,.int .i64 a]) (t:=29) ?hr ?_;(case hd=>rfl);(case hg=>rfl);(case hr=>first |(go_simp;done) |(go_simp;rfl));intro bd hbd wd hxd hld;have HXd:=Aside0.mk hxd;have HLd:=Aside0.mk hld;have HBd:=Aside0.mk hbd;clear hxd hld hbd)
  | ((with_reducible refine gate_dst (N:=2) rfl ?_);refine box_event ?hg (N:=2) ?hd (cs:=#[.slice none 0 0,.slice none 0 0,.int .i64 0]) (t:=29) ?hr ?_;(case hd=>rfl);(case hg=>rfl);(case hr=>first |(go_simp;done) |(go_simp;rfl));intro br hbr wr hxr hlr;have S0:=Aside0.mk (St.start HD.out HXd.out HLd.out HBd.out hxr hlr hbr);have j0:=(blk_cell S0.out.x 0).trans rfl;have j1:=(blk_cell S0.out.x 1).trans rfl;have j2:=(blk_cell S0.out.x 2).trans rfl;clear hxr hlr hbr)
  | fail)
 clear j0 j1 j2
 refine (hibernacleref16_bad.calls 2000 A0 c0 b A1 c1 p a (badV b p) wr (Kd.V_reads' S0.out.d.1).2.2 (Kd.V_reads' S0.out.d.1).2.1 (Kd.V_reads' S0.out.d.2).2.2 (Kd.V_reads' S0.out.d.2).2.1 HBAD.out).mono ?_
 rintro e w2 ⟨rfl,hb2⟩
 have S1:=Aside0.mk (S0.out.below hb2)
 clear hb2
 have j0:=(blk_cell S1.out.x 0).trans rfl
 have j1:=(blk_cell S1.out.x 1).trans rfl
 have j2:=(blk_cell S1.out.x 2).trans rfl
 have m0:=(blk_cell S1.out.r 0).trans rfl
 have m1:=(blk_cell S1.out.r 1).trans rfl
 have m2:=(blk_cell S1.out.r 2).trans rfl
 have f0:=blk_frozen S1.out.r 0
 have f1:=blk_frozen S1.out.r 1
 have f2:=blk_frozen S1.out.r 2
 by_cases hb0:badV b p=0
 ·have hbb:(badV b p != 0)=false:=bne_eq_false_iff_eq.mpr hb0
  have HTOLD:=Aside0.mk (rtold_some b p a hb0 hp 4001 (by omega))
  have hval:=(badV_zero hb0).1
  have hl32:=tellV_len b p
  have HV:Aside0 (recoverV b p a=if tellV b p=[] then (b,p,a,0) else doV (homeV (tellV b p)) b p a):=⟨by rw [recoverV,if_pos hb0]⟩
  obtain ⟨L,hL⟩:∃ z,z=tellV b p:=⟨_,rfl⟩
  rw [← hL] at HTOLD hl32 HV
  have HVL:=Aside0.mk hval
  clear hb0 hval hL
  go_wp2_with fail
  clear j0 j1 j2 m0 m1 m2 f0 f1 f2
  refine (hibernacleref16_Told.calls 4001 A0 c0 b A1 c1 p a L w2 (Kd.V_reads' S1.out.d.1).2.2 (Kd.V_reads' S1.out.d.1).2.1 (Kd.V_reads' S1.out.d.2).2.2 (Kd.V_reads' S1.out.d.2).2.1 HTOLD.out).mono ?_
  rintro e w3 ⟨v,rfl,hr,hb3⟩
  obtain ⟨A6,c6,rfl⟩:=Kd.R_slice hr
  have S2:=Aside0.mk (S1.out.below hb3)
  have HR:=Aside0.mk (Kd.R_reads' hr)
  clear hb3 hr
  have j0:=(blk_cell S2.out.x 0).trans rfl
  have j1:=(blk_cell S2.out.x 1).trans rfl
  have j2:=(blk_cell S2.out.x 2).trans rfl
  have m0:=(blk_cell S2.out.r 0).trans rfl
  have m1:=(blk_cell S2.out.r 1).trans rfl
  have m2:=(blk_cell S2.out.r 2).trans rfl
  have f0:=blk_frozen S2.out.r 0
  have f1:=blk_frozen S2.out.r 1
  have f2:=blk_frozen S2.out.r 2
  by_cases hn:L=[]
  ·have hln:((L.length:Int) == 0)=true:=by rw [hn];rfl
   have HV2:Aside0 (recoverV b p a=(b,p,a,0)):=⟨by rw [HV.out,if_pos hn]⟩
   clear hn HV
   go_wp2
   refine bodyPost_ret (results_ct rfl _ _ br 29 #[.slice A0 b.length c0,.slice A1 p.length c1,.int .i64 a] (0,0) _ rfl (S2.out.outb _ _ _) Try.underlying29 rfl (by kernel_rfl)) rfl ?_
   rw [HV2.out]
   exact S2.out.out _ _ _ 0
  ·have hln:((L.length:Int) == 0)=false:=beq_eq_false_iff_ne.mpr (by have:=List.length_pos_iff.mpr hn;omega)
   obtain ⟨Q,hQ⟩:∃ z,z=doV (homeV L) b p a:=⟨_,rfl⟩
   have HV2:Aside0 (recoverV b p a=Q):=⟨by rw [HV.out,if_neg hn,hQ]⟩
   have HQ:=Aside0.mk hQ
   clear hn HV hQ
   go_wp2_with fail
   clear j0 j1 j2 m0 m1 m2 f0 f1 f2
   refine (rhome_walk A0 c0 b A1 c1 p a A6 c6 L (OkQ w ok bd br) w3 S2.out.d HR.out.2.2 HR.out.2.1 HVL.out (by omega)).mono ?_
   rw [← HQ.out]
   obtain ⟨q1,q2,q3,q4⟩:=Q
   clear HQ
   rintro e w4 ⟨v0,v1,rfl,hD,hb⟩
   obtain ⟨C0,g0,C1,g1,rfl,rfl⟩:=hD.slices
   have HD4:=Aside0.mk hD
   have HB4:=Aside0.mk hb
   clear hD hb
   have m0:=(blk_cell (blk_below S2.out.r HB4.out) 0).trans rfl
   have m1:=(blk_cell (blk_below S2.out.r HB4.out) 1).trans rfl
   have m2:=(blk_cell (blk_below S2.out.r HB4.out) 2).trans rfl
   have f0:=blk_frozen (blk_below S2.out.r HB4.out) 0
   have f1:=blk_frozen (blk_below S2.out.r HB4.out) 1
   have f2:=blk_frozen (blk_below S2.out.r HB4.out) 2
   go_wp2
   refine bodyPost_ret (results_ct rfl _ _ br 29 #[.slice C0 q1.length g0,.slice C1 q2.length g1,.int .i64 q3] (0,0) _ rfl ((Aside0.mk (S2.out.below HB4.out)).out.outb _ _ _) Try.underlying29 rfl (by kernel_rfl)) rfl ?_
   rw [HV2.out]
   exact S2.out.outc HB4.out HD4.out _ _ _ q3 q4
 ·have hbb:(badV b p != 0)=true:=bne_iff_ne.mpr hb0
  have HV2:Aside0 (recoverV b p a=(b,p,a,badV b p)):=⟨by rw [recoverV,if_neg hb0]⟩
  clear hb0
  go_wp2
  refine bodyPost_ret (results_ct rfl _ _ br 29 #[.slice A0 b.length c0,.slice A1 p.length c1,.int .i64 a] (0,0) _ rfl (S1.out.outb _ _ _) Try.underlying29 rfl (by kernel_rfl)) rfl ?_
  rw [HV2.out]
  exact S1.out.out _ _ _ (badV b p)
end Go.Proofs.Ytjfmnkmgnbbfgaa.A
