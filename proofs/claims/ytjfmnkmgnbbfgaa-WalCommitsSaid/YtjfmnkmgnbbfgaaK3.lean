/- The document's Commit, walked. -/
import Derived.Test.YtjfmnkmgnbbfgaaH3
import Derived.Test.YtjfmnkmgnbbfgaaM4
import Derived.Test.YtjfmnkmgnbbfgaaA39
set_option linter.unusedVariables false
set_option linter.unusedSimpArgs false
namespace Go.Proofs.Ytjfmnkmgnbbfgaa.A
open Go.RowKit Go.Proofs.YtjfmnkmgnbbfgaaW.PrintWords Go.Proofs.YtjfmnkmgnbbfgaaW.PrintLast Go.Proofs.YtjfmnkmgnbbfgaaW.PrintMore
def hrc58.T:Bool × List (List Nat × List Nat):=(true,[([],[]),([],[]),([1],[1]),([0,2,2],[0,2]),([3],[3]),([4],[4]),([4],[4]),([5,3,0,1,2,3,4,5],[5]),([6,7,0,1,2,3,4,5,6,7],[6])])
def hrc58.B:List Nat:=[0,0,2,7,15,31,31,63,255]
theorem hrc58.tab:rtab .any (opsOf Try.f58 10)=hrc58.T:=by kernel_rfl
theorem hrc58.bits:waitsOk hrc58.T.2 hrc58.B=true:=by kernel_rfl
theorem rput39_walk (A0:Option Addr) (c0:Nat) (b:List ByteArray) (A1:Option Addr) (c1:Nat) (p:List S27) (a i:Int) (s:ByteArray) (ok:Nat→Prop) (w:World)
  (hd:Dr w ok (.slice A0 b.length c0) (.slice A1 p.length c1) b p) (hp:p.length≤1000) :
  Calls Try.prog 39 #[.agg #[.slice A0 b.length c0,.slice A1 p.length c1,.int .i64 a],.int .i64 i,.string s] w fun e w'=>DoOut w w' ok e (putV b p a i s):=by
 obtain ⟨T,hT⟩:∃ z,z=putV b p a i s:=⟨_,rfl⟩
 have h:=rput_many b p a i s hp 2 (by omega)
 rw [← hT] at h ⊢
 obtain ⟨t1,t2,t3,t4⟩:=T
 exact (hibernacleref15_Put.calls _ ok A0 c0 b ok A1 c1 p a i s t1 t2 t3 t4 w hd.1 hd.2 h).mono (fun e w' h=>DoOut.of h)
theorem doV_one (c:CallV) (cs:List CallV) (b:List ByteArray) (p:List S27) (a:Int):doV (c :: cs) b p a=if (callV c b p a).2.2.2=0 then doV cs (callV c b p a).1 (callV c b p a).2.1 (callV c b p a).2.2.1 else callV c b p a:=rfl
theorem putsC_len (l:List S27):(putsC l).length=l.length:=by simp [putsC]
set_option maxHeartbeats 8000000 in
set_option maxRecDepth 100000 in
theorem rcommit_walk (A0:Option Addr) (c0:Nat) (b:List ByteArray) (A1:Option Addr) (c1:Nat) (p:List S27) (a:Int) (A:Option Addr) (c:Nat) (l:List S27) (ok:Nat→Prop) (w:World)
  (hd:Dr w ok (.slice A0 b.length c0) (.slice A1 p.length c1) b p) (hl:Kd.C k27 w A l.length l) (hc:l.length≤c) (hb:b.length≤300) (hp:p.length≤800) :
  Calls Try.prog 58 #[.agg #[.slice A0 b.length c0,.slice A1 p.length c1,.int .i64 a],.slice A l.length c] w fun e w'=>DoOut w w' ok e (commitV b p a l):=by
 have hu29:=Try.underlying29
 have HBAD:=Aside0.mk (rbad_some b p a (by omega) 2000 (by omega))
 have HD:=Aside0.mk hd
 have HL:=Aside0.mk hl
 clear hd hl
 go_enter Try.func58,Try.ntmps58
 go_wp2_with (first
  | ((with_reducible refine gate_dst (N:=2) rfl ?_);refine box_event ?hg (N:=2) ?hd (cs:=#[.slice A0 b.length c0,.slice A1 p.length c1,.int .i64 a]) (t:=29) ?hr ?_;(case hd=>rfl);(case hg=>rfl);(case hr=>first |(go_simp;done) |(go_simp;rfl));intro bd hbd wd hxd hld;have HXd:=Aside0.mk hxd;have HLd:=Aside0.mk hld;have HBd:=Aside0.mk hbd;clear hxd hld hbd)
  | ((with_reducible refine gate_dst (N:=4) rfl ?_);refine box_event ?hg (N:=4) ?hd (cs:=#[.slice none 0 0,.slice none 0 0,.int .i64 0]) (t:=29) ?hr ?_;(case hd=>rfl);(case hg=>rfl);(case hr=>first |(go_simp;done) |(go_simp;rfl));intro br hbr wr hxr hlr;have S0:=Aside0.mk (St.start HD.out HXd.out HLd.out HBd.out hxr hlr hbr);have j0:=(blk_cell S0.out.x 0).trans rfl;have j1:=(blk_cell S0.out.x 1).trans rfl;have j2:=(blk_cell S0.out.x 2).trans rfl;clear hxr hlr hbr)
  | fail)
 clear j0 j1 j2
 refine (hibernacleref16_bad.calls 2000 A0 c0 b A1 c1 p a (badV b p) wr (Kd.V_reads' S0.out.d.1).2.2 (Kd.V_reads' S0.out.d.1).2.1 (Kd.V_reads' S0.out.d.2).2.2 (Kd.V_reads' S0.out.d.2).2.1 HBAD.out).mono ?_
 rintro e w2 ⟨rfl,hb2⟩
 have S1:=Aside0.mk (S0.out.below hb2)
 clear hb2
 have j0:=(blk_cell S1.out.x 0).trans rfl
 have j1:=(blk_cell S1.out.x 1).trans rfl
 have j2:=(blk_cell S1.out.x 2).trans rfl
 have m0:=(blk_cell S1.out.r 0).trans rfl
 have m1:=(blk_cell S1.out.r 1).trans rfl
 have m2:=(blk_cell S1.out.r 2).trans rfl
 have f0:=blk_frozen S1.out.r 0
 have f1:=blk_frozen S1.out.r 1
 have f2:=blk_frozen S1.out.r 2
 by_cases hb0:badV b p=0
 ·have hbb:(badV b p != 0)=false:=bne_eq_false_iff_eq.mpr hb0
  obtain ⟨hval,h33⟩:=badV_zero hb0
  have h256:=hval.1
  have hws:wrap64 ((b.length:Int) - 33)=(b.length:Int) - 33:=by unfold wrap64;omega
  have HMAY:=Aside0.mk (rmay_some l ((b.length:Int) - 33) 1401 (by omega))
  have HV:Aside0 (commitV b p a l=if mayV l ((b.length:Int) - 33)=0∧l≠[] then doV (planC l) b p a else (b,p,a,mayV l ((b.length:Int) - 33))):=⟨by rw [commitV,if_pos hb0]⟩
  have HFT:=Aside0.mk (fit_may ((b.length:Int) - 33) (by omega) l)
  obtain ⟨M,hM⟩:∃ z,z=mayV l ((b.length:Int) - 33):=⟨_,rfl⟩
  rw [← hM] at HMAY HV HFT
  have HVL:=Aside0.mk hval
  clear hb0 hval hM
  go_wp2_with fail
  clear j0 j1 j2 m0 m1 m2 f0 f1 f2
  refine (hibernacleref16_May.calls 1401 A c l ((b.length:Int) - 33) M w2 (Kd.C_below HL.out S1.out.bl) hc HMAY.out).mono ?_
  rintro e w3 ⟨rfl,hb3⟩
  have S2:=Aside0.mk (S1.out.below hb3.below)
  clear hb3
  have j0:=(blk_cell S2.out.x 0).trans rfl
  have j1:=(blk_cell S2.out.x 1).trans rfl
  have j2:=(blk_cell S2.out.x 2).trans rfl
  have m0:=(blk_cell S2.out.r 0).trans rfl
  have m1:=(blk_cell S2.out.r 1).trans rfl
  have m2:=(blk_cell S2.out.r 2).trans rfl
  have f0:=blk_frozen S2.out.r 0
  have f1:=blk_frozen S2.out.r 1
  have f2:=blk_frozen S2.out.r 2
  by_cases hm0:M=0
  ·subst hm0
   have hfit:=HFT.out rfl
   by_cases hn:l=[]
   ·have hln:((l.length:Int) == 0)=true:=by rw [hn];rfl
    have HV2:Aside0 (commitV b p a l=(b,p,a,0)):=⟨by rw [HV.out,if_neg (fun h=>h.2 hn)]⟩
    clear hn HV HFT hfit
    go_wp2
    refine bodyPost_ret (results_ct rfl _ _ br 29 #[.slice A0 b.length c0,.slice A1 p.length c1,.int .i64 a] (0,0) _ rfl (S2.out.outb _ _ _) Try.underlying29 rfl (by kernel_rfl)) rfl ?_
    rw [HV2.out]
    exact S2.out.out _ _ _ 0
   ·have hln:((l.length:Int) == 0)=false:=beq_eq_false_iff_ne.mpr (by have:=List.length_pos_iff.mpr hn;omega)
    have hrh:hibernacleref16_Head.f l=some (headV l):=by unfold hibernacleref16_Head.f;rw [if_pos hfit]
    have hl32:=hfit.1
    have hq:(0:Int)=0∧l≠[]:=⟨rfl,hn⟩
    have e1:commitV b p a l=doV (planC l) b p a:=by rw [HV.out,if_pos hq]
    obtain ⟨T,hT⟩:∃ z,z=doV (putsC l) b p a:=⟨_,rfl⟩
    have e2:=doV_append (putsC l) (.put 0 (headV l) :: .flush :: homeV l) b p a
    have hpl:=doV_plen (putsC l) b p a
    have hvd:=doV_valid (putsC l) b p a HVL.out
    rw [putsC_len] at hpl
    rw [← hT] at e2 hpl hvd
    obtain ⟨t1,t2,t3,t4⟩:=T
    have hpe:planC l=putsC l ++ (.put 0 (headV l) :: .flush :: homeV l):=by rw [planC,List.append_assoc];rfl
    rw [hpe,e2] at e1
    obtain ⟨H,hH⟩:∃ z,z=headV l:=⟨_,rfl⟩
    rw [← hH] at hrh e1
    dsimp only at e1 hpl hvd
    have HV1:=Aside0.mk e1
    have HRH:=Aside0.mk hrh
    have HT:=Aside0.mk hT.symm
    have HVD:=Aside0.mk hvd
    have HPL:=Aside0.mk hpl
    clear hn HV HFT hfit hrh hq e1 e2 hT hH hpe hvd hpl hws
    go_wp2_with fail
    clear j0 j1 j2 m0 m1 m2 f0 f1 f2
    refine (rput_walk_false A0 c0 b A1 c1 p a A c l (OkQ w ok bd br) w3 S2.out.d (Kd.C_below HL.out S2.out.bl) hc (by omega)).mono ?_
    rw [show doV (rplan l false) b p a=(t1,t2,t3,t4) from HT.out]
    rintro e w4 ⟨v0,v1,rfl,hD,hb⟩
    obtain ⟨B0,e0,B1,e1,rfl,rfl⟩:=hD.slices
    have HD3:=Aside0.mk hD
    have HB3:=Aside0.mk hb
    clear hD hb
    have m0:=(blk_cell (blk_below S2.out.x HB3.out) 0).trans rfl
    have m1:=(blk_cell (blk_below S2.out.x HB3.out) 1).trans rfl
    have m2:=(blk_cell (blk_below S2.out.x HB3.out) 2).trans rfl
    have f0:=blk_frozen (blk_below S2.out.x HB3.out) 0
    have f1:=blk_frozen (blk_below S2.out.x HB3.out) 1
    have f2:=blk_frozen (blk_below S2.out.x HB3.out) 2
    by_cases h0:t4=0
    ·subst h0
     obtain ⟨hv1,hl1⟩:=HVD.out rfl
     obtain ⟨P,hP⟩:∃ z,z=callV (.put 0 H) t1 t2 t3:=⟨_,rfl⟩
     have e1:=HV1.out
     rw [if_pos rfl,doV_one,← hP] at e1
     have hpp:=callV_plen (.put 0 H) t1 t2 t3
     have hvp:=callV_valid (.put 0 H) t1 t2 t3 hv1
     rw [← hP] at hpp hvp
     obtain ⟨p1,p2,p3,p4⟩:=P
     dsimp only at e1 hpp hvp
     have HV2:=Aside0.mk e1
     have HP:Aside0 (putV t1 t2 t3 0 H=(p1,p2,p3,p4)):=⟨hP.symm⟩
     have HVP:=Aside0.mk hvp
     have HPP:=Aside0.mk hpp
     clear e1 hpp hvp hP hv1 hl1 HV1 HVD
     go_wp2_with (first
      | ((with_reducible refine gate_store (t:=29) (p:=2) rfl ?_);refine store_event (t:=29) (p:=2) (v:=?vo_u1) (w1:=?wn_u1) ?hg ?ho ?hn ?hr ?_;(case ho=>rfl);(case hg=>rfl);(case hn=>rfl);(case hr=>first |(go_simp;done) |(go_simp;rfl));intro u1 hw;have hS:=St.put3 S2.out HB3.out HD3.out t3;rw [← hw] at hS;have S3:=Aside0.mk hS;clear hS hw m0 m1 m2 f0 f1 f2;have j0:=(blk_cell S3.out.x 0).trans rfl;have j1:=(blk_cell S3.out.x 1).trans rfl;have j2:=(blk_cell S3.out.x 2).trans rfl;have m0:=(blk_cell S3.out.r 0).trans rfl;have m1:=(blk_cell S3.out.r 1).trans rfl;have m2:=(blk_cell S3.out.r 2).trans rfl;have f0:=blk_frozen S3.out.r 0;have f1:=blk_frozen S3.out.r 1;have f2:=blk_frozen S3.out.r 2)
      | fail)
     rename_i KK hKK
     replace hKK:=Aside0.mk hKK
     have hS1:=S3.out.below (Below.refl _ _).drew
     clear j0 j1 j2 m0 m1 m2 f0 f1 f2
     refine start_ (n:=9) (S:=fun w'=>w'.heap[bd]?=some (.cells #[.slice B0 t1.length e0,.slice B1 t2.length e1,.int .i64 t3] 29 (0,0))) (ds:=[7]) #[false,false,false,false,false,false,false,false,false] (by kernel_rfl) rfl rfl hS1.x (fun hHeld=>?_);refine with_tabW hrc58.tab hrc58.bits (fun HT_ HW_=>?_)
     generalize u1.drew=V0 at hS1 hHeld ⊢
     refine take_ (i:=0) (N:=(some 39)) (v:=?_) (a':=?_) #[true,false,false,false,false,false,false,false,false] rfl rfl (take_ofW HT_.out HW_.out (by kernel_rfl)) (fun _ _ _ h=>h) (Or.inl ⟨by rfl, ?_⟩) hHeld ?_ ?_
     rotate_left
     ·rintro w' s1;have t0:=(blk_cell s1 0).trans rfl;have t1_:=(blk_cell s1 1).trans rfl;have t2_:=(blk_cell s1 2).trans rfl
      go_simp
      with_reducible rfl
     rotate_left
     ·simp only [Act.put,List.setIfInBounds_toArray,List.set_cons_zero,List.set_cons_succ,i64_w,i32_w]
      rfl
     refine pure_ (i:=1) (N:=(some 40)) (v:=?_) (a':=?_) #[true,true,false,false,false,false,false,false,false] rfl rfl (any_of HT_.out (by kernel_rfl)) (fun _ _ _ h=>h) (Or.inl ⟨by rfl, ?_⟩) ?_ ?_
     rotate_left
     ·intro w'
      go_simp
      with_reducible rfl
     rotate_left
     ·simp only [Act.put,List.setIfInBounds_toArray,List.set_cons_zero,List.set_cons_succ,i64_w,i32_w]
      rfl
     refine one_ (i:=2) (N:=(some 41)) #[true,true,true,false,false,false,false,false,false] rfl rfl (one_of HT_.out (by kernel_rfl)) (by decide) (fun K hK=>?_)
     refine goes_ Try.func61 (by kernel_rfl) rfl #[.slice A l.length c] (by rfl) rfl rfl (by (try simp only [List.map_toArray,List.map_cons,List.map_nil]);first |done |rfl) ?_
     refine (hibernacleref16_Head.calls A c l H V0 (Kd.C_below HL.out hS1.bl) hc HRH.out).mono ?_
     rintro e_ V1 ⟨rfl,hd1⟩
     have hS2:=hS1.below hd1
     refine ⟨_,rfl, ?_⟩
     refine hK.out _ _ hS2.x (fun hHeld=>?_)
     clear hK K
     refine norm_ (a':=?_) ?_ ?_
     rotate_left
     ·show Act.put _ (some 41) _=_
      simp only [Act.put,List.setIfInBounds_toArray,List.set_cons_zero,List.set_cons_succ,i64_w,i32_w]
      rfl
     refine one_ (i:=3) (N:=(some 42)) #[true,true,true,true,false,false,false,false,false] rfl rfl (one_of HT_.out (by kernel_rfl)) (by decide) (fun K hK=>?_)
     refine goes_ Try.func39 (by kernel_rfl) rfl #[.agg #[.slice B0 t1.length e0,.slice B1 t2.length e1,.int .i64 t3],.int .i64 0,.string H] (by rfl) rfl rfl (by (try simp only [List.map_toArray,List.map_cons,List.map_nil]);first |done |rfl) ?_
     refine (rput39_walk B0 e0 t1 B1 e1 t2 t3 0 H (OkQ w ok bd br) V1 hS2.d (by have h_:=HPL.out;omega)).mono ?_
     rw [HP.out]
     rintro e_ V2 ⟨v0,v1,rfl,hD,hb⟩
     obtain ⟨C0,g0,C1,g1,rfl,rfl⟩:=hD.slices
     have hX2:=blk_below hS2.x hb
     have m0:=(blk_cell hX2 0).trans rfl
     have m1:=(blk_cell hX2 1).trans rfl
     have m2:=(blk_cell hX2 2).trans rfl
     have f0:=blk_frozen hX2 0
     have f1:=blk_frozen hX2 1
     have f2:=blk_frozen hX2 2
     refine ⟨_,rfl, ?_⟩
     refine hK.out _ _ hX2 (fun hHeld=>?_)
     clear hK K
     refine norm_ (a':=?_) ?_ ?_
     rotate_left
     ·show Act.put _ (some 42) _=_
      simp only [Act.put,List.setIfInBounds_toArray,List.set_cons_zero,List.set_cons_succ,i64_w,i32_w]
      rfl
     refine pure_ (i:=4) (N:=(some 38)) (v:=?_) (a':=?_) #[true,true,true,true,true,false,false,false,false] rfl rfl (any_of HT_.out (by kernel_rfl)) (fun _ _ _ h=>h) (Or.inl ⟨by rfl, ?_⟩) ?_ ?_
     rotate_left
     ·intro w'
      go_simp
      with_reducible rfl
     rotate_left
     ·simp only [Act.put,List.setIfInBounds_toArray,List.set_cons_zero,List.set_cons_succ,i64_w,i32_w]
      rfl
     refine pure_ (i:=5) (N:=(some 43)) (v:=?_) (a':=?_) #[true,true,true,true,true,true,false,false,false] rfl rfl (any_of HT_.out (by kernel_rfl)) (fun _ _ _ h=>h) (Or.inl ⟨by rfl, ?_⟩) ?_ ?_
     rotate_left
     ·intro w'
      go_simp
      with_reducible rfl
     rotate_left
     ·simp only [Act.put,List.setIfInBounds_toArray,List.set_cons_zero,List.set_cons_succ,i64_w,i32_w]
      rfl
     refine pure_ (i:=6) (N:=(some 44)) (v:=?_) (a':=?_) #[true,true,true,true,true,true,true,false,false] rfl rfl (any_of HT_.out (by kernel_rfl)) (fun _ _ _ h=>h) (Or.inl ⟨by rfl, ?_⟩) ?_ ?_
     rotate_left
     ·intro w'
      go_simp
      with_reducible rfl
     rotate_left
     ·simp only [Act.put,List.setIfInBounds_toArray,List.set_cons_zero,List.set_cons_succ,i64_w,i32_w]
      rfl
     refine last_ (i:=7) (N:=none) #[true,true,true,true,true,true,true,true,false] rfl rfl (one_of HT_.out (by kernel_rfl)) (by decide) (fun K hK=>?_)
     refine skip_ (w1:=?_) (by rfl) rfl ?_ ?_
     rotate_left
     ·go_simp
      rfl
     refine hK.out _ _ ?_
     clear hK K
     refine pure_ (i:=8) (N:=(some 6)) (v:=?_) (a':=?_) #[true,true,true,true,true,true,true,true,true] rfl rfl (any_of HT_.out (by kernel_rfl)) (fun _ _ _ h=>h) (Or.inl ⟨by rfl, ?_⟩) ?_ ?_
     rotate_left
     ·intro w'
      go_simp
      with_reducible rfl
     rotate_left
     ·simp only [Act.put,List.setIfInBounds_toArray,List.set_cons_zero,List.set_cons_succ,i64_w,i32_w]
      rfl
     refine done_ (done_of HT_.out (by kernel_rfl)) ?_
     have hS3:=St.put3 hS2 hb hD p3
     obtain ⟨u2,hu2⟩:∃ z,z=(((V2.setCell ⟨bd,0,none⟩ (.slice C0 p1.length g0)).setCell ⟨bd,1,none⟩ (.slice C1 p2.length g1)).setCell ⟨bd,2,none⟩ (.int .i64 p3)):=⟨_,rfl⟩
     change KK _ (((V2.setCell ⟨bd,0,none⟩ (.slice C0 p1.length g0)).setCell ⟨bd,1,none⟩ (.slice C1 p2.length g1)).setCell ⟨bd,2,none⟩ (.int .i64 p3))
     rw [← hu2] at hS3 ⊢
     have S4:=Aside0.mk hS3
     clear hu2 hS3 hS2 hS1 hD hb hX2 hd1 m0 m1 m2 f0 f1 f2
     refine hKK.out _ _ ?_
     clear hKK KK
     have j0:=(blk_cell S4.out.x 0).trans rfl
     have j1:=(blk_cell S4.out.x 1).trans rfl
     have j2:=(blk_cell S4.out.x 2).trans rfl
     have m0:=(blk_cell S4.out.r 0).trans rfl
     have m1:=(blk_cell S4.out.r 1).trans rfl
     have m2:=(blk_cell S4.out.r 2).trans rfl
     have f0:=blk_frozen S4.out.r 0
     have f1:=blk_frozen S4.out.r 1
     have f2:=blk_frozen S4.out.r 2
     by_cases h0:p4=0
     ·subst h0
      have hv1:=HVP.out rfl
      obtain ⟨F,hF⟩:∃ z,z=flushV p1 p2 p3:=⟨_,rfl⟩
      have e1:=HV2.out
      rw [if_pos rfl,doV_one,show callV .flush p1 p2 p3=F from hF.symm] at e1
      have hpf:F.2.1.length≤p2.length + 1:=by rw [hF];exact callV_plen .flush p1 p2 p3
      have hvf:F.2.2.2=0→Valid F.1 F.2.1:=by rw [hF];exact callV_valid .flush p1 p2 p3 hv1
      obtain ⟨f1_,f2_,f3_,f4_⟩:=F
      dsimp only at e1 hpf hvf
      have HV3:=Aside0.mk e1
      have HF:Aside0 (flushV p1 p2 p3=(f1_,f2_,f3_,f4_)):=⟨hF.symm⟩
      have HV1:=Aside0.mk hv1
      have HVF:=Aside0.mk hvf
      have HPF:=Aside0.mk hpf
      clear e1 hpf hvf hF hv1 HV2 HVP
      go_wp2_with fail
      clear j0 j1 j2 m0 m1 m2 f0 f1 f2
      refine (rflush_walk C0 g0 p1 C1 g1 p2 p3 (OkQ w ok bd br) u2 S4.out.d HV1.out (by have h1_:=HPP.out;have h2_:=HPL.out;omega)).mono ?_
      rw [HF.out]
      rintro e w5 ⟨v0,v1,rfl,hD,hb⟩
      obtain ⟨D0,i0,D1,i1,rfl,rfl⟩:=hD.slices
      have HD5:=Aside0.mk hD
      have HB5:=Aside0.mk hb
      clear hD hb
      have m0:=(blk_cell (blk_below S4.out.x HB5.out) 0).trans rfl
      have m1:=(blk_cell (blk_below S4.out.x HB5.out) 1).trans rfl
      have m2:=(blk_cell (blk_below S4.out.x HB5.out) 2).trans rfl
      have f0:=blk_frozen (blk_below S4.out.x HB5.out) 0
      have f1:=blk_frozen (blk_below S4.out.x HB5.out) 1
      have f2:=blk_frozen (blk_below S4.out.x HB5.out) 2
      by_cases h0:f4_=0
      ·subst h0
       have hv1:=HVF.out rfl
       obtain ⟨Q,hQ⟩:∃ z,z=doV (homeV l) f1_ f2_ f3_:=⟨_,rfl⟩
       have e1:=HV3.out
       rw [if_pos rfl,← hQ] at e1
       have HV4:=Aside0.mk e1
       have HQ:=Aside0.mk hQ
       have HVQ:=Aside0.mk hv1
       clear e1 hQ hv1 HV3 HVF
       go_wp2_with (first
        | ((with_reducible refine gate_store (t:=29) (p:=2) rfl ?_);refine store_event (t:=29) (p:=2) (v:=?vo_u3) (w1:=?wn_u3) ?hg ?ho ?hn ?hr ?_;(case ho=>rfl);(case hg=>rfl);(case hn=>rfl);(case hr=>first |(go_simp;done) |(go_simp;rfl));intro u3 hw;have hS:=St.put3 S4.out HB5.out HD5.out f3_;rw [← hw] at hS;have S5:=Aside0.mk hS;clear hS hw m0 m1 m2 f0 f1 f2;have j0:=(blk_cell S5.out.x 0).trans rfl;have j1:=(blk_cell S5.out.x 1).trans rfl;have j2:=(blk_cell S5.out.x 2).trans rfl;have m0:=(blk_cell S5.out.r 0).trans rfl;have m1:=(blk_cell S5.out.r 1).trans rfl;have m2:=(blk_cell S5.out.r 2).trans rfl;have f0:=blk_frozen S5.out.r 0;have f1:=blk_frozen S5.out.r 1;have f2:=blk_frozen S5.out.r 2)
        | fail)
       clear j0 j1 j2 m0 m1 m2 f0 f1 f2
       refine (rhome_walk D0 i0 f1_ D1 i1 f2_ f3_ A c l (OkQ w ok bd br) u3 S5.out.d (Kd.C_below HL.out S5.out.bl) hc HVQ.out (by have h0_:=HPF.out;have h1_:=HPP.out;have h2_:=HPL.out;omega)).mono ?_
       rw [← HQ.out]
       obtain ⟨q1,q2,q3,q4⟩:=Q
       clear HQ
       rintro e w6 ⟨v0,v1,rfl,hD,hb⟩
       obtain ⟨E0,k0,E1,k1,rfl,rfl⟩:=hD.slices
       have HD6:=Aside0.mk hD
       have HB6:=Aside0.mk hb
       clear hD hb
       have m0:=(blk_cell (blk_below S5.out.r HB6.out) 0).trans rfl
       have m1:=(blk_cell (blk_below S5.out.r HB6.out) 1).trans rfl
       have m2:=(blk_cell (blk_below S5.out.r HB6.out) 2).trans rfl
       have f0:=blk_frozen (blk_below S5.out.r HB6.out) 0
       have f1:=blk_frozen (blk_below S5.out.r HB6.out) 1
       have f2:=blk_frozen (blk_below S5.out.r HB6.out) 2
       go_wp2
       refine bodyPost_ret (results_ct rfl _ _ br 29 #[.slice E0 q1.length k0,.slice E1 q2.length k1,.int .i64 q3] (0,0) _ rfl ((Aside0.mk (S5.out.below HB6.out)).out.outb _ _ _) Try.underlying29 rfl (by kernel_rfl)) rfl ?_
       rw [HV4.out]
       exact S5.out.outc HB6.out HD6.out _ _ _ q3 q4
      ·have hne:(f4_ != 0)=true:=bne_iff_ne.mpr h0
       have e1:=HV3.out
       rw [if_neg h0] at e1
       have HV4:=Aside0.mk e1
       clear h0 e1 HV3 HVF
       go_wp2_with (first
        | ((with_reducible refine gate_store (t:=29) (p:=2) rfl ?_);refine store_event (t:=29) (p:=2) (v:=?vo_u3) (w1:=?wn_u3) ?hg ?ho ?hn ?hr ?_;(case ho=>rfl);(case hg=>rfl);(case hn=>rfl);(case hr=>first |(go_simp;done) |(go_simp;rfl));intro u3 hw;have hS:=St.put3 S4.out HB5.out HD5.out f3_;rw [← hw] at hS;have S5:=Aside0.mk hS;clear hS hw m0 m1 m2 f0 f1 f2;have j0:=(blk_cell S5.out.x 0).trans rfl;have j1:=(blk_cell S5.out.x 1).trans rfl;have j2:=(blk_cell S5.out.x 2).trans rfl;have m0:=(blk_cell S5.out.r 0).trans rfl;have m1:=(blk_cell S5.out.r 1).trans rfl;have m2:=(blk_cell S5.out.r 2).trans rfl;have f0:=blk_frozen S5.out.r 0;have f1:=blk_frozen S5.out.r 1;have f2:=blk_frozen S5.out.r 2)
        | fail)
       refine bodyPost_ret (results_ct rfl _ _ br 29 #[.slice D0 f1_.length i0,.slice D1 f2_.length i1,.int .i64 f3_] (0,0) _ rfl (S5.out.outb _ _ _) Try.underlying29 rfl (by kernel_rfl)) rfl ?_
       rw [HV4.out]
       exact S5.out.out _ _ _ f4_
     ·have hne:(p4 != 0)=true:=bne_iff_ne.mpr h0
      have e1:=HV2.out
      rw [if_neg h0] at e1
      have HV4:=Aside0.mk e1
      clear h0 e1 HV2 HVP
      go_wp2
      refine bodyPost_ret (results_ct rfl _ _ br 29 #[.slice C0 p1.length g0,.slice C1 p2.length g1,.int .i64 p3] (0,0) _ rfl (S4.out.outb _ _ _) Try.underlying29 rfl (by kernel_rfl)) rfl ?_
      rw [HV4.out]
      exact S4.out.out _ _ _ p4
    ·have hne:(t4 != 0)=true:=bne_iff_ne.mpr h0
     have e1:=HV1.out
     rw [if_neg h0] at e1
     have HV4:=Aside0.mk e1
     clear h0 e1 HV1 HVD
     go_wp2_with (first
      | ((with_reducible refine gate_store (t:=29) (p:=2) rfl ?_);refine store_event (t:=29) (p:=2) (v:=?vo_u1) (w1:=?wn_u1) ?hg ?ho ?hn ?hr ?_;(case ho=>rfl);(case hg=>rfl);(case hn=>rfl);(case hr=>first |(go_simp;done) |(go_simp;rfl));intro u1 hw;have hS:=St.put3 S2.out HB3.out HD3.out t3;rw [← hw] at hS;have S3:=Aside0.mk hS;clear hS hw m0 m1 m2 f0 f1 f2;have j0:=(blk_cell S3.out.x 0).trans rfl;have j1:=(blk_cell S3.out.x 1).trans rfl;have j2:=(blk_cell S3.out.x 2).trans rfl;have m0:=(blk_cell S3.out.r 0).trans rfl;have m1:=(blk_cell S3.out.r 1).trans rfl;have m2:=(blk_cell S3.out.r 2).trans rfl;have f0:=blk_frozen S3.out.r 0;have f1:=blk_frozen S3.out.r 1;have f2:=blk_frozen S3.out.r 2)
      | fail)
     refine bodyPost_ret (results_ct rfl _ _ br 29 #[.slice B0 t1.length e0,.slice B1 t2.length e1,.int .i64 t3] (0,0) _ rfl (S3.out.outb _ _ _) Try.underlying29 rfl (by kernel_rfl)) rfl ?_
     rw [HV4.out]
     exact S3.out.out _ _ _ t4
  ·have hmb:(M != 0)=true:=bne_iff_ne.mpr hm0
   have HV2:Aside0 (commitV b p a l=(b,p,a,M)):=⟨by rw [HV.out,if_neg (fun h=>hm0 h.1)]⟩
   clear hm0 HV HFT
   go_wp2
   refine bodyPost_ret (results_ct rfl _ _ br 29 #[.slice A0 b.length c0,.slice A1 p.length c1,.int .i64 a] (0,0) _ rfl (S2.out.outb _ _ _) Try.underlying29 rfl (by kernel_rfl)) rfl ?_
   rw [HV2.out]
   exact S2.out.out _ _ _ M
 ·have hbb:(badV b p != 0)=true:=bne_iff_ne.mpr hb0
  have HV2:Aside0 (commitV b p a l=(b,p,a,badV b p)):=⟨by rw [commitV,if_neg hb0]⟩
  clear hb0
  go_wp2
  refine bodyPost_ret (results_ct rfl _ _ br 29 #[.slice A0 b.length c0,.slice A1 p.length c1,.int .i64 a] (0,0) _ rfl (S1.out.outb _ _ _) Try.underlying29 rfl (by kernel_rfl)) rfl ?_
  rw [HV2.out]
  exact S1.out.out _ _ _ (badV b p)
theorem commitV_size (b:List ByteArray) (p:List S27) (a:Int) (l:List S27) (hb:b.length≤256) (hp:p.length≤200) (hl:l.length≤40):(commitV b p a l).1.length≤256∧(commitV b p a l).2.1.length≤500:=by
 unfold commitV
 split
 ·split
  ·have h1:=doV_b256 (planC l) b p a hb
   have h2:=doV_plen (planC l) b p a
   rw [planC_len] at h2
   exact ⟨h1,by omega⟩
  ·exact ⟨hb,by dsimp only;omega⟩
 ·exact ⟨hb,by dsimp only;omega⟩
end Go.Proofs.Ytjfmnkmgnbbfgaa.A
