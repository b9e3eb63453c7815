/- Several texts of this claim in one: C7, S0, A104. -/
import Derived.Test.YtjfmnkmgnbbfgaaC6
import Derived.Test.YtjfmnkmgnbbfgaaF1
import Derived.Test.YtjfmnkmgnbbfgaaA0
set_option linter.unusedVariables false
set_option linter.unusedSimpArgs false
namespace Go.Proofs.Ytjfmnkmgnbbfgaa.A
open Go.RowKit Go.Proofs.YtjfmnkmgnbbfgaaW.PrintWords Go.Proofs.YtjfmnkmgnbbfgaaW.PrintLast Go.Proofs.YtjfmnkmgnbbfgaaW.PrintMore
theorem homeV_len (l:List S27):(homeV l).length=l.length + 1:=by simp [homeV]
theorem tellV_len (b:List ByteArray) (p:List S27):(tellV b p).length≤32:=by
 unfold tellV
 split
 ·rename_i h
  split
  ·rw [tellL_len];have:=h.2.2;omega
  ·simp
 ·simp
def recoverV (b:List ByteArray) (p:List S27) (a:Int):List ByteArray × List S27 × Int × Int:=
 if badV b p=0 then if tellV b p=[] then (b,p,a,0) else doV (homeV (tellV b p)) b p a else (b,p,a,badV b p)
def hrec.T:Bool × List (List Nat × List Nat):=(true,[([],[]),([],[]),([1],[1]),([0,2,2],[0,2]),([3],[3]),([3],[3]),([4,3,0,1,2,3,4,5],[4]),([5,6,0,1,2,3,4,5,6],[5])])
def hrec.B:List Nat:=[0,0,2,7,15,15,63,127]
theorem hrec.tab:rtab .any (opsOf Try.f27 7)=hrec.T:=by kernel_rfl
theorem hrec.bits:waitsOk hrec.T.2 hrec.B=true:=by kernel_rfl
set_option maxHeartbeats 8000000 in
set_option maxRecDepth 100000 in
theorem recover_walk (A0:Option Addr) (c0:Nat) (l0:List ByteArray) (A1:Option Addr) (c1:Nat) (l1:List S27) (a:Int) (ok:Nat→Prop) (w:World)
  (hd:Dr w ok (.slice A0 l0.length c0) (.slice A1 l1.length c1) l0 l1) (hp:l1.length≤900) (h0n:l0.length≤140737488355328) :
  Calls Try.prog 27 #[.agg #[.slice A0 l0.length c0,.slice A1 l1.length c1,.int .i64 a]] w fun e w'=>DoOut w w' ok e (recoverV l0 l1 a):=by
 have hu29:=Try.underlying29
 have HD:=Aside0.mk hd
 have HBAD:=Aside0.mk (bad_some l0 l1 a (by omega))
 clear hd
 go_enter Try.func27,Try.ntmps27
 obtain ⟨L,hL⟩:∃ z,z=tellV l0 l1:=⟨_,rfl⟩
 have HLT:=Aside0.mk hL.symm
 have hL32:L.length≤32:=by rw [hL];exact tellV_len l0 l1
 by_cases hb0:badV l0 l1=0
 ·have hbb:(badV l0 l1 != 0)=false:=bne_eq_false_iff_eq.mpr hb0
  obtain ⟨hval,h33⟩:=badV_zero hb0
  have h256:=hval.1
  by_cases hnil:L=[]
  ·have hV:recoverV l0 l1 a=(l0,l1,a,0):=by rw [recoverV,if_pos hb0,← hL,if_pos hnil]
   have hln:((L.length:Int) == 0)=true:=by rw [hnil];rfl
   rw [hV]
   clear hV hL hnil
   go_wp2_with (first
    | ((with_reducible refine gate_dst (N:=1) rfl ?_);refine box_event ?hg (N:=1) ?hd (cs:=#[.slice A0 l0.length c0,.slice A1 l1.length c1,.int .i64 a]) (t:=29) ?hr ?_;(case hd=>rfl);(case hg=>rfl);(case hr=>first |(go_simp;done) |(go_simp;rfl));intro b1 hb1 w1 hx1 hl1;have HX1:=Aside0.mk hx1;have HL1:=Aside0.mk hl1;have HB1:=Aside0.mk hb1;clear hx1 hl1 hb1)
    | ((with_reducible refine gate_dst (N:=2) rfl ?_);refine box_event ?hg (N:=2) ?hd (cs:=#[.slice none 0 0,.slice none 0 0,.int .i64 0]) (t:=29) ?hr ?_;(case hd=>rfl);(case hg=>rfl);(case hr=>first |(go_simp;done) |(go_simp;rfl));intro b2 hb2 w2 hx2 hl2;have k0:=(blk_cell (blk_below HX1.out hl2) 0).trans rfl;have k1:=(blk_cell (blk_below HX1.out hl2) 1).trans rfl;have k2:=(blk_cell (blk_below HX1.out hl2) 2).trans rfl;have HX2:=Aside0.mk hx2;have HL2:=Aside0.mk hl2;have HB2:=Aside0.mk hb2;clear hx2 hl2 hb2)
    | ((with_reducible refine gate_dst (N:=7) rfl ?_);refine goesL_ (some 7) rfl rfl Try.func65 (by kernel_rfl) rfl #[.agg #[.slice A0 l0.length c0,.slice A1 l1.length c1,.int .i64 a]] rfl (by (try simp only [List.map_toArray,List.map_cons,List.map_nil]);first |done |rfl) ?_;have hbw:=below_step HL1.out HL2.out;have hD4:=HD.out.below hbw;refine (wal_bad.calls A0 c0 l0 A1 c1 l1 a (badV l0 l1) _ (Kd.V_reads' hD4.1).2.2 (Kd.V_reads' hD4.1).2.1 (Kd.V_reads' hD4.2).2.2 (Kd.V_reads' hD4.2).2.1 HBAD.out).mono ?_;rintro e w5 ⟨rfl,hb5⟩;refine ⟨_,rfl, ?_⟩;clear k0 k1 k2;have HBW:=Aside0.mk (below_step hbw hb5);have Y1:=Aside0.mk (blk_below (blk_below HX1.out HL2.out) hb5);have Y2:=Aside0.mk (blk_below HX2.out hb5);have j0:=(blk_cell Y1.out 0).trans rfl;have j1:=(blk_cell Y1.out 1).trans rfl;have j2:=(blk_cell Y1.out 2).trans rfl;have m0:=(blk_cell Y2.out 0).trans rfl;have m1:=(blk_cell Y2.out 1).trans rfl;have m2:=(blk_cell Y2.out 2).trans rfl;have f0:=blk_frozen Y2.out 0;have f1:=blk_frozen Y2.out 1;have f2:=blk_frozen Y2.out 2;clear hb5 hbw hD4)
    | ((with_reducible refine gate_dst (N:=13) rfl ?_);refine goesL_ (some 13) rfl rfl Try.func71 (by kernel_rfl) rfl #[.agg #[.slice A0 l0.length c0,.slice A1 l1.length c1,.int .i64 a]] rfl (by (try simp only [List.map_toArray,List.map_cons,List.map_nil]);first |done |rfl) ?_;refine (told_walk A0 c0 l0 A1 c1 l1 a ok _ (HD.out.below HBW.out) hval h33 (by omega)).mono ?_;rintro e w6 ⟨v5,rfl,hr6,hb6⟩;rw [HLT.out] at hr6;obtain ⟨A6,c6,rfl⟩:=Kd.R_slice hr6;refine ⟨_,rfl, ?_⟩;have HR6:=Aside0.mk hr6;have HB6:=Aside0.mk (below_step HBW.out hb6);clear j0 j1 j2 m0 m1 m2 f0 f1 f2;have Z1:=Aside0.mk (blk_below Y1.out hb6);have Z2:=Aside0.mk (blk_below Y2.out hb6);have j0:=(blk_cell Z1.out 0).trans rfl;have j1:=(blk_cell Z1.out 1).trans rfl;have j2:=(blk_cell Z1.out 2).trans rfl;have m0:=(blk_cell Z2.out 0).trans rfl;have m1:=(blk_cell Z2.out 1).trans rfl;have m2:=(blk_cell Z2.out 2).trans rfl;have f0:=blk_frozen Z2.out 0;have f1:=blk_frozen Z2.out 1;have f2:=blk_frozen Z2.out 2;clear hb6)
    | fail)
   have g2:w.heap.size≤b2:=by rw [HB2.out];exact HL1.out.size
   refine bodyPost_ret (results_ct rfl _ _ b2 29 #[.slice A0 l0.length c0,.slice A1 l1.length c1,.int .i64 a] (0,0) _ rfl (blk_put (blk_put (blk_put Z2.out 0 _ rfl) 1 _ rfl) 2 _ rfl) Try.underlying29 rfl (by kernel_rfl)) rfl ?_
   exact ⟨_,_,rfl,((HD.out.bound.below HB6.out).set3 (fun k hk=>by have:=hk.2;omega) _ _ _).mono (fun k hk=>.inl hk.1),below_set3 HB6.out g2 _ _ _⟩
  ·have hV:recoverV l0 l1 a=doV (homeV L) l0 l1 a:=by rw [recoverV,if_pos hb0,← hL,if_neg hnil]
   have hln:((L.length:Int) == 0)=false:=beq_eq_false_iff_ne.mpr (by have:=List.length_pos_iff.mpr hnil;omega)
   rw [hV]
   clear hV hL hnil
   go_wp2_with (first
    | ((with_reducible refine gate_dst (N:=1) rfl ?_);refine box_event ?hg (N:=1) ?hd (cs:=#[.slice A0 l0.length c0,.slice A1 l1.length c1,.int .i64 a]) (t:=29) ?hr ?_;(case hd=>rfl);(case hg=>rfl);(case hr=>first |(go_simp;done) |(go_simp;rfl));intro b1 hb1 w1 hx1 hl1;have HX1:=Aside0.mk hx1;have HL1:=Aside0.mk hl1;have HB1:=Aside0.mk hb1;clear hx1 hl1 hb1)
    | ((with_reducible refine gate_dst (N:=2) rfl ?_);refine box_event ?hg (N:=2) ?hd (cs:=#[.slice none 0 0,.slice none 0 0,.int .i64 0]) (t:=29) ?hr ?_;(case hd=>rfl);(case hg=>rfl);(case hr=>first |(go_simp;done) |(go_simp;rfl));intro b2 hb2 w2 hx2 hl2;have k0:=(blk_cell (blk_below HX1.out hl2) 0).trans rfl;have k1:=(blk_cell (blk_below HX1.out hl2) 1).trans rfl;have k2:=(blk_cell (blk_below HX1.out hl2) 2).trans rfl;have HX2:=Aside0.mk hx2;have HL2:=Aside0.mk hl2;have HB2:=Aside0.mk hb2;clear hx2 hl2 hb2)
    | ((with_reducible refine gate_dst (N:=7) rfl ?_);refine goesL_ (some 7) rfl rfl Try.func65 (by kernel_rfl) rfl #[.agg #[.slice A0 l0.length c0,.slice A1 l1.length c1,.int .i64 a]] rfl (by (try simp only [List.map_toArray,List.map_cons,List.map_nil]);first |done |rfl) ?_;have hbw:=below_step HL1.out HL2.out;have hD4:=HD.out.below hbw;refine (wal_bad.calls A0 c0 l0 A1 c1 l1 a (badV l0 l1) _ (Kd.V_reads' hD4.1).2.2 (Kd.V_reads' hD4.1).2.1 (Kd.V_reads' hD4.2).2.2 (Kd.V_reads' hD4.2).2.1 HBAD.out).mono ?_;rintro e w5 ⟨rfl,hb5⟩;refine ⟨_,rfl, ?_⟩;clear k0 k1 k2;have HBW:=Aside0.mk (below_step hbw hb5);have Y1:=Aside0.mk (blk_below (blk_below HX1.out HL2.out) hb5);have Y2:=Aside0.mk (blk_below HX2.out hb5);have j0:=(blk_cell Y1.out 0).trans rfl;have j1:=(blk_cell Y1.out 1).trans rfl;have j2:=(blk_cell Y1.out 2).trans rfl;have m0:=(blk_cell Y2.out 0).trans rfl;have m1:=(blk_cell Y2.out 1).trans rfl;have m2:=(blk_cell Y2.out 2).trans rfl;have f0:=blk_frozen Y2.out 0;have f1:=blk_frozen Y2.out 1;have f2:=blk_frozen Y2.out 2;clear hb5 hbw hD4)
    | ((with_reducible refine gate_dst (N:=13) rfl ?_);refine goesL_ (some 13) rfl rfl Try.func71 (by kernel_rfl) rfl #[.agg #[.slice A0 l0.length c0,.slice A1 l1.length c1,.int .i64 a]] rfl (by (try simp only [List.map_toArray,List.map_cons,List.map_nil]);first |done |rfl) ?_;refine (told_walk A0 c0 l0 A1 c1 l1 a ok _ (HD.out.below HBW.out) hval h33 (by omega)).mono ?_;rintro e w6 ⟨v5,rfl,hr6,hb6⟩;rw [HLT.out] at hr6;obtain ⟨A6,c6,rfl⟩:=Kd.R_slice hr6;refine ⟨_,rfl, ?_⟩;have HR6:=Aside0.mk hr6;have HB6:=Aside0.mk (below_step HBW.out hb6);clear j0 j1 j2 m0 m1 m2 f0 f1 f2;have Z1:=Aside0.mk (blk_below Y1.out hb6);have Z2:=Aside0.mk (blk_below Y2.out hb6);have j0:=(blk_cell Z1.out 0).trans rfl;have j1:=(blk_cell Z1.out 1).trans rfl;have j2:=(blk_cell Z1.out 2).trans rfl;have m0:=(blk_cell Z2.out 0).trans rfl;have m1:=(blk_cell Z2.out 1).trans rfl;have m2:=(blk_cell Z2.out 2).trans rfl;have f0:=blk_frozen Z2.out 0;have f1:=blk_frozen Z2.out 1;have f2:=blk_frozen Z2.out 2;clear hb6)
    | fail)
   rename_i KK hKK
   replace hKK:=Aside0.mk hKK
   have hZ:w6.drew.heap[b1]?=some (.cells #[.slice A0 l0.length c0,.slice A1 l1.length c1,.int .i64 a] 29 (0,0)):=Z1.out
   have hB0:Below w.heap.size w w6.drew:=HB6.out.drew
   have hR0:=Kd.R_drew HR6.out
   have hZ4:w6.drew.heap[b2]?=some (.cells #[.slice none 0 0,.slice none 0 0,.int .i64 0] 29 (0,0)):=Z2.out
   have n12:b1≠b2:=by rw [HB2.out];exact Nat.ne_of_lt (blk_lt HX1.out)
   clear j0 j1 j2 m0 m1 m2 f0 f1 f2
   refine start_ (n:=8) (S:=fun w'=>w'.heap[b1]?=some (.cells #[.slice A0 l0.length c0,.slice A1 l1.length c1,.int .i64 a] 29 (0,0))) (ds:=[]) #[false,false,false,false,false,false,false,false] (by kernel_rfl) rfl rfl hZ (fun hHeld=>?_);refine with_tabW hrec.tab hrec.bits (fun HT_ HW_=>?_)
   generalize w6.drew=W0 at hZ hZ4 hB0 hR0 hHeld ⊢
   refine take_ (i:=0) (N:=(some 18)) (v:=?_) (a':=?_) #[true,false,false,false,false,false,false,false] rfl rfl (take_ofW HT_.out HW_.out (by kernel_rfl)) (fun _ _ _ h=>h) (Or.inl ⟨by rfl, ?_⟩) hHeld ?_ ?_
   rotate_left
   ·rintro w' s1;have t0:=(blk_cell s1 0).trans rfl;have t1:=(blk_cell s1 1).trans rfl;have t2:=(blk_cell s1 2).trans rfl
    go_simp
    with_reducible rfl
   rotate_left
   ·simp only [Act.put,List.setIfInBounds_toArray,List.set_cons_zero,List.set_cons_succ,i64_w,i32_w]
    rfl
   refine pure_ (i:=1) (N:=(some 19)) (v:=?_) (a':=?_) #[true,true,false,false,false,false,false,false] rfl rfl (any_of HT_.out (by kernel_rfl)) (fun _ _ _ h=>h) (Or.inl ⟨by rfl, ?_⟩) ?_ ?_
   rotate_left
   ·intro w'
    go_simp
    with_reducible rfl
   rotate_left
   ·simp only [Act.put,List.setIfInBounds_toArray,List.set_cons_zero,List.set_cons_succ,i64_w,i32_w]
    rfl
   refine one_ (i:=2) (N:=(some 20)) #[true,true,true,false,false,false,false,false] rfl rfl (one_of HT_.out (by kernel_rfl)) (by decide) (fun K hK=>?_)
   refine goes_ Try.func70 (by kernel_rfl) rfl #[.slice A6 L.length c6] (by rfl) rfl rfl (by (try simp only [List.map_toArray,List.map_cons,List.map_nil]);first |done |rfl) ?_
   refine (home_walk A6 c6 L W0 (Kd.R_reads' hR0).2.2 (by omega)).mono ?_
   rintro e_ W1 ⟨v57,rfl,hr1,hb1⟩
   obtain ⟨A57,c57,rfl,hl57,hC57⟩:=Kd.R_reads hr1
   refine ⟨_,rfl, ?_⟩
   refine hK.out _ _ (blk_below hZ hb1) (fun hHeld=>?_)
   clear hK K
   refine norm_ (a':=?_) ?_ ?_
   rotate_left
   ·show Act.put _ (some 20) _=_
    simp only [Act.put,List.setIfInBounds_toArray,List.set_cons_zero,List.set_cons_succ,i64_w,i32_w]
    rfl
   refine one_ (i:=3) (N:=(some 21)) #[true,true,true,true,false,false,false,false] rfl rfl (one_of HT_.out (by kernel_rfl)) (by decide) (fun K hK=>?_)
   refine goes_ Try.func69 (by kernel_rfl) rfl #[.agg #[.slice A0 l0.length c0,.slice A1 l1.length c1,.int .i64 a],.slice A57 (homeV L).length c57] (by rfl) rfl rfl (by (try simp only [List.map_toArray,List.map_cons,List.map_nil]);first |done |rfl) ?_
   refine (do_walk (homeV L) A57 c57 A0 c0 l0 A1 c1 l1 a (fun k=>ok k∧k<w.heap.size) W1 (HD.out.bound.below (below_step hB0 hb1)) hC57 h256 (by rw [homeV_len];omega)).mono ?_
   rintro e_ W3 ⟨v0,v1,rfl,hD3,hb3⟩
   obtain ⟨C0,q0,C1,q1,rfl,rfl⟩:=hD3.slices
   refine ⟨_,rfl, ?_⟩
   refine hK.out _ _ (blk_below (blk_below hZ hb1) hb3) (fun hHeld=>?_)
   clear hK K
   refine norm_ (a':=?_) ?_ ?_
   rotate_left
   ·show Act.put _ (some 21) _=_
    simp only [Act.put,List.setIfInBounds_toArray,List.set_cons_zero,List.set_cons_succ,i64_w,i32_w]
    rfl
   refine pure_ (i:=4) (N:=(some 22)) (v:=?_) (a':=?_) #[true,true,true,true,true,false,false,false] rfl rfl (any_of HT_.out (by kernel_rfl)) (fun _ _ _ h=>h) (Or.inl ⟨by rfl, ?_⟩) ?_ ?_
   rotate_left
   ·intro w'
    go_simp
    with_reducible rfl
   rotate_left
   ·simp only [Act.put,List.setIfInBounds_toArray,List.set_cons_zero,List.set_cons_succ,i64_w,i32_w]
    rfl
   refine pure_ (i:=5) (N:=(some 23)) (v:=?_) (a':=?_) #[true,true,true,true,true,true,false,false] rfl rfl (any_of HT_.out (by kernel_rfl)) (fun _ _ _ h=>h) (Or.inl ⟨by rfl, ?_⟩) ?_ ?_
   rotate_left
   ·intro w'
    go_simp
    with_reducible rfl
   rotate_left
   ·simp only [Act.put,List.setIfInBounds_toArray,List.set_cons_zero,List.set_cons_succ,i64_w,i32_w]
    rfl
   refine one_ (i:=6) (N:=none) #[true,true,true,true,true,true,true,false] rfl rfl (one_of HT_.out (by kernel_rfl)) (by decide) (fun K hK=>?_)
   have z4:=blk_below (blk_below hZ4 hb1) hb3
   have m0:=(blk_cell z4 0).trans rfl
   have m1:=(blk_cell z4 1).trans rfl
   have m2:=(blk_cell z4 2).trans rfl
   have f0:=blk_frozen z4 0
   have f1:=blk_frozen z4 1
   have f2:=blk_frozen z4 2
   refine skip_ (w1:=?_) (by rfl) rfl ?_ ?_
   rotate_left
   ·go_simp
    rfl
   refine hK.out _ _ (blk_far (blk_far (blk_far (blk_below (blk_below hZ hb1) hb3) n12 _) n12 _) n12 _) (fun hHeld=>?_)
   clear hK K
   refine pure_ (i:=7) (N:=(some 3)) (v:=?_) (a':=?_) #[true,true,true,true,true,true,true,true] rfl rfl (any_of HT_.out (by kernel_rfl)) (fun _ _ _ h=>h) (Or.inl ⟨by rfl, ?_⟩) ?_ ?_
   rotate_left
   ·intro w'
    go_simp
    with_reducible rfl
   rotate_left
   ·simp only [Act.put,List.setIfInBounds_toArray,List.set_cons_zero,List.set_cons_succ,i64_w,i32_w]
    rfl
   refine done_ (done_of HT_.out (by kernel_rfl)) ?_
   refine hKK.out _ _ ?_
   clear hKK KK
   have g2:w.heap.size≤b2:=by rw [HB2.out];exact HL1.out.size
   have hB3:=below_step (below_step hB0 hb1) hb3
   go_wp2
   refine bodyPost_ret (results_ct rfl _ _ b2 29 #[.slice C0 (doV (homeV L) l0 l1 a).1.length q0,.slice C1 (doV (homeV L) l0 l1 a).2.1.length q1,.int .i64 (doV (homeV L) l0 l1 a).2.2.1] (0,0) _ rfl (blk_put (blk_put (blk_put z4 0 _ rfl) 1 _ rfl) 2 _ rfl) Try.underlying29 rfl (by kernel_rfl)) rfl ?_
   have q2:=(below_step hB0 hb1).size
   have q4:=blk_lt (blk_below hZ4 hb1)
   exact ⟨_,_,rfl,(hD3.set3 (g:=b2) (fun k hk=>by rcases hk with hk |hk <;> omega) _ _ _).mono (fun k hk=>hk.imp (fun h=>h.1) (fun h=>by omega)),below_set3 hB3 g2 _ _ _⟩
 ·have hbb:(badV l0 l1 != 0)=true:=bne_iff_ne.mpr hb0
  have hV:recoverV l0 l1 a=(l0,l1,a,badV l0 l1):=by rw [recoverV,if_neg hb0]
  rw [hV]
  clear hV hL
  go_wp2_with (first
   | ((with_reducible refine gate_dst (N:=1) rfl ?_);refine box_event ?hg (N:=1) ?hd (cs:=#[.slice A0 l0.length c0,.slice A1 l1.length c1,.int .i64 a]) (t:=29) ?hr ?_;(case hd=>rfl);(case hg=>rfl);(case hr=>first |(go_simp;done) |(go_simp;rfl));intro b1 hb1 w1 hx1 hl1;have HX1:=Aside0.mk hx1;have HL1:=Aside0.mk hl1;have HB1:=Aside0.mk hb1;clear hx1 hl1 hb1)
   | ((with_reducible refine gate_dst (N:=2) rfl ?_);refine box_event ?hg (N:=2) ?hd (cs:=#[.slice none 0 0,.slice none 0 0,.int .i64 0]) (t:=29) ?hr ?_;(case hd=>rfl);(case hg=>rfl);(case hr=>first |(go_simp;done) |(go_simp;rfl));intro b2 hb2 w2 hx2 hl2;have k0:=(blk_cell (blk_below HX1.out hl2) 0).trans rfl;have k1:=(blk_cell (blk_below HX1.out hl2) 1).trans rfl;have k2:=(blk_cell (blk_below HX1.out hl2) 2).trans rfl;have HX2:=Aside0.mk hx2;have HL2:=Aside0.mk hl2;have HB2:=Aside0.mk hb2;clear hx2 hl2 hb2)
   | ((with_reducible refine gate_dst (N:=7) rfl ?_);refine goesL_ (some 7) rfl rfl Try.func65 (by kernel_rfl) rfl #[.agg #[.slice A0 l0.length c0,.slice A1 l1.length c1,.int .i64 a]] rfl (by (try simp only [List.map_toArray,List.map_cons,List.map_nil]);first |done |rfl) ?_;have hbw:=below_step HL1.out HL2.out;have hD4:=HD.out.below hbw;refine (wal_bad.calls A0 c0 l0 A1 c1 l1 a (badV l0 l1) _ (Kd.V_reads' hD4.1).2.2 (Kd.V_reads' hD4.1).2.1 (Kd.V_reads' hD4.2).2.2 (Kd.V_reads' hD4.2).2.1 HBAD.out).mono ?_;rintro e w5 ⟨rfl,hb5⟩;refine ⟨_,rfl, ?_⟩;clear k0 k1 k2;have HBW:=Aside0.mk (below_step hbw hb5);have Y1:=Aside0.mk (blk_below (blk_below HX1.out HL2.out) hb5);have Y2:=Aside0.mk (blk_below HX2.out hb5);have j0:=(blk_cell Y1.out 0).trans rfl;have j1:=(blk_cell Y1.out 1).trans rfl;have j2:=(blk_cell Y1.out 2).trans rfl;have m0:=(blk_cell Y2.out 0).trans rfl;have m1:=(blk_cell Y2.out 1).trans rfl;have m2:=(blk_cell Y2.out 2).trans rfl;have f0:=blk_frozen Y2.out 0;have f1:=blk_frozen Y2.out 1;have f2:=blk_frozen Y2.out 2;clear hb5 hbw hD4)
   | fail)
  have g2:w.heap.size≤b2:=by rw [HB2.out];exact HL1.out.size
  refine bodyPost_ret (results_ct rfl _ _ b2 29 #[.slice A0 l0.length c0,.slice A1 l1.length c1,.int .i64 a] (0,0) _ rfl (blk_put (blk_put (blk_put Y2.out 0 _ rfl) 1 _ rfl) 2 _ rfl) Try.underlying29 rfl (by kernel_rfl)) rfl ?_
  exact ⟨_,_,rfl,((HD.out.bound.below HBW.out).set3 (fun k hk=>by have:=hk.2;omega) _ _ _).mono (fun k hk=>.inl hk.1),below_set3 HBW.out g2 _ _ _⟩
end Go.Proofs.Ytjfmnkmgnbbfgaa.A
set_option linter.unusedVariables false
set_option linter.unusedSimpArgs false
namespace Go.Proofs.Ytjfmnkmgnbbfgaa.A
open Go.RowKit Go.Proofs.YtjfmnkmgnbbfgaaW.PrintWords Go.Proofs.YtjfmnkmgnbbfgaaW.PrintLast Go.Proofs.YtjfmnkmgnbbfgaaW.PrintMore
theorem less_neg:lessV (-1)=-1:=by
 unfold lessV
 rw [if_neg (by decide)]
def asPut (x:S27):CallV:=.put x.f0 x.f1
theorem doV_asPuts (ws:List S27) (rest:List CallV) (b:List ByteArray):∀ p,(∀ x ∈ ws,lookV b.length x.f0 x.f1=0)→doV (ws.map asPut ++ rest) b p (-1)=doV rest b (p ++ ws) (-1):=by
 induction ws with
 | nil=>intro p _;rw [List.append_nil];rfl
 | cons x ws ih=>
  intro p h
  rw [List.map_cons,List.cons_append,asPut,doV_put _ _ _ _ _ _ (h x List.mem_cons_self) (by decide),less_neg,ih _ (fun y hy=>h y (List.mem_cons_of_mem _ hy)),List.append_assoc]
  rfl
def hw (l:List S27):List S27:=l.map fun x=>⟨wrap64 (33 + x.f0),x.f1⟩
theorem homeV_hw (l:List S27):homeV l=(hw l).map asPut ++ [.flush]:=by
 rw [homeV,hw,List.map_map]
 rfl
theorem valid_append {b:List ByteArray} {p q:List S27} (hp:Valid b p) (hq:∀ x ∈ q,lookV b.length x.f0 x.f1=0):Valid b (p ++ q):=
 ⟨hp.1,hp.2.1,fun x hx=>(List.mem_append.1 hx).elim (hp.2.2 x) (hq x)⟩
structure MayOk (l:List S27) (n:Nat):Prop where
 len:l.length≤32
 blk:∀ x ∈ l,0≤x.f0∧x.f0<n
 siz:∀ x ∈ l,x.f1.size=128
theorem mayOk_of (l:List S27) (n:Nat) (hn:n≤65536) (h:mayV l (n:Int)=0):MayOk l n:=by
 have hf:=fit_may (n:Int) (by omega) l h
 unfold mayV at h
 rw [if_neg (by have:=hf.1;omega)] at h
 obtain ⟨h1,h2⟩:=fit_mayL (n:Int) (by omega) l [] h
 exact ⟨hf.1,h1,h2⟩
theorem wrap33 (x:Int) (h0:0≤x) (h1:x<65536):wrap64 (33 + x)=33 + x:=by unfold wrap64;omega
theorem hw_look (l:List S27) (n b:Nat) (h:MayOk l n) (hn:n≤65536) (hb:b=33 + n):∀ x ∈ hw l,lookV b x.f0 x.f1=0:=by
 intro x hx
 obtain ⟨y,hy,rfl⟩:=List.mem_map.1 hx
 have hb2:=h.blk y hy
 dsimp only
 rw [wrap33 y.f0 hb2.1 (by omega)]
 exact look_ok (by omega) (by omega) (by rw [h.siz y hy];rfl)
theorem list_rd2 (l m:List ByteArray) (h:l.length=m.length) (hr:∀ i:Nat,i<m.length→rdOf ByteArray.empty l (i:Int)=rdOf ByteArray.empty m (i:Int)):l=m:=by
 apply List.ext_getElem h
 intro i h1 h2
 have:=hr i h2
 rw [rdN l i h1,rdN m i h2] at this
 exact this
section
variable {b:List ByteArray} {l:List S27} {n:Nat}
end
end Go.Proofs.Ytjfmnkmgnbbfgaa.A
namespace Go.Proofs.Ytjfmnkmgnbbfgaa.A
open Go.RowKit Go.Proofs.YtjfmnkmgnbbfgaaW.PrintWords Go.Proofs.YtjfmnkmgnbbfgaaW.PrintLast Go.Proofs.YtjfmnkmgnbbfgaaW.PrintMore
attribute [local go_sem] max2_int min2_int max_two min_two max_three min_three max_four min_four   -- for this text's walks alone
set_option linter.unusedVariables false
set_option linter.unusedSimpArgs false
def hibernacleref01_Get.l0:Nat→ByteArray→Int→Int→Option (Int)
 | 0,_,_,_=>none
 | k + 1,x0,x3,x4=>if x4 ≥ 0 then (if x4<8 then (if 0≤x4 then (if x4<(x0.size:Int) then (hibernacleref01_Get.l0 k x0 (IntKind.u64.wrap ((IntKind.u64.wrap (x3 * 256)) + (IntKind.u64.wrap (bt x0 x4)))) (wrap64 (x4 - 1))) else (none)) else (none)) else (hibernacleref01_Get.l0 k x0 x3 (wrap64 (x4 - 1)))) else (some x3)
def hibernacleref01_Get.f (k:Nat) (a0:ByteArray):Option (Int):=hibernacleref01_Get.l0 k a0 0 (wrap64 ((a0.size:Int) - 1))
theorem hibernacleref01_Get.mono_l:∀ k,(∀ y0 y1 y2,LeO (hibernacleref01_Get.l0 k y0 y1 y2) (hibernacleref01_Get.l0 (k + 1) y0 y1 y2))
 | 0=>fun _ _ _ r h=>by simp [hibernacleref01_Get.l0] at h
 | k + 1=>by
  have ih0:=hibernacleref01_Get.mono_l k
  ·intro y0 y1 y2
   unfold hibernacleref01_Get.l0
   repeat' first
   | (with_reducible exact ih0 _ _ _)
   | (with_reducible exact LeO.refl _)
   | (with_reducible exact LeO.none _)
   | (with_reducible refine LeO.ite ?_ ?_)
   | (with_reducible refine LeO.bind ?_ (fun _=>?_))
   | exact ih0 _ _ _
   | exact LeO.none _
   | refine LeO.ite ?_ ?_
   | refine LeO.bind ?_ (fun _=>?_)
theorem hibernacleref01_Get.mono:∀ a0 k,LeO (hibernacleref01_Get.f k a0) (hibernacleref01_Get.f (k + 1) a0):=by
 intro a0 k
 have ih0:=hibernacleref01_Get.mono_l k
 unfold hibernacleref01_Get.f
 repeat' first
   | (with_reducible exact ih0 _ _ _)
   | (with_reducible exact LeO.refl _)
   | (with_reducible exact LeO.none _)
   | (with_reducible refine LeO.ite ?_ ?_)
   | (with_reducible refine LeO.bind ?_ (fun _=>?_))
   | exact ih0 _ _ _
   | exact LeO.none _
   | refine LeO.ite ?_ ?_
   | refine LeO.bind ?_ (fun _=>?_)
set_option maxHeartbeats 8000000 in
set_option maxRecDepth 100000 in
theorem hibernacleref01_Get.calls (k:Nat) (a0:ByteArray) (r:Int) (w:World) (h:hibernacleref01_Get.f k a0=some r) :
  Calls Try.prog 104 #[.string a0] w fun e w'=>e=.returned (.int .u64 r)∧Drawn0 w w':=by
 have H:(hibernacleref01_Get.l0 k a0 0 (wrap64 ((a0.size:Int) - 1)))=some r:=h
 clear h
 have H':=Aside0.mk H
 clear H
 go_enter Try.func104,Try.ntmps104
 go_wp2
 go_loopg [3,4] k (fun kq v3 v4 w'=>∃ (x3_1:Int) (x4_1:Int),v3=.int .u64 x3_1∧v4=.int .i64 x4_1∧Aside0 (hibernacleref01_Get.l0 kq a0 x3_1 x4_1=some r)∧Aside0 (kq≤k)∧Drawn0 w w')
 case atStart=>exact ⟨(0),(wrap64 ((a0.size:Int) - 1)),(by first |rfl |(simp;done) |(simp [*];done)),(by first |rfl |(simp;done) |(simp [*];done)),H',⟨Nat.le_refl _⟩,by repeat (first |exact Drawn0.refl _ |apply Drawn0.step)⟩
 case round=>
  clear H'
  try clear c1
  obtain ⟨x3_1,x4_1,rfl,rfl,HA,HK1,⟨m1,rfl⟩⟩:=hrel
  cases gk with
  | zero=>exact absurd HA.out (by simp [hibernacleref01_Get.l0])
  | succ k1=>
   have H:=HA.out
   clear HA
   simp only [hibernacleref01_Get.l0] at H
   by_cases c2:x4_1 ≥ 0
   ·rw [if_pos c2] at H
    have c2b0:decide (0≤x4_1)=true:=decide_eq_true c2
    clear c2
    by_cases c3:x4_1<8
    ·rw [if_pos c3] at H
     have c3b0:decide (x4_1<8)=true:=decide_eq_true c3
     clear c3
     by_cases c4:0≤x4_1
     ·rw [if_pos c4] at H
      have c4b0:decide (0≤x4_1)=true:=decide_eq_true c4
      clear c4
      by_cases c5:x4_1<(a0.size:Int)
      ·rw [if_pos c5] at H
       have c5b0:decide (x4_1<(a0.size:Int))=true:=decide_eq_true c5
       clear c5
       have H':=Aside0.mk H
       clear H
       have p6:0≤(x4_1:Int):=of_decide_eq_true (by first |(with_reducible assumption) |assumption)
       have q6:x4_1<(a0.size:Int):=of_decide_eq_true (by first |(with_reducible assumption) |assumption)
       have hx6:=bt_at a0 x4_1
       replace p6:=eq_true p6
       replace q6:=eq_true q6
       go_wp2
       go_roundg k1
       case measure=>have:=HK1.out;omega
       case rel=>exact ⟨(IntKind.u64.wrap ((IntKind.u64.wrap (x3_1 * 256)) + (IntKind.u64.wrap (bt a0 x4_1)))),(wrap64 (x4_1 - 1)),(by first |rfl |(simp;done) |(simp [*];done)),(by first |rfl |(simp;done) |(simp [*];done)),H',⟨by have:=HK1.out;omega⟩,by repeat (first |exact Drawn0.refl _ |apply Drawn0.step)⟩
      ·rw [if_neg c5] at H
       exact absurd H (by simp)
     ·rw [if_neg c4] at H
      exact absurd H (by simp)
    ·rw [if_neg c3] at H
     have c3b0:decide (x4_1<8)=false:=decide_eq_false c3
     clear c3
     have H':=Aside0.mk H
     clear H
     go_wp2
     go_roundg k1
     case measure=>have:=HK1.out;omega
     case rel=>exact ⟨(x3_1),(wrap64 (x4_1 - 1)),(by first |rfl |(simp;done) |(simp [*];done)),(by first |rfl |(simp;done) |(simp [*];done)),H',⟨by have:=HK1.out;omega⟩,by repeat (first |exact Drawn0.refl _ |apply Drawn0.step)⟩
   ·rw [if_neg c2] at H
    have c2b0:decide (0≤x4_1)=false:=decide_eq_false c2
    clear c2
    obtain rfl:=Option.some.inj H
    go_wp2
    go_ret
    exact ⟨by first |rfl |(simp;done) |(simp [*];done),by repeat (first |exact Drawn0.refl _ |apply Drawn0.step)⟩
end Go.Proofs.Ytjfmnkmgnbbfgaa.A
