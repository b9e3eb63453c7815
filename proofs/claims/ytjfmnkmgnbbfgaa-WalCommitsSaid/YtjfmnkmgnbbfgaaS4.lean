/- WalCommits, walked: what a commit makes of a drive, and its volume, are the document's. -/
import Derived.Test.YtjfmnkmgnbbfgaaA29
import Derived.Test.YtjfmnkmgnbbfgaaA44
import Derived.Test.YtjfmnkmgnbbfgaaA59
import Derived.Test.YtjfmnkmgnbbfgaaW0
import Derived.Test.YtjfmnkmgnbbfgaaK3
set_option linter.unusedVariables false
set_option linter.unusedSimpArgs false
namespace Go.Proofs.Ytjfmnkmgnbbfgaa.A
open Go.RowKit Go.Proofs.YtjfmnkmgnbbfgaaW.PrintWords Go.Proofs.YtjfmnkmgnbbfgaaW.PrintLast Go.Proofs.YtjfmnkmgnbbfgaaW.PrintMore
def hcm18.T:Bool × List (List Nat × List Nat):=(true,[([],[]),([],[]),([0,1],[0,1]),([2],[2]),([3],[3]),([3],[3]),([4,5,3,3],[3,4,5]),([3,6],[3,6]),([7,6],[7]),([8],[8]),([9,8,8],[8,9]),([8],[8]),([11,10,8],[8,11]),([10,12,12,8],[8,10,12]),([8,13],[8,13]),([14,13],[14]),([15,15],[15]),([15,16],[15,16]),([17,16,0,1,2,3,4,5,6,7,8,9,10,11,12,13,14,15,16,17],[17])])
def hcm18.B:List Nat:=[0,0,3,7,15,15,63,127,255,511,1023,511,4095,8191,16383,32767,65535,131071,262143]
theorem hcm18.tab:rtab .any (opsOf Try.f18 5)=hcm18.T:=by kernel_rfl
theorem hcm18.bits:waitsOk hcm18.T.2 hcm18.B=true:=by kernel_rfl
set_option maxHeartbeats 8000000 in
set_option maxRecDepth 100000 in
theorem commits_walk (A0:Option Addr) (c0:Nat) (b:List ByteArray) (A1:Option Addr) (c1:Nat) (p:List S27) (a:Int) (A2:Option Addr) (c2:Nat) (l:List S27) (ok:Nat→Prop) (w:World)
  (hd:Dr w ok (.slice A0 b.length c0) (.slice A1 p.length c1) b p) (hl:Kd.C k27 w A2 l.length l) (hc2:l.length≤c2) :
  Calls Try.prog 18 #[.agg #[.slice A0 b.length c0,.slice A1 p.length c1,.int .i64 a],.slice A2 l.length c2] w fun e w'=>e=.returned (.bool true)∧Below w.heap.size w w':=by
 have hu29:=Try.underlying29
 have hu27:=Try.underlying27
 obtain ⟨v,hg,hv⟩:=great16_some b p a 300 (by omega)
 obtain ⟨K1,hK1⟩:∃ z,z=l.length + 1:=⟨_,rfl⟩
 obtain ⟨u,hlo,hu⟩:=long16_some l hl.2.1 K1 (by omega)
 have HD:=Aside0.mk hd
 have HL:=Aside0.mk hl
 have HG:=Aside0.mk hg
 have HLO:=Aside0.mk hlo
 have HLU:=Aside0.mk hu
 clear hd hl hg hlo hK1 hu
 go_enter Try.func18,Try.ntmps18
 rcases hv with rfl |⟨rfl,hbl,hpl⟩
 ·go_wp2_with (first
   | ((with_reducible refine gate_dst (N:=2) rfl ?_);refine box_event ?hg (N:=2) ?hd (cs:=#[.slice A0 b.length c0,.slice A1 p.length c1,.int .i64 a]) (t:=29) ?hr ?_;(case hd=>rfl);(case hg=>rfl);(case hr=>first |(go_simp;done) |(go_simp;rfl));intro b2 hbb2 w2 hxb2 hlb2;have k0:=(blk_cell hxb2 0).trans rfl;have k1:=(blk_cell hxb2 1).trans rfl;have k2:=(blk_cell hxb2 2).trans rfl;have HXb2:=Aside0.mk hxb2;have HLb2:=Aside0.mk hlb2;have HBb2:=Aside0.mk hbb2;clear hxb2 hlb2 hbb2)
   | ((with_reducible refine gate_dst (N:=10) rfl ?_);refine goesL_ (some 10) rfl rfl Try.func26 (by kernel_rfl) rfl #[.agg #[.slice A0 b.length c0,.slice A1 p.length c1,.int .i64 a]] rfl (by (try simp only [List.map_toArray,List.map_cons,List.map_nil]);first |done |rfl) ?_;refine (hibernacleref16_Great.calls 300 A0 c0 b A1 c1 p a 1 w2 (Kd.V_reads' (HD.out.below HLb2.out).1).2.2 (Kd.V_reads' (HD.out.below HLb2.out).1).2.1 (Kd.V_reads' (HD.out.below HLb2.out).2).2.2 (Kd.V_reads' (HD.out.below HLb2.out).2).2.1 HG.out).mono ?_;rintro e w10 ⟨rfl,hb⟩;refine ⟨_,rfl, ?_⟩;have HC10:=Aside0.mk hb;have HB10:=Aside0.mk (below_step HLb2.out hb);clear hb k0 k1 k2)
   | ((with_reducible refine gate_dst (N:=17) rfl ?_);refine goesL_ (some 17) rfl rfl Try.func21 (by kernel_rfl) rfl #[] rfl (by (try simp only [List.map_toArray,List.map_cons,List.map_nil]);first |done |rfl) ?_;refine (hibernaclelaw16_awake.calls true _ rfl).mono ?_;rintro e wz ⟨rfl,hbz⟩;refine ⟨_,rfl, ?_⟩;have HBZ:=Aside0.mk (below_step HB10.out hbz);clear hbz)
   | fail)
  go_ret
  exact ⟨rfl,HBZ.out⟩
 ·go_wp2_with (first
   | ((with_reducible refine gate_dst (N:=2) rfl ?_);refine box_event ?hg (N:=2) ?hd (cs:=#[.slice A0 b.length c0,.slice A1 p.length c1,.int .i64 a]) (t:=29) ?hr ?_;(case hd=>rfl);(case hg=>rfl);(case hr=>first |(go_simp;done) |(go_simp;rfl));intro b2 hbb2 w2 hxb2 hlb2;have k0:=(blk_cell hxb2 0).trans rfl;have k1:=(blk_cell hxb2 1).trans rfl;have k2:=(blk_cell hxb2 2).trans rfl;have HXb2:=Aside0.mk hxb2;have HLb2:=Aside0.mk hlb2;have HBb2:=Aside0.mk hbb2;clear hxb2 hlb2 hbb2)
   | ((with_reducible refine gate_dst (N:=10) rfl ?_);refine goesL_ (some 10) rfl rfl Try.func26 (by kernel_rfl) rfl #[.agg #[.slice A0 b.length c0,.slice A1 p.length c1,.int .i64 a]] rfl (by (try simp only [List.map_toArray,List.map_cons,List.map_nil]);first |done |rfl) ?_;refine (hibernacleref16_Great.calls 300 A0 c0 b A1 c1 p a 0 w2 (Kd.V_reads' (HD.out.below HLb2.out).1).2.2 (Kd.V_reads' (HD.out.below HLb2.out).1).2.1 (Kd.V_reads' (HD.out.below HLb2.out).2).2.2 (Kd.V_reads' (HD.out.below HLb2.out).2).2.1 HG.out).mono ?_;rintro e w10 ⟨rfl,hb⟩;refine ⟨_,rfl, ?_⟩;have HC10:=Aside0.mk hb;have HB10:=Aside0.mk (below_step HLb2.out hb);clear hb k0 k1 k2)
   | fail)
  refine (hibernacleref16_Long.calls K1 A2 c2 l u w10 (Kd.C_below HL.out HB10.out) hc2 HLO.out).mono ?_
  rintro e w14 ⟨rfl,hdr⟩
  have HB14:=Aside0.mk (below_step HB10.out hdr.below)
  have HX14:=Aside0.mk (blk_below HXb2.out (below_step HC10.out hdr.below))
  clear hdr
  have hu:=HLU.out
  rcases hu with rfl |⟨rfl,hll⟩
  ·go_wp2_with (first
    | ((with_reducible refine gate_dst (N:=17) rfl ?_);refine goesL_ (some 17) rfl rfl Try.func21 (by kernel_rfl) rfl #[] rfl (by (try simp only [List.map_toArray,List.map_cons,List.map_nil]);first |done |rfl) ?_;refine (hibernaclelaw16_awake.calls true _ rfl).mono ?_;rintro e wz ⟨rfl,hbz⟩;refine ⟨_,rfl, ?_⟩;have HBZ:=Aside0.mk (below_step HB14.out hbz);clear hbz)
    | fail)
   go_ret
   exact ⟨rfl,HBZ.out⟩
  ·obtain ⟨h1,h2⟩:=commitV_size b p a l (by omega) (by omega) hll
   obtain ⟨T,hT⟩:∃ z,z=commitV b p a l:=⟨_,rfl⟩
   rw [← hT] at h1 h2
   obtain ⟨t1,t2,t3,t4⟩:=T
   dsimp only at h1 h2
   have h3:=homeL_size t1 t2
   have HE1:=Aside0.mk hT.symm
   have HSD:=Aside0.mk (samed t1 t2 t3 (by omega) (by omega) 2000 (by omega))
   have HH1:=Aside0.mk (home_some t1 t2 t3 (by omega) 2000 (by omega))
   have HH2:=Aside0.mk (rhome_some t1 t2 t3 (by omega) 2000 (by omega))
   have HSB:=Aside0.mk (sameb (homeL t1 t2) (by omega) 2000 (by omega))
   clear hT h1 h2 h3
   have j0:=(blk_cell HX14.out 0).trans rfl
   have j1:=(blk_cell HX14.out 1).trans rfl
   have j2:=(blk_cell HX14.out 2).trans rfl
   go_wp2_with (first
    | ((with_reducible refine gate_store (t:=29) (p:=7) rfl ?_);refine store_event (t:=29) (p:=7) (v:=?vo_u7) (w1:=?wn_u7) ?hg ?ho ?hn ?hr ?_;(case ho=>rfl);(case hg=>rfl);(case hn=>rfl);(case hr=>first |(go_simp;done) |(go_simp;rfl));intro u7 hw;have hX:Aside0 (u7.heap[b7]?=some (.cells #[.slice C0 t1.length q0,.slice C1 t2.length q1,.int .i64 t3] 29 (0,0))):=⟨by rw [hw];exact blk_put (blk_put (blk_put HXb7.out 0 _ rfl) 1 _ rfl) 2 _ rfl⟩;have hlb:=HBb7.out;have hD:=((HD27.out.below HLb7.out).set3 (g:=b7) (fun k hk=>by have h_:k<w27.heap.size:=hk;omega) (.slice C0 t1.length q0) (.slice C1 t2.length q1) (.int .i64 t3));rw [← hw] at hD;have HDu7:=Aside0.mk hD;have g_:u5.heap.size≤b7:=(by rw [hlb];exact HC27.out.size);have HCu7:Aside0 (Below u5.heap.size u5 u7):=⟨by rw [hw];exact below_set3 (below_step HC27.out HLb7.out) g_ _ _ _⟩;have HUu7:=hX;clear hX hD hw hlb g_ m0 m1 m2 f0 f1 f2)
    | ((with_reducible refine gate_dst (N:=7) rfl ?_);refine box_event ?hg (N:=7) ?hd (cs:=#[.slice none 0 0,.slice none 0 0,.int .i64 0]) (t:=29) ?hr ?_;(case hd=>rfl);(case hg=>rfl);(case hr=>first |(go_simp;done) |(go_simp;rfl));intro b7 hbb7 w7 hxb7 hlb7;have m0:=(blk_cell hxb7 0).trans rfl;have m1:=(blk_cell hxb7 1).trans rfl;have m2:=(blk_cell hxb7 2).trans rfl;have f0:=blk_frozen hxb7 0;have f1:=blk_frozen hxb7 1;have f2:=blk_frozen hxb7 2;have HXb7:=Aside0.mk hxb7;have HLb7:=Aside0.mk hlb7;have HBb7:=Aside0.mk hbb7;clear hxb7 hlb7 hbb7)
    | ((with_reducible refine gate_dst (N:=27) rfl ?_);refine goesL_ (some 27) rfl rfl Try.func58 (by kernel_rfl) rfl #[.agg #[.slice A0 b.length c0,.slice A1 p.length c1,.int .i64 a],.slice A2 l.length c2] rfl (by (try simp only [List.map_toArray,List.map_cons,List.map_nil]);first |done |rfl) ?_;refine (rcommit_walk A0 c0 b A1 c1 p a A2 c2 l (fun k=>ok k∧k<w.heap.size) u5 (HD.out.bound.below (below_step HB14.out HCu5.out)) (Kd.C_below HL.out (below_step HB14.out HCu5.out)) hc2 (by omega) (by omega)).mono ?_;rw [HE1.out];rintro e w27 ⟨v0,v1,rfl,hD,hb⟩;obtain ⟨C0,q0,C1,q1,rfl,rfl⟩:=hD.slices;refine ⟨_,rfl, ?_⟩;have HD27:=Aside0.mk (hD.bound.mono (ok':=fun k=>k<w27.heap.size) (fun k hk=>hk.2));have HC27:=Aside0.mk hb;clear hD hb j0 j1 j2)
    | ((with_reducible refine gate_store (t:=29) (p:=5) rfl ?_);refine store_event (t:=29) (p:=5) (v:=?vo_u5) (w1:=?wn_u5) ?hg ?ho ?hn ?hr ?_;(case ho=>rfl);(case hg=>rfl);(case hn=>rfl);(case hr=>first |(go_simp;done) |(go_simp;rfl));intro u5 hw;have hX:Aside0 (u5.heap[b5]?=some (.cells #[.slice B0 t1.length e0,.slice B1 t2.length e1,.int .i64 t3] 29 (0,0))):=⟨by rw [hw];exact blk_put (blk_put (blk_put HXb5.out 0 _ rfl) 1 _ rfl) 2 _ rfl⟩;have hlb:=HBb5.out;have hD:=((HD21.out.below HLb5.out).set3 (g:=b5) (fun k hk=>by have h_:k<w21.heap.size:=hk;omega) (.slice B0 t1.length e0) (.slice B1 t2.length e1) (.int .i64 t3));rw [← hw] at hD;have HDu5:=Aside0.mk hD;have g_:w14.heap.size≤b5:=(by rw [hlb];exact HC21.out.size);have HCu5:Aside0 (Below w14.heap.size w14 u5):=⟨by rw [hw];exact below_set3 (below_step HC21.out HLb5.out) g_ _ _ _⟩;have HUu5:=hX;clear hX hD hw hlb g_ m0 m1 m2 f0 f1 f2;have j0:=(blk_cell (blk_below HX14.out HCu5.out) 0).trans rfl;have j1:=(blk_cell (blk_below HX14.out HCu5.out) 1).trans rfl;have j2:=(blk_cell (blk_below HX14.out HCu5.out) 2).trans rfl)
    | ((with_reducible refine gate_dst (N:=5) rfl ?_);refine box_event ?hg (N:=5) ?hd (cs:=#[.slice none 0 0,.slice none 0 0,.int .i64 0]) (t:=29) ?hr ?_;(case hd=>rfl);(case hg=>rfl);(case hr=>first |(go_simp;done) |(go_simp;rfl));intro b5 hbb5 w5 hxb5 hlb5;have m0:=(blk_cell hxb5 0).trans rfl;have m1:=(blk_cell hxb5 1).trans rfl;have m2:=(blk_cell hxb5 2).trans rfl;have f0:=blk_frozen hxb5 0;have f1:=blk_frozen hxb5 1;have f2:=blk_frozen hxb5 2;have HXb5:=Aside0.mk hxb5;have HLb5:=Aside0.mk hlb5;have HBb5:=Aside0.mk hbb5;clear hxb5 hlb5 hbb5)
    | ((with_reducible refine gate_dst (N:=21) rfl ?_);refine goesL_ (some 21) rfl rfl Try.func23 (by kernel_rfl) rfl #[.agg #[.slice A0 b.length c0,.slice A1 p.length c1,.int .i64 a],.slice A2 l.length c2] rfl (by (try simp only [List.map_toArray,List.map_cons,List.map_nil]);first |done |rfl) ?_;refine (commit_walk A0 c0 b A1 c1 p a A2 c2 l (fun k=>ok k∧k<w.heap.size) w14 (HD.out.bound.below HB14.out) (Kd.C_below HL.out HB14.out) hc2 (by omega) (by omega)).mono ?_;rw [HE1.out];rintro e w21 ⟨v0,v1,rfl,hD,hb⟩;obtain ⟨B0,e0,B1,e1,rfl,rfl⟩:=hD.slices;refine ⟨_,rfl, ?_⟩;have HD21:=Aside0.mk (hD.bound.mono (ok':=fun k=>k<w21.heap.size) (fun k hk=>hk.2));have HC21:=Aside0.mk hb;clear hD hb j0 j1 j2)
    | fail)
   rename_i KK hKK
   replace hKK:=Aside0.mk hKK
   have hS1:u7.drew.heap[b5]?=some (.cells #[.slice B0 t1.length e0,.slice B1 t2.length e1,.int .i64 t3] 29 (0,0)):=blk_below HUu5.out HCu7.out.drew
   have hS2:u7.drew.heap[b7]?=some (.cells #[.slice C0 t1.length q0,.slice C1 t2.length q1,.int .i64 t3] 29 (0,0)):=HUu7.out
   have hBV:Below w.heap.size w u7.drew:=(below_step (below_step HB14.out HCu5.out) HCu7.out).drew
   have hDY:=(HDu5.out.below HCu7.out).below (Below.refl _ _).drew
   have hDZ:=HDu7.out.below (Below.refl _ _).drew
   refine start_ (n:=19) (S:=fun w'=>w'.heap[b5]?=some (.cells #[.slice B0 t1.length e0,.slice B1 t2.length e1,.int .i64 t3] 29 (0,0))∧w'.heap[b7]?=some (.cells #[.slice C0 t1.length q0,.slice C1 t2.length q1,.int .i64 t3] 29 (0,0))) (ds:=[]) #[false,false,false,false,false,false,false,false,false,false,false,false,false,false,false,false,false,false,false] (by kernel_rfl) rfl rfl ⟨hS1,hS2⟩ (fun hHeld=>?_);refine with_tabW hcm18.tab hcm18.bits (fun HT_ HW_=>?_)
   generalize u7.drew=V0 at hS1 hS2 hBV hDY hDZ hHeld ⊢
   refine pure_ (i:=0) (N:=(some 30)) (v:=?_) (a':=?_) #[true,false,false,false,false,false,false,false,false,false,false,false,false,false,false,false,false,false,false] rfl rfl (any_of HT_.out (by kernel_rfl)) (fun _ _ _ h=>h) (Or.inl ⟨by rfl, ?_⟩) ?_ ?_
   rotate_left
   ·intro w'
    go_simp
    with_reducible rfl
   rotate_left
   ·simp only [Act.put,List.setIfInBounds_toArray,List.set_cons_zero,List.set_cons_succ,i64_w,i32_w]
    rfl
   refine pure_ (i:=1) (N:=(some 31)) (v:=?_) (a':=?_) #[true,true,false,false,false,false,false,false,false,false,false,false,false,false,false,false,false,false,false] rfl rfl (any_of HT_.out (by kernel_rfl)) (fun _ _ _ h=>h) (Or.inl ⟨by rfl, ?_⟩) ?_ ?_
   rotate_left
   ·intro w'
    go_simp
    with_reducible rfl
   rotate_left
   ·simp only [Act.put,List.setIfInBounds_toArray,List.set_cons_zero,List.set_cons_succ,i64_w,i32_w]
    rfl
   refine pure_ (i:=2) (N:=(some 32)) (v:=?_) (a':=?_) #[true,true,true,false,false,false,false,false,false,false,false,false,false,false,false,false,false,false,false] rfl rfl (any_of HT_.out (by kernel_rfl)) (fun _ _ _ h=>h) (Or.inl ⟨by rfl, ?_⟩) ?_ ?_
   rotate_left
   ·intro w'
    go_simp
    with_reducible rfl
   rotate_left
   ·simp only [Act.put,List.setIfInBounds_toArray,List.set_cons_zero,List.set_cons_succ,i64_w,i32_w]
    rfl
   refine pure_ (i:=3) (N:=(some 33)) (v:=?_) (a':=?_) #[true,true,true,true,false,false,false,false,false,false,false,false,false,false,false,false,false,false,false] rfl rfl (any_of HT_.out (by kernel_rfl)) (fun _ _ _ h=>h) (Or.inl ⟨by rfl, ?_⟩) ?_ ?_
   rotate_left
   ·intro w'
    go_simp
    with_reducible rfl
   rotate_left
   ·simp only [Act.put,List.setIfInBounds_toArray,List.set_cons_zero,List.set_cons_succ,i64_w,i32_w]
    rfl
   refine take_ (i:=4) (N:=(some 34)) (v:=?_) (a':=?_) #[true,true,true,true,true,false,false,false,false,false,false,false,false,false,false,false,false,false,false] rfl rfl (take_ofW HT_.out HW_.out (by kernel_rfl)) (fun _ _ _ h=>h) (Or.inl ⟨by rfl, ?_⟩) hHeld ?_ ?_
   rotate_left
   ·rintro w' s1;have t0:=(blk_cell s1.1 0).trans rfl;have t1_:=(blk_cell s1.1 1).trans rfl;have t2_:=(blk_cell s1.1 2).trans rfl
    go_simp
    with_reducible rfl
   rotate_left
   ·simp only [Act.put,List.setIfInBounds_toArray,List.set_cons_zero,List.set_cons_succ,i64_w,i32_w]
    rfl
   refine take_ (i:=5) (N:=(some 35)) (v:=?_) (a':=?_) #[true,true,true,true,true,true,false,false,false,false,false,false,false,false,false,false,false,false,false] rfl rfl (take_ofW HT_.out HW_.out (by kernel_rfl)) (fun _ _ _ h=>h) (Or.inl ⟨by rfl, ?_⟩) hHeld ?_ ?_
   rotate_left
   ·rintro w' s1;have t0:=(blk_cell s1.2 0).trans rfl;have t1_:=(blk_cell s1.2 1).trans rfl;have t2_:=(blk_cell s1.2 2).trans rfl
    go_simp
    with_reducible rfl
   rotate_left
   ·simp only [Act.put,List.setIfInBounds_toArray,List.set_cons_zero,List.set_cons_succ,i64_w,i32_w]
    rfl
   refine one_ (i:=6) (N:=(some 36)) #[true,true,true,true,true,true,true,false,false,false,false,false,false,false,false,false,false,false,false] rfl rfl (one_of HT_.out (by kernel_rfl)) (by decide) (fun K hK=>?_)
   refine goes_ Try.func29 (by kernel_rfl) rfl #[.agg #[.slice B0 t1.length e0,.slice B1 t2.length e1,.int .i64 t3],.agg #[.slice C0 t1.length q0,.slice C1 t2.length q1,.int .i64 t3]] (by rfl) rfl rfl (by (try simp only [List.map_toArray,List.map_cons,List.map_nil]);first |done |rfl) ?_
   refine (hibernacleref16_SameDrive.calls 2000 B0 e0 t1 B1 e1 t2 t3 C0 q0 t1 C1 q1 t2 t3 true V0 (Kd.V_reads' hDY.1).2.2 (Kd.V_reads' hDY.1).2.1 (Kd.V_reads' hDY.2).2.2 (Kd.V_reads' hDY.2).2.1 (Kd.V_reads' hDZ.1).2.2 (Kd.V_reads' hDZ.1).2.1 (Kd.V_reads' hDZ.2).2.2 (Kd.V_reads' hDZ.2).2.1 HSD.out).mono ?_
   rintro e_ V1 ⟨rfl,hd1⟩
   refine ⟨_,rfl, ?_⟩
   refine hK.out _ _ ⟨(blk_below hS1 hd1),(blk_below hS2 hd1)⟩ (fun hHeld=>?_)
   clear hK K
   refine norm_ (a':=?_) ?_ ?_
   rotate_left
   ·show Act.put _ (some 36) _=_
    simp only [Act.put,List.setIfInBounds_toArray,List.set_cons_zero,List.set_cons_succ,i64_w,i32_w]
    rfl
   refine pure_ (i:=7) (N:=(some 37)) (v:=?_) (a':=?_) #[true,true,true,true,true,true,true,true,false,false,false,false,false,false,false,false,false,false,false] rfl rfl (any_of HT_.out (by kernel_rfl)) (fun _ _ _ h=>h) (Or.inl ⟨by rfl, ?_⟩) ?_ ?_
   rotate_left
   ·intro w'
    go_simp
    with_reducible rfl
   rotate_left
   ·simp only [Act.put,List.setIfInBounds_toArray,List.set_cons_zero,List.set_cons_succ,i64_w,i32_w]
    rfl
   refine pure_ (i:=8) (N:=(some 38)) (v:=?_) (a':=?_) #[true,true,true,true,true,true,true,true,true,false,false,false,false,false,false,false,false,false,false] rfl rfl (any_of HT_.out (by kernel_rfl)) (fun _ _ _ h=>h) (Or.inl ⟨by rfl, ?_⟩) ?_ ?_
   rotate_left
   ·intro w'
    go_simp
    with_reducible rfl
   rotate_left
   ·simp only [Act.put,List.setIfInBounds_toArray,List.set_cons_zero,List.set_cons_succ,i64_w,i32_w]
    rfl
   refine take_ (i:=9) (N:=(some 39)) (v:=?_) (a':=?_) #[true,true,true,true,true,true,true,true,true,true,false,false,false,false,false,false,false,false,false] rfl rfl (take_ofW HT_.out HW_.out (by kernel_rfl)) (fun _ _ _ h=>h) (Or.inl ⟨by rfl, ?_⟩) hHeld ?_ ?_
   rotate_left
   ·rintro w' s1;have t0:=(blk_cell s1.1 0).trans rfl;have t1_:=(blk_cell s1.1 1).trans rfl;have t2_:=(blk_cell s1.1 2).trans rfl
    go_simp
    with_reducible rfl
   rotate_left
   ·simp only [Act.put,List.setIfInBounds_toArray,List.set_cons_zero,List.set_cons_succ,i64_w,i32_w]
    rfl
   refine take_ (i:=11) (N:=(some 41)) (v:=?_) (a':=?_) #[true,true,true,true,true,true,true,true,true,true,false,true,false,false,false,false,false,false,false] rfl rfl (take_ofW HT_.out HW_.out (by kernel_rfl)) (fun _ _ _ h=>h) (Or.inl ⟨by rfl, ?_⟩) hHeld ?_ ?_
   rotate_left
   ·rintro w' s1;have t0:=(blk_cell s1.2 0).trans rfl;have t1_:=(blk_cell s1.2 1).trans rfl;have t2_:=(blk_cell s1.2 2).trans rfl
    go_simp
    with_reducible rfl
   rotate_left
   ·simp only [Act.put,List.setIfInBounds_toArray,List.set_cons_zero,List.set_cons_succ,i64_w,i32_w]
    rfl
   refine one_ (i:=10) (N:=(some 40)) #[true,true,true,true,true,true,true,true,true,true,true,true,false,false,false,false,false,false,false] rfl rfl (one_of HT_.out (by kernel_rfl)) (by decide) (fun K hK=>?_)
   refine goes_ Try.func25 (by kernel_rfl) rfl #[.agg #[.slice B0 t1.length e0,.slice B1 t2.length e1,.int .i64 t3]] (by rfl) rfl rfl (by (try simp only [List.map_toArray,List.map_cons,List.map_nil]);first |done |rfl) ?_
   have hDY1:=hDY.below hd1
   refine (wal_Home.calls 2000 B0 e0 t1 B1 e1 t2 t3 (homeL t1 t2) V1 (Kd.V_reads' hDY1.1).2.2 (Kd.V_reads' hDY1.1).2.1 (Kd.V_reads' hDY1.2).2.2 (Kd.V_reads' hDY1.2).2.1 HH1.out).mono ?_
   rintro e_ V2 ⟨v1,rfl,hr1,hd2⟩
   obtain ⟨H1,h1_,rfl⟩:=Kd.R_slice hr1
   refine ⟨_,rfl, ?_⟩
   refine hK.out _ _ ⟨(blk_below (blk_below hS1 hd1) hd2),(blk_below (blk_below hS2 hd1) hd2)⟩ (fun hHeld=>?_)
   clear hK K
   refine norm_ (a':=?_) ?_ ?_
   rotate_left
   ·show Act.put _ (some 40) _=_
    simp only [Act.put,List.setIfInBounds_toArray,List.set_cons_zero,List.set_cons_succ,i64_w,i32_w]
    rfl
   refine one_ (i:=12) (N:=(some 42)) #[true,true,true,true,true,true,true,true,true,true,true,true,true,false,false,false,false,false,false] rfl rfl (one_of HT_.out (by kernel_rfl)) (by decide) (fun K hK=>?_)
   refine goes_ Try.func59 (by kernel_rfl) rfl #[.agg #[.slice C0 t1.length q0,.slice C1 t2.length q1,.int .i64 t3]] (by rfl) rfl rfl (by (try simp only [List.map_toArray,List.map_cons,List.map_nil]);first |done |rfl) ?_
   have hDZ1:=(hDZ.below hd1).below hd2
   refine (hibernacleref16_Home.calls 2000 C0 q0 t1 C1 q1 t2 t3 (homeL t1 t2) V2 (Kd.V_reads' hDZ1.1).2.2 (Kd.V_reads' hDZ1.1).2.1 (Kd.V_reads' hDZ1.2).2.2 (Kd.V_reads' hDZ1.2).2.1 HH2.out).mono ?_
   rintro e_ V3 ⟨v2,rfl,hr2,hd3⟩
   obtain ⟨H2,h2_,rfl⟩:=Kd.R_slice hr2
   refine ⟨_,rfl, ?_⟩
   refine hK.out _ _ ⟨(blk_below (blk_below (blk_below hS1 hd1) hd2) hd3),(blk_below (blk_below (blk_below hS2 hd1) hd2) hd3)⟩ (fun hHeld=>?_)
   clear hK K
   refine norm_ (a':=?_) ?_ ?_
   rotate_left
   ·show Act.put _ (some 42) _=_
    simp only [Act.put,List.setIfInBounds_toArray,List.set_cons_zero,List.set_cons_succ,i64_w,i32_w]
    rfl
   refine one_ (i:=13) (N:=(some 43)) #[true,true,true,true,true,true,true,true,true,true,true,true,true,true,false,false,false,false,false] rfl rfl (one_of HT_.out (by kernel_rfl)) (by decide) (fun K hK=>?_)
   refine goes_ Try.func24 (by kernel_rfl) rfl #[.slice H1 (homeL t1 t2).length h1_,.slice H2 (homeL t1 t2).length h2_] (by rfl) rfl rfl (by (try simp only [List.map_toArray,List.map_cons,List.map_nil]);first |done |rfl) ?_
   have hy1:=Kd.R_reads' (Kd.R_below hr1 hd3)
   have hy2:=Kd.R_reads' hr2
   refine (hibernacleref16_SameBlocks.calls 2000 H1 h1_ (homeL t1 t2) H2 h2_ (homeL t1 t2) true V3 hy1.2.2 hy1.2.1 hy2.2.2 hy2.2.1 HSB.out).mono ?_
   rintro e_ V4 ⟨rfl,hdr4⟩
   have hd4:=hdr4.below
   refine ⟨_,rfl, ?_⟩
   refine hK.out _ _ ⟨(blk_below (blk_below (blk_below (blk_below hS1 hd1) hd2) hd3) hd4),(blk_below (blk_below (blk_below (blk_below hS2 hd1) hd2) hd3) hd4)⟩ (fun hHeld=>?_)
   clear hK K
   refine norm_ (a':=?_) ?_ ?_
   rotate_left
   ·show Act.put _ (some 43) _=_
    simp only [Act.put,List.setIfInBounds_toArray,List.set_cons_zero,List.set_cons_succ,i64_w,i32_w]
    rfl
   refine pure_ (i:=14) (N:=(some 44)) (v:=?_) (a':=?_) #[true,true,true,true,true,true,true,true,true,true,true,true,true,true,true,false,false,false,false] rfl rfl (any_of HT_.out (by kernel_rfl)) (fun _ _ _ h=>h) (Or.inl ⟨by rfl, ?_⟩) ?_ ?_
   rotate_left
   ·intro w'
    go_simp
    with_reducible rfl
   rotate_left
   ·simp only [Act.put,List.setIfInBounds_toArray,List.set_cons_zero,List.set_cons_succ,i64_w,i32_w]
    rfl
   refine pure_ (i:=15) (N:=(some 45)) (v:=?_) (a':=?_) #[true,true,true,true,true,true,true,true,true,true,true,true,true,true,true,true,false,false,false] rfl rfl (any_of HT_.out (by kernel_rfl)) (fun _ _ _ h=>h) (Or.inl ⟨by rfl, ?_⟩) ?_ ?_
   rotate_left
   ·intro w'
    go_simp
    with_reducible rfl
   rotate_left
   ·simp only [Act.put,List.setIfInBounds_toArray,List.set_cons_zero,List.set_cons_succ,i64_w,i32_w]
    rfl
   refine one_ (i:=16) (N:=(some 46)) #[true,true,true,true,true,true,true,true,true,true,true,true,true,true,true,true,true,false,false] rfl rfl (one_of HT_.out (by kernel_rfl)) (by decide) (fun K hK=>?_)
   refine goes_ Try.func21 (by kernel_rfl) rfl #[] (by rfl) rfl rfl (by (try simp only [List.map_toArray,List.map_cons,List.map_nil]);first |done |rfl) ?_
   refine (hibernaclelaw16_awake.calls true V4 rfl).mono ?_
   rintro e_ V5 ⟨rfl,hd5⟩
   refine ⟨_,rfl, ?_⟩
   refine hK.out _ _ ⟨(blk_below (blk_below (blk_below (blk_below (blk_below hS1 hd1) hd2) hd3) hd4) hd5),(blk_below (blk_below (blk_below (blk_below (blk_below hS2 hd1) hd2) hd3) hd4) hd5)⟩ (fun hHeld=>?_)
   clear hK K
   refine norm_ (a':=?_) ?_ ?_
   rotate_left
   ·show Act.put _ (some 46) _=_
    simp only [Act.put,List.setIfInBounds_toArray,List.set_cons_zero,List.set_cons_succ,i64_w,i32_w]
    rfl
   refine pure_ (i:=17) (N:=(some 47)) (v:=?_) (a':=?_) #[true,true,true,true,true,true,true,true,true,true,true,true,true,true,true,true,true,true,false] rfl rfl (any_of HT_.out (by kernel_rfl)) (fun _ _ _ h=>h) (Or.inl ⟨by rfl, ?_⟩) ?_ ?_
   rotate_left
   ·intro w'
    go_simp
    with_reducible rfl
   rotate_left
   ·simp only [Act.put,List.setIfInBounds_toArray,List.set_cons_zero,List.set_cons_succ,i64_w,i32_w]
    rfl
   refine pure_ (i:=18) (N:=(some 4)) (v:=?_) (a':=?_) #[true,true,true,true,true,true,true,true,true,true,true,true,true,true,true,true,true,true,true] rfl rfl (any_of HT_.out (by kernel_rfl)) (fun _ _ _ h=>h) (Or.inl ⟨by rfl, ?_⟩) ?_ ?_
   rotate_left
   ·intro w'
    go_simp
    with_reducible rfl
   rotate_left
   ·simp only [Act.put,List.setIfInBounds_toArray,List.set_cons_zero,List.set_cons_succ,i64_w,i32_w]
    rfl
   refine done_ (done_of HT_.out (by kernel_rfl)) ?_
   refine hKK.out _ _ ?_
   clear hKK KK
   go_wp2
   go_ret
   exact ⟨by simp,below_step (below_step (below_step (below_step (below_step hBV hd1) hd2) hd3) hd4) hd5⟩
end Go.Proofs.Ytjfmnkmgnbbfgaa.A
