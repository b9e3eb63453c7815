/- Several texts of this claim in one: S5, Open, Open2. -/
import Derived.Test.YtjfmnkmgnbbfgaaA29
import Derived.Test.YtjfmnkmgnbbfgaaW0
import Derived.Test.YtjfmnkmgnbbfgaaK2
import Derived.Test.YtjfmnkmgnbbfgaaA0
import Derived.OpenShut
import Derived.ChangeArms
import Derived.DataReads
set_option linter.unusedVariables false
set_option linter.unusedSimpArgs false
namespace Go.Proofs.Ytjfmnkmgnbbfgaa.A
open Go.RowKit Go.Proofs.YtjfmnkmgnbbfgaaW.PrintWords Go.Proofs.YtjfmnkmgnbbfgaaW.PrintLast Go.Proofs.YtjfmnkmgnbbfgaaW.PrintMore
def hrcv4.T:Bool × List (List Nat × List Nat):=(true,[([],[]),([0],[0]),([1],[1]),([2],[2]),([3,2,2],[2,3]),([2],[2]),([5,4,2],[2,5]),([4,6,6,2],[2,4,6]),([2,7],[2,7]),([8,7],[8]),([9,9],[9]),([9,10],[9,10]),([11,10,0,1,2,3,4,5,6,7,8,9,10,11],[11])])
def hrcv4.B:List Nat:=[0,1,3,7,15,7,63,127,255,511,1023,2047,4095]
theorem hrcv4.tab:rtab .any (opsOf Try.f4 11)=hrcv4.T:=by kernel_rfl
theorem hrcv4.bits:waitsOk hrcv4.T.2 hrcv4.B=true:=by kernel_rfl
set_option maxHeartbeats 8000000 in
set_option maxRecDepth 100000 in
theorem recovers_walk (A0:Option Addr) (c0:Nat) (b:List ByteArray) (A1:Option Addr) (c1:Nat) (p:List S27) (a:Int) (ok:Nat→Prop) (w:World)
  (hd:Dr w ok (.slice A0 b.length c0) (.slice A1 p.length c1) b p) :
  Calls Try.prog 4 #[.agg #[.slice A0 b.length c0,.slice A1 p.length c1,.int .i64 a]] w fun e w'=>e=.returned (.bool true)∧Below w.heap.size w w':=by
 have hu29:=Try.underlying29
 have hu27:=Try.underlying27
 obtain ⟨v,hg,hv⟩:=great16_some b p a 300 (by omega)
 have HD:=Aside0.mk hd
 have HG:=Aside0.mk hg
 clear hd hg
 go_enter Try.func4,Try.ntmps4
 rcases hv with rfl |⟨rfl,hbl,hpl⟩
 ·go_wp2_with (first
   | ((with_reducible refine gate_dst (N:=1) rfl ?_);refine box_event ?hg (N:=1) ?hd (cs:=#[.slice A0 b.length c0,.slice A1 p.length c1,.int .i64 a]) (t:=29) ?hr ?_;(case hd=>rfl);(case hg=>rfl);(case hr=>first |(go_simp;done) |(go_simp;rfl));intro b1 hbb1 w1 hxb1 hlb1;have k0:=(blk_cell hxb1 0).trans rfl;have k1:=(blk_cell hxb1 1).trans rfl;have k2:=(blk_cell hxb1 2).trans rfl;have HXb1:=Aside0.mk hxb1;have HLb1:=Aside0.mk hlb1;have HBb1:=Aside0.mk hbb1;clear hxb1 hlb1 hbb1)
   | ((with_reducible refine gate_dst (N:=10) rfl ?_);refine goesL_ (some 10) rfl rfl Try.func26 (by kernel_rfl) rfl #[.agg #[.slice A0 b.length c0,.slice A1 p.length c1,.int .i64 a]] rfl (by (try simp only [List.map_toArray,List.map_cons,List.map_nil]);first |done |rfl) ?_;refine (hibernacleref16_Great.calls 300 A0 c0 b A1 c1 p a 1 w1 (Kd.V_reads' (HD.out.below HLb1.out).1).2.2 (Kd.V_reads' (HD.out.below HLb1.out).1).2.1 (Kd.V_reads' (HD.out.below HLb1.out).2).2.2 (Kd.V_reads' (HD.out.below HLb1.out).2).2.1 HG.out).mono ?_;rintro e w10 ⟨rfl,hb⟩;refine ⟨_,rfl, ?_⟩;have HX10:=Aside0.mk (blk_below HXb1.out hb);have HB10:=Aside0.mk (below_step HLb1.out hb);clear hb k0 k1 k2)
   | ((with_reducible refine gate_dst (N:=12) rfl ?_);refine goesL_ (some 12) rfl rfl Try.func21 (by kernel_rfl) rfl #[] rfl (by (try simp only [List.map_toArray,List.map_cons,List.map_nil]);first |done |rfl) ?_;refine (hibernaclelaw16_awake.calls true _ rfl).mono ?_;rintro e wz ⟨rfl,hbz⟩;refine ⟨_,rfl, ?_⟩;have HBZ:=Aside0.mk (below_step HB10.out hbz);clear hbz)
   | fail)
  go_ret
  exact ⟨rfl,HBZ.out⟩
 ·obtain ⟨h1,h2⟩:=recoverV_size b p a (by omega) (by omega)
  obtain ⟨T,hT⟩:∃ z,z=recoverV b p a:=⟨_,rfl⟩
  rw [← hT] at h1 h2
  obtain ⟨t1,t2,t3,t4⟩:=T
  dsimp only at h1 h2
  have h3:=homeL_size t1 t2
  have HE1:=Aside0.mk hT.symm
  have HSD:=Aside0.mk (samed t1 t2 t3 (by omega) (by omega) 2000 (by omega))
  have HH1:=Aside0.mk (home_some t1 t2 (-1) (by omega) 2000 (by omega))
  have HSB:=Aside0.mk (sameb (homeL t1 t2) (by omega) 2000 (by omega))
  clear hT h3
  go_wp2_with (first
   | ((with_reducible refine gate_dst (N:=1) rfl ?_);refine box_event ?hg (N:=1) ?hd (cs:=#[.slice A0 b.length c0,.slice A1 p.length c1,.int .i64 a]) (t:=29) ?hr ?_;(case hd=>rfl);(case hg=>rfl);(case hr=>first |(go_simp;done) |(go_simp;rfl));intro b1 hbb1 w1 hxb1 hlb1;have k0:=(blk_cell hxb1 0).trans rfl;have k1:=(blk_cell hxb1 1).trans rfl;have k2:=(blk_cell hxb1 2).trans rfl;have HXb1:=Aside0.mk hxb1;have HLb1:=Aside0.mk hlb1;have HBb1:=Aside0.mk hbb1;clear hxb1 hlb1 hbb1)
   | ((with_reducible refine gate_dst (N:=10) rfl ?_);refine goesL_ (some 10) rfl rfl Try.func26 (by kernel_rfl) rfl #[.agg #[.slice A0 b.length c0,.slice A1 p.length c1,.int .i64 a]] rfl (by (try simp only [List.map_toArray,List.map_cons,List.map_nil]);first |done |rfl) ?_;refine (hibernacleref16_Great.calls 300 A0 c0 b A1 c1 p a 0 w1 (Kd.V_reads' (HD.out.below HLb1.out).1).2.2 (Kd.V_reads' (HD.out.below HLb1.out).1).2.1 (Kd.V_reads' (HD.out.below HLb1.out).2).2.2 (Kd.V_reads' (HD.out.below HLb1.out).2).2.1 HG.out).mono ?_;rintro e w10 ⟨rfl,hb⟩;refine ⟨_,rfl, ?_⟩;have HX10:=Aside0.mk (blk_below HXb1.out hb);have HB10:=Aside0.mk (below_step HLb1.out hb);clear hb k0 k1 k2;have j0:=(blk_cell HX10.out 0).trans rfl;have j1:=(blk_cell HX10.out 1).trans rfl;have j2:=(blk_cell HX10.out 2).trans rfl)
   | ((with_reducible refine gate_store (t:=29) (p:=5) rfl ?_);refine store_event (t:=29) (p:=5) (v:=?vo_u5) (w1:=?wn_u5) ?hg ?ho ?hn ?hr ?_;(case ho=>rfl);(case hg=>rfl);(case hn=>rfl);(case hr=>first |(go_simp;done) |(go_simp;rfl));intro u5 hw;have hX:Aside0 (u5.heap[b5]?=some (.cells #[.slice C0 t1.length q0,.slice C1 t2.length q1,.int .i64 t3] 29 (0,0))):=⟨by rw [hw];exact blk_put (blk_put (blk_put HXb5.out 0 _ rfl) 1 _ rfl) 2 _ rfl⟩;have hlb:=HBb5.out;have hD:=((HD20.out.below HLb5.out).set3 (g:=b5) (fun k hk=>by have h_:k<w20.heap.size:=hk;omega) (.slice C0 t1.length q0) (.slice C1 t2.length q1) (.int .i64 t3));rw [← hw] at hD;have HDu5:=Aside0.mk hD;have g_:u3.heap.size≤b5:=(by rw [hlb];exact HC20.out.size);have HCu5:Aside0 (Below u3.heap.size u3 u5):=⟨by rw [hw];exact below_set3 (below_step HC20.out HLb5.out) g_ _ _ _⟩;have HUu5:=hX;clear hX hD hw hlb g_ m0 m1 m2 f0 f1 f2;have j0:=(blk_cell (blk_below HUu3.out HCu5.out) 0).trans rfl;have j1:=(blk_cell (blk_below HUu3.out HCu5.out) 1).trans rfl;have j2:=(blk_cell (blk_below HUu3.out HCu5.out) 2).trans rfl;have m0:=(blk_cell HUu5.out 0).trans rfl;have m1:=(blk_cell HUu5.out 1).trans rfl;have m2:=(blk_cell HUu5.out 2).trans rfl)
   | ((with_reducible refine gate_dst (N:=5) rfl ?_);refine box_event ?hg (N:=5) ?hd (cs:=#[.slice none 0 0,.slice none 0 0,.int .i64 0]) (t:=29) ?hr ?_;(case hd=>rfl);(case hg=>rfl);(case hr=>first |(go_simp;done) |(go_simp;rfl));intro b5 hbb5 w5 hxb5 hlb5;have m0:=(blk_cell hxb5 0).trans rfl;have m1:=(blk_cell hxb5 1).trans rfl;have m2:=(blk_cell hxb5 2).trans rfl;have f0:=blk_frozen hxb5 0;have f1:=blk_frozen hxb5 1;have f2:=blk_frozen hxb5 2;have HXb5:=Aside0.mk hxb5;have HLb5:=Aside0.mk hlb5;have HBb5:=Aside0.mk hbb5;clear hxb5 hlb5 hbb5)
   | ((with_reducible refine gate_dst (N:=20) rfl ?_);refine goesL_ (some 20) rfl rfl Try.func28 (by kernel_rfl) rfl #[.agg #[.slice A0 b.length c0,.slice A1 p.length c1,.int .i64 a]] rfl (by (try simp only [List.map_toArray,List.map_cons,List.map_nil]);first |done |rfl) ?_;refine (rrecover_walk A0 c0 b A1 c1 p a (fun k=>ok k∧k<w.heap.size) u3 (HD.out.bound.below (below_step HB10.out HCu3.out)) (by omega) (by omega)).mono ?_;rw [HE1.out];rintro e w20 ⟨v0,v1,rfl,hD,hb⟩;obtain ⟨C0,q0,C1,q1,rfl,rfl⟩:=hD.slices;refine ⟨_,rfl, ?_⟩;have HD20:=Aside0.mk (hD.bound.mono (ok':=fun k=>k<w20.heap.size) (fun k hk=>hk.2));have HC20:=Aside0.mk hb;clear hD hb j0 j1 j2)
   | ((with_reducible refine gate_store (t:=29) (p:=3) rfl ?_);refine store_event (t:=29) (p:=3) (v:=?vo_u3) (w1:=?wn_u3) ?hg ?ho ?hn ?hr ?_;(case ho=>rfl);(case hg=>rfl);(case hn=>rfl);(case hr=>first |(go_simp;done) |(go_simp;rfl));intro u3 hw;have hX:Aside0 (u3.heap[b3]?=some (.cells #[.slice B0 t1.length e0,.slice B1 t2.length e1,.int .i64 t3] 29 (0,0))):=⟨by rw [hw];exact blk_put (blk_put (blk_put HXb3.out 0 _ rfl) 1 _ rfl) 2 _ rfl⟩;have hlb:=HBb3.out;have hD:=((HD15.out.below HLb3.out).set3 (g:=b3) (fun k hk=>by have h_:k<w15.heap.size:=hk;omega) (.slice B0 t1.length e0) (.slice B1 t2.length e1) (.int .i64 t3));rw [← hw] at hD;have HDu3:=Aside0.mk hD;have g_:w10.heap.size≤b3:=(by rw [hlb];exact HC15.out.size);have HCu3:Aside0 (Below w10.heap.size w10 u3):=⟨by rw [hw];exact below_set3 (below_step HC15.out HLb3.out) g_ _ _ _⟩;have HUu3:=hX;clear hX hD hw hlb g_ m0 m1 m2 f0 f1 f2;have j0:=(blk_cell (blk_below HX10.out HCu3.out) 0).trans rfl;have j1:=(blk_cell (blk_below HX10.out HCu3.out) 1).trans rfl;have j2:=(blk_cell (blk_below HX10.out HCu3.out) 2).trans rfl)
   | ((with_reducible refine gate_dst (N:=3) rfl ?_);refine box_event ?hg (N:=3) ?hd (cs:=#[.slice none 0 0,.slice none 0 0,.int .i64 0]) (t:=29) ?hr ?_;(case hd=>rfl);(case hg=>rfl);(case hr=>first |(go_simp;done) |(go_simp;rfl));intro b3 hbb3 w3 hxb3 hlb3;have m0:=(blk_cell hxb3 0).trans rfl;have m1:=(blk_cell hxb3 1).trans rfl;have m2:=(blk_cell hxb3 2).trans rfl;have f0:=blk_frozen hxb3 0;have f1:=blk_frozen hxb3 1;have f2:=blk_frozen hxb3 2;have HXb3:=Aside0.mk hxb3;have HLb3:=Aside0.mk hlb3;have HBb3:=Aside0.mk hbb3;clear hxb3 hlb3 hbb3)
   | ((with_reducible refine gate_dst (N:=15) rfl ?_);refine goesL_ (some 15) rfl rfl Try.func27 (by kernel_rfl) rfl #[.agg #[.slice A0 b.length c0,.slice A1 p.length c1,.int .i64 a]] rfl (by (try simp only [List.map_toArray,List.map_cons,List.map_nil]);first |done |rfl) ?_;refine (recover_walk A0 c0 b A1 c1 p a (fun k=>ok k∧k<w.heap.size) w10 (HD.out.bound.below HB10.out) (by omega) (by omega)).mono ?_;rw [HE1.out];rintro e w15 ⟨v0,v1,rfl,hD,hb⟩;obtain ⟨B0,e0,B1,e1,rfl,rfl⟩:=hD.slices;refine ⟨_,rfl, ?_⟩;have HD15:=Aside0.mk (hD.bound.mono (ok':=fun k=>k<w15.heap.size) (fun k hk=>hk.2));have HC15:=Aside0.mk hb;clear hD hb j0 j1 j2)
   | fail)
  refine (hibernacleref16_SameDrive.calls 2000 B0 e0 t1 B1 e1 t2 t3 C0 q0 t1 C1 q1 t2 t3 true u5 (Kd.V_reads' (HDu3.out.below HCu5.out).1).2.2 (Kd.V_reads' (HDu3.out.below HCu5.out).1).2.1 (Kd.V_reads' (HDu3.out.below HCu5.out).2).2.2 (Kd.V_reads' (HDu3.out.below HCu5.out).2).2.1 (Kd.V_reads' HDu5.out.1).2.2 (Kd.V_reads' HDu5.out.1).2.1 (Kd.V_reads' HDu5.out.2).2.2 (Kd.V_reads' HDu5.out.2).2.1 HSD.out).mono ?_
  rintro e w29 ⟨rfl,hb29⟩
  have HX29:=Aside0.mk (blk_below HUu3.out (below_step HCu5.out hb29))
  have HD29:=Aside0.mk ((HDu3.out.below HCu5.out).below hb29)
  have HB29:=Aside0.mk (below_step (below_step (below_step HB10.out HCu3.out) HCu5.out) hb29)
  clear hb29 j0 j1 j2 m0 m1 m2
  by_cases h0:t4=0
  ·subst h0
   have HE2:=Aside0.mk (recover_again b p a t1 t2 t3 HE1.out)
   have j0:=(blk_cell HX29.out 0).trans rfl
   have j1:=(blk_cell HX29.out 1).trans rfl
   have j2:=(blk_cell HX29.out 2).trans rfl
   have f0:=blk_frozen HX29.out 2
   have m0:=True.intro
   go_wp2_with (first
    | ((with_reducible refine gate_store (t:=3) (p:=35) rfl ?_);refine store_event (t:=3) (p:=35) (v:=?vo_u9) (w1:=?wn_u9) ?hg ?ho ?hn ?hr ?_;(case ho=>rfl);(case hg=>rfl);(case hn=>rfl);(case hr=>first |(go_simp;done) |(go_simp;rfl));intro u9 hw;have hX:Aside0 (u9.heap[b3]?=some (.cells #[.slice B0 t1.length e0,.slice B1 t2.length e1,.int .i64 (-1)] 29 (0,0))):=⟨by rw [hw];exact blk_put HX29.out 2 _ rfl⟩;have hk_:∀ k,k<w15.heap.size→k≠b3:=(fun k hk=>by have h_:=HBb3.out;omega);have hD:Aside0 (Dr u9 (fun k=>k<w15.heap.size) (.slice B0 t1.length e0) (.slice B1 t2.length e1) t1 t2):=⟨by rw [hw];exact ⟨Kd.V_far HD29.out.1 (p:=⟨b3,2,none⟩) hk_ _,Kd.V_far HD29.out.2 (p:=⟨b3,2,none⟩) hk_ _⟩⟩;have HD9:=hD;have HB9:Aside0 (Below w.heap.size w u9):=⟨by rw [hw];exact HB29.out.setCell (p:=⟨b3,2,none⟩) (by have h1_:=HBb3.out;have h2_:=HB10.out.size;have h3_:=HC15.out.size;show w.heap.size≤b3;omega) _⟩;have HX9:=hX;clear hX hD hk_ hw j0 j1 j2 m0 f0;have j0:=(blk_cell HX9.out 0).trans rfl;have j1:=(blk_cell HX9.out 1).trans rfl;have j2:=(blk_cell HX9.out 2).trans rfl)
    | ((with_reducible refine gate_store (t:=29) (p:=7) rfl ?_);refine store_event (t:=29) (p:=7) (v:=?vo_u7) (w1:=?wn_u7) ?hg ?ho ?hn ?hr ?_;(case ho=>rfl);(case hg=>rfl);(case hn=>rfl);(case hr=>first |(go_simp;done) |(go_simp;rfl));intro u7 hw;have hX:Aside0 (u7.heap[b7]?=some (.cells #[.slice D0 t1.length r0,.slice D1 t2.length r1,.int .i64 (-1)] 29 (0,0))):=⟨by rw [hw];exact blk_put (blk_put (blk_put HXb7.out 0 _ rfl) 1 _ rfl) 2 _ rfl⟩;have hlb:=HBb7.out;have hD:=((HD38.out.below HLb7.out).set3 (g:=b7) (fun k hk=>by have h_:k<w38.heap.size:=hk;omega) (.slice D0 t1.length r0) (.slice D1 t2.length r1) (.int .i64 (-1)));rw [← hw] at hD;have HDu7:=Aside0.mk hD;have g_:u9.heap.size≤b7:=(by rw [hlb];exact HC38.out.size);have HCu7:Aside0 (Below u9.heap.size u9 u7):=⟨by rw [hw];exact below_set3 (below_step HC38.out HLb7.out) g_ _ _ _⟩;have HUu7:=hX;clear hX hD hw hlb g_ m0 m1 m2 f0 f1 f2)
    | ((with_reducible refine gate_dst (N:=7) rfl ?_);refine box_event ?hg (N:=7) ?hd (cs:=#[.slice none 0 0,.slice none 0 0,.int .i64 0]) (t:=29) ?hr ?_;(case hd=>rfl);(case hg=>rfl);(case hr=>first |(go_simp;done) |(go_simp;rfl));intro b7 hbb7 w7 hxb7 hlb7;have m0:=(blk_cell hxb7 0).trans rfl;have m1:=(blk_cell hxb7 1).trans rfl;have m2:=(blk_cell hxb7 2).trans rfl;have f0:=blk_frozen hxb7 0;have f1:=blk_frozen hxb7 1;have f2:=blk_frozen hxb7 2;have HXb7:=Aside0.mk hxb7;have HLb7:=Aside0.mk hlb7;have HBb7:=Aside0.mk hbb7;clear hxb7 hlb7 hbb7)
    | ((with_reducible refine gate_dst (N:=38) rfl ?_);refine goesL_ (some 38) rfl rfl Try.func27 (by kernel_rfl) rfl #[.agg #[.slice B0 t1.length e0,.slice B1 t2.length e1,.int .i64 (-1)]] rfl (by (try simp only [List.map_toArray,List.map_cons,List.map_nil]);first |done |rfl) ?_;refine (recover_walk B0 e0 t1 B1 e1 t2 (-1) (fun k=>k<w15.heap.size) u9 HD9.out (by omega) (by omega)).mono ?_;rw [HE2.out];rintro e w38 ⟨v0,v1,rfl,hD,hb⟩;obtain ⟨D0,r0,D1,r1,rfl,rfl⟩:=hD.slices;refine ⟨_,rfl, ?_⟩;have HD38:=Aside0.mk (hD.bound.mono (ok':=fun k=>k<w38.heap.size) (fun k hk=>hk.2));have HC38:=Aside0.mk hb;clear hD hb j0 j1 j2)
    | fail)
   rename_i KK hKK
   replace hKK:=Aside0.mk hKK
   have hS1:u7.drew.heap[b3]?=some (.cells #[.slice B0 t1.length e0,.slice B1 t2.length e1,.int .i64 (-1)] 29 (0,0)):=blk_below HX9.out HCu7.out.drew
   have hS2:u7.drew.heap[b7]?=some (.cells #[.slice D0 t1.length r0,.slice D1 t2.length r1,.int .i64 (-1)] 29 (0,0)):=HUu7.out
   have hBV:Below w.heap.size w u7.drew:=(below_step HB9.out HCu7.out).drew
   have hDY:=(HD9.out.below HCu7.out).below (Below.refl _ _).drew
   have hDZ:=HDu7.out.below (Below.refl _ _).drew
   refine start_ (n:=13) (S:=fun w'=>w'.heap[b3]?=some (.cells #[.slice B0 t1.length e0,.slice B1 t2.length e1,.int .i64 (-1)] 29 (0,0))∧w'.heap[b7]?=some (.cells #[.slice D0 t1.length r0,.slice D1 t2.length r1,.int .i64 (-1)] 29 (0,0))) (ds:=[]) #[false,false,false,false,false,false,false,false,false,false,false,false,false] (by kernel_rfl) rfl rfl ⟨hS1,hS2⟩ (fun hHeld=>?_);refine with_tabW hrcv4.tab hrcv4.bits (fun HT_ HW_=>?_)
   generalize u7.drew=V0 at hS1 hS2 hBV hDY hDZ hHeld ⊢
   refine pure_ (i:=0) (N:=(some 41)) (v:=?_) (a':=?_) #[true,false,false,false,false,false,false,false,false,false,false,false,false] rfl rfl (any_of HT_.out (by kernel_rfl)) (fun _ _ _ h=>h) (Or.inl ⟨by rfl, ?_⟩) ?_ ?_
   rotate_left
   ·intro w'
    go_simp
    with_reducible rfl
   rotate_left
   ·simp only [Act.put,List.setIfInBounds_toArray,List.set_cons_zero,List.set_cons_succ,i64_w,i32_w]
    rfl
   refine pure_ (i:=1) (N:=(some 42)) (v:=?_) (a':=?_) #[true,true,false,false,false,false,false,false,false,false,false,false,false] rfl rfl (any_of HT_.out (by kernel_rfl)) (fun _ _ _ h=>h) (Or.inl ⟨by rfl, ?_⟩) ?_ ?_
   rotate_left
   ·intro w'
    go_simp
    with_reducible rfl
   rotate_left
   ·simp only [Act.put,List.setIfInBounds_toArray,List.set_cons_zero,List.set_cons_succ,i64_w,i32_w]
    rfl
   refine pure_ (i:=2) (N:=(some 43)) (v:=?_) (a':=?_) #[true,true,true,false,false,false,false,false,false,false,false,false,false] rfl rfl (any_of HT_.out (by kernel_rfl)) (fun _ _ _ h=>h) (Or.inl ⟨by rfl, ?_⟩) ?_ ?_
   rotate_left
   ·intro w'
    go_simp
    with_reducible rfl
   rotate_left
   ·simp only [Act.put,List.setIfInBounds_toArray,List.set_cons_zero,List.set_cons_succ,i64_w,i32_w]
    rfl
   refine take_ (i:=3) (N:=(some 44)) (v:=?_) (a':=?_) #[true,true,true,true,false,false,false,false,false,false,false,false,false] rfl rfl (take_ofW HT_.out HW_.out (by kernel_rfl)) (fun _ _ _ h=>h) (Or.inl ⟨by rfl, ?_⟩) hHeld ?_ ?_
   rotate_left
   ·rintro w' s1;have t0:=(blk_cell s1.1 0).trans rfl;have t1_:=(blk_cell s1.1 1).trans rfl;have t2_:=(blk_cell s1.1 2).trans rfl
    go_simp
    with_reducible rfl
   rotate_left
   ·simp only [Act.put,List.setIfInBounds_toArray,List.set_cons_zero,List.set_cons_succ,i64_w,i32_w]
    rfl
   refine take_ (i:=5) (N:=(some 46)) (v:=?_) (a':=?_) #[true,true,true,true,false,true,false,false,false,false,false,false,false] rfl rfl (take_ofW HT_.out HW_.out (by kernel_rfl)) (fun _ _ _ h=>h) (Or.inl ⟨by rfl, ?_⟩) hHeld ?_ ?_
   rotate_left
   ·rintro w' s1;have t0:=(blk_cell s1.2 0).trans rfl;have t1_:=(blk_cell s1.2 1).trans rfl;have t2_:=(blk_cell s1.2 2).trans rfl
    go_simp
    with_reducible rfl
   rotate_left
   ·simp only [Act.put,List.setIfInBounds_toArray,List.set_cons_zero,List.set_cons_succ,i64_w,i32_w]
    rfl
   refine one_ (i:=4) (N:=(some 45)) #[true,true,true,true,true,true,false,false,false,false,false,false,false] rfl rfl (one_of HT_.out (by kernel_rfl)) (by decide) (fun K hK=>?_)
   refine goes_ Try.func25 (by kernel_rfl) rfl #[.agg #[.slice B0 t1.length e0,.slice B1 t2.length e1,.int .i64 (-1)]] (by rfl) rfl rfl (by (try simp only [List.map_toArray,List.map_cons,List.map_nil]);first |done |rfl) ?_
   refine (wal_Home.calls 2000 B0 e0 t1 B1 e1 t2 (-1) (homeL t1 t2) V0 (Kd.V_reads' hDY.1).2.2 (Kd.V_reads' hDY.1).2.1 (Kd.V_reads' hDY.2).2.2 (Kd.V_reads' hDY.2).2.1 HH1.out).mono ?_
   rintro e_ V2 ⟨v1,rfl,hr1,hd2⟩
   obtain ⟨H1,h1_,rfl⟩:=Kd.R_slice hr1
   refine ⟨_,rfl, ?_⟩
   refine hK.out _ _ ⟨(blk_below hS1 hd2),(blk_below hS2 hd2)⟩ (fun hHeld=>?_)
   clear hK K
   refine norm_ (a':=?_) ?_ ?_
   rotate_left
   ·show Act.put _ (some 45) _=_
    simp only [Act.put,List.setIfInBounds_toArray,List.set_cons_zero,List.set_cons_succ,i64_w,i32_w]
    rfl
   refine one_ (i:=6) (N:=(some 47)) #[true,true,true,true,true,true,true,false,false,false,false,false,false] rfl rfl (one_of HT_.out (by kernel_rfl)) (by decide) (fun K hK=>?_)
   refine goes_ Try.func25 (by kernel_rfl) rfl #[.agg #[.slice D0 t1.length r0,.slice D1 t2.length r1,.int .i64 (-1)]] (by rfl) rfl rfl (by (try simp only [List.map_toArray,List.map_cons,List.map_nil]);first |done |rfl) ?_
   have hDZ1:=hDZ.below hd2
   refine (wal_Home.calls 2000 D0 r0 t1 D1 r1 t2 (-1) (homeL t1 t2) V2 (Kd.V_reads' hDZ1.1).2.2 (Kd.V_reads' hDZ1.1).2.1 (Kd.V_reads' hDZ1.2).2.2 (Kd.V_reads' hDZ1.2).2.1 HH1.out).mono ?_
   rintro e_ V3 ⟨v2,rfl,hr2,hd3⟩
   obtain ⟨H2,h2_,rfl⟩:=Kd.R_slice hr2
   refine ⟨_,rfl, ?_⟩
   refine hK.out _ _ ⟨(blk_below (blk_below hS1 hd2) hd3),(blk_below (blk_below hS2 hd2) hd3)⟩ (fun hHeld=>?_)
   clear hK K
   refine norm_ (a':=?_) ?_ ?_
   rotate_left
   ·show Act.put _ (some 47) _=_
    simp only [Act.put,List.setIfInBounds_toArray,List.set_cons_zero,List.set_cons_succ,i64_w,i32_w]
    rfl
   refine one_ (i:=7) (N:=(some 48)) #[true,true,true,true,true,true,true,true,false,false,false,false,false] rfl rfl (one_of HT_.out (by kernel_rfl)) (by decide) (fun K hK=>?_)
   refine goes_ Try.func24 (by kernel_rfl) rfl #[.slice H1 (homeL t1 t2).length h1_,.slice H2 (homeL t1 t2).length h2_] (by rfl) rfl rfl (by (try simp only [List.map_toArray,List.map_cons,List.map_nil]);first |done |rfl) ?_
   have hy1:=Kd.R_reads' (Kd.R_below hr1 hd3)
   have hy2:=Kd.R_reads' hr2
   refine (hibernacleref16_SameBlocks.calls 2000 H1 h1_ (homeL t1 t2) H2 h2_ (homeL t1 t2) true V3 hy1.2.2 hy1.2.1 hy2.2.2 hy2.2.1 HSB.out).mono ?_
   rintro e_ V4 ⟨rfl,hdr4⟩
   have hd4:=hdr4.below
   refine ⟨_,rfl, ?_⟩
   refine hK.out _ _ ⟨(blk_below (blk_below (blk_below hS1 hd2) hd3) hd4),(blk_below (blk_below (blk_below hS2 hd2) hd3) hd4)⟩ (fun hHeld=>?_)
   clear hK K
   refine norm_ (a':=?_) ?_ ?_
   rotate_left
   ·show Act.put _ (some 48) _=_
    simp only [Act.put,List.setIfInBounds_toArray,List.set_cons_zero,List.set_cons_succ,i64_w,i32_w]
    rfl
   refine pure_ (i:=8) (N:=(some 49)) (v:=?_) (a':=?_) #[true,true,true,true,true,true,true,true,true,false,false,false,false] rfl rfl (any_of HT_.out (by kernel_rfl)) (fun _ _ _ h=>h) (Or.inl ⟨by rfl, ?_⟩) ?_ ?_
   rotate_left
   ·intro w'
    go_simp
    with_reducible rfl
   rotate_left
   ·simp only [Act.put,List.setIfInBounds_toArray,List.set_cons_zero,List.set_cons_succ,i64_w,i32_w]
    rfl
   refine pure_ (i:=9) (N:=(some 50)) (v:=?_) (a':=?_) #[true,true,true,true,true,true,true,true,true,true,false,false,false] rfl rfl (any_of HT_.out (by kernel_rfl)) (fun _ _ _ h=>h) (Or.inl ⟨by rfl, ?_⟩) ?_ ?_
   rotate_left
   ·intro w'
    go_simp
    with_reducible rfl
   rotate_left
   ·simp only [Act.put,List.setIfInBounds_toArray,List.set_cons_zero,List.set_cons_succ,i64_w,i32_w]
    rfl
   refine one_ (i:=10) (N:=(some 51)) #[true,true,true,true,true,true,true,true,true,true,true,false,false] rfl rfl (one_of HT_.out (by kernel_rfl)) (by decide) (fun K hK=>?_)
   refine goes_ Try.func21 (by kernel_rfl) rfl #[] (by rfl) rfl rfl (by (try simp only [List.map_toArray,List.map_cons,List.map_nil]);first |done |rfl) ?_
   refine (hibernaclelaw16_awake.calls true V4 rfl).mono ?_
   rintro e_ V5 ⟨rfl,hd5⟩
   refine ⟨_,rfl, ?_⟩
   refine hK.out _ _ ⟨(blk_below (blk_below (blk_below (blk_below hS1 hd2) hd3) hd4) hd5),(blk_below (blk_below (blk_below (blk_below hS2 hd2) hd3) hd4) hd5)⟩ (fun hHeld=>?_)
   clear hK K
   refine norm_ (a':=?_) ?_ ?_
   rotate_left
   ·show Act.put _ (some 51) _=_
    simp only [Act.put,List.setIfInBounds_toArray,List.set_cons_zero,List.set_cons_succ,i64_w,i32_w]
    rfl
   refine pure_ (i:=11) (N:=(some 52)) (v:=?_) (a':=?_) #[true,true,true,true,true,true,true,true,true,true,true,true,false] rfl rfl (any_of HT_.out (by kernel_rfl)) (fun _ _ _ h=>h) (Or.inl ⟨by rfl, ?_⟩) ?_ ?_
   rotate_left
   ·intro w'
    go_simp
    with_reducible rfl
   rotate_left
   ·simp only [Act.put,List.setIfInBounds_toArray,List.set_cons_zero,List.set_cons_succ,i64_w,i32_w]
    rfl
   refine pure_ (i:=12) (N:=(some 2)) (v:=?_) (a':=?_) #[true,true,true,true,true,true,true,true,true,true,true,true,true] rfl rfl (any_of HT_.out (by kernel_rfl)) (fun _ _ _ h=>h) (Or.inl ⟨by rfl, ?_⟩) ?_ ?_
   rotate_left
   ·intro w'
    go_simp
    with_reducible rfl
   rotate_left
   ·simp only [Act.put,List.setIfInBounds_toArray,List.set_cons_zero,List.set_cons_succ,i64_w,i32_w]
    rfl
   refine done_ (done_of HT_.out (by kernel_rfl)) ?_
   refine hKK.out _ _ ?_
   clear hKK KK
   go_wp2
   go_ret
   exact ⟨by simp,below_step (below_step (below_step (below_step hBV hd2) hd3) hd4) hd5⟩
  ·have hne:(t4 != 0)=true:=bne_iff_ne.mpr h0
   clear h0
   go_wp2_with (first
    | ((with_reducible refine gate_dst (N:=34) rfl ?_);refine goesL_ (some 34) rfl rfl Try.func21 (by kernel_rfl) rfl #[] rfl (by (try simp only [List.map_toArray,List.map_cons,List.map_nil]);first |done |rfl) ?_;refine (hibernaclelaw16_awake.calls true _ rfl).mono ?_;rintro e wz ⟨rfl,hbz⟩;refine ⟨_,rfl, ?_⟩;have HBZ:=Aside0.mk (below_step HB29.out hbz);clear hbz)
    | fail)
   go_ret
   exact ⟨rfl,HBZ.out⟩
end Go.Proofs.Ytjfmnkmgnbbfgaa.A
set_option linter.unusedVariables false
namespace Go.Proofs.Ytjfmnkmgnbbfgaa.A
open Go.RowKit Go.Proofs.YtjfmnkmgnbbfgaaW.PrintWords Go.Proofs.YtjfmnkmgnbbfgaaW.PrintLast Go.Proofs.YtjfmnkmgnbbfgaaW.PrintMore
theorem add_add' (a:Addr) (m j:Nat):(a.add m).add j=a.add (m + j):=by
 unfold Addr.add
 by_cases hj:j=0
 ·subst hj;simp
 ·by_cases hm:m=0
  ·subst hm;simp [hj]
  ·simp [hj,hm,Nat.add_assoc]
section
variable {H:Type} {enc:TypeId × Value→H} {P:Program} {w:World} {base:Nat} {spare:Nat→Bool} {held:Bool}
def Opens {α:Type} (enc:TypeId × Value→H) (P:Program) (w:World) (base:Nat) (spare:Nat→Bool) (held:Bool) (t:TypeId) (d:Kd α):Prop:=
 ∀ fuel cs x,DataW.trod enc P w base spare held fuel t cs=some x→∃ a:α,d.K w a cs
theorem cells27:Try.prog.cellsOf 27=2:=by kernel_rfl
theorem cells29:Try.prog.cellsOf 29=3:=by kernel_rfl
theorem cells9:Try.prog.cellsOf 9=1:=by kernel_rfl
theorem cells3:Try.prog.cellsOf 3=1:=by kernel_rfl
theorem cells22:Try.prog.cellsOf 22=1:=by kernel_rfl
theorem cells23:Try.prog.cellsOf 23=1:=by kernel_rfl
theorem opens_int {t:TypeId} {k:IntKind} (ht:P.underlying t=some (.int k)):Opens enc P w base spare held t (Kd.int k):=fun fuel cs x h=>by
 obtain ⟨n,rfl,_,_⟩:=DataW.trod_int ht h
 exact ⟨n,rfl⟩
theorem opens_string {t:TypeId} (ht:P.underlying t=some .string):Opens enc P w base spare held t Kd.string:=fun fuel cs x h=>by
 obtain ⟨s,rfl,_,_⟩:=DataW.trod_string ht h
 exact ⟨s,rfl⟩
theorem opens_slice {α:Type} {d:Kd α} {t e:TypeId} (ht:P.underlying t=some (.slice e)) (hc:P.cellsOf e=d.sz) (he:Opens enc P w base spare held e d):Opens enc P w base spare held t (Kd.slice e d):=fun fuel cs x h=>by
 rcases DataW.trod_slice ht h with ⟨rfl,_⟩ |⟨a,len,cap,elems,rest,n,_,rfl,rfl,hb,hl,hm,hlen,hel,_,_⟩
 ·exact ⟨[],none,0,rfl,Nat.le_refl _,rfl,by simp,fun h0=>absurd h0 (by simp)⟩
 ·have each:∀ i:Fin len,∃ (y:α) (c:List Value),d.K w y c∧w.cells? base (a.add (i.1 * d.sz)) d.sz=some c:=by
   intro i
   have h1:=hel i.1 i.2
   rw [hc,List.getElem?_eq_getElem (by omega),Option.bind_eq_some_iff] at h1
   obtain ⟨c,h2,h3⟩:=h1
   obtain ⟨y,hy⟩:=he _ _ _ h3
   exact ⟨y,c,hy,h2⟩
  refine ⟨List.ofFn fun i:Fin len=>(each i).choose,some a,cap,by simp,by simpa using hl, ?_⟩
  refine ⟨rfl,by simp only [List.length_ofFn];simp only [maxLen] at hm;omega,fun _=>⟨a,rfl, ?_⟩⟩
  intro j p hp
  have hj:j<len:=by
   have:=(List.getElem?_eq_some_iff.1 hp).1
   simpa using this
  obtain ⟨c,h1,h2⟩:=(each ⟨j,hj⟩).choose_spec
  have hpe:p=(each ⟨j,hj⟩).choose:=by
   rw [List.getElem?_ofFn] at hp
   simp [hj] at hp
   exact hp.symm
  refine ⟨c,d.K_len h1,by rw [hpe];exact h1, ?_⟩
  intro i u hu
  have hi:i<d.sz:=by rw [← d.K_len h1];exact (List.getElem?_eq_some_iff.1 hu).1
  obtain ⟨_,_,h3⟩:=World.cells?_some h2
  have:=h3 i hi
  rw [add_add'] at this
  rw [this,hu]
set_option maxRecDepth 100000 in
theorem opens_27:Opens enc Try.prog w base spare held 27 k27:=fun fuel cs x h=>by
 obtain ⟨xs,n,rfl,rfl,hl,hx,hf⟩:=DataW.trod_struct Try.underlying27 h
 have f0:=hf 0 _ rfl
 have f1:=hf 1 _ rfl
 have hx2:xs.length=2:=hx
 rw [cells27] at hl
 match cs,hl with
 | [c0,c1],_=>
  rw [List.getElem?_eq_getElem (by omega)] at f0 f1
  obtain ⟨a0,e0⟩:=opens_int Try.underlying3 _ _ _ f0
  obtain ⟨a1,e1⟩:=opens_string Try.underlying9 _ _ _ f1
  have e0':List.take (Try.prog.cellsOf 3) (List.drop 0 [c0,c1])=[.int .i64 a0]:=e0
  rw [cells3] at e0'
  have e1':List.take (Try.prog.cellsOf 9) (List.drop 1 [c0,c1])=[.string a1]:=e1
  rw [cells9] at e1'
  cases e0'
  cases e1'
  exact ⟨⟨a0,a1⟩,k27_mk w ⟨a0,a1⟩⟩
theorem opens_22:Opens enc Try.prog w base spare held 22 (Kd.slice 9 Kd.string):=opens_slice Try.underlying22 cells9 (opens_string Try.underlying9)
theorem opens_23:Opens enc Try.prog w base spare held 23 (Kd.slice 27 k27):=opens_slice Try.underlying23 cells27 opens_27
set_option maxRecDepth 100000 in
theorem opens_29:Opens enc Try.prog w base spare held 29 k29:=fun fuel cs x h=>by
 obtain ⟨xs,n,rfl,rfl,hl,hx,hf⟩:=DataW.trod_struct Try.underlying29 h
 have f0:=hf 0 _ rfl
 have f1:=hf 1 _ rfl
 have f2:=hf 2 _ rfl
 have hx2:xs.length=3:=hx
 rw [cells29] at hl
 match cs,hl with
 | [c0,c1,c2],_=>
  rw [List.getElem?_eq_getElem (by omega)] at f0 f1 f2
  obtain ⟨a0,A0,q0,e0,l0,g0⟩:=opens_22 _ _ _ f0
  obtain ⟨a1,A1,q1,e1,l1,g1⟩:=opens_23 _ _ _ f1
  obtain ⟨a2,e2⟩:=opens_int Try.underlying3 _ _ _ f2
  have e0':[c0]=[.slice A0 a0.length q0]:=by have:=e0;simpa [cells22] using this
  have e1':[c1]=[.slice A1 a1.length q1]:=by have:=e1;simpa [cells23] using this
  have e2':List.take (Try.prog.cellsOf 3) (List.drop 2 [c0,c1,c2])=[.int .i64 a2]:=e2
  rw [cells3] at e2'
  cases e0'
  cases e1'
  cases e2'
  exact ⟨⟨a0,a1,a2⟩,k29_mk w ⟨a0,a1,a2⟩ l0 g0 l1 g1⟩
end
theorem array3 {α:Type} {xs:Array α} (h:xs.size=3):∃ a b c,xs=#[a,b,c]:=by
 match xs,h with
 | ⟨[a,b,c]⟩,_=>exact ⟨a,b,c,rfl⟩
end Go.Proofs.Ytjfmnkmgnbbfgaa.A
set_option linter.unusedVariables false
namespace Go.Proofs.Ytjfmnkmgnbbfgaa.A
open Go.RowKit Go.Proofs.YtjfmnkmgnbbfgaaW.PrintWords Go.Proofs.YtjfmnkmgnbbfgaaW.PrintLast Go.Proofs.YtjfmnkmgnbbfgaaW.PrintMore
theorem V_str {w:World} {base:Nat} {A:Option Addr} {c:Nat} {xs:List ByteArray} (hl:xs.length≤c) (h:Kd.C Kd.string w A xs.length xs):Kd.V Kd.string 9 w base (fun k_=>k_<w.heap.size) (.slice A xs.length c) xs:=Kd.V_mk hl (Kd.C_F Kd.heap_string h)
theorem V_27 {w:World} {base:Nat} {A:Option Addr} {c:Nat} {xs:List S27} (hl:xs.length≤c) (h:Kd.C k27 w A xs.length xs):Kd.V k27 27 w base (fun k_=>k_<w.heap.size) (.slice A xs.length c) xs:=Kd.V_mk hl (Kd.C_F k27_heap h)
end Go.Proofs.Ytjfmnkmgnbbfgaa.A
