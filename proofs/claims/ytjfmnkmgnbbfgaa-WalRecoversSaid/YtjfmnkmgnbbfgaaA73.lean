-- Made by drv.py (ours) by way of the kit's print; Lean checks it.
import Derived.Test.YtjfmnkmgnbbfgaaA0
import Derived.Test.YtjfmnkmgnbbfgaaA104
import Derived.Test.YtjfmnkmgnbbfgaaA44
import Derived.Test.YtjfmnkmgnbbfgaaR0
import Derived.Test.YtjfmnkmgnbbfgaaG0
import Derived.Test.YtjfmnkmgnbbfgaaA103
namespace Go.Proofs.Ytjfmnkmgnbbfgaa.A
open Go.RowKit Go.Proofs.YtjfmnkmgnbbfgaaW.PrintWords Go.Proofs.YtjfmnkmgnbbfgaaW.PrintLast Go.Proofs.YtjfmnkmgnbbfgaaW.PrintMore
attribute [local go_sem] max2_int min2_int max_two min_two max_three min_three max_four min_four   -- for this text's walks alone
set_option linter.unusedVariables false
set_option linter.unusedSimpArgs false
mutual
def hibernacleref16_Told.j0:Nat→List (S27)→ByteArray→Int→Bool→List ByteArray→List (S27)→Int→Option ((List (S27)))
 | 0,_,_,_,_,_,_,_=>none
 | k + 1,x3,x4,x6,x35,x266000,x266001,x266002=>if x35=true then (some x3) else (hibernacleref16_Told.l0 k x3 x4 x6 (([]:List (S27))) 0 x266000 x266001 x266002)
def hibernacleref16_Told.l0:Nat→List (S27)→ByteArray→Int→List (S27)→Int→List ByteArray→List (S27)→Int→Option ((List (S27)))
 | 0,_,_,_,_,_,_,_,_=>none
 | k + 1,x3,x4,x6,x7,x8,x266000,x266001,x266002=>if x8<x6 then ((hibernacleref15_Get.f k x266000 x266001 x266002 (wrap64 (x8 + 1))).bind fun bt276=>(if 0≤(wrap64 (6 + (wrap64 (2 * x8)))) then (if (wrap64 (6 + (wrap64 (2 * x8))))≤(wrap64 (8 + (wrap64 (2 * x8)))) then (if (wrap64 (8 + (wrap64 (2 * x8))))≤(x4.size:Int) then ((hibernacleref01_Get.f k (x4.extract ((wrap64 (6 + (wrap64 (2 * x8)))):Int).toNat ((wrap64 (8 + (wrap64 (2 * x8)))):Int).toNat)).bind fun t278=>(if x7.length<5864062014805 then (hibernacleref16_Told.l0 k x3 x4 x6 (x7 ++ [(⟨wrap64 (t278),bt276.1⟩:S27)]) (wrap64 (x8 + 1)) x266000 x266001 x266002) else (none))) else (none)) else (none)) else (none))) else ((hibernacleref16_May.f k x7 (wrap64 ((x266000.length:Int) - 33))).bind fun t282=>(if t282=0 then ((hibernacleref16_Head.f x7).bind fun t283=>(if t283.toList=x4.toList then (some x7) else (some x3))) else (some x3)))
end
def hibernacleref16_Told.f (k:Nat) (l0_0:List ByteArray) (l0_1:List (S27)) (a0_2:Int):Option ((List (S27))):=(some (([]:List (S27)):List (S27))).bind fun y266=>((hibernacleref16_bad.f k l0_0 l0_1 a0_2).bind fun t269=>(if t269=0 then ((hibernacleref15_Get.f k l0_0 l0_1 a0_2 0).bind fun bt270=>(if 4≤6 then (if 6≤(bt270.1.size:Int) then ((hibernacleref01_Get.f k (bt270.1.extract 4 6)).bind fun t272=>(if 0≤4 then (if 4≤(bt270.1.size:Int) then (if (bt270.1.extract 0 4).toList=([104,105,98,106]:List UInt8) then (if (wrap64 (t272))<1 then (hibernacleref16_Told.j0 k y266 bt270.1 (wrap64 (t272)) true l0_0 l0_1 a0_2) else (hibernacleref16_Told.j0 k y266 bt270.1 (wrap64 (t272)) (decide ((wrap64 (t272)) > 32)) l0_0 l0_1 a0_2)) else (hibernacleref16_Told.j0 k y266 bt270.1 (wrap64 (t272)) true l0_0 l0_1 a0_2)) else (none)) else (none))) else (none)) else (none))) else (some y266)))
theorem hibernacleref16_Told.mono_l:∀ k,(∀ y0 y1 y2 y3 y4 y5 y6,LeO (hibernacleref16_Told.j0 k y0 y1 y2 y3 y4 y5 y6) (hibernacleref16_Told.j0 (k + 1) y0 y1 y2 y3 y4 y5 y6))∧(∀ y0 y1 y2 y3 y4 y5 y6 y7,LeO (hibernacleref16_Told.l0 k y0 y1 y2 y3 y4 y5 y6 y7) (hibernacleref16_Told.l0 (k + 1) y0 y1 y2 y3 y4 y5 y6 y7))
 | 0=>⟨fun _ _ _ _ _ _ _ r h=>by simp [hibernacleref16_Told.j0] at h,fun _ _ _ _ _ _ _ _ r h=>by simp [hibernacleref16_Told.l0] at h⟩
 | k + 1=>by
  obtain ⟨ih0,ih1⟩:=hibernacleref16_Told.mono_l k
  refine ⟨?_, ?_⟩
  ·intro y0 y1 y2 y3 y4 y5 y6
   unfold hibernacleref16_Told.j0
   repeat' first
   | (with_reducible exact ih0 _ _ _ _ _ _ _)
   | (with_reducible exact ih1 _ _ _ _ _ _ _ _)
   | (with_reducible exact hibernacleref01_Get.mono _ _)
   | (with_reducible exact hibernacleref15_Get.mono _ _ _ _ _)
   | (with_reducible exact hibernacleref16_May.mono _ _ _)
   | (with_reducible exact hibernacleref16_bad.mono _ _ _ _)
   | (with_reducible exact LeO.refl _)
   | (with_reducible exact LeO.none _)
   | (with_reducible refine LeO.ite ?_ ?_)
   | (with_reducible refine LeO.bind ?_ (fun _=>?_))
   | exact ih0 _ _ _ _ _ _ _
   | exact ih1 _ _ _ _ _ _ _ _
   | exact hibernacleref01_Get.mono _ _
   | exact hibernacleref15_Get.mono _ _ _ _ _
   | exact hibernacleref16_May.mono _ _ _
   | exact hibernacleref16_bad.mono _ _ _ _
   | exact LeO.none _
   | refine LeO.ite ?_ ?_
   | refine LeO.bind ?_ (fun _=>?_)
  ·intro y0 y1 y2 y3 y4 y5 y6 y7
   unfold hibernacleref16_Told.l0
   repeat' first
   | (with_reducible exact ih0 _ _ _ _ _ _ _)
   | (with_reducible exact ih1 _ _ _ _ _ _ _ _)
   | (with_reducible exact hibernacleref01_Get.mono _ _)
   | (with_reducible exact hibernacleref15_Get.mono _ _ _ _ _)
   | (with_reducible exact hibernacleref16_May.mono _ _ _)
   | (with_reducible exact hibernacleref16_bad.mono _ _ _ _)
   | (with_reducible exact LeO.refl _)
   | (with_reducible exact LeO.none _)
   | (with_reducible refine LeO.ite ?_ ?_)
   | (with_reducible refine LeO.bind ?_ (fun _=>?_))
   | exact ih0 _ _ _ _ _ _ _
   | exact ih1 _ _ _ _ _ _ _ _
   | exact hibernacleref01_Get.mono _ _
   | exact hibernacleref15_Get.mono _ _ _ _ _
   | exact hibernacleref16_May.mono _ _ _
   | exact hibernacleref16_bad.mono _ _ _ _
   | exact LeO.none _
   | refine LeO.ite ?_ ?_
   | refine LeO.bind ?_ (fun _=>?_)
theorem hibernacleref16_Told.mono:∀ a0 a1 a2 k,LeO (hibernacleref16_Told.f k a0 a1 a2) (hibernacleref16_Told.f (k + 1) a0 a1 a2):=by
 intro a0 a1 a2 k
 obtain ⟨ih0,ih1⟩:=hibernacleref16_Told.mono_l k
 unfold hibernacleref16_Told.f
 repeat' first
   | (with_reducible exact ih0 _ _ _ _ _ _ _)
   | (with_reducible exact ih1 _ _ _ _ _ _ _ _)
   | (with_reducible exact hibernacleref01_Get.mono _ _)
   | (with_reducible exact hibernacleref15_Get.mono _ _ _ _ _)
   | (with_reducible exact hibernacleref16_May.mono _ _ _)
   | (with_reducible exact hibernacleref16_bad.mono _ _ _ _)
   | (with_reducible exact LeO.refl _)
   | (with_reducible exact LeO.none _)
   | (with_reducible refine LeO.ite ?_ ?_)
   | (with_reducible refine LeO.bind ?_ (fun _=>?_))
   | exact ih0 _ _ _ _ _ _ _
   | exact ih1 _ _ _ _ _ _ _ _
   | exact hibernacleref01_Get.mono _ _
   | exact hibernacleref15_Get.mono _ _ _ _ _
   | exact hibernacleref16_May.mono _ _ _
   | exact hibernacleref16_bad.mono _ _ _ _
   | exact LeO.none _
   | refine LeO.ite ?_ ?_
   | refine LeO.bind ?_ (fun _=>?_)
set_option maxHeartbeats 8000000 in
set_option maxRecDepth 100000 in
theorem hibernacleref16_Told.calls (k:Nat) (A0_0:Option Addr) (c0_0:Nat) (l0_0:List ByteArray) (A0_1:Option Addr) (c0_1:Nat) (l0_1:List (S27)) (a0_2:Int) (r:List (S27)) (w:World) (hr0_0:Kd.C Kd.string w A0_0 l0_0.length l0_0) (hc0_0:l0_0.length≤c0_0) (hr0_1:Kd.C k27 w A0_1 l0_1.length l0_1) (hc0_1:l0_1.length≤c0_1) (h:hibernacleref16_Told.f k l0_0 l0_1 a0_2=some r) :
  Calls Try.prog 73 #[.agg #[.slice A0_0 l0_0.length c0_0,.slice A0_1 l0_1.length c0_1,.int .i64 a0_2]] w fun e w'=>∃ v0_:Value,e=.returned (v0_)∧Kd.R k27 27 w' w.heap.size (fun _=>True) v0_ r∧Below w.heap.size w w':=by
 have hu29:=Try.underlying29
 have hu27:=Try.underlying27
 have HR0_0:=Aside0.mk hr0_0
 have HC0_0:=Aside0.mk hc0_0
 clear hr0_0 hc0_0
 have HR0_1:=Aside0.mk hr0_1
 have HC0_1:=Aside0.mk hc0_1
 clear hr0_1 hc0_1
 have HB:=Aside0.mk (Below.refl w.heap.size w)
 have H:((some (([]:List (S27)):List (S27))).bind fun y266=>((hibernacleref16_bad.f k l0_0 l0_1 a0_2).bind fun t269=>(if t269=0 then ((hibernacleref15_Get.f k l0_0 l0_1 a0_2 0).bind fun bt270=>(if 4≤6 then (if 6≤(bt270.1.size:Int) then ((hibernacleref01_Get.f k (bt270.1.extract 4 6)).bind fun t272=>(if 0≤4 then (if 4≤(bt270.1.size:Int) then (if (bt270.1.extract 0 4).toList=([104,105,98,106]:List UInt8) then (if (wrap64 (t272))<1 then (hibernacleref16_Told.j0 k y266 bt270.1 (wrap64 (t272)) true l0_0 l0_1 a0_2) else (hibernacleref16_Told.j0 k y266 bt270.1 (wrap64 (t272)) (decide ((wrap64 (t272)) > 32)) l0_0 l0_1 a0_2)) else (hibernacleref16_Told.j0 k y266 bt270.1 (wrap64 (t272)) true l0_0 l0_1 a0_2)) else (none)) else (none))) else (none)) else (none))) else (some y266))))=some r:=h
 clear h
 obtain ⟨y266,hy266⟩:∃ y_:List (S27),y_=(([]:List (S27))):=⟨_,rfl⟩
 replace H:((hibernacleref16_bad.f k l0_0 l0_1 a0_2).bind fun t269=>(if t269=0 then ((hibernacleref15_Get.f k l0_0 l0_1 a0_2 0).bind fun bt270=>(if 4≤6 then (if 6≤(bt270.1.size:Int) then ((hibernacleref01_Get.f k (bt270.1.extract 4 6)).bind fun t272=>(if 0≤4 then (if 4≤(bt270.1.size:Int) then (if (bt270.1.extract 0 4).toList=([104,105,98,106]:List UInt8) then (if (wrap64 (t272))<1 then (hibernacleref16_Told.j0 k y266 bt270.1 (wrap64 (t272)) true l0_0 l0_1 a0_2) else (hibernacleref16_Told.j0 k y266 bt270.1 (wrap64 (t272)) (decide ((wrap64 (t272)) > 32)) l0_0 l0_1 a0_2)) else (hibernacleref16_Told.j0 k y266 bt270.1 (wrap64 (t272)) true l0_0 l0_1 a0_2)) else (none)) else (none))) else (none)) else (none))) else (some y266)))=some r:=by first |(rw [hy266];with_reducible exact H) |(have H2_:=(Option.bind_some _ _).symm.trans H;rw [hy266];with_reducible exact H2_) |(have H2_:=(Option.bind_some _ _).symm.trans H;with_reducible exact H2_) |with_reducible exact H |(rw [hy266];exact H) |exact H
 have Ny266:=Aside0.mk hy266
 clear hy266
 replace H:=Option.bind_eq_some_iff.mp H
 obtain ⟨t269,A20,H⟩:=H
 replace H:(if t269=0 then ((hibernacleref15_Get.f k l0_0 l0_1 a0_2 0).bind fun bt270=>(if 4≤6 then (if 6≤(bt270.1.size:Int) then ((hibernacleref01_Get.f k (bt270.1.extract 4 6)).bind fun t272=>(if 0≤4 then (if 4≤(bt270.1.size:Int) then (if (bt270.1.extract 0 4).toList=([104,105,98,106]:List UInt8) then (if (wrap64 (t272))<1 then (hibernacleref16_Told.j0 k y266 bt270.1 (wrap64 (t272)) true l0_0 l0_1 a0_2) else (hibernacleref16_Told.j0 k y266 bt270.1 (wrap64 (t272)) (decide ((wrap64 (t272)) > 32)) l0_0 l0_1 a0_2)) else (hibernacleref16_Told.j0 k y266 bt270.1 (wrap64 (t272)) true l0_0 l0_1 a0_2)) else (none)) else (none))) else (none)) else (none))) else (some y266))=some r:=H
 have A2:=Aside0.mk A20
 clear A20
 by_cases c3:t269=0
 ·rw [if_pos c3] at H
  have c3b0:(t269 == 0)=true:=beq_iff_eq.mpr c3
  have c3b1:(t269 != 0)=false:=bne_eq_false_iff_eq.mpr c3
  clear c3
  replace H:=Option.bind_eq_some_iff.mp H
  obtain ⟨⟨t270,t271⟩,A40,H⟩:=H
  replace H:(if 4≤6 then (if 6≤(t270.size:Int) then ((hibernacleref01_Get.f k (t270.extract 4 6)).bind fun t272=>(if 0≤4 then (if 4≤(t270.size:Int) then (if (t270.extract 0 4).toList=([104,105,98,106]:List UInt8) then (if (wrap64 (t272))<1 then (hibernacleref16_Told.j0 k y266 t270 (wrap64 (t272)) true l0_0 l0_1 a0_2) else (hibernacleref16_Told.j0 k y266 t270 (wrap64 (t272)) (decide ((wrap64 (t272)) > 32)) l0_0 l0_1 a0_2)) else (hibernacleref16_Told.j0 k y266 t270 (wrap64 (t272)) true l0_0 l0_1 a0_2)) else (none)) else (none))) else (none)) else (none))=some r:=H
  have A4:=Aside0.mk A40
  clear A40
  by_cases c5:4≤6
  ·rw [if_pos c5] at H
   have c5b0:=eq_true c5
   have c5b1:decide (4≤6)=true:=decide_eq_true c5
   clear c5
   by_cases c6:6≤(t270.size:Int)
   ·rw [if_pos c6] at H
    have c6b0:=eq_true c6
    have c6b1:decide (6≤(t270.size:Int))=true:=decide_eq_true c6
    clear c6
    replace H:=Option.bind_eq_some_iff.mp H
    obtain ⟨t272,A70,H⟩:=H
    replace H:(if 0≤4 then (if 4≤(t270.size:Int) then (if (t270.extract 0 4).toList=([104,105,98,106]:List UInt8) then (if (wrap64 (t272))<1 then (hibernacleref16_Told.j0 k y266 t270 (wrap64 (t272)) true l0_0 l0_1 a0_2) else (hibernacleref16_Told.j0 k y266 t270 (wrap64 (t272)) (decide ((wrap64 (t272)) > 32)) l0_0 l0_1 a0_2)) else (hibernacleref16_Told.j0 k y266 t270 (wrap64 (t272)) true l0_0 l0_1 a0_2)) else (none)) else (none))=some r:=H
    have A7:=Aside0.mk A70
    clear A70
    have HC8:=Aside0.mk H
    clear H
    go_enter Try.func73,Try.ntmps73
    go_upto_region 6 with (first |((with_reducible refine gate_dst (N:=1) rfl ?_);refine box_event ?hg (N:=1) ?hd (cs:=#[.slice A0_0 l0_0.length c0_0,.slice A0_1 l0_1.length c0_1,.int .i64 a0_2]) (t:=29) ?hr ?_;(case hd=>rfl);(case hg=>rfl);(case hr=>first |(go_simp;done) |(go_simp;rfl));intro gb265 hg w9 hbox hb;have n0_:=Aside0.mk (below_step (by repeat (first |(with_reducible first |exact HB.out |apply below_alloc |apply pw_below_drewN |apply below_drew1) |exact HB.out)) hb);have n1_:=Aside0.mk (hbox);have n2_:=Aside0.mk ((by rw [hg];exact (below_size (by repeat (first |(with_reducible first |exact HB.out |apply below_alloc |apply pw_below_drewN |apply below_drew1) |exact HB.out))):w.heap.size≤gb265));have n3_:=Aside0.mk ((by rw [hg];exact (below_size (by repeat (first |(with_reducible first |exact HB.out |apply below_alloc |apply pw_below_drewN |apply below_drew1) |exact HB.out))):w.heap.size≤gb265));clear HB;have HB:=n0_;have BK265:=n1_;have GW265:=n2_;have GE265:=n3_;clear n0_ n1_ n2_ n3_;clear hb hbox hg) |((with_reducible refine gate_dst (N:=11) rfl ?_);refine Kd.R_lit k27 _ 27 ?hg (N:=11) ?hd (xs:=([]:List (S27))) (inner:=[]) (ok:=fun _=>True) (okp:=fun _=>True) ?hr ?hp (fun _ hk=>hk) trivial (Below.refl _ _) (Nat.le_refl _) (by simp) ?_;(case hd=>rfl);(case hg=>rfl);(case hr=>first |(go_simp;done) |(go_simp;rfl));(case hp=>exact (Reps.none _ _));intro v267 w10 ho11 hb hg_ hnew_;clear hg_ hnew_;(first |rw [← Ny266.out] at ho11 |(simp only [Int.reduceToNat] at ho11;rw [← Ny266.out] at ho11));have n0_:=Aside0.mk (Kd.R_lower ho11 (below_size (by repeat (first |(with_reducible first |exact HB.out |apply below_alloc |apply pw_below_drewN |apply below_drew1 |refine below_set ?_ GE265.out) |exact HB.out))));have n1_:=Aside0.mk (blk_below (g:=gb265) (o:=.cells #[.slice A0_0 l0_0.length c0_0,.slice A0_1 l0_1.length c0_1,.int .i64 a0_2] 29 (0,0)) (by (with_reducible repeat (first |refine blk_drewN ?_ _ |refine blk_drew ?_ |refine blk_alloc ?_ _));exact BK265.out) hb);have n2_:=Aside0.mk (below_step (by repeat (first |(with_reducible first |exact HB.out |apply below_alloc |apply pw_below_drewN |apply below_drew1 |refine below_set ?_ GE265.out) |exact HB.out)) hb);clear BK265;clear HB;have HO268:=n0_;have BK265:=n1_;have HB:=n2_;clear n0_ n1_ n2_;clear hb ho11;have hcz12_0:w10.cell? ⟨gb265,0,none⟩=some (.slice A0_0 l0_0.length c0_0):=(blk_cell BK265.out 0).trans rfl;have hcz12_1:w10.cell? ⟨gb265,1,none⟩=some (.slice A0_1 l0_1.length c0_1):=(blk_cell BK265.out 1).trans rfl;have hcz12_2:w10.cell? ⟨gb265,2,none⟩=some (.int .i64 a0_2):=(blk_cell BK265.out 2).trans rfl;have hfz12_0:=blk_frozen BK265.out 0;have hfz12_1:=blk_frozen BK265.out 1;have hfz12_2:=blk_frozen BK265.out 2) |((with_reducible refine gate_callee (f:=72) rfl ?_);refine goesL_ (some 13) rfl rfl Try.func72 (by kernel_rfl) rfl #[.agg #[.slice A0_0 l0_0.length c0_0,.slice A0_1 l0_1.length c0_1,.int .i64 a0_2]] rfl (by (try simp only [List.map_toArray,List.map_cons,List.map_nil]);first |done |rfl |(simp only [List.length_drop,List.length_take];rfl)) ?_;(with_reducible refine (hibernacleref16_bad.calls k _ _ l0_0 _ _ l0_1 a0_2 t269 _ ?side1 ?side2 ?side3 ?side4 A2.out).mono ?_);(case side1=>repeat (first |exact (Kd.C_below HR0_0.out HB.out) |(with_reducible refine Kd.C_alloc ?_ _) |(with_reducible refine Kd.C_drewN ?_ _) |(with_reducible refine Kd.C_drew ?_)));(case side2=>exact HC0_0.out);(case side3=>repeat (first |exact (Kd.C_below HR0_1.out HB.out) |(with_reducible refine Kd.C_alloc ?_ _) |(with_reducible refine Kd.C_drewN ?_ _) |(with_reducible refine Kd.C_drew ?_)));(case side4=>exact HC0_1.out);rintro e w13 ⟨rfl,hb⟩;refine ⟨_,rfl, ?_⟩;have n0_:=Aside0.mk (Kd.R_below (by (with_reducible repeat (first |apply Kd.R_alloc |apply Kd.R_drewN |apply Kd.R_drew));exact HO268.out) hb);have n1_:=Aside0.mk (blk_below (g:=gb265) (o:=.cells #[.slice A0_0 l0_0.length c0_0,.slice A0_1 l0_1.length c0_1,.int .i64 a0_2] 29 (0,0)) (by (with_reducible repeat (first |refine blk_drewN ?_ _ |refine blk_drew ?_ |refine blk_alloc ?_ _));exact BK265.out) hb);have n2_:=Aside0.mk (below_step (by repeat (first |(with_reducible first |exact HB.out |apply below_alloc |apply pw_below_drewN |apply below_drew1 |refine below_set ?_ GE265.out) |exact HB.out)) hb);clear HO268;clear BK265;clear HB;have HO268:=n0_;have BK265:=n1_;have HB:=n2_;clear n0_ n1_ n2_;(try clear hb);(try clear hb2);(try clear hk);(try clear hi);have hcz14_0:w13.cell? ⟨gb265,0,none⟩=some (.slice A0_0 l0_0.length c0_0):=(blk_cell BK265.out 0).trans rfl;have hcz14_1:w13.cell? ⟨gb265,1,none⟩=some (.slice A0_1 l0_1.length c0_1):=(blk_cell BK265.out 1).trans rfl;have hcz14_2:w13.cell? ⟨gb265,2,none⟩=some (.int .i64 a0_2):=(blk_cell BK265.out 2).trans rfl;have hfz14_0:=blk_frozen BK265.out 0;have hfz14_1:=blk_frozen BK265.out 1;have hfz14_2:=blk_frozen BK265.out 2) |((with_reducible refine gate_callee (f:=44) rfl ?_);refine goesL_ (some 18) rfl rfl Try.func44 (by kernel_rfl) rfl #[.agg #[.slice A0_0 l0_0.length c0_0,.slice A0_1 l0_1.length c0_1,.int .i64 a0_2],.int .i64 0] rfl (by (try simp only [List.map_toArray,List.map_cons,List.map_nil]);first |done |rfl |(simp only [List.length_drop,List.length_take];rfl)) ?_;(with_reducible refine (hibernacleref15_Get.calls k _ _ l0_0 _ _ l0_1 a0_2 0 t270 t271 _ ?side1 ?side2 ?side3 ?side4 A4.out).mono ?_);(case side1=>repeat (first |exact (Kd.C_below HR0_0.out HB.out) |(with_reducible refine Kd.C_alloc ?_ _) |(with_reducible refine Kd.C_drewN ?_ _) |(with_reducible refine Kd.C_drew ?_)));(case side2=>exact HC0_0.out);(case side3=>repeat (first |exact (Kd.C_below HR0_1.out HB.out) |(with_reducible refine Kd.C_alloc ?_ _) |(with_reducible refine Kd.C_drewN ?_ _) |(with_reducible refine Kd.C_drew ?_)));(case side4=>exact HC0_1.out);rintro e w15 ⟨rfl,hb⟩;refine ⟨_,rfl, ?_⟩;have n0_:=Aside0.mk (Kd.R_below (by (with_reducible repeat (first |apply Kd.R_alloc |apply Kd.R_drewN |apply Kd.R_drew));exact HO268.out) hb);have n1_:=Aside0.mk (blk_below (g:=gb265) (o:=.cells #[.slice A0_0 l0_0.length c0_0,.slice A0_1 l0_1.length c0_1,.int .i64 a0_2] 29 (0,0)) (by (with_reducible repeat (first |refine blk_drewN ?_ _ |refine blk_drew ?_ |refine blk_alloc ?_ _));exact BK265.out) hb);have n2_:=Aside0.mk (below_step (by repeat (first |(with_reducible first |exact HB.out |apply below_alloc |apply pw_below_drewN |apply below_drew1 |refine below_set ?_ GE265.out) |exact HB.out)) hb);clear HO268;clear BK265;clear HB;have HO268:=n0_;have BK265:=n1_;have HB:=n2_;clear n0_ n1_ n2_;(try clear hb);(try clear hb2);(try clear hk);(try clear hi)) |((with_reducible refine gate_callee (f:=104) rfl ?_);refine goesL_ (some 23) rfl rfl Try.func104 (by kernel_rfl) rfl #[.string (t270.extract 4 6)] rfl (by (try simp only [List.map_toArray,List.map_cons,List.map_nil]);first |done |rfl |(simp only [List.length_drop,List.length_take];rfl)) ?_;(with_reducible refine (hibernacleref01_Get.calls k (t270.extract 4 6) t272 _ A7.out).mono ?_);rintro e w' ⟨rfl,⟨nd,rfl⟩⟩;refine ⟨_,rfl, ?_⟩))
    (try simp only [Act.put,List.setIfInBounds_toArray,List.set_cons_zero,List.set_cons_succ])
    go_cut [35] (fun v35 wc=>∃ (kq:Nat) (x35_7:Bool),v35=.bool x35_7∧Aside0 (hibernacleref16_Told.j0 kq y266 t270 (wrap64 (t272)) x35_7 l0_0 l0_1 a0_2=some r)∧Aside0 (kq≤k)∧Aside0 (Kd.R k27 27 wc w.heap.size (fun _=>True) v267 y266)∧Aside0 (wc.heap[gb265]?=some (.cells #[(.slice A0_0 l0_0.length c0_0),(.slice A0_1 l0_1.length c0_1),.int .i64 a0_2] 29 (0,0)))∧Aside0 (Below w.heap.size w wc))
    case first=>
     have H:=HC8.out
     clear HC8
     by_cases c16:0≤4
     ·rw [if_pos c16] at H
      have c16b0:=eq_true c16
      have c16b1:decide (0≤4)=true:=decide_eq_true c16
      clear c16
      by_cases c17:4≤(t270.size:Int)
      ·rw [if_pos c17] at H
       have c17b0:=eq_true c17
       have c17b1:decide (4≤(t270.size:Int))=true:=decide_eq_true c17
       clear c17
       by_cases c18:(t270.extract 0 4).toList=([104,105,98,106]:List UInt8)
       ·rw [if_pos c18] at H
        have c18b0:((t270.extract 0 4).toList == ([104,105,98,106]:List UInt8))=true:=beq_iff_eq.mpr c18
        have c18b1:((t270.extract 0 4).toList != ([104,105,98,106]:List UInt8))=false:=bne_eq_false_iff_eq.mpr c18
        clear c18
        (first |rw [c18b0] |(simp only [i64_w,i32_w];rw [c18b0]) |skip)
        by_cases c19:(wrap64 (t272))<1
        ·rw [if_pos c19] at H
         have c19b0:decide ((wrap64 (t272))<1)=true:=decide_eq_true c19
         clear c19
         have H':=Aside0.mk H
         clear H
         go_wp2
         go_meet
         case rel=>exact ⟨_,(true),(by first |rfl |(simp;done) |(simp [*];done)),H',⟨by first |omega |exact Nat.le_refl _⟩,⟨by (with_reducible repeat (first |apply Kd.R_alloc |apply Kd.R_drewN |apply Kd.R_drew));exact HO268.out⟩,⟨by (with_reducible repeat (first |refine blk_drewN ?_ _ |refine blk_drew ?_ |refine blk_alloc ?_ _));exact BK265.out⟩,⟨by repeat (first |(with_reducible first |exact HB.out |apply below_alloc |apply pw_below_drewN |apply below_drew1 |refine below_set ?_ GE265.out) |exact HB.out)⟩⟩
        ·rw [if_neg c19] at H
         have c19b0:decide ((wrap64 (t272))<1)=false:=decide_eq_false c19
         clear c19
         have H':=Aside0.mk H
         clear H
         go_wp2
         go_meet
         case rel=>exact ⟨_,(decide ((wrap64 (t272)) > 32)),(by first |rfl |(simp;done) |(simp [*];done)),H',⟨by first |omega |exact Nat.le_refl _⟩,⟨by (with_reducible repeat (first |apply Kd.R_alloc |apply Kd.R_drewN |apply Kd.R_drew));exact HO268.out⟩,⟨by (with_reducible repeat (first |refine blk_drewN ?_ _ |refine blk_drew ?_ |refine blk_alloc ?_ _));exact BK265.out⟩,⟨by repeat (first |(with_reducible first |exact HB.out |apply below_alloc |apply pw_below_drewN |apply below_drew1 |refine below_set ?_ GE265.out) |exact HB.out)⟩⟩
       ·rw [if_neg c18] at H
        have c18b0:((t270.extract 0 4).toList == ([104,105,98,106]:List UInt8))=false:=beq_eq_false_iff_ne.mpr c18
        have c18b1:((t270.extract 0 4).toList != ([104,105,98,106]:List UInt8))=true:=bne_iff_ne.mpr c18
        (first |rw [c18b0] |(simp only [i64_w,i32_w];rw [c18b0]) |skip)
        have H':=Aside0.mk H
        clear H
        go_wp2
        go_meet
        case rel=>exact ⟨_,(true),(by first |rfl |(simp;done) |(simp [*];done)),H',⟨by first |omega |exact Nat.le_refl _⟩,⟨by (with_reducible repeat (first |apply Kd.R_alloc |apply Kd.R_drewN |apply Kd.R_drew));exact HO268.out⟩,⟨by (with_reducible repeat (first |refine blk_drewN ?_ _ |refine blk_drew ?_ |refine blk_alloc ?_ _));exact BK265.out⟩,⟨by repeat (first |(with_reducible first |exact HB.out |apply below_alloc |apply pw_below_drewN |apply below_drew1 |refine below_set ?_ GE265.out) |exact HB.out)⟩⟩
      ·rw [if_neg c17] at H
       exact absurd H (by simp)
     ·rw [if_neg c16] at H
      exact absurd H (by simp)
    case rest=>
     clear HC8
     try clear c1
     try clear p2
     try clear c3
     try clear c3b0
     try clear c3b1
     try clear c4
     try clear c5
     try clear c5b0
     try clear c5b1
     try clear c6
     try clear c6b0
     try clear c6b1
     try clear p6
     try clear c7
     try clear c10
     try clear c16
     try clear c16b0
     try clear c16b1
     try clear c17
     try clear c17b0
     try clear c17b1
     try clear c18
     try clear c18b0
     try clear c18b1
     try clear c19
     try clear c19b0
     try clear hcz12_0
     try clear hcz12_1
     try clear hcz12_2
     try clear hcz14_0
     try clear hcz14_1
     try clear hcz14_2
     try clear hfz12_0
     try clear hfz12_1
     try clear hfz12_2
     try clear hfz14_0
     try clear hfz14_1
     try clear hfz14_2
     obtain ⟨kq,x35_7,rfl,HA,HJ7,HO_3,BK265,HB⟩:=hcut
     cases kq with
     | zero=>exact absurd HA.out (by simp [hibernacleref16_Told.j0])
     | succ kj7=>
      have H:=HA.out
      clear HA
      simp only [hibernacleref16_Told.j0] at H
      by_cases c20:x35_7=true
      ·subst c20
       have H1:(some y266)=some r:=by rw [if_pos rfl] at H;exact H
       clear H
       have H:=H1
       clear H1
       obtain rfl:=Option.some.inj H
       go_wp2
       go_ret
       exact ⟨_,by first |rfl |(simp [errW_none,errW_some] <;> rfl) |(simp [*,errW_none,errW_some] <;> rfl),by (with_reducible repeat (first |apply Kd.R_alloc |apply Kd.R_drewN |apply Kd.R_drew));exact HO_3.out,by repeat (first |(with_reducible first |exact HB.out |apply below_alloc |apply pw_below_drewN |apply below_drew1 |refine below_set ?_ GE265.out) |exact HB.out)⟩
      ·replace c20:=Bool.eq_false_iff.mpr c20
       subst c20
       have H1:(hibernacleref16_Told.l0 kj7 y266 t270 (wrap64 (t272)) (([]:List (S27))) 0 l0_0 l0_1 a0_2)=some r:=by rw [if_neg (show ¬ (false=true) by decide)] at H;exact H
       clear H
       have H:=H1
       clear H1
       obtain ⟨y273,hy273⟩:∃ y_:List (S27),y_=(([]:List (S27))):=⟨_,rfl⟩
       replace H:(hibernacleref16_Told.l0 kj7 y266 t270 (wrap64 (t272)) y273 0 l0_0 l0_1 a0_2)=some r:=by first |(rw [hy273];with_reducible exact H) |(have H2_:=(Option.bind_some _ _).symm.trans H;rw [hy273];with_reducible exact H2_) |(have H2_:=(Option.bind_some _ _).symm.trans H;with_reducible exact H2_) |with_reducible exact H |(rw [hy273];exact H) |exact H
       have Ny273:=Aside0.mk hy273
       clear hy273
       have H':=Aside0.mk H
       clear H
       go_wp2_with (first |((with_reducible refine gate_dst (N:=37) rfl ?_);refine Kd.R_lit k27 _ 27 ?hg (N:=37) ?hd (xs:=([]:List (S27))) (inner:=[]) (ok:=fun _=>True) (okp:=fun _=>True) ?hr ?hp (fun _ hk=>hk) trivial (Below.refl _ _) (Nat.le_refl _) (by simp) ?_;(case hd=>rfl);(case hg=>rfl);(case hr=>first |(go_simp;done) |(go_simp;rfl));(case hp=>exact (Reps.none _ _));intro v274 w21 ho22 hb hg_ hnew_;clear hg_ hnew_;(first |rw [← Ny273.out] at ho22 |(simp only [Int.reduceToNat] at ho22;rw [← Ny273.out] at ho22));have n0_:=Aside0.mk (Kd.R_elder' (by (with_reducible repeat (first |apply Kd.R_alloc |apply Kd.R_drewN |apply Kd.R_drew));exact HO_3.out) (Kd.R_base ho22) hb);have n1_:=Aside0.mk (Kd.R_lower (Kd.R_new' ho22 (Kd.R_lt (by (with_reducible repeat (first |apply Kd.R_alloc |apply Kd.R_drewN |apply Kd.R_drew));exact HO_3.out))) (below_size (by repeat (first |(with_reducible first |exact HB.out |apply below_alloc |apply pw_below_drewN |apply below_drew1 |refine below_set ?_ GE265.out) |exact HB.out))));have n2_:=Aside0.mk (blk_below (g:=gb265) (o:=.cells #[.slice A0_0 l0_0.length c0_0,.slice A0_1 l0_1.length c0_1,.int .i64 a0_2] 29 (0,0)) (by (with_reducible repeat (first |refine blk_drewN ?_ _ |refine blk_drew ?_ |refine blk_alloc ?_ _));exact BK265.out) hb);have n3_:=Aside0.mk (below_step (by repeat (first |(with_reducible first |exact HB.out |apply below_alloc |apply pw_below_drewN |apply below_drew1 |refine below_set ?_ GE265.out) |exact HB.out)) hb);clear HO_3;clear BK265;clear HB;have HO_3:=n0_;have HO275:=n1_;have BK265:=n2_;have HB:=n3_;clear n0_ n1_ n2_ n3_;clear hb ho22))
       go_loopg [7,8] kj7 (fun kq v7 v8 w'=>∃ (x7_2:List (S27)) (x8_2:Int),v8=.int .i64 x8_2∧Aside0 (hibernacleref16_Told.l0 kq y266 t270 (wrap64 (t272)) x7_2 x8_2 l0_0 l0_1 a0_2=some r)∧Aside0 (kq≤kj7)∧Aside0 (Kd.R k27 27 w' w.heap.size (fun k_=>some k_≠(v7:Value).ownBlock) v267 y266)∧Aside0 (Kd.R k27 27 w' w.heap.size (fun k_=>some k_≠(v267:Value).ownBlock) v7 x7_2)∧Aside0 (w'.heap[gb265]?=some (.cells #[(.slice A0_0 l0_0.length c0_0),(.slice A0_1 l0_1.length c0_1),.int .i64 a0_2] 29 (0,0)))∧Aside0 (Below w.heap.size w w'))
       case atStart=>exact ⟨(y273),(0),(by first |rfl |(simp;done) |(simp [*];done)),H',⟨Nat.le_refl _⟩,⟨by (with_reducible repeat (first |apply Kd.R_alloc |apply Kd.R_drewN |apply Kd.R_drew));exact Kd.R_mono HO_3.out (fun _ hk=>hk.2)⟩,⟨by (with_reducible repeat (first |apply Kd.R_alloc |apply Kd.R_drewN |apply Kd.R_drew));exact Kd.R_mono HO275.out (fun _ hk=>hk.2)⟩,⟨by (with_reducible repeat (first |refine blk_drewN ?_ _ |refine blk_drew ?_ |refine blk_alloc ?_ _));exact BK265.out⟩,⟨by repeat (first |(with_reducible first |exact HB.out |apply below_alloc |apply pw_below_drewN |apply below_drew1 |refine below_set ?_ GE265.out) |exact HB.out)⟩⟩
       case round=>
        clear H'
        try clear c1
        try clear c2
        try clear p2
        try clear c3
        try clear c3b0
        try clear c3b1
        try clear c4
        try clear c5
        try clear c5b0
        try clear c5b1
        try clear c6
        try clear c6b0
        try clear c6b1
        try clear p6
        try clear c7
        try clear c10
        try clear c16
        try clear c16b0
        try clear c16b1
        try clear c17
        try clear c17b0
        try clear c17b1
        try clear c18
        try clear c18b0
        try clear c18b1
        try clear c19
        try clear c19b0
        try clear c20
        try clear hcz12_0
        try clear hcz12_1
        try clear hcz12_2
        try clear hcz14_0
        try clear hcz14_1
        try clear hcz14_2
        try clear hfz12_0
        try clear hfz12_1
        try clear hfz12_2
        try clear hfz14_0
        try clear hfz14_1
        try clear hfz14_2
        try clear p2
        try clear p6
        obtain ⟨x7_2,x8_2,rfl,HA,HK2,HO_3,HO_7,BK265,HB⟩:=hrel
        cases gk with
        | zero=>exact absurd HA.out (by simp [hibernacleref16_Told.l0])
        | succ k2=>
         have H:=HA.out
         clear HA
         simp only [hibernacleref16_Told.l0] at H
         by_cases c23:x8_2<(wrap64 (t272))
         ·rw [if_pos c23] at H
          have c23b0:decide (x8_2<(wrap64 (t272)))=true:=decide_eq_true c23
          clear c23
          replace H:=Option.bind_eq_some_iff.mp H
          obtain ⟨⟨t276,t277⟩,A240,H⟩:=H
          replace H:(if 0≤(wrap64 (6 + (wrap64 (2 * x8_2)))) then (if (wrap64 (6 + (wrap64 (2 * x8_2))))≤(wrap64 (8 + (wrap64 (2 * x8_2)))) then (if (wrap64 (8 + (wrap64 (2 * x8_2))))≤(t270.size:Int) then ((hibernacleref01_Get.f k2 (t270.extract ((wrap64 (6 + (wrap64 (2 * x8_2)))):Int).toNat ((wrap64 (8 + (wrap64 (2 * x8_2)))):Int).toNat)).bind fun t278=>(if x7_2.length<5864062014805 then (hibernacleref16_Told.l0 k2 y266 t270 (wrap64 (t272)) (x7_2 ++ [(⟨wrap64 (t278),t276⟩:S27)]) (wrap64 (x8_2 + 1)) l0_0 l0_1 a0_2) else (none))) else (none)) else (none)) else (none))=some r:=H
          have A24:=Aside0.mk A240
          clear A240
          obtain ⟨ji25,hji25⟩:∃ j_:Int,(wrap64 (6 + (wrap64 (2 * x8_2))))=j_:=⟨_,rfl⟩
          replace H:(if 0≤(ji25) then (if (ji25)≤(wrap64 (8 + (wrap64 (2 * x8_2)))) then (if (wrap64 (8 + (wrap64 (2 * x8_2))))≤(t270.size:Int) then ((hibernacleref01_Get.f k2 (t270.extract ((ji25):Int).toNat ((wrap64 (8 + (wrap64 (2 * x8_2)))):Int).toNat)).bind fun t278=>(if x7_2.length<5864062014805 then (hibernacleref16_Told.l0 k2 y266 t270 (wrap64 (t272)) (x7_2 ++ [(⟨wrap64 (t278),t276⟩:S27)]) (wrap64 (x8_2 + 1)) l0_0 l0_1 a0_2) else (none))) else (none)) else (none)) else (none))=some r:=by first |(rw [hji25] at H;exact H) |(simp only [hji25] at H ⊢;exact H)
          (try rw [hji25] at A24)
          have hji25w:(IntKind.i64.wrap (6 + (wrap64 (2 * x8_2))))=ji25:=(i64_w _).trans hji25
          by_cases c26:0≤(ji25)
          ·rw [if_pos c26] at H
           have c26b0:=eq_true c26
           have c26b1:decide (0≤(ji25))=true:=decide_eq_true c26
           clear c26
           by_cases c27:(ji25)≤(wrap64 (8 + (wrap64 (2 * x8_2))))
           ·rw [if_pos c27] at H
            have c27b0:=eq_true c27
            have c27b1:decide ((ji25)≤(wrap64 (8 + (wrap64 (2 * x8_2)))))=true:=decide_eq_true c27
            by_cases c28:(wrap64 (8 + (wrap64 (2 * x8_2))))≤(t270.size:Int)
            ·rw [if_pos c28] at H
             have c28b0:=eq_true c28
             have c28b1:decide ((wrap64 (8 + (wrap64 (2 * x8_2))))≤(t270.size:Int))=true:=decide_eq_true c28
             replace H:=Option.bind_eq_some_iff.mp H
             obtain ⟨t278,A290,H⟩:=H
             replace H:(if x7_2.length<5864062014805 then (hibernacleref16_Told.l0 k2 y266 t270 (wrap64 (t272)) (x7_2 ++ [(⟨wrap64 (t278),t276⟩:S27)]) (wrap64 (x8_2 + 1)) l0_0 l0_1 a0_2) else (none))=some r:=H
             have A29:=Aside0.mk A290
             clear A290
             by_cases c30:x7_2.length<5864062014805
             ·rw [if_pos c30] at H
              have LMc30:=Aside0.mk c30
              clear c30
              obtain ⟨y279,hy279⟩:∃ y_:List (S27),y_=(x7_2 ++ [(⟨wrap64 (t278),t276⟩:S27)]):=⟨_,rfl⟩
              replace H:(hibernacleref16_Told.l0 k2 y266 t270 (wrap64 (t272)) y279 (wrap64 (x8_2 + 1)) l0_0 l0_1 a0_2)=some r:=by first |(rw [hy279];with_reducible exact H) |(have H2_:=(Option.bind_some _ _).symm.trans H;rw [hy279];with_reducible exact H2_) |(have H2_:=(Option.bind_some _ _).symm.trans H;with_reducible exact H2_) |with_reducible exact H |(rw [hy279];exact H) |exact H
              have Ny279:=Aside0.mk hy279
              clear hy279
              have H':=Aside0.mk H
              clear H
              have hcz31_0:wr.cell? ⟨gb265,0,none⟩=some (.slice A0_0 l0_0.length c0_0):=(blk_cell BK265.out 0).trans rfl
              have hcz31_1:wr.cell? ⟨gb265,1,none⟩=some (.slice A0_1 l0_1.length c0_1):=(blk_cell BK265.out 1).trans rfl
              have hcz31_2:wr.cell? ⟨gb265,2,none⟩=some (.int .i64 a0_2):=(blk_cell BK265.out 2).trans rfl
              have hfz31_0:=blk_frozen BK265.out 0
              have hfz31_1:=blk_frozen BK265.out 1
              have hfz31_2:=blk_frozen BK265.out 2
              go_wp2_with (first |((with_reducible refine gate_callee (f:=44) rfl ?_);refine goesL_ (some 47) rfl rfl Try.func44 (by kernel_rfl) rfl #[.agg #[.slice A0_0 l0_0.length c0_0,.slice A0_1 l0_1.length c0_1,.int .i64 a0_2],.int .i64 (wrap64 (x8_2 + 1))] rfl (by (try simp only [List.map_toArray,List.map_cons,List.map_nil]);first |done |rfl |(simp only [List.length_drop,List.length_take];rfl)) ?_;(with_reducible refine (hibernacleref15_Get.calls k2 _ _ l0_0 _ _ l0_1 a0_2 (wrap64 (x8_2 + 1)) t276 t277 _ ?side1 ?side2 ?side3 ?side4 A24.out).mono ?_);(case side1=>repeat (first |exact (Kd.C_below HR0_0.out HB.out) |(with_reducible refine Kd.C_alloc ?_ _) |(with_reducible refine Kd.C_drewN ?_ _) |(with_reducible refine Kd.C_drew ?_)));(case side2=>exact HC0_0.out);(case side3=>repeat (first |exact (Kd.C_below HR0_1.out HB.out) |(with_reducible refine Kd.C_alloc ?_ _) |(with_reducible refine Kd.C_drewN ?_ _) |(with_reducible refine Kd.C_drew ?_)));(case side4=>exact HC0_1.out);rintro e w32 ⟨rfl,hb⟩;refine ⟨_,rfl, ?_⟩;have n0_:=Aside0.mk (Kd.R_below (by (with_reducible repeat (first |apply Kd.R_alloc |apply Kd.R_drewN |apply Kd.R_drew));exact HO_3.out) hb);have n1_:=Aside0.mk (Kd.R_below (by (with_reducible repeat (first |apply Kd.R_alloc |apply Kd.R_drewN |apply Kd.R_drew));exact HO_7.out) hb);have n2_:=Aside0.mk (blk_below (g:=gb265) (o:=.cells #[.slice A0_0 l0_0.length c0_0,.slice A0_1 l0_1.length c0_1,.int .i64 a0_2] 29 (0,0)) (by (with_reducible repeat (first |refine blk_drewN ?_ _ |refine blk_drew ?_ |refine blk_alloc ?_ _));exact BK265.out) hb);have n3_:=Aside0.mk (below_step (by repeat (first |(with_reducible first |exact HB.out |apply below_alloc |apply pw_below_drewN |apply below_drew1 |refine below_set ?_ GE265.out) |exact HB.out)) hb);clear HO_3;clear HO_7;clear BK265;clear HB;have HO_3:=n0_;have HO_7:=n1_;have BK265:=n2_;have HB:=n3_;clear n0_ n1_ n2_ n3_;(try clear hb);(try clear hb2);(try clear hk);(try clear hi)) |((with_reducible refine gate_callee (f:=104) rfl ?_);refine goesL_ (some 59) rfl rfl Try.func104 (by kernel_rfl) rfl #[.string (t270.extract ((ji25):Int).toNat ((wrap64 (8 + (wrap64 (2 * x8_2)))):Int).toNat)] rfl (by (try simp only [List.map_toArray,List.map_cons,List.map_nil]);first |done |(simp only [hji25];rfl) |rfl |(simp only [List.length_drop,List.length_take];rfl)) ?_;(with_reducible refine (hibernacleref01_Get.calls k2 (t270.extract ((ji25):Int).toNat ((wrap64 (8 + (wrap64 (2 * x8_2)))):Int).toNat) t278 _ A29.out).mono ?_);rintro e w' ⟨rfl,⟨nd,rfl⟩⟩;refine ⟨_,rfl, ?_⟩) |((with_reducible refine gate_builtin (b:=.append) (xs:=#[.tmp 50,.tmp 63]) rfl ?_);at_builtin;refine Kd.R_append k27 (w0:=w) w.heap.size rfl (.tmp 50) (.tmp 63) 23 27 (.agg #[(.int .i64 0),(.string ⟨#[]⟩)]) 24 rfl Try.underlying23 info27 rfl (by decide) (by omega) u7 x7_2 (⟨wrap64 (t278),t276⟩:S27) [.int .i64 (wrap64 (t278)),.string t276] (fun k_=>some k_≠(v267:Value).ownBlock) (fun _=>False) rfl rfl ?aP (fun _ hk=>hk.elim) ?aF ?aO ?aB ?aS ?aL ?_;(case aP=>exact k27_mkM _ _ _ (⟨wrap64 (t278),t276⟩:S27));(case aB=>exact (by repeat (first |(with_reducible first |exact HB.out |apply below_alloc |apply pw_below_drewN |apply below_drew1 |refine below_set ?_ GE265.out) |exact HB.out)));(case aF=>exact (fun k_ hk=>Kd.fresh' (Kd.R_lt (by (with_reducible repeat (first |apply Kd.R_alloc |apply Kd.R_drewN |apply Kd.R_drew));exact HO_3.out)) k_ hk));(case aO=>exact (by (with_reducible repeat (first |apply Kd.R_alloc |apply Kd.R_drewN |apply Kd.R_drew));exact HO_7.out));(case aS=>exact (below_size (by repeat (first |(with_reducible first |exact HB.out |apply below_alloc |apply pw_below_drewN |apply below_drew1 |refine below_set ?_ GE265.out) |exact HB.out))));(case aL=>have:=LMc30.out;omega);intro v280 w33 ho hb hg hat;rw [← Ny279.out] at ho;have n0_:=Aside0.mk (Kd.R_after (ok:=(fun _=>True)) (by (with_reducible repeat (first |apply Kd.R_alloc |apply Kd.R_drewN |apply Kd.R_drew));exact Kd.R_mono HO_3.out (fun _ hk=>⟨trivial,hk⟩)) hg hat);have n1_:=Aside0.mk (blk_grown (g:=gb265) (o:=.cells #[.slice A0_0 l0_0.length c0_0,.slice A0_1 l0_1.length c0_1,.int .i64 a0_2] 29 (0,0)) (by (with_reducible repeat (first |refine blk_drewN ?_ _ |refine blk_drew ?_ |refine blk_alloc ?_ _));exact BK265.out) hg (Kd.R_ne HO_7.out BK265.out (by decide)));have n2_:=Aside0.mk (hb);have n3_:=Aside0.mk (ho);clear HO_3;clear BK265;clear HB;clear HO_7;have HO_3:=n0_;have BK265:=n1_;have HB:=n2_;have HO281:=n3_;clear n0_ n1_ n2_ n3_;clear ho hb hg hat))
              go_roundg k2
              case measure=>have:=HJ7.out;have:=HK2.out;omega
              case rel=>exact ⟨(y279),(wrap64 (x8_2 + 1)),(by first |rfl |(simp;done) |(simp [*];done)),H',⟨by have:=HJ7.out;have:=HK2.out;omega⟩,⟨by (with_reducible repeat (first |apply Kd.R_alloc |apply Kd.R_drewN |apply Kd.R_drew));exact Kd.R_mono HO_3.out (fun _ hk=>hk.2)⟩,⟨by (with_reducible repeat (first |apply Kd.R_alloc |apply Kd.R_drewN |apply Kd.R_drew));exact HO281.out⟩,⟨by (with_reducible repeat (first |refine blk_drewN ?_ _ |refine blk_drew ?_ |refine blk_alloc ?_ _));exact BK265.out⟩,⟨by repeat (first |(with_reducible first |exact HB.out |apply below_alloc |apply pw_below_drewN |apply below_drew1 |refine below_set ?_ GE265.out) |exact HB.out)⟩⟩
             ·rw [if_neg c30] at H
              exact absurd H (by simp)
            ·rw [if_neg c28] at H
             exact absurd H (by simp)
           ·rw [if_neg c27] at H
            exact absurd H (by simp)
          ·rw [if_neg c26] at H
           exact absurd H (by simp)
         ·rw [if_neg c23] at H
          have c23b0:decide (x8_2<(wrap64 (t272)))=false:=decide_eq_false c23
          clear c23
          replace H:=Option.bind_eq_some_iff.mp H
          obtain ⟨t282,A340,H⟩:=H
          replace H:(if t282=0 then ((hibernacleref16_Head.f x7_2).bind fun t283=>(if t283.toList=t270.toList then (some x7_2) else (some y266))) else (some y266))=some r:=H
          have A34:=Aside0.mk A340
          clear A340
          by_cases c35:t282=0
          ·rw [if_pos c35] at H
           have c35b0:(t282 == 0)=true:=beq_iff_eq.mpr c35
           have c35b1:(t282 != 0)=false:=bne_eq_false_iff_eq.mpr c35
           clear c35
           replace H:=Option.bind_eq_some_iff.mp H
           obtain ⟨t283,A360,H⟩:=H
           replace H:(if t283.toList=t270.toList then (some x7_2) else (some y266))=some r:=H
           have A36:=Aside0.mk A360
           clear A360
           by_cases c37:t283.toList=t270.toList
           ·rw [if_pos c37] at H
            have c37b0:(t283.toList == t270.toList)=true:=beq_iff_eq.mpr c37
            have c37b1:(t283.toList != t270.toList)=false:=bne_eq_false_iff_eq.mpr c37
            clear c37
            obtain rfl:=Option.some.inj H
            have hcz38_0:wr.cell? ⟨gb265,0,none⟩=some (.slice A0_0 l0_0.length c0_0):=(blk_cell BK265.out 0).trans rfl
            have hcz38_1:wr.cell? ⟨gb265,1,none⟩=some (.slice A0_1 l0_1.length c0_1):=(blk_cell BK265.out 1).trans rfl
            have hcz38_2:wr.cell? ⟨gb265,2,none⟩=some (.int .i64 a0_2):=(blk_cell BK265.out 2).trans rfl
            have hfz38_0:=blk_frozen BK265.out 0
            have hfz38_1:=blk_frozen BK265.out 1
            have hfz38_2:=blk_frozen BK265.out 2
            obtain ⟨Ao39,co39,eo39⟩:=Kd.R_slice HO_7.out
            subst eo39
            go_wp2_with (first |((with_reducible refine gate_callee (f:=62) rfl ?_);refine goesL_ (some 70) rfl rfl Try.func62 (by kernel_rfl) rfl #[.slice Ao39 x7_2.length co39,.int .i64 (wrap64 ((l0_0.length:Int) - 33))] rfl (by (try simp only [List.map_toArray,List.map_cons,List.map_nil]);first |done |rfl |(simp only [List.length_drop,List.length_take];rfl)) ?_;(with_reducible refine (hibernacleref16_May.calls k2 _ _ x7_2 (wrap64 ((l0_0.length:Int) - 33)) t282 _ ?side1 ?side2 A34.out).mono ?_);(case side1=>repeat (first |exact (Kd.R_reads' HO_7.out).2.2 |(with_reducible refine Kd.C_alloc ?_ _) |(with_reducible refine Kd.C_drewN ?_ _) |(with_reducible refine Kd.C_drew ?_)));(case side2=>exact (Kd.R_reads' HO_7.out).2.1);rintro e w' ⟨rfl,⟨nd,rfl⟩⟩;refine ⟨_,rfl, ?_⟩) |(go_at_call 61;(with_reducible refine (hibernacleref16_Head.calls _ _ x7_2 t283 _ ?side1 ?side2 A36.out).mono ?_);(case side1=>repeat (first |exact (Kd.R_reads' HO_7.out).2.2 |(with_reducible refine Kd.C_alloc ?_ _) |(with_reducible refine Kd.C_drewN ?_ _) |(with_reducible refine Kd.C_drew ?_)));(case side2=>exact (Kd.R_reads' HO_7.out).2.1);rintro e w40 ⟨rfl,hb⟩;have n0_:=Aside0.mk (Kd.R_below (by (with_reducible repeat (first |apply Kd.R_alloc |apply Kd.R_drewN |apply Kd.R_drew));exact HO_3.out) hb);have n1_:=Aside0.mk (Kd.R_below (by (with_reducible repeat (first |apply Kd.R_alloc |apply Kd.R_drewN |apply Kd.R_drew));exact HO_7.out) hb);have n2_:=Aside0.mk (blk_below (g:=gb265) (o:=.cells #[.slice A0_0 l0_0.length c0_0,.slice A0_1 l0_1.length c0_1,.int .i64 a0_2] 29 (0,0)) (by (with_reducible repeat (first |refine blk_drewN ?_ _ |refine blk_drew ?_ |refine blk_alloc ?_ _));exact BK265.out) hb);have n3_:=Aside0.mk (below_step (by repeat (first |(with_reducible first |exact HB.out |apply below_alloc |apply pw_below_drewN |apply below_drew1 |refine below_set ?_ GE265.out) |exact HB.out)) hb);clear HO_3;clear HO_7;clear BK265;clear HB;have HO_3:=n0_;have HO_7:=n1_;have BK265:=n2_;have HB:=n3_;clear n0_ n1_ n2_ n3_;(try clear hb);(try clear hb2);(try clear hk);(try clear hi)))
            go_ret
            exact ⟨_,by first |rfl |(simp [errW_none,errW_some] <;> rfl) |(simp [*,errW_none,errW_some] <;> rfl),by (with_reducible repeat (first |apply Kd.R_alloc |apply Kd.R_drewN |apply Kd.R_drew));exact Kd.R_mono HO_7.out (fun _ hk=>trivial),by repeat (first |(with_reducible first |exact HB.out |apply below_alloc |apply pw_below_drewN |apply below_drew1 |refine below_set ?_ GE265.out) |exact HB.out)⟩
           ·rw [if_neg c37] at H
            have c37b0:(t283.toList == t270.toList)=false:=beq_eq_false_iff_ne.mpr c37
            have c37b1:(t283.toList != t270.toList)=true:=bne_iff_ne.mpr c37
            obtain rfl:=Option.some.inj H
            have hcz41_0:wr.cell? ⟨gb265,0,none⟩=some (.slice A0_0 l0_0.length c0_0):=(blk_cell BK265.out 0).trans rfl
            have hcz41_1:wr.cell? ⟨gb265,1,none⟩=some (.slice A0_1 l0_1.length c0_1):=(blk_cell BK265.out 1).trans rfl
            have hcz41_2:wr.cell? ⟨gb265,2,none⟩=some (.int .i64 a0_2):=(blk_cell BK265.out 2).trans rfl
            have hfz41_0:=blk_frozen BK265.out 0
            have hfz41_1:=blk_frozen BK265.out 1
            have hfz41_2:=blk_frozen BK265.out 2
            obtain ⟨Ao42,co42,eo42⟩:=Kd.R_slice HO_7.out
            subst eo42
            go_wp2_with (first |((with_reducible refine gate_callee (f:=62) rfl ?_);refine goesL_ (some 70) rfl rfl Try.func62 (by kernel_rfl) rfl #[.slice Ao42 x7_2.length co42,.int .i64 (wrap64 ((l0_0.length:Int) - 33))] rfl (by (try simp only [List.map_toArray,List.map_cons,List.map_nil]);first |done |rfl |(simp only [List.length_drop,List.length_take];rfl)) ?_;(with_reducible refine (hibernacleref16_May.calls k2 _ _ x7_2 (wrap64 ((l0_0.length:Int) - 33)) t282 _ ?side1 ?side2 A34.out).mono ?_);(case side1=>repeat (first |exact (Kd.R_reads' HO_7.out).2.2 |(with_reducible refine Kd.C_alloc ?_ _) |(with_reducible refine Kd.C_drewN ?_ _) |(with_reducible refine Kd.C_drew ?_)));(case side2=>exact (Kd.R_reads' HO_7.out).2.1);rintro e w' ⟨rfl,⟨nd,rfl⟩⟩;refine ⟨_,rfl, ?_⟩) |(go_at_call 61;(with_reducible refine (hibernacleref16_Head.calls _ _ x7_2 t283 _ ?side1 ?side2 A36.out).mono ?_);(case side1=>repeat (first |exact (Kd.R_reads' HO_7.out).2.2 |(with_reducible refine Kd.C_alloc ?_ _) |(with_reducible refine Kd.C_drewN ?_ _) |(with_reducible refine Kd.C_drew ?_)));(case side2=>exact (Kd.R_reads' HO_7.out).2.1);rintro e w43 ⟨rfl,hb⟩;have n0_:=Aside0.mk (Kd.R_below (by (with_reducible repeat (first |apply Kd.R_alloc |apply Kd.R_drewN |apply Kd.R_drew));exact HO_3.out) hb);have n1_:=Aside0.mk (Kd.R_below (by (with_reducible repeat (first |apply Kd.R_alloc |apply Kd.R_drewN |apply Kd.R_drew));exact HO_7.out) hb);have n2_:=Aside0.mk (blk_below (g:=gb265) (o:=.cells #[.slice A0_0 l0_0.length c0_0,.slice A0_1 l0_1.length c0_1,.int .i64 a0_2] 29 (0,0)) (by (with_reducible repeat (first |refine blk_drewN ?_ _ |refine blk_drew ?_ |refine blk_alloc ?_ _));exact BK265.out) hb);have n3_:=Aside0.mk (below_step (by repeat (first |(with_reducible first |exact HB.out |apply below_alloc |apply pw_below_drewN |apply below_drew1 |refine below_set ?_ GE265.out) |exact HB.out)) hb);clear HO_3;clear HO_7;clear BK265;clear HB;have HO_3:=n0_;have HO_7:=n1_;have BK265:=n2_;have HB:=n3_;clear n0_ n1_ n2_ n3_;(try clear hb);(try clear hb2);(try clear hk);(try clear hi)))
            go_ret
            exact ⟨_,by first |rfl |(simp [errW_none,errW_some] <;> rfl) |(simp [*,errW_none,errW_some] <;> rfl),by (with_reducible repeat (first |apply Kd.R_alloc |apply Kd.R_drewN |apply Kd.R_drew));exact Kd.R_mono HO_3.out (fun _ hk=>trivial),by repeat (first |(with_reducible first |exact HB.out |apply below_alloc |apply pw_below_drewN |apply below_drew1 |refine below_set ?_ GE265.out) |exact HB.out)⟩
          ·rw [if_neg c35] at H
           have c35b0:(t282 == 0)=false:=beq_eq_false_iff_ne.mpr c35
           have c35b1:(t282 != 0)=true:=bne_iff_ne.mpr c35
           obtain rfl:=Option.some.inj H
           have hcz44_0:wr.cell? ⟨gb265,0,none⟩=some (.slice A0_0 l0_0.length c0_0):=(blk_cell BK265.out 0).trans rfl
           have hcz44_1:wr.cell? ⟨gb265,1,none⟩=some (.slice A0_1 l0_1.length c0_1):=(blk_cell BK265.out 1).trans rfl
           have hcz44_2:wr.cell? ⟨gb265,2,none⟩=some (.int .i64 a0_2):=(blk_cell BK265.out 2).trans rfl
           have hfz44_0:=blk_frozen BK265.out 0
           have hfz44_1:=blk_frozen BK265.out 1
           have hfz44_2:=blk_frozen BK265.out 2
           obtain ⟨Ao45,co45,eo45⟩:=Kd.R_slice HO_7.out
           subst eo45
           go_wp2_with (first |((with_reducible refine gate_callee (f:=62) rfl ?_);refine goesL_ (some 70) rfl rfl Try.func62 (by kernel_rfl) rfl #[.slice Ao45 x7_2.length co45,.int .i64 (wrap64 ((l0_0.length:Int) - 33))] rfl (by (try simp only [List.map_toArray,List.map_cons,List.map_nil]);first |done |rfl |(simp only [List.length_drop,List.length_take];rfl)) ?_;(with_reducible refine (hibernacleref16_May.calls k2 _ _ x7_2 (wrap64 ((l0_0.length:Int) - 33)) t282 _ ?side1 ?side2 A34.out).mono ?_);(case side1=>repeat (first |exact (Kd.R_reads' HO_7.out).2.2 |(with_reducible refine Kd.C_alloc ?_ _) |(with_reducible refine Kd.C_drewN ?_ _) |(with_reducible refine Kd.C_drew ?_)));(case side2=>exact (Kd.R_reads' HO_7.out).2.1);rintro e w' ⟨rfl,⟨nd,rfl⟩⟩;refine ⟨_,rfl, ?_⟩))
           go_ret
           exact ⟨_,by first |rfl |(simp [errW_none,errW_some] <;> rfl) |(simp [*,errW_none,errW_some] <;> rfl),by (with_reducible repeat (first |apply Kd.R_alloc |apply Kd.R_drewN |apply Kd.R_drew));exact Kd.R_mono HO_3.out (fun _ hk=>trivial),by repeat (first |(with_reducible first |exact HB.out |apply below_alloc |apply pw_below_drewN |apply below_drew1 |refine below_set ?_ GE265.out) |exact HB.out)⟩
   ·rw [if_neg c6] at H
    exact absurd H (by simp)
  ·rw [if_neg c5] at H
   exact absurd H (by simp)
 ·rw [if_neg c3] at H
  have c3b0:(t269 == 0)=false:=beq_eq_false_iff_ne.mpr c3
  have c3b1:(t269 != 0)=true:=bne_iff_ne.mpr c3
  obtain rfl:=Option.some.inj H
  go_enter Try.func73,Try.ntmps73
  go_wp2_with (first |((with_reducible refine gate_dst (N:=1) rfl ?_);refine box_event ?hg (N:=1) ?hd (cs:=#[.slice A0_0 l0_0.length c0_0,.slice A0_1 l0_1.length c0_1,.int .i64 a0_2]) (t:=29) ?hr ?_;(case hd=>rfl);(case hg=>rfl);(case hr=>first |(go_simp;done) |(go_simp;rfl));intro gb265 hg w46 hbox hb;have n0_:=Aside0.mk (below_step (by repeat (first |(with_reducible first |exact HB.out |apply below_alloc |apply pw_below_drewN |apply below_drew1) |exact HB.out)) hb);have n1_:=Aside0.mk (hbox);have n2_:=Aside0.mk ((by rw [hg];exact (below_size (by repeat (first |(with_reducible first |exact HB.out |apply below_alloc |apply pw_below_drewN |apply below_drew1) |exact HB.out))):w.heap.size≤gb265));have n3_:=Aside0.mk ((by rw [hg];exact (below_size (by repeat (first |(with_reducible first |exact HB.out |apply below_alloc |apply pw_below_drewN |apply below_drew1) |exact HB.out))):w.heap.size≤gb265));clear HB;have HB:=n0_;have BK265:=n1_;have GW265:=n2_;have GE265:=n3_;clear n0_ n1_ n2_ n3_;clear hb hbox hg) |((with_reducible refine gate_dst (N:=11) rfl ?_);refine Kd.R_lit k27 _ 27 ?hg (N:=11) ?hd (xs:=([]:List (S27))) (inner:=[]) (ok:=fun _=>True) (okp:=fun _=>True) ?hr ?hp (fun _ hk=>hk) trivial (Below.refl _ _) (Nat.le_refl _) (by simp) ?_;(case hd=>rfl);(case hg=>rfl);(case hr=>first |(go_simp;done) |(go_simp;rfl));(case hp=>exact (Reps.none _ _));intro v267 w47 ho48 hb hg_ hnew_;clear hg_ hnew_;(first |rw [← Ny266.out] at ho48 |(simp only [Int.reduceToNat] at ho48;rw [← Ny266.out] at ho48));have n0_:=Aside0.mk (Kd.R_lower ho48 (below_size (by repeat (first |(with_reducible first |exact HB.out |apply below_alloc |apply pw_below_drewN |apply below_drew1 |refine below_set ?_ GE265.out) |exact HB.out))));have n1_:=Aside0.mk (blk_below (g:=gb265) (o:=.cells #[.slice A0_0 l0_0.length c0_0,.slice A0_1 l0_1.length c0_1,.int .i64 a0_2] 29 (0,0)) (by (with_reducible repeat (first |refine blk_drewN ?_ _ |refine blk_drew ?_ |refine blk_alloc ?_ _));exact BK265.out) hb);have n2_:=Aside0.mk (below_step (by repeat (first |(with_reducible first |exact HB.out |apply below_alloc |apply pw_below_drewN |apply below_drew1 |refine below_set ?_ GE265.out) |exact HB.out)) hb);clear BK265;clear HB;have HO268:=n0_;have BK265:=n1_;have HB:=n2_;clear n0_ n1_ n2_;clear hb ho48;have hcz49_0:w47.cell? ⟨gb265,0,none⟩=some (.slice A0_0 l0_0.length c0_0):=(blk_cell BK265.out 0).trans rfl;have hcz49_1:w47.cell? ⟨gb265,1,none⟩=some (.slice A0_1 l0_1.length c0_1):=(blk_cell BK265.out 1).trans rfl;have hcz49_2:w47.cell? ⟨gb265,2,none⟩=some (.int .i64 a0_2):=(blk_cell BK265.out 2).trans rfl;have hfz49_0:=blk_frozen BK265.out 0;have hfz49_1:=blk_frozen BK265.out 1;have hfz49_2:=blk_frozen BK265.out 2) |((with_reducible refine gate_callee (f:=72) rfl ?_);refine goesL_ (some 13) rfl rfl Try.func72 (by kernel_rfl) rfl #[.agg #[.slice A0_0 l0_0.length c0_0,.slice A0_1 l0_1.length c0_1,.int .i64 a0_2]] rfl (by (try simp only [List.map_toArray,List.map_cons,List.map_nil]);first |done |rfl |(simp only [List.length_drop,List.length_take];rfl)) ?_;(with_reducible refine (hibernacleref16_bad.calls k _ _ l0_0 _ _ l0_1 a0_2 t269 _ ?side1 ?side2 ?side3 ?side4 A2.out).mono ?_);(case side1=>repeat (first |exact (Kd.C_below HR0_0.out HB.out) |(with_reducible refine Kd.C_alloc ?_ _) |(with_reducible refine Kd.C_drewN ?_ _) |(with_reducible refine Kd.C_drew ?_)));(case side2=>exact HC0_0.out);(case side3=>repeat (first |exact (Kd.C_below HR0_1.out HB.out) |(with_reducible refine Kd.C_alloc ?_ _) |(with_reducible refine Kd.C_drewN ?_ _) |(with_reducible refine Kd.C_drew ?_)));(case side4=>exact HC0_1.out);rintro e w50 ⟨rfl,hb⟩;refine ⟨_,rfl, ?_⟩;have n0_:=Aside0.mk (Kd.R_below (by (with_reducible repeat (first |apply Kd.R_alloc |apply Kd.R_drewN |apply Kd.R_drew));exact HO268.out) hb);have n1_:=Aside0.mk (blk_below (g:=gb265) (o:=.cells #[.slice A0_0 l0_0.length c0_0,.slice A0_1 l0_1.length c0_1,.int .i64 a0_2] 29 (0,0)) (by (with_reducible repeat (first |refine blk_drewN ?_ _ |refine blk_drew ?_ |refine blk_alloc ?_ _));exact BK265.out) hb);have n2_:=Aside0.mk (below_step (by repeat (first |(with_reducible first |exact HB.out |apply below_alloc |apply pw_below_drewN |apply below_drew1 |refine below_set ?_ GE265.out) |exact HB.out)) hb);clear HO268;clear BK265;clear HB;have HO268:=n0_;have BK265:=n1_;have HB:=n2_;clear n0_ n1_ n2_;(try clear hb);(try clear hb2);(try clear hk);(try clear hi)))
  go_ret
  exact ⟨_,by first |rfl |(simp [errW_none,errW_some] <;> rfl) |(simp [*,errW_none,errW_some] <;> rfl),by (with_reducible repeat (first |apply Kd.R_alloc |apply Kd.R_drewN |apply Kd.R_drew));exact HO268.out,by repeat (first |(with_reducible first |exact HB.out |apply below_alloc |apply pw_below_drewN |apply below_drew1 |refine below_set ?_ GE265.out) |exact HB.out)⟩
end Go.Proofs.Ytjfmnkmgnbbfgaa.A
