-- Made by drv.py (ours) by way of the kit's print; Lean checks it.
import Derived.Test.YtjfmnkmgnbbfgaaA0
import Derived.Test.YtjfmnkmgnbbfgaaAeq27
namespace Go.Proofs.Ytjfmnkmgnbbfgaa.A
open Go.RowKit Go.Proofs.YtjfmnkmgnbbfgaaW.PrintWords Go.Proofs.YtjfmnkmgnbbfgaaW.PrintLast Go.Proofs.YtjfmnkmgnbbfgaaW.PrintMore
attribute [local go_sem] max2_int min2_int max_two min_two max_three min_three max_four min_four   -- for this text's walks alone
set_option linter.unusedVariables false
set_option linter.unusedSimpArgs false
attribute [local go_sem high] eqA27
mutual
def hibernacleref16_SameDrive.j0:Nat→Bool→List ByteArray→List (S27)→Int→List ByteArray→List (S27)→Int→Option (Bool)
 | 0,_,_,_,_,_,_,_=>none
 | k + 1,x27,x357000,x357001,x357002,x358000,x358001,x358002=>if x27=true then (some false) else (hibernacleref16_SameDrive.l0 k (x357001.length:Int) 0 x357000 x357001 x357002 x358000 x358001 x358002)
def hibernacleref16_SameDrive.l0:Nat→Int→Int→List ByteArray→List (S27)→Int→List ByteArray→List (S27)→Int→Option (Bool)
 | 0,_,_,_,_,_,_,_,_=>none
 | k + 1,x30,x31,x357000,x357001,x357002,x358000,x358001,x358002=>if x31<x30 then (if 0≤x31 then (if x31<(x357001.length:Int) then (if x31<(x358001.length:Int) then (if (!(((rd_T27 x357001 x31).f0) == ((rd_T27 x358001 x31).f0)) || (!((((rd_T27 x357001 x31).f1).toList) == (((rd_T27 x358001 x31).f1).toList))))=true then (some false) else (hibernacleref16_SameDrive.l0 k x30 (wrap64 (x31 + 1)) x357000 x357001 x357002 x358000 x358001 x358002)) else (none)) else (none)) else (none)) else (some true)
end
def hibernacleref16_SameDrive.f (k:Nat) (l0_0:List ByteArray) (l0_1:List (S27)) (a0_2:Int) (l1_0:List ByteArray) (l1_1:List (S27)) (a1_2:Int):Option (Bool):=if a0_2=a1_2 then (if (l0_1.length:Int)=(l1_1.length:Int) then ((hibernacleref16_SameBlocks.f k l0_0 l1_0).bind fun t358=>(hibernacleref16_SameDrive.j0 k (!t358) l0_0 l0_1 a0_2 l1_0 l1_1 a1_2)) else (hibernacleref16_SameDrive.j0 k true l0_0 l0_1 a0_2 l1_0 l1_1 a1_2)) else (hibernacleref16_SameDrive.j0 k true l0_0 l0_1 a0_2 l1_0 l1_1 a1_2)
theorem hibernacleref16_SameDrive.mono_l:∀ k,(∀ y0 y1 y2 y3 y4 y5 y6,LeO (hibernacleref16_SameDrive.j0 k y0 y1 y2 y3 y4 y5 y6) (hibernacleref16_SameDrive.j0 (k + 1) y0 y1 y2 y3 y4 y5 y6))∧(∀ y0 y1 y2 y3 y4 y5 y6 y7,LeO (hibernacleref16_SameDrive.l0 k y0 y1 y2 y3 y4 y5 y6 y7) (hibernacleref16_SameDrive.l0 (k + 1) y0 y1 y2 y3 y4 y5 y6 y7))
 | 0=>⟨fun _ _ _ _ _ _ _ r h=>by simp [hibernacleref16_SameDrive.j0] at h,fun _ _ _ _ _ _ _ _ r h=>by simp [hibernacleref16_SameDrive.l0] at h⟩
 | k + 1=>by
  obtain ⟨ih0,ih1⟩:=hibernacleref16_SameDrive.mono_l k
  refine ⟨?_, ?_⟩
  ·intro y0 y1 y2 y3 y4 y5 y6
   unfold hibernacleref16_SameDrive.j0
   repeat' first
   | (with_reducible exact ih0 _ _ _ _ _ _ _)
   | (with_reducible exact ih1 _ _ _ _ _ _ _ _)
   | (with_reducible exact hibernacleref16_SameBlocks.mono _ _ _)
   | (with_reducible exact LeO.refl _)
   | (with_reducible exact LeO.none _)
   | (with_reducible refine LeO.ite ?_ ?_)
   | (with_reducible refine LeO.bind ?_ (fun _=>?_))
   | exact ih0 _ _ _ _ _ _ _
   | exact ih1 _ _ _ _ _ _ _ _
   | exact hibernacleref16_SameBlocks.mono _ _ _
   | exact LeO.none _
   | refine LeO.ite ?_ ?_
   | refine LeO.bind ?_ (fun _=>?_)
  ·intro y0 y1 y2 y3 y4 y5 y6 y7
   unfold hibernacleref16_SameDrive.l0
   repeat' first
   | (with_reducible exact ih0 _ _ _ _ _ _ _)
   | (with_reducible exact ih1 _ _ _ _ _ _ _ _)
   | (with_reducible exact hibernacleref16_SameBlocks.mono _ _ _)
   | (with_reducible exact LeO.refl _)
   | (with_reducible exact LeO.none _)
   | (with_reducible refine LeO.ite ?_ ?_)
   | (with_reducible refine LeO.bind ?_ (fun _=>?_))
   | exact ih0 _ _ _ _ _ _ _
   | exact ih1 _ _ _ _ _ _ _ _
   | exact hibernacleref16_SameBlocks.mono _ _ _
   | exact LeO.none _
   | refine LeO.ite ?_ ?_
   | refine LeO.bind ?_ (fun _=>?_)
theorem hibernacleref16_SameDrive.mono:∀ a0 a1 a2 a3 a4 a5 k,LeO (hibernacleref16_SameDrive.f k a0 a1 a2 a3 a4 a5) (hibernacleref16_SameDrive.f (k + 1) a0 a1 a2 a3 a4 a5):=by
 intro a0 a1 a2 a3 a4 a5 k
 obtain ⟨ih0,ih1⟩:=hibernacleref16_SameDrive.mono_l k
 unfold hibernacleref16_SameDrive.f
 repeat' first
   | (with_reducible exact ih0 _ _ _ _ _ _ _)
   | (with_reducible exact ih1 _ _ _ _ _ _ _ _)
   | (with_reducible exact hibernacleref16_SameBlocks.mono _ _ _)
   | (with_reducible exact LeO.refl _)
   | (with_reducible exact LeO.none _)
   | (with_reducible refine LeO.ite ?_ ?_)
   | (with_reducible refine LeO.bind ?_ (fun _=>?_))
   | exact ih0 _ _ _ _ _ _ _
   | exact ih1 _ _ _ _ _ _ _ _
   | exact hibernacleref16_SameBlocks.mono _ _ _
   | exact LeO.none _
   | refine LeO.ite ?_ ?_
   | refine LeO.bind ?_ (fun _=>?_)
set_option maxHeartbeats 8000000 in
set_option maxRecDepth 100000 in
theorem hibernacleref16_SameDrive.calls (k:Nat) (A0_0:Option Addr) (c0_0:Nat) (l0_0:List ByteArray) (A0_1:Option Addr) (c0_1:Nat) (l0_1:List (S27)) (a0_2:Int) (A1_0:Option Addr) (c1_0:Nat) (l1_0:List ByteArray) (A1_1:Option Addr) (c1_1:Nat) (l1_1:List (S27)) (a1_2:Int) (r:Bool) (w:World) (hr0_0:Kd.C Kd.string w A0_0 l0_0.length l0_0) (hc0_0:l0_0.length≤c0_0) (hr0_1:Kd.C k27 w A0_1 l0_1.length l0_1) (hc0_1:l0_1.length≤c0_1) (hr1_0:Kd.C Kd.string w A1_0 l1_0.length l1_0) (hc1_0:l1_0.length≤c1_0) (hr1_1:Kd.C k27 w A1_1 l1_1.length l1_1) (hc1_1:l1_1.length≤c1_1) (h:hibernacleref16_SameDrive.f k l0_0 l0_1 a0_2 l1_0 l1_1 a1_2=some r) :
  Calls Try.prog 29 #[.agg #[.slice A0_0 l0_0.length c0_0,.slice A0_1 l0_1.length c0_1,.int .i64 a0_2],.agg #[.slice A1_0 l1_0.length c1_0,.slice A1_1 l1_1.length c1_1,.int .i64 a1_2]] w fun e w'=>e=.returned (.bool r)∧Below w.heap.size w w':=by
 have hu29:=Try.underlying29
 have hu27:=Try.underlying27
 have HR0_0:=Aside0.mk hr0_0
 have HC0_0:=Aside0.mk hc0_0
 clear hr0_0 hc0_0
 have HR0_1:=Aside0.mk hr0_1
 have HC0_1:=Aside0.mk hc0_1
 clear hr0_1 hc0_1
 have HR1_0:=Aside0.mk hr1_0
 have HC1_0:=Aside0.mk hc1_0
 clear hr1_0 hc1_0
 have HR1_1:=Aside0.mk hr1_1
 have HC1_1:=Aside0.mk hc1_1
 clear hr1_1 hc1_1
 have HB:=Aside0.mk (Below.refl w.heap.size w)
 have H:(if a0_2=a1_2 then (if (l0_1.length:Int)=(l1_1.length:Int) then ((hibernacleref16_SameBlocks.f k l0_0 l1_0).bind fun t358=>(hibernacleref16_SameDrive.j0 k (!t358) l0_0 l0_1 a0_2 l1_0 l1_1 a1_2)) else (hibernacleref16_SameDrive.j0 k true l0_0 l0_1 a0_2 l1_0 l1_1 a1_2)) else (hibernacleref16_SameDrive.j0 k true l0_0 l0_1 a0_2 l1_0 l1_1 a1_2))=some r:=h
 clear h
 have HC3:=Aside0.mk H
 clear H
 go_enter Try.func29,Try.ntmps29
 go_upto_region 1 with (first |((with_reducible refine gate_dst (N:=2) rfl ?_);(try (refine gate_guard (by rfl) ?_;dsimp only));refine box_event ?hg (N:=2) ?hd (cs:=#[.slice A0_0 l0_0.length c0_0,.slice A0_1 l0_1.length c0_1,.int .i64 a0_2]) (t:=29) ?hr ?_;(case hd=>rfl);(case hg=>rfl);(case hr=>first |(go_simp;done) |(go_simp;rfl));intro gb356 hg w4 hbox hb;have n0_:=Aside0.mk (below_step (by repeat (first |(with_reducible first |exact HB.out |apply below_alloc |apply pw_below_drewN |apply below_drew1) |exact HB.out)) hb);have n1_:=Aside0.mk (hbox);have n2_:=Aside0.mk ((by rw [hg];exact (below_size (by repeat (first |(with_reducible first |exact HB.out |apply below_alloc |apply pw_below_drewN |apply below_drew1) |exact HB.out))):w.heap.size≤gb356));have n3_:=Aside0.mk ((by rw [hg];exact (below_size (by repeat (first |(with_reducible first |exact HB.out |apply below_alloc |apply pw_below_drewN |apply below_drew1) |exact HB.out))):w.heap.size≤gb356));clear HB;have HB:=n0_;have BK356:=n1_;have GW356:=n2_;have GE356:=n3_;clear n0_ n1_ n2_ n3_;clear hb hbox hg) |((with_reducible refine gate_dst (N:=3) rfl ?_);(try (refine gate_guard (by rfl) ?_;dsimp only));refine box_event ?hg (N:=3) ?hd (cs:=#[.slice A1_0 l1_0.length c1_0,.slice A1_1 l1_1.length c1_1,.int .i64 a1_2]) (t:=29) ?hr ?_;(case hd=>rfl);(case hg=>rfl);(case hr=>first |(go_simp;done) |(go_simp;rfl));intro gb357 hg w5 hbox hb;have n0_:=Aside0.mk (blk_below (g:=gb356) (o:=.cells #[.slice A0_0 l0_0.length c0_0,.slice A0_1 l0_1.length c0_1,.int .i64 a0_2] 29 (0,0)) (by (with_reducible repeat (first |refine blk_drewN ?_ _ |refine blk_drew ?_ |refine blk_alloc ?_ _));exact BK356.out) hb);have n1_:=Aside0.mk (below_step (by repeat (first |(with_reducible first |exact HB.out |apply below_alloc |apply pw_below_drewN |apply below_drew1 |refine below_set ?_ GE356.out) |exact HB.out)) hb);have n2_:=Aside0.mk (hbox);have n3_:=Aside0.mk ((by rw [hg];exact (below_size (by repeat (first |(with_reducible first |exact HB.out |apply below_alloc |apply pw_below_drewN |apply below_drew1 |refine below_set ?_ GE356.out) |exact HB.out))):w.heap.size≤gb357));have n4_:=Aside0.mk ((by rw [hg];exact (below_size (by repeat (first |(with_reducible first |exact HB.out |apply below_alloc |apply pw_below_drewN |apply below_drew1 |refine below_set ?_ GE356.out) |exact HB.out))):w.heap.size≤gb357));have n5_:=Aside0.mk ((by rw [hg];exact Nat.ne_of_lt (blk_lt (g:=gb356) (o:=.cells #[.slice A0_0 l0_0.length c0_0,.slice A0_1 l0_1.length c0_1,.int .i64 a0_2] 29 (0,0)) (by (with_reducible repeat (first |refine blk_drewN ?_ _ |refine blk_drew ?_ |refine blk_alloc ?_ _));exact BK356.out)):gb356≠gb357));have n6_:=Aside0.mk ((by rw [hg];exact Nat.ne_of_gt (blk_lt (g:=gb356) (o:=.cells #[.slice A0_0 l0_0.length c0_0,.slice A0_1 l0_1.length c0_1,.int .i64 a0_2] 29 (0,0)) (by (with_reducible repeat (first |refine blk_drewN ?_ _ |refine blk_drew ?_ |refine blk_alloc ?_ _));exact BK356.out)):gb357≠gb356));clear BK356;clear HB;have BK356:=n0_;have HB:=n1_;have BK357:=n2_;have GW357:=n3_;have GE357:=n4_;have NB356_357:=n5_;have NB357_356:=n6_;clear n0_ n1_ n2_ n3_ n4_ n5_ n6_;clear hb hbox hg))
 repeat (go_quiet (first |((with_reducible refine gate_dst (N:=2) rfl ?_);(try (refine gate_guard (by rfl) ?_;dsimp only));refine box_event ?hg (N:=2) ?hd (cs:=#[.slice A0_0 l0_0.length c0_0,.slice A0_1 l0_1.length c0_1,.int .i64 a0_2]) (t:=29) ?hr ?_;(case hd=>rfl);(case hg=>rfl);(case hr=>first |(go_simp;done) |(go_simp;rfl));intro gb356 hg w4 hbox hb;have n0_:=Aside0.mk (below_step (by repeat (first |(with_reducible first |exact HB.out |apply below_alloc |apply pw_below_drewN |apply below_drew1) |exact HB.out)) hb);have n1_:=Aside0.mk (hbox);have n2_:=Aside0.mk ((by rw [hg];exact (below_size (by repeat (first |(with_reducible first |exact HB.out |apply below_alloc |apply pw_below_drewN |apply below_drew1) |exact HB.out))):w.heap.size≤gb356));have n3_:=Aside0.mk ((by rw [hg];exact (below_size (by repeat (first |(with_reducible first |exact HB.out |apply below_alloc |apply pw_below_drewN |apply below_drew1) |exact HB.out))):w.heap.size≤gb356));clear HB;have HB:=n0_;have BK356:=n1_;have GW356:=n2_;have GE356:=n3_;clear n0_ n1_ n2_ n3_;clear hb hbox hg) |((with_reducible refine gate_dst (N:=3) rfl ?_);(try (refine gate_guard (by rfl) ?_;dsimp only));refine box_event ?hg (N:=3) ?hd (cs:=#[.slice A1_0 l1_0.length c1_0,.slice A1_1 l1_1.length c1_1,.int .i64 a1_2]) (t:=29) ?hr ?_;(case hd=>rfl);(case hg=>rfl);(case hr=>first |(go_simp;done) |(go_simp;rfl));intro gb357 hg w5 hbox hb;have n0_:=Aside0.mk (blk_below (g:=gb356) (o:=.cells #[.slice A0_0 l0_0.length c0_0,.slice A0_1 l0_1.length c0_1,.int .i64 a0_2] 29 (0,0)) (by (with_reducible repeat (first |refine blk_drewN ?_ _ |refine blk_drew ?_ |refine blk_alloc ?_ _));exact BK356.out) hb);have n1_:=Aside0.mk (below_step (by repeat (first |(with_reducible first |exact HB.out |apply below_alloc |apply pw_below_drewN |apply below_drew1 |refine below_set ?_ GE356.out) |exact HB.out)) hb);have n2_:=Aside0.mk (hbox);have n3_:=Aside0.mk ((by rw [hg];exact (below_size (by repeat (first |(with_reducible first |exact HB.out |apply below_alloc |apply pw_below_drewN |apply below_drew1 |refine below_set ?_ GE356.out) |exact HB.out))):w.heap.size≤gb357));have n4_:=Aside0.mk ((by rw [hg];exact (below_size (by repeat (first |(with_reducible first |exact HB.out |apply below_alloc |apply pw_below_drewN |apply below_drew1 |refine below_set ?_ GE356.out) |exact HB.out))):w.heap.size≤gb357));have n5_:=Aside0.mk ((by rw [hg];exact Nat.ne_of_lt (blk_lt (g:=gb356) (o:=.cells #[.slice A0_0 l0_0.length c0_0,.slice A0_1 l0_1.length c0_1,.int .i64 a0_2] 29 (0,0)) (by (with_reducible repeat (first |refine blk_drewN ?_ _ |refine blk_drew ?_ |refine blk_alloc ?_ _));exact BK356.out)):gb356≠gb357));have n6_:=Aside0.mk ((by rw [hg];exact Nat.ne_of_gt (blk_lt (g:=gb356) (o:=.cells #[.slice A0_0 l0_0.length c0_0,.slice A0_1 l0_1.length c0_1,.int .i64 a0_2] 29 (0,0)) (by (with_reducible repeat (first |refine blk_drewN ?_ _ |refine blk_drew ?_ |refine blk_alloc ?_ _));exact BK356.out)):gb357≠gb356));clear BK356;clear HB;have BK356:=n0_;have HB:=n1_;have BK357:=n2_;have GW357:=n3_;have GE357:=n4_;have NB356_357:=n5_;have NB357_356:=n6_;clear n0_ n1_ n2_ n3_ n4_ n5_ n6_;clear hb hbox hg));go_upto_region 1 with (first |((with_reducible refine gate_dst (N:=2) rfl ?_);(try (refine gate_guard (by rfl) ?_;dsimp only));refine box_event ?hg (N:=2) ?hd (cs:=#[.slice A0_0 l0_0.length c0_0,.slice A0_1 l0_1.length c0_1,.int .i64 a0_2]) (t:=29) ?hr ?_;(case hd=>rfl);(case hg=>rfl);(case hr=>first |(go_simp;done) |(go_simp;rfl));intro gb356 hg w4 hbox hb;have n0_:=Aside0.mk (below_step (by repeat (first |(with_reducible first |exact HB.out |apply below_alloc |apply pw_below_drewN |apply below_drew1) |exact HB.out)) hb);have n1_:=Aside0.mk (hbox);have n2_:=Aside0.mk ((by rw [hg];exact (below_size (by repeat (first |(with_reducible first |exact HB.out |apply below_alloc |apply pw_below_drewN |apply below_drew1) |exact HB.out))):w.heap.size≤gb356));have n3_:=Aside0.mk ((by rw [hg];exact (below_size (by repeat (first |(with_reducible first |exact HB.out |apply below_alloc |apply pw_below_drewN |apply below_drew1) |exact HB.out))):w.heap.size≤gb356));clear HB;have HB:=n0_;have BK356:=n1_;have GW356:=n2_;have GE356:=n3_;clear n0_ n1_ n2_ n3_;clear hb hbox hg) |((with_reducible refine gate_dst (N:=3) rfl ?_);(try (refine gate_guard (by rfl) ?_;dsimp only));refine box_event ?hg (N:=3) ?hd (cs:=#[.slice A1_0 l1_0.length c1_0,.slice A1_1 l1_1.length c1_1,.int .i64 a1_2]) (t:=29) ?hr ?_;(case hd=>rfl);(case hg=>rfl);(case hr=>first |(go_simp;done) |(go_simp;rfl));intro gb357 hg w5 hbox hb;have n0_:=Aside0.mk (blk_below (g:=gb356) (o:=.cells #[.slice A0_0 l0_0.length c0_0,.slice A0_1 l0_1.length c0_1,.int .i64 a0_2] 29 (0,0)) (by (with_reducible repeat (first |refine blk_drewN ?_ _ |refine blk_drew ?_ |refine blk_alloc ?_ _));exact BK356.out) hb);have n1_:=Aside0.mk (below_step (by repeat (first |(with_reducible first |exact HB.out |apply below_alloc |apply pw_below_drewN |apply below_drew1 |refine below_set ?_ GE356.out) |exact HB.out)) hb);have n2_:=Aside0.mk (hbox);have n3_:=Aside0.mk ((by rw [hg];exact (below_size (by repeat (first |(with_reducible first |exact HB.out |apply below_alloc |apply pw_below_drewN |apply below_drew1 |refine below_set ?_ GE356.out) |exact HB.out))):w.heap.size≤gb357));have n4_:=Aside0.mk ((by rw [hg];exact (below_size (by repeat (first |(with_reducible first |exact HB.out |apply below_alloc |apply pw_below_drewN |apply below_drew1 |refine below_set ?_ GE356.out) |exact HB.out))):w.heap.size≤gb357));have n5_:=Aside0.mk ((by rw [hg];exact Nat.ne_of_lt (blk_lt (g:=gb356) (o:=.cells #[.slice A0_0 l0_0.length c0_0,.slice A0_1 l0_1.length c0_1,.int .i64 a0_2] 29 (0,0)) (by (with_reducible repeat (first |refine blk_drewN ?_ _ |refine blk_drew ?_ |refine blk_alloc ?_ _));exact BK356.out)):gb356≠gb357));have n6_:=Aside0.mk ((by rw [hg];exact Nat.ne_of_gt (blk_lt (g:=gb356) (o:=.cells #[.slice A0_0 l0_0.length c0_0,.slice A0_1 l0_1.length c0_1,.int .i64 a0_2] 29 (0,0)) (by (with_reducible repeat (first |refine blk_drewN ?_ _ |refine blk_drew ?_ |refine blk_alloc ?_ _));exact BK356.out)):gb357≠gb356));clear BK356;clear HB;have BK356:=n0_;have HB:=n1_;have BK357:=n2_;have GW357:=n3_;have GE357:=n4_;have NB356_357:=n5_;have NB357_356:=n6_;clear n0_ n1_ n2_ n3_ n4_ n5_ n6_;clear hb hbox hg)))
 (try simp only [Act.put,List.setIfInBounds_toArray,List.set_cons_zero,List.set_cons_succ])
 go_cut [27] (fun v27 wc=>∃ (kq:Nat) (x27_2:Bool),v27=.bool x27_2∧Aside0 (hibernacleref16_SameDrive.j0 kq x27_2 l0_0 l0_1 a0_2 l1_0 l1_1 a1_2=some r)∧Aside0 (kq≤k)∧Aside0 (wc.heap[gb356]?=some (.cells #[(.slice A0_0 l0_0.length c0_0),(.slice A0_1 l0_1.length c0_1),.int .i64 a0_2] 29 (0,0)))∧Aside0 (wc.heap[gb357]?=some (.cells #[(.slice A1_0 l1_0.length c1_0),(.slice A1_1 l1_1.length c1_1),.int .i64 a1_2] 29 (0,0)))∧Aside0 (Below w.heap.size w wc))
 case first=>
  have H:=HC3.out
  clear HC3
  by_cases c6:a0_2=a1_2
  ·rw [if_pos c6] at H
   have c6b0:(a0_2 == a1_2)=true:=beq_iff_eq.mpr c6
   have c6b1:(a0_2 != a1_2)=false:=bne_eq_false_iff_eq.mpr c6
   clear c6
   (first |rw [c6b0] |(simp only [i64_w,i32_w];rw [c6b0]) |skip)
   by_cases c7:(l0_1.length:Int)=(l1_1.length:Int)
   ·rw [if_pos c7] at H
    have c7b0:((l0_1.length:Int) == (l1_1.length:Int))=true:=beq_iff_eq.mpr c7
    have c7b1:((l0_1.length:Int) != (l1_1.length:Int))=false:=bne_eq_false_iff_eq.mpr c7
    have c7b2:(l0_1.length == l1_1.length)=true:=by first |simpa using c7 |(simp at c7 ⊢;omega)
    clear c7
    replace H:=Option.bind_eq_some_iff.mp H
    obtain ⟨t358,A80,H⟩:=H
    replace H:(hibernacleref16_SameDrive.j0 k (!t358) l0_0 l0_1 a0_2 l1_0 l1_1 a1_2)=some r:=H
    have A8:=Aside0.mk A80
    clear A80
    have H':=Aside0.mk H
    clear H
    have hnb9:=NB356_357.out
    have hnc9:=NB357_356.out
    have hcz10_0:w5.cell? ⟨gb356,0,none⟩=some (.slice A0_0 l0_0.length c0_0):=(blk_cell BK356.out 0).trans rfl
    have hcz10_1:w5.cell? ⟨gb356,1,none⟩=some (.slice A0_1 l0_1.length c0_1):=(blk_cell BK356.out 1).trans rfl
    have hcz10_2:w5.cell? ⟨gb356,2,none⟩=some (.int .i64 a0_2):=(blk_cell BK356.out 2).trans rfl
    have hfz10_0:=blk_frozen BK356.out 0
    have hfz10_1:=blk_frozen BK356.out 1
    have hfz10_2:=blk_frozen BK356.out 2
    have hcz11_0:w5.cell? ⟨gb357,0,none⟩=some (.slice A1_0 l1_0.length c1_0):=(blk_cell BK357.out 0).trans rfl
    have hcz11_1:w5.cell? ⟨gb357,1,none⟩=some (.slice A1_1 l1_1.length c1_1):=(blk_cell BK357.out 1).trans rfl
    have hcz11_2:w5.cell? ⟨gb357,2,none⟩=some (.int .i64 a1_2):=(blk_cell BK357.out 2).trans rfl
    have hfz11_0:=blk_frozen BK357.out 0
    have hfz11_1:=blk_frozen BK357.out 1
    have hfz11_2:=blk_frozen BK357.out 2
    go_wp2_with (first |(go_at_call 24;(with_reducible refine (hibernacleref16_SameBlocks.calls k _ _ l0_0 _ _ l1_0 t358 _ ?side1 ?side2 ?side3 ?side4 A8.out).mono ?_);(case side1=>repeat (first |exact (Kd.C_below HR0_0.out HB.out) |(with_reducible refine Kd.C_alloc ?_ _) |(with_reducible refine Kd.C_drewN ?_ _) |(with_reducible refine Kd.C_drew ?_)));(case side2=>exact HC0_0.out);(case side3=>repeat (first |exact (Kd.C_below HR1_0.out HB.out) |(with_reducible refine Kd.C_alloc ?_ _) |(with_reducible refine Kd.C_drewN ?_ _) |(with_reducible refine Kd.C_drew ?_)));(case side4=>exact HC1_0.out);rintro e w' ⟨rfl,⟨nd,rfl⟩⟩;(try first |exact ⟨rfl,_,World.drewN_drewN _ _ _⟩ |exact ⟨rfl,_,Eq.trans (World.drewN_drewN _ _ _) (congrArg (World.drewN _) (Nat.add_assoc _ _ _))⟩)))
    repeat (go_quiet (first |(go_at_call 24;(with_reducible refine (hibernacleref16_SameBlocks.calls k _ _ l0_0 _ _ l1_0 t358 _ ?side1 ?side2 ?side3 ?side4 A8.out).mono ?_);(case side1=>repeat (first |exact (Kd.C_below HR0_0.out HB.out) |(with_reducible refine Kd.C_alloc ?_ _) |(with_reducible refine Kd.C_drewN ?_ _) |(with_reducible refine Kd.C_drew ?_)));(case side2=>exact HC0_0.out);(case side3=>repeat (first |exact (Kd.C_below HR1_0.out HB.out) |(with_reducible refine Kd.C_alloc ?_ _) |(with_reducible refine Kd.C_drewN ?_ _) |(with_reducible refine Kd.C_drew ?_)));(case side4=>exact HC1_0.out);rintro e w' ⟨rfl,⟨nd,rfl⟩⟩;(try first |exact ⟨rfl,_,World.drewN_drewN _ _ _⟩ |exact ⟨rfl,_,Eq.trans (World.drewN_drewN _ _ _) (congrArg (World.drewN _) (Nat.add_assoc _ _ _))⟩)));try go_wp2_with (first |(go_at_call 24;(with_reducible refine (hibernacleref16_SameBlocks.calls k _ _ l0_0 _ _ l1_0 t358 _ ?side1 ?side2 ?side3 ?side4 A8.out).mono ?_);(case side1=>repeat (first |exact (Kd.C_below HR0_0.out HB.out) |(with_reducible refine Kd.C_alloc ?_ _) |(with_reducible refine Kd.C_drewN ?_ _) |(with_reducible refine Kd.C_drew ?_)));(case side2=>exact HC0_0.out);(case side3=>repeat (first |exact (Kd.C_below HR1_0.out HB.out) |(with_reducible refine Kd.C_alloc ?_ _) |(with_reducible refine Kd.C_drewN ?_ _) |(with_reducible refine Kd.C_drew ?_)));(case side4=>exact HC1_0.out);rintro e w' ⟨rfl,⟨nd,rfl⟩⟩;(try first |exact ⟨rfl,_,World.drewN_drewN _ _ _⟩ |exact ⟨rfl,_,Eq.trans (World.drewN_drewN _ _ _) (congrArg (World.drewN _) (Nat.add_assoc _ _ _))⟩))))
    go_meet
    case rel=>exact ⟨_,(!t358),(by first |rfl |(simp;done) |(simp [*];done)),H',⟨by first |omega |exact Nat.le_refl _⟩,⟨by (with_reducible repeat (first |refine blk_drewN ?_ _ |refine blk_drew ?_ |refine blk_alloc ?_ _));exact BK356.out⟩,⟨by (with_reducible repeat (first |refine blk_drewN ?_ _ |refine blk_drew ?_ |refine blk_alloc ?_ _));exact BK357.out⟩,⟨by repeat (first |(with_reducible first |exact HB.out |apply below_alloc |apply pw_below_drewN |apply below_drew1 |refine below_set ?_ GE356.out |refine below_set ?_ GE357.out) |exact HB.out)⟩⟩
   ·rw [if_neg c7] at H
    have c7b0:((l0_1.length:Int) == (l1_1.length:Int))=false:=beq_eq_false_iff_ne.mpr c7
    have c7b1:((l0_1.length:Int) != (l1_1.length:Int))=true:=bne_iff_ne.mpr c7
    have c7b2:(l0_1.length == l1_1.length)=false:=by first |simpa using c7 |(simp at c7 ⊢;omega)
    have H':=Aside0.mk H
    clear H
    have hnb12:=NB356_357.out
    have hnc12:=NB357_356.out
    have hcz13_0:w5.cell? ⟨gb356,0,none⟩=some (.slice A0_0 l0_0.length c0_0):=(blk_cell BK356.out 0).trans rfl
    have hcz13_1:w5.cell? ⟨gb356,1,none⟩=some (.slice A0_1 l0_1.length c0_1):=(blk_cell BK356.out 1).trans rfl
    have hcz13_2:w5.cell? ⟨gb356,2,none⟩=some (.int .i64 a0_2):=(blk_cell BK356.out 2).trans rfl
    have hfz13_0:=blk_frozen BK356.out 0
    have hfz13_1:=blk_frozen BK356.out 1
    have hfz13_2:=blk_frozen BK356.out 2
    have hcz14_0:w5.cell? ⟨gb357,0,none⟩=some (.slice A1_0 l1_0.length c1_0):=(blk_cell BK357.out 0).trans rfl
    have hcz14_1:w5.cell? ⟨gb357,1,none⟩=some (.slice A1_1 l1_1.length c1_1):=(blk_cell BK357.out 1).trans rfl
    have hcz14_2:w5.cell? ⟨gb357,2,none⟩=some (.int .i64 a1_2):=(blk_cell BK357.out 2).trans rfl
    have hfz14_0:=blk_frozen BK357.out 0
    have hfz14_1:=blk_frozen BK357.out 1
    have hfz14_2:=blk_frozen BK357.out 2
    go_wp2
    repeat (go_quiet (fail);try go_wp2)
    go_meet
    case rel=>exact ⟨_,(true),(by first |rfl |(simp;done) |(simp [*];done)),H',⟨by first |omega |exact Nat.le_refl _⟩,⟨by (with_reducible repeat (first |refine blk_drewN ?_ _ |refine blk_drew ?_ |refine blk_alloc ?_ _));exact BK356.out⟩,⟨by (with_reducible repeat (first |refine blk_drewN ?_ _ |refine blk_drew ?_ |refine blk_alloc ?_ _));exact BK357.out⟩,⟨by repeat (first |(with_reducible first |exact HB.out |apply below_alloc |apply pw_below_drewN |apply below_drew1 |refine below_set ?_ GE356.out |refine below_set ?_ GE357.out) |exact HB.out)⟩⟩
  ·rw [if_neg c6] at H
   have c6b0:(a0_2 == a1_2)=false:=beq_eq_false_iff_ne.mpr c6
   have c6b1:(a0_2 != a1_2)=true:=bne_iff_ne.mpr c6
   (first |rw [c6b0] |(simp only [i64_w,i32_w];rw [c6b0]) |skip)
   have H':=Aside0.mk H
   clear H
   have hnb15:=NB356_357.out
   have hnc15:=NB357_356.out
   have hcz16_0:w5.cell? ⟨gb356,0,none⟩=some (.slice A0_0 l0_0.length c0_0):=(blk_cell BK356.out 0).trans rfl
   have hcz16_1:w5.cell? ⟨gb356,1,none⟩=some (.slice A0_1 l0_1.length c0_1):=(blk_cell BK356.out 1).trans rfl
   have hcz16_2:w5.cell? ⟨gb356,2,none⟩=some (.int .i64 a0_2):=(blk_cell BK356.out 2).trans rfl
   have hfz16_0:=blk_frozen BK356.out 0
   have hfz16_1:=blk_frozen BK356.out 1
   have hfz16_2:=blk_frozen BK356.out 2
   have hcz17_0:w5.cell? ⟨gb357,0,none⟩=some (.slice A1_0 l1_0.length c1_0):=(blk_cell BK357.out 0).trans rfl
   have hcz17_1:w5.cell? ⟨gb357,1,none⟩=some (.slice A1_1 l1_1.length c1_1):=(blk_cell BK357.out 1).trans rfl
   have hcz17_2:w5.cell? ⟨gb357,2,none⟩=some (.int .i64 a1_2):=(blk_cell BK357.out 2).trans rfl
   have hfz17_0:=blk_frozen BK357.out 0
   have hfz17_1:=blk_frozen BK357.out 1
   have hfz17_2:=blk_frozen BK357.out 2
   go_wp2
   repeat (go_quiet (fail);try go_wp2)
   go_meet
   case rel=>exact ⟨_,(true),(by first |rfl |(simp;done) |(simp [*];done)),H',⟨by first |omega |exact Nat.le_refl _⟩,⟨by (with_reducible repeat (first |refine blk_drewN ?_ _ |refine blk_drew ?_ |refine blk_alloc ?_ _));exact BK356.out⟩,⟨by (with_reducible repeat (first |refine blk_drewN ?_ _ |refine blk_drew ?_ |refine blk_alloc ?_ _));exact BK357.out⟩,⟨by repeat (first |(with_reducible first |exact HB.out |apply below_alloc |apply pw_below_drewN |apply below_drew1 |refine below_set ?_ GE356.out |refine below_set ?_ GE357.out) |exact HB.out)⟩⟩
 case rest=>
  clear HC3
  try clear c1
  try clear c2
  try clear p2
  try clear c6
  try clear c6b0
  try clear c6b1
  try clear c7
  try clear c7b0
  try clear c7b1
  try clear c7b2
  try clear c9
  try clear c12
  try clear c15
  try clear hcz10_0
  try clear hcz10_1
  try clear hcz10_2
  try clear hcz11_0
  try clear hcz11_1
  try clear hcz11_2
  try clear hcz13_0
  try clear hcz13_1
  try clear hcz13_2
  try clear hcz14_0
  try clear hcz14_1
  try clear hcz14_2
  try clear hcz16_0
  try clear hcz16_1
  try clear hcz16_2
  try clear hcz17_0
  try clear hcz17_1
  try clear hcz17_2
  try clear hfz10_0
  try clear hfz10_1
  try clear hfz10_2
  try clear hfz11_0
  try clear hfz11_1
  try clear hfz11_2
  try clear hfz13_0
  try clear hfz13_1
  try clear hfz13_2
  try clear hfz14_0
  try clear hfz14_1
  try clear hfz14_2
  try clear hfz16_0
  try clear hfz16_1
  try clear hfz16_2
  try clear hfz17_0
  try clear hfz17_1
  try clear hfz17_2
  obtain ⟨kq,x27_2,rfl,HA,HJ2,BK356,BK357,HB⟩:=hcut
  cases kq with
  | zero=>exact absurd HA.out (by simp [hibernacleref16_SameDrive.j0])
  | succ kj2=>
   have H:=HA.out
   clear HA
   simp only [hibernacleref16_SameDrive.j0] at H
   by_cases c18:x27_2=true
   ·subst c18
    have H1:(some false)=some r:=by rw [if_pos rfl] at H;exact H
    clear H
    have H:=H1
    clear H1
    obtain rfl:=Option.some.inj H
    go_wp2
    repeat (go_quiet (fail);try go_wp2)
    go_ret
    exact ⟨by first |rfl |(simp [errW_none,errW_some] <;> rfl) |(simp [*,errW_none,errW_some] <;> rfl),by repeat (first |(with_reducible first |exact HB.out |apply below_alloc |apply pw_below_drewN |apply below_drew1 |refine below_set ?_ GE356.out |refine below_set ?_ GE357.out) |exact HB.out)⟩
   ·replace c18:=Bool.eq_false_iff.mpr c18
    subst c18
    have H1:(hibernacleref16_SameDrive.l0 kj2 (l0_1.length:Int) 0 l0_0 l0_1 a0_2 l1_0 l1_1 a1_2)=some r:=by rw [if_neg (show ¬ (false=true) by decide)] at H;exact H
    clear H
    have H:=H1
    clear H1
    have H':=Aside0.mk H
    clear H
    have hnb19:=NB356_357.out
    have hnc19:=NB357_356.out
    have hcz20_0:wc.cell? ⟨gb356,0,none⟩=some (.slice A0_0 l0_0.length c0_0):=(blk_cell BK356.out 0).trans rfl
    have hcz20_1:wc.cell? ⟨gb356,1,none⟩=some (.slice A0_1 l0_1.length c0_1):=(blk_cell BK356.out 1).trans rfl
    have hcz20_2:wc.cell? ⟨gb356,2,none⟩=some (.int .i64 a0_2):=(blk_cell BK356.out 2).trans rfl
    have hfz20_0:=blk_frozen BK356.out 0
    have hfz20_1:=blk_frozen BK356.out 1
    have hfz20_2:=blk_frozen BK356.out 2
    go_wp2
    repeat (go_quiet (fail);try go_wp2)
    go_loopg [31] kj2 (fun kq v31 w'=>∃ (x31_2:Int),v31=.int .i64 x31_2∧Aside0 (hibernacleref16_SameDrive.l0 kq (l0_1.length:Int) x31_2 l0_0 l0_1 a0_2 l1_0 l1_1 a1_2=some r)∧Aside0 (kq≤kj2)∧Aside0 (w'.heap[gb356]?=some (.cells #[(.slice A0_0 l0_0.length c0_0),(.slice A0_1 l0_1.length c0_1),.int .i64 a0_2] 29 (0,0)))∧Aside0 (w'.heap[gb357]?=some (.cells #[(.slice A1_0 l1_0.length c1_0),(.slice A1_1 l1_1.length c1_1),.int .i64 a1_2] 29 (0,0)))∧Aside0 (Below w.heap.size w w'))
    case atStart=>exact ⟨(0),(by first |rfl |(simp;done) |(simp [*];done)),H',⟨Nat.le_refl _⟩,⟨by (with_reducible repeat (first |refine blk_drewN ?_ _ |refine blk_drew ?_ |refine blk_alloc ?_ _));exact BK356.out⟩,⟨by (with_reducible repeat (first |refine blk_drewN ?_ _ |refine blk_drew ?_ |refine blk_alloc ?_ _));exact BK357.out⟩,⟨by repeat (first |(with_reducible first |exact HB.out |apply below_alloc |apply pw_below_drewN |apply below_drew1 |refine below_set ?_ GE356.out |refine below_set ?_ GE357.out) |exact HB.out)⟩⟩
    case round=>
     clear H'
     try clear c1
     try clear c2
     try clear p2
     try clear c6
     try clear c6b0
     try clear c6b1
     try clear c7
     try clear c7b0
     try clear c7b1
     try clear c7b2
     try clear c9
     try clear c12
     try clear c15
     try clear c18
     try clear c19
     try clear hcz10_0
     try clear hcz10_1
     try clear hcz10_2
     try clear hcz11_0
     try clear hcz11_1
     try clear hcz11_2
     try clear hcz13_0
     try clear hcz13_1
     try clear hcz13_2
     try clear hcz14_0
     try clear hcz14_1
     try clear hcz14_2
     try clear hcz16_0
     try clear hcz16_1
     try clear hcz16_2
     try clear hcz17_0
     try clear hcz17_1
     try clear hcz17_2
     try clear hcz20_0
     try clear hcz20_1
     try clear hcz20_2
     try clear hfz10_0
     try clear hfz10_1
     try clear hfz10_2
     try clear hfz11_0
     try clear hfz11_1
     try clear hfz11_2
     try clear hfz13_0
     try clear hfz13_1
     try clear hfz13_2
     try clear hfz14_0
     try clear hfz14_1
     try clear hfz14_2
     try clear hfz16_0
     try clear hfz16_1
     try clear hfz16_2
     try clear hfz17_0
     try clear hfz17_1
     try clear hfz17_2
     try clear hfz20_0
     try clear hfz20_1
     try clear hfz20_2
     try clear p2
     obtain ⟨x31_2,rfl,HA,HK2,BK356,BK357,HB⟩:=hrel
     cases gk with
     | zero=>exact absurd HA.out (by simp [hibernacleref16_SameDrive.l0])
     | succ k2=>
      have H:=HA.out
      clear HA
      simp only [hibernacleref16_SameDrive.l0] at H
      by_cases c21:x31_2<(l0_1.length:Int)
      ·rw [if_pos c21] at H
       have c21b0:decide (x31_2<(l0_1.length:Int))=true:=decide_eq_true c21
       clear c21
       by_cases c22:0≤x31_2
       ·rw [if_pos c22] at H
        have c22b0:decide (0≤x31_2)=true:=decide_eq_true c22
        clear c22
        by_cases c23:x31_2<(l0_1.length:Int)
        ·rw [if_pos c23] at H
         have c23b0:decide (x31_2<(l0_1.length:Int))=true:=decide_eq_true c23
         clear c23
         by_cases c24:x31_2<(l1_1.length:Int)
         ·rw [if_pos c24] at H
          have c24b0:decide (x31_2<(l1_1.length:Int))=true:=decide_eq_true c24
          clear c24
          by_cases c25:(!(((rd_T27 l0_1 x31_2).f0) == ((rd_T27 l1_1 x31_2).f0)) || (!((((rd_T27 l0_1 x31_2).f1).toList) == (((rd_T27 l1_1 x31_2).f1).toList))))=true
          ·rw [if_pos c25] at H
           have c25b0:(!(((rd_T27 l0_1 x31_2).f0) == ((rd_T27 l1_1 x31_2).f0)) || (!((((rd_T27 l0_1 x31_2).f1).toList) == (((rd_T27 l1_1 x31_2).f1).toList))))=true:=c25
           clear c25
           obtain rfl:=Option.some.inj H
           have hnb26:=NB356_357.out
           have hnc26:=NB357_356.out
           have hcz27_0:wr.cell? ⟨gb356,0,none⟩=some (.slice A0_0 l0_0.length c0_0):=(blk_cell BK356.out 0).trans rfl
           have hcz27_1:wr.cell? ⟨gb356,1,none⟩=some (.slice A0_1 l0_1.length c0_1):=(blk_cell BK356.out 1).trans rfl
           have hcz27_2:wr.cell? ⟨gb356,2,none⟩=some (.int .i64 a0_2):=(blk_cell BK356.out 2).trans rfl
           have hfz27_0:=blk_frozen BK356.out 0
           have hfz27_1:=blk_frozen BK356.out 1
           have hfz27_2:=blk_frozen BK356.out 2
           have p359:0≤(x31_2:Int):=of_decide_eq_true (by first |(with_reducible assumption) |assumption)
           have q359:x31_2<(l0_1.length:Int):=of_decide_eq_true (by first |(with_reducible assumption) |assumption)
           obtain ⟨ad359,e359,hx359_0,hx359_1⟩:=at_T27 HR0_1.out x31_2 p359 q359
           cases e359
           replace hx359_0:=(HB.out.cell (World.block_lt_of_cell? w _ hx359_0)).trans hx359_0
           replace hx359_1:=(HB.out.cell (World.block_lt_of_cell? w _ hx359_1)).trans hx359_1
           replace p359:=eq_true p359
           replace q359:=eq_true q359
           have hcz28_0:wr.cell? ⟨gb357,0,none⟩=some (.slice A1_0 l1_0.length c1_0):=(blk_cell BK357.out 0).trans rfl
           have hcz28_1:wr.cell? ⟨gb357,1,none⟩=some (.slice A1_1 l1_1.length c1_1):=(blk_cell BK357.out 1).trans rfl
           have hcz28_2:wr.cell? ⟨gb357,2,none⟩=some (.int .i64 a1_2):=(blk_cell BK357.out 2).trans rfl
           have hfz28_0:=blk_frozen BK357.out 0
           have hfz28_1:=blk_frozen BK357.out 1
           have hfz28_2:=blk_frozen BK357.out 2
           have p360:0≤(x31_2:Int):=of_decide_eq_true (by first |(with_reducible assumption) |assumption)
           have q360:x31_2<(l1_1.length:Int):=of_decide_eq_true (by first |(with_reducible assumption) |assumption)
           obtain ⟨ad360,e360,hx360_0,hx360_1⟩:=at_T27 HR1_1.out x31_2 p360 q360
           cases e360
           replace hx360_0:=(HB.out.cell (World.block_lt_of_cell? w _ hx360_0)).trans hx360_0
           replace hx360_1:=(HB.out.cell (World.block_lt_of_cell? w _ hx360_1)).trans hx360_1
           replace p360:=eq_true p360
           replace q360:=eq_true q360
           go_wp2
           repeat (go_quiet (fail);try go_wp2)
           go_ret
           exact ⟨by first |rfl |(simp [errW_none,errW_some] <;> rfl) |(simp [*,errW_none,errW_some] <;> rfl),by repeat (first |(with_reducible first |exact HB.out |apply below_alloc |apply pw_below_drewN |apply below_drew1 |refine below_set ?_ GE356.out |refine below_set ?_ GE357.out) |exact HB.out)⟩
          ·rw [if_neg c25] at H
           have c25b0:(!(((rd_T27 l0_1 x31_2).f0) == ((rd_T27 l1_1 x31_2).f0)) || (!((((rd_T27 l0_1 x31_2).f1).toList) == (((rd_T27 l1_1 x31_2).f1).toList))))=false:=by simpa using c25
           clear c25
           have H':=Aside0.mk H
           clear H
           have hnb29:=NB356_357.out
           have hnc29:=NB357_356.out
           have hcz30_0:wr.cell? ⟨gb356,0,none⟩=some (.slice A0_0 l0_0.length c0_0):=(blk_cell BK356.out 0).trans rfl
           have hcz30_1:wr.cell? ⟨gb356,1,none⟩=some (.slice A0_1 l0_1.length c0_1):=(blk_cell BK356.out 1).trans rfl
           have hcz30_2:wr.cell? ⟨gb356,2,none⟩=some (.int .i64 a0_2):=(blk_cell BK356.out 2).trans rfl
           have hfz30_0:=blk_frozen BK356.out 0
           have hfz30_1:=blk_frozen BK356.out 1
           have hfz30_2:=blk_frozen BK356.out 2
           have p359:0≤(x31_2:Int):=of_decide_eq_true (by first |(with_reducible assumption) |assumption)
           have q359:x31_2<(l0_1.length:Int):=of_decide_eq_true (by first |(with_reducible assumption) |assumption)
           obtain ⟨ad359,e359,hx359_0,hx359_1⟩:=at_T27 HR0_1.out x31_2 p359 q359
           cases e359
           replace hx359_0:=(HB.out.cell (World.block_lt_of_cell? w _ hx359_0)).trans hx359_0
           replace hx359_1:=(HB.out.cell (World.block_lt_of_cell? w _ hx359_1)).trans hx359_1
           replace p359:=eq_true p359
           replace q359:=eq_true q359
           have hcz31_0:wr.cell? ⟨gb357,0,none⟩=some (.slice A1_0 l1_0.length c1_0):=(blk_cell BK357.out 0).trans rfl
           have hcz31_1:wr.cell? ⟨gb357,1,none⟩=some (.slice A1_1 l1_1.length c1_1):=(blk_cell BK357.out 1).trans rfl
           have hcz31_2:wr.cell? ⟨gb357,2,none⟩=some (.int .i64 a1_2):=(blk_cell BK357.out 2).trans rfl
           have hfz31_0:=blk_frozen BK357.out 0
           have hfz31_1:=blk_frozen BK357.out 1
           have hfz31_2:=blk_frozen BK357.out 2
           have p360:0≤(x31_2:Int):=of_decide_eq_true (by first |(with_reducible assumption) |assumption)
           have q360:x31_2<(l1_1.length:Int):=of_decide_eq_true (by first |(with_reducible assumption) |assumption)
           obtain ⟨ad360,e360,hx360_0,hx360_1⟩:=at_T27 HR1_1.out x31_2 p360 q360
           cases e360
           replace hx360_0:=(HB.out.cell (World.block_lt_of_cell? w _ hx360_0)).trans hx360_0
           replace hx360_1:=(HB.out.cell (World.block_lt_of_cell? w _ hx360_1)).trans hx360_1
           replace p360:=eq_true p360
           replace q360:=eq_true q360
           go_wp2
           repeat (go_quiet (fail);try go_wp2)
           go_roundg k2
           case measure=>have:=HJ2.out;have:=HK2.out;omega
           case rel=>exact ⟨(wrap64 (x31_2 + 1)),(by first |rfl |(simp;done) |(simp [*];done)),H',⟨by have:=HJ2.out;have:=HK2.out;omega⟩,⟨by (with_reducible repeat (first |refine blk_drewN ?_ _ |refine blk_drew ?_ |refine blk_alloc ?_ _));exact BK356.out⟩,⟨by (with_reducible repeat (first |refine blk_drewN ?_ _ |refine blk_drew ?_ |refine blk_alloc ?_ _));exact BK357.out⟩,⟨by repeat (first |(with_reducible first |exact HB.out |apply below_alloc |apply pw_below_drewN |apply below_drew1 |refine below_set ?_ GE356.out |refine below_set ?_ GE357.out) |exact HB.out)⟩⟩
         ·rw [if_neg c24] at H
          exact absurd H (by simp)
        ·rw [if_neg c23] at H
         exact absurd H (by simp)
       ·rw [if_neg c22] at H
        exact absurd H (by simp)
      ·rw [if_neg c21] at H
       have c21b0:decide (x31_2<(l0_1.length:Int))=false:=decide_eq_false c21
       clear c21
       obtain rfl:=Option.some.inj H
       go_wp2
       repeat (go_quiet (fail);try go_wp2)
       go_ret
       exact ⟨by first |rfl |(simp [errW_none,errW_some] <;> rfl) |(simp [*,errW_none,errW_some] <;> rfl),by repeat (first |(with_reducible first |exact HB.out |apply below_alloc |apply pw_below_drewN |apply below_drew1 |refine below_set ?_ GE356.out |refine below_set ?_ GE357.out) |exact HB.out)⟩
end Go.Proofs.Ytjfmnkmgnbbfgaa.A
