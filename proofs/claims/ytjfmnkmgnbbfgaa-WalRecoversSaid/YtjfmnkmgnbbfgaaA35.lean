-- Made by drv.py (ours) by way of the kit's print; Lean checks it.
import Derived.Test.YtjfmnkmgnbbfgaaA0
namespace Go.Proofs.Ytjfmnkmgnbbfgaa.A
open Go.RowKit Go.Proofs.YtjfmnkmgnbbfgaaW.PrintWords Go.Proofs.YtjfmnkmgnbbfgaaW.PrintLast Go.Proofs.YtjfmnkmgnbbfgaaW.PrintMore
attribute [local go_sem] max2_int min2_int max_two min_two max_three min_three max_four min_four   -- for this text's walks alone
set_option linter.unusedVariables false
set_option linter.unusedSimpArgs false
mutual
def hibernacleref15_Check.l0:Nat→Int→List ByteArray→List (S27)→Int→Option (Int)
 | 0,_,_,_,_=>none
 | k + 1,x3,x248000,x248001,x248002=>if x3<(x248000.length:Int) then (if 0≤x3 then (if ((rdOf ByteArray.empty x248000 x3).size:Int)=128 then (hibernacleref15_Check.l0 k (wrap64 (x3 + 1)) x248000 x248001 x248002) else (some 3)) else (none)) else (hibernacleref15_Check.l1 k 0 x248000 x248001 x248002)
def hibernacleref15_Check.l1:Nat→Int→List ByteArray→List (S27)→Int→Option (Int)
 | 0,_,_,_,_=>none
 | k + 1,x4,x248000,x248001,x248002=>if x4<(x248001.length:Int) then (if 0≤x4 then (if ((rd_T27 x248001 x4).f0)<0 then (hibernacleref15_Check.j2 k x4 true x248000 x248001 x248002) else (hibernacleref15_Check.j2 k x4 (decide (((rd_T27 x248001 x4).f0) ≥ (x248000.length:Int))) x248000 x248001 x248002)) else (none)) else (some 0)
def hibernacleref15_Check.j2:Nat→Int→Bool→List ByteArray→List (S27)→Int→Option (Int)
 | 0,_,_,_,_,_=>none
 | k + 1,x4,x48,x248000,x248001,x248002=>if x48=true then (some 2) else (if 0≤x4 then (if x4<(x248001.length:Int) then (if (((rd_T27 x248001 x4).f1).size:Int)=128 then (hibernacleref15_Check.l1 k (wrap64 (x4 + 1)) x248000 x248001 x248002) else (some 3)) else (none)) else (none))
end
def hibernacleref15_Check.f (k:Nat) (l0_0:List ByteArray) (l0_1:List (S27)) (a0_2:Int):Option (Int):=if (l0_0.length:Int) > 256 then (some 6) else (hibernacleref15_Check.l0 k 0 l0_0 l0_1 a0_2)
theorem hibernacleref15_Check.mono_l:∀ k,(∀ y0 y1 y2 y3,LeO (hibernacleref15_Check.l0 k y0 y1 y2 y3) (hibernacleref15_Check.l0 (k + 1) y0 y1 y2 y3))∧(∀ y0 y1 y2 y3,LeO (hibernacleref15_Check.l1 k y0 y1 y2 y3) (hibernacleref15_Check.l1 (k + 1) y0 y1 y2 y3))∧(∀ y0 y1 y2 y3 y4,LeO (hibernacleref15_Check.j2 k y0 y1 y2 y3 y4) (hibernacleref15_Check.j2 (k + 1) y0 y1 y2 y3 y4))
 | 0=>⟨fun _ _ _ _ r h=>by simp [hibernacleref15_Check.l0] at h,fun _ _ _ _ r h=>by simp [hibernacleref15_Check.l1] at h,fun _ _ _ _ _ r h=>by simp [hibernacleref15_Check.j2] at h⟩
 | k + 1=>by
  obtain ⟨ih0,ih1,ih2⟩:=hibernacleref15_Check.mono_l k
  refine ⟨?_, ?_, ?_⟩
  ·intro y0 y1 y2 y3
   unfold hibernacleref15_Check.l0
   repeat' first
   | (with_reducible exact ih0 _ _ _ _)
   | (with_reducible exact ih1 _ _ _ _)
   | (with_reducible exact ih2 _ _ _ _ _)
   | (with_reducible exact LeO.refl _)
   | (with_reducible exact LeO.none _)
   | (with_reducible refine LeO.ite ?_ ?_)
   | (with_reducible refine LeO.bind ?_ (fun _=>?_))
   | exact ih0 _ _ _ _
   | exact ih1 _ _ _ _
   | exact ih2 _ _ _ _ _
   | exact LeO.none _
   | refine LeO.ite ?_ ?_
   | refine LeO.bind ?_ (fun _=>?_)
  ·intro y0 y1 y2 y3
   unfold hibernacleref15_Check.l1
   repeat' first
   | (with_reducible exact ih0 _ _ _ _)
   | (with_reducible exact ih1 _ _ _ _)
   | (with_reducible exact ih2 _ _ _ _ _)
   | (with_reducible exact LeO.refl _)
   | (with_reducible exact LeO.none _)
   | (with_reducible refine LeO.ite ?_ ?_)
   | (with_reducible refine LeO.bind ?_ (fun _=>?_))
   | exact ih0 _ _ _ _
   | exact ih1 _ _ _ _
   | exact ih2 _ _ _ _ _
   | exact LeO.none _
   | refine LeO.ite ?_ ?_
   | refine LeO.bind ?_ (fun _=>?_)
  ·intro y0 y1 y2 y3 y4
   unfold hibernacleref15_Check.j2
   repeat' first
   | (with_reducible exact ih0 _ _ _ _)
   | (with_reducible exact ih1 _ _ _ _)
   | (with_reducible exact ih2 _ _ _ _ _)
   | (with_reducible exact LeO.refl _)
   | (with_reducible exact LeO.none _)
   | (with_reducible refine LeO.ite ?_ ?_)
   | (with_reducible refine LeO.bind ?_ (fun _=>?_))
   | exact ih0 _ _ _ _
   | exact ih1 _ _ _ _
   | exact ih2 _ _ _ _ _
   | exact LeO.none _
   | refine LeO.ite ?_ ?_
   | refine LeO.bind ?_ (fun _=>?_)
theorem hibernacleref15_Check.mono:∀ a0 a1 a2 k,LeO (hibernacleref15_Check.f k a0 a1 a2) (hibernacleref15_Check.f (k + 1) a0 a1 a2):=by
 intro a0 a1 a2 k
 obtain ⟨ih0,ih1,ih2⟩:=hibernacleref15_Check.mono_l k
 unfold hibernacleref15_Check.f
 repeat' first
   | (with_reducible exact ih0 _ _ _ _)
   | (with_reducible exact ih1 _ _ _ _)
   | (with_reducible exact ih2 _ _ _ _ _)
   | (with_reducible exact LeO.refl _)
   | (with_reducible exact LeO.none _)
   | (with_reducible refine LeO.ite ?_ ?_)
   | (with_reducible refine LeO.bind ?_ (fun _=>?_))
   | exact ih0 _ _ _ _
   | exact ih1 _ _ _ _
   | exact ih2 _ _ _ _ _
   | exact LeO.none _
   | refine LeO.ite ?_ ?_
   | refine LeO.bind ?_ (fun _=>?_)
set_option maxHeartbeats 8000000 in
set_option maxRecDepth 100000 in
theorem hibernacleref15_Check.calls (k:Nat) (A0_0:Option Addr) (c0_0:Nat) (l0_0:List ByteArray) (A0_1:Option Addr) (c0_1:Nat) (l0_1:List (S27)) (a0_2:Int) (r:Int) (w:World) (hr0_0:Kd.C Kd.string w A0_0 l0_0.length l0_0) (hc0_0:l0_0.length≤c0_0) (hr0_1:Kd.C k27 w A0_1 l0_1.length l0_1) (hc0_1:l0_1.length≤c0_1) (h:hibernacleref15_Check.f k l0_0 l0_1 a0_2=some r) :
  Calls Try.prog 35 #[.agg #[.slice A0_0 l0_0.length c0_0,.slice A0_1 l0_1.length c0_1,.int .i64 a0_2]] w fun e w'=>e=.returned (.int .i64 r)∧Below w.heap.size w w':=by
 have hu29:=Try.underlying29
 have HR0_0:=Aside0.mk hr0_0
 have HC0_0:=Aside0.mk hc0_0
 clear hr0_0 hc0_0
 have HR0_1:=Aside0.mk hr0_1
 have HC0_1:=Aside0.mk hc0_1
 clear hr0_1 hc0_1
 have HB:=Aside0.mk (Below.refl w.heap.size w)
 have H:(if (l0_0.length:Int) > 256 then (some 6) else (hibernacleref15_Check.l0 k 0 l0_0 l0_1 a0_2))=some r:=h
 clear h
 by_cases c2:(l0_0.length:Int) > 256
 ·rw [if_pos c2] at H
  have c2b0:decide (256<(l0_0.length:Int))=true:=decide_eq_true c2
  have c2b1:decide (256<l0_0.length)=true:=decide_eq_true (by omega)
  clear c2
  obtain rfl:=Option.some.inj H
  go_enter Try.func35,Try.ntmps35
  go_wp2_with (first |((with_reducible refine gate_dst (N:=1) rfl ?_);(try (refine gate_guard (by rfl) ?_;dsimp only));refine box_event ?hg (N:=1) ?hd (cs:=#[.slice A0_0 l0_0.length c0_0,.slice A0_1 l0_1.length c0_1,.int .i64 a0_2]) (t:=29) ?hr ?_;(case hd=>rfl);(case hg=>rfl);(case hr=>first |(go_simp;done) |(go_simp;rfl));intro gb247 hg w3 hbox hb;have n0_:=Aside0.mk (below_step (by repeat (first |(with_reducible first |exact HB.out |apply below_alloc |apply pw_below_drewN |apply below_drew1) |exact HB.out)) hb);have n1_:=Aside0.mk (hbox);have n2_:=Aside0.mk ((by rw [hg];exact (below_size (by repeat (first |(with_reducible first |exact HB.out |apply below_alloc |apply pw_below_drewN |apply below_drew1) |exact HB.out))):w.heap.size≤gb247));have n3_:=Aside0.mk ((by rw [hg];exact (below_size (by repeat (first |(with_reducible first |exact HB.out |apply below_alloc |apply pw_below_drewN |apply below_drew1) |exact HB.out))):w.heap.size≤gb247));clear HB;have HB:=n0_;have BK247:=n1_;have GW247:=n2_;have GE247:=n3_;clear n0_ n1_ n2_ n3_;clear hb hbox hg;have hcz4_0:w3.cell? ⟨gb247,0,none⟩=some (.slice A0_0 l0_0.length c0_0):=(blk_cell BK247.out 0).trans rfl;have hcz4_1:w3.cell? ⟨gb247,1,none⟩=some (.slice A0_1 l0_1.length c0_1):=(blk_cell BK247.out 1).trans rfl;have hcz4_2:w3.cell? ⟨gb247,2,none⟩=some (.int .i64 a0_2):=(blk_cell BK247.out 2).trans rfl;have hfz4_0:=blk_frozen BK247.out 0;have hfz4_1:=blk_frozen BK247.out 1;have hfz4_2:=blk_frozen BK247.out 2))
  repeat (go_quiet (first |((with_reducible refine gate_dst (N:=1) rfl ?_);(try (refine gate_guard (by rfl) ?_;dsimp only));refine box_event ?hg (N:=1) ?hd (cs:=#[.slice A0_0 l0_0.length c0_0,.slice A0_1 l0_1.length c0_1,.int .i64 a0_2]) (t:=29) ?hr ?_;(case hd=>rfl);(case hg=>rfl);(case hr=>first |(go_simp;done) |(go_simp;rfl));intro gb247 hg w3 hbox hb;have n0_:=Aside0.mk (below_step (by repeat (first |(with_reducible first |exact HB.out |apply below_alloc |apply pw_below_drewN |apply below_drew1) |exact HB.out)) hb);have n1_:=Aside0.mk (hbox);have n2_:=Aside0.mk ((by rw [hg];exact (below_size (by repeat (first |(with_reducible first |exact HB.out |apply below_alloc |apply pw_below_drewN |apply below_drew1) |exact HB.out))):w.heap.size≤gb247));have n3_:=Aside0.mk ((by rw [hg];exact (below_size (by repeat (first |(with_reducible first |exact HB.out |apply below_alloc |apply pw_below_drewN |apply below_drew1) |exact HB.out))):w.heap.size≤gb247));clear HB;have HB:=n0_;have BK247:=n1_;have GW247:=n2_;have GE247:=n3_;clear n0_ n1_ n2_ n3_;clear hb hbox hg;have hcz4_0:w3.cell? ⟨gb247,0,none⟩=some (.slice A0_0 l0_0.length c0_0):=(blk_cell BK247.out 0).trans rfl;have hcz4_1:w3.cell? ⟨gb247,1,none⟩=some (.slice A0_1 l0_1.length c0_1):=(blk_cell BK247.out 1).trans rfl;have hcz4_2:w3.cell? ⟨gb247,2,none⟩=some (.int .i64 a0_2):=(blk_cell BK247.out 2).trans rfl;have hfz4_0:=blk_frozen BK247.out 0;have hfz4_1:=blk_frozen BK247.out 1;have hfz4_2:=blk_frozen BK247.out 2));try go_wp2_with (first |((with_reducible refine gate_dst (N:=1) rfl ?_);(try (refine gate_guard (by rfl) ?_;dsimp only));refine box_event ?hg (N:=1) ?hd (cs:=#[.slice A0_0 l0_0.length c0_0,.slice A0_1 l0_1.length c0_1,.int .i64 a0_2]) (t:=29) ?hr ?_;(case hd=>rfl);(case hg=>rfl);(case hr=>first |(go_simp;done) |(go_simp;rfl));intro gb247 hg w3 hbox hb;have n0_:=Aside0.mk (below_step (by repeat (first |(with_reducible first |exact HB.out |apply below_alloc |apply pw_below_drewN |apply below_drew1) |exact HB.out)) hb);have n1_:=Aside0.mk (hbox);have n2_:=Aside0.mk ((by rw [hg];exact (below_size (by repeat (first |(with_reducible first |exact HB.out |apply below_alloc |apply pw_below_drewN |apply below_drew1) |exact HB.out))):w.heap.size≤gb247));have n3_:=Aside0.mk ((by rw [hg];exact (below_size (by repeat (first |(with_reducible first |exact HB.out |apply below_alloc |apply pw_below_drewN |apply below_drew1) |exact HB.out))):w.heap.size≤gb247));clear HB;have HB:=n0_;have BK247:=n1_;have GW247:=n2_;have GE247:=n3_;clear n0_ n1_ n2_ n3_;clear hb hbox hg;have hcz4_0:w3.cell? ⟨gb247,0,none⟩=some (.slice A0_0 l0_0.length c0_0):=(blk_cell BK247.out 0).trans rfl;have hcz4_1:w3.cell? ⟨gb247,1,none⟩=some (.slice A0_1 l0_1.length c0_1):=(blk_cell BK247.out 1).trans rfl;have hcz4_2:w3.cell? ⟨gb247,2,none⟩=some (.int .i64 a0_2):=(blk_cell BK247.out 2).trans rfl;have hfz4_0:=blk_frozen BK247.out 0;have hfz4_1:=blk_frozen BK247.out 1;have hfz4_2:=blk_frozen BK247.out 2)))
  go_ret
  exact ⟨by first |rfl |(simp [errW_none,errW_some] <;> rfl) |(simp [*,errW_none,errW_some] <;> rfl),by repeat (first |(with_reducible first |exact HB.out |apply below_alloc |apply pw_below_drewN |apply below_drew1 |refine below_set ?_ GE247.out) |exact HB.out)⟩
 ·rw [if_neg c2] at H
  have c2b0:decide (256<(l0_0.length:Int))=false:=decide_eq_false c2
  have c2b1:decide (256<l0_0.length)=false:=decide_eq_false (by omega)
  clear c2
  have H':=Aside0.mk H
  clear H
  go_enter Try.func35,Try.ntmps35
  go_wp2_with (first |((with_reducible refine gate_dst (N:=1) rfl ?_);(try (refine gate_guard (by rfl) ?_;dsimp only));refine box_event ?hg (N:=1) ?hd (cs:=#[.slice A0_0 l0_0.length c0_0,.slice A0_1 l0_1.length c0_1,.int .i64 a0_2]) (t:=29) ?hr ?_;(case hd=>rfl);(case hg=>rfl);(case hr=>first |(go_simp;done) |(go_simp;rfl));intro gb247 hg w5 hbox hb;have n0_:=Aside0.mk (below_step (by repeat (first |(with_reducible first |exact HB.out |apply below_alloc |apply pw_below_drewN |apply below_drew1) |exact HB.out)) hb);have n1_:=Aside0.mk (hbox);have n2_:=Aside0.mk ((by rw [hg];exact (below_size (by repeat (first |(with_reducible first |exact HB.out |apply below_alloc |apply pw_below_drewN |apply below_drew1) |exact HB.out))):w.heap.size≤gb247));have n3_:=Aside0.mk ((by rw [hg];exact (below_size (by repeat (first |(with_reducible first |exact HB.out |apply below_alloc |apply pw_below_drewN |apply below_drew1) |exact HB.out))):w.heap.size≤gb247));clear HB;have HB:=n0_;have BK247:=n1_;have GW247:=n2_;have GE247:=n3_;clear n0_ n1_ n2_ n3_;clear hb hbox hg;have hcz6_0:w5.cell? ⟨gb247,0,none⟩=some (.slice A0_0 l0_0.length c0_0):=(blk_cell BK247.out 0).trans rfl;have hcz6_1:w5.cell? ⟨gb247,1,none⟩=some (.slice A0_1 l0_1.length c0_1):=(blk_cell BK247.out 1).trans rfl;have hcz6_2:w5.cell? ⟨gb247,2,none⟩=some (.int .i64 a0_2):=(blk_cell BK247.out 2).trans rfl;have hfz6_0:=blk_frozen BK247.out 0;have hfz6_1:=blk_frozen BK247.out 1;have hfz6_2:=blk_frozen BK247.out 2))
  repeat (go_quiet (first |((with_reducible refine gate_dst (N:=1) rfl ?_);(try (refine gate_guard (by rfl) ?_;dsimp only));refine box_event ?hg (N:=1) ?hd (cs:=#[.slice A0_0 l0_0.length c0_0,.slice A0_1 l0_1.length c0_1,.int .i64 a0_2]) (t:=29) ?hr ?_;(case hd=>rfl);(case hg=>rfl);(case hr=>first |(go_simp;done) |(go_simp;rfl));intro gb247 hg w5 hbox hb;have n0_:=Aside0.mk (below_step (by repeat (first |(with_reducible first |exact HB.out |apply below_alloc |apply pw_below_drewN |apply below_drew1) |exact HB.out)) hb);have n1_:=Aside0.mk (hbox);have n2_:=Aside0.mk ((by rw [hg];exact (below_size (by repeat (first |(with_reducible first |exact HB.out |apply below_alloc |apply pw_below_drewN |apply below_drew1) |exact HB.out))):w.heap.size≤gb247));have n3_:=Aside0.mk ((by rw [hg];exact (below_size (by repeat (first |(with_reducible first |exact HB.out |apply below_alloc |apply pw_below_drewN |apply below_drew1) |exact HB.out))):w.heap.size≤gb247));clear HB;have HB:=n0_;have BK247:=n1_;have GW247:=n2_;have GE247:=n3_;clear n0_ n1_ n2_ n3_;clear hb hbox hg;have hcz6_0:w5.cell? ⟨gb247,0,none⟩=some (.slice A0_0 l0_0.length c0_0):=(blk_cell BK247.out 0).trans rfl;have hcz6_1:w5.cell? ⟨gb247,1,none⟩=some (.slice A0_1 l0_1.length c0_1):=(blk_cell BK247.out 1).trans rfl;have hcz6_2:w5.cell? ⟨gb247,2,none⟩=some (.int .i64 a0_2):=(blk_cell BK247.out 2).trans rfl;have hfz6_0:=blk_frozen BK247.out 0;have hfz6_1:=blk_frozen BK247.out 1;have hfz6_2:=blk_frozen BK247.out 2));try go_wp2_with (first |((with_reducible refine gate_dst (N:=1) rfl ?_);(try (refine gate_guard (by rfl) ?_;dsimp only));refine box_event ?hg (N:=1) ?hd (cs:=#[.slice A0_0 l0_0.length c0_0,.slice A0_1 l0_1.length c0_1,.int .i64 a0_2]) (t:=29) ?hr ?_;(case hd=>rfl);(case hg=>rfl);(case hr=>first |(go_simp;done) |(go_simp;rfl));intro gb247 hg w5 hbox hb;have n0_:=Aside0.mk (below_step (by repeat (first |(with_reducible first |exact HB.out |apply below_alloc |apply pw_below_drewN |apply below_drew1) |exact HB.out)) hb);have n1_:=Aside0.mk (hbox);have n2_:=Aside0.mk ((by rw [hg];exact (below_size (by repeat (first |(with_reducible first |exact HB.out |apply below_alloc |apply pw_below_drewN |apply below_drew1) |exact HB.out))):w.heap.size≤gb247));have n3_:=Aside0.mk ((by rw [hg];exact (below_size (by repeat (first |(with_reducible first |exact HB.out |apply below_alloc |apply pw_below_drewN |apply below_drew1) |exact HB.out))):w.heap.size≤gb247));clear HB;have HB:=n0_;have BK247:=n1_;have GW247:=n2_;have GE247:=n3_;clear n0_ n1_ n2_ n3_;clear hb hbox hg;have hcz6_0:w5.cell? ⟨gb247,0,none⟩=some (.slice A0_0 l0_0.length c0_0):=(blk_cell BK247.out 0).trans rfl;have hcz6_1:w5.cell? ⟨gb247,1,none⟩=some (.slice A0_1 l0_1.length c0_1):=(blk_cell BK247.out 1).trans rfl;have hcz6_2:w5.cell? ⟨gb247,2,none⟩=some (.int .i64 a0_2):=(blk_cell BK247.out 2).trans rfl;have hfz6_0:=blk_frozen BK247.out 0;have hfz6_1:=blk_frozen BK247.out 1;have hfz6_2:=blk_frozen BK247.out 2)))
  go_loopg [3] k (fun kq v3 w'=>∃ (x3_1:Int),v3=.int .i64 x3_1∧Aside0 (hibernacleref15_Check.l0 kq x3_1 l0_0 l0_1 a0_2=some r)∧Aside0 (kq≤k)∧Aside0 (w'.heap[gb247]?=some (.cells #[(.slice A0_0 l0_0.length c0_0),(.slice A0_1 l0_1.length c0_1),.int .i64 a0_2] 29 (0,0)))∧Aside0 (Below w.heap.size w w'))
  case atStart=>exact ⟨(0),(by first |rfl |(simp;done) |(simp [*];done)),H',⟨Nat.le_refl _⟩,⟨by (with_reducible repeat (first |refine blk_drewN ?_ _ |refine blk_drew ?_ |refine blk_alloc ?_ _));exact BK247.out⟩,⟨by repeat (first |(with_reducible first |exact HB.out |apply below_alloc |apply pw_below_drewN |apply below_drew1 |refine below_set ?_ GE247.out) |exact HB.out)⟩⟩
  case round=>
   clear H'
   try clear c2
   try clear c2b0
   try clear c2b1
   try clear p2
   try clear c3
   try clear hcz4_0
   try clear hcz4_1
   try clear hcz4_2
   try clear hcz6_0
   try clear hcz6_1
   try clear hcz6_2
   try clear hfz4_0
   try clear hfz4_1
   try clear hfz4_2
   try clear hfz6_0
   try clear hfz6_1
   try clear hfz6_2
   obtain ⟨x3_1,rfl,HA,HK1,BK247,HB⟩:=hrel
   cases gk with
   | zero=>exact absurd HA.out (by simp [hibernacleref15_Check.l0])
   | succ k1=>
    have H:=HA.out
    clear HA
    simp only [hibernacleref15_Check.l0] at H
    by_cases c7:x3_1<(l0_0.length:Int)
    ·rw [if_pos c7] at H
     have c7b0:decide (x3_1<(l0_0.length:Int))=true:=decide_eq_true c7
     clear c7
     by_cases c8:0≤x3_1
     ·rw [if_pos c8] at H
      have c8b0:decide (0≤x3_1)=true:=decide_eq_true c8
      clear c8
      by_cases c9:((rdOf ByteArray.empty l0_0 x3_1).size:Int)=128
      ·rw [if_pos c9] at H
       have c9b0:(((rdOf ByteArray.empty l0_0 x3_1).size:Int) == 128)=true:=beq_iff_eq.mpr c9
       have c9b1:(((rdOf ByteArray.empty l0_0 x3_1).size:Int) != 128)=false:=bne_eq_false_iff_eq.mpr c9
       clear c9
       have H':=Aside0.mk H
       clear H
       have hcz10_0:wr.cell? ⟨gb247,0,none⟩=some (.slice A0_0 l0_0.length c0_0):=(blk_cell BK247.out 0).trans rfl
       have hcz10_1:wr.cell? ⟨gb247,1,none⟩=some (.slice A0_1 l0_1.length c0_1):=(blk_cell BK247.out 1).trans rfl
       have hcz10_2:wr.cell? ⟨gb247,2,none⟩=some (.int .i64 a0_2):=(blk_cell BK247.out 2).trans rfl
       have hfz10_0:=blk_frozen BK247.out 0
       have hfz10_1:=blk_frozen BK247.out 1
       have hfz10_2:=blk_frozen BK247.out 2
       have p248:0≤(x3_1:Int):=of_decide_eq_true (by first |(with_reducible assumption) |assumption)
       have q248:x3_1<(l0_0.length:Int):=of_decide_eq_true (by first |(with_reducible assumption) |assumption)
       obtain ⟨ad248,e248,hx248_0⟩:=Kd.at_string HR0_0.out x3_1 p248 q248
       cases e248
       replace hx248_0:=(HB.out.cell (World.block_lt_of_cell? w _ hx248_0)).trans hx248_0
       replace p248:=eq_true p248
       replace q248:=eq_true q248
       go_wp2
       repeat (go_quiet (fail);try go_wp2)
       go_roundg k1
       case measure=>have:=HK1.out;omega
       case rel=>exact ⟨(wrap64 (x3_1 + 1)),(by first |rfl |(simp;done) |(simp [*];done)),H',⟨by have:=HK1.out;omega⟩,⟨by (with_reducible repeat (first |refine blk_drewN ?_ _ |refine blk_drew ?_ |refine blk_alloc ?_ _));exact BK247.out⟩,⟨by repeat (first |(with_reducible first |exact HB.out |apply below_alloc |apply pw_below_drewN |apply below_drew1 |refine below_set ?_ GE247.out) |exact HB.out)⟩⟩
      ·rw [if_neg c9] at H
       have c9b0:(((rdOf ByteArray.empty l0_0 x3_1).size:Int) == 128)=false:=beq_eq_false_iff_ne.mpr c9
       have c9b1:(((rdOf ByteArray.empty l0_0 x3_1).size:Int) != 128)=true:=bne_iff_ne.mpr c9
       obtain rfl:=Option.some.inj H
       have hcz11_0:wr.cell? ⟨gb247,0,none⟩=some (.slice A0_0 l0_0.length c0_0):=(blk_cell BK247.out 0).trans rfl
       have hcz11_1:wr.cell? ⟨gb247,1,none⟩=some (.slice A0_1 l0_1.length c0_1):=(blk_cell BK247.out 1).trans rfl
       have hcz11_2:wr.cell? ⟨gb247,2,none⟩=some (.int .i64 a0_2):=(blk_cell BK247.out 2).trans rfl
       have hfz11_0:=blk_frozen BK247.out 0
       have hfz11_1:=blk_frozen BK247.out 1
       have hfz11_2:=blk_frozen BK247.out 2
       have p248:0≤(x3_1:Int):=of_decide_eq_true (by first |(with_reducible assumption) |assumption)
       have q248:x3_1<(l0_0.length:Int):=of_decide_eq_true (by first |(with_reducible assumption) |assumption)
       obtain ⟨ad248,e248,hx248_0⟩:=Kd.at_string HR0_0.out x3_1 p248 q248
       cases e248
       replace hx248_0:=(HB.out.cell (World.block_lt_of_cell? w _ hx248_0)).trans hx248_0
       replace p248:=eq_true p248
       replace q248:=eq_true q248
       go_wp2
       repeat (go_quiet (fail);try go_wp2)
       go_ret
       exact ⟨by first |rfl |(simp [errW_none,errW_some] <;> rfl) |(simp [*,errW_none,errW_some] <;> rfl),by repeat (first |(with_reducible first |exact HB.out |apply below_alloc |apply pw_below_drewN |apply below_drew1 |refine below_set ?_ GE247.out) |exact HB.out)⟩
     ·rw [if_neg c8] at H
      exact absurd H (by simp)
    ·rw [if_neg c7] at H
     have c7b0:decide (x3_1<(l0_0.length:Int))=false:=decide_eq_false c7
     clear c7
     have H':=Aside0.mk H
     clear H
     have hcz12_0:wr.cell? ⟨gb247,0,none⟩=some (.slice A0_0 l0_0.length c0_0):=(blk_cell BK247.out 0).trans rfl
     have hcz12_1:wr.cell? ⟨gb247,1,none⟩=some (.slice A0_1 l0_1.length c0_1):=(blk_cell BK247.out 1).trans rfl
     have hcz12_2:wr.cell? ⟨gb247,2,none⟩=some (.int .i64 a0_2):=(blk_cell BK247.out 2).trans rfl
     have hfz12_0:=blk_frozen BK247.out 0
     have hfz12_1:=blk_frozen BK247.out 1
     have hfz12_2:=blk_frozen BK247.out 2
     go_wp2
     repeat (go_quiet (fail);try go_wp2)
     go_loopg [4] k1 (fun kq v4 w'=>∃ (x4_2:Int),v4=.int .i64 x4_2∧Aside0 (hibernacleref15_Check.l1 kq x4_2 l0_0 l0_1 a0_2=some r)∧Aside0 (kq≤k1)∧Aside0 (w'.heap[gb247]?=some (.cells #[(.slice A0_0 l0_0.length c0_0),(.slice A0_1 l0_1.length c0_1),.int .i64 a0_2] 29 (0,0)))∧Aside0 (Below w.heap.size w w'))
     case atStart=>exact ⟨(0),(by first |rfl |(simp;done) |(simp [*];done)),H',⟨Nat.le_refl _⟩,⟨by (with_reducible repeat (first |refine blk_drewN ?_ _ |refine blk_drew ?_ |refine blk_alloc ?_ _));exact BK247.out⟩,⟨by repeat (first |(with_reducible first |exact HB.out |apply below_alloc |apply pw_below_drewN |apply below_drew1 |refine below_set ?_ GE247.out) |exact HB.out)⟩⟩
     case round=>
      clear H'
      try clear c2
      try clear c2b0
      try clear c2b1
      try clear p2
      try clear q2
      try clear hx2
      try clear c3
      try clear p6
      try clear c7
      try clear c7b0
      try clear c8
      try clear c8b0
      try clear c9
      try clear c9b0
      try clear c9b1
      try clear hcz10_0
      try clear hcz10_1
      try clear hcz10_2
      try clear hcz11_0
      try clear hcz11_1
      try clear hcz11_2
      try clear hcz12_0
      try clear hcz12_1
      try clear hcz12_2
      try clear hcz4_0
      try clear hcz4_1
      try clear hcz4_2
      try clear hcz6_0
      try clear hcz6_1
      try clear hcz6_2
      try clear hfz10_0
      try clear hfz10_1
      try clear hfz10_2
      try clear hfz11_0
      try clear hfz11_1
      try clear hfz11_2
      try clear hfz12_0
      try clear hfz12_1
      try clear hfz12_2
      try clear hfz4_0
      try clear hfz4_1
      try clear hfz4_2
      try clear hfz6_0
      try clear hfz6_1
      try clear hfz6_2
      try clear hx248_0
      try clear p2
      try clear p248
      try clear q248
      obtain ⟨x4_2,rfl,HA,HK2,BK247,HB⟩:=hrel
      cases gk with
      | zero=>exact absurd HA.out (by simp [hibernacleref15_Check.l1])
      | succ k2=>
       have H:=HA.out
       clear HA
       simp only [hibernacleref15_Check.l1] at H
       by_cases c13:x4_2<(l0_1.length:Int)
       ·rw [if_pos c13] at H
        have c13b0:decide (x4_2<(l0_1.length:Int))=true:=decide_eq_true c13
        clear c13
        have HC14:=Aside0.mk H
        clear H
        have hcz15_0:wr.cell? ⟨gb247,0,none⟩=some (.slice A0_0 l0_0.length c0_0):=(blk_cell BK247.out 0).trans rfl
        have hcz15_1:wr.cell? ⟨gb247,1,none⟩=some (.slice A0_1 l0_1.length c0_1):=(blk_cell BK247.out 1).trans rfl
        have hcz15_2:wr.cell? ⟨gb247,2,none⟩=some (.int .i64 a0_2):=(blk_cell BK247.out 2).trans rfl
        have hfz15_0:=blk_frozen BK247.out 0
        have hfz15_1:=blk_frozen BK247.out 1
        have hfz15_2:=blk_frozen BK247.out 2
        go_upto_region 11 with (fail)
        repeat (go_quiet (fail);go_upto_region 11 with (fail))
        go_cut [48] (fun v48 wc=>∃ (kq:Nat) (x48_13:Bool),v48=.bool x48_13∧Aside0 (hibernacleref15_Check.j2 kq x4_2 x48_13 l0_0 l0_1 a0_2=some r)∧Aside0 (kq≤k2)∧Aside0 (wc.heap[gb247]?=some (.cells #[(.slice A0_0 l0_0.length c0_0),(.slice A0_1 l0_1.length c0_1),.int .i64 a0_2] 29 (0,0)))∧Aside0 (Below w.heap.size w wc))
        case first=>
         have H:=HC14.out
         clear HC14
         by_cases c16:0≤x4_2
         ·rw [if_pos c16] at H
          have c16b0:decide (0≤x4_2)=true:=decide_eq_true c16
          clear c16
          (first |rw [c16b0] |(simp only [i64_w,i32_w];rw [c16b0]) |skip)
          by_cases c17:((rd_T27 l0_1 x4_2).f0)<0
          ·rw [if_pos c17] at H
           have c17b0:decide (((rd_T27 l0_1 x4_2).f0)<0)=true:=decide_eq_true c17
           clear c17
           have H':=Aside0.mk H
           clear H
           have hcz18_0:wr.cell? ⟨gb247,0,none⟩=some (.slice A0_0 l0_0.length c0_0):=(blk_cell BK247.out 0).trans rfl
           have hcz18_1:wr.cell? ⟨gb247,1,none⟩=some (.slice A0_1 l0_1.length c0_1):=(blk_cell BK247.out 1).trans rfl
           have hcz18_2:wr.cell? ⟨gb247,2,none⟩=some (.int .i64 a0_2):=(blk_cell BK247.out 2).trans rfl
           have hfz18_0:=blk_frozen BK247.out 0
           have hfz18_1:=blk_frozen BK247.out 1
           have hfz18_2:=blk_frozen BK247.out 2
           have p249:0≤(x4_2:Int):=of_decide_eq_true (by first |(with_reducible assumption) |assumption)
           have q249:x4_2<(l0_1.length:Int):=of_decide_eq_true (by first |(with_reducible assumption) |assumption)
           obtain ⟨ad249,e249,hx249_0,hx249_1⟩:=at_T27 HR0_1.out x4_2 p249 q249
           cases e249
           replace hx249_0:=(HB.out.cell (World.block_lt_of_cell? w _ hx249_0)).trans hx249_0
           replace hx249_1:=(HB.out.cell (World.block_lt_of_cell? w _ hx249_1)).trans hx249_1
           replace p249:=eq_true p249
           replace q249:=eq_true q249
           go_wp2
           repeat (go_quiet (fail);try go_wp2)
           go_meet
           case rel=>exact ⟨_,(true),(by first |rfl |(simp;done) |(simp [*];done)),H',⟨by have:=HK1.out;have:=HK2.out;first |omega |exact Nat.le_refl _⟩,⟨by (with_reducible repeat (first |refine blk_drewN ?_ _ |refine blk_drew ?_ |refine blk_alloc ?_ _));exact BK247.out⟩,⟨by repeat (first |(with_reducible first |exact HB.out |apply below_alloc |apply pw_below_drewN |apply below_drew1 |refine below_set ?_ GE247.out) |exact HB.out)⟩⟩
          ·rw [if_neg c17] at H
           have c17b0:decide (((rd_T27 l0_1 x4_2).f0)<0)=false:=decide_eq_false c17
           clear c17
           have H':=Aside0.mk H
           clear H
           have hcz19_0:wr.cell? ⟨gb247,0,none⟩=some (.slice A0_0 l0_0.length c0_0):=(blk_cell BK247.out 0).trans rfl
           have hcz19_1:wr.cell? ⟨gb247,1,none⟩=some (.slice A0_1 l0_1.length c0_1):=(blk_cell BK247.out 1).trans rfl
           have hcz19_2:wr.cell? ⟨gb247,2,none⟩=some (.int .i64 a0_2):=(blk_cell BK247.out 2).trans rfl
           have hfz19_0:=blk_frozen BK247.out 0
           have hfz19_1:=blk_frozen BK247.out 1
           have hfz19_2:=blk_frozen BK247.out 2
           have p249:0≤(x4_2:Int):=of_decide_eq_true (by first |(with_reducible assumption) |assumption)
           have q249:x4_2<(l0_1.length:Int):=of_decide_eq_true (by first |(with_reducible assumption) |assumption)
           obtain ⟨ad249,e249,hx249_0,hx249_1⟩:=at_T27 HR0_1.out x4_2 p249 q249
           cases e249
           replace hx249_0:=(HB.out.cell (World.block_lt_of_cell? w _ hx249_0)).trans hx249_0
           replace hx249_1:=(HB.out.cell (World.block_lt_of_cell? w _ hx249_1)).trans hx249_1
           replace p249:=eq_true p249
           replace q249:=eq_true q249
           have p250:0≤(x4_2:Int):=of_decide_eq_true (by first |(with_reducible assumption) |assumption)
           have q250:x4_2<(l0_1.length:Int):=of_decide_eq_true (by first |(with_reducible assumption) |assumption)
           obtain ⟨ad250,e250,hx250_0,hx250_1⟩:=at_T27 HR0_1.out x4_2 p250 q250
           obtain rfl:ad249=ad250:=(by injection e250)
           replace hx250_0:=(HB.out.cell (World.block_lt_of_cell? w _ hx250_0)).trans hx250_0
           replace hx250_1:=(HB.out.cell (World.block_lt_of_cell? w _ hx250_1)).trans hx250_1
           replace p250:=eq_true p250
           replace q250:=eq_true q250
           go_wp2
           repeat (go_quiet (fail);try go_wp2)
           go_meet
           case rel=>exact ⟨_,(decide (((rd_T27 l0_1 x4_2).f0) ≥ (l0_0.length:Int))),(by first |rfl |(simp;done) |(simp [*];done)),H',⟨by have:=HK1.out;have:=HK2.out;first |omega |exact Nat.le_refl _⟩,⟨by (with_reducible repeat (first |refine blk_drewN ?_ _ |refine blk_drew ?_ |refine blk_alloc ?_ _));exact BK247.out⟩,⟨by repeat (first |(with_reducible first |exact HB.out |apply below_alloc |apply pw_below_drewN |apply below_drew1 |refine below_set ?_ GE247.out) |exact HB.out)⟩⟩
         ·rw [if_neg c16] at H
          exact absurd H (by simp)
        case rest=>
         clear HC14
         try clear c1
         try clear c2
         try clear c2b0
         try clear c2b1
         try clear p2
         try clear q2
         try clear hx2
         try clear c3
         try clear p6
         try clear c7
         try clear c7b0
         try clear c8
         try clear c8b0
         try clear c9
         try clear c9b0
         try clear c9b1
         try clear c13
         try clear c13b0
         try clear c16
         try clear c16b0
         try clear c17
         try clear c17b0
         try clear hcz10_0
         try clear hcz10_1
         try clear hcz10_2
         try clear hcz11_0
         try clear hcz11_1
         try clear hcz11_2
         try clear hcz12_0
         try clear hcz12_1
         try clear hcz12_2
         try clear hcz15_0
         try clear hcz15_1
         try clear hcz15_2
         try clear hcz18_0
         try clear hcz18_1
         try clear hcz18_2
         try clear hcz19_0
         try clear hcz19_1
         try clear hcz19_2
         try clear hcz4_0
         try clear hcz4_1
         try clear hcz4_2
         try clear hcz6_0
         try clear hcz6_1
         try clear hcz6_2
         try clear hfz10_0
         try clear hfz10_1
         try clear hfz10_2
         try clear hfz11_0
         try clear hfz11_1
         try clear hfz11_2
         try clear hfz12_0
         try clear hfz12_1
         try clear hfz12_2
         try clear hfz15_0
         try clear hfz15_1
         try clear hfz15_2
         try clear hfz18_0
         try clear hfz18_1
         try clear hfz18_2
         try clear hfz19_0
         try clear hfz19_1
         try clear hfz19_2
         try clear hfz4_0
         try clear hfz4_1
         try clear hfz4_2
         try clear hfz6_0
         try clear hfz6_1
         try clear hfz6_2
         try clear hx248_0
         try clear hx249_0
         try clear hx249_1
         try clear hx250_0
         try clear hx250_1
         try clear p2
         try clear p248
         try clear p249
         try clear p250
         try clear p6
         try clear q2
         try clear q248
         try clear q249
         try clear q250
         obtain ⟨kq,x48_13,rfl,HA,HJ13,BK247,HB⟩:=hcut
         cases kq with
         | zero=>exact absurd HA.out (by simp [hibernacleref15_Check.j2])
         | succ kj13=>
          have H:=HA.out
          clear HA
          simp only [hibernacleref15_Check.j2] at H
          by_cases c20:x48_13=true
          ·subst c20
           have H1:(some 2)=some r:=by rw [if_pos rfl] at H;exact H
           clear H
           have H:=H1
           clear H1
           obtain rfl:=Option.some.inj H
           go_wp2
           repeat (go_quiet (fail);try go_wp2)
           go_ret
           exact ⟨by first |rfl |(simp [errW_none,errW_some] <;> rfl) |(simp [*,errW_none,errW_some] <;> rfl),by repeat (first |(with_reducible first |exact HB.out |apply below_alloc |apply pw_below_drewN |apply below_drew1 |refine below_set ?_ GE247.out) |exact HB.out)⟩
          ·replace c20:=Bool.eq_false_iff.mpr c20
           subst c20
           have H1:(if 0≤x4_2 then (if x4_2<(l0_1.length:Int) then (if (((rd_T27 l0_1 x4_2).f1).size:Int)=128 then (hibernacleref15_Check.l1 kj13 (wrap64 (x4_2 + 1)) l0_0 l0_1 a0_2) else (some 3)) else (none)) else (none))=some r:=by rw [if_neg (show ¬ (false=true) by decide)] at H;exact H
           clear H
           have H:=H1
           clear H1
           by_cases c21:0≤x4_2
           ·rw [if_pos c21] at H
            have c21b0:decide (0≤x4_2)=true:=decide_eq_true c21
            clear c21
            by_cases c22:x4_2<(l0_1.length:Int)
            ·rw [if_pos c22] at H
             have c22b0:decide (x4_2<(l0_1.length:Int))=true:=decide_eq_true c22
             clear c22
             by_cases c23:(((rd_T27 l0_1 x4_2).f1).size:Int)=128
             ·rw [if_pos c23] at H
              have c23b0:((((rd_T27 l0_1 x4_2).f1).size:Int) == 128)=true:=beq_iff_eq.mpr c23
              have c23b1:((((rd_T27 l0_1 x4_2).f1).size:Int) != 128)=false:=bne_eq_false_iff_eq.mpr c23
              clear c23
              have H':=Aside0.mk H
              clear H
              have hcz24_0:wc.cell? ⟨gb247,0,none⟩=some (.slice A0_0 l0_0.length c0_0):=(blk_cell BK247.out 0).trans rfl
              have hcz24_1:wc.cell? ⟨gb247,1,none⟩=some (.slice A0_1 l0_1.length c0_1):=(blk_cell BK247.out 1).trans rfl
              have hcz24_2:wc.cell? ⟨gb247,2,none⟩=some (.int .i64 a0_2):=(blk_cell BK247.out 2).trans rfl
              have hfz24_0:=blk_frozen BK247.out 0
              have hfz24_1:=blk_frozen BK247.out 1
              have hfz24_2:=blk_frozen BK247.out 2
              have p251:0≤(x4_2:Int):=of_decide_eq_true (by first |(with_reducible assumption) |assumption)
              have q251:x4_2<(l0_1.length:Int):=of_decide_eq_true (by first |(with_reducible assumption) |assumption)
              obtain ⟨ad251,e251,hx251_0,hx251_1⟩:=at_T27 HR0_1.out x4_2 p251 q251
              cases e251
              replace hx251_0:=(HB.out.cell (World.block_lt_of_cell? w _ hx251_0)).trans hx251_0
              replace hx251_1:=(HB.out.cell (World.block_lt_of_cell? w _ hx251_1)).trans hx251_1
              replace p251:=eq_true p251
              replace q251:=eq_true q251
              go_wp2
              repeat (go_quiet (fail);try go_wp2)
              go_roundg kj13
              case measure=>have:=HK1.out;have:=HK2.out;have:=HJ13.out;omega
              case rel=>exact ⟨(wrap64 (x4_2 + 1)),(by first |rfl |(simp;done) |(simp [*];done)),H',⟨by have:=HK1.out;have:=HK2.out;have:=HJ13.out;omega⟩,⟨by (with_reducible repeat (first |refine blk_drewN ?_ _ |refine blk_drew ?_ |refine blk_alloc ?_ _));exact BK247.out⟩,⟨by repeat (first |(with_reducible first |exact HB.out |apply below_alloc |apply pw_below_drewN |apply below_drew1 |refine below_set ?_ GE247.out) |exact HB.out)⟩⟩
             ·rw [if_neg c23] at H
              have c23b0:((((rd_T27 l0_1 x4_2).f1).size:Int) == 128)=false:=beq_eq_false_iff_ne.mpr c23
              have c23b1:((((rd_T27 l0_1 x4_2).f1).size:Int) != 128)=true:=bne_iff_ne.mpr c23
              obtain rfl:=Option.some.inj H
              have hcz25_0:wc.cell? ⟨gb247,0,none⟩=some (.slice A0_0 l0_0.length c0_0):=(blk_cell BK247.out 0).trans rfl
              have hcz25_1:wc.cell? ⟨gb247,1,none⟩=some (.slice A0_1 l0_1.length c0_1):=(blk_cell BK247.out 1).trans rfl
              have hcz25_2:wc.cell? ⟨gb247,2,none⟩=some (.int .i64 a0_2):=(blk_cell BK247.out 2).trans rfl
              have hfz25_0:=blk_frozen BK247.out 0
              have hfz25_1:=blk_frozen BK247.out 1
              have hfz25_2:=blk_frozen BK247.out 2
              have p251:0≤(x4_2:Int):=of_decide_eq_true (by first |(with_reducible assumption) |assumption)
              have q251:x4_2<(l0_1.length:Int):=of_decide_eq_true (by first |(with_reducible assumption) |assumption)
              obtain ⟨ad251,e251,hx251_0,hx251_1⟩:=at_T27 HR0_1.out x4_2 p251 q251
              cases e251
              replace hx251_0:=(HB.out.cell (World.block_lt_of_cell? w _ hx251_0)).trans hx251_0
              replace hx251_1:=(HB.out.cell (World.block_lt_of_cell? w _ hx251_1)).trans hx251_1
              replace p251:=eq_true p251
              replace q251:=eq_true q251
              go_wp2
              repeat (go_quiet (fail);try go_wp2)
              go_ret
              exact ⟨by first |rfl |(simp [errW_none,errW_some] <;> rfl) |(simp [*,errW_none,errW_some] <;> rfl),by repeat (first |(with_reducible first |exact HB.out |apply below_alloc |apply pw_below_drewN |apply below_drew1 |refine below_set ?_ GE247.out) |exact HB.out)⟩
            ·rw [if_neg c22] at H
             exact absurd H (by simp)
           ·rw [if_neg c21] at H
            exact absurd H (by simp)
       ·rw [if_neg c13] at H
        have c13b0:decide (x4_2<(l0_1.length:Int))=false:=decide_eq_false c13
        clear c13
        obtain rfl:=Option.some.inj H
        have hcz26_0:wr.cell? ⟨gb247,0,none⟩=some (.slice A0_0 l0_0.length c0_0):=(blk_cell BK247.out 0).trans rfl
        have hcz26_1:wr.cell? ⟨gb247,1,none⟩=some (.slice A0_1 l0_1.length c0_1):=(blk_cell BK247.out 1).trans rfl
        have hcz26_2:wr.cell? ⟨gb247,2,none⟩=some (.int .i64 a0_2):=(blk_cell BK247.out 2).trans rfl
        have hfz26_0:=blk_frozen BK247.out 0
        have hfz26_1:=blk_frozen BK247.out 1
        have hfz26_2:=blk_frozen BK247.out 2
        go_wp2
        repeat (go_quiet (fail);try go_wp2)
        go_ret
        exact ⟨by first |rfl |(simp [errW_none,errW_some] <;> rfl) |(simp [*,errW_none,errW_some] <;> rfl),by repeat (first |(with_reducible first |exact HB.out |apply below_alloc |apply pw_below_drewN |apply below_drew1 |refine below_set ?_ GE247.out) |exact HB.out)⟩
end Go.Proofs.Ytjfmnkmgnbbfgaa.A
