-- Made by drv.py (ours) by way of the kit's print; Lean checks it.
import Derived.Test.YtjfmnkmgnbbfgaaA0
import Derived.Test.YtjfmnkmgnbbfgaaA44
import Derived.Test.YtjfmnkmgnbbfgaaA72
namespace Go.Proofs.Ytjfmnkmgnbbfgaa.A
open Go.RowKit Go.Proofs.YtjfmnkmgnbbfgaaW.PrintWords Go.Proofs.YtjfmnkmgnbbfgaaW.PrintLast Go.Proofs.YtjfmnkmgnbbfgaaW.PrintMore
attribute [local go_sem] max2_int min2_int max_two min_two max_three min_three max_four min_four   -- for this text's walks alone
set_option linter.unusedVariables false
set_option linter.unusedSimpArgs false
def hibernacleref16_Home.l0:Nat→List ByteArray→Int→List ByteArray→List (S27)→Int→Option (List ByteArray)
 | 0,_,_,_,_,_=>none
 | k + 1,x3,x4,x720000,x720001,x720002=>if x4<(x720000.length:Int) then ((hibernacleref15_Get.f k x720000 x720001 x720002 x4).bind fun bt724=>(if x3.length<8796093022208 then (hibernacleref16_Home.l0 k (x3 ++ [bt724.1]) (wrap64 (x4 + 1)) x720000 x720001 x720002) else (none))) else (some x3)
def hibernacleref16_Home.f (k:Nat) (l0_0:List ByteArray) (l0_1:List (S27)) (a0_2:Int):Option (List ByteArray):=(some (([]:List ByteArray):List ByteArray)).bind fun y720=>((hibernacleref16_bad.f k l0_0 l0_1 a0_2).bind fun t723=>(if t723=0 then (hibernacleref16_Home.l0 k y720 33 l0_0 l0_1 a0_2) else (some y720)))
theorem hibernacleref16_Home.mono_l:∀ k,(∀ y0 y1 y2 y3 y4,LeO (hibernacleref16_Home.l0 k y0 y1 y2 y3 y4) (hibernacleref16_Home.l0 (k + 1) y0 y1 y2 y3 y4))
 | 0=>fun _ _ _ _ _ r h=>by simp [hibernacleref16_Home.l0] at h
 | k + 1=>by
  have ih0:=hibernacleref16_Home.mono_l k
  ·intro y0 y1 y2 y3 y4
   unfold hibernacleref16_Home.l0
   repeat' first
   | (with_reducible exact ih0 _ _ _ _ _)
   | (with_reducible exact hibernacleref15_Get.mono _ _ _ _ _)
   | (with_reducible exact hibernacleref16_bad.mono _ _ _ _)
   | (with_reducible exact LeO.refl _)
   | (with_reducible exact LeO.none _)
   | (with_reducible refine LeO.ite ?_ ?_)
   | (with_reducible refine LeO.bind ?_ (fun _=>?_))
   | exact ih0 _ _ _ _ _
   | exact hibernacleref15_Get.mono _ _ _ _ _
   | exact hibernacleref16_bad.mono _ _ _ _
   | exact LeO.none _
   | refine LeO.ite ?_ ?_
   | refine LeO.bind ?_ (fun _=>?_)
theorem hibernacleref16_Home.mono:∀ a0 a1 a2 k,LeO (hibernacleref16_Home.f k a0 a1 a2) (hibernacleref16_Home.f (k + 1) a0 a1 a2):=by
 intro a0 a1 a2 k
 have ih0:=hibernacleref16_Home.mono_l k
 unfold hibernacleref16_Home.f
 repeat' first
   | (with_reducible exact ih0 _ _ _ _ _)
   | (with_reducible exact hibernacleref15_Get.mono _ _ _ _ _)
   | (with_reducible exact hibernacleref16_bad.mono _ _ _ _)
   | (with_reducible exact LeO.refl _)
   | (with_reducible exact LeO.none _)
   | (with_reducible refine LeO.ite ?_ ?_)
   | (with_reducible refine LeO.bind ?_ (fun _=>?_))
   | exact ih0 _ _ _ _ _
   | exact hibernacleref15_Get.mono _ _ _ _ _
   | exact hibernacleref16_bad.mono _ _ _ _
   | exact LeO.none _
   | refine LeO.ite ?_ ?_
   | refine LeO.bind ?_ (fun _=>?_)
set_option maxHeartbeats 8000000 in
set_option maxRecDepth 100000 in
theorem hibernacleref16_Home.calls (k:Nat) (A0_0:Option Addr) (c0_0:Nat) (l0_0:List ByteArray) (A0_1:Option Addr) (c0_1:Nat) (l0_1:List (S27)) (a0_2:Int) (r:List ByteArray) (w:World) (hr0_0:Kd.C Kd.string w A0_0 l0_0.length l0_0) (hc0_0:l0_0.length≤c0_0) (hr0_1:Kd.C k27 w A0_1 l0_1.length l0_1) (hc0_1:l0_1.length≤c0_1) (h:hibernacleref16_Home.f k l0_0 l0_1 a0_2=some r) :
  Calls Try.prog 59 #[.agg #[.slice A0_0 l0_0.length c0_0,.slice A0_1 l0_1.length c0_1,.int .i64 a0_2]] w fun e w'=>∃ v0_:Value,e=.returned (v0_)∧Kd.R Kd.string 9 w' w.heap.size (fun _=>True) v0_ r∧Below w.heap.size w w':=by
 have hu29:=Try.underlying29
 have HR0_0:=Aside0.mk hr0_0
 have HC0_0:=Aside0.mk hc0_0
 clear hr0_0 hc0_0
 have HR0_1:=Aside0.mk hr0_1
 have HC0_1:=Aside0.mk hc0_1
 clear hr0_1 hc0_1
 have HB:=Aside0.mk (Below.refl w.heap.size w)
 have H:((some (([]:List ByteArray):List ByteArray)).bind fun y720=>((hibernacleref16_bad.f k l0_0 l0_1 a0_2).bind fun t723=>(if t723=0 then (hibernacleref16_Home.l0 k y720 33 l0_0 l0_1 a0_2) else (some y720))))=some r:=h
 clear h
 obtain ⟨y720,hy720⟩:∃ y_:List ByteArray,y_=(([]:List ByteArray)):=⟨_,rfl⟩
 replace H:((hibernacleref16_bad.f k l0_0 l0_1 a0_2).bind fun t723=>(if t723=0 then (hibernacleref16_Home.l0 k y720 33 l0_0 l0_1 a0_2) else (some y720)))=some r:=by first |(rw [hy720];with_reducible exact H) |(have H2_:=(Option.bind_some _ _).symm.trans H;rw [hy720];with_reducible exact H2_) |(have H2_:=(Option.bind_some _ _).symm.trans H;with_reducible exact H2_) |with_reducible exact H |(rw [hy720];exact H) |exact H
 have Ny720:=Aside0.mk hy720
 clear hy720
 replace H:=Option.bind_eq_some_iff.mp H
 obtain ⟨t723,A20,H⟩:=H
 replace H:(if t723=0 then (hibernacleref16_Home.l0 k y720 33 l0_0 l0_1 a0_2) else (some y720))=some r:=H
 have A2:=Aside0.mk A20
 clear A20
 by_cases c3:t723=0
 ·rw [if_pos c3] at H
  have c3b0:(t723 == 0)=true:=beq_iff_eq.mpr c3
  have c3b1:(t723 != 0)=false:=bne_eq_false_iff_eq.mpr c3
  clear c3
  have H':=Aside0.mk H
  clear H
  go_enter Try.func59,Try.ntmps59
  go_wp2_with (first |((with_reducible refine gate_dst (N:=1) rfl ?_);refine box_event ?hg (N:=1) ?hd (cs:=#[.slice A0_0 l0_0.length c0_0,.slice A0_1 l0_1.length c0_1,.int .i64 a0_2]) (t:=29) ?hr ?_;(case hd=>rfl);(case hg=>rfl);(case hr=>first |(go_simp;done) |(go_simp;rfl));intro gb719 hg w4 hbox hb;have n0_:=Aside0.mk (below_step (by repeat (first |(with_reducible first |exact HB.out |apply below_alloc |apply pw_below_drewN |apply below_drew1) |exact HB.out)) hb);have n1_:=Aside0.mk (hbox);have n2_:=Aside0.mk ((by rw [hg];exact (below_size (by repeat (first |(with_reducible first |exact HB.out |apply below_alloc |apply pw_below_drewN |apply below_drew1) |exact HB.out))):w.heap.size≤gb719));have n3_:=Aside0.mk ((by rw [hg];exact (below_size (by repeat (first |(with_reducible first |exact HB.out |apply below_alloc |apply pw_below_drewN |apply below_drew1) |exact HB.out))):w.heap.size≤gb719));clear HB;have HB:=n0_;have BK719:=n1_;have GW719:=n2_;have GE719:=n3_;clear n0_ n1_ n2_ n3_;clear hb hbox hg) |((with_reducible refine gate_dst (N:=7) rfl ?_);refine Kd.R_lit Kd.string _ 9 ?hg (N:=7) ?hd (xs:=([]:List ByteArray)) (inner:=[]) (ok:=fun _=>True) (okp:=fun _=>True) ?hr ?hp (fun _ hk=>hk) trivial (Below.refl _ _) (Nat.le_refl _) (by simp) ?_;(case hd=>rfl);(case hg=>rfl);(case hr=>first |(go_simp;done) |(go_simp;rfl));(case hp=>exact (Reps.none _ _));intro v721 w5 ho6 hb hg_ hnew_;clear hg_ hnew_;(first |rw [← Ny720.out] at ho6 |(simp only [Int.reduceToNat] at ho6;rw [← Ny720.out] at ho6));have n0_:=Aside0.mk (Kd.R_lower ho6 (below_size (by repeat (first |(with_reducible first |exact HB.out |apply below_alloc |apply pw_below_drewN |apply below_drew1 |refine below_set ?_ GE719.out) |exact HB.out))));have n1_:=Aside0.mk (blk_below (g:=gb719) (o:=.cells #[.slice A0_0 l0_0.length c0_0,.slice A0_1 l0_1.length c0_1,.int .i64 a0_2] 29 (0,0)) (by (with_reducible repeat (first |refine blk_drewN ?_ _ |refine blk_drew ?_ |refine blk_alloc ?_ _));exact BK719.out) hb);have n2_:=Aside0.mk (below_step (by repeat (first |(with_reducible first |exact HB.out |apply below_alloc |apply pw_below_drewN |apply below_drew1 |refine below_set ?_ GE719.out) |exact HB.out)) hb);clear BK719;clear HB;have HO722:=n0_;have BK719:=n1_;have HB:=n2_;clear n0_ n1_ n2_;clear hb ho6;have hcz7_0:w5.cell? ⟨gb719,0,none⟩=some (.slice A0_0 l0_0.length c0_0):=(blk_cell BK719.out 0).trans rfl;have hcz7_1:w5.cell? ⟨gb719,1,none⟩=some (.slice A0_1 l0_1.length c0_1):=(blk_cell BK719.out 1).trans rfl;have hcz7_2:w5.cell? ⟨gb719,2,none⟩=some (.int .i64 a0_2):=(blk_cell BK719.out 2).trans rfl;have hfz7_0:=blk_frozen BK719.out 0;have hfz7_1:=blk_frozen BK719.out 1;have hfz7_2:=blk_frozen BK719.out 2) |((with_reducible refine gate_callee (f:=72) rfl ?_);refine goesL_ (some 9) rfl rfl Try.func72 (by kernel_rfl) rfl #[.agg #[.slice A0_0 l0_0.length c0_0,.slice A0_1 l0_1.length c0_1,.int .i64 a0_2]] rfl (by (try simp only [List.map_toArray,List.map_cons,List.map_nil]);first |done |rfl |(simp only [List.length_drop,List.length_take];rfl)) ?_;(with_reducible refine (hibernacleref16_bad.calls k _ _ l0_0 _ _ l0_1 a0_2 t723 _ ?side1 ?side2 ?side3 ?side4 A2.out).mono ?_);(case side1=>repeat (first |exact (Kd.C_below HR0_0.out HB.out) |(with_reducible refine Kd.C_alloc ?_ _) |(with_reducible refine Kd.C_drewN ?_ _) |(with_reducible refine Kd.C_drew ?_)));(case side2=>exact HC0_0.out);(case side3=>repeat (first |exact (Kd.C_below HR0_1.out HB.out) |(with_reducible refine Kd.C_alloc ?_ _) |(with_reducible refine Kd.C_drewN ?_ _) |(with_reducible refine Kd.C_drew ?_)));(case side4=>exact HC0_1.out);rintro e w8 ⟨rfl,hb⟩;refine ⟨_,rfl, ?_⟩;have n0_:=Aside0.mk (Kd.R_below (by (with_reducible repeat (first |apply Kd.R_alloc |apply Kd.R_drewN |apply Kd.R_drew));exact HO722.out) hb);have n1_:=Aside0.mk (blk_below (g:=gb719) (o:=.cells #[.slice A0_0 l0_0.length c0_0,.slice A0_1 l0_1.length c0_1,.int .i64 a0_2] 29 (0,0)) (by (with_reducible repeat (first |refine blk_drewN ?_ _ |refine blk_drew ?_ |refine blk_alloc ?_ _));exact BK719.out) hb);have n2_:=Aside0.mk (below_step (by repeat (first |(with_reducible first |exact HB.out |apply below_alloc |apply pw_below_drewN |apply below_drew1 |refine below_set ?_ GE719.out) |exact HB.out)) hb);clear HO722;clear BK719;clear HB;have HO722:=n0_;have BK719:=n1_;have HB:=n2_;clear n0_ n1_ n2_;(try clear hb);(try clear hb2);(try clear hk);(try clear hi)))
  go_loopg [3,4] k (fun kq v3 v4 w'=>∃ (x3_1:List ByteArray) (x4_1:Int),v4=.int .i64 x4_1∧Aside0 (hibernacleref16_Home.l0 kq x3_1 x4_1 l0_0 l0_1 a0_2=some r)∧Aside0 (kq≤k)∧Aside0 (Kd.R Kd.string 9 w' w.heap.size (fun _=>True) v3 x3_1)∧Aside0 (w'.heap[gb719]?=some (.cells #[(.slice A0_0 l0_0.length c0_0),(.slice A0_1 l0_1.length c0_1),.int .i64 a0_2] 29 (0,0)))∧Aside0 (Below w.heap.size w w'))
  case atStart=>exact ⟨(y720),(33),(by first |rfl |(simp;done) |(simp [*];done)),H',⟨Nat.le_refl _⟩,⟨by (with_reducible repeat (first |apply Kd.R_alloc |apply Kd.R_drewN |apply Kd.R_drew));exact HO722.out⟩,⟨by (with_reducible repeat (first |refine blk_drewN ?_ _ |refine blk_drew ?_ |refine blk_alloc ?_ _));exact BK719.out⟩,⟨by repeat (first |(with_reducible first |exact HB.out |apply below_alloc |apply pw_below_drewN |apply below_drew1 |refine below_set ?_ GE719.out) |exact HB.out)⟩⟩
  case round=>
   clear H'
   try clear p2
   try clear c3
   try clear c3b0
   try clear c3b1
   try clear c5
   try clear c7
   try clear hcz7_0
   try clear hcz7_1
   try clear hcz7_2
   try clear hfz7_0
   try clear hfz7_1
   try clear hfz7_2
   obtain ⟨x3_1,x4_1,rfl,HA,HK1,HO_3,BK719,HB⟩:=hrel
   cases gk with
   | zero=>exact absurd HA.out (by simp [hibernacleref16_Home.l0])
   | succ k1=>
    have H:=HA.out
    clear HA
    simp only [hibernacleref16_Home.l0] at H
    by_cases c9:x4_1<(l0_0.length:Int)
    ·rw [if_pos c9] at H
     have c9b0:decide (x4_1<(l0_0.length:Int))=true:=decide_eq_true c9
     clear c9
     replace H:=Option.bind_eq_some_iff.mp H
     obtain ⟨⟨t724,t725⟩,A100,H⟩:=H
     replace H:(if x3_1.length<8796093022208 then (hibernacleref16_Home.l0 k1 (x3_1 ++ [t724]) (wrap64 (x4_1 + 1)) l0_0 l0_1 a0_2) else (none))=some r:=H
     have A10:=Aside0.mk A100
     clear A100
     by_cases c11:x3_1.length<8796093022208
     ·rw [if_pos c11] at H
      have LMc11:=Aside0.mk c11
      clear c11
      obtain ⟨y726,hy726⟩:∃ y_:List ByteArray,y_=(x3_1 ++ [t724]):=⟨_,rfl⟩
      replace H:(hibernacleref16_Home.l0 k1 y726 (wrap64 (x4_1 + 1)) l0_0 l0_1 a0_2)=some r:=by first |(rw [hy726];with_reducible exact H) |(have H2_:=(Option.bind_some _ _).symm.trans H;rw [hy726];with_reducible exact H2_) |(have H2_:=(Option.bind_some _ _).symm.trans H;with_reducible exact H2_) |with_reducible exact H |(rw [hy726];exact H) |exact H
      have Ny726:=Aside0.mk hy726
      clear hy726
      have H':=Aside0.mk H
      clear H
      have hcz12_0:wr.cell? ⟨gb719,0,none⟩=some (.slice A0_0 l0_0.length c0_0):=(blk_cell BK719.out 0).trans rfl
      have hcz12_1:wr.cell? ⟨gb719,1,none⟩=some (.slice A0_1 l0_1.length c0_1):=(blk_cell BK719.out 1).trans rfl
      have hcz12_2:wr.cell? ⟨gb719,2,none⟩=some (.int .i64 a0_2):=(blk_cell BK719.out 2).trans rfl
      have hfz12_0:=blk_frozen BK719.out 0
      have hfz12_1:=blk_frozen BK719.out 1
      have hfz12_2:=blk_frozen BK719.out 2
      go_wp2_with (first |((with_reducible refine gate_callee (f:=44) rfl ?_);refine goesL_ (some 22) rfl rfl Try.func44 (by kernel_rfl) rfl #[.agg #[.slice A0_0 l0_0.length c0_0,.slice A0_1 l0_1.length c0_1,.int .i64 a0_2],.int .i64 x4_1] rfl (by (try simp only [List.map_toArray,List.map_cons,List.map_nil]);first |done |rfl |(simp only [List.length_drop,List.length_take];rfl)) ?_;(with_reducible refine (hibernacleref15_Get.calls k1 _ _ l0_0 _ _ l0_1 a0_2 x4_1 t724 t725 _ ?side1 ?side2 ?side3 ?side4 A10.out).mono ?_);(case side1=>repeat (first |exact (Kd.C_below HR0_0.out HB.out) |(with_reducible refine Kd.C_alloc ?_ _) |(with_reducible refine Kd.C_drewN ?_ _) |(with_reducible refine Kd.C_drew ?_)));(case side2=>exact HC0_0.out);(case side3=>repeat (first |exact (Kd.C_below HR0_1.out HB.out) |(with_reducible refine Kd.C_alloc ?_ _) |(with_reducible refine Kd.C_drewN ?_ _) |(with_reducible refine Kd.C_drew ?_)));(case side4=>exact HC0_1.out);rintro e w13 ⟨rfl,hb⟩;refine ⟨_,rfl, ?_⟩;have n0_:=Aside0.mk (Kd.R_below (by (with_reducible repeat (first |apply Kd.R_alloc |apply Kd.R_drewN |apply Kd.R_drew));exact HO_3.out) hb);have n1_:=Aside0.mk (blk_below (g:=gb719) (o:=.cells #[.slice A0_0 l0_0.length c0_0,.slice A0_1 l0_1.length c0_1,.int .i64 a0_2] 29 (0,0)) (by (with_reducible repeat (first |refine blk_drewN ?_ _ |refine blk_drew ?_ |refine blk_alloc ?_ _));exact BK719.out) hb);have n2_:=Aside0.mk (below_step (by repeat (first |(with_reducible first |exact HB.out |apply below_alloc |apply pw_below_drewN |apply below_drew1 |refine below_set ?_ GE719.out) |exact HB.out)) hb);clear HO_3;clear BK719;clear HB;have HO_3:=n0_;have BK719:=n1_;have HB:=n2_;clear n0_ n1_ n2_;(try clear hb);(try clear hb2);(try clear hk);(try clear hi)) |((with_reducible refine gate_builtin (b:=.append) (xs:=#[.tmp 25,.tmp 27]) rfl ?_);at_builtin;refine Kd.R_append Kd.string (w0:=w) w.heap.size rfl (.tmp 25) (.tmp 27) 22 9 (.string ⟨#[]⟩) 16 rfl Try.underlying22 info9 rfl (by decide) (by omega) u3 x3_1 t724 [.string t724] (fun _=>True) (fun _=>False) rfl rfl ?aP (fun _ hk=>hk.elim) ?aF ?aO ?aB ?aS ?aL ?_;(case aP=>exact rfl);(case aB=>exact (by repeat (first |(with_reducible first |exact HB.out |apply below_alloc |apply pw_below_drewN |apply below_drew1 |refine below_set ?_ GE719.out) |exact HB.out)));(case aF=>exact (fun _ _=>trivial));(case aO=>exact (by (with_reducible repeat (first |apply Kd.R_alloc |apply Kd.R_drewN |apply Kd.R_drew));exact HO_3.out));(case aS=>exact (below_size (by repeat (first |(with_reducible first |exact HB.out |apply below_alloc |apply pw_below_drewN |apply below_drew1 |refine below_set ?_ GE719.out) |exact HB.out))));(case aL=>have:=LMc11.out;omega);intro v727 w14 ho hb hg hat;rw [← Ny726.out] at ho;have n0_:=Aside0.mk (blk_grown (g:=gb719) (o:=.cells #[.slice A0_0 l0_0.length c0_0,.slice A0_1 l0_1.length c0_1,.int .i64 a0_2] 29 (0,0)) (by (with_reducible repeat (first |refine blk_drewN ?_ _ |refine blk_drew ?_ |refine blk_alloc ?_ _));exact BK719.out) hg (Kd.R_ne HO_3.out BK719.out (by decide)));have n1_:=Aside0.mk (hb);have n2_:=Aside0.mk (ho);clear BK719;clear HB;clear HO_3;have BK719:=n0_;have HB:=n1_;have HO728:=n2_;clear n0_ n1_ n2_;clear ho hb hg hat))
      go_roundg k1
      case measure=>have:=HK1.out;omega
      case rel=>exact ⟨(y726),(wrap64 (x4_1 + 1)),(by first |rfl |(simp;done) |(simp [*];done)),H',⟨by have:=HK1.out;omega⟩,⟨by (with_reducible repeat (first |apply Kd.R_alloc |apply Kd.R_drewN |apply Kd.R_drew));exact HO728.out⟩,⟨by (with_reducible repeat (first |refine blk_drewN ?_ _ |refine blk_drew ?_ |refine blk_alloc ?_ _));exact BK719.out⟩,⟨by repeat (first |(with_reducible first |exact HB.out |apply below_alloc |apply pw_below_drewN |apply below_drew1 |refine below_set ?_ GE719.out) |exact HB.out)⟩⟩
     ·rw [if_neg c11] at H
      exact absurd H (by simp)
    ·rw [if_neg c9] at H
     have c9b0:decide (x4_1<(l0_0.length:Int))=false:=decide_eq_false c9
     clear c9
     obtain rfl:=Option.some.inj H
     have hcz15_0:wr.cell? ⟨gb719,0,none⟩=some (.slice A0_0 l0_0.length c0_0):=(blk_cell BK719.out 0).trans rfl
     have hcz15_1:wr.cell? ⟨gb719,1,none⟩=some (.slice A0_1 l0_1.length c0_1):=(blk_cell BK719.out 1).trans rfl
     have hcz15_2:wr.cell? ⟨gb719,2,none⟩=some (.int .i64 a0_2):=(blk_cell BK719.out 2).trans rfl
     have hfz15_0:=blk_frozen BK719.out 0
     have hfz15_1:=blk_frozen BK719.out 1
     have hfz15_2:=blk_frozen BK719.out 2
     go_wp2
     go_ret
     exact ⟨_,by first |rfl |(simp [errW_none,errW_some] <;> rfl) |(simp [*,errW_none,errW_some] <;> rfl),by (with_reducible repeat (first |apply Kd.R_alloc |apply Kd.R_drewN |apply Kd.R_drew));exact HO_3.out,by repeat (first |(with_reducible first |exact HB.out |apply below_alloc |apply pw_below_drewN |apply below_drew1 |refine below_set ?_ GE719.out) |exact HB.out)⟩
 ·rw [if_neg c3] at H
  have c3b0:(t723 == 0)=false:=beq_eq_false_iff_ne.mpr c3
  have c3b1:(t723 != 0)=true:=bne_iff_ne.mpr c3
  obtain rfl:=Option.some.inj H
  go_enter Try.func59,Try.ntmps59
  go_wp2_with (first |((with_reducible refine gate_dst (N:=1) rfl ?_);refine box_event ?hg (N:=1) ?hd (cs:=#[.slice A0_0 l0_0.length c0_0,.slice A0_1 l0_1.length c0_1,.int .i64 a0_2]) (t:=29) ?hr ?_;(case hd=>rfl);(case hg=>rfl);(case hr=>first |(go_simp;done) |(go_simp;rfl));intro gb719 hg w16 hbox hb;have n0_:=Aside0.mk (below_step (by repeat (first |(with_reducible first |exact HB.out |apply below_alloc |apply pw_below_drewN |apply below_drew1) |exact HB.out)) hb);have n1_:=Aside0.mk (hbox);have n2_:=Aside0.mk ((by rw [hg];exact (below_size (by repeat (first |(with_reducible first |exact HB.out |apply below_alloc |apply pw_below_drewN |apply below_drew1) |exact HB.out))):w.heap.size≤gb719));have n3_:=Aside0.mk ((by rw [hg];exact (below_size (by repeat (first |(with_reducible first |exact HB.out |apply below_alloc |apply pw_below_drewN |apply below_drew1) |exact HB.out))):w.heap.size≤gb719));clear HB;have HB:=n0_;have BK719:=n1_;have GW719:=n2_;have GE719:=n3_;clear n0_ n1_ n2_ n3_;clear hb hbox hg) |((with_reducible refine gate_dst (N:=7) rfl ?_);refine Kd.R_lit Kd.string _ 9 ?hg (N:=7) ?hd (xs:=([]:List ByteArray)) (inner:=[]) (ok:=fun _=>True) (okp:=fun _=>True) ?hr ?hp (fun _ hk=>hk) trivial (Below.refl _ _) (Nat.le_refl _) (by simp) ?_;(case hd=>rfl);(case hg=>rfl);(case hr=>first |(go_simp;done) |(go_simp;rfl));(case hp=>exact (Reps.none _ _));intro v721 w17 ho18 hb hg_ hnew_;clear hg_ hnew_;(first |rw [← Ny720.out] at ho18 |(simp only [Int.reduceToNat] at ho18;rw [← Ny720.out] at ho18));have n0_:=Aside0.mk (Kd.R_lower ho18 (below_size (by repeat (first |(with_reducible first |exact HB.out |apply below_alloc |apply pw_below_drewN |apply below_drew1 |refine below_set ?_ GE719.out) |exact HB.out))));have n1_:=Aside0.mk (blk_below (g:=gb719) (o:=.cells #[.slice A0_0 l0_0.length c0_0,.slice A0_1 l0_1.length c0_1,.int .i64 a0_2] 29 (0,0)) (by (with_reducible repeat (first |refine blk_drewN ?_ _ |refine blk_drew ?_ |refine blk_alloc ?_ _));exact BK719.out) hb);have n2_:=Aside0.mk (below_step (by repeat (first |(with_reducible first |exact HB.out |apply below_alloc |apply pw_below_drewN |apply below_drew1 |refine below_set ?_ GE719.out) |exact HB.out)) hb);clear BK719;clear HB;have HO722:=n0_;have BK719:=n1_;have HB:=n2_;clear n0_ n1_ n2_;clear hb ho18;have hcz19_0:w17.cell? ⟨gb719,0,none⟩=some (.slice A0_0 l0_0.length c0_0):=(blk_cell BK719.out 0).trans rfl;have hcz19_1:w17.cell? ⟨gb719,1,none⟩=some (.slice A0_1 l0_1.length c0_1):=(blk_cell BK719.out 1).trans rfl;have hcz19_2:w17.cell? ⟨gb719,2,none⟩=some (.int .i64 a0_2):=(blk_cell BK719.out 2).trans rfl;have hfz19_0:=blk_frozen BK719.out 0;have hfz19_1:=blk_frozen BK719.out 1;have hfz19_2:=blk_frozen BK719.out 2) |((with_reducible refine gate_callee (f:=72) rfl ?_);refine goesL_ (some 9) rfl rfl Try.func72 (by kernel_rfl) rfl #[.agg #[.slice A0_0 l0_0.length c0_0,.slice A0_1 l0_1.length c0_1,.int .i64 a0_2]] rfl (by (try simp only [List.map_toArray,List.map_cons,List.map_nil]);first |done |rfl |(simp only [List.length_drop,List.length_take];rfl)) ?_;(with_reducible refine (hibernacleref16_bad.calls k _ _ l0_0 _ _ l0_1 a0_2 t723 _ ?side1 ?side2 ?side3 ?side4 A2.out).mono ?_);(case side1=>repeat (first |exact (Kd.C_below HR0_0.out HB.out) |(with_reducible refine Kd.C_alloc ?_ _) |(with_reducible refine Kd.C_drewN ?_ _) |(with_reducible refine Kd.C_drew ?_)));(case side2=>exact HC0_0.out);(case side3=>repeat (first |exact (Kd.C_below HR0_1.out HB.out) |(with_reducible refine Kd.C_alloc ?_ _) |(with_reducible refine Kd.C_drewN ?_ _) |(with_reducible refine Kd.C_drew ?_)));(case side4=>exact HC0_1.out);rintro e w20 ⟨rfl,hb⟩;refine ⟨_,rfl, ?_⟩;have n0_:=Aside0.mk (Kd.R_below (by (with_reducible repeat (first |apply Kd.R_alloc |apply Kd.R_drewN |apply Kd.R_drew));exact HO722.out) hb);have n1_:=Aside0.mk (blk_below (g:=gb719) (o:=.cells #[.slice A0_0 l0_0.length c0_0,.slice A0_1 l0_1.length c0_1,.int .i64 a0_2] 29 (0,0)) (by (with_reducible repeat (first |refine blk_drewN ?_ _ |refine blk_drew ?_ |refine blk_alloc ?_ _));exact BK719.out) hb);have n2_:=Aside0.mk (below_step (by repeat (first |(with_reducible first |exact HB.out |apply below_alloc |apply pw_below_drewN |apply below_drew1 |refine below_set ?_ GE719.out) |exact HB.out)) hb);clear HO722;clear BK719;clear HB;have HO722:=n0_;have BK719:=n1_;have HB:=n2_;clear n0_ n1_ n2_;(try clear hb);(try clear hb2);(try clear hk);(try clear hi)))
  go_ret
  exact ⟨_,by first |rfl |(simp [errW_none,errW_some] <;> rfl) |(simp [*,errW_none,errW_some] <;> rfl),by (with_reducible repeat (first |apply Kd.R_alloc |apply Kd.R_drewN |apply Kd.R_drew));exact HO722.out,by repeat (first |(with_reducible first |exact HB.out |apply below_alloc |apply pw_below_drewN |apply below_drew1 |refine below_set ?_ GE719.out) |exact HB.out)⟩
end Go.Proofs.Ytjfmnkmgnbbfgaa.A
