-- Made by drv.py (ours) by way of the kit's print; Lean checks it.
import Derived.Test.YtjfmnkmgnbbfgaaA0
namespace Go.Proofs.Ytjfmnkmgnbbfgaa.A
open Go.RowKit Go.Proofs.YtjfmnkmgnbbfgaaW.PrintWords Go.Proofs.YtjfmnkmgnbbfgaaW.PrintLast Go.Proofs.YtjfmnkmgnbbfgaaW.PrintMore
attribute [local go_sem] max2_int min2_int max_two min_two max_three min_three max_four min_four   -- for this text's walks alone
set_option linter.unusedVariables false
set_option linter.unusedSimpArgs false
mutual
def hibernacleref15_Get.j0:Nat→Int→Bool→List ByteArray→List (S27)→Int→Option (ByteArray × Int)
 | 0,_,_,_,_,_=>none
 | k + 1,x1,x16,x255000,x255001,x255002=>if x16=true then (some ((⟨#[]⟩:ByteArray),2)) else (if 0≤x1 then (if x1<(x255000.length:Int) then (hibernacleref15_Get.l0 k x1 (rdOf ByteArray.empty x255000 x1) 0 x255000 x255001 x255002) else (none)) else (none))
def hibernacleref15_Get.l0:Nat→Int→ByteArray→Int→List ByteArray→List (S27)→Int→Option (ByteArray × Int)
 | 0,_,_,_,_,_,_=>none
 | k + 1,x1,x6,x7,x255000,x255001,x255002=>if x7<(x255001.length:Int) then (if 0≤x7 then (if ((rd_T27 x255001 x7).f0)=x1 then (hibernacleref15_Get.l0 k x1 ((rd_T27 x255001 x7).f1) (wrap64 (x7 + 1)) x255000 x255001 x255002) else (hibernacleref15_Get.l0 k x1 x6 (wrap64 (x7 + 1)) x255000 x255001 x255002)) else (none)) else (some (x6,0))
end
def hibernacleref15_Get.f (k:Nat) (l0_0:List ByteArray) (l0_1:List (S27)) (a0_2:Int) (a1:Int):Option (ByteArray × Int):=if a1<0 then (hibernacleref15_Get.j0 k a1 true l0_0 l0_1 a0_2) else (hibernacleref15_Get.j0 k a1 (decide (a1 ≥ (l0_0.length:Int))) l0_0 l0_1 a0_2)
theorem hibernacleref15_Get.mono_l:∀ k,(∀ y0 y1 y2 y3 y4,LeO (hibernacleref15_Get.j0 k y0 y1 y2 y3 y4) (hibernacleref15_Get.j0 (k + 1) y0 y1 y2 y3 y4))∧(∀ y0 y1 y2 y3 y4 y5,LeO (hibernacleref15_Get.l0 k y0 y1 y2 y3 y4 y5) (hibernacleref15_Get.l0 (k + 1) y0 y1 y2 y3 y4 y5))
 | 0=>⟨fun _ _ _ _ _ r h=>by simp [hibernacleref15_Get.j0] at h,fun _ _ _ _ _ _ r h=>by simp [hibernacleref15_Get.l0] at h⟩
 | k + 1=>by
  obtain ⟨ih0,ih1⟩:=hibernacleref15_Get.mono_l k
  refine ⟨?_, ?_⟩
  ·intro y0 y1 y2 y3 y4
   unfold hibernacleref15_Get.j0
   repeat' first
   | (with_reducible exact ih0 _ _ _ _ _)
   | (with_reducible exact ih1 _ _ _ _ _ _)
   | (with_reducible exact LeO.refl _)
   | (with_reducible exact LeO.none _)
   | (with_reducible refine LeO.ite ?_ ?_)
   | (with_reducible refine LeO.bind ?_ (fun _=>?_))
   | exact ih0 _ _ _ _ _
   | exact ih1 _ _ _ _ _ _
   | exact LeO.none _
   | refine LeO.ite ?_ ?_
   | refine LeO.bind ?_ (fun _=>?_)
  ·intro y0 y1 y2 y3 y4 y5
   unfold hibernacleref15_Get.l0
   repeat' first
   | (with_reducible exact ih0 _ _ _ _ _)
   | (with_reducible exact ih1 _ _ _ _ _ _)
   | (with_reducible exact LeO.refl _)
   | (with_reducible exact LeO.none _)
   | (with_reducible refine LeO.ite ?_ ?_)
   | (with_reducible refine LeO.bind ?_ (fun _=>?_))
   | exact ih0 _ _ _ _ _
   | exact ih1 _ _ _ _ _ _
   | exact LeO.none _
   | refine LeO.ite ?_ ?_
   | refine LeO.bind ?_ (fun _=>?_)
theorem hibernacleref15_Get.mono:∀ a0 a1 a2 a3 k,LeO (hibernacleref15_Get.f k a0 a1 a2 a3) (hibernacleref15_Get.f (k + 1) a0 a1 a2 a3):=by
 intro a0 a1 a2 a3 k
 obtain ⟨ih0,ih1⟩:=hibernacleref15_Get.mono_l k
 unfold hibernacleref15_Get.f
 repeat' first
   | (with_reducible exact ih0 _ _ _ _ _)
   | (with_reducible exact ih1 _ _ _ _ _ _)
   | (with_reducible exact LeO.refl _)
   | (with_reducible exact LeO.none _)
   | (with_reducible refine LeO.ite ?_ ?_)
   | (with_reducible refine LeO.bind ?_ (fun _=>?_))
   | exact ih0 _ _ _ _ _
   | exact ih1 _ _ _ _ _ _
   | exact LeO.none _
   | refine LeO.ite ?_ ?_
   | refine LeO.bind ?_ (fun _=>?_)
set_option maxHeartbeats 8000000 in
set_option maxRecDepth 100000 in
theorem hibernacleref15_Get.calls (k:Nat) (A0_0:Option Addr) (c0_0:Nat) (l0_0:List ByteArray) (A0_1:Option Addr) (c0_1:Nat) (l0_1:List (S27)) (a0_2:Int) (a1:Int) (r1:ByteArray) (r2:Int) (w:World) (hr0_0:Kd.C Kd.string w A0_0 l0_0.length l0_0) (hc0_0:l0_0.length≤c0_0) (hr0_1:Kd.C k27 w A0_1 l0_1.length l0_1) (hc0_1:l0_1.length≤c0_1) (h:hibernacleref15_Get.f k l0_0 l0_1 a0_2 a1=some (r1,r2)) :
  Calls Try.prog 44 #[.agg #[.slice A0_0 l0_0.length c0_0,.slice A0_1 l0_1.length c0_1,.int .i64 a0_2],.int .i64 a1] w fun e w'=>e=.returned (.tuple #[.string r1,.int .i64 r2])∧Below w.heap.size w w':=by
 have hu29:=Try.underlying29
 have HR0_0:=Aside0.mk hr0_0
 have HC0_0:=Aside0.mk hc0_0
 clear hr0_0 hc0_0
 have HR0_1:=Aside0.mk hr0_1
 have HC0_1:=Aside0.mk hc0_1
 clear hr0_1 hc0_1
 have HB:=Aside0.mk (Below.refl w.heap.size w)
 have H:(if a1<0 then (hibernacleref15_Get.j0 k a1 true l0_0 l0_1 a0_2) else (hibernacleref15_Get.j0 k a1 (decide (a1 ≥ (l0_0.length:Int))) l0_0 l0_1 a0_2))=some (r1,r2):=h
 clear h
 have HC3:=Aside0.mk H
 clear H
 go_enter Try.func44,Try.ntmps44
 go_upto_region 1 with (first |((with_reducible refine gate_dst (N:=2) rfl ?_);(try (refine gate_guard (by rfl) ?_;dsimp only));refine box_event ?hg (N:=2) ?hd (cs:=#[.slice A0_0 l0_0.length c0_0,.slice A0_1 l0_1.length c0_1,.int .i64 a0_2]) (t:=29) ?hr ?_;(case hd=>rfl);(case hg=>rfl);(case hr=>first |(go_simp;done) |(go_simp;rfl));intro gb254 hg w4 hbox hb;have n0_:=Aside0.mk (below_step (by repeat (first |(with_reducible first |exact HB.out |apply below_alloc |apply pw_below_drewN |apply below_drew1) |exact HB.out)) hb);have n1_:=Aside0.mk (hbox);have n2_:=Aside0.mk ((by rw [hg];exact (below_size (by repeat (first |(with_reducible first |exact HB.out |apply below_alloc |apply pw_below_drewN |apply below_drew1) |exact HB.out))):w.heap.size≤gb254));have n3_:=Aside0.mk ((by rw [hg];exact (below_size (by repeat (first |(with_reducible first |exact HB.out |apply below_alloc |apply pw_below_drewN |apply below_drew1) |exact HB.out))):w.heap.size≤gb254));clear HB;have HB:=n0_;have BK254:=n1_;have GW254:=n2_;have GE254:=n3_;clear n0_ n1_ n2_ n3_;clear hb hbox hg))
 (try simp only [Act.put,List.setIfInBounds_toArray,List.set_cons_zero,List.set_cons_succ])
 go_cut [16] (fun v16 wc=>∃ (kq:Nat) (x16_2:Bool),v16=.bool x16_2∧Aside0 (hibernacleref15_Get.j0 kq a1 x16_2 l0_0 l0_1 a0_2=some (r1,r2))∧Aside0 (kq≤k)∧Aside0 (wc.heap[gb254]?=some (.cells #[(.slice A0_0 l0_0.length c0_0),(.slice A0_1 l0_1.length c0_1),.int .i64 a0_2] 29 (0,0)))∧Aside0 (Below w.heap.size w wc))
 case first=>
  have H:=HC3.out
  clear HC3
  by_cases c5:a1<0
  ·rw [if_pos c5] at H
   have c5b0:decide (a1<0)=true:=decide_eq_true c5
   clear c5
   (first |rw [c5b0] |(simp only [i64_w,i32_w];rw [c5b0]) |skip)
   have H':=Aside0.mk H
   clear H
   go_wp2
   go_meet
   case rel=>exact ⟨_,(true),(by first |rfl |(simp;done) |(simp [*];done)),H',⟨by first |omega |exact Nat.le_refl _⟩,⟨by (with_reducible repeat (first |refine blk_drewN ?_ _ |refine blk_drew ?_ |refine blk_alloc ?_ _));exact BK254.out⟩,⟨by repeat (first |(with_reducible first |exact HB.out |apply below_alloc |apply pw_below_drewN |apply below_drew1 |refine below_set ?_ GE254.out) |exact HB.out)⟩⟩
  ·rw [if_neg c5] at H
   have c5b0:decide (a1<0)=false:=decide_eq_false c5
   clear c5
   (first |rw [c5b0] |(simp only [i64_w,i32_w];rw [c5b0]) |skip)
   have H':=Aside0.mk H
   clear H
   have hcz6_0:w4.cell? ⟨gb254,0,none⟩=some (.slice A0_0 l0_0.length c0_0):=(blk_cell BK254.out 0).trans rfl
   have hcz6_1:w4.cell? ⟨gb254,1,none⟩=some (.slice A0_1 l0_1.length c0_1):=(blk_cell BK254.out 1).trans rfl
   have hcz6_2:w4.cell? ⟨gb254,2,none⟩=some (.int .i64 a0_2):=(blk_cell BK254.out 2).trans rfl
   have hfz6_0:=blk_frozen BK254.out 0
   have hfz6_1:=blk_frozen BK254.out 1
   have hfz6_2:=blk_frozen BK254.out 2
   go_wp2
   go_meet
   case rel=>exact ⟨_,(decide (a1 ≥ (l0_0.length:Int))),(by first |rfl |(simp;done) |(simp [*];done)),H',⟨by first |omega |exact Nat.le_refl _⟩,⟨by (with_reducible repeat (first |refine blk_drewN ?_ _ |refine blk_drew ?_ |refine blk_alloc ?_ _));exact BK254.out⟩,⟨by repeat (first |(with_reducible first |exact HB.out |apply below_alloc |apply pw_below_drewN |apply below_drew1 |refine below_set ?_ GE254.out) |exact HB.out)⟩⟩
 case rest=>
  clear HC3
  try clear p2
  try clear c4
  try clear c5
  try clear c5b0
  try clear hcz6_0
  try clear hcz6_1
  try clear hcz6_2
  try clear hfz6_0
  try clear hfz6_1
  try clear hfz6_2
  obtain ⟨kq,x16_2,rfl,HA,HJ2,BK254,HB⟩:=hcut
  cases kq with
  | zero=>exact absurd HA.out (by simp [hibernacleref15_Get.j0])
  | succ kj2=>
   have H:=HA.out
   clear HA
   simp only [hibernacleref15_Get.j0] at H
   by_cases c7:x16_2=true
   ·subst c7
    have H1:(some ((⟨#[]⟩:ByteArray),2))=some (r1,r2):=by rw [if_pos rfl] at H;exact H
    clear H
    have H:=H1
    clear H1
    simp only [Option.some.injEq,Prod.mk.injEq] at H
    obtain ⟨rfl,rfl⟩:=H
    go_wp2
    go_ret2
    exact ⟨by first |rfl |(simp [errW_none,errW_some] <;> rfl) |(simp [*,errW_none,errW_some] <;> rfl),by repeat (first |(with_reducible first |exact HB.out |apply below_alloc |apply pw_below_drewN |apply below_drew1 |refine below_set ?_ GE254.out) |exact HB.out)⟩
   ·replace c7:=Bool.eq_false_iff.mpr c7
    subst c7
    have H1:(if 0≤a1 then (if a1<(l0_0.length:Int) then (hibernacleref15_Get.l0 kj2 a1 (rdOf ByteArray.empty l0_0 a1) 0 l0_0 l0_1 a0_2) else (none)) else (none))=some (r1,r2):=by rw [if_neg (show ¬ (false=true) by decide)] at H;exact H
    clear H
    have H:=H1
    clear H1
    by_cases c8:0≤a1
    ·rw [if_pos c8] at H
     have c8b0:decide (0≤a1)=true:=decide_eq_true c8
     clear c8
     by_cases c9:a1<(l0_0.length:Int)
     ·rw [if_pos c9] at H
      have c9b0:decide (a1<(l0_0.length:Int))=true:=decide_eq_true c9
      clear c9
      have H':=Aside0.mk H
      clear H
      have hcz10_0:wc.cell? ⟨gb254,0,none⟩=some (.slice A0_0 l0_0.length c0_0):=(blk_cell BK254.out 0).trans rfl
      have hcz10_1:wc.cell? ⟨gb254,1,none⟩=some (.slice A0_1 l0_1.length c0_1):=(blk_cell BK254.out 1).trans rfl
      have hcz10_2:wc.cell? ⟨gb254,2,none⟩=some (.int .i64 a0_2):=(blk_cell BK254.out 2).trans rfl
      have hfz10_0:=blk_frozen BK254.out 0
      have hfz10_1:=blk_frozen BK254.out 1
      have hfz10_2:=blk_frozen BK254.out 2
      have p255:0≤(a1:Int):=of_decide_eq_true (by first |(with_reducible assumption) |assumption)
      have q255:a1<(l0_0.length:Int):=of_decide_eq_true (by first |(with_reducible assumption) |assumption)
      obtain ⟨ad255,e255,hx255_0⟩:=Kd.at_string HR0_0.out a1 p255 q255
      cases e255
      replace hx255_0:=(HB.out.cell (World.block_lt_of_cell? w _ hx255_0)).trans hx255_0
      replace p255:=eq_true p255
      replace q255:=eq_true q255
      go_wp2
      go_loopg [6,7] kj2 (fun kq v6 v7 w'=>∃ (x6_2:ByteArray) (x7_2:Int),v6=.string x6_2∧v7=.int .i64 x7_2∧Aside0 (hibernacleref15_Get.l0 kq a1 x6_2 x7_2 l0_0 l0_1 a0_2=some (r1,r2))∧Aside0 (kq≤kj2)∧Aside0 (w'.heap[gb254]?=some (.cells #[(.slice (some ad255) l0_0.length c0_0),(.slice A0_1 l0_1.length c0_1),.int .i64 a0_2] 29 (0,0)))∧Aside0 (Below w.heap.size w w'))
      case atStart=>exact ⟨(rdOf ByteArray.empty l0_0 a1),(0),(by first |rfl |(simp;done) |(simp [*];done)),(by first |rfl |(simp;done) |(simp [*];done)),H',⟨Nat.le_refl _⟩,⟨by (with_reducible repeat (first |refine blk_drewN ?_ _ |refine blk_drew ?_ |refine blk_alloc ?_ _));exact BK254.out⟩,⟨by repeat (first |(with_reducible first |exact HB.out |apply below_alloc |apply pw_below_drewN |apply below_drew1 |refine below_set ?_ GE254.out) |exact HB.out)⟩⟩
      case round=>
       clear H'
       try clear p2
       try clear q2
       try clear hx2
       try clear c4
       try clear c5
       try clear c5b0
       try clear c7
       try clear c8
       try clear c8b0
       try clear c9
       try clear c9b0
       try clear hcz10_0
       try clear hcz10_1
       try clear hcz10_2
       try clear hcz6_0
       try clear hcz6_1
       try clear hcz6_2
       try clear hfz10_0
       try clear hfz10_1
       try clear hfz10_2
       try clear hfz6_0
       try clear hfz6_1
       try clear hfz6_2
       try clear hx255_0
       try clear p2
       try clear p255
       try clear q255
       obtain ⟨x6_2,x7_2,rfl,rfl,HA,HK2,BK254,HB⟩:=hrel
       cases gk with
       | zero=>exact absurd HA.out (by simp [hibernacleref15_Get.l0])
       | succ k2=>
        have H:=HA.out
        clear HA
        simp only [hibernacleref15_Get.l0] at H
        by_cases c11:x7_2<(l0_1.length:Int)
        ·rw [if_pos c11] at H
         have c11b0:decide (x7_2<(l0_1.length:Int))=true:=decide_eq_true c11
         clear c11
         by_cases c12:0≤x7_2
         ·rw [if_pos c12] at H
          have c12b0:decide (0≤x7_2)=true:=decide_eq_true c12
          clear c12
          by_cases c13:((rd_T27 l0_1 x7_2).f0)=a1
          ·rw [if_pos c13] at H
           have c13b0:(((rd_T27 l0_1 x7_2).f0) == a1)=true:=beq_iff_eq.mpr c13
           have c13b1:(((rd_T27 l0_1 x7_2).f0) != a1)=false:=bne_eq_false_iff_eq.mpr c13
           clear c13
           have H':=Aside0.mk H
           clear H
           have hcz14_0:wr.cell? ⟨gb254,0,none⟩=some (.slice (some ad255) l0_0.length c0_0):=(blk_cell BK254.out 0).trans rfl
           have hcz14_1:wr.cell? ⟨gb254,1,none⟩=some (.slice A0_1 l0_1.length c0_1):=(blk_cell BK254.out 1).trans rfl
           have hcz14_2:wr.cell? ⟨gb254,2,none⟩=some (.int .i64 a0_2):=(blk_cell BK254.out 2).trans rfl
           have hfz14_0:=blk_frozen BK254.out 0
           have hfz14_1:=blk_frozen BK254.out 1
           have hfz14_2:=blk_frozen BK254.out 2
           have p256:0≤(x7_2:Int):=of_decide_eq_true (by first |(with_reducible assumption) |assumption)
           have q256:x7_2<(l0_1.length:Int):=of_decide_eq_true (by first |(with_reducible assumption) |assumption)
           obtain ⟨ad256,e256,hx256_0,hx256_1⟩:=at_T27 HR0_1.out x7_2 p256 q256
           cases e256
           replace hx256_0:=(HB.out.cell (World.block_lt_of_cell? w _ hx256_0)).trans hx256_0
           replace hx256_1:=(HB.out.cell (World.block_lt_of_cell? w _ hx256_1)).trans hx256_1
           replace p256:=eq_true p256
           replace q256:=eq_true q256
           have p257:0≤(x7_2:Int):=of_decide_eq_true (by first |(with_reducible assumption) |assumption)
           have q257:x7_2<(l0_1.length:Int):=of_decide_eq_true (by first |(with_reducible assumption) |assumption)
           obtain ⟨ad257,e257,hx257_0,hx257_1⟩:=at_T27 HR0_1.out x7_2 p257 q257
           obtain rfl:ad256=ad257:=(by injection e257)
           replace hx257_0:=(HB.out.cell (World.block_lt_of_cell? w _ hx257_0)).trans hx257_0
           replace hx257_1:=(HB.out.cell (World.block_lt_of_cell? w _ hx257_1)).trans hx257_1
           replace p257:=eq_true p257
           replace q257:=eq_true q257
           go_wp2
           go_roundg k2
           case measure=>have:=HJ2.out;have:=HK2.out;omega
           case rel=>exact ⟨((rd_T27 l0_1 x7_2).f1),(wrap64 (x7_2 + 1)),(by first |rfl |(simp;done) |(simp [*];done)),(by first |rfl |(simp;done) |(simp [*];done)),H',⟨by have:=HJ2.out;have:=HK2.out;omega⟩,⟨by (with_reducible repeat (first |refine blk_drewN ?_ _ |refine blk_drew ?_ |refine blk_alloc ?_ _));exact BK254.out⟩,⟨by repeat (first |(with_reducible first |exact HB.out |apply below_alloc |apply pw_below_drewN |apply below_drew1 |refine below_set ?_ GE254.out) |exact HB.out)⟩⟩
          ·rw [if_neg c13] at H
           have c13b0:(((rd_T27 l0_1 x7_2).f0) == a1)=false:=beq_eq_false_iff_ne.mpr c13
           have c13b1:(((rd_T27 l0_1 x7_2).f0) != a1)=true:=bne_iff_ne.mpr c13
           have H':=Aside0.mk H
           clear H
           have hcz15_0:wr.cell? ⟨gb254,0,none⟩=some (.slice (some ad255) l0_0.length c0_0):=(blk_cell BK254.out 0).trans rfl
           have hcz15_1:wr.cell? ⟨gb254,1,none⟩=some (.slice A0_1 l0_1.length c0_1):=(blk_cell BK254.out 1).trans rfl
           have hcz15_2:wr.cell? ⟨gb254,2,none⟩=some (.int .i64 a0_2):=(blk_cell BK254.out 2).trans rfl
           have hfz15_0:=blk_frozen BK254.out 0
           have hfz15_1:=blk_frozen BK254.out 1
           have hfz15_2:=blk_frozen BK254.out 2
           have p256:0≤(x7_2:Int):=of_decide_eq_true (by first |(with_reducible assumption) |assumption)
           have q256:x7_2<(l0_1.length:Int):=of_decide_eq_true (by first |(with_reducible assumption) |assumption)
           obtain ⟨ad256,e256,hx256_0,hx256_1⟩:=at_T27 HR0_1.out x7_2 p256 q256
           cases e256
           replace hx256_0:=(HB.out.cell (World.block_lt_of_cell? w _ hx256_0)).trans hx256_0
           replace hx256_1:=(HB.out.cell (World.block_lt_of_cell? w _ hx256_1)).trans hx256_1
           replace p256:=eq_true p256
           replace q256:=eq_true q256
           go_wp2
           go_roundg k2
           case measure=>have:=HJ2.out;have:=HK2.out;omega
           case rel=>exact ⟨(x6_2),(wrap64 (x7_2 + 1)),(by first |rfl |(simp;done) |(simp [*];done)),(by first |rfl |(simp;done) |(simp [*];done)),H',⟨by have:=HJ2.out;have:=HK2.out;omega⟩,⟨by (with_reducible repeat (first |refine blk_drewN ?_ _ |refine blk_drew ?_ |refine blk_alloc ?_ _));exact BK254.out⟩,⟨by repeat (first |(with_reducible first |exact HB.out |apply below_alloc |apply pw_below_drewN |apply below_drew1 |refine below_set ?_ GE254.out) |exact HB.out)⟩⟩
         ·rw [if_neg c12] at H
          exact absurd H (by simp)
        ·rw [if_neg c11] at H
         have c11b0:decide (x7_2<(l0_1.length:Int))=false:=decide_eq_false c11
         clear c11
         simp only [Option.some.injEq,Prod.mk.injEq] at H
         obtain ⟨rfl,rfl⟩:=H
         have hcz16_0:wr.cell? ⟨gb254,0,none⟩=some (.slice (some ad255) l0_0.length c0_0):=(blk_cell BK254.out 0).trans rfl
         have hcz16_1:wr.cell? ⟨gb254,1,none⟩=some (.slice A0_1 l0_1.length c0_1):=(blk_cell BK254.out 1).trans rfl
         have hcz16_2:wr.cell? ⟨gb254,2,none⟩=some (.int .i64 a0_2):=(blk_cell BK254.out 2).trans rfl
         have hfz16_0:=blk_frozen BK254.out 0
         have hfz16_1:=blk_frozen BK254.out 1
         have hfz16_2:=blk_frozen BK254.out 2
         go_wp2
         go_ret2
         exact ⟨by first |rfl |(simp [errW_none,errW_some] <;> rfl) |(simp [*,errW_none,errW_some] <;> rfl),by repeat (first |(with_reducible first |exact HB.out |apply below_alloc |apply pw_below_drewN |apply below_drew1 |refine below_set ?_ GE254.out) |exact HB.out)⟩
     ·rw [if_neg c9] at H
      exact absurd H (by simp)
    ·rw [if_neg c8] at H
     exact absurd H (by simp)
end Go.Proofs.Ytjfmnkmgnbbfgaa.A
