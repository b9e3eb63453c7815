-- Made by drv.py (ours) by way of the kit's print; Lean checks it.
import Derived.Test.YtjfmnkmgnbbfgaaA0
namespace Go.Proofs.Ytjfmnkmgnbbfgaa.A
open Go.RowKit Go.Proofs.YtjfmnkmgnbbfgaaW.PrintWords Go.Proofs.YtjfmnkmgnbbfgaaW.PrintLast Go.Proofs.YtjfmnkmgnbbfgaaW.PrintMore
attribute [local go_sem] max2_int min2_int max_two min_two max_three min_three max_four min_four   -- for this text's walks alone
set_option linter.unusedVariables false
set_option linter.unusedSimpArgs false
mutual
def hibernacleref16_Great.j0:Nat→Bool→List ByteArray→List (S27)→Int→Option (Int)
 | 0,_,_,_,_=>none
 | k + 1,x14,x245000,x245001,x245002=>if x14=true then (some 1) else (hibernacleref16_Great.l0 k (x245000.length:Int) 0 x245000 x245001 x245002)
def hibernacleref16_Great.l0:Nat→Int→Int→List ByteArray→List (S27)→Int→Option (Int)
 | 0,_,_,_,_,_=>none
 | k + 1,x17,x18,x245000,x245001,x245002=>if x18<x17 then (if 0≤x18 then (if x18<(x245000.length:Int) then (if ((rdOf ByteArray.empty x245000 x18).size:Int) > 200 then (some 1) else (hibernacleref16_Great.l0 k x17 (wrap64 (x18 + 1)) x245000 x245001 x245002)) else (none)) else (none)) else (hibernacleref16_Great.l1 k (x245001.length:Int) 0 x245000 x245001 x245002)
def hibernacleref16_Great.l1:Nat→Int→Int→List ByteArray→List (S27)→Int→Option (Int)
 | 0,_,_,_,_,_=>none
 | k + 1,x31,x32,x245000,x245001,x245002=>if x32<x31 then (if 0≤x32 then (if x32<(x245001.length:Int) then (if (((rd_T27 x245001 x32).f1).size:Int) > 200 then (some 1) else (hibernacleref16_Great.l1 k x31 (wrap64 (x32 + 1)) x245000 x245001 x245002)) else (none)) else (none)) else (some 0)
end
def hibernacleref16_Great.f (k:Nat) (l0_0:List ByteArray) (l0_1:List (S27)) (a0_2:Int):Option (Int):=if (l0_0.length:Int) > 80 then (hibernacleref16_Great.j0 k true l0_0 l0_1 a0_2) else (hibernacleref16_Great.j0 k (decide ((l0_1.length:Int) > 60)) l0_0 l0_1 a0_2)
theorem hibernacleref16_Great.mono_l:∀ k,(∀ y0 y1 y2 y3,LeO (hibernacleref16_Great.j0 k y0 y1 y2 y3) (hibernacleref16_Great.j0 (k + 1) y0 y1 y2 y3))∧(∀ y0 y1 y2 y3 y4,LeO (hibernacleref16_Great.l0 k y0 y1 y2 y3 y4) (hibernacleref16_Great.l0 (k + 1) y0 y1 y2 y3 y4))∧(∀ y0 y1 y2 y3 y4,LeO (hibernacleref16_Great.l1 k y0 y1 y2 y3 y4) (hibernacleref16_Great.l1 (k + 1) y0 y1 y2 y3 y4))
 | 0=>⟨fun _ _ _ _ r h=>by simp [hibernacleref16_Great.j0] at h,fun _ _ _ _ _ r h=>by simp [hibernacleref16_Great.l0] at h,fun _ _ _ _ _ r h=>by simp [hibernacleref16_Great.l1] at h⟩
 | k + 1=>by
  obtain ⟨ih0,ih1,ih2⟩:=hibernacleref16_Great.mono_l k
  refine ⟨?_, ?_, ?_⟩
  ·intro y0 y1 y2 y3
   unfold hibernacleref16_Great.j0
   repeat' first
   | (with_reducible exact ih0 _ _ _ _)
   | (with_reducible exact ih1 _ _ _ _ _)
   | (with_reducible exact ih2 _ _ _ _ _)
   | (with_reducible exact LeO.refl _)
   | (with_reducible exact LeO.none _)
   | (with_reducible refine LeO.ite ?_ ?_)
   | (with_reducible refine LeO.bind ?_ (fun _=>?_))
   | exact ih0 _ _ _ _
   | exact ih1 _ _ _ _ _
   | exact ih2 _ _ _ _ _
   | exact LeO.none _
   | refine LeO.ite ?_ ?_
   | refine LeO.bind ?_ (fun _=>?_)
  ·intro y0 y1 y2 y3 y4
   unfold hibernacleref16_Great.l0
   repeat' first
   | (with_reducible exact ih0 _ _ _ _)
   | (with_reducible exact ih1 _ _ _ _ _)
   | (with_reducible exact ih2 _ _ _ _ _)
   | (with_reducible exact LeO.refl _)
   | (with_reducible exact LeO.none _)
   | (with_reducible refine LeO.ite ?_ ?_)
   | (with_reducible refine LeO.bind ?_ (fun _=>?_))
   | exact ih0 _ _ _ _
   | exact ih1 _ _ _ _ _
   | exact ih2 _ _ _ _ _
   | exact LeO.none _
   | refine LeO.ite ?_ ?_
   | refine LeO.bind ?_ (fun _=>?_)
  ·intro y0 y1 y2 y3 y4
   unfold hibernacleref16_Great.l1
   repeat' first
   | (with_reducible exact ih0 _ _ _ _)
   | (with_reducible exact ih1 _ _ _ _ _)
   | (with_reducible exact ih2 _ _ _ _ _)
   | (with_reducible exact LeO.refl _)
   | (with_reducible exact LeO.none _)
   | (with_reducible refine LeO.ite ?_ ?_)
   | (with_reducible refine LeO.bind ?_ (fun _=>?_))
   | exact ih0 _ _ _ _
   | exact ih1 _ _ _ _ _
   | exact ih2 _ _ _ _ _
   | exact LeO.none _
   | refine LeO.ite ?_ ?_
   | refine LeO.bind ?_ (fun _=>?_)
theorem hibernacleref16_Great.mono:∀ a0 a1 a2 k,LeO (hibernacleref16_Great.f k a0 a1 a2) (hibernacleref16_Great.f (k + 1) a0 a1 a2):=by
 intro a0 a1 a2 k
 obtain ⟨ih0,ih1,ih2⟩:=hibernacleref16_Great.mono_l k
 unfold hibernacleref16_Great.f
 repeat' first
   | (with_reducible exact ih0 _ _ _ _)
   | (with_reducible exact ih1 _ _ _ _ _)
   | (with_reducible exact ih2 _ _ _ _ _)
   | (with_reducible exact LeO.refl _)
   | (with_reducible exact LeO.none _)
   | (with_reducible refine LeO.ite ?_ ?_)
   | (with_reducible refine LeO.bind ?_ (fun _=>?_))
   | exact ih0 _ _ _ _
   | exact ih1 _ _ _ _ _
   | exact ih2 _ _ _ _ _
   | exact LeO.none _
   | refine LeO.ite ?_ ?_
   | refine LeO.bind ?_ (fun _=>?_)
set_option maxHeartbeats 8000000 in
set_option maxRecDepth 100000 in
theorem hibernacleref16_Great.calls (k:Nat) (A0_0:Option Addr) (c0_0:Nat) (l0_0:List ByteArray) (A0_1:Option Addr) (c0_1:Nat) (l0_1:List (S27)) (a0_2:Int) (r:Int) (w:World) (hr0_0:Kd.C Kd.string w A0_0 l0_0.length l0_0) (hc0_0:l0_0.length≤c0_0) (hr0_1:Kd.C k27 w A0_1 l0_1.length l0_1) (hc0_1:l0_1.length≤c0_1) (h:hibernacleref16_Great.f k l0_0 l0_1 a0_2=some r) :
  Calls Try.prog 26 #[.agg #[.slice A0_0 l0_0.length c0_0,.slice A0_1 l0_1.length c0_1,.int .i64 a0_2]] w fun e w'=>e=.returned (.int .i64 r)∧Below w.heap.size w w':=by
 have hu29:=Try.underlying29
 have HR0_0:=Aside0.mk hr0_0
 have HC0_0:=Aside0.mk hc0_0
 clear hr0_0 hc0_0
 have HR0_1:=Aside0.mk hr0_1
 have HC0_1:=Aside0.mk hc0_1
 clear hr0_1 hc0_1
 have HB:=Aside0.mk (Below.refl w.heap.size w)
 have H:(if (l0_0.length:Int) > 80 then (hibernacleref16_Great.j0 k true l0_0 l0_1 a0_2) else (hibernacleref16_Great.j0 k (decide ((l0_1.length:Int) > 60)) l0_0 l0_1 a0_2))=some r:=h
 clear h
 have HC2:=Aside0.mk H
 clear H
 go_enter Try.func26,Try.ntmps26
 go_upto_region 1 with (first |((with_reducible refine gate_dst (N:=1) rfl ?_);(try (refine gate_guard (by rfl) ?_;dsimp only));refine box_event ?hg (N:=1) ?hd (cs:=#[.slice A0_0 l0_0.length c0_0,.slice A0_1 l0_1.length c0_1,.int .i64 a0_2]) (t:=29) ?hr ?_;(case hd=>rfl);(case hg=>rfl);(case hr=>first |(go_simp;done) |(go_simp;rfl));intro gb244 hg w3 hbox hb;have n0_:=Aside0.mk (below_step (by repeat (first |(with_reducible first |exact HB.out |apply below_alloc |apply pw_below_drewN |apply below_drew1) |exact HB.out)) hb);have n1_:=Aside0.mk (hbox);have n2_:=Aside0.mk ((by rw [hg];exact (below_size (by repeat (first |(with_reducible first |exact HB.out |apply below_alloc |apply pw_below_drewN |apply below_drew1) |exact HB.out))):w.heap.size≤gb244));have n3_:=Aside0.mk ((by rw [hg];exact (below_size (by repeat (first |(with_reducible first |exact HB.out |apply below_alloc |apply pw_below_drewN |apply below_drew1) |exact HB.out))):w.heap.size≤gb244));clear HB;have HB:=n0_;have BK244:=n1_;have GW244:=n2_;have GE244:=n3_;clear n0_ n1_ n2_ n3_;clear hb hbox hg))
 (try simp only [Act.put,List.setIfInBounds_toArray,List.set_cons_zero,List.set_cons_succ])
 go_cut [14] (fun v14 wc=>∃ (kq:Nat) (x14_1:Bool),v14=.bool x14_1∧Aside0 (hibernacleref16_Great.j0 kq x14_1 l0_0 l0_1 a0_2=some r)∧Aside0 (kq≤k)∧Aside0 (wc.heap[gb244]?=some (.cells #[(.slice A0_0 l0_0.length c0_0),(.slice A0_1 l0_1.length c0_1),.int .i64 a0_2] 29 (0,0)))∧Aside0 (Below w.heap.size w wc))
 case first=>
  have H:=HC2.out
  clear HC2
  by_cases c4:(l0_0.length:Int) > 80
  ·rw [if_pos c4] at H
   have c4b0:decide (80<(l0_0.length:Int))=true:=decide_eq_true c4
   have c4b1:decide (80<l0_0.length)=true:=decide_eq_true (by omega)
   clear c4
   (first |rw [c4b0] |(simp only [i64_w,i32_w];rw [c4b0]) |skip)
   have H':=Aside0.mk H
   clear H
   have hcz5_0:w3.cell? ⟨gb244,0,none⟩=some (.slice A0_0 l0_0.length c0_0):=(blk_cell BK244.out 0).trans rfl
   have hcz5_1:w3.cell? ⟨gb244,1,none⟩=some (.slice A0_1 l0_1.length c0_1):=(blk_cell BK244.out 1).trans rfl
   have hcz5_2:w3.cell? ⟨gb244,2,none⟩=some (.int .i64 a0_2):=(blk_cell BK244.out 2).trans rfl
   have hfz5_0:=blk_frozen BK244.out 0
   have hfz5_1:=blk_frozen BK244.out 1
   have hfz5_2:=blk_frozen BK244.out 2
   go_wp2
   go_meet
   case rel=>exact ⟨_,(true),(by first |rfl |(simp;done) |(simp [*];done)),H',⟨by first |omega |exact Nat.le_refl _⟩,⟨by (with_reducible repeat (first |refine blk_drewN ?_ _ |refine blk_drew ?_ |refine blk_alloc ?_ _));exact BK244.out⟩,⟨by repeat (first |(with_reducible first |exact HB.out |apply below_alloc |apply pw_below_drewN |apply below_drew1 |refine below_set ?_ GE244.out) |exact HB.out)⟩⟩
  ·rw [if_neg c4] at H
   have c4b0:decide (80<(l0_0.length:Int))=false:=decide_eq_false c4
   have c4b1:decide (80<l0_0.length)=false:=decide_eq_false (by omega)
   clear c4
   (first |rw [c4b0] |(simp only [i64_w,i32_w];rw [c4b0]) |skip)
   have H':=Aside0.mk H
   clear H
   have hcz6_0:w3.cell? ⟨gb244,0,none⟩=some (.slice A0_0 l0_0.length c0_0):=(blk_cell BK244.out 0).trans rfl
   have hcz6_1:w3.cell? ⟨gb244,1,none⟩=some (.slice A0_1 l0_1.length c0_1):=(blk_cell BK244.out 1).trans rfl
   have hcz6_2:w3.cell? ⟨gb244,2,none⟩=some (.int .i64 a0_2):=(blk_cell BK244.out 2).trans rfl
   have hfz6_0:=blk_frozen BK244.out 0
   have hfz6_1:=blk_frozen BK244.out 1
   have hfz6_2:=blk_frozen BK244.out 2
   go_wp2
   go_meet
   case rel=>exact ⟨_,(decide ((l0_1.length:Int) > 60)),(by first |rfl |(simp;done) |(simp [*];done)),H',⟨by first |omega |exact Nat.le_refl _⟩,⟨by (with_reducible repeat (first |refine blk_drewN ?_ _ |refine blk_drew ?_ |refine blk_alloc ?_ _));exact BK244.out⟩,⟨by repeat (first |(with_reducible first |exact HB.out |apply below_alloc |apply pw_below_drewN |apply below_drew1 |refine below_set ?_ GE244.out) |exact HB.out)⟩⟩
 case rest=>
  clear HC2
  try clear c2
  try clear p2
  try clear c4
  try clear c4b0
  try clear c4b1
  try clear hcz5_0
  try clear hcz5_1
  try clear hcz5_2
  try clear hcz6_0
  try clear hcz6_1
  try clear hcz6_2
  try clear hfz5_0
  try clear hfz5_1
  try clear hfz5_2
  try clear hfz6_0
  try clear hfz6_1
  try clear hfz6_2
  obtain ⟨kq,x14_1,rfl,HA,HJ1,BK244,HB⟩:=hcut
  cases kq with
  | zero=>exact absurd HA.out (by simp [hibernacleref16_Great.j0])
  | succ kj1=>
   have H:=HA.out
   clear HA
   simp only [hibernacleref16_Great.j0] at H
   by_cases c7:x14_1=true
   ·subst c7
    have H1:(some 1)=some r:=by rw [if_pos rfl] at H;exact H
    clear H
    have H:=H1
    clear H1
    obtain rfl:=Option.some.inj H
    go_wp2
    go_ret
    exact ⟨by first |rfl |(simp [errW_none,errW_some] <;> rfl) |(simp [*,errW_none,errW_some] <;> rfl),by repeat (first |(with_reducible first |exact HB.out |apply below_alloc |apply pw_below_drewN |apply below_drew1 |refine below_set ?_ GE244.out) |exact HB.out)⟩
   ·replace c7:=Bool.eq_false_iff.mpr c7
    subst c7
    have H1:(hibernacleref16_Great.l0 kj1 (l0_0.length:Int) 0 l0_0 l0_1 a0_2)=some r:=by rw [if_neg (show ¬ (false=true) by decide)] at H;exact H
    clear H
    have H:=H1
    clear H1
    have H':=Aside0.mk H
    clear H
    have hcz8_0:wc.cell? ⟨gb244,0,none⟩=some (.slice A0_0 l0_0.length c0_0):=(blk_cell BK244.out 0).trans rfl
    have hcz8_1:wc.cell? ⟨gb244,1,none⟩=some (.slice A0_1 l0_1.length c0_1):=(blk_cell BK244.out 1).trans rfl
    have hcz8_2:wc.cell? ⟨gb244,2,none⟩=some (.int .i64 a0_2):=(blk_cell BK244.out 2).trans rfl
    have hfz8_0:=blk_frozen BK244.out 0
    have hfz8_1:=blk_frozen BK244.out 1
    have hfz8_2:=blk_frozen BK244.out 2
    go_wp2
    go_loopg [18] kj1 (fun kq v18 w'=>∃ (x18_2:Int),v18=.int .i64 x18_2∧Aside0 (hibernacleref16_Great.l0 kq (l0_0.length:Int) x18_2 l0_0 l0_1 a0_2=some r)∧Aside0 (kq≤kj1)∧Aside0 (w'.heap[gb244]?=some (.cells #[(.slice A0_0 l0_0.length c0_0),(.slice A0_1 l0_1.length c0_1),.int .i64 a0_2] 29 (0,0)))∧Aside0 (Below w.heap.size w w'))
    case atStart=>exact ⟨(0),(by first |rfl |(simp;done) |(simp [*];done)),H',⟨Nat.le_refl _⟩,⟨by (with_reducible repeat (first |refine blk_drewN ?_ _ |refine blk_drew ?_ |refine blk_alloc ?_ _));exact BK244.out⟩,⟨by repeat (first |(with_reducible first |exact HB.out |apply below_alloc |apply pw_below_drewN |apply below_drew1 |refine below_set ?_ GE244.out) |exact HB.out)⟩⟩
    case round=>
     clear H'
     try clear c2
     try clear p2
     try clear c4
     try clear c4b0
     try clear c4b1
     try clear c7
     try clear hcz5_0
     try clear hcz5_1
     try clear hcz5_2
     try clear hcz6_0
     try clear hcz6_1
     try clear hcz6_2
     try clear hcz8_0
     try clear hcz8_1
     try clear hcz8_2
     try clear hfz5_0
     try clear hfz5_1
     try clear hfz5_2
     try clear hfz6_0
     try clear hfz6_1
     try clear hfz6_2
     try clear hfz8_0
     try clear hfz8_1
     try clear hfz8_2
     try clear p2
     obtain ⟨x18_2,rfl,HA,HK2,BK244,HB⟩:=hrel
     cases gk with
     | zero=>exact absurd HA.out (by simp [hibernacleref16_Great.l0])
     | succ k2=>
      have H:=HA.out
      clear HA
      simp only [hibernacleref16_Great.l0] at H
      by_cases c9:x18_2<(l0_0.length:Int)
      ·rw [if_pos c9] at H
       have c9b0:decide (x18_2<(l0_0.length:Int))=true:=decide_eq_true c9
       clear c9
       by_cases c10:0≤x18_2
       ·rw [if_pos c10] at H
        have c10b0:decide (0≤x18_2)=true:=decide_eq_true c10
        clear c10
        by_cases c11:x18_2<(l0_0.length:Int)
        ·rw [if_pos c11] at H
         have c11b0:decide (x18_2<(l0_0.length:Int))=true:=decide_eq_true c11
         clear c11
         by_cases c12:((rdOf ByteArray.empty l0_0 x18_2).size:Int) > 200
         ·rw [if_pos c12] at H
          have c12b0:decide (200<((rdOf ByteArray.empty l0_0 x18_2).size:Int))=true:=decide_eq_true c12
          have c12b1:decide (200<(rdOf ByteArray.empty l0_0 x18_2).size)=true:=decide_eq_true (by omega)
          clear c12
          obtain rfl:=Option.some.inj H
          have hcz13_0:wr.cell? ⟨gb244,0,none⟩=some (.slice A0_0 l0_0.length c0_0):=(blk_cell BK244.out 0).trans rfl
          have hcz13_1:wr.cell? ⟨gb244,1,none⟩=some (.slice A0_1 l0_1.length c0_1):=(blk_cell BK244.out 1).trans rfl
          have hcz13_2:wr.cell? ⟨gb244,2,none⟩=some (.int .i64 a0_2):=(blk_cell BK244.out 2).trans rfl
          have hfz13_0:=blk_frozen BK244.out 0
          have hfz13_1:=blk_frozen BK244.out 1
          have hfz13_2:=blk_frozen BK244.out 2
          have p245:0≤(x18_2:Int):=of_decide_eq_true (by first |(with_reducible assumption) |assumption)
          have q245:x18_2<(l0_0.length:Int):=of_decide_eq_true (by first |(with_reducible assumption) |assumption)
          obtain ⟨ad245,e245,hx245_0⟩:=Kd.at_string HR0_0.out x18_2 p245 q245
          cases e245
          replace hx245_0:=(HB.out.cell (World.block_lt_of_cell? w _ hx245_0)).trans hx245_0
          replace p245:=eq_true p245
          replace q245:=eq_true q245
          go_wp2
          go_ret
          exact ⟨by first |rfl |(simp [errW_none,errW_some] <;> rfl) |(simp [*,errW_none,errW_some] <;> rfl),by repeat (first |(with_reducible first |exact HB.out |apply below_alloc |apply pw_below_drewN |apply below_drew1 |refine below_set ?_ GE244.out) |exact HB.out)⟩
         ·rw [if_neg c12] at H
          have c12b0:decide (200<((rdOf ByteArray.empty l0_0 x18_2).size:Int))=false:=decide_eq_false c12
          have c12b1:decide (200<(rdOf ByteArray.empty l0_0 x18_2).size)=false:=decide_eq_false (by omega)
          clear c12
          have H':=Aside0.mk H
          clear H
          have hcz14_0:wr.cell? ⟨gb244,0,none⟩=some (.slice A0_0 l0_0.length c0_0):=(blk_cell BK244.out 0).trans rfl
          have hcz14_1:wr.cell? ⟨gb244,1,none⟩=some (.slice A0_1 l0_1.length c0_1):=(blk_cell BK244.out 1).trans rfl
          have hcz14_2:wr.cell? ⟨gb244,2,none⟩=some (.int .i64 a0_2):=(blk_cell BK244.out 2).trans rfl
          have hfz14_0:=blk_frozen BK244.out 0
          have hfz14_1:=blk_frozen BK244.out 1
          have hfz14_2:=blk_frozen BK244.out 2
          have p245:0≤(x18_2:Int):=of_decide_eq_true (by first |(with_reducible assumption) |assumption)
          have q245:x18_2<(l0_0.length:Int):=of_decide_eq_true (by first |(with_reducible assumption) |assumption)
          obtain ⟨ad245,e245,hx245_0⟩:=Kd.at_string HR0_0.out x18_2 p245 q245
          cases e245
          replace hx245_0:=(HB.out.cell (World.block_lt_of_cell? w _ hx245_0)).trans hx245_0
          replace p245:=eq_true p245
          replace q245:=eq_true q245
          go_wp2
          go_roundg k2
          case measure=>have:=HJ1.out;have:=HK2.out;omega
          case rel=>exact ⟨(wrap64 (x18_2 + 1)),(by first |rfl |(simp;done) |(simp [*];done)),H',⟨by have:=HJ1.out;have:=HK2.out;omega⟩,⟨by (with_reducible repeat (first |refine blk_drewN ?_ _ |refine blk_drew ?_ |refine blk_alloc ?_ _));exact BK244.out⟩,⟨by repeat (first |(with_reducible first |exact HB.out |apply below_alloc |apply pw_below_drewN |apply below_drew1 |refine below_set ?_ GE244.out) |exact HB.out)⟩⟩
        ·rw [if_neg c11] at H
         exact absurd H (by simp)
       ·rw [if_neg c10] at H
        exact absurd H (by simp)
      ·rw [if_neg c9] at H
       have c9b0:decide (x18_2<(l0_0.length:Int))=false:=decide_eq_false c9
       clear c9
       have H':=Aside0.mk H
       clear H
       have hcz15_0:wr.cell? ⟨gb244,0,none⟩=some (.slice A0_0 l0_0.length c0_0):=(blk_cell BK244.out 0).trans rfl
       have hcz15_1:wr.cell? ⟨gb244,1,none⟩=some (.slice A0_1 l0_1.length c0_1):=(blk_cell BK244.out 1).trans rfl
       have hcz15_2:wr.cell? ⟨gb244,2,none⟩=some (.int .i64 a0_2):=(blk_cell BK244.out 2).trans rfl
       have hfz15_0:=blk_frozen BK244.out 0
       have hfz15_1:=blk_frozen BK244.out 1
       have hfz15_2:=blk_frozen BK244.out 2
       go_wp2
       go_loopg [32] k2 (fun kq v32 w'=>∃ (x32_3:Int),v32=.int .i64 x32_3∧Aside0 (hibernacleref16_Great.l1 kq (l0_1.length:Int) x32_3 l0_0 l0_1 a0_2=some r)∧Aside0 (kq≤k2)∧Aside0 (w'.heap[gb244]?=some (.cells #[(.slice A0_0 l0_0.length c0_0),(.slice A0_1 l0_1.length c0_1),.int .i64 a0_2] 29 (0,0)))∧Aside0 (Below w.heap.size w w'))
       case atStart=>exact ⟨(0),(by first |rfl |(simp;done) |(simp [*];done)),H',⟨Nat.le_refl _⟩,⟨by (with_reducible repeat (first |refine blk_drewN ?_ _ |refine blk_drew ?_ |refine blk_alloc ?_ _));exact BK244.out⟩,⟨by repeat (first |(with_reducible first |exact HB.out |apply below_alloc |apply pw_below_drewN |apply below_drew1 |refine below_set ?_ GE244.out) |exact HB.out)⟩⟩
       case round=>
        clear H'
        try clear c1
        try clear c2
        try clear p2
        try clear q2
        try clear hx2
        try clear c4
        try clear c4b0
        try clear c4b1
        try clear p6
        try clear c7
        try clear c9
        try clear c9b0
        try clear c10
        try clear c10b0
        try clear c11
        try clear c11b0
        try clear c12
        try clear c12b0
        try clear c12b1
        try clear hcz13_0
        try clear hcz13_1
        try clear hcz13_2
        try clear hcz14_0
        try clear hcz14_1
        try clear hcz14_2
        try clear hcz15_0
        try clear hcz15_1
        try clear hcz15_2
        try clear hcz5_0
        try clear hcz5_1
        try clear hcz5_2
        try clear hcz6_0
        try clear hcz6_1
        try clear hcz6_2
        try clear hcz8_0
        try clear hcz8_1
        try clear hcz8_2
        try clear hfz13_0
        try clear hfz13_1
        try clear hfz13_2
        try clear hfz14_0
        try clear hfz14_1
        try clear hfz14_2
        try clear hfz15_0
        try clear hfz15_1
        try clear hfz15_2
        try clear hfz5_0
        try clear hfz5_1
        try clear hfz5_2
        try clear hfz6_0
        try clear hfz6_1
        try clear hfz6_2
        try clear hfz8_0
        try clear hfz8_1
        try clear hfz8_2
        try clear hx245_0
        try clear p2
        try clear p245
        try clear q245
        obtain ⟨x32_3,rfl,HA,HK3,BK244,HB⟩:=hrel
        cases gk with
        | zero=>exact absurd HA.out (by simp [hibernacleref16_Great.l1])
        | succ k3=>
         have H:=HA.out
         clear HA
         simp only [hibernacleref16_Great.l1] at H
         by_cases c16:x32_3<(l0_1.length:Int)
         ·rw [if_pos c16] at H
          have c16b0:decide (x32_3<(l0_1.length:Int))=true:=decide_eq_true c16
          clear c16
          by_cases c17:0≤x32_3
          ·rw [if_pos c17] at H
           have c17b0:decide (0≤x32_3)=true:=decide_eq_true c17
           clear c17
           by_cases c18:x32_3<(l0_1.length:Int)
           ·rw [if_pos c18] at H
            have c18b0:decide (x32_3<(l0_1.length:Int))=true:=decide_eq_true c18
            clear c18
            by_cases c19:(((rd_T27 l0_1 x32_3).f1).size:Int) > 200
            ·rw [if_pos c19] at H
             have c19b0:decide (200<(((rd_T27 l0_1 x32_3).f1).size:Int))=true:=decide_eq_true c19
             have c19b1:decide (200<((rd_T27 l0_1 x32_3).f1).size)=true:=decide_eq_true (by omega)
             clear c19
             obtain rfl:=Option.some.inj H
             have hcz20_0:wr.cell? ⟨gb244,0,none⟩=some (.slice A0_0 l0_0.length c0_0):=(blk_cell BK244.out 0).trans rfl
             have hcz20_1:wr.cell? ⟨gb244,1,none⟩=some (.slice A0_1 l0_1.length c0_1):=(blk_cell BK244.out 1).trans rfl
             have hcz20_2:wr.cell? ⟨gb244,2,none⟩=some (.int .i64 a0_2):=(blk_cell BK244.out 2).trans rfl
             have hfz20_0:=blk_frozen BK244.out 0
             have hfz20_1:=blk_frozen BK244.out 1
             have hfz20_2:=blk_frozen BK244.out 2
             have p246:0≤(x32_3:Int):=of_decide_eq_true (by first |(with_reducible assumption) |assumption)
             have q246:x32_3<(l0_1.length:Int):=of_decide_eq_true (by first |(with_reducible assumption) |assumption)
             obtain ⟨ad246,e246,hx246_0,hx246_1⟩:=at_T27 HR0_1.out x32_3 p246 q246
             cases e246
             replace hx246_0:=(HB.out.cell (World.block_lt_of_cell? w _ hx246_0)).trans hx246_0
             replace hx246_1:=(HB.out.cell (World.block_lt_of_cell? w _ hx246_1)).trans hx246_1
             replace p246:=eq_true p246
             replace q246:=eq_true q246
             go_wp2
             go_ret
             exact ⟨by first |rfl |(simp [errW_none,errW_some] <;> rfl) |(simp [*,errW_none,errW_some] <;> rfl),by repeat (first |(with_reducible first |exact HB.out |apply below_alloc |apply pw_below_drewN |apply below_drew1 |refine below_set ?_ GE244.out) |exact HB.out)⟩
            ·rw [if_neg c19] at H
             have c19b0:decide (200<(((rd_T27 l0_1 x32_3).f1).size:Int))=false:=decide_eq_false c19
             have c19b1:decide (200<((rd_T27 l0_1 x32_3).f1).size)=false:=decide_eq_false (by omega)
             clear c19
             have H':=Aside0.mk H
             clear H
             have hcz21_0:wr.cell? ⟨gb244,0,none⟩=some (.slice A0_0 l0_0.length c0_0):=(blk_cell BK244.out 0).trans rfl
             have hcz21_1:wr.cell? ⟨gb244,1,none⟩=some (.slice A0_1 l0_1.length c0_1):=(blk_cell BK244.out 1).trans rfl
             have hcz21_2:wr.cell? ⟨gb244,2,none⟩=some (.int .i64 a0_2):=(blk_cell BK244.out 2).trans rfl
             have hfz21_0:=blk_frozen BK244.out 0
             have hfz21_1:=blk_frozen BK244.out 1
             have hfz21_2:=blk_frozen BK244.out 2
             have p246:0≤(x32_3:Int):=of_decide_eq_true (by first |(with_reducible assumption) |assumption)
             have q246:x32_3<(l0_1.length:Int):=of_decide_eq_true (by first |(with_reducible assumption) |assumption)
             obtain ⟨ad246,e246,hx246_0,hx246_1⟩:=at_T27 HR0_1.out x32_3 p246 q246
             cases e246
             replace hx246_0:=(HB.out.cell (World.block_lt_of_cell? w _ hx246_0)).trans hx246_0
             replace hx246_1:=(HB.out.cell (World.block_lt_of_cell? w _ hx246_1)).trans hx246_1
             replace p246:=eq_true p246
             replace q246:=eq_true q246
             go_wp2
             go_roundg k3
             case measure=>have:=HJ1.out;have:=HK2.out;have:=HK3.out;omega
             case rel=>exact ⟨(wrap64 (x32_3 + 1)),(by first |rfl |(simp;done) |(simp [*];done)),H',⟨by have:=HJ1.out;have:=HK2.out;have:=HK3.out;omega⟩,⟨by (with_reducible repeat (first |refine blk_drewN ?_ _ |refine blk_drew ?_ |refine blk_alloc ?_ _));exact BK244.out⟩,⟨by repeat (first |(with_reducible first |exact HB.out |apply below_alloc |apply pw_below_drewN |apply below_drew1 |refine below_set ?_ GE244.out) |exact HB.out)⟩⟩
           ·rw [if_neg c18] at H
            exact absurd H (by simp)
          ·rw [if_neg c17] at H
           exact absurd H (by simp)
         ·rw [if_neg c16] at H
          have c16b0:decide (x32_3<(l0_1.length:Int))=false:=decide_eq_false c16
          clear c16
          obtain rfl:=Option.some.inj H
          go_wp2
          go_ret
          exact ⟨by first |rfl |(simp [errW_none,errW_some] <;> rfl) |(simp [*,errW_none,errW_some] <;> rfl),by repeat (first |(with_reducible first |exact HB.out |apply below_alloc |apply pw_below_drewN |apply below_drew1 |refine below_set ?_ GE244.out) |exact HB.out)⟩
end Go.Proofs.Ytjfmnkmgnbbfgaa.A
