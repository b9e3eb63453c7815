-- Made by drv.py (ours) by way of the kit's print; Lean checks it.
import Derived.Test.YtjfmnkmgnbbfgaaA0
import Derived.Test.YtjfmnkmgnbbfgaaA83
namespace Go.Proofs.Ytjfmnkmgnbbfgaa.A
open Go.RowKit Go.Proofs.YtjfmnkmgnbbfgaaW.PrintWords Go.Proofs.YtjfmnkmgnbbfgaaW.PrintLast Go.Proofs.YtjfmnkmgnbbfgaaW.PrintMore
attribute [local go_sem] max2_int min2_int max_two min_two max_three min_three max_four min_four   -- for this text's walks alone
set_option linter.unusedVariables false
set_option linter.unusedSimpArgs false
def hibernacleref15_Put.j0:Nat→Int→ByteArray→Bool→List ByteArray→List (S27)→Int→Option (List ByteArray × (List (S27)) × Int × Int)
 | 0,_,_,_,_,_,_=>none
 | k + 1,x1,x2,x16,x307000,x307001,x307002=>if x16=true then (some (([]:List ByteArray),([]:List (S27)),0,2)) else (if (x2.size:Int)=128 then (if x307002=0 then (some (x307000,x307001,x307002,17)) else ((some (([]:List (S27)):List (S27))).bind fun y308=>(if y308.length + x307001.length<5864062014805 then ((some (y308 ++ x307001:List (S27))).bind fun y311=>(if y311.length<5864062014805 then ((hibernacleref15_less.f x307000 (y311 ++ [(⟨x1,x2⟩:S27)]) x307002).bind fun bt317=>(some (bt317.1,bt317.2.1,bt317.2.2,0))) else (none))) else (none)))) else (some (([]:List ByteArray),([]:List (S27)),0,3)))
def hibernacleref15_Put.f (k:Nat) (l0_0:List ByteArray) (l0_1:List (S27)) (a0_2:Int) (a1:Int) (a2:ByteArray):Option (List ByteArray × (List (S27)) × Int × Int):=if a1<0 then (hibernacleref15_Put.j0 k a1 a2 true l0_0 l0_1 a0_2) else (hibernacleref15_Put.j0 k a1 a2 (decide (a1 ≥ (l0_0.length:Int))) l0_0 l0_1 a0_2)
theorem hibernacleref15_Put.mono_l:∀ k,(∀ y0 y1 y2 y3 y4 y5,LeO (hibernacleref15_Put.j0 k y0 y1 y2 y3 y4 y5) (hibernacleref15_Put.j0 (k + 1) y0 y1 y2 y3 y4 y5))
 | 0=>fun _ _ _ _ _ _ r h=>by simp [hibernacleref15_Put.j0] at h
 | k + 1=>by
  have ih0:=hibernacleref15_Put.mono_l k
  ·intro y0 y1 y2 y3 y4 y5
   unfold hibernacleref15_Put.j0
   repeat' first
   | (with_reducible exact ih0 _ _ _ _ _ _)
   | (with_reducible exact LeO.refl _)
   | (with_reducible exact LeO.none _)
   | (with_reducible refine LeO.ite ?_ ?_)
   | (with_reducible refine LeO.bind ?_ (fun _=>?_))
   | exact ih0 _ _ _ _ _ _
   | exact LeO.none _
   | refine LeO.ite ?_ ?_
   | refine LeO.bind ?_ (fun _=>?_)
theorem hibernacleref15_Put.mono:∀ a0 a1 a2 a3 a4 k,LeO (hibernacleref15_Put.f k a0 a1 a2 a3 a4) (hibernacleref15_Put.f (k + 1) a0 a1 a2 a3 a4):=by
 intro a0 a1 a2 a3 a4 k
 have ih0:=hibernacleref15_Put.mono_l k
 unfold hibernacleref15_Put.f
 repeat' first
   | (with_reducible exact ih0 _ _ _ _ _ _)
   | (with_reducible exact LeO.refl _)
   | (with_reducible exact LeO.none _)
   | (with_reducible refine LeO.ite ?_ ?_)
   | (with_reducible refine LeO.bind ?_ (fun _=>?_))
   | exact ih0 _ _ _ _ _ _
   | exact LeO.none _
   | refine LeO.ite ?_ ?_
   | refine LeO.bind ?_ (fun _=>?_)
set_option maxHeartbeats 8000000 in
set_option maxRecDepth 100000 in
theorem hibernacleref15_Put.calls (k:Nat) (P0_0_:Nat→Prop) (A0_0:Option Addr) (c0_0:Nat) (l0_0:List ByteArray) (P0_1_:Nat→Prop) (A0_1:Option Addr) (c0_1:Nat) (l0_1:List (S27)) (a0_2:Int) (a1:Int) (a2:ByteArray) (r1:List ByteArray) (r2:List (S27)) (r3:Int) (r4:Int) (w:World) (hs0_0:Kd.V Kd.string 9 w w.heap.size (fun k_=>P0_0_ k_) (.slice A0_0 l0_0.length c0_0) l0_0) (hs0_1:Kd.V k27 27 w w.heap.size (fun k_=>P0_1_ k_) (.slice A0_1 l0_1.length c0_1) l0_1) (h:hibernacleref15_Put.f k l0_0 l0_1 a0_2 a1 a2=some (r1,r2,r3,r4)) :
  Calls Try.prog 39 #[.agg #[.slice A0_0 l0_0.length c0_0,.slice A0_1 l0_1.length c0_1,.int .i64 a0_2],.int .i64 a1,.string a2] w fun e w'=>∃ v0_ v1_:Value,e=.returned (.tuple #[.agg #[v0_,v1_,.int .i64 r3],.int .i64 r4])∧Kd.V Kd.string 9 w' w.heap.size (fun k_=>((P0_0_ k_∨P0_1_ k_)∨w.heap.size≤k_)) v0_ r1∧Kd.V k27 27 w' w.heap.size (fun k_=>((P0_0_ k_∨P0_1_ k_)∨w.heap.size≤k_)) v1_ r2∧Below w.heap.size w w':=by
 have hu29:=Try.underlying29
 have hu27:=Try.underlying27
 have HO0_0:=Aside0.mk (show Kd.V Kd.string 9 w w.heap.size (fun k_=>((P0_0_ k_∨P0_1_ k_)∨w.heap.size≤k_)) (.slice A0_0 l0_0.length c0_0) l0_0 from Kd.V_mono hs0_0 (fun k_ hk=>.inl (.inl hk)))
 have HO0_1:=Aside0.mk (show Kd.V k27 27 w w.heap.size (fun k_=>((P0_0_ k_∨P0_1_ k_)∨w.heap.size≤k_)) (.slice A0_1 l0_1.length c0_1) l0_1 from Kd.V_mono hs0_1 (fun k_ hk=>.inl (.inr hk)))
 have HB:=Aside0.mk (Below.refl w.heap.size w)
 have H:(if a1<0 then (hibernacleref15_Put.j0 k a1 a2 true l0_0 l0_1 a0_2) else (hibernacleref15_Put.j0 k a1 a2 (decide (a1 ≥ (l0_0.length:Int))) l0_0 l0_1 a0_2))=some (r1,r2,r3,r4):=h
 clear h
 have HC4:=Aside0.mk H
 clear H
 go_enter Try.func39,Try.ntmps39
 go_upto_region 1 with (first |((with_reducible refine gate_dst (N:=3) rfl ?_);(try (refine gate_guard (by rfl) ?_;dsimp only));refine box_event ?hg (N:=3) ?hd (cs:=#[.slice A0_0 l0_0.length c0_0,.slice A0_1 l0_1.length c0_1,.int .i64 a0_2]) (t:=29) ?hr ?_;(case hd=>rfl);(case hg=>rfl);(case hr=>first |(go_simp;done) |(go_simp;rfl));intro gb306 hg w5 hbox hb;have n0_:=Aside0.mk (Kd.V_below (Kd.V_elderB (by (with_reducible repeat (first |apply Kd.V_alloc |apply Kd.V_drewN |apply Kd.V_drew));exact HO0_0.out) gb306 (Nat.le_of_eq hg.symm)) hb);have n1_:=Aside0.mk (Kd.V_below (Kd.V_elderB (by (with_reducible repeat (first |apply Kd.V_alloc |apply Kd.V_drewN |apply Kd.V_drew));exact HO0_1.out) gb306 (Nat.le_of_eq hg.symm)) hb);have n2_:=Aside0.mk (below_step (by repeat (first |(with_reducible first |exact HB.out |apply below_alloc |apply pw_below_drewN |apply below_drew1) |exact HB.out)) hb);have n3_:=Aside0.mk (hbox);have n4_:=Aside0.mk ((by rw [hg];exact (below_size (by repeat (first |(with_reducible first |exact HB.out |apply below_alloc |apply pw_below_drewN |apply below_drew1) |exact HB.out))):w.heap.size≤gb306));have n5_:=Aside0.mk ((by rw [hg];exact (below_size (by repeat (first |(with_reducible first |exact HB.out |apply below_alloc |apply pw_below_drewN |apply below_drew1) |exact HB.out))):w.heap.size≤gb306));clear HO0_0;clear HO0_1;clear HB;have HO0_0:=n0_;have HO0_1:=n1_;have HB:=n2_;have BK306:=n3_;have GW306:=n4_;have GE306:=n5_;clear n0_ n1_ n2_ n3_ n4_ n5_;clear hb hbox hg) |((with_reducible refine gate_dst (N:=6) rfl ?_);(try (refine gate_guard (by rfl) ?_;dsimp only));refine box_event ?hg (N:=6) ?hd (cs:=#[.slice none 0 0,.slice none 0 0,.int .i64 0]) (t:=29) ?hr ?_;(case hd=>rfl);(case hg=>rfl);(case hr=>first |(go_simp;done) |(go_simp;rfl));intro gb307 hg w6 hbox hb;have n0_:=Aside0.mk (Kd.V_below (Kd.V_elderB (by (with_reducible repeat (first |apply Kd.V_alloc |apply Kd.V_drewN |apply Kd.V_drew));exact HO0_0.out) gb307 (Nat.le_of_eq hg.symm)) hb);have n1_:=Aside0.mk (Kd.V_below (Kd.V_elderB (by (with_reducible repeat (first |apply Kd.V_alloc |apply Kd.V_drewN |apply Kd.V_drew));exact HO0_1.out) gb307 (Nat.le_of_eq hg.symm)) hb);have n2_:=Aside0.mk (blk_below (g:=gb306) (o:=.cells #[.slice A0_0 l0_0.length c0_0,.slice A0_1 l0_1.length c0_1,.int .i64 a0_2] 29 (0,0)) (by (with_reducible repeat (first |refine blk_drewN ?_ _ |refine blk_drew ?_ |refine blk_alloc ?_ _));exact BK306.out) hb);have n3_:=Aside0.mk (below_step (by repeat (first |(with_reducible first |exact HB.out |apply below_alloc |apply pw_below_drewN |apply below_drew1 |refine below_set ?_ GE306.out) |exact HB.out)) hb);have n4_:=Aside0.mk (hbox);have n5_:=Aside0.mk ((by rw [hg];exact (below_size (by repeat (first |(with_reducible first |exact HB.out |apply below_alloc |apply pw_below_drewN |apply below_drew1 |refine below_set ?_ GE306.out) |exact HB.out))):w.heap.size≤gb307));have n6_:=Aside0.mk ((by rw [hg];exact (below_size (by repeat (first |(with_reducible first |exact HB.out |apply below_alloc |apply pw_below_drewN |apply below_drew1 |refine below_set ?_ GE306.out) |exact HB.out))):w.heap.size≤gb307));have n7_:=Aside0.mk ((by rw [hg];exact Nat.ne_of_lt (blk_lt (g:=gb306) (o:=.cells #[.slice A0_0 l0_0.length c0_0,.slice A0_1 l0_1.length c0_1,.int .i64 a0_2] 29 (0,0)) (by (with_reducible repeat (first |refine blk_drewN ?_ _ |refine blk_drew ?_ |refine blk_alloc ?_ _));exact BK306.out)):gb306≠gb307));have n8_:=Aside0.mk ((by rw [hg];exact Nat.ne_of_gt (blk_lt (g:=gb306) (o:=.cells #[.slice A0_0 l0_0.length c0_0,.slice A0_1 l0_1.length c0_1,.int .i64 a0_2] 29 (0,0)) (by (with_reducible repeat (first |refine blk_drewN ?_ _ |refine blk_drew ?_ |refine blk_alloc ?_ _));exact BK306.out)):gb307≠gb306));clear HO0_0;clear HO0_1;clear BK306;clear HB;have HO0_0:=n0_;have HO0_1:=n1_;have BK306:=n2_;have HB:=n3_;have BK307:=n4_;have GW307:=n5_;have GE307:=n6_;have NB306_307:=n7_;have NB307_306:=n8_;clear n0_ n1_ n2_ n3_ n4_ n5_ n6_ n7_ n8_;clear hb hbox hg))
 (try simp only [Act.put,List.setIfInBounds_toArray,List.set_cons_zero,List.set_cons_succ])
 go_cut [16] (fun v16 wc=>∃ (kq:Nat) (x16_3:Bool),v16=.bool x16_3∧Aside0 (hibernacleref15_Put.j0 kq a1 a2 x16_3 l0_0 l0_1 a0_2=some (r1,r2,r3,r4))∧Aside0 (kq≤k)∧Aside0 (Kd.V Kd.string 9 wc w.heap.size (fun k_=>((P0_0_ k_∨P0_1_ k_)∨w.heap.size≤k_)∧k_≠gb306∧k_≠gb307) (.slice A0_0 l0_0.length c0_0) l0_0)∧Aside0 (Kd.V k27 27 wc w.heap.size (fun k_=>((P0_0_ k_∨P0_1_ k_)∨w.heap.size≤k_)∧k_≠gb306∧k_≠gb307) (.slice A0_1 l0_1.length c0_1) l0_1)∧Aside0 (wc.heap[gb306]?=some (.cells #[(.slice A0_0 l0_0.length c0_0),(.slice A0_1 l0_1.length c0_1),.int .i64 a0_2] 29 (0,0)))∧Aside0 (wc.heap[gb307]?=some (.cells #[(.slice none 0 0),(.slice none 0 0),.int .i64 0] 29 (0,0)))∧Aside0 (Below w.heap.size w wc))
 case first=>
  have H:=HC4.out
  clear HC4
  by_cases c7:a1<0
  ·rw [if_pos c7] at H
   have c7b0:decide (a1<0)=true:=decide_eq_true c7
   clear c7
   (first |rw [c7b0] |(simp only [i64_w,i32_w];rw [c7b0]) |skip)
   have H':=Aside0.mk H
   clear H
   go_wp2
   go_meet
   case rel=>exact ⟨_,(true),(by first |rfl |(simp;done) |(simp [*];done)),H',⟨by first |omega |exact Nat.le_refl _⟩,⟨by (with_reducible repeat (first |apply Kd.V_alloc |apply Kd.V_drewN |apply Kd.V_drew));exact Kd.V_mono HO0_0.out (fun _ hk=>⟨hk.1.1,⟨hk.1.2,hk.2⟩⟩)⟩,⟨by (with_reducible repeat (first |apply Kd.V_alloc |apply Kd.V_drewN |apply Kd.V_drew));exact Kd.V_mono HO0_1.out (fun _ hk=>⟨hk.1.1,⟨hk.1.2,hk.2⟩⟩)⟩,⟨by (with_reducible repeat (first |refine blk_drewN ?_ _ |refine blk_drew ?_ |refine blk_alloc ?_ _));exact BK306.out⟩,⟨by (with_reducible repeat (first |refine blk_drewN ?_ _ |refine blk_drew ?_ |refine blk_alloc ?_ _));exact BK307.out⟩,⟨by repeat (first |(with_reducible first |exact HB.out |apply below_alloc |apply pw_below_drewN |apply below_drew1 |refine below_set ?_ GE306.out |refine below_set ?_ GE307.out) |exact HB.out)⟩⟩
  ·rw [if_neg c7] at H
   have c7b0:decide (a1<0)=false:=decide_eq_false c7
   clear c7
   (first |rw [c7b0] |(simp only [i64_w,i32_w];rw [c7b0]) |skip)
   have H':=Aside0.mk H
   clear H
   have hnb8:=NB306_307.out
   have hnc8:=NB307_306.out
   have hcz9_0:w6.cell? ⟨gb306,0,none⟩=some (.slice A0_0 l0_0.length c0_0):=(blk_cell BK306.out 0).trans rfl
   have hcz9_1:w6.cell? ⟨gb306,1,none⟩=some (.slice A0_1 l0_1.length c0_1):=(blk_cell BK306.out 1).trans rfl
   have hcz9_2:w6.cell? ⟨gb306,2,none⟩=some (.int .i64 a0_2):=(blk_cell BK306.out 2).trans rfl
   have hfz9_0:=blk_frozen BK306.out 0
   have hfz9_1:=blk_frozen BK306.out 1
   have hfz9_2:=blk_frozen BK306.out 2
   go_wp2
   go_meet
   case rel=>exact ⟨_,(decide (a1 ≥ (l0_0.length:Int))),(by first |rfl |(simp;done) |(simp [*];done)),H',⟨by first |omega |exact Nat.le_refl _⟩,⟨by (with_reducible repeat (first |apply Kd.V_alloc |apply Kd.V_drewN |apply Kd.V_drew));exact Kd.V_mono HO0_0.out (fun _ hk=>⟨hk.1.1,⟨hk.1.2,hk.2⟩⟩)⟩,⟨by (with_reducible repeat (first |apply Kd.V_alloc |apply Kd.V_drewN |apply Kd.V_drew));exact Kd.V_mono HO0_1.out (fun _ hk=>⟨hk.1.1,⟨hk.1.2,hk.2⟩⟩)⟩,⟨by (with_reducible repeat (first |refine blk_drewN ?_ _ |refine blk_drew ?_ |refine blk_alloc ?_ _));exact BK306.out⟩,⟨by (with_reducible repeat (first |refine blk_drewN ?_ _ |refine blk_drew ?_ |refine blk_alloc ?_ _));exact BK307.out⟩,⟨by repeat (first |(with_reducible first |exact HB.out |apply below_alloc |apply pw_below_drewN |apply below_drew1 |refine below_set ?_ GE306.out |refine below_set ?_ GE307.out) |exact HB.out)⟩⟩
 case rest=>
  clear HC4
  try clear p2
  try clear c3
  try clear c7
  try clear c7b0
  try clear c8
  try clear hcz9_0
  try clear hcz9_1
  try clear hcz9_2
  try clear hfz9_0
  try clear hfz9_1
  try clear hfz9_2
  obtain ⟨kq,x16_3,rfl,HA,HJ3,HO_307000,HO_307001,BK306,BK307,HB⟩:=hcut
  cases kq with
  | zero=>exact absurd HA.out (by simp [hibernacleref15_Put.j0])
  | succ kj3=>
   have H:=HA.out
   clear HA
   simp only [hibernacleref15_Put.j0] at H
   by_cases c10:x16_3=true
   ·subst c10
    have H1:(some (([]:List ByteArray),([]:List (S27)),0,2))=some (r1,r2,r3,r4):=by rw [if_pos rfl] at H;exact H
    clear H
    have H:=H1
    clear H1
    simp only [Option.some.injEq,Prod.mk.injEq] at H
    obtain ⟨rfl,rfl,rfl,rfl⟩:=H
    have hnb11:=NB307_306.out
    have hnc11:=NB306_307.out
    have hcz12_0:wc.cell? ⟨gb307,0,none⟩=some (.slice none 0 0):=(blk_cell BK307.out 0).trans rfl
    have hcz12_1:wc.cell? ⟨gb307,1,none⟩=some (.slice none 0 0):=(blk_cell BK307.out 1).trans rfl
    have hcz12_2:wc.cell? ⟨gb307,2,none⟩=some (.int .i64 0):=(blk_cell BK307.out 2).trans rfl
    have hfz12_0:=blk_frozen BK307.out 0
    have hfz12_1:=blk_frozen BK307.out 1
    have hfz12_2:=blk_frozen BK307.out 2
    go_wp2
    refine bodyPost_ret (results_ct rfl _ _ gb307 29 #[.slice none 0 0,.slice none 0 0,.int .i64 0] (0,0) _ rfl (by (with_reducible repeat (first |refine blk_drewN ?_ _ |refine blk_drew ?_ |refine blk_alloc ?_ _));refine blk_put (cs:=#[.slice none 0 0,.slice none 0 0,.int .i64 0]) ?_ 2 _ rfl;(with_reducible repeat (first |refine blk_drewN ?_ _ |refine blk_drew ?_ |refine blk_alloc ?_ _));refine blk_put (cs:=#[.slice none 0 0,.slice none 0 0,.int .i64 0]) ?_ 1 _ rfl;(with_reducible repeat (first |refine blk_drewN ?_ _ |refine blk_drew ?_ |refine blk_alloc ?_ _));refine blk_put (cs:=#[.slice none 0 0,.slice none 0 0,.int .i64 0]) ?_ 0 _ rfl;(with_reducible repeat (first |refine blk_drewN ?_ _ |refine blk_drew ?_ |refine blk_alloc ?_ _));exact BK307.out) Try.underlying29 rfl (by kernel_rfl)) rfl ?_
    exact ⟨_,_,by first |rfl |(simp [errW_none,errW_some] <;> rfl) |(simp [*,errW_none,errW_some] <;> rfl),Kd.V_nil _ _ _ _ _,Kd.V_nil _ _ _ _ _,by repeat (first |(with_reducible first |exact HB.out |apply below_alloc |apply pw_below_drewN |apply below_drew1 |refine below_set ?_ GE306.out |refine below_set ?_ GE307.out) |exact HB.out)⟩
   ·replace c10:=Bool.eq_false_iff.mpr c10
    subst c10
    have H1:(if (a2.size:Int)=128 then (if a0_2=0 then (some (l0_0,l0_1,a0_2,17)) else ((some (([]:List (S27)):List (S27))).bind fun y308=>(if y308.length + l0_1.length<5864062014805 then ((some (y308 ++ l0_1:List (S27))).bind fun y311=>(if y311.length<5864062014805 then ((hibernacleref15_less.f l0_0 (y311 ++ [(⟨a1,a2⟩:S27)]) a0_2).bind fun bt317=>(some (bt317.1,bt317.2.1,bt317.2.2,0))) else (none))) else (none)))) else (some (([]:List ByteArray),([]:List (S27)),0,3)))=some (r1,r2,r3,r4):=by rw [if_neg (show ¬ (false=true) by decide)] at H;exact H
    clear H
    have H:=H1
    clear H1
    by_cases c13:(a2.size:Int)=128
    ·rw [if_pos c13] at H
     have c13b0:((a2.size:Int) == 128)=true:=beq_iff_eq.mpr c13
     have c13b1:((a2.size:Int) != 128)=false:=bne_eq_false_iff_eq.mpr c13
     clear c13
     by_cases c14:a0_2=0
     ·rw [if_pos c14] at H
      have c14b0:(a0_2 == 0)=true:=beq_iff_eq.mpr c14
      have c14b1:(a0_2 != 0)=false:=bne_eq_false_iff_eq.mpr c14
      clear c14
      simp only [Option.some.injEq,Prod.mk.injEq] at H
      obtain ⟨rfl,rfl,rfl,rfl⟩:=H
      have hnb15:=NB306_307.out
      have hnc15:=NB307_306.out
      have hcz16_0:wc.cell? ⟨gb306,0,none⟩=some (.slice A0_0 l0_0.length c0_0):=(blk_cell BK306.out 0).trans rfl
      have hcz16_1:wc.cell? ⟨gb306,1,none⟩=some (.slice A0_1 l0_1.length c0_1):=(blk_cell BK306.out 1).trans rfl
      have hcz16_2:wc.cell? ⟨gb306,2,none⟩=some (.int .i64 a0_2):=(blk_cell BK306.out 2).trans rfl
      have hfz16_0:=blk_frozen BK306.out 0
      have hfz16_1:=blk_frozen BK306.out 1
      have hfz16_2:=blk_frozen BK306.out 2
      have hcz17_0:wc.cell? ⟨gb307,0,none⟩=some (.slice none 0 0):=(blk_cell BK307.out 0).trans rfl
      have hcz17_1:wc.cell? ⟨gb307,1,none⟩=some (.slice none 0 0):=(blk_cell BK307.out 1).trans rfl
      have hcz17_2:wc.cell? ⟨gb307,2,none⟩=some (.int .i64 0):=(blk_cell BK307.out 2).trans rfl
      have hfz17_0:=blk_frozen BK307.out 0
      have hfz17_1:=blk_frozen BK307.out 1
      have hfz17_2:=blk_frozen BK307.out 2
      go_wp2
      refine bodyPost_ret (results_ct rfl _ _ gb307 29 #[.slice A0_0 l0_0.length c0_0,.slice A0_1 l0_1.length c0_1,.int .i64 a0_2] (0,0) _ rfl (by (with_reducible repeat (first |refine blk_drewN ?_ _ |refine blk_drew ?_ |refine blk_alloc ?_ _));refine blk_put (cs:=#[.slice A0_0 l0_0.length c0_0,.slice A0_1 l0_1.length c0_1,.int .i64 0]) ?_ 2 _ rfl;(with_reducible repeat (first |refine blk_drewN ?_ _ |refine blk_drew ?_ |refine blk_alloc ?_ _));refine blk_put (cs:=#[.slice A0_0 l0_0.length c0_0,.slice none 0 0,.int .i64 0]) ?_ 1 _ rfl;(with_reducible repeat (first |refine blk_drewN ?_ _ |refine blk_drew ?_ |refine blk_alloc ?_ _));refine blk_put (cs:=#[.slice none 0 0,.slice none 0 0,.int .i64 0]) ?_ 0 _ rfl;(with_reducible repeat (first |refine blk_drewN ?_ _ |refine blk_drew ?_ |refine blk_alloc ?_ _));exact BK307.out) Try.underlying29 rfl (by kernel_rfl)) rfl ?_
      exact ⟨_,_,by first |rfl |(simp [errW_none,errW_some] <;> rfl) |(simp [*,errW_none,errW_some] <;> rfl),by (with_reducible repeat (first |apply Kd.V_alloc |apply Kd.V_drewN |apply Kd.V_drew));exact Kd.V_mono (Kd.V_far (p:=⟨gb307,2,none⟩) (Kd.V_far (p:=⟨gb307,1,none⟩) (Kd.V_far (p:=⟨gb307,0,none⟩) (Kd.V_mono HO_307000.out (fun k_ hk=>(⟨hk,hk.2.2⟩:_∧k_≠gb307))) (fun _ hk=>hk.2) (.slice A0_0 l0_0.length c0_0)) (fun _ hk=>hk.2) (.slice A0_1 l0_1.length c0_1)) (fun _ hk=>hk.2) (.int .i64 a0_2)) (fun _ hk=>hk.1.1),by (with_reducible repeat (first |apply Kd.V_alloc |apply Kd.V_drewN |apply Kd.V_drew));exact Kd.V_mono (Kd.V_far (p:=⟨gb307,2,none⟩) (Kd.V_far (p:=⟨gb307,1,none⟩) (Kd.V_far (p:=⟨gb307,0,none⟩) (Kd.V_mono HO_307001.out (fun k_ hk=>(⟨hk,hk.2.2⟩:_∧k_≠gb307))) (fun _ hk=>hk.2) (.slice A0_0 l0_0.length c0_0)) (fun _ hk=>hk.2) (.slice A0_1 l0_1.length c0_1)) (fun _ hk=>hk.2) (.int .i64 a0_2)) (fun _ hk=>hk.1.1),by repeat (first |(with_reducible first |exact HB.out |apply below_alloc |apply pw_below_drewN |apply below_drew1 |refine below_set ?_ GE306.out |refine below_set ?_ GE307.out) |exact HB.out)⟩
     ·rw [if_neg c14] at H
      have c14b0:(a0_2 == 0)=false:=beq_eq_false_iff_ne.mpr c14
      have c14b1:(a0_2 != 0)=true:=bne_iff_ne.mpr c14
      obtain ⟨y308,hy308⟩:∃ y_:List (S27),y_=(([]:List (S27))):=⟨_,rfl⟩
      replace H:(if y308.length + l0_1.length<5864062014805 then ((some (y308 ++ l0_1:List (S27))).bind fun y311=>(if y311.length<5864062014805 then ((hibernacleref15_less.f l0_0 (y311 ++ [(⟨a1,a2⟩:S27)]) a0_2).bind fun bt317=>(some (bt317.1,bt317.2.1,bt317.2.2,0))) else (none))) else (none))=some (r1,r2,r3,r4):=by first |(rw [hy308];with_reducible exact H) |(have H2_:=(Option.bind_some _ _).symm.trans H;rw [hy308];with_reducible exact H2_) |(have H2_:=(Option.bind_some _ _).symm.trans H;with_reducible exact H2_) |with_reducible exact H |(rw [hy308];exact H) |exact H
      have Ny308:=Aside0.mk hy308
      clear hy308
      by_cases c18:y308.length + l0_1.length<5864062014805
      ·rw [if_pos c18] at H
       have LMc18:=Aside0.mk c18
       clear c18
       obtain ⟨y311,hy311⟩:∃ y_:List (S27),y_=(y308 ++ l0_1):=⟨_,rfl⟩
       replace H:(if y311.length<5864062014805 then ((hibernacleref15_less.f l0_0 (y311 ++ [(⟨a1,a2⟩:S27)]) a0_2).bind fun bt317=>(some (bt317.1,bt317.2.1,bt317.2.2,0))) else (none))=some (r1,r2,r3,r4):=by first |(rw [hy311];with_reducible exact H) |(have H2_:=(Option.bind_some _ _).symm.trans H;rw [hy311];with_reducible exact H2_) |(have H2_:=(Option.bind_some _ _).symm.trans H;with_reducible exact H2_) |with_reducible exact H |(rw [hy311];exact H) |exact H
       have Ny311:=Aside0.mk hy311
       clear hy311
       by_cases c19:y311.length<5864062014805
       ·rw [if_pos c19] at H
        have LMc19:=Aside0.mk c19
        clear c19
        obtain ⟨y314,hy314⟩:∃ y_:List (S27),y_=(y311 ++ [(⟨a1,a2⟩:S27)]):=⟨_,rfl⟩
        replace H:((hibernacleref15_less.f l0_0 y314 a0_2).bind fun bt317=>(some (bt317.1,bt317.2.1,bt317.2.2,0)))=some (r1,r2,r3,r4):=by first |(rw [hy314];with_reducible exact H) |(have H2_:=(Option.bind_some _ _).symm.trans H;rw [hy314];with_reducible exact H2_) |(have H2_:=(Option.bind_some _ _).symm.trans H;with_reducible exact H2_) |with_reducible exact H |(rw [hy314];exact H) |exact H
        have Ny314:=Aside0.mk hy314
        clear hy314
        replace H:=Option.bind_eq_some_iff.mp H
        obtain ⟨⟨t317,t320,t323⟩,A200,H⟩:=H
        replace H:(some (t317,t320,t323,0))=some (r1,r2,r3,r4):=H
        have A20:=Aside0.mk A200
        clear A200
        simp only [Option.some.injEq,Prod.mk.injEq] at H
        obtain ⟨rfl,rfl,rfl,rfl⟩:=H
        have hnb21:=NB306_307.out
        have hnc21:=NB307_306.out
        have hcz22_0:wc.cell? ⟨gb306,0,none⟩=some (.slice A0_0 l0_0.length c0_0):=(blk_cell BK306.out 0).trans rfl
        have hcz22_1:wc.cell? ⟨gb306,1,none⟩=some (.slice A0_1 l0_1.length c0_1):=(blk_cell BK306.out 1).trans rfl
        have hcz22_2:wc.cell? ⟨gb306,2,none⟩=some (.int .i64 a0_2):=(blk_cell BK306.out 2).trans rfl
        have hfz22_0:=blk_frozen BK306.out 0
        have hfz22_1:=blk_frozen BK306.out 1
        have hfz22_2:=blk_frozen BK306.out 2
        go_wp2_with (first |((with_reducible refine gate_dst (N:=26) rfl ?_);(try (refine gate_guard (by rfl) ?_;dsimp only));refine Kd.R_lit k27 _ 27 ?hg (N:=26) ?hd (xs:=([]:List (S27))) (inner:=[]) (ok:=fun _=>True) (okp:=fun _=>True) ?hr ?hp (fun _ hk=>hk) trivial (Below.refl _ _) (Nat.le_refl _) (by simp) ?_;(case hd=>rfl);(case hg=>rfl);(case hr=>first |(go_simp;done) |(go_simp;rfl));(case hp=>exact (Reps.none _ _));intro v309 w23 ho24 hb hg_ hnew_;clear hg_ hnew_;(first |rw [← Ny308.out] at ho24 |(simp only [Int.reduceToNat] at ho24;rw [← Ny308.out] at ho24));have n0_:=Aside0.mk (Kd.V_elder' (by (with_reducible repeat (first |apply Kd.V_alloc |apply Kd.V_drewN |apply Kd.V_drew));exact HO_307000.out) (Kd.R_base ho24) hb);have n1_:=Aside0.mk (Kd.V_elder' (by (with_reducible repeat (first |apply Kd.V_alloc |apply Kd.V_drewN |apply Kd.V_drew));exact HO_307001.out) (Kd.R_base ho24) hb);have n2_:=Aside0.mk (Kd.R_lower (Kd.R_newM (M:=fun k_=>(w.heap.size≤k_)) ho24 (below_size (by repeat (first |(with_reducible first |exact HB.out |apply below_alloc |apply pw_below_drewN |apply below_drew1 |refine below_set ?_ GE306.out |refine below_set ?_ GE307.out) |exact HB.out))) (fun k_ h_=>h_)) (below_size (by repeat (first |(with_reducible first |exact HB.out |apply below_alloc |apply pw_below_drewN |apply below_drew1 |refine below_set ?_ GE306.out |refine below_set ?_ GE307.out) |exact HB.out))));have n3_:=Aside0.mk (blk_below (g:=gb306) (o:=.cells #[.slice A0_0 l0_0.length c0_0,.slice A0_1 l0_1.length c0_1,.int .i64 a0_2] 29 (0,0)) (by (with_reducible repeat (first |refine blk_drewN ?_ _ |refine blk_drew ?_ |refine blk_alloc ?_ _));exact BK306.out) hb);have n4_:=Aside0.mk (blk_below (g:=gb307) (o:=.cells #[.slice none 0 0,.slice none 0 0,.int .i64 0] 29 (0,0)) (by (with_reducible repeat (first |refine blk_drewN ?_ _ |refine blk_drew ?_ |refine blk_alloc ?_ _));exact BK307.out) hb);have n5_:=Aside0.mk (below_step (by repeat (first |(with_reducible first |exact HB.out |apply below_alloc |apply pw_below_drewN |apply below_drew1 |refine below_set ?_ GE306.out |refine below_set ?_ GE307.out) |exact HB.out)) hb);clear HO_307000;clear HO_307001;clear BK306;clear BK307;clear HB;have HO_307000:=n0_;have HO_307001:=n1_;have HO310:=n2_;have BK306:=n3_;have BK307:=n4_;have HB:=n5_;clear n0_ n1_ n2_ n3_ n4_ n5_;clear hb ho24;have hcz25_0:w23.cell? ⟨gb306,0,none⟩=some (.slice A0_0 l0_0.length c0_0):=(blk_cell BK306.out 0).trans rfl;have hcz25_1:w23.cell? ⟨gb306,1,none⟩=some (.slice A0_1 l0_1.length c0_1):=(blk_cell BK306.out 1).trans rfl;have hcz25_2:w23.cell? ⟨gb306,2,none⟩=some (.int .i64 a0_2):=(blk_cell BK306.out 2).trans rfl;have hfz25_0:=blk_frozen BK306.out 0;have hfz25_1:=blk_frozen BK306.out 1;have hfz25_2:=blk_frozen BK306.out 2) |((with_reducible refine gate_builtin (b:=.append) (xs:=#[.tmp 26,.tmp 28]) rfl ?_);(try (refine gate_guard (by rfl) ?_;dsimp only));at_builtin;refine Kd.R_append_rows k27 (w0:=w) w.heap.size rfl (.tmp 26) (.tmp 28) 23 27 (.agg #[(.int .i64 0),(.string ⟨#[]⟩)]) 24 rfl Try.underlying23 info27 rfl (by decide) (by omega) v309 y308 l0_1 _ _ _ (fun k_=>(w.heap.size≤k_)) (fun _=>False) rfl rfl ?aO ?aR (fun _ _ h=>h) (fun _ h=>h.elim) ?aF ?aB ?aS ?aL ?_;(case aR=>repeat (first |exact (Kd.V_reads' HO_307001.out).2.2 |(with_reducible refine Kd.C_alloc ?_ _) |(with_reducible refine Kd.C_drewN ?_ _) |(with_reducible refine Kd.C_drew ?_)));(case aB=>exact (by repeat (first |(with_reducible first |exact HB.out |apply below_alloc |apply pw_below_drewN |apply below_drew1 |refine below_set ?_ GE306.out |refine below_set ?_ GE307.out) |exact HB.out)));(case aF=>exact (fun k_ hk=>(Nat.le_trans (below_size (by repeat (first |(with_reducible first |exact HB.out |apply below_alloc |apply pw_below_drewN |apply below_drew1 |refine below_set ?_ GE306.out |refine below_set ?_ GE307.out) |exact HB.out))) hk)));(case aO=>exact (by (with_reducible repeat (first |apply Kd.R_alloc |apply Kd.R_drewN |apply Kd.R_drew));exact Kd.R_mono HO310.out (fun _ hk=>hk.1)));(case aS=>exact (below_size (by repeat (first |(with_reducible first |exact HB.out |apply below_alloc |apply pw_below_drewN |apply below_drew1 |refine below_set ?_ GE306.out |refine below_set ?_ GE307.out) |exact HB.out))));(case aL=>have:=LMc18.out;omega);intro v312 w26 ho hb hg hat;rw [← Ny311.out] at ho;have n0_:=Aside0.mk (Kd.V_afterv (ok:=(fun k_=>((P0_0_ k_∨P0_1_ k_)∨w.heap.size≤k_)∧k_≠gb306∧k_≠gb307)) (by (with_reducible repeat (first |apply Kd.V_alloc |apply Kd.V_drewN |apply Kd.V_drew));exact HO_307000.out) hg hat);have n1_:=Aside0.mk (Kd.V_afterv (ok:=(fun k_=>((P0_0_ k_∨P0_1_ k_)∨w.heap.size≤k_)∧k_≠gb306∧k_≠gb307)) (by (with_reducible repeat (first |apply Kd.V_alloc |apply Kd.V_drewN |apply Kd.V_drew));exact HO_307001.out) hg hat);have n2_:=Aside0.mk (blk_grown (g:=gb306) (o:=.cells #[.slice A0_0 l0_0.length c0_0,.slice A0_1 l0_1.length c0_1,.int .i64 a0_2] 29 (0,0)) (by (with_reducible repeat (first |refine blk_drewN ?_ _ |refine blk_drew ?_ |refine blk_alloc ?_ _));exact BK306.out) hg (Kd.R_ne HO310.out BK306.out (by decide)));have n3_:=Aside0.mk (blk_grown (g:=gb307) (o:=.cells #[.slice none 0 0,.slice none 0 0,.int .i64 0] 29 (0,0)) (by (with_reducible repeat (first |refine blk_drewN ?_ _ |refine blk_drew ?_ |refine blk_alloc ?_ _));exact BK307.out) hg (Kd.R_ne HO310.out BK307.out (by decide)));have n4_:=Aside0.mk (hb);have n5_:=Aside0.mk (ho);clear HO_307000;clear HO_307001;clear BK306;clear BK307;clear HB;clear HO310;have HO_307000:=n0_;have HO_307001:=n1_;have BK306:=n2_;have BK307:=n3_;have HB:=n4_;have HO313:=n5_;clear n0_ n1_ n2_ n3_ n4_ n5_;clear ho hb hg hat) |((with_reducible refine gate_builtin (b:=.append) (xs:=#[.tmp 29,.tmp 33]) rfl ?_);(try (refine gate_guard (by rfl) ?_;dsimp only));at_builtin;refine Kd.R_append k27 (w0:=w) w.heap.size rfl (.tmp 29) (.tmp 33) 23 27 (.agg #[(.int .i64 0),(.string ⟨#[]⟩)]) 24 rfl Try.underlying23 info27 rfl (by decide) (by omega) v312 y311 (⟨a1,a2⟩:S27) [.int .i64 a1,.string a2] (fun k_=>(w.heap.size≤k_)) (fun _=>False) rfl rfl ?aP (fun _ hk=>hk.elim) ?aF ?aO ?aB ?aS ?aL ?_;(case aP=>exact k27_mkM _ _ _ (⟨a1,a2⟩:S27));(case aB=>exact (by repeat (first |(with_reducible first |exact HB.out |apply below_alloc |apply pw_below_drewN |apply below_drew1 |refine below_set ?_ GE306.out |refine below_set ?_ GE307.out) |exact HB.out)));(case aF=>exact (fun k_ hk=>(Nat.le_trans (below_size (by repeat (first |(with_reducible first |exact HB.out |apply below_alloc |apply pw_below_drewN |apply below_drew1 |refine below_set ?_ GE306.out |refine below_set ?_ GE307.out) |exact HB.out))) hk)));(case aO=>exact (by (with_reducible repeat (first |apply Kd.R_alloc |apply Kd.R_drewN |apply Kd.R_drew));exact HO313.out));(case aS=>exact (below_size (by repeat (first |(with_reducible first |exact HB.out |apply below_alloc |apply pw_below_drewN |apply below_drew1 |refine below_set ?_ GE306.out |refine below_set ?_ GE307.out) |exact HB.out))));(case aL=>have:=LMc19.out;omega);intro v315 w27 ho hb hg hat;rw [← Ny314.out] at ho;have n0_:=Aside0.mk (Kd.V_afterv (ok:=(fun k_=>((P0_0_ k_∨P0_1_ k_)∨w.heap.size≤k_)∧k_≠gb306∧k_≠gb307)) (by (with_reducible repeat (first |apply Kd.V_alloc |apply Kd.V_drewN |apply Kd.V_drew));exact HO_307000.out) hg hat);have n1_:=Aside0.mk (Kd.V_afterv (ok:=(fun k_=>((P0_0_ k_∨P0_1_ k_)∨w.heap.size≤k_)∧k_≠gb306∧k_≠gb307)) (by (with_reducible repeat (first |apply Kd.V_alloc |apply Kd.V_drewN |apply Kd.V_drew));exact HO_307001.out) hg hat);have n2_:=Aside0.mk (blk_grown (g:=gb306) (o:=.cells #[.slice A0_0 l0_0.length c0_0,.slice A0_1 l0_1.length c0_1,.int .i64 a0_2] 29 (0,0)) (by (with_reducible repeat (first |refine blk_drewN ?_ _ |refine blk_drew ?_ |refine blk_alloc ?_ _));exact BK306.out) hg (Kd.R_ne HO313.out BK306.out (by decide)));have n3_:=Aside0.mk (blk_grown (g:=gb307) (o:=.cells #[.slice none 0 0,.slice none 0 0,.int .i64 0] 29 (0,0)) (by (with_reducible repeat (first |refine blk_drewN ?_ _ |refine blk_drew ?_ |refine blk_alloc ?_ _));exact BK307.out) hg (Kd.R_ne HO313.out BK307.out (by decide)));have n4_:=Aside0.mk (hb);have n5_:=Aside0.mk (ho);clear HO_307000;clear HO_307001;clear BK306;clear BK307;clear HB;clear HO313;have HO_307000:=n0_;have HO_307001:=n1_;have BK306:=n2_;have BK307:=n3_;have HB:=n4_;have HO316:=n5_;clear n0_ n1_ n2_ n3_ n4_ n5_;clear ho hb hg hat;obtain ⟨Ao28,co28,eo28⟩:=Kd.R_slice HO316.out;subst eo28;have hcz29_0:w27.cell? ⟨gb306,0,none⟩=some (.slice A0_0 l0_0.length c0_0):=(blk_cell BK306.out 0).trans rfl;have hcz29_1:w27.cell? ⟨gb306,1,none⟩=some (.slice A0_1 l0_1.length c0_1):=(blk_cell BK306.out 1).trans rfl;have hcz29_2:w27.cell? ⟨gb306,2,none⟩=some (.int .i64 a0_2):=(blk_cell BK306.out 2).trans rfl;have hfz29_0:=blk_frozen BK306.out 0;have hfz29_1:=blk_frozen BK306.out 1;have hfz29_2:=blk_frozen BK306.out 2) |((with_reducible refine gate_store (t:=23) (p:=35) rfl ?_);refine store_event (t:=23) (p:=35) (v:=?vo_w30) (w1:=(w27.setCell ⟨gb306,1,none⟩ (.slice Ao28 y314.length co28))) ?hg ?ho ?hn ?hr ?_;(case ho=>rfl);(case hg=>rfl);(case hn=>rfl);(case hr=>first |(go_simp;done) |(go_simp;rfl));intro w30 hw;have n0_:Aside0 (Kd.V Kd.string 9 w30 w.heap.size (fun k_=>((P0_0_ k_∨P0_1_ k_)∨w.heap.size≤k_)∧some k_≠(.slice Ao28 y314.length co28:Value).ownBlock∧k_≠gb306∧k_≠gb307) (.slice A0_0 l0_0.length c0_0) l0_0):=⟨(by rw [hw];exact (by (with_reducible repeat (first |apply Kd.V_alloc |apply Kd.V_drewN |apply Kd.V_drew));exact Kd.V_mono (Kd.V_far (p:=⟨gb306,1,none⟩) (Kd.V_mono HO_307000.out (fun k_ hk=>(⟨hk,hk.1.2.1⟩:_∧k_≠gb306))) (fun _ hk=>hk.2) (.slice Ao28 y314.length co28)) (fun _ hk=>⟨hk.1.1.1,⟨hk.1.2,⟨hk.1.1.2.1,hk.1.1.2.2⟩⟩⟩)))⟩;have n1_:Aside0 (Kd.V k27 27 w30 w.heap.size (fun k_=>((P0_0_ k_∨P0_1_ k_)∨w.heap.size≤k_)∧some k_≠(.slice Ao28 y314.length co28:Value).ownBlock∧k_≠gb306∧k_≠gb307) (.slice A0_1 l0_1.length c0_1) l0_1):=⟨(by rw [hw];exact (by (with_reducible repeat (first |apply Kd.V_alloc |apply Kd.V_drewN |apply Kd.V_drew));exact Kd.V_mono (Kd.V_far (p:=⟨gb306,1,none⟩) (Kd.V_mono HO_307001.out (fun k_ hk=>(⟨hk,hk.1.2.1⟩:_∧k_≠gb306))) (fun _ hk=>hk.2) (.slice Ao28 y314.length co28)) (fun _ hk=>⟨hk.1.1.1,⟨hk.1.2,⟨hk.1.1.2.1,hk.1.1.2.2⟩⟩⟩)))⟩;have n2_:Aside0 (Kd.R k27 27 w30 w.heap.size (fun k_=>(w.heap.size≤k_)) (.slice Ao28 y314.length co28) y314):=⟨(by rw [hw];exact (by (with_reducible repeat (first |apply Kd.R_alloc |apply Kd.R_drewN |apply Kd.R_drew));exact Kd.R_mono (Kd.R_far (p:=⟨gb306,1,none⟩) (Kd.R_types HO316.out BK306.out (by decide)) (fun _ hk=>hk.2) (.slice Ao28 y314.length co28)) (fun _ hk=>hk.1)))⟩;have n3_:Aside0 (w30.heap[gb306]?=some (.cells #[.slice A0_0 l0_0.length c0_0,.slice Ao28 y314.length co28,.int .i64 a0_2] 29 (0,0))):=⟨(by rw [hw];exact (by (with_reducible repeat (first |refine blk_drewN ?_ _ |refine blk_drew ?_ |refine blk_alloc ?_ _));refine blk_put (cs:=#[.slice A0_0 l0_0.length c0_0,.slice A0_1 l0_1.length c0_1,.int .i64 a0_2]) ?_ 1 _ rfl;(with_reducible repeat (first |refine blk_drewN ?_ _ |refine blk_drew ?_ |refine blk_alloc ?_ _));exact BK306.out))⟩;have n4_:Aside0 (w30.heap[gb307]?=some (.cells #[.slice none 0 0,.slice none 0 0,.int .i64 0] 29 (0,0))):=⟨(by rw [hw];exact (by (with_reducible repeat (first |refine blk_drewN ?_ _ |refine blk_drew ?_ |refine blk_alloc ?_ _));refine blk_far ?_ NB307_306.out _;(with_reducible repeat (first |refine blk_drewN ?_ _ |refine blk_drew ?_ |refine blk_alloc ?_ _));exact BK307.out))⟩;have n5_:Aside0 (Below w.heap.size w w30):=⟨(by rw [hw];exact (by repeat (first |(with_reducible first |exact HB.out |apply below_alloc |apply pw_below_drewN |apply below_drew1 |refine below_set ?_ GE306.out |refine below_set ?_ GE307.out) |exact HB.out)))⟩;clear hw;clear HO_307000;clear HO_307001;clear HO316;clear BK306;clear BK307;clear HB;have HO_307000:=n0_;have HO_307001:=n1_;have HO316:=n2_;have BK306:=n3_;have BK307:=n4_;have HB:=n5_;clear n0_ n1_ n2_ n3_ n4_ n5_;have hcz31_0:w30.cell? ⟨gb306,0,none⟩=some (.slice A0_0 l0_0.length c0_0):=(blk_cell BK306.out 0).trans rfl;have hcz31_1:w30.cell? ⟨gb306,1,none⟩=some (.slice Ao28 y314.length co28):=(blk_cell BK306.out 1).trans rfl;have hcz31_2:w30.cell? ⟨gb306,2,none⟩=some (.int .i64 a0_2):=(blk_cell BK306.out 2).trans rfl;have hfz31_0:=blk_frozen BK306.out 0;have hfz31_1:=blk_frozen BK306.out 1;have hfz31_2:=blk_frozen BK306.out 2) |((with_reducible refine gate_callee (f:=83) rfl ?_);refine goesL_ (some 37) rfl rfl Try.func83 (by kernel_rfl) rfl #[.agg #[.slice A0_0 l0_0.length c0_0,.slice Ao28 y314.length co28,.int .i64 a0_2]] rfl (by (try simp only [List.map_toArray,List.map_cons,List.map_nil]);first |done |rfl |(simp only [List.length_drop,List.length_take];rfl)) ?_;(with_reducible refine (hibernacleref15_less.calls (fun k_=>(((P0_0_ k_∨P0_1_ k_)∨w.heap.size≤k_)∧(some k_≠(.slice Ao28 y314.length co28:Value).ownBlock∧(k_≠gb306∧k_≠gb307)))) _ _ l0_0 (fun k_=>some k_=(.slice Ao28 y314.length co28:Value).ownBlock) _ _ y314 a0_2 t317 t320 t323 _ ?side1 ?side2 A20.out).mono ?_);(case side1=>exact HO_307000.out);(case side2=>exact Kd.R_V (Kd.R_tight rfl (Kd.R_types (Kd.R_types (HO316.out) BK306.out (by decide)) BK307.out (by decide))));rintro e w32 ⟨v318,v321,rfl,ho0,ho1,hb⟩;refine ⟨_,rfl, ?_⟩;have n0_:=Aside0.mk (Kd.V_below (by (with_reducible repeat (first |apply Kd.V_alloc |apply Kd.V_drewN |apply Kd.V_drew));exact HO_307000.out) hb);have n1_:=Aside0.mk (Kd.V_below (by (with_reducible repeat (first |apply Kd.V_alloc |apply Kd.V_drewN |apply Kd.V_drew));exact HO_307001.out) hb);have n2_:=Aside0.mk (Kd.R_below (by (with_reducible repeat (first |apply Kd.R_alloc |apply Kd.R_drewN |apply Kd.R_drew));exact HO316.out) hb);have n3_:=Aside0.mk (Kd.V_lower (Kd.V_mono (ok':=fun k_=>((P0_0_ k_∨P0_1_ k_)∨w.heap.size≤k_)∧k_≠gb306∧k_≠gb307) ho0 (fun k_ hk_=>⟨Or.elim hk_ (fun hs_=>Or.elim hs_ (fun hs_=>hs_.1) (fun hs_=>(.inr (((Kd.R_types (Kd.R_types (HO316.out) BK306.out (by decide)) BK307.out (by decide)).1 k_ hs_.symm).1.1)))) (fun hn_=>(.inr (Nat.le_trans (below_size (by repeat (first |(with_reducible first |exact HB.out |apply below_alloc |apply pw_below_drewN |apply below_drew1 |refine below_set ?_ GE306.out |refine below_set ?_ GE307.out) |exact HB.out))) hn_))),Or.elim hk_ (fun hs_=>Or.elim hs_ (fun hs_=>hs_.2.2.1) (fun hs_=>((Kd.R_types (Kd.R_types (HO316.out) BK306.out (by decide)) BK307.out (by decide)).1 k_ hs_.symm).1.2)) (fun hn_=>(Kd.freshB (g:=gb306) (o:=.cells #[.slice A0_0 l0_0.length c0_0,.slice Ao28 y314.length co28,.int .i64 a0_2] 29 (0,0)) (by (with_reducible repeat (first |refine blk_drewN ?_ _ |refine blk_drew ?_ |refine blk_alloc ?_ _));exact BK306.out) k_ hn_)),Or.elim hk_ (fun hs_=>Or.elim hs_ (fun hs_=>hs_.2.2.2) (fun hs_=>((Kd.R_types (Kd.R_types (HO316.out) BK306.out (by decide)) BK307.out (by decide)).1 k_ hs_.symm).2)) (fun hn_=>(Kd.freshB (g:=gb307) (o:=.cells #[.slice none 0 0,.slice none 0 0,.int .i64 0] 29 (0,0)) (by (with_reducible repeat (first |refine blk_drewN ?_ _ |refine blk_drew ?_ |refine blk_alloc ?_ _));exact BK307.out) k_ hn_))⟩)) (below_size (by repeat (first |(with_reducible first |exact HB.out |apply below_alloc |apply pw_below_drewN |apply below_drew1 |refine below_set ?_ GE306.out |refine below_set ?_ GE307.out) |exact HB.out))));have n4_:=Aside0.mk (Kd.V_lower (Kd.V_mono (ok':=fun k_=>((P0_0_ k_∨P0_1_ k_)∨w.heap.size≤k_)∧k_≠gb306∧k_≠gb307) ho1 (fun k_ hk_=>⟨Or.elim hk_ (fun hs_=>Or.elim hs_ (fun hs_=>hs_.1) (fun hs_=>(.inr (((Kd.R_types (Kd.R_types (HO316.out) BK306.out (by decide)) BK307.out (by decide)).1 k_ hs_.symm).1.1)))) (fun hn_=>(.inr (Nat.le_trans (below_size (by repeat (first |(with_reducible first |exact HB.out |apply below_alloc |apply pw_below_drewN |apply below_drew1 |refine below_set ?_ GE306.out |refine below_set ?_ GE307.out) |exact HB.out))) hn_))),Or.elim hk_ (fun hs_=>Or.elim hs_ (fun hs_=>hs_.2.2.1) (fun hs_=>((Kd.R_types (Kd.R_types (HO316.out) BK306.out (by decide)) BK307.out (by decide)).1 k_ hs_.symm).1.2)) (fun hn_=>(Kd.freshB (g:=gb306) (o:=.cells #[.slice A0_0 l0_0.length c0_0,.slice Ao28 y314.length co28,.int .i64 a0_2] 29 (0,0)) (by (with_reducible repeat (first |refine blk_drewN ?_ _ |refine blk_drew ?_ |refine blk_alloc ?_ _));exact BK306.out) k_ hn_)),Or.elim hk_ (fun hs_=>Or.elim hs_ (fun hs_=>hs_.2.2.2) (fun hs_=>((Kd.R_types (Kd.R_types (HO316.out) BK306.out (by decide)) BK307.out (by decide)).1 k_ hs_.symm).2)) (fun hn_=>(Kd.freshB (g:=gb307) (o:=.cells #[.slice none 0 0,.slice none 0 0,.int .i64 0] 29 (0,0)) (by (with_reducible repeat (first |refine blk_drewN ?_ _ |refine blk_drew ?_ |refine blk_alloc ?_ _));exact BK307.out) k_ hn_))⟩)) (below_size (by repeat (first |(with_reducible first |exact HB.out |apply below_alloc |apply pw_below_drewN |apply below_drew1 |refine below_set ?_ GE306.out |refine below_set ?_ GE307.out) |exact HB.out))));have n5_:=Aside0.mk (blk_below (g:=gb306) (o:=.cells #[.slice A0_0 l0_0.length c0_0,.slice Ao28 y314.length co28,.int .i64 a0_2] 29 (0,0)) (by (with_reducible repeat (first |refine blk_drewN ?_ _ |refine blk_drew ?_ |refine blk_alloc ?_ _));exact BK306.out) hb);have n6_:=Aside0.mk (blk_below (g:=gb307) (o:=.cells #[.slice none 0 0,.slice none 0 0,.int .i64 0] 29 (0,0)) (by (with_reducible repeat (first |refine blk_drewN ?_ _ |refine blk_drew ?_ |refine blk_alloc ?_ _));exact BK307.out) hb);have n7_:=Aside0.mk (below_step (by repeat (first |(with_reducible first |exact HB.out |apply below_alloc |apply pw_below_drewN |apply below_drew1 |refine below_set ?_ GE306.out |refine below_set ?_ GE307.out) |exact HB.out)) hb);clear HO_307000;clear HO_307001;clear HO316;clear BK306;clear BK307;clear HB;have HO_307000:=n0_;have HO_307001:=n1_;have HO316:=n2_;have HO319:=n3_;have HO322:=n4_;have BK306:=n5_;have BK307:=n6_;have HB:=n7_;clear n0_ n1_ n2_ n3_ n4_ n5_ n6_ n7_;(try clear hb);(try clear hb2);(try clear hk);(try clear hi);(try clear ho0);(try clear ho1);obtain ⟨Ao33,co33,eo33⟩:=Kd.V_slice HO319.out;subst eo33;have hcz34_0:w32.cell? ⟨gb307,0,none⟩=some (.slice none 0 0):=(blk_cell BK307.out 0).trans rfl;have hcz34_1:w32.cell? ⟨gb307,1,none⟩=some (.slice none 0 0):=(blk_cell BK307.out 1).trans rfl;have hcz34_2:w32.cell? ⟨gb307,2,none⟩=some (.int .i64 0):=(blk_cell BK307.out 2).trans rfl;have hfz34_0:=blk_frozen BK307.out 0;have hfz34_1:=blk_frozen BK307.out 1;have hfz34_2:=blk_frozen BK307.out 2;obtain ⟨Ao35,co35,eo35⟩:=Kd.V_slice HO322.out;subst eo35))
        refine bodyPost_ret (results_ct rfl _ _ gb307 29 #[.slice Ao33 t317.length co33,.slice Ao35 t320.length co35,.int .i64 t323] (0,0) _ rfl (by (with_reducible repeat (first |refine blk_drewN ?_ _ |refine blk_drew ?_ |refine blk_alloc ?_ _));refine blk_put (cs:=#[.slice Ao33 t317.length co33,.slice Ao35 t320.length co35,.int .i64 0]) ?_ 2 _ rfl;(with_reducible repeat (first |refine blk_drewN ?_ _ |refine blk_drew ?_ |refine blk_alloc ?_ _));refine blk_put (cs:=#[.slice Ao33 t317.length co33,.slice none 0 0,.int .i64 0]) ?_ 1 _ rfl;(with_reducible repeat (first |refine blk_drewN ?_ _ |refine blk_drew ?_ |refine blk_alloc ?_ _));refine blk_put (cs:=#[.slice none 0 0,.slice none 0 0,.int .i64 0]) ?_ 0 _ rfl;(with_reducible repeat (first |refine blk_drewN ?_ _ |refine blk_drew ?_ |refine blk_alloc ?_ _));exact BK307.out) Try.underlying29 rfl (by kernel_rfl)) rfl ?_
        exact ⟨_,_,by first |rfl |(simp [errW_none,errW_some] <;> rfl) |(simp [*,errW_none,errW_some] <;> rfl),by (with_reducible repeat (first |apply Kd.V_alloc |apply Kd.V_drewN |apply Kd.V_drew));exact Kd.V_mono (Kd.V_far (p:=⟨gb307,2,none⟩) (Kd.V_far (p:=⟨gb307,1,none⟩) (Kd.V_far (p:=⟨gb307,0,none⟩) (Kd.V_mono HO319.out (fun k_ hk=>(⟨hk,hk.2.2⟩:_∧k_≠gb307))) (fun _ hk=>hk.2) (.slice Ao33 t317.length co33)) (fun _ hk=>hk.2) (.slice Ao35 t320.length co35)) (fun _ hk=>hk.2) (.int .i64 t323)) (fun _ hk=>hk.1.1),by (with_reducible repeat (first |apply Kd.V_alloc |apply Kd.V_drewN |apply Kd.V_drew));exact Kd.V_mono (Kd.V_far (p:=⟨gb307,2,none⟩) (Kd.V_far (p:=⟨gb307,1,none⟩) (Kd.V_far (p:=⟨gb307,0,none⟩) (Kd.V_mono HO322.out (fun k_ hk=>(⟨hk,hk.2.2⟩:_∧k_≠gb307))) (fun _ hk=>hk.2) (.slice Ao33 t317.length co33)) (fun _ hk=>hk.2) (.slice Ao35 t320.length co35)) (fun _ hk=>hk.2) (.int .i64 t323)) (fun _ hk=>hk.1.1),by repeat (first |(with_reducible first |exact HB.out |apply below_alloc |apply pw_below_drewN |apply below_drew1 |refine below_set ?_ GE306.out |refine below_set ?_ GE307.out) |exact HB.out)⟩
       ·rw [if_neg c19] at H
        exact absurd H (by simp)
      ·rw [if_neg c18] at H
       exact absurd H (by simp)
    ·rw [if_neg c13] at H
     have c13b0:((a2.size:Int) == 128)=false:=beq_eq_false_iff_ne.mpr c13
     have c13b1:((a2.size:Int) != 128)=true:=bne_iff_ne.mpr c13
     simp only [Option.some.injEq,Prod.mk.injEq] at H
     obtain ⟨rfl,rfl,rfl,rfl⟩:=H
     have hnb36:=NB307_306.out
     have hnc36:=NB306_307.out
     have hcz37_0:wc.cell? ⟨gb307,0,none⟩=some (.slice none 0 0):=(blk_cell BK307.out 0).trans rfl
     have hcz37_1:wc.cell? ⟨gb307,1,none⟩=some (.slice none 0 0):=(blk_cell BK307.out 1).trans rfl
     have hcz37_2:wc.cell? ⟨gb307,2,none⟩=some (.int .i64 0):=(blk_cell BK307.out 2).trans rfl
     have hfz37_0:=blk_frozen BK307.out 0
     have hfz37_1:=blk_frozen BK307.out 1
     have hfz37_2:=blk_frozen BK307.out 2
     go_wp2
     refine bodyPost_ret (results_ct rfl _ _ gb307 29 #[.slice none 0 0,.slice none 0 0,.int .i64 0] (0,0) _ rfl (by (with_reducible repeat (first |refine blk_drewN ?_ _ |refine blk_drew ?_ |refine blk_alloc ?_ _));refine blk_put (cs:=#[.slice none 0 0,.slice none 0 0,.int .i64 0]) ?_ 2 _ rfl;(with_reducible repeat (first |refine blk_drewN ?_ _ |refine blk_drew ?_ |refine blk_alloc ?_ _));refine blk_put (cs:=#[.slice none 0 0,.slice none 0 0,.int .i64 0]) ?_ 1 _ rfl;(with_reducible repeat (first |refine blk_drewN ?_ _ |refine blk_drew ?_ |refine blk_alloc ?_ _));refine blk_put (cs:=#[.slice none 0 0,.slice none 0 0,.int .i64 0]) ?_ 0 _ rfl;(with_reducible repeat (first |refine blk_drewN ?_ _ |refine blk_drew ?_ |refine blk_alloc ?_ _));exact BK307.out) Try.underlying29 rfl (by kernel_rfl)) rfl ?_
     exact ⟨_,_,by first |rfl |(simp [errW_none,errW_some] <;> rfl) |(simp [*,errW_none,errW_some] <;> rfl),Kd.V_nil _ _ _ _ _,Kd.V_nil _ _ _ _ _,by repeat (first |(with_reducible first |exact HB.out |apply below_alloc |apply pw_below_drewN |apply below_drew1 |refine below_set ?_ GE306.out |refine below_set ?_ GE307.out) |exact HB.out)⟩
end Go.Proofs.Ytjfmnkmgnbbfgaa.A
