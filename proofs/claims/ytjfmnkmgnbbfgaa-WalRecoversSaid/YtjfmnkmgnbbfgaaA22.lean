-- Made by drv.py (ours) by way of the kit's print; Lean checks it.
import Derived.Test.YtjfmnkmgnbbfgaaA0
import Derived.Test.YtjfmnkmgnbbfgaaA98
namespace Go.Proofs.Ytjfmnkmgnbbfgaa.A
open Go.RowKit Go.Proofs.YtjfmnkmgnbbfgaaW.PrintWords Go.Proofs.YtjfmnkmgnbbfgaaW.PrintLast Go.Proofs.YtjfmnkmgnbbfgaaW.PrintMore
attribute [local go_sem] max2_int min2_int max_two min_two max_three min_three max_four min_four   -- for this text's walks alone
set_option linter.unusedVariables false
set_option linter.unusedSimpArgs false
mutual
def wal_Format.j0:Nat→List ByteArray→Bool→Option (List ByteArray × (List (S27)) × Int × Int)
 | 0,_,_=>none
 | k + 1,x0,x14=>if x14=true then (some (([]:List ByteArray),([]:List (S27)),0,2)) else (wal_Format.l0 k x0 0 ([]:List ByteArray) (-1))
def wal_Format.l0:Nat→List ByteArray→Int→List ByteArray→Int→Option (List ByteArray × (List (S27)) × Int × Int)
 | 0,_,_,_,_=>none
 | k + 1,x0,x17,x135000,x135002=>if x17<33 then ((wal_zeros.f 128).bind fun t135=>(if x135000.length<8796093022208 then (wal_Format.l0 k x0 (wrap64 (x17 + 1)) (x135000 ++ [t135]) x135002) else (none))) else (wal_Format.l1 k x0 (x0.length:Int) 0 x135000 x135002)
def wal_Format.l1:Nat→List ByteArray→Int→Int→List ByteArray→Int→Option (List ByteArray × (List (S27)) × Int × Int)
 | 0,_,_,_,_,_=>none
 | k + 1,x26,x27,x28,x135000,x135002=>if x28<x27 then (if 0≤x28 then (if x28<(x26.length:Int) then (if ((rdOf ByteArray.empty x26 x28).size:Int)=128 then (if x135000.length<8796093022208 then (wal_Format.l1 k x26 x27 (wrap64 (x28 + 1)) (x135000 ++ [rdOf ByteArray.empty x26 x28]) x135002) else (none)) else (some (([]:List ByteArray),([]:List (S27)),0,3))) else (none)) else (none)) else (some (x135000,([]:List (S27)),x135002,0))
end
def wal_Format.f (k:Nat) (l0:List ByteArray):Option (List ByteArray × (List (S27)) × Int × Int):=if (l0.length:Int)<1 then (wal_Format.j0 k l0 true) else (wal_Format.j0 k l0 (decide ((l0.length:Int) > 223)))
theorem wal_Format.mono_l:∀ k,(∀ y0 y1,LeO (wal_Format.j0 k y0 y1) (wal_Format.j0 (k + 1) y0 y1))∧(∀ y0 y1 y2 y3,LeO (wal_Format.l0 k y0 y1 y2 y3) (wal_Format.l0 (k + 1) y0 y1 y2 y3))∧(∀ y0 y1 y2 y3 y4,LeO (wal_Format.l1 k y0 y1 y2 y3 y4) (wal_Format.l1 (k + 1) y0 y1 y2 y3 y4))
 | 0=>⟨fun _ _ r h=>by simp [wal_Format.j0] at h,fun _ _ _ _ r h=>by simp [wal_Format.l0] at h,fun _ _ _ _ _ r h=>by simp [wal_Format.l1] at h⟩
 | k + 1=>by
  obtain ⟨ih0,ih1,ih2⟩:=wal_Format.mono_l k
  refine ⟨?_, ?_, ?_⟩
  ·intro y0 y1
   unfold wal_Format.j0
   repeat' first
   | (with_reducible exact ih0 _ _)
   | (with_reducible exact ih1 _ _ _ _)
   | (with_reducible exact ih2 _ _ _ _ _)
   | (with_reducible exact LeO.refl _)
   | (with_reducible exact LeO.none _)
   | (with_reducible refine LeO.ite ?_ ?_)
   | (with_reducible refine LeO.bind ?_ (fun _=>?_))
   | exact ih0 _ _
   | exact ih1 _ _ _ _
   | exact ih2 _ _ _ _ _
   | exact LeO.none _
   | refine LeO.ite ?_ ?_
   | refine LeO.bind ?_ (fun _=>?_)
  ·intro y0 y1 y2 y3
   unfold wal_Format.l0
   repeat' first
   | (with_reducible exact ih0 _ _)
   | (with_reducible exact ih1 _ _ _ _)
   | (with_reducible exact ih2 _ _ _ _ _)
   | (with_reducible exact LeO.refl _)
   | (with_reducible exact LeO.none _)
   | (with_reducible refine LeO.ite ?_ ?_)
   | (with_reducible refine LeO.bind ?_ (fun _=>?_))
   | exact ih0 _ _
   | exact ih1 _ _ _ _
   | exact ih2 _ _ _ _ _
   | exact LeO.none _
   | refine LeO.ite ?_ ?_
   | refine LeO.bind ?_ (fun _=>?_)
  ·intro y0 y1 y2 y3 y4
   unfold wal_Format.l1
   repeat' first
   | (with_reducible exact ih0 _ _)
   | (with_reducible exact ih1 _ _ _ _)
   | (with_reducible exact ih2 _ _ _ _ _)
   | (with_reducible exact LeO.refl _)
   | (with_reducible exact LeO.none _)
   | (with_reducible refine LeO.ite ?_ ?_)
   | (with_reducible refine LeO.bind ?_ (fun _=>?_))
   | exact ih0 _ _
   | exact ih1 _ _ _ _
   | exact ih2 _ _ _ _ _
   | exact LeO.none _
   | refine LeO.ite ?_ ?_
   | refine LeO.bind ?_ (fun _=>?_)
theorem wal_Format.mono:∀ a0 k,LeO (wal_Format.f k a0) (wal_Format.f (k + 1) a0):=by
 intro a0 k
 obtain ⟨ih0,ih1,ih2⟩:=wal_Format.mono_l k
 unfold wal_Format.f
 repeat' first
   | (with_reducible exact ih0 _ _)
   | (with_reducible exact ih1 _ _ _ _)
   | (with_reducible exact ih2 _ _ _ _ _)
   | (with_reducible exact LeO.refl _)
   | (with_reducible exact LeO.none _)
   | (with_reducible refine LeO.ite ?_ ?_)
   | (with_reducible refine LeO.bind ?_ (fun _=>?_))
   | exact ih0 _ _
   | exact ih1 _ _ _ _
   | exact ih2 _ _ _ _ _
   | exact LeO.none _
   | refine LeO.ite ?_ ?_
   | refine LeO.bind ?_ (fun _=>?_)
set_option maxHeartbeats 8000000 in
set_option maxRecDepth 100000 in
theorem wal_Format.calls (k:Nat) (A0:Option Addr) (c0:Nat) (l0:List ByteArray) (r1:List ByteArray) (r2:List (S27)) (r3:Int) (r4:Int) (w:World) (hr0:Kd.C Kd.string w A0 l0.length l0) (hc0:l0.length≤c0) (h:wal_Format.f k l0=some (r1,r2,r3,r4)) :
  Calls Try.prog 22 #[.slice A0 l0.length c0] w fun e w'=>∃ v0_ v1_:Value,e=.returned (.tuple #[.agg #[v0_,v1_,.int .i64 r3],.int .i64 r4])∧Kd.R Kd.string 9 w' w.heap.size (fun _=>True) v0_ r1∧Kd.R k27 27 w' w.heap.size (fun _=>True) v1_ r2∧Below w.heap.size w w':=by
 have hu29:=Try.underlying29
 have HR0:=Aside0.mk hr0
 have HC0:=Aside0.mk hc0
 clear hr0 hc0
 have HB:=Aside0.mk (Below.refl w.heap.size w)
 have H:(if (l0.length:Int)<1 then (wal_Format.j0 k l0 true) else (wal_Format.j0 k l0 (decide ((l0.length:Int) > 223))))=some (r1,r2,r3,r4):=h
 clear h
 have HC2:=Aside0.mk H
 clear H
 go_enter Try.func22,Try.ntmps22
 go_upto_region 1 with (first |((with_reducible refine gate_dst (N:=2) rfl ?_);(try (refine gate_guard (by rfl) ?_;dsimp only));refine box_event ?hg (N:=2) ?hd (cs:=#[.slice none 0 0,.slice none 0 0,.int .i64 0]) (t:=29) ?hr ?_;(case hd=>rfl);(case hg=>rfl);(case hr=>first |(go_simp;done) |(go_simp;rfl));intro gb133 hg w3 hbox hb;have n0_:=Aside0.mk (below_step (by repeat (first |(with_reducible first |exact HB.out |apply below_alloc |apply pw_below_drewN |apply below_drew1) |exact HB.out)) hb);have n1_:=Aside0.mk (hbox);have n2_:=Aside0.mk ((by rw [hg];exact (below_size (by repeat (first |(with_reducible first |exact HB.out |apply below_alloc |apply pw_below_drewN |apply below_drew1) |exact HB.out))):w.heap.size≤gb133));have n3_:=Aside0.mk ((by rw [hg];exact (below_size (by repeat (first |(with_reducible first |exact HB.out |apply below_alloc |apply pw_below_drewN |apply below_drew1) |exact HB.out))):w.heap.size≤gb133));clear HB;have HB:=n0_;have BK133:=n1_;have GW133:=n2_;have GE133:=n3_;clear n0_ n1_ n2_ n3_;clear hb hbox hg))
 (try simp only [Act.put,List.setIfInBounds_toArray,List.set_cons_zero,List.set_cons_succ])
 go_cut [14] (fun v14 wc=>∃ (kq:Nat) (x14_1:Bool),v14=.bool x14_1∧Aside0 (wal_Format.j0 kq l0 x14_1=some (r1,r2,r3,r4))∧Aside0 (kq≤k)∧Aside0 (wc.heap[gb133]?=some (.cells #[(.slice none 0 0),(.slice none 0 0),.int .i64 0] 29 (0,0)))∧Aside0 (Below w.heap.size w wc))
 case first=>
  have H:=HC2.out
  clear HC2
  by_cases c4:(l0.length:Int)<1
  ·rw [if_pos c4] at H
   have c4b0:decide ((l0.length:Int)<1)=true:=decide_eq_true c4
   have c4b1:decide (l0.length<1)=true:=decide_eq_true (by omega)
   clear c4
   (first |rw [c4b0] |(simp only [i64_w,i32_w];rw [c4b0]) |skip)
   have H':=Aside0.mk H
   clear H
   go_wp2
   go_meet
   case rel=>exact ⟨_,(true),(by first |rfl |(simp;done) |(simp [*];done)),H',⟨by first |omega |exact Nat.le_refl _⟩,⟨by (with_reducible repeat (first |refine blk_drewN ?_ _ |refine blk_drew ?_ |refine blk_alloc ?_ _));exact BK133.out⟩,⟨by repeat (first |(with_reducible first |exact HB.out |apply below_alloc |apply pw_below_drewN |apply below_drew1 |refine below_set ?_ GE133.out) |exact HB.out)⟩⟩
  ·rw [if_neg c4] at H
   have c4b0:decide ((l0.length:Int)<1)=false:=decide_eq_false c4
   have c4b1:decide (l0.length<1)=false:=decide_eq_false (by omega)
   clear c4
   (first |rw [c4b0] |(simp only [i64_w,i32_w];rw [c4b0]) |skip)
   have H':=Aside0.mk H
   clear H
   go_wp2
   go_meet
   case rel=>exact ⟨_,(decide ((l0.length:Int) > 223)),(by first |rfl |(simp;done) |(simp [*];done)),H',⟨by first |omega |exact Nat.le_refl _⟩,⟨by (with_reducible repeat (first |refine blk_drewN ?_ _ |refine blk_drew ?_ |refine blk_alloc ?_ _));exact BK133.out⟩,⟨by repeat (first |(with_reducible first |exact HB.out |apply below_alloc |apply pw_below_drewN |apply below_drew1 |refine below_set ?_ GE133.out) |exact HB.out)⟩⟩
 case rest=>
  clear HC2
  try clear c2
  try clear p2
  try clear c4
  try clear c4b0
  try clear c4b1
  obtain ⟨kq,x14_1,rfl,HA,HJ1,BK133,HB⟩:=hcut
  cases kq with
  | zero=>exact absurd HA.out (by simp [wal_Format.j0])
  | succ kj1=>
   have H:=HA.out
   clear HA
   simp only [wal_Format.j0] at H
   by_cases c5:x14_1=true
   ·subst c5
    have H1:(some (([]:List ByteArray),([]:List (S27)),0,2))=some (r1,r2,r3,r4):=by rw [if_pos rfl] at H;exact H
    clear H
    have H:=H1
    clear H1
    simp only [Option.some.injEq,Prod.mk.injEq] at H
    obtain ⟨rfl,rfl,rfl,rfl⟩:=H
    have hcz6_0:wc.cell? ⟨gb133,0,none⟩=some (.slice none 0 0):=(blk_cell BK133.out 0).trans rfl
    have hcz6_1:wc.cell? ⟨gb133,1,none⟩=some (.slice none 0 0):=(blk_cell BK133.out 1).trans rfl
    have hcz6_2:wc.cell? ⟨gb133,2,none⟩=some (.int .i64 0):=(blk_cell BK133.out 2).trans rfl
    have hfz6_0:=blk_frozen BK133.out 0
    have hfz6_1:=blk_frozen BK133.out 1
    have hfz6_2:=blk_frozen BK133.out 2
    go_wp2
    refine bodyPost_ret (results_ct rfl _ _ gb133 29 #[.slice none 0 0,.slice none 0 0,.int .i64 0] (0,0) _ rfl (by (with_reducible repeat (first |refine blk_drewN ?_ _ |refine blk_drew ?_ |refine blk_alloc ?_ _));refine blk_put (cs:=#[.slice none 0 0,.slice none 0 0,.int .i64 0]) ?_ 2 _ rfl;(with_reducible repeat (first |refine blk_drewN ?_ _ |refine blk_drew ?_ |refine blk_alloc ?_ _));refine blk_put (cs:=#[.slice none 0 0,.slice none 0 0,.int .i64 0]) ?_ 1 _ rfl;(with_reducible repeat (first |refine blk_drewN ?_ _ |refine blk_drew ?_ |refine blk_alloc ?_ _));refine blk_put (cs:=#[.slice none 0 0,.slice none 0 0,.int .i64 0]) ?_ 0 _ rfl;(with_reducible repeat (first |refine blk_drewN ?_ _ |refine blk_drew ?_ |refine blk_alloc ?_ _));exact BK133.out) Try.underlying29 rfl (by kernel_rfl)) rfl ?_
    exact ⟨_,_,by first |rfl |(simp [errW_none,errW_some] <;> rfl) |(simp [*,errW_none,errW_some] <;> rfl),by first |exact Kd.R_nil _ _ _ _ _ |exact Kd.N_nil _ _ _ _ _ |exact Kd.V_nil _ _ _ _ _ |exact Kd.Q_nil _ _ _ _ _ |exact Kd.S_nil _ _ _ _ _,by first |exact Kd.R_nil _ _ _ _ _ |exact Kd.N_nil _ _ _ _ _ |exact Kd.V_nil _ _ _ _ _ |exact Kd.Q_nil _ _ _ _ _ |exact Kd.S_nil _ _ _ _ _,by repeat (first |(with_reducible first |exact HB.out |apply below_alloc |apply pw_below_drewN |apply below_drew1 |refine below_set ?_ GE133.out) |exact HB.out)⟩
   ·replace c5:=Bool.eq_false_iff.mpr c5
    subst c5
    have H1:(wal_Format.l0 kj1 l0 0 ([]:List ByteArray) (-1))=some (r1,r2,r3,r4):=by rw [if_neg (show ¬ (false=true) by decide)] at H;exact H
    clear H
    have H:=H1
    clear H1
    have H':=Aside0.mk H
    clear H
    go_wp2_with (first |((with_reducible refine gate_dst (N:=4) rfl ?_);(try (refine gate_guard (by rfl) ?_;dsimp only));refine box_event ?hg (N:=4) ?hd (cs:=#[.slice none 0 0,.slice none 0 0,.int .i64 0]) (t:=29) ?hr ?_;(case hd=>rfl);(case hg=>rfl);(case hr=>first |(go_simp;done) |(go_simp;rfl));intro gb134 hg w7 hbox hb;have n0_:=Aside0.mk (blk_below (g:=gb133) (o:=.cells #[.slice none 0 0,.slice none 0 0,.int .i64 0] 29 (0,0)) (by (with_reducible repeat (first |refine blk_drewN ?_ _ |refine blk_drew ?_ |refine blk_alloc ?_ _));exact BK133.out) hb);have n1_:=Aside0.mk (below_step (by repeat (first |(with_reducible first |exact HB.out |apply below_alloc |apply pw_below_drewN |apply below_drew1 |refine below_set ?_ GE133.out) |exact HB.out)) hb);have n2_:=Aside0.mk (hbox);have n3_:=Aside0.mk ((by rw [hg];exact (below_size (by repeat (first |(with_reducible first |exact HB.out |apply below_alloc |apply pw_below_drewN |apply below_drew1 |refine below_set ?_ GE133.out) |exact HB.out))):w.heap.size≤gb134));have n4_:=Aside0.mk ((by rw [hg];exact (below_size (by repeat (first |(with_reducible first |exact HB.out |apply below_alloc |apply pw_below_drewN |apply below_drew1 |refine below_set ?_ GE133.out) |exact HB.out))):w.heap.size≤gb134));have n5_:=Aside0.mk ((by rw [hg];exact Nat.ne_of_lt (blk_lt (g:=gb133) (o:=.cells #[.slice none 0 0,.slice none 0 0,.int .i64 0] 29 (0,0)) (by (with_reducible repeat (first |refine blk_drewN ?_ _ |refine blk_drew ?_ |refine blk_alloc ?_ _));exact BK133.out)):gb133≠gb134));have n6_:=Aside0.mk ((by rw [hg];exact Nat.ne_of_gt (blk_lt (g:=gb133) (o:=.cells #[.slice none 0 0,.slice none 0 0,.int .i64 0] 29 (0,0)) (by (with_reducible repeat (first |refine blk_drewN ?_ _ |refine blk_drew ?_ |refine blk_alloc ?_ _));exact BK133.out)):gb134≠gb133));clear BK133;clear HB;have BK133:=n0_;have HB:=n1_;have BK134:=n2_;have GW134:=n3_;have GE134:=n4_;have NB133_134:=n5_;have NB134_133:=n6_;clear n0_ n1_ n2_ n3_ n4_ n5_ n6_;clear hb hbox hg;have hnb8:=NB134_133.out;have hnc8:=NB133_134.out;have hcz9_0:w7.cell? ⟨gb134,0,none⟩=some (.slice none 0 0):=(blk_cell BK134.out 0).trans rfl;have hcz9_1:w7.cell? ⟨gb134,1,none⟩=some (.slice none 0 0):=(blk_cell BK134.out 1).trans rfl;have hcz9_2:w7.cell? ⟨gb134,2,none⟩=some (.int .i64 0):=(blk_cell BK134.out 2).trans rfl;have hfz9_0:=blk_frozen BK134.out 0;have hfz9_1:=blk_frozen BK134.out 1;have hfz9_2:=blk_frozen BK134.out 2))
    go_loopg [17] kj1 (fun kq v17 w'=>∃ (x17_2:Int) (x135000_2:List ByteArray) (u135000:Value),v17=.int .i64 x17_2∧Aside0 (wal_Format.l0 kq l0 x17_2 x135000_2 (-1)=some (r1,r2,r3,r4))∧Aside0 (kq≤kj1)∧Aside0 (Kd.R Kd.string 9 w' w.heap.size (fun _=>True) u135000 x135000_2)∧Aside0 (w'.heap[gb133]?=some (.cells #[(.slice none 0 0),(.slice none 0 0),.int .i64 0] 29 (0,0)))∧Aside0 (w'.heap[gb134]?=some (.cells #[u135000,(.slice none 0 0),.int .i64 (-1)] 29 (0,0)))∧Aside0 (Below w.heap.size w w'))
    case atStart=>exact ⟨(0),(([]:List ByteArray)),(.slice none 0 0),(by first |rfl |(simp;done) |(simp [*];done)),H',⟨Nat.le_refl _⟩,⟨by first |exact Kd.R_nil _ _ _ _ _ |exact Kd.N_nil _ _ _ _ _ |exact Kd.V_nil _ _ _ _ _ |exact Kd.Q_nil _ _ _ _ _ |exact Kd.S_nil _ _ _ _ _⟩,⟨by (with_reducible repeat (first |refine blk_drewN ?_ _ |refine blk_drew ?_ |refine blk_alloc ?_ _));refine blk_far ?_ NB133_134.out _;(with_reducible repeat (first |refine blk_drewN ?_ _ |refine blk_drew ?_ |refine blk_alloc ?_ _));refine blk_far ?_ NB133_134.out _;(with_reducible repeat (first |refine blk_drewN ?_ _ |refine blk_drew ?_ |refine blk_alloc ?_ _));refine blk_far ?_ NB133_134.out _;(with_reducible repeat (first |refine blk_drewN ?_ _ |refine blk_drew ?_ |refine blk_alloc ?_ _));exact BK133.out⟩,⟨by (with_reducible repeat (first |refine blk_drewN ?_ _ |refine blk_drew ?_ |refine blk_alloc ?_ _));refine blk_put (cs:=#[.slice none 0 0,.slice none 0 0,.int .i64 0]) ?_ 2 _ rfl;(with_reducible repeat (first |refine blk_drewN ?_ _ |refine blk_drew ?_ |refine blk_alloc ?_ _));refine blk_put (cs:=#[.slice none 0 0,.slice none 0 0,.int .i64 0]) ?_ 1 _ rfl;(with_reducible repeat (first |refine blk_drewN ?_ _ |refine blk_drew ?_ |refine blk_alloc ?_ _));refine blk_put (cs:=#[.slice none 0 0,.slice none 0 0,.int .i64 0]) ?_ 0 _ rfl;(with_reducible repeat (first |refine blk_drewN ?_ _ |refine blk_drew ?_ |refine blk_alloc ?_ _));exact BK134.out⟩,⟨by repeat (first |(with_reducible first |exact HB.out |apply below_alloc |apply pw_below_drewN |apply below_drew1 |refine below_set ?_ GE133.out |refine below_set ?_ GE134.out) |exact HB.out)⟩⟩
    case round=>
     clear H'
     try clear c2
     try clear p2
     try clear c4
     try clear c4b0
     try clear c4b1
     try clear c5
     try clear c8
     try clear hcz6_0
     try clear hcz6_1
     try clear hcz6_2
     try clear hcz9_0
     try clear hcz9_1
     try clear hcz9_2
     try clear hfz6_0
     try clear hfz6_1
     try clear hfz6_2
     try clear hfz9_0
     try clear hfz9_1
     try clear hfz9_2
     try clear p2
     obtain ⟨x17_2,x135000_2,u135000,rfl,HA,HK2,HO_135000,BK133,BK134,HB⟩:=hrel
     cases gk with
     | zero=>exact absurd HA.out (by simp [wal_Format.l0])
     | succ k2=>
      have H:=HA.out
      clear HA
      simp only [wal_Format.l0] at H
      by_cases c10:x17_2<33
      ·rw [if_pos c10] at H
       have c10b0:decide (x17_2<33)=true:=decide_eq_true c10
       clear c10
       replace H:=Option.bind_eq_some_iff.mp H
       obtain ⟨t135,A110,H⟩:=H
       replace H:(if x135000_2.length<8796093022208 then (wal_Format.l0 k2 l0 (wrap64 (x17_2 + 1)) (x135000_2 ++ [t135]) (-1)) else (none))=some (r1,r2,r3,r4):=H
       have A11:=Aside0.mk A110
       clear A110
       by_cases c12:x135000_2.length<8796093022208
       ·rw [if_pos c12] at H
        have LMc12:=Aside0.mk c12
        clear c12
        obtain ⟨y136,hy136⟩:∃ y_:List ByteArray,y_=(x135000_2 ++ [t135]):=⟨_,rfl⟩
        replace H:(wal_Format.l0 k2 l0 (wrap64 (x17_2 + 1)) y136 (-1))=some (r1,r2,r3,r4):=by first |(rw [hy136];with_reducible exact H) |(have H2_:=(Option.bind_some _ _).symm.trans H;rw [hy136];with_reducible exact H2_) |(have H2_:=(Option.bind_some _ _).symm.trans H;with_reducible exact H2_) |with_reducible exact H |(rw [hy136];exact H) |exact H
        have Ny136:=Aside0.mk hy136
        clear hy136
        have H':=Aside0.mk H
        clear H
        try go_wp2
        have n0_:=Aside0.mk (Kd.R_drew HO_135000.out)
        have n1_:=Aside0.mk (blk_drew BK133.out)
        have n2_:=Aside0.mk (blk_drew BK134.out)
        have n3_:=Aside0.mk (below_drew1 HB.out)
        clear HO_135000
        clear BK133
        clear BK134
        clear HB
        have HO_135000:=n0_
        have BK133:=n1_
        have BK134:=n2_
        have HB:=n3_
        clear n0_ n1_ n2_ n3_
        refine start_ (n:=7) (S:=fun w'=>w'.cell? ⟨gb134,0,none⟩=some (u135000)∧w'.cell? ⟨gb134,1,none⟩=some (.slice none 0 0)∧w'.cell? ⟨gb134,2,none⟩=some (.int .i64 (-1))) (ds:=[6]) #[false,false,false,false,false,false,false] (by kernel_rfl) rfl rfl ⟨(blk_cell BK134.out 0).trans rfl,(blk_cell BK134.out 1).trans rfl,(blk_cell BK134.out 2).trans rfl⟩ (fun hHeld=>?_)
        generalize wr.drew=w13 at HO_135000 BK133 BK134 HB hHeld ⊢
        refine pure_ (i:=0) (N:=some 19) (v:=?_) (a':=?_) #[true,false,false,false,false,false,false] rfl rfl (by kernel_rfl) (fun _ _ _ h=>h) (Or.inl ⟨by rfl, ?_⟩) ?_ ?_
        rotate_left
        ·intro w'
         go_simp
         with_reducible rfl
        rotate_left
        ·simp only [Act.put,List.setIfInBounds_toArray,List.set_cons_zero,List.set_cons_succ,i64_w,i32_w]
         rfl
        refine take_ (i:=1) (N:=some 20) (v:=?_) (a':=?_) #[true,true,false,false,false,false,false] rfl rfl (by kernel_rfl) (fun _ _ _ h=>h) (Or.inl ⟨by rfl, ?_⟩) hHeld ?_ ?_
        rotate_left
        ·rintro w' ⟨s0,s1,s2⟩
         go_simp
         with_reducible rfl
        rotate_left
        ·simp only [Act.put,List.setIfInBounds_toArray,List.set_cons_zero,List.set_cons_succ,i64_w,i32_w]
         rfl
        refine one_ (i:=2) (N:=some 21) #[true,true,true,false,false,false,false] rfl rfl (by kernel_rfl) (by decide) (fun K hK=>?_)
        refine goes_ Try.func64 (by kernel_rfl) rfl #[.int .i64 128] (by rfl) rfl rfl (by (try simp only [List.map_toArray,List.map_cons,List.map_nil]);first |done |rfl |(simp only [List.length_drop,List.length_take];rfl)) ?_
        with_reducible refine (wal_zeros.calls 128 t135 _ A11.out).mono ?_
        rintro e w14 ⟨rfl,hb⟩
        refine ⟨_,rfl, ?_⟩
        have n0_:=Aside0.mk (Kd.R_below (by (with_reducible repeat (first |apply Kd.R_alloc |apply Kd.R_drewN |apply Kd.R_drew));exact HO_135000.out) hb)
        have n1_:=Aside0.mk (blk_below (g:=gb133) (o:=.cells #[.slice none 0 0,.slice none 0 0,.int .i64 0] 29 (0,0)) (by (with_reducible repeat (first |refine blk_drewN ?_ _ |refine blk_drew ?_ |refine blk_alloc ?_ _));exact BK133.out) hb)
        have n2_:=Aside0.mk (blk_below (g:=gb134) (o:=.cells #[u135000,.slice none 0 0,.int .i64 (-1)] 29 (0,0)) (by (with_reducible repeat (first |refine blk_drewN ?_ _ |refine blk_drew ?_ |refine blk_alloc ?_ _));exact BK134.out) hb)
        have n3_:=Aside0.mk (below_step (by repeat (first |(with_reducible first |exact HB.out |apply below_alloc |apply pw_below_drewN |apply below_drew1 |refine below_set ?_ GE133.out |refine below_set ?_ GE134.out) |exact HB.out)) hb)
        clear HO_135000
        clear BK133
        clear BK134
        clear HB
        have HO_135000:=n0_
        have BK133:=n1_
        have BK134:=n2_
        have HB:=n3_
        clear n0_ n1_ n2_ n3_
        (try clear hb)
        (try clear hb2)
        (try clear hk)
        (try clear hi)
        refine hK.out _ _ ⟨(blk_cell BK134.out 0).trans rfl,(blk_cell BK134.out 1).trans rfl,(blk_cell BK134.out 2).trans rfl⟩ (fun hHeld=>?_)
        clear hK K
        refine norm_ (a':=?_) ?_ ?_
        rotate_left
        ·show Act.put _ (some 21) _=_
         simp only [Act.put,List.setIfInBounds_toArray,List.set_cons_zero,List.set_cons_succ,i64_w,i32_w]
         rfl
        refine one_ (i:=3) (N:=some 22) #[true,true,true,true,false,false,false] rfl rfl (by kernel_rfl) (by decide) (fun K hK=>?_)
        refine value_ (w1:=?_) (v:=?_) (by rfl) rfl ?_ ?_
        rotate_left 2
        ·go_simp
         constructor
         ·rfl
         ·rfl
        refine hK.out _ _ ⟨(blk_cell (blk_alloc BK134.out _) 0).trans rfl,(blk_cell (blk_alloc BK134.out _) 1).trans rfl,(blk_cell (blk_alloc BK134.out _) 2).trans rfl⟩ (fun hHeld=>?_)
        clear hK K
        refine norm_ (a':=?_) ?_ ?_
        rotate_left
        ·show Act.put _ (some 22) _=_
         simp only [Act.put,List.setIfInBounds_toArray,List.set_cons_zero,List.set_cons_succ,i64_w,i32_w]
         rfl
        refine one_ (i:=4) (N:=some 23) #[true,true,true,true,true,false,false] rfl rfl (by kernel_rfl) (by decide) (fun K hK=>?_)
        refine Kd.R_append_step Kd.string (w0:=w) w.heap.size (by rfl) (.tmp 20) (.tmp 22) 22 9 (.string ⟨#[]⟩) 16 rfl Try.underlying22 info9 rfl (by decide) (by omega) u135000 x135000_2 t135 [.string t135] (fun _=>True) (fun _=>False) rfl rfl ?aP (fun _ hk=>hk.elim) ?aF ?aO ?aB ?aS ?aL ?_
        (case aP=>exact rfl)
        (case aB=>exact (by repeat (first |(with_reducible first |exact HB.out |apply below_alloc |apply pw_below_drewN |apply below_drew1 |refine below_set ?_ GE133.out |refine below_set ?_ GE134.out) |exact HB.out)))
        (case aF=>exact (fun _ _=>trivial))
        (case aO=>exact (by (with_reducible repeat (first |apply Kd.R_alloc |apply Kd.R_drewN |apply Kd.R_drew));exact HO_135000.out))
        (case aS=>exact (below_size (by repeat (first |(with_reducible first |exact HB.out |apply below_alloc |apply pw_below_drewN |apply below_drew1 |refine below_set ?_ GE133.out |refine below_set ?_ GE134.out) |exact HB.out))))
        (case aL=>have:=LMc12.out;omega)
        intro v137 w15 ho hb hg hat
        rw [← Ny136.out] at ho
        have n0_:=Aside0.mk (blk_grown (g:=gb133) (o:=.cells #[.slice none 0 0,.slice none 0 0,.int .i64 0] 29 (0,0)) (by (with_reducible repeat (first |refine blk_drewN ?_ _ |refine blk_drew ?_ |refine blk_alloc ?_ _));exact BK133.out) hg (Kd.R_ne HO_135000.out BK133.out (by decide)))
        have n1_:=Aside0.mk (blk_grown (g:=gb134) (o:=.cells #[u135000,.slice none 0 0,.int .i64 (-1)] 29 (0,0)) (by (with_reducible repeat (first |refine blk_drewN ?_ _ |refine blk_drew ?_ |refine blk_alloc ?_ _));exact BK134.out) hg (Kd.R_ne HO_135000.out BK134.out (by decide)))
        have n2_:=Aside0.mk (hb)
        have n3_:=Aside0.mk (ho)
        clear BK133
        clear BK134
        clear HB
        clear HO_135000
        have BK133:=n0_
        have BK134:=n1_
        have HB:=n2_
        have HO138:=n3_
        clear n0_ n1_ n2_ n3_
        clear ho hb hg hat
        obtain ⟨Ao16,co16,eo16⟩:=Kd.R_slice HO138.out
        (first |subst eo16 |(injection eo16 with f1_ f2_ f3_;have f4_:=f1_.symm;have f5_:=f3_.symm;clear f1_ f2_ f3_;subst f4_;subst f5_))
        refine hK.out _ _ ⟨(blk_cell BK134.out 0).trans rfl,(blk_cell BK134.out 1).trans rfl,(blk_cell BK134.out 2).trans rfl⟩ (fun hHeld=>?_)
        clear hK K
        refine norm_ (a':=?_) ?_ ?_
        rotate_left
        ·show Act.put _ (some 23) _=_
         simp only [Act.put,List.setIfInBounds_toArray,List.set_cons_zero,List.set_cons_succ,i64_w,i32_w]
         rfl
        refine pure_ (i:=5) (N:=some 24) (v:=?_) (a':=?_) #[true,true,true,true,true,true,false] rfl rfl (by kernel_rfl) (fun _ _ _ h=>h) (Or.inl ⟨by rfl, ?_⟩) ?_ ?_
        rotate_left
        ·intro w'
         go_simp
         with_reducible rfl
        rotate_left
        ·simp only [Act.put,List.setIfInBounds_toArray,List.set_cons_zero,List.set_cons_succ,i64_w,i32_w]
         rfl
        refine last_ (i:=6) (N:=none) #[true,true,true,true,true,true,true] rfl rfl (by kernel_rfl) (by decide) (fun K hK=>?_)
        have hs17:w15.cell? ⟨gb134,0,none⟩=some (u135000):=(blk_cell BK134.out 0).trans rfl
        have hfs17:=blk_frozen BK134.out 0
        have hns17_0:=NB133_134.out
        have hms17_0:=NB134_133.out
        refine skip_ (w1:=?_) (by rfl) rfl ?_ ?_
        rotate_left
        ·go_simp
         rfl
        refine hK.out _ _ ?_
        clear hK K
        refine done_ (by kernel_rfl) ?_
        try go_wp2
        go_roundg k2
        case measure=>have:=HJ1.out;have:=HK2.out;omega
        case rel=>exact ⟨(wrap64 (x17_2 + 1)),(y136),(.slice Ao16 y136.length co16),(by first |rfl |(simp;done) |(simp [*];done)),H',⟨by have:=HJ1.out;have:=HK2.out;omega⟩,⟨by (with_reducible repeat (first |apply Kd.R_alloc |apply Kd.R_drewN |apply Kd.R_drew));exact Kd.R_mono (Kd.R_far (p:=⟨gb134,0,none⟩) (Kd.R_types HO138.out BK134.out (by decide)) (fun _ hk=>hk.2) (.slice Ao16 y136.length co16)) (fun _ hk=>trivial)⟩,⟨by (with_reducible repeat (first |refine blk_drewN ?_ _ |refine blk_drew ?_ |refine blk_alloc ?_ _));refine blk_far ?_ NB133_134.out _;(with_reducible repeat (first |refine blk_drewN ?_ _ |refine blk_drew ?_ |refine blk_alloc ?_ _));exact BK133.out⟩,⟨by (with_reducible repeat (first |refine blk_drewN ?_ _ |refine blk_drew ?_ |refine blk_alloc ?_ _));refine blk_put (cs:=#[u135000,.slice none 0 0,.int .i64 (-1)]) ?_ 0 _ rfl;(with_reducible repeat (first |refine blk_drewN ?_ _ |refine blk_drew ?_ |refine blk_alloc ?_ _));exact BK134.out⟩,⟨by repeat (first |(with_reducible first |exact HB.out |apply below_alloc |apply pw_below_drewN |apply below_drew1 |refine below_set ?_ GE133.out |refine below_set ?_ GE134.out) |exact HB.out)⟩⟩
       ·rw [if_neg c12] at H
        exact absurd H (by simp)
      ·rw [if_neg c10] at H
       have c10b0:decide (x17_2<33)=false:=decide_eq_false c10
       clear c10
       have H':=Aside0.mk H
       clear H
       go_wp2
       go_loopg [28] k2 (fun kq v28 w'=>∃ (x28_3:Int) (x134002_3:Int) (x135000_3:List ByteArray) (u135000:Value),v28=.int .i64 x28_3∧Aside0 (wal_Format.l1 kq l0 (l0.length:Int) x28_3 x135000_3 (-1)=some (r1,r2,r3,r4))∧Aside0 (kq≤k2)∧Aside0 (Kd.R Kd.string 9 w' w.heap.size (fun _=>True) u135000 x135000_3)∧Aside0 (w'.heap[gb133]?=some (.cells #[(.slice none 0 0),(.slice none 0 0),.int .i64 x134002_3] 29 (0,0)))∧Aside0 (w'.heap[gb134]?=some (.cells #[u135000,(.slice none 0 0),.int .i64 (-1)] 29 (0,0)))∧Aside0 (Below w.heap.size w w'))
       case atStart=>exact ⟨(0),(0),(x135000_2),(u135000),(by first |rfl |(simp;done) |(simp [*];done)),H',⟨Nat.le_refl _⟩,⟨by (with_reducible repeat (first |apply Kd.R_alloc |apply Kd.R_drewN |apply Kd.R_drew));exact HO_135000.out⟩,⟨by (with_reducible repeat (first |refine blk_drewN ?_ _ |refine blk_drew ?_ |refine blk_alloc ?_ _));exact BK133.out⟩,⟨by (with_reducible repeat (first |refine blk_drewN ?_ _ |refine blk_drew ?_ |refine blk_alloc ?_ _));exact BK134.out⟩,⟨by repeat (first |(with_reducible first |exact HB.out |apply below_alloc |apply pw_below_drewN |apply below_drew1 |refine below_set ?_ GE133.out |refine below_set ?_ GE134.out) |exact HB.out)⟩⟩
       case round=>
        clear H'
        try clear c1
        try clear c2
        try clear p2
        try clear c4
        try clear c4b0
        try clear c4b1
        try clear c5
        try clear c6
        try clear p6
        try clear c8
        try clear c10
        try clear c10b0
        try clear c12
        try clear hcz6_0
        try clear hcz6_1
        try clear hcz6_2
        try clear hcz9_0
        try clear hcz9_1
        try clear hcz9_2
        try clear hfz6_0
        try clear hfz6_1
        try clear hfz6_2
        try clear hfz9_0
        try clear hfz9_1
        try clear hfz9_2
        try clear p2
        obtain ⟨x28_3,x134002_3,x135000_3,u135000,rfl,HA,HK3,HO_135000,BK133,BK134,HB⟩:=hrel
        cases gk with
        | zero=>exact absurd HA.out (by simp [wal_Format.l1])
        | succ k3=>
         have H:=HA.out
         clear HA
         simp only [wal_Format.l1] at H
         by_cases c18:x28_3<(l0.length:Int)
         ·rw [if_pos c18] at H
          have c18b0:decide (x28_3<(l0.length:Int))=true:=decide_eq_true c18
          clear c18
          by_cases c19:0≤x28_3
          ·rw [if_pos c19] at H
           have c19b0:decide (0≤x28_3)=true:=decide_eq_true c19
           clear c19
           by_cases c20:x28_3<(l0.length:Int)
           ·rw [if_pos c20] at H
            have c20b0:decide (x28_3<(l0.length:Int))=true:=decide_eq_true c20
            clear c20
            by_cases c21:((rdOf ByteArray.empty l0 x28_3).size:Int)=128
            ·rw [if_pos c21] at H
             have c21b0:(((rdOf ByteArray.empty l0 x28_3).size:Int) == 128)=true:=beq_iff_eq.mpr c21
             have c21b1:(((rdOf ByteArray.empty l0 x28_3).size:Int) != 128)=false:=bne_eq_false_iff_eq.mpr c21
             clear c21
             by_cases c22:x135000_3.length<8796093022208
             ·rw [if_pos c22] at H
              have LMc22:=Aside0.mk c22
              clear c22
              obtain ⟨y140,hy140⟩:∃ y_:List ByteArray,y_=(x135000_3 ++ [rdOf ByteArray.empty l0 x28_3]):=⟨_,rfl⟩
              replace H:(wal_Format.l1 k3 l0 (l0.length:Int) (wrap64 (x28_3 + 1)) y140 (-1))=some (r1,r2,r3,r4):=by first |(rw [hy140];with_reducible exact H) |(have H2_:=(Option.bind_some _ _).symm.trans H;rw [hy140];with_reducible exact H2_) |(have H2_:=(Option.bind_some _ _).symm.trans H;with_reducible exact H2_) |with_reducible exact H |(rw [hy140];exact H) |exact H
              have Ny140:=Aside0.mk hy140
              clear hy140
              have H':=Aside0.mk H
              clear H
              have p139:0≤(x28_3:Int):=of_decide_eq_true (by first |(with_reducible assumption) |assumption)
              have q139:x28_3<(l0.length:Int):=of_decide_eq_true (by first |(with_reducible assumption) |assumption)
              obtain ⟨ad139,e139,hx139_0⟩:=Kd.at_string HR0.out x28_3 p139 q139
              cases e139
              replace hx139_0:=(HB.out.cell (World.block_lt_of_cell? w _ hx139_0)).trans hx139_0
              replace p139:=eq_true p139
              replace q139:=eq_true q139
              have hnb23:=NB134_133.out
              have hnc23:=NB133_134.out
              have hcz24_0:wr.cell? ⟨gb134,0,none⟩=some (u135000):=(blk_cell BK134.out 0).trans rfl
              have hcz24_1:wr.cell? ⟨gb134,1,none⟩=some (.slice none 0 0):=(blk_cell BK134.out 1).trans rfl
              have hcz24_2:wr.cell? ⟨gb134,2,none⟩=some (.int .i64 (-1)):=(blk_cell BK134.out 2).trans rfl
              have hfz24_0:=blk_frozen BK134.out 0
              have hfz24_1:=blk_frozen BK134.out 1
              have hfz24_2:=blk_frozen BK134.out 2
              go_wp2_with (first |((with_reducible refine gate_builtin (b:=.append) (xs:=#[.tmp 37,.tmp 39]) rfl ?_);(try (refine gate_guard (by rfl) ?_;dsimp only));at_builtin;refine Kd.R_append Kd.string (w0:=w) w.heap.size rfl (.tmp 37) (.tmp 39) 22 9 (.string ⟨#[]⟩) 16 rfl Try.underlying22 info9 rfl (by decide) (by omega) u135000 x135000_3 (rdOf ByteArray.empty l0 x28_3) [.string (rdOf ByteArray.empty l0 x28_3)] (fun _=>True) (fun _=>False) rfl rfl ?aP (fun _ hk=>hk.elim) ?aF ?aO ?aB ?aS ?aL ?_;(case aP=>exact rfl);(case aB=>exact (by repeat (first |(with_reducible first |exact HB.out |apply below_alloc |apply pw_below_drewN |apply below_drew1 |refine below_set ?_ GE133.out |refine below_set ?_ GE134.out) |exact HB.out)));(case aF=>exact (fun _ _=>trivial));(case aO=>exact (by (with_reducible repeat (first |apply Kd.R_alloc |apply Kd.R_drewN |apply Kd.R_drew));exact HO_135000.out));(case aS=>exact (below_size (by repeat (first |(with_reducible first |exact HB.out |apply below_alloc |apply pw_below_drewN |apply below_drew1 |refine below_set ?_ GE133.out |refine below_set ?_ GE134.out) |exact HB.out))));(case aL=>have:=LMc22.out;omega);intro v141 w25 ho hb hg hat;rw [← Ny140.out] at ho;have n0_:=Aside0.mk (blk_grown (g:=gb133) (o:=.cells #[.slice none 0 0,.slice none 0 0,.int .i64 x134002_3] 29 (0,0)) (by (with_reducible repeat (first |refine blk_drewN ?_ _ |refine blk_drew ?_ |refine blk_alloc ?_ _));exact BK133.out) hg (Kd.R_ne HO_135000.out BK133.out (by decide)));have n1_:=Aside0.mk (blk_grown (g:=gb134) (o:=.cells #[u135000,.slice none 0 0,.int .i64 (-1)] 29 (0,0)) (by (with_reducible repeat (first |refine blk_drewN ?_ _ |refine blk_drew ?_ |refine blk_alloc ?_ _));exact BK134.out) hg (Kd.R_ne HO_135000.out BK134.out (by decide)));have n2_:=Aside0.mk (hb);have n3_:=Aside0.mk (ho);clear BK133;clear BK134;clear HB;clear HO_135000;have BK133:=n0_;have BK134:=n1_;have HB:=n2_;have HO142:=n3_;clear n0_ n1_ n2_ n3_;clear ho hb hg hat;obtain ⟨Ao26,co26,eo26⟩:=Kd.R_slice HO142.out;subst eo26;have hcz27_0:w25.cell? ⟨gb134,0,none⟩=some (u135000):=(blk_cell BK134.out 0).trans rfl;have hcz27_1:w25.cell? ⟨gb134,1,none⟩=some (.slice none 0 0):=(blk_cell BK134.out 1).trans rfl;have hcz27_2:w25.cell? ⟨gb134,2,none⟩=some (.int .i64 (-1)):=(blk_cell BK134.out 2).trans rfl;have hfz27_0:=blk_frozen BK134.out 0;have hfz27_1:=blk_frozen BK134.out 1;have hfz27_2:=blk_frozen BK134.out 2))
              go_roundg k3
              case measure=>have:=HJ1.out;have:=HK2.out;have:=HK3.out;omega
              case rel=>exact ⟨(wrap64 (x28_3 + 1)),(x134002_3),(y140),(.slice Ao26 y140.length co26),(by first |rfl |(simp;done) |(simp [*];done)),H',⟨by have:=HJ1.out;have:=HK2.out;have:=HK3.out;omega⟩,⟨by (with_reducible repeat (first |apply Kd.R_alloc |apply Kd.R_drewN |apply Kd.R_drew));exact Kd.R_mono (Kd.R_far (p:=⟨gb134,0,none⟩) (Kd.R_types HO142.out BK134.out (by decide)) (fun _ hk=>hk.2) (.slice Ao26 y140.length co26)) (fun _ hk=>trivial)⟩,⟨by (with_reducible repeat (first |refine blk_drewN ?_ _ |refine blk_drew ?_ |refine blk_alloc ?_ _));refine blk_far ?_ NB133_134.out _;(with_reducible repeat (first |refine blk_drewN ?_ _ |refine blk_drew ?_ |refine blk_alloc ?_ _));exact BK133.out⟩,⟨by (with_reducible repeat (first |refine blk_drewN ?_ _ |refine blk_drew ?_ |refine blk_alloc ?_ _));refine blk_put (cs:=#[u135000,.slice none 0 0,.int .i64 (-1)]) ?_ 0 _ rfl;(with_reducible repeat (first |refine blk_drewN ?_ _ |refine blk_drew ?_ |refine blk_alloc ?_ _));exact BK134.out⟩,⟨by repeat (first |(with_reducible first |exact HB.out |apply below_alloc |apply pw_below_drewN |apply below_drew1 |refine below_set ?_ GE133.out |refine below_set ?_ GE134.out) |exact HB.out)⟩⟩
             ·rw [if_neg c22] at H
              exact absurd H (by simp)
            ·rw [if_neg c21] at H
             have c21b0:(((rdOf ByteArray.empty l0 x28_3).size:Int) == 128)=false:=beq_eq_false_iff_ne.mpr c21
             have c21b1:(((rdOf ByteArray.empty l0 x28_3).size:Int) != 128)=true:=bne_iff_ne.mpr c21
             simp only [Option.some.injEq,Prod.mk.injEq] at H
             obtain ⟨rfl,rfl,rfl,rfl⟩:=H
             have p139:0≤(x28_3:Int):=of_decide_eq_true (by first |(with_reducible assumption) |assumption)
             have q139:x28_3<(l0.length:Int):=of_decide_eq_true (by first |(with_reducible assumption) |assumption)
             obtain ⟨ad139,e139,hx139_0⟩:=Kd.at_string HR0.out x28_3 p139 q139
             cases e139
             replace hx139_0:=(HB.out.cell (World.block_lt_of_cell? w _ hx139_0)).trans hx139_0
             replace p139:=eq_true p139
             replace q139:=eq_true q139
             have hnb28:=NB133_134.out
             have hnc28:=NB134_133.out
             have hcz29_0:wr.cell? ⟨gb133,0,none⟩=some (.slice none 0 0):=(blk_cell BK133.out 0).trans rfl
             have hcz29_1:wr.cell? ⟨gb133,1,none⟩=some (.slice none 0 0):=(blk_cell BK133.out 1).trans rfl
             have hcz29_2:wr.cell? ⟨gb133,2,none⟩=some (.int .i64 x134002_3):=(blk_cell BK133.out 2).trans rfl
             have hfz29_0:=blk_frozen BK133.out 0
             have hfz29_1:=blk_frozen BK133.out 1
             have hfz29_2:=blk_frozen BK133.out 2
             go_wp2
             refine bodyPost_ret (results_ct rfl _ _ gb133 29 #[.slice none 0 0,.slice none 0 0,.int .i64 0] (0,0) _ rfl (by (with_reducible repeat (first |refine blk_drewN ?_ _ |refine blk_drew ?_ |refine blk_alloc ?_ _));refine blk_put (cs:=#[.slice none 0 0,.slice none 0 0,.int .i64 x134002_3]) ?_ 2 _ rfl;(with_reducible repeat (first |refine blk_drewN ?_ _ |refine blk_drew ?_ |refine blk_alloc ?_ _));refine blk_put (cs:=#[.slice none 0 0,.slice none 0 0,.int .i64 x134002_3]) ?_ 1 _ rfl;(with_reducible repeat (first |refine blk_drewN ?_ _ |refine blk_drew ?_ |refine blk_alloc ?_ _));refine blk_put (cs:=#[.slice none 0 0,.slice none 0 0,.int .i64 x134002_3]) ?_ 0 _ rfl;(with_reducible repeat (first |refine blk_drewN ?_ _ |refine blk_drew ?_ |refine blk_alloc ?_ _));exact BK133.out) Try.underlying29 rfl (by kernel_rfl)) rfl ?_
             exact ⟨_,_,by first |rfl |(simp [errW_none,errW_some] <;> rfl) |(simp [*,errW_none,errW_some] <;> rfl),by first |exact Kd.R_nil _ _ _ _ _ |exact Kd.N_nil _ _ _ _ _ |exact Kd.V_nil _ _ _ _ _ |exact Kd.Q_nil _ _ _ _ _ |exact Kd.S_nil _ _ _ _ _,by first |exact Kd.R_nil _ _ _ _ _ |exact Kd.N_nil _ _ _ _ _ |exact Kd.V_nil _ _ _ _ _ |exact Kd.Q_nil _ _ _ _ _ |exact Kd.S_nil _ _ _ _ _,by repeat (first |(with_reducible first |exact HB.out |apply below_alloc |apply pw_below_drewN |apply below_drew1 |refine below_set ?_ GE133.out |refine below_set ?_ GE134.out) |exact HB.out)⟩
           ·rw [if_neg c20] at H
            exact absurd H (by simp)
          ·rw [if_neg c19] at H
           exact absurd H (by simp)
         ·rw [if_neg c18] at H
          have c18b0:decide (x28_3<(l0.length:Int))=false:=decide_eq_false c18
          clear c18
          simp only [Option.some.injEq,Prod.mk.injEq] at H
          obtain ⟨rfl,rfl,rfl,rfl⟩:=H
          have hnb30:=NB134_133.out
          have hnc30:=NB133_134.out
          have hcz31_0:wr.cell? ⟨gb134,0,none⟩=some (u135000):=(blk_cell BK134.out 0).trans rfl
          have hcz31_1:wr.cell? ⟨gb134,1,none⟩=some (.slice none 0 0):=(blk_cell BK134.out 1).trans rfl
          have hcz31_2:wr.cell? ⟨gb134,2,none⟩=some (.int .i64 (-1)):=(blk_cell BK134.out 2).trans rfl
          have hfz31_0:=blk_frozen BK134.out 0
          have hfz31_1:=blk_frozen BK134.out 1
          have hfz31_2:=blk_frozen BK134.out 2
          obtain ⟨Ao32,co32,eo32⟩:=Kd.R_slice HO_135000.out
          subst eo32
          have hcz33_0:wr.cell? ⟨gb133,0,none⟩=some (.slice none 0 0):=(blk_cell BK133.out 0).trans rfl
          have hcz33_1:wr.cell? ⟨gb133,1,none⟩=some (.slice none 0 0):=(blk_cell BK133.out 1).trans rfl
          have hcz33_2:wr.cell? ⟨gb133,2,none⟩=some (.int .i64 x134002_3):=(blk_cell BK133.out 2).trans rfl
          have hfz33_0:=blk_frozen BK133.out 0
          have hfz33_1:=blk_frozen BK133.out 1
          have hfz33_2:=blk_frozen BK133.out 2
          go_wp2
          refine bodyPost_ret (results_ct rfl _ _ gb133 29 #[.slice Ao32 x135000_3.length co32,.slice none 0 0,.int .i64 (-1)] (0,0) _ rfl (by (with_reducible repeat (first |refine blk_drewN ?_ _ |refine blk_drew ?_ |refine blk_alloc ?_ _));refine blk_put (cs:=#[.slice Ao32 x135000_3.length co32,.slice none 0 0,.int .i64 x134002_3]) ?_ 2 _ rfl;(with_reducible repeat (first |refine blk_drewN ?_ _ |refine blk_drew ?_ |refine blk_alloc ?_ _));refine blk_put (cs:=#[.slice Ao32 x135000_3.length co32,.slice none 0 0,.int .i64 x134002_3]) ?_ 1 _ rfl;(with_reducible repeat (first |refine blk_drewN ?_ _ |refine blk_drew ?_ |refine blk_alloc ?_ _));refine blk_put (cs:=#[.slice none 0 0,.slice none 0 0,.int .i64 x134002_3]) ?_ 0 _ rfl;(with_reducible repeat (first |refine blk_drewN ?_ _ |refine blk_drew ?_ |refine blk_alloc ?_ _));exact BK133.out) Try.underlying29 rfl (by kernel_rfl)) rfl ?_
          exact ⟨_,_,by first |rfl |(simp [errW_none,errW_some] <;> rfl) |(simp [*,errW_none,errW_some] <;> rfl),by (with_reducible repeat (first |apply Kd.R_alloc |apply Kd.R_drewN |apply Kd.R_drew));exact Kd.R_mono (Kd.R_far (p:=⟨gb133,2,none⟩) (Kd.R_far (p:=⟨gb133,1,none⟩) (Kd.R_far (p:=⟨gb133,0,none⟩) (Kd.R_types HO_135000.out BK133.out (by decide)) (fun _ hk=>hk.2) (.slice Ao32 x135000_3.length co32)) (fun _ hk=>hk.2) (.slice none 0 0)) (fun _ hk=>hk.2) (.int .i64 (-1))) (fun _ hk=>trivial),by first |exact Kd.R_nil _ _ _ _ _ |exact Kd.N_nil _ _ _ _ _ |exact Kd.V_nil _ _ _ _ _ |exact Kd.Q_nil _ _ _ _ _ |exact Kd.S_nil _ _ _ _ _,by repeat (first |(with_reducible first |exact HB.out |apply below_alloc |apply pw_below_drewN |apply below_drew1 |refine below_set ?_ GE133.out |refine below_set ?_ GE134.out) |exact HB.out)⟩
end Go.Proofs.Ytjfmnkmgnbbfgaa.A
