/- Several texts of this claim in one: D1r, A83. -/
import Derived.Test.YtjfmnkmgnbbfgaaC1
import Derived.Test.YtjfmnkmgnbbfgaaA35
import Derived.Test.YtjfmnkmgnbbfgaaA0
set_option linter.unusedVariables false
set_option linter.unusedSimpArgs false
namespace Go.Proofs.Ytjfmnkmgnbbfgaa.A
open Go.RowKit Go.Proofs.YtjfmnkmgnbbfgaaW.PrintWords Go.Proofs.YtjfmnkmgnbbfgaaW.PrintLast Go.Proofs.YtjfmnkmgnbbfgaaW.PrintMore
theorem rcheck_l1 (l0:List ByteArray) (l:List S27) (a:Int) (hl:l.length≤140737488355000) (d:Nat):∀ k i,i + d=l.length→2 * d<k →
  hibernacleref15_Check.l1 k (i:Int) l0 l a=some (firstErr l0.length (l.drop i)):=by
 induction d with
 | zero=>
  intro k i hi hk
  obtain ⟨k,rfl⟩:∃ m,k=m + 1:=⟨k - 1,by omega⟩
  simp only [hibernacleref15_Check.l1]
  rw [if_neg (by omega),List.drop_of_length_le (by omega)]
  rfl
 | succ d ih=>
  intro k i hi hk
  obtain ⟨k,rfl⟩:∃ m,k=m + 1 + 1:=⟨k - 2,by omega⟩
  have hlt:i<l.length:=by omega
  have e:=ih k (i + 1) (by omega) (by omega)
  rw [List.drop_eq_getElem_cons hlt]
  simp only [hibernacleref15_Check.l1,hibernacleref15_Check.j2,firstErr]
  rw [if_pos (by omega),if_pos (by omega),rdTN l i hlt,wrapS (by omega)]
  rw [e]
  unfold lookV
  by_cases h1:l[i].f0<0
  ·simp [h1]
  ·by_cases h2:(l0.length:Int)≤l[i].f0
   ·simp [h1,h2]
   ·by_cases h3:(l[i].f1.size:Int)=128
    ·simp [h1,h2,h3,hlt]
    ·simp [h1,h2,h3,hlt]
theorem rcheck_l0 (l0:List ByteArray) (l:List S27) (a:Int) (h0:l0.length≤256) (hl:l.length≤140737488355000) (d:Nat):∀ k i,i + d=l0.length→d + 2 * l.length + 2<k →
  hibernacleref15_Check.l0 k (i:Int) l0 l a=some (if (l0.drop i).any (fun b=>!decide ((b.size:Int)=128)) then 3 else firstErr l0.length l):=by
 induction d with
 | zero=>
  intro k i hi hk
  obtain ⟨k,rfl⟩:∃ m,k=m + 1:=⟨k - 1,by omega⟩
  simp only [hibernacleref15_Check.l0]
  rw [if_neg (by omega),List.drop_of_length_le (by omega)]
  have:=rcheck_l1 l0 l a hl l.length k 0 (by omega) (by omega)
  simpa using this
 | succ d ih=>
  intro k i hi hk
  obtain ⟨k,rfl⟩:∃ m,k=m + 1:=⟨k - 1,by omega⟩
  have hlt:i<l0.length:=by omega
  have e:=ih k (i + 1) (by omega) (by omega)
  rw [List.drop_eq_getElem_cons hlt]
  simp only [hibernacleref15_Check.l0]
  rw [if_pos (by omega),if_pos (by omega),rdN l0 i hlt,wrapS (by omega),e,List.any_cons]
  by_cases h3:(l0[i].size:Int)=128
  ·rw [if_pos h3,decide_eq_true h3,Bool.not_true,Bool.false_or]
  ·rw [if_neg h3,decide_eq_false h3,Bool.not_false,Bool.true_or,if_pos rfl]
theorem rcheck_many (b:List ByteArray) (p:List S27) (a:Int) (hl:p.length≤1000) (k:Nat) (hk:b.length + 2 * p.length + 3<k):hibernacleref15_Check.f k b p a=some (checkV b p):=by
 unfold hibernacleref15_Check.f checkV
 by_cases h:(b.length:Int) > 256
 ·rw [if_pos h,if_pos (by omega)]
 ·rw [if_neg h,if_neg (by omega)]
  have:=rcheck_l0 b p a (by omega) (by omega) b.length k 0 (by omega) (by omega)
  simpa using this
end Go.Proofs.Ytjfmnkmgnbbfgaa.A
namespace Go.Proofs.Ytjfmnkmgnbbfgaa.A
open Go.RowKit Go.Proofs.YtjfmnkmgnbbfgaaW.PrintWords Go.Proofs.YtjfmnkmgnbbfgaaW.PrintLast Go.Proofs.YtjfmnkmgnbbfgaaW.PrintMore
attribute [local go_sem] max2_int min2_int max_two min_two max_three min_three max_four min_four   -- for this text's walks alone
set_option linter.unusedVariables false
set_option linter.unusedSimpArgs false
def hibernacleref15_less.f (l0_0:List ByteArray) (l0_1:List (S27)) (a0_2:Int):Option (List ByteArray × (List (S27)) × Int):=if a0_2 > 0 then (some (l0_0,l0_1,wrap64 (a0_2 - 1))) else (some (l0_0,l0_1,a0_2))
set_option maxHeartbeats 8000000 in
set_option maxRecDepth 100000 in
theorem hibernacleref15_less.calls (P0_0_:Nat→Prop) (A0_0:Option Addr) (c0_0:Nat) (l0_0:List ByteArray) (P0_1_:Nat→Prop) (A0_1:Option Addr) (c0_1:Nat) (l0_1:List (S27)) (a0_2:Int) (r1:List ByteArray) (r2:List (S27)) (r3:Int) (w:World) (hs0_0:Kd.V Kd.string 9 w w.heap.size (fun k_=>P0_0_ k_) (.slice A0_0 l0_0.length c0_0) l0_0) (hs0_1:Kd.V k27 27 w w.heap.size (fun k_=>P0_1_ k_) (.slice A0_1 l0_1.length c0_1) l0_1) (h:hibernacleref15_less.f l0_0 l0_1 a0_2=some (r1,r2,r3)) :
  Calls Try.prog 83 #[.agg #[.slice A0_0 l0_0.length c0_0,.slice A0_1 l0_1.length c0_1,.int .i64 a0_2]] w fun e w'=>∃ v0_ v1_:Value,e=.returned (.agg #[v0_,v1_,.int .i64 r3])∧Kd.V Kd.string 9 w' w.heap.size (fun k_=>((P0_0_ k_∨P0_1_ k_)∨w.heap.size≤k_)) v0_ r1∧Kd.V k27 27 w' w.heap.size (fun k_=>((P0_0_ k_∨P0_1_ k_)∨w.heap.size≤k_)) v1_ r2∧Below w.heap.size w w':=by
 have hu29:=Try.underlying29
 have HO0_0:=Aside0.mk (show Kd.V Kd.string 9 w w.heap.size (fun k_=>((P0_0_ k_∨P0_1_ k_)∨w.heap.size≤k_)) (.slice A0_0 l0_0.length c0_0) l0_0 from Kd.V_mono hs0_0 (fun k_ hk=>.inl (.inl hk)))
 have HO0_1:=Aside0.mk (show Kd.V k27 27 w w.heap.size (fun k_=>((P0_0_ k_∨P0_1_ k_)∨w.heap.size≤k_)) (.slice A0_1 l0_1.length c0_1) l0_1 from Kd.V_mono hs0_1 (fun k_ hk=>.inl (.inr hk)))
 have HB:=Aside0.mk (Below.refl w.heap.size w)
 have H:(if a0_2 > 0 then (some (l0_0,l0_1,wrap64 (a0_2 - 1))) else (some (l0_0,l0_1,a0_2)))=some (r1,r2,r3):=h
 clear h
 by_cases c2:a0_2 > 0
 ·rw [if_pos c2] at H
  have c2b0:decide (0<a0_2)=true:=decide_eq_true c2
  clear c2
  simp only [Option.some.injEq,Prod.mk.injEq] at H
  obtain ⟨rfl,rfl,rfl⟩:=H
  go_enter Try.func83,Try.ntmps83
  go_wp2_with (first |((with_reducible refine gate_dst (N:=1) rfl ?_);refine box_event ?hg (N:=1) ?hd (cs:=#[.slice A0_0 l0_0.length c0_0,.slice A0_1 l0_1.length c0_1,.int .i64 a0_2]) (t:=29) ?hr ?_;(case hd=>rfl);(case hg=>rfl);(case hr=>first |(go_simp;done) |(go_simp;rfl));intro gb284 hg w3 hbox hb;have n0_:=Aside0.mk (Kd.V_below (Kd.V_elderB (by (with_reducible repeat (first |apply Kd.V_alloc |apply Kd.V_drewN |apply Kd.V_drew));exact HO0_0.out) gb284 (Nat.le_of_eq hg.symm)) hb);have n1_:=Aside0.mk (Kd.V_below (Kd.V_elderB (by (with_reducible repeat (first |apply Kd.V_alloc |apply Kd.V_drewN |apply Kd.V_drew));exact HO0_1.out) gb284 (Nat.le_of_eq hg.symm)) hb);have n2_:=Aside0.mk (below_step (by repeat (first |(with_reducible first |exact HB.out |apply below_alloc |apply pw_below_drewN |apply below_drew1) |exact HB.out)) hb);have n3_:=Aside0.mk (hbox);have n4_:=Aside0.mk ((by rw [hg];exact (below_size (by repeat (first |(with_reducible first |exact HB.out |apply below_alloc |apply pw_below_drewN |apply below_drew1) |exact HB.out))):w.heap.size≤gb284));have n5_:=Aside0.mk ((by rw [hg];exact (below_size (by repeat (first |(with_reducible first |exact HB.out |apply below_alloc |apply pw_below_drewN |apply below_drew1) |exact HB.out))):w.heap.size≤gb284));clear HO0_0;clear HO0_1;clear HB;have HO0_0:=n0_;have HO0_1:=n1_;have HB:=n2_;have BK284:=n3_;have GW284:=n4_;have GE284:=n5_;clear n0_ n1_ n2_ n3_ n4_ n5_;clear hb hbox hg) |((with_reducible refine gate_dst (N:=2) rfl ?_);refine box_event ?hg (N:=2) ?hd (cs:=#[.slice none 0 0,.slice none 0 0,.int .i64 0]) (t:=29) ?hr ?_;(case hd=>rfl);(case hg=>rfl);(case hr=>first |(go_simp;done) |(go_simp;rfl));intro gb285 hg w4 hbox hb;have n0_:=Aside0.mk (Kd.V_below (Kd.V_elderB (by (with_reducible repeat (first |apply Kd.V_alloc |apply Kd.V_drewN |apply Kd.V_drew));exact HO0_0.out) gb285 (Nat.le_of_eq hg.symm)) hb);have n1_:=Aside0.mk (Kd.V_below (Kd.V_elderB (by (with_reducible repeat (first |apply Kd.V_alloc |apply Kd.V_drewN |apply Kd.V_drew));exact HO0_1.out) gb285 (Nat.le_of_eq hg.symm)) hb);have n2_:=Aside0.mk (blk_below (g:=gb284) (o:=.cells #[.slice A0_0 l0_0.length c0_0,.slice A0_1 l0_1.length c0_1,.int .i64 a0_2] 29 (0,0)) (by (with_reducible repeat (first |refine blk_drewN ?_ _ |refine blk_drew ?_ |refine blk_alloc ?_ _));exact BK284.out) hb);have n3_:=Aside0.mk (below_step (by repeat (first |(with_reducible first |exact HB.out |apply below_alloc |apply pw_below_drewN |apply below_drew1 |refine below_set ?_ GE284.out) |exact HB.out)) hb);have n4_:=Aside0.mk (hbox);have n5_:=Aside0.mk ((by rw [hg];exact (below_size (by repeat (first |(with_reducible first |exact HB.out |apply below_alloc |apply pw_below_drewN |apply below_drew1 |refine below_set ?_ GE284.out) |exact HB.out))):w.heap.size≤gb285));have n6_:=Aside0.mk ((by rw [hg];exact (below_size (by repeat (first |(with_reducible first |exact HB.out |apply below_alloc |apply pw_below_drewN |apply below_drew1 |refine below_set ?_ GE284.out) |exact HB.out))):w.heap.size≤gb285));have n7_:=Aside0.mk ((by rw [hg];exact Nat.ne_of_lt (blk_lt (g:=gb284) (o:=.cells #[.slice A0_0 l0_0.length c0_0,.slice A0_1 l0_1.length c0_1,.int .i64 a0_2] 29 (0,0)) (by (with_reducible repeat (first |refine blk_drewN ?_ _ |refine blk_drew ?_ |refine blk_alloc ?_ _));exact BK284.out)):gb284≠gb285));have n8_:=Aside0.mk ((by rw [hg];exact Nat.ne_of_gt (blk_lt (g:=gb284) (o:=.cells #[.slice A0_0 l0_0.length c0_0,.slice A0_1 l0_1.length c0_1,.int .i64 a0_2] 29 (0,0)) (by (with_reducible repeat (first |refine blk_drewN ?_ _ |refine blk_drew ?_ |refine blk_alloc ?_ _));exact BK284.out)):gb285≠gb284));clear HO0_0;clear HO0_1;clear BK284;clear HB;have HO0_0:=n0_;have HO0_1:=n1_;have BK284:=n2_;have HB:=n3_;have BK285:=n4_;have GW285:=n5_;have GE285:=n6_;have NB284_285:=n7_;have NB285_284:=n8_;clear n0_ n1_ n2_ n3_ n4_ n5_ n6_ n7_ n8_;clear hb hbox hg;have hnb5:=NB284_285.out;have hnc5:=NB285_284.out;have hcz6_0:w4.cell? ⟨gb284,0,none⟩=some (.slice A0_0 l0_0.length c0_0):=(blk_cell BK284.out 0).trans rfl;have hcz6_1:w4.cell? ⟨gb284,1,none⟩=some (.slice A0_1 l0_1.length c0_1):=(blk_cell BK284.out 1).trans rfl;have hcz6_2:w4.cell? ⟨gb284,2,none⟩=some (.int .i64 a0_2):=(blk_cell BK284.out 2).trans rfl;have hfz6_0:=blk_frozen BK284.out 0;have hfz6_1:=blk_frozen BK284.out 1;have hfz6_2:=blk_frozen BK284.out 2;have hcz7_0:w4.cell? ⟨gb285,0,none⟩=some (.slice none 0 0):=(blk_cell BK285.out 0).trans rfl;have hcz7_1:w4.cell? ⟨gb285,1,none⟩=some (.slice none 0 0):=(blk_cell BK285.out 1).trans rfl;have hcz7_2:w4.cell? ⟨gb285,2,none⟩=some (.int .i64 0):=(blk_cell BK285.out 2).trans rfl;have hfz7_0:=blk_frozen BK285.out 0;have hfz7_1:=blk_frozen BK285.out 1;have hfz7_2:=blk_frozen BK285.out 2))
  refine bodyPost_ret (results_cell_row rfl _ _ gb285 29 #[.slice A0_0 l0_0.length c0_0,.slice A0_1 l0_1.length c0_1,.int .i64 (wrap64 (a0_2 - 1))] (0,0) _ rfl (by (with_reducible repeat (first |refine blk_drewN ?_ _ |refine blk_drew ?_ |refine blk_alloc ?_ _));refine blk_put (cs:=#[.slice A0_0 l0_0.length c0_0,.slice A0_1 l0_1.length c0_1,.int .i64 0]) ?_ 2 _ rfl;(with_reducible repeat (first |refine blk_drewN ?_ _ |refine blk_drew ?_ |refine blk_alloc ?_ _));refine blk_put (cs:=#[.slice A0_0 l0_0.length c0_0,.slice none 0 0,.int .i64 0]) ?_ 1 _ rfl;(with_reducible repeat (first |refine blk_drewN ?_ _ |refine blk_drew ?_ |refine blk_alloc ?_ _));refine blk_put (cs:=#[.slice none 0 0,.slice none 0 0,.int .i64 0]) ?_ 0 _ rfl;(with_reducible repeat (first |refine blk_drewN ?_ _ |refine blk_drew ?_ |refine blk_alloc ?_ _));refine blk_far ?_ NB285_284.out _;(with_reducible repeat (first |refine blk_drewN ?_ _ |refine blk_drew ?_ |refine blk_alloc ?_ _));exact BK285.out) Try.underlying29 rfl (by kernel_rfl)) rfl ?_
  exact ⟨_,_,by first |rfl |(simp [errW_none,errW_some] <;> rfl) |(simp [*,errW_none,errW_some] <;> rfl),by (with_reducible repeat (first |apply Kd.V_alloc |apply Kd.V_drewN |apply Kd.V_drew));exact Kd.V_mono (Kd.V_far (p:=⟨gb285,2,none⟩) (Kd.V_far (p:=⟨gb285,1,none⟩) (Kd.V_far (p:=⟨gb285,0,none⟩) (Kd.V_far (p:=⟨gb284,2,none⟩) (Kd.V_mono (Kd.V_mono HO0_0.out (fun k_ hk=>(⟨hk,hk.1.2⟩:_∧k_≠gb284))) (fun k_ hk=>(⟨hk,hk.1.2⟩:_∧k_≠gb285))) (fun _ hk=>hk.1.2) (.int .i64 (wrap64 (a0_2 - 1)))) (fun _ hk=>hk.2) (.slice A0_0 l0_0.length c0_0)) (fun _ hk=>hk.2) (.slice A0_1 l0_1.length c0_1)) (fun _ hk=>hk.2) (.int .i64 (wrap64 (a0_2 - 1)))) (fun _ hk=>hk.1.1.1.1),by (with_reducible repeat (first |apply Kd.V_alloc |apply Kd.V_drewN |apply Kd.V_drew));exact Kd.V_mono (Kd.V_far (p:=⟨gb285,2,none⟩) (Kd.V_far (p:=⟨gb285,1,none⟩) (Kd.V_far (p:=⟨gb285,0,none⟩) (Kd.V_far (p:=⟨gb284,2,none⟩) (Kd.V_mono (Kd.V_mono HO0_1.out (fun k_ hk=>(⟨hk,hk.1.2⟩:_∧k_≠gb284))) (fun k_ hk=>(⟨hk,hk.1.2⟩:_∧k_≠gb285))) (fun _ hk=>hk.1.2) (.int .i64 (wrap64 (a0_2 - 1)))) (fun _ hk=>hk.2) (.slice A0_0 l0_0.length c0_0)) (fun _ hk=>hk.2) (.slice A0_1 l0_1.length c0_1)) (fun _ hk=>hk.2) (.int .i64 (wrap64 (a0_2 - 1)))) (fun _ hk=>hk.1.1.1.1),by repeat (first |(with_reducible first |exact HB.out |apply below_alloc |apply pw_below_drewN |apply below_drew1 |refine below_set ?_ GE284.out |refine below_set ?_ GE285.out) |exact HB.out)⟩
 ·rw [if_neg c2] at H
  have c2b0:decide (0<a0_2)=false:=decide_eq_false c2
  clear c2
  simp only [Option.some.injEq,Prod.mk.injEq] at H
  obtain ⟨rfl,rfl,rfl⟩:=H
  go_enter Try.func83,Try.ntmps83
  go_wp2_with (first |((with_reducible refine gate_dst (N:=1) rfl ?_);refine box_event ?hg (N:=1) ?hd (cs:=#[.slice A0_0 l0_0.length c0_0,.slice A0_1 l0_1.length c0_1,.int .i64 a0_2]) (t:=29) ?hr ?_;(case hd=>rfl);(case hg=>rfl);(case hr=>first |(go_simp;done) |(go_simp;rfl));intro gb284 hg w8 hbox hb;have n0_:=Aside0.mk (Kd.V_below (Kd.V_elderB (by (with_reducible repeat (first |apply Kd.V_alloc |apply Kd.V_drewN |apply Kd.V_drew));exact HO0_0.out) gb284 (Nat.le_of_eq hg.symm)) hb);have n1_:=Aside0.mk (Kd.V_below (Kd.V_elderB (by (with_reducible repeat (first |apply Kd.V_alloc |apply Kd.V_drewN |apply Kd.V_drew));exact HO0_1.out) gb284 (Nat.le_of_eq hg.symm)) hb);have n2_:=Aside0.mk (below_step (by repeat (first |(with_reducible first |exact HB.out |apply below_alloc |apply pw_below_drewN |apply below_drew1) |exact HB.out)) hb);have n3_:=Aside0.mk (hbox);have n4_:=Aside0.mk ((by rw [hg];exact (below_size (by repeat (first |(with_reducible first |exact HB.out |apply below_alloc |apply pw_below_drewN |apply below_drew1) |exact HB.out))):w.heap.size≤gb284));have n5_:=Aside0.mk ((by rw [hg];exact (below_size (by repeat (first |(with_reducible first |exact HB.out |apply below_alloc |apply pw_below_drewN |apply below_drew1) |exact HB.out))):w.heap.size≤gb284));clear HO0_0;clear HO0_1;clear HB;have HO0_0:=n0_;have HO0_1:=n1_;have HB:=n2_;have BK284:=n3_;have GW284:=n4_;have GE284:=n5_;clear n0_ n1_ n2_ n3_ n4_ n5_;clear hb hbox hg) |((with_reducible refine gate_dst (N:=2) rfl ?_);refine box_event ?hg (N:=2) ?hd (cs:=#[.slice none 0 0,.slice none 0 0,.int .i64 0]) (t:=29) ?hr ?_;(case hd=>rfl);(case hg=>rfl);(case hr=>first |(go_simp;done) |(go_simp;rfl));intro gb285 hg w9 hbox hb;have n0_:=Aside0.mk (Kd.V_below (Kd.V_elderB (by (with_reducible repeat (first |apply Kd.V_alloc |apply Kd.V_drewN |apply Kd.V_drew));exact HO0_0.out) gb285 (Nat.le_of_eq hg.symm)) hb);have n1_:=Aside0.mk (Kd.V_below (Kd.V_elderB (by (with_reducible repeat (first |apply Kd.V_alloc |apply Kd.V_drewN |apply Kd.V_drew));exact HO0_1.out) gb285 (Nat.le_of_eq hg.symm)) hb);have n2_:=Aside0.mk (blk_below (g:=gb284) (o:=.cells #[.slice A0_0 l0_0.length c0_0,.slice A0_1 l0_1.length c0_1,.int .i64 a0_2] 29 (0,0)) (by (with_reducible repeat (first |refine blk_drewN ?_ _ |refine blk_drew ?_ |refine blk_alloc ?_ _));exact BK284.out) hb);have n3_:=Aside0.mk (below_step (by repeat (first |(with_reducible first |exact HB.out |apply below_alloc |apply pw_below_drewN |apply below_drew1 |refine below_set ?_ GE284.out) |exact HB.out)) hb);have n4_:=Aside0.mk (hbox);have n5_:=Aside0.mk ((by rw [hg];exact (below_size (by repeat (first |(with_reducible first |exact HB.out |apply below_alloc |apply pw_below_drewN |apply below_drew1 |refine below_set ?_ GE284.out) |exact HB.out))):w.heap.size≤gb285));have n6_:=Aside0.mk ((by rw [hg];exact (below_size (by repeat (first |(with_reducible first |exact HB.out |apply below_alloc |apply pw_below_drewN |apply below_drew1 |refine below_set ?_ GE284.out) |exact HB.out))):w.heap.size≤gb285));have n7_:=Aside0.mk ((by rw [hg];exact Nat.ne_of_lt (blk_lt (g:=gb284) (o:=.cells #[.slice A0_0 l0_0.length c0_0,.slice A0_1 l0_1.length c0_1,.int .i64 a0_2] 29 (0,0)) (by (with_reducible repeat (first |refine blk_drewN ?_ _ |refine blk_drew ?_ |refine blk_alloc ?_ _));exact BK284.out)):gb284≠gb285));have n8_:=Aside0.mk ((by rw [hg];exact Nat.ne_of_gt (blk_lt (g:=gb284) (o:=.cells #[.slice A0_0 l0_0.length c0_0,.slice A0_1 l0_1.length c0_1,.int .i64 a0_2] 29 (0,0)) (by (with_reducible repeat (first |refine blk_drewN ?_ _ |refine blk_drew ?_ |refine blk_alloc ?_ _));exact BK284.out)):gb285≠gb284));clear HO0_0;clear HO0_1;clear BK284;clear HB;have HO0_0:=n0_;have HO0_1:=n1_;have BK284:=n2_;have HB:=n3_;have BK285:=n4_;have GW285:=n5_;have GE285:=n6_;have NB284_285:=n7_;have NB285_284:=n8_;clear n0_ n1_ n2_ n3_ n4_ n5_ n6_ n7_ n8_;clear hb hbox hg;have hnb10:=NB284_285.out;have hnc10:=NB285_284.out;have hcz11_0:w9.cell? ⟨gb284,0,none⟩=some (.slice A0_0 l0_0.length c0_0):=(blk_cell BK284.out 0).trans rfl;have hcz11_1:w9.cell? ⟨gb284,1,none⟩=some (.slice A0_1 l0_1.length c0_1):=(blk_cell BK284.out 1).trans rfl;have hcz11_2:w9.cell? ⟨gb284,2,none⟩=some (.int .i64 a0_2):=(blk_cell BK284.out 2).trans rfl;have hfz11_0:=blk_frozen BK284.out 0;have hfz11_1:=blk_frozen BK284.out 1;have hfz11_2:=blk_frozen BK284.out 2;have hcz12_0:w9.cell? ⟨gb285,0,none⟩=some (.slice none 0 0):=(blk_cell BK285.out 0).trans rfl;have hcz12_1:w9.cell? ⟨gb285,1,none⟩=some (.slice none 0 0):=(blk_cell BK285.out 1).trans rfl;have hcz12_2:w9.cell? ⟨gb285,2,none⟩=some (.int .i64 0):=(blk_cell BK285.out 2).trans rfl;have hfz12_0:=blk_frozen BK285.out 0;have hfz12_1:=blk_frozen BK285.out 1;have hfz12_2:=blk_frozen BK285.out 2))
  refine bodyPost_ret (results_cell_row rfl _ _ gb285 29 #[.slice A0_0 l0_0.length c0_0,.slice A0_1 l0_1.length c0_1,.int .i64 a0_2] (0,0) _ rfl (by (with_reducible repeat (first |refine blk_drewN ?_ _ |refine blk_drew ?_ |refine blk_alloc ?_ _));refine blk_put (cs:=#[.slice A0_0 l0_0.length c0_0,.slice A0_1 l0_1.length c0_1,.int .i64 0]) ?_ 2 _ rfl;(with_reducible repeat (first |refine blk_drewN ?_ _ |refine blk_drew ?_ |refine blk_alloc ?_ _));refine blk_put (cs:=#[.slice A0_0 l0_0.length c0_0,.slice none 0 0,.int .i64 0]) ?_ 1 _ rfl;(with_reducible repeat (first |refine blk_drewN ?_ _ |refine blk_drew ?_ |refine blk_alloc ?_ _));refine blk_put (cs:=#[.slice none 0 0,.slice none 0 0,.int .i64 0]) ?_ 0 _ rfl;(with_reducible repeat (first |refine blk_drewN ?_ _ |refine blk_drew ?_ |refine blk_alloc ?_ _));exact BK285.out) Try.underlying29 rfl (by kernel_rfl)) rfl ?_
  exact ⟨_,_,by first |rfl |(simp [errW_none,errW_some] <;> rfl) |(simp [*,errW_none,errW_some] <;> rfl),by (with_reducible repeat (first |apply Kd.V_alloc |apply Kd.V_drewN |apply Kd.V_drew));exact Kd.V_mono (Kd.V_far (p:=⟨gb285,2,none⟩) (Kd.V_far (p:=⟨gb285,1,none⟩) (Kd.V_far (p:=⟨gb285,0,none⟩) (Kd.V_mono HO0_0.out (fun k_ hk=>(⟨hk,hk.2⟩:_∧k_≠gb285))) (fun _ hk=>hk.2) (.slice A0_0 l0_0.length c0_0)) (fun _ hk=>hk.2) (.slice A0_1 l0_1.length c0_1)) (fun _ hk=>hk.2) (.int .i64 a0_2)) (fun _ hk=>hk.1.1.1),by (with_reducible repeat (first |apply Kd.V_alloc |apply Kd.V_drewN |apply Kd.V_drew));exact Kd.V_mono (Kd.V_far (p:=⟨gb285,2,none⟩) (Kd.V_far (p:=⟨gb285,1,none⟩) (Kd.V_far (p:=⟨gb285,0,none⟩) (Kd.V_mono HO0_1.out (fun k_ hk=>(⟨hk,hk.2⟩:_∧k_≠gb285))) (fun _ hk=>hk.2) (.slice A0_0 l0_0.length c0_0)) (fun _ hk=>hk.2) (.slice A0_1 l0_1.length c0_1)) (fun _ hk=>hk.2) (.int .i64 a0_2)) (fun _ hk=>hk.1.1.1),by repeat (first |(with_reducible first |exact HB.out |apply below_alloc |apply pw_below_drewN |apply below_drew1 |refine below_set ?_ GE284.out |refine below_set ?_ GE285.out) |exact HB.out)⟩
end Go.Proofs.Ytjfmnkmgnbbfgaa.A
