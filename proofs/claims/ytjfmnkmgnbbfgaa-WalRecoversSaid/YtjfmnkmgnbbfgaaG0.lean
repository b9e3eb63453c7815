/- Several texts of this claim in one: A72, G0. -/
import Derived.Test.YtjfmnkmgnbbfgaaA0
import Derived.Test.YtjfmnkmgnbbfgaaA35
import Derived.Test.YtjfmnkmgnbbfgaaR0
import Derived.Test.YtjfmnkmgnbbfgaaA83
import Derived.Test.YtjfmnkmgnbbfgaaD3r
import Derived.Test.YtjfmnkmgnbbfgaaA26
import Derived.Test.YtjfmnkmgnbbfgaaA44
namespace Go.Proofs.Ytjfmnkmgnbbfgaa.A
open Go.RowKit Go.Proofs.YtjfmnkmgnbbfgaaW.PrintWords Go.Proofs.YtjfmnkmgnbbfgaaW.PrintLast Go.Proofs.YtjfmnkmgnbbfgaaW.PrintMore
attribute [local go_sem] max2_int min2_int max_two min_two max_three min_three max_four min_four   -- for this text's walks alone
set_option linter.unusedVariables false
set_option linter.unusedSimpArgs false
def hibernacleref16_bad.f (k:Nat) (l0_0:List ByteArray) (l0_1:List (S27)) (a0_2:Int):Option (Int):=(hibernacleref15_Check.f k l0_0 l0_1 a0_2).bind fun t253=>(if t253=0 then (if (l0_0.length:Int)≤33 then (some 2) else (some 0)) else (some t253))
theorem hibernacleref16_bad.mono:∀ a0 a1 a2 k,LeO (hibernacleref16_bad.f k a0 a1 a2) (hibernacleref16_bad.f (k + 1) a0 a1 a2):=by
 intro a0 a1 a2 k
 unfold hibernacleref16_bad.f
 repeat' first
   | (with_reducible exact hibernacleref15_Check.mono _ _ _ _)
   | (with_reducible exact LeO.refl _)
   | (with_reducible exact LeO.none _)
   | (with_reducible refine LeO.ite ?_ ?_)
   | (with_reducible refine LeO.bind ?_ (fun _=>?_))
   | exact hibernacleref15_Check.mono _ _ _ _
   | exact LeO.none _
   | refine LeO.ite ?_ ?_
   | refine LeO.bind ?_ (fun _=>?_)
set_option maxHeartbeats 8000000 in
set_option maxRecDepth 100000 in
theorem hibernacleref16_bad.calls (k:Nat) (A0_0:Option Addr) (c0_0:Nat) (l0_0:List ByteArray) (A0_1:Option Addr) (c0_1:Nat) (l0_1:List (S27)) (a0_2:Int) (r:Int) (w:World) (hr0_0:Kd.C Kd.string w A0_0 l0_0.length l0_0) (hc0_0:l0_0.length≤c0_0) (hr0_1:Kd.C k27 w A0_1 l0_1.length l0_1) (hc0_1:l0_1.length≤c0_1) (h:hibernacleref16_bad.f k l0_0 l0_1 a0_2=some r) :
  Calls Try.prog 72 #[.agg #[.slice A0_0 l0_0.length c0_0,.slice A0_1 l0_1.length c0_1,.int .i64 a0_2]] w fun e w'=>e=.returned (.int .i64 r)∧Below w.heap.size w w':=by
 have hu29:=Try.underlying29
 have HR0_0:=Aside0.mk hr0_0
 have HC0_0:=Aside0.mk hc0_0
 clear hr0_0 hc0_0
 have HR0_1:=Aside0.mk hr0_1
 have HC0_1:=Aside0.mk hc0_1
 clear hr0_1 hc0_1
 have HB:=Aside0.mk (Below.refl w.heap.size w)
 have H:((hibernacleref15_Check.f k l0_0 l0_1 a0_2).bind fun t253=>(if t253=0 then (if (l0_0.length:Int)≤33 then (some 2) else (some 0)) else (some t253)))=some r:=h
 clear h
 replace H:=Option.bind_eq_some_iff.mp H
 obtain ⟨t253,A20,H⟩:=H
 replace H:(if t253=0 then (if (l0_0.length:Int)≤33 then (some 2) else (some 0)) else (some t253))=some r:=H
 have A2:=Aside0.mk A20
 clear A20
 by_cases c3:t253=0
 ·rw [if_pos c3] at H
  have c3b0:(t253 == 0)=true:=beq_iff_eq.mpr c3
  have c3b1:(t253 != 0)=false:=bne_eq_false_iff_eq.mpr c3
  clear c3
  by_cases c4:(l0_0.length:Int)≤33
  ·rw [if_pos c4] at H
   have c4b0:decide ((l0_0.length:Int)≤33)=true:=decide_eq_true c4
   have c4b1:decide (l0_0.length≤33)=true:=decide_eq_true (by omega)
   clear c4
   obtain rfl:=Option.some.inj H
   go_enter Try.func72,Try.ntmps72
   go_wp2_with (first |((with_reducible refine gate_dst (N:=1) rfl ?_);refine box_event ?hg (N:=1) ?hd (cs:=#[.slice A0_0 l0_0.length c0_0,.slice A0_1 l0_1.length c0_1,.int .i64 a0_2]) (t:=29) ?hr ?_;(case hd=>rfl);(case hg=>rfl);(case hr=>first |(go_simp;done) |(go_simp;rfl));intro gb252 hg w5 hbox hb;have n0_:=Aside0.mk (below_step (by repeat (first |(with_reducible first |exact HB.out |apply below_alloc |apply pw_below_drewN |apply below_drew1) |exact HB.out)) hb);have n1_:=Aside0.mk (hbox);have n2_:=Aside0.mk ((by rw [hg];exact (below_size (by repeat (first |(with_reducible first |exact HB.out |apply below_alloc |apply pw_below_drewN |apply below_drew1) |exact HB.out))):w.heap.size≤gb252));have n3_:=Aside0.mk ((by rw [hg];exact (below_size (by repeat (first |(with_reducible first |exact HB.out |apply below_alloc |apply pw_below_drewN |apply below_drew1) |exact HB.out))):w.heap.size≤gb252));clear HB;have HB:=n0_;have BK252:=n1_;have GW252:=n2_;have GE252:=n3_;clear n0_ n1_ n2_ n3_;clear hb hbox hg;have hcz6_0:w5.cell? ⟨gb252,0,none⟩=some (.slice A0_0 l0_0.length c0_0):=(blk_cell BK252.out 0).trans rfl;have hcz6_1:w5.cell? ⟨gb252,1,none⟩=some (.slice A0_1 l0_1.length c0_1):=(blk_cell BK252.out 1).trans rfl;have hcz6_2:w5.cell? ⟨gb252,2,none⟩=some (.int .i64 a0_2):=(blk_cell BK252.out 2).trans rfl;have hfz6_0:=blk_frozen BK252.out 0;have hfz6_1:=blk_frozen BK252.out 1;have hfz6_2:=blk_frozen BK252.out 2) |((with_reducible refine gate_callee (f:=35) rfl ?_);refine goesL_ (some 5) rfl rfl Try.func35 (by kernel_rfl) rfl #[.agg #[.slice A0_0 l0_0.length c0_0,.slice A0_1 l0_1.length c0_1,.int .i64 a0_2]] rfl (by (try simp only [List.map_toArray,List.map_cons,List.map_nil]);first |done |rfl |(simp only [List.length_drop,List.length_take];rfl)) ?_;(with_reducible refine (hibernacleref15_Check.calls k _ _ l0_0 _ _ l0_1 a0_2 t253 _ ?side1 ?side2 ?side3 ?side4 A2.out).mono ?_);(case side1=>repeat (first |exact (Kd.C_below HR0_0.out HB.out) |(with_reducible refine Kd.C_alloc ?_ _) |(with_reducible refine Kd.C_drewN ?_ _) |(with_reducible refine Kd.C_drew ?_)));(case side2=>exact HC0_0.out);(case side3=>repeat (first |exact (Kd.C_below HR0_1.out HB.out) |(with_reducible refine Kd.C_alloc ?_ _) |(with_reducible refine Kd.C_drewN ?_ _) |(with_reducible refine Kd.C_drew ?_)));(case side4=>exact HC0_1.out);rintro e w7 ⟨rfl,hb⟩;refine ⟨_,rfl, ?_⟩;have n0_:=Aside0.mk (blk_below (g:=gb252) (o:=.cells #[.slice A0_0 l0_0.length c0_0,.slice A0_1 l0_1.length c0_1,.int .i64 a0_2] 29 (0,0)) (by (with_reducible repeat (first |refine blk_drewN ?_ _ |refine blk_drew ?_ |refine blk_alloc ?_ _));exact BK252.out) hb);have n1_:=Aside0.mk (below_step (by repeat (first |(with_reducible first |exact HB.out |apply below_alloc |apply pw_below_drewN |apply below_drew1 |refine below_set ?_ GE252.out) |exact HB.out)) hb);clear BK252;clear HB;have BK252:=n0_;have HB:=n1_;clear n0_ n1_;(try clear hb);(try clear hb2);(try clear hk);(try clear hi);have hcz8_0:w7.cell? ⟨gb252,0,none⟩=some (.slice A0_0 l0_0.length c0_0):=(blk_cell BK252.out 0).trans rfl;have hcz8_1:w7.cell? ⟨gb252,1,none⟩=some (.slice A0_1 l0_1.length c0_1):=(blk_cell BK252.out 1).trans rfl;have hcz8_2:w7.cell? ⟨gb252,2,none⟩=some (.int .i64 a0_2):=(blk_cell BK252.out 2).trans rfl;have hfz8_0:=blk_frozen BK252.out 0;have hfz8_1:=blk_frozen BK252.out 1;have hfz8_2:=blk_frozen BK252.out 2))
   go_ret
   exact ⟨by first |rfl |(simp [errW_none,errW_some] <;> rfl) |(simp [*,errW_none,errW_some] <;> rfl),by repeat (first |(with_reducible first |exact HB.out |apply below_alloc |apply pw_below_drewN |apply below_drew1 |refine below_set ?_ GE252.out) |exact HB.out)⟩
  ·rw [if_neg c4] at H
   have c4b0:decide ((l0_0.length:Int)≤33)=false:=decide_eq_false c4
   have c4b1:decide (l0_0.length≤33)=false:=decide_eq_false (by omega)
   clear c4
   obtain rfl:=Option.some.inj H
   go_enter Try.func72,Try.ntmps72
   go_wp2_with (first |((with_reducible refine gate_dst (N:=1) rfl ?_);refine box_event ?hg (N:=1) ?hd (cs:=#[.slice A0_0 l0_0.length c0_0,.slice A0_1 l0_1.length c0_1,.int .i64 a0_2]) (t:=29) ?hr ?_;(case hd=>rfl);(case hg=>rfl);(case hr=>first |(go_simp;done) |(go_simp;rfl));intro gb252 hg w9 hbox hb;have n0_:=Aside0.mk (below_step (by repeat (first |(with_reducible first |exact HB.out |apply below_alloc |apply pw_below_drewN |apply below_drew1) |exact HB.out)) hb);have n1_:=Aside0.mk (hbox);have n2_:=Aside0.mk ((by rw [hg];exact (below_size (by repeat (first |(with_reducible first |exact HB.out |apply below_alloc |apply pw_below_drewN |apply below_drew1) |exact HB.out))):w.heap.size≤gb252));have n3_:=Aside0.mk ((by rw [hg];exact (below_size (by repeat (first |(with_reducible first |exact HB.out |apply below_alloc |apply pw_below_drewN |apply below_drew1) |exact HB.out))):w.heap.size≤gb252));clear HB;have HB:=n0_;have BK252:=n1_;have GW252:=n2_;have GE252:=n3_;clear n0_ n1_ n2_ n3_;clear hb hbox hg;have hcz10_0:w9.cell? ⟨gb252,0,none⟩=some (.slice A0_0 l0_0.length c0_0):=(blk_cell BK252.out 0).trans rfl;have hcz10_1:w9.cell? ⟨gb252,1,none⟩=some (.slice A0_1 l0_1.length c0_1):=(blk_cell BK252.out 1).trans rfl;have hcz10_2:w9.cell? ⟨gb252,2,none⟩=some (.int .i64 a0_2):=(blk_cell BK252.out 2).trans rfl;have hfz10_0:=blk_frozen BK252.out 0;have hfz10_1:=blk_frozen BK252.out 1;have hfz10_2:=blk_frozen BK252.out 2) |((with_reducible refine gate_callee (f:=35) rfl ?_);refine goesL_ (some 5) rfl rfl Try.func35 (by kernel_rfl) rfl #[.agg #[.slice A0_0 l0_0.length c0_0,.slice A0_1 l0_1.length c0_1,.int .i64 a0_2]] rfl (by (try simp only [List.map_toArray,List.map_cons,List.map_nil]);first |done |rfl |(simp only [List.length_drop,List.length_take];rfl)) ?_;(with_reducible refine (hibernacleref15_Check.calls k _ _ l0_0 _ _ l0_1 a0_2 t253 _ ?side1 ?side2 ?side3 ?side4 A2.out).mono ?_);(case side1=>repeat (first |exact (Kd.C_below HR0_0.out HB.out) |(with_reducible refine Kd.C_alloc ?_ _) |(with_reducible refine Kd.C_drewN ?_ _) |(with_reducible refine Kd.C_drew ?_)));(case side2=>exact HC0_0.out);(case side3=>repeat (first |exact (Kd.C_below HR0_1.out HB.out) |(with_reducible refine Kd.C_alloc ?_ _) |(with_reducible refine Kd.C_drewN ?_ _) |(with_reducible refine Kd.C_drew ?_)));(case side4=>exact HC0_1.out);rintro e w11 ⟨rfl,hb⟩;refine ⟨_,rfl, ?_⟩;have n0_:=Aside0.mk (blk_below (g:=gb252) (o:=.cells #[.slice A0_0 l0_0.length c0_0,.slice A0_1 l0_1.length c0_1,.int .i64 a0_2] 29 (0,0)) (by (with_reducible repeat (first |refine blk_drewN ?_ _ |refine blk_drew ?_ |refine blk_alloc ?_ _));exact BK252.out) hb);have n1_:=Aside0.mk (below_step (by repeat (first |(with_reducible first |exact HB.out |apply below_alloc |apply pw_below_drewN |apply below_drew1 |refine below_set ?_ GE252.out) |exact HB.out)) hb);clear BK252;clear HB;have BK252:=n0_;have HB:=n1_;clear n0_ n1_;(try clear hb);(try clear hb2);(try clear hk);(try clear hi);have hcz12_0:w11.cell? ⟨gb252,0,none⟩=some (.slice A0_0 l0_0.length c0_0):=(blk_cell BK252.out 0).trans rfl;have hcz12_1:w11.cell? ⟨gb252,1,none⟩=some (.slice A0_1 l0_1.length c0_1):=(blk_cell BK252.out 1).trans rfl;have hcz12_2:w11.cell? ⟨gb252,2,none⟩=some (.int .i64 a0_2):=(blk_cell BK252.out 2).trans rfl;have hfz12_0:=blk_frozen BK252.out 0;have hfz12_1:=blk_frozen BK252.out 1;have hfz12_2:=blk_frozen BK252.out 2))
   go_ret
   exact ⟨by first |rfl |(simp [errW_none,errW_some] <;> rfl) |(simp [*,errW_none,errW_some] <;> rfl),by repeat (first |(with_reducible first |exact HB.out |apply below_alloc |apply pw_below_drewN |apply below_drew1 |refine below_set ?_ GE252.out) |exact HB.out)⟩
 ·rw [if_neg c3] at H
  have c3b0:(t253 == 0)=false:=beq_eq_false_iff_ne.mpr c3
  have c3b1:(t253 != 0)=true:=bne_iff_ne.mpr c3
  obtain rfl:=Option.some.inj H
  go_enter Try.func72,Try.ntmps72
  go_wp2_with (first |((with_reducible refine gate_dst (N:=1) rfl ?_);refine box_event ?hg (N:=1) ?hd (cs:=#[.slice A0_0 l0_0.length c0_0,.slice A0_1 l0_1.length c0_1,.int .i64 a0_2]) (t:=29) ?hr ?_;(case hd=>rfl);(case hg=>rfl);(case hr=>first |(go_simp;done) |(go_simp;rfl));intro gb252 hg w13 hbox hb;have n0_:=Aside0.mk (below_step (by repeat (first |(with_reducible first |exact HB.out |apply below_alloc |apply pw_below_drewN |apply below_drew1) |exact HB.out)) hb);have n1_:=Aside0.mk (hbox);have n2_:=Aside0.mk ((by rw [hg];exact (below_size (by repeat (first |(with_reducible first |exact HB.out |apply below_alloc |apply pw_below_drewN |apply below_drew1) |exact HB.out))):w.heap.size≤gb252));have n3_:=Aside0.mk ((by rw [hg];exact (below_size (by repeat (first |(with_reducible first |exact HB.out |apply below_alloc |apply pw_below_drewN |apply below_drew1) |exact HB.out))):w.heap.size≤gb252));clear HB;have HB:=n0_;have BK252:=n1_;have GW252:=n2_;have GE252:=n3_;clear n0_ n1_ n2_ n3_;clear hb hbox hg;have hcz14_0:w13.cell? ⟨gb252,0,none⟩=some (.slice A0_0 l0_0.length c0_0):=(blk_cell BK252.out 0).trans rfl;have hcz14_1:w13.cell? ⟨gb252,1,none⟩=some (.slice A0_1 l0_1.length c0_1):=(blk_cell BK252.out 1).trans rfl;have hcz14_2:w13.cell? ⟨gb252,2,none⟩=some (.int .i64 a0_2):=(blk_cell BK252.out 2).trans rfl;have hfz14_0:=blk_frozen BK252.out 0;have hfz14_1:=blk_frozen BK252.out 1;have hfz14_2:=blk_frozen BK252.out 2) |((with_reducible refine gate_callee (f:=35) rfl ?_);refine goesL_ (some 5) rfl rfl Try.func35 (by kernel_rfl) rfl #[.agg #[.slice A0_0 l0_0.length c0_0,.slice A0_1 l0_1.length c0_1,.int .i64 a0_2]] rfl (by (try simp only [List.map_toArray,List.map_cons,List.map_nil]);first |done |rfl |(simp only [List.length_drop,List.length_take];rfl)) ?_;(with_reducible refine (hibernacleref15_Check.calls k _ _ l0_0 _ _ l0_1 a0_2 t253 _ ?side1 ?side2 ?side3 ?side4 A2.out).mono ?_);(case side1=>repeat (first |exact (Kd.C_below HR0_0.out HB.out) |(with_reducible refine Kd.C_alloc ?_ _) |(with_reducible refine Kd.C_drewN ?_ _) |(with_reducible refine Kd.C_drew ?_)));(case side2=>exact HC0_0.out);(case side3=>repeat (first |exact (Kd.C_below HR0_1.out HB.out) |(with_reducible refine Kd.C_alloc ?_ _) |(with_reducible refine Kd.C_drewN ?_ _) |(with_reducible refine Kd.C_drew ?_)));(case side4=>exact HC0_1.out);rintro e w15 ⟨rfl,hb⟩;refine ⟨_,rfl, ?_⟩;have n0_:=Aside0.mk (blk_below (g:=gb252) (o:=.cells #[.slice A0_0 l0_0.length c0_0,.slice A0_1 l0_1.length c0_1,.int .i64 a0_2] 29 (0,0)) (by (with_reducible repeat (first |refine blk_drewN ?_ _ |refine blk_drew ?_ |refine blk_alloc ?_ _));exact BK252.out) hb);have n1_:=Aside0.mk (below_step (by repeat (first |(with_reducible first |exact HB.out |apply below_alloc |apply pw_below_drewN |apply below_drew1 |refine below_set ?_ GE252.out) |exact HB.out)) hb);clear BK252;clear HB;have BK252:=n0_;have HB:=n1_;clear n0_ n1_;(try clear hb);(try clear hb2);(try clear hk);(try clear hi)))
  go_ret
  exact ⟨by first |rfl |(simp [errW_none,errW_some] <;> rfl) |(simp [*,errW_none,errW_some] <;> rfl),by repeat (first |(with_reducible first |exact HB.out |apply below_alloc |apply pw_below_drewN |apply below_drew1 |refine below_set ?_ GE252.out) |exact HB.out)⟩
end Go.Proofs.Ytjfmnkmgnbbfgaa.A
set_option linter.unusedVariables false
set_option linter.unusedSimpArgs false
namespace Go.Proofs.Ytjfmnkmgnbbfgaa.A
open Go.RowKit Go.Proofs.YtjfmnkmgnbbfgaaW.PrintWords Go.Proofs.YtjfmnkmgnbbfgaaW.PrintLast Go.Proofs.YtjfmnkmgnbbfgaaW.PrintMore
theorem rbad_some (b:List ByteArray) (p:List S27) (a:Int) (hl:p.length≤1000) (k:Nat) (hk:b.length + 2 * p.length + 3<k):hibernacleref16_bad.f k b p a=some (badV b p):=by
 unfold hibernacleref16_bad.f badV
 rw [rcheck_many b p a hl k hk,Option.bind_some]
 by_cases h:checkV b p=0
 ·rw [if_pos h,if_pos h]
  by_cases h2:b.length≤33
  ·rw [if_pos h2,if_pos (by omega)]
  ·rw [if_neg h2,if_neg (by omega)]
 ·rw [if_neg h,if_neg h]
theorem great16_l1 (b:List ByteArray) (p:List S27) (a:Int) (hp:p.length≤60) (d:Nat):∀ k i,i + d=p.length→d<k →
  ∃ v,hibernacleref16_Great.l1 k (p.length:Int) (i:Int) b p a=some v∧(v=1∨v=0):=by
 induction d with
 | zero=>
  intro k i hi hk
  obtain ⟨k,rfl⟩:∃ m,k=m + 1:=⟨k - 1,by omega⟩
  simp only [hibernacleref16_Great.l1]
  rw [if_neg (by omega)]
  exact ⟨0,rfl,.inr rfl⟩
 | succ d ih=>
  intro k i hi hk
  obtain ⟨k,rfl⟩:∃ m,k=m + 1:=⟨k - 1,by omega⟩
  simp only [hibernacleref16_Great.l1]
  rw [if_pos (by omega),if_pos (by omega),if_pos (by omega),wrapS (by omega)]
  split
  ·exact ⟨1,rfl,.inl rfl⟩
  ·exact ih k (i + 1) (by omega) (by omega)
theorem great16_l0 (b:List ByteArray) (p:List S27) (a:Int) (hb:b.length≤80) (hp:p.length≤60) (d:Nat):∀ k i,i + d=b.length→d + 62<k →
  ∃ v,hibernacleref16_Great.l0 k (b.length:Int) (i:Int) b p a=some v∧(v=1∨v=0):=by
 induction d with
 | zero=>
  intro k i hi hk
  obtain ⟨k,rfl⟩:∃ m,k=m + 1:=⟨k - 1,by omega⟩
  simp only [hibernacleref16_Great.l0]
  rw [if_neg (by omega)]
  exact great16_l1 b p a hp p.length k 0 (by omega) (by omega)
 | succ d ih=>
  intro k i hi hk
  obtain ⟨k,rfl⟩:∃ m,k=m + 1:=⟨k - 1,by omega⟩
  simp only [hibernacleref16_Great.l0]
  rw [if_pos (by omega),if_pos (by omega),if_pos (by omega),wrapS (by omega)]
  split
  ·exact ⟨1,rfl,.inl rfl⟩
  ·exact ih k (i + 1) (by omega) (by omega)
theorem great16_some (b:List ByteArray) (p:List S27) (a:Int) (k:Nat) (hk:200<k):∃ v,hibernacleref16_Great.f k b p a=some v∧(v=1∨v=0∧b.length≤80∧p.length≤60):=by
 obtain ⟨k,rfl⟩:∃ m,k=m + 1:=⟨k - 1,by omega⟩
 unfold hibernacleref16_Great.f
 by_cases h1:(b.length:Int) > 80
 ·rw [if_pos h1]
  exact ⟨1,by simp only [hibernacleref16_Great.j0,if_true],.inl rfl⟩
 ·rw [if_neg h1]
  by_cases h2:(p.length:Int) > 60
  ·rw [decide_eq_true h2]
   exact ⟨1,by simp only [hibernacleref16_Great.j0,if_true],.inl rfl⟩
  ·rw [decide_eq_false h2]
   simp only [hibernacleref16_Great.j0,Bool.false_eq_true,if_false]
   obtain ⟨v,hv,hz⟩:=great16_l0 b p a (by omega) (by omega) b.length k 0 (by omega) (by omega)
   exact ⟨v,hv,hz.imp id (fun h=>⟨h,by omega,by omega⟩)⟩
end Go.Proofs.Ytjfmnkmgnbbfgaa.A
