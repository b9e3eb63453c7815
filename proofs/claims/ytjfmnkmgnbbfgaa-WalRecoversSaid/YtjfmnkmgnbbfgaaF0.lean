/- Several texts of this claim in one: A25, F0. -/
import Derived.Test.YtjfmnkmgnbbfgaaA0
import Derived.Test.YtjfmnkmgnbbfgaaA65
import Derived.Test.YtjfmnkmgnbbfgaaXget
import Derived.Test.YtjfmnkmgnbbfgaaC4
import Derived.Test.YtjfmnkmgnbbfgaaA22
import Derived.Test.YtjfmnkmgnbbfgaaAeq27
import Derived.Test.YtjfmnkmgnbbfgaaA29
namespace Go.Proofs.Ytjfmnkmgnbbfgaa.A
open Go.RowKit Go.Proofs.YtjfmnkmgnbbfgaaW.PrintWords Go.Proofs.YtjfmnkmgnbbfgaaW.PrintLast Go.Proofs.YtjfmnkmgnbbfgaaW.PrintMore
attribute [local go_sem] max2_int min2_int max_two min_two max_three min_three max_four min_four   -- for this text's walks alone
set_option linter.unusedVariables false
set_option linter.unusedSimpArgs false
def wal_Home.l0:Nat→List ByteArray→Int→List ByteArray→List (S27)→Int→Option (List ByteArray)
 | 0,_,_,_,_,_=>none
 | k + 1,x3,x4,x169000,x169001,x169002=>if x4<(x169000.length:Int) then ((drive_Get.f x169000 x169001 x169002 x4).bind fun bt170=>(if x3.length<8796093022208 then (wal_Home.l0 k (x3 ++ [bt170.1]) (wrap64 (x4 + 1)) x169000 x169001 x169002) else (none))) else (some x3)
def wal_Home.f (k:Nat) (l0_0:List ByteArray) (l0_1:List (S27)) (a0_2:Int):Option (List ByteArray):=(wal_bad.f l0_0 l0_1 a0_2).bind fun t169=>(if t169=0 then (wal_Home.l0 k ([]:List ByteArray) 33 l0_0 l0_1 a0_2) else (some ([]:List ByteArray)))
theorem wal_Home.mono_l:∀ k,(∀ y0 y1 y2 y3 y4,LeO (wal_Home.l0 k y0 y1 y2 y3 y4) (wal_Home.l0 (k + 1) y0 y1 y2 y3 y4))
 | 0=>fun _ _ _ _ _ r h=>by simp [wal_Home.l0] at h
 | k + 1=>by
  have ih0:=wal_Home.mono_l k
  ·intro y0 y1 y2 y3 y4
   unfold wal_Home.l0
   repeat' first
   | (with_reducible exact ih0 _ _ _ _ _)
   | (with_reducible exact LeO.refl _)
   | (with_reducible exact LeO.none _)
   | (with_reducible refine LeO.ite ?_ ?_)
   | (with_reducible refine LeO.bind ?_ (fun _=>?_))
   | exact ih0 _ _ _ _ _
   | exact LeO.none _
   | refine LeO.ite ?_ ?_
   | refine LeO.bind ?_ (fun _=>?_)
theorem wal_Home.mono:∀ a0 a1 a2 k,LeO (wal_Home.f k a0 a1 a2) (wal_Home.f (k + 1) a0 a1 a2):=by
 intro a0 a1 a2 k
 have ih0:=wal_Home.mono_l k
 unfold wal_Home.f
 repeat' first
   | (with_reducible exact ih0 _ _ _ _ _)
   | (with_reducible exact LeO.refl _)
   | (with_reducible exact LeO.none _)
   | (with_reducible refine LeO.ite ?_ ?_)
   | (with_reducible refine LeO.bind ?_ (fun _=>?_))
   | exact ih0 _ _ _ _ _
   | exact LeO.none _
   | refine LeO.ite ?_ ?_
   | refine LeO.bind ?_ (fun _=>?_)
set_option maxHeartbeats 8000000 in
set_option maxRecDepth 100000 in
theorem wal_Home.calls (k:Nat) (A0_0:Option Addr) (c0_0:Nat) (l0_0:List ByteArray) (A0_1:Option Addr) (c0_1:Nat) (l0_1:List (S27)) (a0_2:Int) (r:List ByteArray) (w:World) (hr0_0:Kd.C Kd.string w A0_0 l0_0.length l0_0) (hc0_0:l0_0.length≤c0_0) (hr0_1:Kd.C k27 w A0_1 l0_1.length l0_1) (hc0_1:l0_1.length≤c0_1) (h:wal_Home.f k l0_0 l0_1 a0_2=some r) :
  Calls Try.prog 25 #[.agg #[.slice A0_0 l0_0.length c0_0,.slice A0_1 l0_1.length c0_1,.int .i64 a0_2]] w fun e w'=>∃ v0_:Value,e=.returned (v0_)∧Kd.R Kd.string 9 w' w.heap.size (fun _=>True) v0_ r∧Below w.heap.size w w':=by
 have hu29:=Try.underlying29
 have HR0_0:=Aside0.mk hr0_0
 have HC0_0:=Aside0.mk hc0_0
 clear hr0_0 hc0_0
 have HR0_1:=Aside0.mk hr0_1
 have HC0_1:=Aside0.mk hc0_1
 clear hr0_1 hc0_1
 have HB:=Aside0.mk (Below.refl w.heap.size w)
 have H:((wal_bad.f l0_0 l0_1 a0_2).bind fun t169=>(if t169=0 then (wal_Home.l0 k ([]:List ByteArray) 33 l0_0 l0_1 a0_2) else (some ([]:List ByteArray))))=some r:=h
 clear h
 replace H:=Option.bind_eq_some_iff.mp H
 obtain ⟨t169,A20,H⟩:=H
 replace H:(if t169=0 then (wal_Home.l0 k ([]:List ByteArray) 33 l0_0 l0_1 a0_2) else (some ([]:List ByteArray)))=some r:=H
 have A2:=Aside0.mk A20
 clear A20
 by_cases c3:t169=0
 ·rw [if_pos c3] at H
  have c3b0:(t169 == 0)=true:=beq_iff_eq.mpr c3
  have c3b1:(t169 != 0)=false:=bne_eq_false_iff_eq.mpr c3
  clear c3
  have H':=Aside0.mk H
  clear H
  go_enter Try.func25,Try.ntmps25
  go_wp2_with (first |((with_reducible refine gate_dst (N:=1) rfl ?_);refine box_event ?hg (N:=1) ?hd (cs:=#[.slice A0_0 l0_0.length c0_0,.slice A0_1 l0_1.length c0_1,.int .i64 a0_2]) (t:=29) ?hr ?_;(case hd=>rfl);(case hg=>rfl);(case hr=>first |(go_simp;done) |(go_simp;rfl));intro gb168 hg w4 hbox hb;have n0_:=Aside0.mk (below_step (by repeat (first |(with_reducible first |exact HB.out |apply below_alloc |apply pw_below_drewN |apply below_drew1) |exact HB.out)) hb);have n1_:=Aside0.mk (hbox);have n2_:=Aside0.mk ((by rw [hg];exact (below_size (by repeat (first |(with_reducible first |exact HB.out |apply below_alloc |apply pw_below_drewN |apply below_drew1) |exact HB.out))):w.heap.size≤gb168));have n3_:=Aside0.mk ((by rw [hg];exact (below_size (by repeat (first |(with_reducible first |exact HB.out |apply below_alloc |apply pw_below_drewN |apply below_drew1) |exact HB.out))):w.heap.size≤gb168));clear HB;have HB:=n0_;have BK168:=n1_;have GW168:=n2_;have GE168:=n3_;clear n0_ n1_ n2_ n3_;clear hb hbox hg;have hcz5_0:w4.cell? ⟨gb168,0,none⟩=some (.slice A0_0 l0_0.length c0_0):=(blk_cell BK168.out 0).trans rfl;have hcz5_1:w4.cell? ⟨gb168,1,none⟩=some (.slice A0_1 l0_1.length c0_1):=(blk_cell BK168.out 1).trans rfl;have hcz5_2:w4.cell? ⟨gb168,2,none⟩=some (.int .i64 a0_2):=(blk_cell BK168.out 2).trans rfl;have hfz5_0:=blk_frozen BK168.out 0;have hfz5_1:=blk_frozen BK168.out 1;have hfz5_2:=blk_frozen BK168.out 2) |((with_reducible refine gate_callee (f:=65) rfl ?_);refine goesL_ (some 8) rfl rfl Try.func65 (by kernel_rfl) rfl #[.agg #[.slice A0_0 l0_0.length c0_0,.slice A0_1 l0_1.length c0_1,.int .i64 a0_2]] rfl (by (try simp only [List.map_toArray,List.map_cons,List.map_nil]);first |done |rfl |(simp only [List.length_drop,List.length_take];rfl)) ?_;(with_reducible refine (wal_bad.calls _ _ l0_0 _ _ l0_1 a0_2 t169 _ ?side1 ?side2 ?side3 ?side4 A2.out).mono ?_);(case side1=>repeat (first |exact (Kd.C_below HR0_0.out HB.out) |(with_reducible refine Kd.C_alloc ?_ _) |(with_reducible refine Kd.C_drewN ?_ _) |(with_reducible refine Kd.C_drew ?_)));(case side2=>exact HC0_0.out);(case side3=>repeat (first |exact (Kd.C_below HR0_1.out HB.out) |(with_reducible refine Kd.C_alloc ?_ _) |(with_reducible refine Kd.C_drewN ?_ _) |(with_reducible refine Kd.C_drew ?_)));(case side4=>exact HC0_1.out);rintro e w6 ⟨rfl,hb⟩;refine ⟨_,rfl, ?_⟩;have n0_:=Aside0.mk (blk_below (g:=gb168) (o:=.cells #[.slice A0_0 l0_0.length c0_0,.slice A0_1 l0_1.length c0_1,.int .i64 a0_2] 29 (0,0)) (by (with_reducible repeat (first |refine blk_drewN ?_ _ |refine blk_drew ?_ |refine blk_alloc ?_ _));exact BK168.out) hb);have n1_:=Aside0.mk (below_step (by repeat (first |(with_reducible first |exact HB.out |apply below_alloc |apply pw_below_drewN |apply below_drew1 |refine below_set ?_ GE168.out) |exact HB.out)) hb);clear BK168;clear HB;have BK168:=n0_;have HB:=n1_;clear n0_ n1_;(try clear hb);(try clear hb2);(try clear hk);(try clear hi)))
  go_loopg [3,4] k (fun kq v3 v4 w'=>∃ (x3_1:List ByteArray) (x4_1:Int),v4=.int .i64 x4_1∧Aside0 (wal_Home.l0 kq x3_1 x4_1 l0_0 l0_1 a0_2=some r)∧Aside0 (kq≤k)∧Aside0 (Kd.R Kd.string 9 w' w.heap.size (fun _=>True) v3 x3_1)∧Aside0 (w'.heap[gb168]?=some (.cells #[(.slice A0_0 l0_0.length c0_0),(.slice A0_1 l0_1.length c0_1),.int .i64 a0_2] 29 (0,0)))∧Aside0 (Below w.heap.size w w'))
  case atStart=>exact ⟨(([]:List ByteArray)),(33),(by first |rfl |(simp;done) |(simp [*];done)),H',⟨Nat.le_refl _⟩,⟨by first |exact Kd.R_nil _ _ _ _ _ |exact Kd.N_nil _ _ _ _ _ |exact Kd.V_nil _ _ _ _ _ |exact Kd.Q_nil _ _ _ _ _ |exact Kd.S_nil _ _ _ _ _⟩,⟨by (with_reducible repeat (first |refine blk_drewN ?_ _ |refine blk_drew ?_ |refine blk_alloc ?_ _));exact BK168.out⟩,⟨by repeat (first |(with_reducible first |exact HB.out |apply below_alloc |apply pw_below_drewN |apply below_drew1 |refine below_set ?_ GE168.out) |exact HB.out)⟩⟩
  case round=>
   clear H'
   try clear c2
   try clear p2
   try clear c3
   try clear c3b0
   try clear c3b1
   try clear c6
   try clear hcz5_0
   try clear hcz5_1
   try clear hcz5_2
   try clear hfz5_0
   try clear hfz5_1
   try clear hfz5_2
   obtain ⟨x3_1,x4_1,rfl,HA,HK1,HO_3,BK168,HB⟩:=hrel
   cases gk with
   | zero=>exact absurd HA.out (by simp [wal_Home.l0])
   | succ k1=>
    have H:=HA.out
    clear HA
    simp only [wal_Home.l0] at H
    by_cases c7:x4_1<(l0_0.length:Int)
    ·rw [if_pos c7] at H
     have c7b0:decide (x4_1<(l0_0.length:Int))=true:=decide_eq_true c7
     clear c7
     replace H:=Option.bind_eq_some_iff.mp H
     obtain ⟨⟨t170,t171⟩,A80,H⟩:=H
     replace H:(if x3_1.length<8796093022208 then (wal_Home.l0 k1 (x3_1 ++ [t170]) (wrap64 (x4_1 + 1)) l0_0 l0_1 a0_2) else (none))=some r:=H
     have A8:=Aside0.mk A80
     clear A80
     by_cases c9:x3_1.length<8796093022208
     ·rw [if_pos c9] at H
      have LMc9:=Aside0.mk c9
      clear c9
      obtain ⟨y172,hy172⟩:∃ y_:List ByteArray,y_=(x3_1 ++ [t170]):=⟨_,rfl⟩
      replace H:(wal_Home.l0 k1 y172 (wrap64 (x4_1 + 1)) l0_0 l0_1 a0_2)=some r:=by first |(rw [hy172];with_reducible exact H) |(have H2_:=(Option.bind_some _ _).symm.trans H;rw [hy172];with_reducible exact H2_) |(have H2_:=(Option.bind_some _ _).symm.trans H;with_reducible exact H2_) |with_reducible exact H |(rw [hy172];exact H) |exact H
      have Ny172:=Aside0.mk hy172
      clear hy172
      have H':=Aside0.mk H
      clear H
      have hcz10_0:wr.cell? ⟨gb168,0,none⟩=some (.slice A0_0 l0_0.length c0_0):=(blk_cell BK168.out 0).trans rfl
      have hcz10_1:wr.cell? ⟨gb168,1,none⟩=some (.slice A0_1 l0_1.length c0_1):=(blk_cell BK168.out 1).trans rfl
      have hcz10_2:wr.cell? ⟨gb168,2,none⟩=some (.int .i64 a0_2):=(blk_cell BK168.out 2).trans rfl
      have hfz10_0:=blk_frozen BK168.out 0
      have hfz10_1:=blk_frozen BK168.out 1
      have hfz10_2:=blk_frozen BK168.out 2
      go_wp2_with (first |((with_reducible refine gate_callee (f:=43) rfl ?_);refine goesL_ (some 20) rfl rfl Try.func43 (by kernel_rfl) rfl #[.agg #[.slice A0_0 l0_0.length c0_0,.slice A0_1 l0_1.length c0_1,.int .i64 a0_2],.int .i64 x4_1] rfl (by (try simp only [List.map_toArray,List.map_cons,List.map_nil]);first |done |rfl |(simp only [List.length_drop,List.length_take];rfl)) ?_;(with_reducible refine (drive_Get.calls _ _ l0_0 _ _ l0_1 a0_2 x4_1 t170 t171 _ ?side1 ?side2 ?side3 ?side4 A8.out).mono ?_);(case side1=>repeat (first |exact (Kd.C_below HR0_0.out HB.out) |(with_reducible refine Kd.C_alloc ?_ _) |(with_reducible refine Kd.C_drewN ?_ _) |(with_reducible refine Kd.C_drew ?_)));(case side2=>exact HC0_0.out);(case side3=>repeat (first |exact (Kd.C_below HR0_1.out HB.out) |(with_reducible refine Kd.C_alloc ?_ _) |(with_reducible refine Kd.C_drewN ?_ _) |(with_reducible refine Kd.C_drew ?_)));(case side4=>exact HC0_1.out);rintro e w11 ⟨rfl,hb⟩;refine ⟨_,rfl, ?_⟩;have n0_:=Aside0.mk (Kd.R_below (by (with_reducible repeat (first |apply Kd.R_alloc |apply Kd.R_drewN |apply Kd.R_drew));exact HO_3.out) hb);have n1_:=Aside0.mk (blk_below (g:=gb168) (o:=.cells #[.slice A0_0 l0_0.length c0_0,.slice A0_1 l0_1.length c0_1,.int .i64 a0_2] 29 (0,0)) (by (with_reducible repeat (first |refine blk_drewN ?_ _ |refine blk_drew ?_ |refine blk_alloc ?_ _));exact BK168.out) hb);have n2_:=Aside0.mk (below_step (by repeat (first |(with_reducible first |exact HB.out |apply below_alloc |apply pw_below_drewN |apply below_drew1 |refine below_set ?_ GE168.out) |exact HB.out)) hb);clear HO_3;clear BK168;clear HB;have HO_3:=n0_;have BK168:=n1_;have HB:=n2_;clear n0_ n1_ n2_;(try clear hb);(try clear hb2);(try clear hk);(try clear hi)) |((with_reducible refine gate_builtin (b:=.append) (xs:=#[.tmp 23,.tmp 25]) rfl ?_);at_builtin;refine Kd.R_append Kd.string (w0:=w) w.heap.size rfl (.tmp 23) (.tmp 25) 22 9 (.string ⟨#[]⟩) 16 rfl Try.underlying22 info9 rfl (by decide) (by omega) u3 x3_1 t170 [.string t170] (fun _=>True) (fun _=>False) rfl rfl ?aP (fun _ hk=>hk.elim) ?aF ?aO ?aB ?aS ?aL ?_;(case aP=>exact rfl);(case aB=>exact (by repeat (first |(with_reducible first |exact HB.out |apply below_alloc |apply pw_below_drewN |apply below_drew1 |refine below_set ?_ GE168.out) |exact HB.out)));(case aF=>exact (fun _ _=>trivial));(case aO=>exact (by (with_reducible repeat (first |apply Kd.R_alloc |apply Kd.R_drewN |apply Kd.R_drew));exact HO_3.out));(case aS=>exact (below_size (by repeat (first |(with_reducible first |exact HB.out |apply below_alloc |apply pw_below_drewN |apply below_drew1 |refine below_set ?_ GE168.out) |exact HB.out))));(case aL=>have:=LMc9.out;omega);intro v173 w12 ho hb hg hat;rw [← Ny172.out] at ho;have n0_:=Aside0.mk (blk_grown (g:=gb168) (o:=.cells #[.slice A0_0 l0_0.length c0_0,.slice A0_1 l0_1.length c0_1,.int .i64 a0_2] 29 (0,0)) (by (with_reducible repeat (first |refine blk_drewN ?_ _ |refine blk_drew ?_ |refine blk_alloc ?_ _));exact BK168.out) hg (Kd.R_ne HO_3.out BK168.out (by decide)));have n1_:=Aside0.mk (hb);have n2_:=Aside0.mk (ho);clear BK168;clear HB;clear HO_3;have BK168:=n0_;have HB:=n1_;have HO174:=n2_;clear n0_ n1_ n2_;clear ho hb hg hat))
      go_roundg k1
      case measure=>have:=HK1.out;omega
      case rel=>exact ⟨(y172),(wrap64 (x4_1 + 1)),(by first |rfl |(simp;done) |(simp [*];done)),H',⟨by have:=HK1.out;omega⟩,⟨by (with_reducible repeat (first |apply Kd.R_alloc |apply Kd.R_drewN |apply Kd.R_drew));exact HO174.out⟩,⟨by (with_reducible repeat (first |refine blk_drewN ?_ _ |refine blk_drew ?_ |refine blk_alloc ?_ _));exact BK168.out⟩,⟨by repeat (first |(with_reducible first |exact HB.out |apply below_alloc |apply pw_below_drewN |apply below_drew1 |refine below_set ?_ GE168.out) |exact HB.out)⟩⟩
     ·rw [if_neg c9] at H
      exact absurd H (by simp)
    ·rw [if_neg c7] at H
     have c7b0:decide (x4_1<(l0_0.length:Int))=false:=decide_eq_false c7
     clear c7
     obtain rfl:=Option.some.inj H
     have hcz13_0:wr.cell? ⟨gb168,0,none⟩=some (.slice A0_0 l0_0.length c0_0):=(blk_cell BK168.out 0).trans rfl
     have hcz13_1:wr.cell? ⟨gb168,1,none⟩=some (.slice A0_1 l0_1.length c0_1):=(blk_cell BK168.out 1).trans rfl
     have hcz13_2:wr.cell? ⟨gb168,2,none⟩=some (.int .i64 a0_2):=(blk_cell BK168.out 2).trans rfl
     have hfz13_0:=blk_frozen BK168.out 0
     have hfz13_1:=blk_frozen BK168.out 1
     have hfz13_2:=blk_frozen BK168.out 2
     go_wp2
     go_ret
     exact ⟨_,by first |rfl |(simp [errW_none,errW_some] <;> rfl) |(simp [*,errW_none,errW_some] <;> rfl),by (with_reducible repeat (first |apply Kd.R_alloc |apply Kd.R_drewN |apply Kd.R_drew));exact HO_3.out,by repeat (first |(with_reducible first |exact HB.out |apply below_alloc |apply pw_below_drewN |apply below_drew1 |refine below_set ?_ GE168.out) |exact HB.out)⟩
 ·rw [if_neg c3] at H
  have c3b0:(t169 == 0)=false:=beq_eq_false_iff_ne.mpr c3
  have c3b1:(t169 != 0)=true:=bne_iff_ne.mpr c3
  obtain rfl:=Option.some.inj H
  go_enter Try.func25,Try.ntmps25
  go_wp2_with (first |((with_reducible refine gate_dst (N:=1) rfl ?_);refine box_event ?hg (N:=1) ?hd (cs:=#[.slice A0_0 l0_0.length c0_0,.slice A0_1 l0_1.length c0_1,.int .i64 a0_2]) (t:=29) ?hr ?_;(case hd=>rfl);(case hg=>rfl);(case hr=>first |(go_simp;done) |(go_simp;rfl));intro gb168 hg w14 hbox hb;have n0_:=Aside0.mk (below_step (by repeat (first |(with_reducible first |exact HB.out |apply below_alloc |apply pw_below_drewN |apply below_drew1) |exact HB.out)) hb);have n1_:=Aside0.mk (hbox);have n2_:=Aside0.mk ((by rw [hg];exact (below_size (by repeat (first |(with_reducible first |exact HB.out |apply below_alloc |apply pw_below_drewN |apply below_drew1) |exact HB.out))):w.heap.size≤gb168));have n3_:=Aside0.mk ((by rw [hg];exact (below_size (by repeat (first |(with_reducible first |exact HB.out |apply below_alloc |apply pw_below_drewN |apply below_drew1) |exact HB.out))):w.heap.size≤gb168));clear HB;have HB:=n0_;have BK168:=n1_;have GW168:=n2_;have GE168:=n3_;clear n0_ n1_ n2_ n3_;clear hb hbox hg;have hcz15_0:w14.cell? ⟨gb168,0,none⟩=some (.slice A0_0 l0_0.length c0_0):=(blk_cell BK168.out 0).trans rfl;have hcz15_1:w14.cell? ⟨gb168,1,none⟩=some (.slice A0_1 l0_1.length c0_1):=(blk_cell BK168.out 1).trans rfl;have hcz15_2:w14.cell? ⟨gb168,2,none⟩=some (.int .i64 a0_2):=(blk_cell BK168.out 2).trans rfl;have hfz15_0:=blk_frozen BK168.out 0;have hfz15_1:=blk_frozen BK168.out 1;have hfz15_2:=blk_frozen BK168.out 2) |((with_reducible refine gate_callee (f:=65) rfl ?_);refine goesL_ (some 8) rfl rfl Try.func65 (by kernel_rfl) rfl #[.agg #[.slice A0_0 l0_0.length c0_0,.slice A0_1 l0_1.length c0_1,.int .i64 a0_2]] rfl (by (try simp only [List.map_toArray,List.map_cons,List.map_nil]);first |done |rfl |(simp only [List.length_drop,List.length_take];rfl)) ?_;(with_reducible refine (wal_bad.calls _ _ l0_0 _ _ l0_1 a0_2 t169 _ ?side1 ?side2 ?side3 ?side4 A2.out).mono ?_);(case side1=>repeat (first |exact (Kd.C_below HR0_0.out HB.out) |(with_reducible refine Kd.C_alloc ?_ _) |(with_reducible refine Kd.C_drewN ?_ _) |(with_reducible refine Kd.C_drew ?_)));(case side2=>exact HC0_0.out);(case side3=>repeat (first |exact (Kd.C_below HR0_1.out HB.out) |(with_reducible refine Kd.C_alloc ?_ _) |(with_reducible refine Kd.C_drewN ?_ _) |(with_reducible refine Kd.C_drew ?_)));(case side4=>exact HC0_1.out);rintro e w16 ⟨rfl,hb⟩;refine ⟨_,rfl, ?_⟩;have n0_:=Aside0.mk (blk_below (g:=gb168) (o:=.cells #[.slice A0_0 l0_0.length c0_0,.slice A0_1 l0_1.length c0_1,.int .i64 a0_2] 29 (0,0)) (by (with_reducible repeat (first |refine blk_drewN ?_ _ |refine blk_drew ?_ |refine blk_alloc ?_ _));exact BK168.out) hb);have n1_:=Aside0.mk (below_step (by repeat (first |(with_reducible first |exact HB.out |apply below_alloc |apply pw_below_drewN |apply below_drew1 |refine below_set ?_ GE168.out) |exact HB.out)) hb);clear BK168;clear HB;have BK168:=n0_;have HB:=n1_;clear n0_ n1_;(try clear hb);(try clear hb2);(try clear hk);(try clear hi)))
  go_ret
  exact ⟨_,by first |rfl |(simp [errW_none,errW_some] <;> rfl) |(simp [*,errW_none,errW_some] <;> rfl),by first |exact Kd.R_nil _ _ _ _ _ |exact Kd.N_nil _ _ _ _ _ |exact Kd.V_nil _ _ _ _ _ |exact Kd.Q_nil _ _ _ _ _ |exact Kd.S_nil _ _ _ _ _,by repeat (first |(with_reducible first |exact HB.out |apply below_alloc |apply pw_below_drewN |apply below_drew1 |refine below_set ?_ GE168.out) |exact HB.out)⟩
end Go.Proofs.Ytjfmnkmgnbbfgaa.A
set_option linter.unusedVariables false
set_option linter.unusedSimpArgs false
namespace Go.Proofs.Ytjfmnkmgnbbfgaa.A
open Go.RowKit Go.Proofs.YtjfmnkmgnbbfgaaW.PrintWords Go.Proofs.YtjfmnkmgnbbfgaaW.PrintLast Go.Proofs.YtjfmnkmgnbbfgaaW.PrintMore
def whole (v:List ByteArray):Bool:=v.all fun s=>decide ((s.size:Int)=128)
def formV (v:List ByteArray):List ByteArray × List S27 × Int × Int:=
 if v.length<1∨223<v.length then ([],[],0,2) else if whole v then (List.replicate 33 zeroS ++ v,[],-1,0) else ([],[],0,3)
theorem take_snocB (v:List ByteArray) (i:Nat) (hi:i<v.length):v.take (i + 1)=v.take i ++ [v[i]]:=(List.take_append_getElem hi).symm
theorem form_l1 (v:List ByteArray) (hn:v.length≤223) (d:Nat):∀ k i,i + d=v.length→d<k →
  wal_Format.l1 k v (v.length:Int) (i:Int) (List.replicate 33 zeroS ++ v.take i) (-1)=some (if whole (v.drop i) then (List.replicate 33 zeroS ++ v,[],-1,0) else ([],[],0,3)):=by
 induction d with
 | zero=>
  intro k i hi hk
  obtain ⟨k,rfl⟩:∃ m,k=m + 1:=⟨k - 1,by omega⟩
  simp only [wal_Format.l1]
  rw [if_neg (by omega),List.take_of_length_le (by omega),List.drop_of_length_le (by omega)]
  rfl
 | succ d ih=>
  intro k i hi hk
  obtain ⟨k,rfl⟩:∃ m,k=m + 1:=⟨k - 1,by omega⟩
  have hlt:i<v.length:=by omega
  simp only [wal_Format.l1]
  rw [if_pos (by omega),if_pos (by omega),if_pos (by omega),rdN v i hlt,List.drop_eq_getElem_cons hlt]
  by_cases h:(v[i].size:Int)=128
  ·rw [if_pos h,if_pos (by simp;omega),List.append_assoc,← take_snocB v i hlt,wrapS (by omega),ih k (i + 1) (by omega) (by omega)]
   simp only [whole,List.all_cons,decide_eq_true h,Bool.true_and]
   rfl
  ·rw [if_neg h]
   simp only [whole,List.all_cons,decide_eq_false h,Bool.false_and,Bool.false_eq_true,if_false]
theorem form_l0 (v:List ByteArray) (hn:v.length≤223) (d:Nat):∀ k i,i + d=33→v.length + d + 1<k →
  wal_Format.l0 k v (i:Int) (List.replicate i zeroS) (-1)=some (if whole v then (List.replicate 33 zeroS ++ v,[],-1,0) else ([],[],0,3)):=by
 induction d with
 | zero=>
  intro k i hi hk
  obtain ⟨k,rfl⟩:∃ m,k=m + 1:=⟨k - 1,by omega⟩
  obtain rfl:i=33:=by omega
  simp only [wal_Format.l0]
  rw [if_neg (by omega)]
  have:=form_l1 v hn v.length k 0 (by omega) (by omega)
  rw [List.take_zero,List.append_nil,List.drop_zero] at this
  exact this
 | succ d ih=>
  intro k i hi hk
  obtain ⟨k,rfl⟩:∃ m,k=m + 1:=⟨k - 1,by omega⟩
  have hz:wal_zeros.f 128=some zeroS:=wzeros 128 (by omega)
  simp only [wal_Format.l0]
  rw [if_pos (by omega),hz,Option.bind_some,if_pos (by simp;omega),wrapS (by omega),← List.replicate_succ']
  exact ih k (i + 1) (by omega) (by omega)
theorem form_some (v:List ByteArray) (k:Nat) (hk:v.length + 40<k):wal_Format.f k v=some (formV v):=by
 obtain ⟨k,rfl⟩:∃ m,k=m + 1:=⟨k - 1,by omega⟩
 unfold wal_Format.f formV
 by_cases h1:v.length<1
 ·rw [if_pos (by omega),if_pos (.inl h1)]
  simp only [wal_Format.j0,if_true]
 ·rw [if_neg (by omega)]
  by_cases h2:223<v.length
  ·rw [if_pos (.inr h2),decide_eq_true (by omega)]
   simp only [wal_Format.j0,if_true]
  ·rw [if_neg (by omega),decide_eq_false (by omega)]
   simp only [wal_Format.j0,Bool.false_eq_true,if_false]
   exact form_l0 v (by omega) 33 k 0 (by omega) (by omega)
def volL (b:List ByteArray) (p:List S27):List ByteArray:=(List.range (b.length - 33)).map fun j:Nat=>getV b p ((33 + j:Nat):Int)
def homeL (b:List ByteArray) (p:List S27):List ByteArray:=if badV b p=0 then volL b p else []
theorem home_l0 (b:List ByteArray) (p:List S27) (a:Int) (hb:b.length≤256) (hp:p.length≤1000) (d:Nat):∀ k i,33 + i + d=b.length→d<k →
  wal_Home.l0 k ((List.range i).map fun j:Nat=>getV b p ((33 + j:Nat):Int)) ((33 + i:Nat):Int) b p a=some (volL b p):=by
 induction d with
 | zero=>
  intro k i hi hk
  obtain ⟨k,rfl⟩:∃ m,k=m + 1:=⟨k - 1,by omega⟩
  simp only [wal_Home.l0]
  rw [if_neg (by omega),volL,show b.length - 33=i by omega]
 | succ d ih=>
  intro k i hi hk
  obtain ⟨k,rfl⟩:∃ m,k=m + 1:=⟨k - 1,by omega⟩
  have e:=ih k (i + 1) (by omega) (by omega)
  rw [List.range_succ,List.map_append] at e
  have hd:drive_Get.f b p a ((33 + i:Nat):Int)=some (getV b p ((33 + i:Nat):Int),0):=by rw [dget_many b p a _ hp,if_neg (by omega)]
  simp only [wal_Home.l0]
  rw [if_pos (by omega),hd,Option.bind_some,if_pos (by simp;omega),wrapS (by omega)]
  exact e
theorem home_some (b:List ByteArray) (p:List S27) (a:Int) (hp:p.length≤1000) (k:Nat) (hk:300<k):wal_Home.f k b p a=some (homeL b p):=by
 unfold wal_Home.f homeL
 rw [bad_some b p a (by omega),Option.bind_some]
 by_cases h:badV b p=0
 ·rw [if_pos h,if_pos h]
  obtain ⟨hv,h3⟩:=badV_zero h
  have h256:=hv.1
  exact home_l0 b p a hv.1 hp (b.length - 33) k 0 (by omega) (by omega)
 ·rw [if_neg h,if_neg h]
theorem sameb_l0 (l:List ByteArray) (hl:l.length≤1000000) (d:Nat):∀ k i,i + d=l.length→d<k→hibernacleref16_SameBlocks.l0 k l l (l.length:Int) (i:Int)=some true:=by
 induction d with
 | zero=>
  intro k i hi hk
  obtain ⟨k,rfl⟩:∃ m,k=m + 1:=⟨k - 1,by omega⟩
  simp only [hibernacleref16_SameBlocks.l0]
  rw [if_neg (by omega)]
 | succ d ih=>
  intro k i hi hk
  obtain ⟨k,rfl⟩:∃ m,k=m + 1:=⟨k - 1,by omega⟩
  simp only [hibernacleref16_SameBlocks.l0]
  rw [if_pos (by omega),if_pos (by omega),if_pos (by omega),if_pos (by omega),if_pos trivial,wrapS (by omega)]
  exact ih k (i + 1) (by omega) (by omega)
theorem sameb (l:List ByteArray) (hl:l.length≤1000000) (k:Nat) (hk:l.length<k):hibernacleref16_SameBlocks.f k l l=some true:=by
 unfold hibernacleref16_SameBlocks.f
 rw [if_pos rfl]
 exact sameb_l0 l hl l.length k 0 (by omega) hk
theorem samed_l0 (b:List ByteArray) (l:List S27) (a:Int) (hl:l.length≤1000000) (d:Nat):∀ k i,i + d=l.length→d<k→hibernacleref16_SameDrive.l0 k (l.length:Int) (i:Int) b l a b l a=some true:=by
 induction d with
 | zero=>
  intro k i hi hk
  obtain ⟨k,rfl⟩:∃ m,k=m + 1:=⟨k - 1,by omega⟩
  simp only [hibernacleref16_SameDrive.l0]
  rw [if_neg (by omega)]
 | succ d ih=>
  intro k i hi hk
  obtain ⟨k,rfl⟩:∃ m,k=m + 1:=⟨k - 1,by omega⟩
  simp only [hibernacleref16_SameDrive.l0]
  rw [if_pos (by omega),if_pos (by omega),if_pos (by omega),if_pos (by omega),if_neg (by simp),wrapS (by omega)]
  exact ih k (i + 1) (by omega) (by omega)
theorem samed (b:List ByteArray) (l:List S27) (a:Int) (hb:b.length≤1000000) (hl:l.length≤1000000) (k:Nat) (hk:b.length + l.length + 2<k):hibernacleref16_SameDrive.f k b l a b l a=some true:=by
 obtain ⟨k,rfl⟩:∃ m,k=m + 1:=⟨k - 1,by omega⟩
 unfold hibernacleref16_SameDrive.f
 rw [if_pos rfl,if_pos rfl,sameb b hb (k + 1) (by omega),Option.bind_some]
 simp only [hibernacleref16_SameDrive.j0,Bool.not_true,Bool.false_eq_true,if_false]
 exact samed_l0 b l a hl l.length k 0 (by omega) (by omega)
end Go.Proofs.Ytjfmnkmgnbbfgaa.A
