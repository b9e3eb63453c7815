/- Several texts of this claim in one: A78, Xclone. -/
import Derived.Test.YtjfmnkmgnbbfgaaA0
import Derived.Lib.BufferMore
namespace Go.Proofs.Ytjfmnkmgnbbfgaa.A
open Go.RowKit Go.Proofs.YtjfmnkmgnbbfgaaW.PrintWords Go.Proofs.YtjfmnkmgnbbfgaaW.PrintLast Go.Proofs.YtjfmnkmgnbbfgaaW.PrintMore
attribute [local go_sem] max2_int min2_int max_two min_two max_three min_three max_four min_four   -- for this text's walks alone
set_option linter.unusedVariables false
set_option linter.unusedSimpArgs false
def drive_look.j0:Nat→ByteArray→Bool→Option (Int)
 | 0,_,_=>none
 | k + 1,x2,x7=>if x7=true then (some 2) else (if (x2.size:Int)=128 then (some 0) else (some 3))
def drive_look.f (k:Nat) (l0_0:List ByteArray) (l0_1:List (S27)) (a0_2:Int) (a1:Int) (a2:ByteArray):Option (Int):=if a1<0 then (drive_look.j0 k a2 true) else (drive_look.j0 k a2 (decide (a1 ≥ (l0_0.length:Int))))
theorem drive_look.mono_l:∀ k,(∀ y0 y1,LeO (drive_look.j0 k y0 y1) (drive_look.j0 (k + 1) y0 y1))
 | 0=>fun _ _ r h=>by simp [drive_look.j0] at h
 | k + 1=>by
  have ih0:=drive_look.mono_l k
  ·intro y0 y1
   unfold drive_look.j0
   repeat' first
   | (with_reducible exact ih0 _ _)
   | (with_reducible exact LeO.refl _)
   | (with_reducible exact LeO.none _)
   | (with_reducible refine LeO.ite ?_ ?_)
   | (with_reducible refine LeO.bind ?_ (fun _=>?_))
   | exact ih0 _ _
   | exact LeO.none _
   | refine LeO.ite ?_ ?_
   | refine LeO.bind ?_ (fun _=>?_)
theorem drive_look.mono:∀ a0 a1 a2 a3 a4 k,LeO (drive_look.f k a0 a1 a2 a3 a4) (drive_look.f (k + 1) a0 a1 a2 a3 a4):=by
 intro a0 a1 a2 a3 a4 k
 have ih0:=drive_look.mono_l k
 unfold drive_look.f
 repeat' first
   | (with_reducible exact ih0 _ _)
   | (with_reducible exact LeO.refl _)
   | (with_reducible exact LeO.none _)
   | (with_reducible refine LeO.ite ?_ ?_)
   | (with_reducible refine LeO.bind ?_ (fun _=>?_))
   | exact ih0 _ _
   | exact LeO.none _
   | refine LeO.ite ?_ ?_
   | refine LeO.bind ?_ (fun _=>?_)
set_option maxHeartbeats 8000000 in
set_option maxRecDepth 100000 in
theorem drive_look.calls (k:Nat) (A0_0:Option Addr) (c0_0:Nat) (l0_0:List ByteArray) (A0_1:Option Addr) (c0_1:Nat) (l0_1:List (S27)) (a0_2:Int) (a1:Int) (a2:ByteArray) (r:Int) (w:World) (hr0_0:Kd.C Kd.string w A0_0 l0_0.length l0_0) (hc0_0:l0_0.length≤c0_0) (hr0_1:Kd.C k27 w A0_1 l0_1.length l0_1) (hc0_1:l0_1.length≤c0_1) (h:drive_look.f k l0_0 l0_1 a0_2 a1 a2=some r) :
  Calls Try.prog 78 #[.agg #[.slice A0_0 l0_0.length c0_0,.slice A0_1 l0_1.length c0_1,.int .i64 a0_2],.int .i64 a1,.string a2] w fun e w'=>e=.returned (.int .i64 r)∧Below w.heap.size w w':=by
 have hu29:=Try.underlying29
 have HR0_0:=Aside0.mk hr0_0
 have HC0_0:=Aside0.mk hc0_0
 clear hr0_0 hc0_0
 have HR0_1:=Aside0.mk hr0_1
 have HC0_1:=Aside0.mk hc0_1
 clear hr0_1 hc0_1
 have HB:=Aside0.mk (Below.refl w.heap.size w)
 have H:(if a1<0 then (drive_look.j0 k a2 true) else (drive_look.j0 k a2 (decide (a1 ≥ (l0_0.length:Int)))))=some r:=h
 clear h
 have HC4:=Aside0.mk H
 clear H
 go_enter Try.func78,Try.ntmps78
 go_upto_region 1 with (first |((with_reducible refine gate_dst (N:=3) rfl ?_);(try (refine gate_guard (by rfl) ?_;dsimp only));refine box_event ?hg (N:=3) ?hd (cs:=#[.slice A0_0 l0_0.length c0_0,.slice A0_1 l0_1.length c0_1,.int .i64 a0_2]) (t:=29) ?hr ?_;(case hd=>rfl);(case hg=>rfl);(case hr=>first |(go_simp;done) |(go_simp;rfl));intro gb143 hg w5 hbox hb;have n0_:=Aside0.mk (below_step (by repeat (first |(with_reducible first |exact HB.out |apply below_alloc |apply pw_below_drewN |apply below_drew1) |exact HB.out)) hb);have n1_:=Aside0.mk (hbox);have n2_:=Aside0.mk ((by rw [hg];exact (below_size (by repeat (first |(with_reducible first |exact HB.out |apply below_alloc |apply pw_below_drewN |apply below_drew1) |exact HB.out))):w.heap.size≤gb143));have n3_:=Aside0.mk ((by rw [hg];exact (below_size (by repeat (first |(with_reducible first |exact HB.out |apply below_alloc |apply pw_below_drewN |apply below_drew1) |exact HB.out))):w.heap.size≤gb143));clear HB;have HB:=n0_;have BK143:=n1_;have GW143:=n2_;have GE143:=n3_;clear n0_ n1_ n2_ n3_;clear hb hbox hg))
 (try simp only [Act.put,List.setIfInBounds_toArray,List.set_cons_zero,List.set_cons_succ])
 go_cut [7] (fun v7 wc=>∃ (kq:Nat) (x7_3:Bool),v7=.bool x7_3∧Aside0 (drive_look.j0 kq a2 x7_3=some r)∧Aside0 (kq≤k)∧Aside0 (wc.heap[gb143]?=some (.cells #[(.slice A0_0 l0_0.length c0_0),(.slice A0_1 l0_1.length c0_1),.int .i64 a0_2] 29 (0,0)))∧Aside0 (Below w.heap.size w wc))
 case first=>
  have H:=HC4.out
  clear HC4
  by_cases c6:a1<0
  ·rw [if_pos c6] at H
   have c6b0:decide (a1<0)=true:=decide_eq_true c6
   clear c6
   (first |rw [c6b0] |(simp only [i64_w,i32_w];rw [c6b0]) |skip)
   have H':=Aside0.mk H
   clear H
   go_wp2
   go_meet
   case rel=>exact ⟨_,(true),(by first |rfl |(simp;done) |(simp [*];done)),H',⟨by first |omega |exact Nat.le_refl _⟩,⟨by (with_reducible repeat (first |refine blk_drewN ?_ _ |refine blk_drew ?_ |refine blk_alloc ?_ _));exact BK143.out⟩,⟨by repeat (first |(with_reducible first |exact HB.out |apply below_alloc |apply pw_below_drewN |apply below_drew1 |refine below_set ?_ GE143.out) |exact HB.out)⟩⟩
  ·rw [if_neg c6] at H
   have c6b0:decide (a1<0)=false:=decide_eq_false c6
   clear c6
   (first |rw [c6b0] |(simp only [i64_w,i32_w];rw [c6b0]) |skip)
   have H':=Aside0.mk H
   clear H
   have hcz7_0:w5.cell? ⟨gb143,0,none⟩=some (.slice A0_0 l0_0.length c0_0):=(blk_cell BK143.out 0).trans rfl
   have hcz7_1:w5.cell? ⟨gb143,1,none⟩=some (.slice A0_1 l0_1.length c0_1):=(blk_cell BK143.out 1).trans rfl
   have hcz7_2:w5.cell? ⟨gb143,2,none⟩=some (.int .i64 a0_2):=(blk_cell BK143.out 2).trans rfl
   have hfz7_0:=blk_frozen BK143.out 0
   have hfz7_1:=blk_frozen BK143.out 1
   have hfz7_2:=blk_frozen BK143.out 2
   go_wp2
   go_meet
   case rel=>exact ⟨_,(decide (a1 ≥ (l0_0.length:Int))),(by first |rfl |(simp;done) |(simp [*];done)),H',⟨by first |omega |exact Nat.le_refl _⟩,⟨by (with_reducible repeat (first |refine blk_drewN ?_ _ |refine blk_drew ?_ |refine blk_alloc ?_ _));exact BK143.out⟩,⟨by repeat (first |(with_reducible first |exact HB.out |apply below_alloc |apply pw_below_drewN |apply below_drew1 |refine below_set ?_ GE143.out) |exact HB.out)⟩⟩
 case rest=>
  clear HC4
  try clear p2
  try clear c6
  try clear c6b0
  try clear c7
  try clear hcz7_0
  try clear hcz7_1
  try clear hcz7_2
  try clear hfz7_0
  try clear hfz7_1
  try clear hfz7_2
  obtain ⟨kq,x7_3,rfl,HA,HJ3,BK143,HB⟩:=hcut
  cases kq with
  | zero=>exact absurd HA.out (by simp [drive_look.j0])
  | succ kj3=>
   have H:=HA.out
   clear HA
   simp only [drive_look.j0] at H
   by_cases c8:x7_3=true
   ·subst c8
    have H1:(some 2)=some r:=by rw [if_pos rfl] at H;exact H
    clear H
    have H:=H1
    clear H1
    obtain rfl:=Option.some.inj H
    go_wp2
    go_ret
    exact ⟨by first |rfl |(simp [errW_none,errW_some] <;> rfl) |(simp [*,errW_none,errW_some] <;> rfl),by repeat (first |(with_reducible first |exact HB.out |apply below_alloc |apply pw_below_drewN |apply below_drew1 |refine below_set ?_ GE143.out) |exact HB.out)⟩
   ·replace c8:=Bool.eq_false_iff.mpr c8
    subst c8
    have H1:(if (a2.size:Int)=128 then (some 0) else (some 3))=some r:=by rw [if_neg (show ¬ (false=true) by decide)] at H;exact H
    clear H
    have H:=H1
    clear H1
    by_cases c9:(a2.size:Int)=128
    ·rw [if_pos c9] at H
     have c9b0:((a2.size:Int) == 128)=true:=beq_iff_eq.mpr c9
     have c9b1:((a2.size:Int) != 128)=false:=bne_eq_false_iff_eq.mpr c9
     clear c9
     obtain rfl:=Option.some.inj H
     go_wp2
     go_ret
     exact ⟨by first |rfl |(simp [errW_none,errW_some] <;> rfl) |(simp [*,errW_none,errW_some] <;> rfl),by repeat (first |(with_reducible first |exact HB.out |apply below_alloc |apply pw_below_drewN |apply below_drew1 |refine below_set ?_ GE143.out) |exact HB.out)⟩
    ·rw [if_neg c9] at H
     have c9b0:((a2.size:Int) == 128)=false:=beq_eq_false_iff_ne.mpr c9
     have c9b1:((a2.size:Int) != 128)=true:=bne_iff_ne.mpr c9
     obtain rfl:=Option.some.inj H
     go_wp2
     go_ret
     exact ⟨by first |rfl |(simp [errW_none,errW_some] <;> rfl) |(simp [*,errW_none,errW_some] <;> rfl),by repeat (first |(with_reducible first |exact HB.out |apply below_alloc |apply pw_below_drewN |apply below_drew1 |refine below_set ?_ GE143.out) |exact HB.out)⟩
end Go.Proofs.Ytjfmnkmgnbbfgaa.A
namespace Go.Proofs.Ytjfmnkmgnbbfgaa.A
open Go.RowKit Go.Proofs.YtjfmnkmgnbbfgaaW.PrintWords Go.Proofs.YtjfmnkmgnbbfgaaW.PrintLast Go.Proofs.YtjfmnkmgnbbfgaaW.PrintMore
def api_Write_111.f (l0:List S27):Option (List S27):=if l0.length * 24≤140737488355328 then some l0 else none
set_option maxHeartbeats 400000 in
set_option maxRecDepth 100000 in
theorem api_Write_111.nil (c0:Nat) (w:World) :
  Calls Try.prog 111 #[.slice none 0 c0] w fun e w'=>e=.returned (.slice none 0 0)∧w=w':=by
 have he:=fun (W:World)=>Go.Lib.run_eql_slice_nil_nil (P:=Try.prog) W 0 c0 Try.underlying23
 go_enter Try.func111,Try.ntmps111
 go_wp2
 go_ret
 exact ⟨rfl,rfl⟩
set_option maxHeartbeats 400000 in
set_option maxRecDepth 100000 in
theorem api_Write_111.some_ (ad:Addr) (c0:Nat) (l0:List S27) (w:World) (hr0:Kd.C k27 w (some ad) l0.length l0) (hs:l0.length * 24≤140737488355328) :
  Calls Try.prog 111 #[.slice (some ad) l0.length c0] w fun e w'=>∃ v0_:Value,e=.returned v0_∧Kd.R k27 27 w' w.heap.size (fun _=>True) v0_ l0∧Below w.heap.size w w':=by
 have HR:=Aside0.mk hr0
 clear hr0
 have he:=fun (W:World)=>Go.Lib.run_eql_slice_some_nil (P:=Try.prog) W ad l0.length c0 Try.underlying23
 go_enter Try.func111,Try.ntmps111
 go_wp2_with (first
  | ((with_reducible refine gate_dst (N:=5) rfl ?_);refine Kd.R_lit k27 _ 27 ?hg (N:=5) ?hd (xs:=([]:List S27)) (inner:=[]) (ok:=fun _=>True) (okp:=fun _=>True) ?hr ?hp (fun _ hk=>hk) trivial (Below.refl _ _) (Nat.le_refl _) (by simp) ?_;(case hd=>rfl);(case hg=>rfl);(case hr=>first |(go_simp;done) |(go_simp;rfl));(case hp=>exact (Reps.none _ _));intro v1 w1 ho1 hb1 hg1 ha1;have HB:=Aside0.mk (below_step (by repeat (first |exact Below.refl _ _ |apply below_alloc |apply pw_below_drewN |apply below_drew1)) hb1:Below w.heap.size w w1);have HO:=Aside0.mk (Kd.R_lower ho1 (below_size (by repeat (first |exact Below.refl _ _ |apply below_alloc |apply pw_below_drewN |apply below_drew1)):w.heap.size≤_));clear ho1 hb1 hg1 ha1)
  | ((with_reducible refine gate_builtin (b:=.append) (xs:=#[.tmp 5,.tmp 6]) rfl ?_);(try (refine gate_guard (by rfl) ?_;dsimp only));at_builtin;refine Kd.R_append_rows k27 (Rr:=Kd.K k27 w) (w0:=w) w.heap.size rfl (.tmp 5) (.tmp 6) 23 27 (.agg #[(.int .i64 0),(.string ⟨#[]⟩)]) 24 rfl Try.underlying23 info27 rfl (by decide) (by omega) _ [] l0 _ _ _ (fun _=>True) (fun _=>False) rfl rfl ?aO ?aR (fun x cs h=>by obtain rfl:=k27_open h;exact k27_mkM _ _ _ x) (fun _ h=>h.elim) (fun _ _=>trivial) ?aB ?aS ?aL ?_;(case aR=>exact ReadsRow.imp_ HR.out (by repeat (first |exact HB.out |apply below_alloc |apply pw_below_drewN |apply below_drew1)) (fun _ _ h=>h));(case aB=>exact (by repeat (first |exact HB.out |apply below_alloc |apply pw_below_drewN |apply below_drew1)));(case aO=>exact (by (with_reducible repeat (first |apply Kd.R_alloc |apply Kd.R_drewN |apply Kd.R_drew));exact HO.out));(case aS=>exact (below_size (by repeat (first |exact HB.out |apply below_alloc |apply pw_below_drewN |apply below_drew1))));(case aL=>rw [List.length_nil,Nat.zero_add];exact hs);intro v2 w2 ho2 hb2 hg2 hat2;have HO2:=Aside0.mk ho2;have HB2:=Aside0.mk hb2;clear ho2 hb2 hg2 hat2))
 go_ret
 exact ⟨_,rfl,HO2.out,HB2.out⟩
theorem api_Write_111.calls (A0:Option Addr) (c0:Nat) (l0:List S27) (r:List S27) (w:World) (hr0:Kd.C k27 w A0 l0.length l0) (hc0:l0.length≤c0) (h:api_Write_111.f l0=some r) :
  Calls Try.prog 111 #[.slice A0 l0.length c0] w fun e w'=>∃ v0_:Value,e=.returned v0_∧Kd.R k27 27 w' w.heap.size (fun _=>True) v0_ r∧Below w.heap.size w w':=by
 unfold api_Write_111.f at h
 split at h
 ·next hs=>
  cases h
  cases A0 with
  | some ad=>exact api_Write_111.some_ ad c0 l0 w hr0 hs
  | none=>
   have h0:l0.length=0:=by
    rcases Nat.eq_zero_or_pos l0.length with h0 |h0
    ·exact h0
    ·obtain ⟨ad,h,_⟩:=hr0.2.2 h0
     cases h
   obtain rfl:l0=[]:=List.eq_nil_of_length_eq_zero h0
   refine (api_Write_111.nil c0 w).mono ?_
   rintro e w' ⟨rfl,rfl⟩
   exact ⟨_,rfl,Kd.R_nil _ _ _ _ _,Below.refl _ _⟩
 ·cases h
def slices_Clone_string_string.f (l0:List ByteArray):Option (List ByteArray):=if l0.length * 16≤140737488355328 then some l0 else none
set_option maxHeartbeats 400000 in
set_option maxRecDepth 100000 in
theorem slices_Clone_string_string.nil (c0:Nat) (w:World) :
  Calls Try.prog 110 #[.slice none 0 c0] w fun e w'=>e=.returned (.slice none 0 0)∧w=w':=by
 have he:=fun (W:World)=>Go.Lib.run_eql_slice_nil_nil (P:=Try.prog) W 0 c0 Try.underlying22
 go_enter Try.func110,Try.ntmps110
 go_wp2
 go_ret
 exact ⟨rfl,rfl⟩
set_option maxHeartbeats 400000 in
set_option maxRecDepth 100000 in
theorem slices_Clone_string_string.some_ (ad:Addr) (c0:Nat) (l0:List ByteArray) (w:World) (hr0:Kd.C Kd.string w (some ad) l0.length l0) (hs:l0.length * 16≤140737488355328) :
  Calls Try.prog 110 #[.slice (some ad) l0.length c0] w fun e w'=>∃ v0_:Value,e=.returned v0_∧Kd.R Kd.string 9 w' w.heap.size (fun _=>True) v0_ l0∧Below w.heap.size w w':=by
 have HR:=Aside0.mk hr0
 clear hr0
 have he:=fun (W:World)=>Go.Lib.run_eql_slice_some_nil (P:=Try.prog) W ad l0.length c0 Try.underlying22
 go_enter Try.func110,Try.ntmps110
 go_wp2_with (first
  | ((with_reducible refine gate_dst (N:=5) rfl ?_);refine Kd.R_lit Kd.string _ 9 ?hg (N:=5) ?hd (xs:=([]:List ByteArray)) (inner:=[]) (ok:=fun _=>True) (okp:=fun _=>True) ?hr ?hp (fun _ hk=>hk) trivial (Below.refl _ _) (Nat.le_refl _) (by simp) ?_;(case hd=>rfl);(case hg=>rfl);(case hr=>first |(go_simp;done) |(go_simp;rfl));(case hp=>exact (Reps.none _ _));intro v1 w1 ho1 hb1 hg1 ha1;have HB:=Aside0.mk (below_step (by repeat (first |exact Below.refl _ _ |apply below_alloc |apply pw_below_drewN |apply below_drew1)) hb1:Below w.heap.size w w1);have HO:=Aside0.mk (Kd.R_lower ho1 (below_size (by repeat (first |exact Below.refl _ _ |apply below_alloc |apply pw_below_drewN |apply below_drew1)):w.heap.size≤_));clear ho1 hb1 hg1 ha1)
  | ((with_reducible refine gate_builtin (b:=.append) (xs:=#[.tmp 5,.tmp 6]) rfl ?_);(try (refine gate_guard (by rfl) ?_;dsimp only));at_builtin;refine Kd.R_append_rows Kd.string (Rr:=Kd.K Kd.string w) (w0:=w) w.heap.size rfl (.tmp 5) (.tmp 6) 22 9 (.string ⟨#[]⟩) 16 rfl Try.underlying22 info9 rfl (by decide) (by omega) _ [] l0 _ _ _ (fun _=>True) (fun _=>False) rfl rfl ?aO ?aR (fun x cs h=>h) (fun _ h=>h.elim) (fun _ _=>trivial) ?aB ?aS ?aL ?_;(case aR=>exact ReadsRow.imp_ HR.out (by repeat (first |exact HB.out |apply below_alloc |apply pw_below_drewN |apply below_drew1)) (fun _ _ h=>h));(case aB=>exact (by repeat (first |exact HB.out |apply below_alloc |apply pw_below_drewN |apply below_drew1)));(case aO=>exact (by (with_reducible repeat (first |apply Kd.R_alloc |apply Kd.R_drewN |apply Kd.R_drew));exact HO.out));(case aS=>exact (below_size (by repeat (first |exact HB.out |apply below_alloc |apply pw_below_drewN |apply below_drew1))));(case aL=>rw [List.length_nil,Nat.zero_add];exact hs);intro v2 w2 ho2 hb2 hg2 hat2;have HO2:=Aside0.mk ho2;have HB2:=Aside0.mk hb2;clear ho2 hb2 hg2 hat2))
 go_ret
 exact ⟨_,rfl,HO2.out,HB2.out⟩
theorem slices_Clone_string_string.calls (A0:Option Addr) (c0:Nat) (l0:List ByteArray) (r:List ByteArray) (w:World) (hr0:Kd.C Kd.string w A0 l0.length l0) (hc0:l0.length≤c0) (h:slices_Clone_string_string.f l0=some r) :
  Calls Try.prog 110 #[.slice A0 l0.length c0] w fun e w'=>∃ v0_:Value,e=.returned v0_∧Kd.R Kd.string 9 w' w.heap.size (fun _=>True) v0_ r∧Below w.heap.size w w':=by
 unfold slices_Clone_string_string.f at h
 split at h
 ·next hs=>
  cases h
  cases A0 with
  | some ad=>exact slices_Clone_string_string.some_ ad c0 l0 w hr0 hs
  | none=>
   have h0:l0.length=0:=by
    rcases Nat.eq_zero_or_pos l0.length with h0 |h0
    ·exact h0
    ·obtain ⟨ad,h,_⟩:=hr0.2.2 h0
     cases h
   obtain rfl:l0=[]:=List.eq_nil_of_length_eq_zero h0
   refine (slices_Clone_string_string.nil c0 w).mono ?_
   rintro e w' ⟨rfl,rfl⟩
   exact ⟨_,rfl,Kd.R_nil _ _ _ _ _,Below.refl _ _⟩
 ·cases h
end Go.Proofs.Ytjfmnkmgnbbfgaa.A
