/- Several texts of this claim in one: A63, F1. -/
import Derived.Test.YtjfmnkmgnbbfgaaA0
import Derived.Test.YtjfmnkmgnbbfgaaF0
namespace Go.Proofs.Ytjfmnkmgnbbfgaa.A
open Go.RowKit Go.Proofs.YtjfmnkmgnbbfgaaW.PrintWords Go.Proofs.YtjfmnkmgnbbfgaaW.PrintLast Go.Proofs.YtjfmnkmgnbbfgaaW.PrintMore
attribute [local go_sem] max2_int min2_int max_two min_two max_three min_three max_four min_four   -- for this text's walks alone
set_option linter.unusedVariables false
set_option linter.unusedSimpArgs false
mutual
def hibernaclelaw16_volume.l0:Nat→Int→List ByteArray→Int→Option (List ByteArray)
 | 0,_,_,_=>none
 | k + 1,x0,x3,x4=>if x4<x0 then (if 128≤281474976710656 then (hibernaclelaw16_volume.l1 k x0 x3 x4 (List.replicate 128 0) 0) else (none)) else (some x3)
def hibernaclelaw16_volume.l1:Nat→Int→List ByteArray→Int→List Int→Int→Option (List ByteArray)
 | 0,_,_,_,_,_=>none
 | k + 1,x0,x3,x4,x5,x6=>if x6<128 then (if 0≤x6 then (if x6<(x5.length:Int) then (hibernaclelaw16_volume.l1 k x0 x3 x4 (x5.set (x6:Int).toNat ((wrap64 (x4 + 1)) % 256)) (wrap64 (x6 + 1))) else (none)) else (none)) else (if x3.length<8796093022208 then (hibernaclelaw16_volume.l0 k x0 (x3 ++ [strOfNums x5]) (wrap64 (x4 + 1))) else (none))
end
def hibernaclelaw16_volume.f (k:Nat) (a0:Int):Option (List ByteArray):=hibernaclelaw16_volume.l0 k a0 (([]:List ByteArray)) 0
theorem hibernaclelaw16_volume.mono_l:∀ k,(∀ y0 y1 y2,LeO (hibernaclelaw16_volume.l0 k y0 y1 y2) (hibernaclelaw16_volume.l0 (k + 1) y0 y1 y2))∧(∀ y0 y1 y2 y3 y4,LeO (hibernaclelaw16_volume.l1 k y0 y1 y2 y3 y4) (hibernaclelaw16_volume.l1 (k + 1) y0 y1 y2 y3 y4))
 | 0=>⟨fun _ _ _ r h=>by simp [hibernaclelaw16_volume.l0] at h,fun _ _ _ _ _ r h=>by simp [hibernaclelaw16_volume.l1] at h⟩
 | k + 1=>by
  obtain ⟨ih0,ih1⟩:=hibernaclelaw16_volume.mono_l k
  refine ⟨?_, ?_⟩
  ·intro y0 y1 y2
   unfold hibernaclelaw16_volume.l0
   repeat' first
   | (with_reducible exact ih0 _ _ _)
   | (with_reducible exact ih1 _ _ _ _ _)
   | (with_reducible exact LeO.refl _)
   | (with_reducible exact LeO.none _)
   | (with_reducible refine LeO.ite ?_ ?_)
   | (with_reducible refine LeO.bind ?_ (fun _=>?_))
   | exact ih0 _ _ _
   | exact ih1 _ _ _ _ _
   | exact LeO.none _
   | refine LeO.ite ?_ ?_
   | refine LeO.bind ?_ (fun _=>?_)
  ·intro y0 y1 y2 y3 y4
   unfold hibernaclelaw16_volume.l1
   repeat' first
   | (with_reducible exact ih0 _ _ _)
   | (with_reducible exact ih1 _ _ _ _ _)
   | (with_reducible exact LeO.refl _)
   | (with_reducible exact LeO.none _)
   | (with_reducible refine LeO.ite ?_ ?_)
   | (with_reducible refine LeO.bind ?_ (fun _=>?_))
   | exact ih0 _ _ _
   | exact ih1 _ _ _ _ _
   | exact LeO.none _
   | refine LeO.ite ?_ ?_
   | refine LeO.bind ?_ (fun _=>?_)
theorem hibernaclelaw16_volume.mono:∀ a0 k,LeO (hibernaclelaw16_volume.f k a0) (hibernaclelaw16_volume.f (k + 1) a0):=by
 intro a0 k
 obtain ⟨ih0,ih1⟩:=hibernaclelaw16_volume.mono_l k
 unfold hibernaclelaw16_volume.f
 repeat' first
   | (with_reducible exact ih0 _ _ _)
   | (with_reducible exact ih1 _ _ _ _ _)
   | (with_reducible exact LeO.refl _)
   | (with_reducible exact LeO.none _)
   | (with_reducible refine LeO.ite ?_ ?_)
   | (with_reducible refine LeO.bind ?_ (fun _=>?_))
   | exact ih0 _ _ _
   | exact ih1 _ _ _ _ _
   | exact LeO.none _
   | refine LeO.ite ?_ ?_
   | refine LeO.bind ?_ (fun _=>?_)
set_option maxHeartbeats 8000000 in
set_option maxRecDepth 100000 in
theorem hibernaclelaw16_volume.calls (k:Nat) (a0:Int) (r:List ByteArray) (w:World) (h:hibernaclelaw16_volume.f k a0=some r) :
  Calls Try.prog 63 #[.int .i64 a0] w fun e w'=>∃ v0_:Value,e=.returned (v0_)∧Kd.R Kd.string 9 w' w.heap.size (fun _=>True) v0_ r∧Below w.heap.size w w':=by
 have HB:=Aside0.mk (Below.refl w.heap.size w)
 have H:(hibernaclelaw16_volume.l0 k a0 (([]:List ByteArray)) 0)=some r:=h
 clear h
 obtain ⟨y175,hy175⟩:∃ y_:List ByteArray,y_=(([]:List ByteArray)):=⟨_,rfl⟩
 replace H:(hibernaclelaw16_volume.l0 k a0 y175 0)=some r:=by first |(rw [hy175];with_reducible exact H) |(have H2_:=(Option.bind_some _ _).symm.trans H;rw [hy175];with_reducible exact H2_) |(have H2_:=(Option.bind_some _ _).symm.trans H;with_reducible exact H2_) |with_reducible exact H |(rw [hy175];exact H) |exact H
 have Ny175:=Aside0.mk hy175
 clear hy175
 have H':=Aside0.mk H
 clear H
 go_enter Try.func63,Try.ntmps63
 go_wp2_with (first |((with_reducible refine gate_dst (N:=7) rfl ?_);refine Kd.R_lit Kd.string _ 9 ?hg (N:=7) ?hd (xs:=([]:List ByteArray)) (inner:=[]) (ok:=fun _=>True) (okp:=fun _=>True) ?hr ?hp (fun _ hk=>hk) trivial (Below.refl _ _) (Nat.le_refl _) (by simp) ?_;(case hd=>rfl);(case hg=>rfl);(case hr=>first |(go_simp;done) |(go_simp;rfl));(case hp=>exact (Reps.none _ _));intro v176 w2 ho3 hb hg_ hnew_;clear hg_ hnew_;(first |rw [← Ny175.out] at ho3 |(simp only [Int.reduceToNat] at ho3;rw [← Ny175.out] at ho3));have n0_:=Aside0.mk (Kd.R_lower ho3 (below_size (by repeat (first |(with_reducible first |exact HB.out |apply below_alloc |apply pw_below_drewN |apply below_drew1) |exact HB.out))));have n1_:=Aside0.mk (below_step (by repeat (first |(with_reducible first |exact HB.out |apply below_alloc |apply pw_below_drewN |apply below_drew1) |exact HB.out)) hb);clear HB;have HO177:=n0_;have HB:=n1_;clear n0_ n1_;clear hb ho3))
 go_loopg [3,4] k (fun kq v3 v4 w'=>∃ (x3_1:List ByteArray) (x4_1:Int),v4=.int .i64 x4_1∧Aside0 (hibernaclelaw16_volume.l0 kq a0 x3_1 x4_1=some r)∧Aside0 (kq≤k)∧Aside0 (Kd.R Kd.string 9 w' w.heap.size (fun _=>True) v3 x3_1)∧Aside0 (Below w.heap.size w w'))
 case atStart=>exact ⟨(y175),(0),(by first |rfl |(simp;done) |(simp [*];done)),H',⟨Nat.le_refl _⟩,⟨by (with_reducible repeat (first |apply Kd.R_alloc |apply Kd.R_drewN |apply Kd.R_drew));exact HO177.out⟩,⟨by repeat (first |(with_reducible first |exact HB.out |apply below_alloc |apply pw_below_drewN |apply below_drew1) |exact HB.out)⟩⟩
 case round=>
  clear H'
  try clear p2
  obtain ⟨x3_1,x4_1,rfl,HA,HK1,HO_3,HB⟩:=hrel
  cases gk with
  | zero=>exact absurd HA.out (by simp [hibernaclelaw16_volume.l0])
  | succ k1=>
   have H:=HA.out
   clear HA
   simp only [hibernaclelaw16_volume.l0] at H
   by_cases c4:x4_1<a0
   ·rw [if_pos c4] at H
    have c4b0:decide (x4_1<a0)=true:=decide_eq_true c4
    clear c4
    by_cases c5:128≤281474976710656
    ·rw [if_pos c5] at H
     have c5b0:=eq_true c5
     have c5b1:decide (128≤281474976710656)=true:=decide_eq_true c5
     clear c5
     obtain ⟨y178,hy178⟩:∃ y_:List Int,y_=(List.replicate 128 0):=⟨_,rfl⟩
     replace H:(hibernaclelaw16_volume.l1 k1 a0 x3_1 x4_1 y178 0)=some r:=by first |(rw [hy178];with_reducible exact H) |(have H2_:=(Option.bind_some _ _).symm.trans H;rw [hy178];with_reducible exact H2_) |(have H2_:=(Option.bind_some _ _).symm.trans H;with_reducible exact H2_) |with_reducible exact H |(rw [hy178];exact H) |exact H
     have Ny178:=Aside0.mk hy178
     clear hy178
     have H':=Aside0.mk H
     clear H
     go_wp2_with (first |((with_reducible refine gate_dst (N:=13) rfl ?_);refine Kd.R_make (Kd.int .u8) _ 5 rfl (N:=13) rfl 77 _ _ rfl 128 rfl rfl Try.underlying77 (.int .u8 0) 1 info5 rfl (by decide) (by omega) 0 (ok:=fun _=>True) (okp:=fun _=>True) rfl (fun _ hk=>hk) trivial (by omega) (by omega) (Below.refl _ _) (Nat.le_refl _) ?_;intro v179 w6 ho7 hb hg_ hnew_;clear hg_ hnew_;(first |rw [← Ny178.out] at ho7 |(simp only [Int.reduceToNat] at ho7;rw [← Ny178.out] at ho7));have n0_:=Aside0.mk (Kd.R_below (by (with_reducible repeat (first |apply Kd.R_alloc |apply Kd.R_drewN |apply Kd.R_drew));exact HO_3.out) hb);have n1_:=Aside0.mk (Kd.R_lower ho7 (below_size (by repeat (first |(with_reducible first |exact HB.out |apply below_alloc |apply pw_below_drewN |apply below_drew1) |exact HB.out))));have n2_:=Aside0.mk (below_step (by repeat (first |(with_reducible first |exact HB.out |apply below_alloc |apply pw_below_drewN |apply below_drew1) |exact HB.out)) hb);clear HO_3;clear HB;have HO_3:=n0_;have HO180:=n1_;have HB:=n2_;clear n0_ n1_ n2_;clear hb ho7))
     go_loopg [6] k1 (fun kq v6 w'=>∃ (x5_2:List Int) (x6_2:Int),v6=.int .i64 x6_2∧Aside0 (hibernaclelaw16_volume.l1 kq a0 x3_1 x4_1 x5_2 x6_2=some r)∧Aside0 (kq≤k1)∧Aside0 (Kd.R Kd.string 9 w' w.heap.size (fun _=>True) u3 x3_1)∧Aside0 (Kd.R (Kd.int .u8) 5 w' w.heap.size (fun _=>True) v179 x5_2)∧Aside0 (Below w.heap.size w w'))
     case atStart=>exact ⟨(y178),(0),(by first |rfl |(simp;done) |(simp [*];done)),H',⟨Nat.le_refl _⟩,⟨by (with_reducible repeat (first |apply Kd.R_alloc |apply Kd.R_drewN |apply Kd.R_drew));exact HO_3.out⟩,⟨by (with_reducible repeat (first |apply Kd.R_alloc |apply Kd.R_drewN |apply Kd.R_drew));exact HO180.out⟩,⟨by repeat (first |(with_reducible first |exact HB.out |apply below_alloc |apply pw_below_drewN |apply below_drew1) |exact HB.out)⟩⟩
     case round=>
      clear H'
      try clear p2
      try clear c4
      try clear c4b0
      try clear c5
      try clear c5b0
      try clear c5b1
      try clear c6
      try clear p2
      obtain ⟨x5_2,x6_2,rfl,HA,HK2,HO_3,HO_5,HB⟩:=hrel
      cases gk with
      | zero=>exact absurd HA.out (by simp [hibernaclelaw16_volume.l1])
      | succ k2=>
       have H:=HA.out
       clear HA
       simp only [hibernaclelaw16_volume.l1] at H
       by_cases c8:x6_2<128
       ·rw [if_pos c8] at H
        have c8b0:decide (x6_2<128)=true:=decide_eq_true c8
        clear c8
        by_cases c9:0≤x6_2
        ·rw [if_pos c9] at H
         have c9b0:decide (0≤x6_2)=true:=decide_eq_true c9
         clear c9
         by_cases c10:x6_2<(x5_2.length:Int)
         ·rw [if_pos c10] at H
          have c10b0:decide (x6_2<(x5_2.length:Int))=true:=decide_eq_true c10
          clear c10
          obtain ⟨y181,hy181⟩:∃ y_:List Int,y_=(x5_2.set (x6_2:Int).toNat ((wrap64 (x4_1 + 1)) % 256)):=⟨_,rfl⟩
          replace H:(hibernaclelaw16_volume.l1 k2 a0 x3_1 x4_1 y181 (wrap64 (x6_2 + 1)))=some r:=by first |(rw [hy181];with_reducible exact H) |(have H2_:=(Option.bind_some _ _).symm.trans H;rw [hy181];with_reducible exact H2_) |(have H2_:=(Option.bind_some _ _).symm.trans H;with_reducible exact H2_) |with_reducible exact H |(rw [hy181];exact H) |exact H
          have Ny181:=Aside0.mk hy181
          clear hy181
          have H':=Aside0.mk H
          clear H
          have p11:0≤(x6_2:Int):=of_decide_eq_true (by first |(with_reducible assumption) |assumption)
          have q11:(x6_2:Int)<((x5_2.length:Int):Int):=of_decide_eq_true (by first |(with_reducible assumption) |assumption)
          obtain ⟨go11,co11,eo11,gb11,gl11,cl11,HG11⟩:=Kd.R_form HO_5.out (by omega)
          (first |cases eo11 |(injection eo11 with ea_ en_ ec_;(first |subst ea_ |(injection ea_ with ea_;subst ea_));subst ec_;clear en_))
          have GB11:=Aside0.mk gb11
          have GG11:=Aside0.mk HG11
          clear gb11 gl11 HG11
          obtain ⟨hx11_0,hf11_0⟩:=Kd.R_celln 0 HO_5.out (x6_2:Int) p11 q11
          replace p11:=eq_true p11
          replace q11:=eq_true q11
          have HP12:=Kd.R_putg HO_5.out (x6_2:Int) ((wrap64 (x4_1 + 1)) % 256)
          go_wp2_with (first |((with_reducible refine gate_store (t:=5) (p:=23) rfl ?_);refine store_event (t:=5) (p:=23) (v:=?vo_w13) (w1:=(wr.setCell ⟨go11,(x6_2:Int).toNat,none⟩ (.int .u8 ((wrap64 (x4_1 + 1)) % 256)))) ?hg ?ho ?hn ?hr ?_;(case ho=>rfl);(case hg=>rfl);(case hn=>rfl);(case hr=>first |(go_simp;done) |(go_simp;rfl));intro w13 hw;have hg:wr.grownBy w13 (some go11):=(by rw [hw];exact HP12.2);have hp_:Kd.R (Kd.int .u8) 5 w13 w.heap.size (fun _=>True) (.slice (some ⟨go11,0,none⟩) x5_2.length co11) y181:=(by rw [hw,Ny181.out];exact HP12.1);clear HP12;have n0_:=Aside0.mk (Kd.R_over' (v:=(.slice (some ⟨go11,0,none⟩) x5_2.length co11)) (by (with_reducible repeat (first |apply Kd.R_alloc |apply Kd.R_drewN |apply Kd.R_drew));exact HO_3.out) (Kd.R_typed HO_5.out) (by decide) hg);have n1_:=Aside0.mk (hp_);have n2_:=Aside0.mk ((by rw [hw];exact below_set (HB.out) GB11.out:Below w.heap.size w w13));clear HO_3;clear HO_5;clear HB;have HO_3:=n0_;have HO_5:=n1_;have HB:=n2_;clear n0_ n1_ n2_;clear hg hw hp_))
          go_roundg k2
          case measure=>have:=HK1.out;have:=HK2.out;omega
          case rel=>exact ⟨(y181),(wrap64 (x6_2 + 1)),(by first |rfl |(simp;done) |(simp [*];done)),H',⟨by have:=HK1.out;have:=HK2.out;omega⟩,⟨by (with_reducible repeat (first |apply Kd.R_alloc |apply Kd.R_drewN |apply Kd.R_drew));exact HO_3.out⟩,⟨by (with_reducible repeat (first |apply Kd.R_alloc |apply Kd.R_drewN |apply Kd.R_drew));exact HO_5.out⟩,⟨by repeat (first |(with_reducible first |exact HB.out |apply below_alloc |apply pw_below_drewN |apply below_drew1) |exact HB.out)⟩⟩
         ·rw [if_neg c10] at H
          exact absurd H (by simp)
        ·rw [if_neg c9] at H
         exact absurd H (by simp)
       ·rw [if_neg c8] at H
        have c8b0:decide (x6_2<128)=false:=decide_eq_false c8
        clear c8
        by_cases c14:x3_1.length<8796093022208
        ·rw [if_pos c14] at H
         have LMc14:=Aside0.mk c14
         clear c14
         obtain ⟨y182,hy182⟩:∃ y_:List ByteArray,y_=(x3_1 ++ [strOfNums x5_2]):=⟨_,rfl⟩
         replace H:(hibernaclelaw16_volume.l0 k2 a0 y182 (wrap64 (x4_1 + 1)))=some r:=by first |(rw [hy182];with_reducible exact H) |(have H2_:=(Option.bind_some _ _).symm.trans H;rw [hy182];with_reducible exact H2_) |(have H2_:=(Option.bind_some _ _).symm.trans H;with_reducible exact H2_) |with_reducible exact H |(rw [hy182];exact H) |exact H
         have Ny182:=Aside0.mk hy182
         clear hy182
         have H':=Aside0.mk H
         clear H
         have hcv15:=own_string (P:=Try.prog) Try.underlying77 Try.underlying5 Try.underlying9 (Kd.own_of_R HO_5.out)
         go_wp2_with (first |((with_reducible refine gate_builtin (b:=.append) (xs:=#[.tmp 24,.tmp 27]) rfl ?_);at_builtin;refine Kd.R_append Kd.string (w0:=w) w.heap.size rfl (.tmp 24) (.tmp 27) 22 9 (.string ⟨#[]⟩) 16 rfl Try.underlying22 info9 rfl (by decide) (by omega) u3 x3_1 (strOfNums x5_2) [.string (strOfNums x5_2)] (fun _=>True) (fun _=>False) rfl rfl ?aP (fun _ hk=>hk.elim) ?aF ?aO ?aB ?aS ?aL ?_;(case aP=>exact rfl);(case aB=>exact (by repeat (first |(with_reducible first |exact HB.out |apply below_alloc |apply pw_below_drewN |apply below_drew1) |exact HB.out)));(case aF=>exact (fun _ _=>trivial));(case aO=>exact (by (with_reducible repeat (first |apply Kd.R_alloc |apply Kd.R_drewN |apply Kd.R_drew));exact HO_3.out));(case aS=>exact (below_size (by repeat (first |(with_reducible first |exact HB.out |apply below_alloc |apply pw_below_drewN |apply below_drew1) |exact HB.out))));(case aL=>have:=LMc14.out;omega);intro v183 w16 ho hb hg hat;rw [← Ny182.out] at ho;have n0_:=Aside0.mk (Kd.R_over' (by (with_reducible repeat (first |apply Kd.R_alloc |apply Kd.R_drewN |apply Kd.R_drew));exact HO_5.out) (Kd.R_typed (by (with_reducible repeat (first |apply Kd.R_alloc |apply Kd.R_drewN |apply Kd.R_drew));exact HO_3.out)) (by decide) hg);have n1_:=Aside0.mk (hb);have n2_:=Aside0.mk (ho);clear HO_5;clear HB;clear HO_3;have HO_5:=n0_;have HB:=n1_;have HO184:=n2_;clear n0_ n1_ n2_;clear ho hb hg hat))
         go_roundg k2
         case measure=>have:=HK1.out;have:=HK2.out;omega
         case rel=>exact ⟨(y182),(wrap64 (x4_1 + 1)),(by first |rfl |(simp;done) |(simp [*];done)),H',⟨by have:=HK1.out;have:=HK2.out;omega⟩,⟨by (with_reducible repeat (first |apply Kd.R_alloc |apply Kd.R_drewN |apply Kd.R_drew));exact HO184.out⟩,⟨by repeat (first |(with_reducible first |exact HB.out |apply below_alloc |apply pw_below_drewN |apply below_drew1) |exact HB.out)⟩⟩
        ·rw [if_neg c14] at H
         exact absurd H (by simp)
    ·rw [if_neg c5] at H
     exact absurd H (by simp)
   ·rw [if_neg c4] at H
    have c4b0:decide (x4_1<a0)=false:=decide_eq_false c4
    clear c4
    obtain rfl:=Option.some.inj H
    go_wp2
    go_ret
    exact ⟨_,by first |rfl |(simp [errW_none,errW_some] <;> rfl) |(simp [*,errW_none,errW_some] <;> rfl),by (with_reducible repeat (first |apply Kd.R_alloc |apply Kd.R_drewN |apply Kd.R_drew));exact HO_3.out,by repeat (first |(with_reducible first |exact HB.out |apply below_alloc |apply pw_below_drewN |apply below_drew1) |exact HB.out)⟩
end Go.Proofs.Ytjfmnkmgnbbfgaa.A
set_option linter.unusedVariables false
set_option linter.unusedSimpArgs false
namespace Go.Proofs.Ytjfmnkmgnbbfgaa.A
open Go.RowKit Go.Proofs.YtjfmnkmgnbbfgaaW.PrintWords Go.Proofs.YtjfmnkmgnbbfgaaW.PrintLast Go.Proofs.YtjfmnkmgnbbfgaaW.PrintMore
theorem look_ok {n:Nat} {i:Int} {s:ByteArray} (h0:0≤i) (h1:i<n) (hs:(s.size:Int)=128):lookV n i s=0:=by
 unfold lookV
 rw [if_neg (by omega),if_neg (by omega)]
theorem lessV_pos (n:Nat) (hn:n≤1000000):lessV ((n + 1:Nat):Int)=(n:Int):=by
 unfold lessV
 rw [if_pos (by omega)]
 unfold wrap64
 omega
theorem doV_put (i:Int) (s:ByteArray) (cs:List CallV) (b:List ByteArray) (p:List S27) (a:Int) (hl:lookV b.length i s=0) (ha:a≠0):doV (.put i s :: cs) b p a=doV cs b (p ++ [⟨i,s⟩]) (lessV a):=by
 rw [doV]
 simp only [callV,putV,if_pos hl,if_neg ha,if_true]
theorem doV_flush (cs:List CallV) (b:List ByteArray) (p:List S27) (a:Int) (ha:a≠0):doV (.flush :: cs) b p a=doV cs (landTo b.length (fun _=>1) 0 p b) [] (lessV a):=by
 rw [doV]
 simp only [callV,flushV,if_neg ha,if_true]
theorem doV_flush0 (cs:List CallV) (b:List ByteArray) (p:List S27):doV (.flush :: cs) b p 0=(b,p,0,17):=by
 rw [doV]
 simp only [callV,flushV,if_true]
 rw [if_neg (by decide)]
theorem land_valid {b:List ByteArray} {p:List S27} (h:Valid b p):Valid (landTo b.length (fun _=>1) 0 p b) []:=by
 obtain ⟨h1,h2,h3⟩:=land_whole p 0 b h
 exact ⟨by rw [h1];exact h.1,h2,by simp⟩
theorem land_len {b:List ByteArray} {p:List S27} (h:Valid b p):(landTo b.length (fun _=>1) 0 p b).length=b.length:=(land_whole p 0 b h).1
theorem valid_snoc {b:List ByteArray} {p:List S27} (h:Valid b p) {i:Int} {s:ByteArray} (hl:lookV b.length i s=0):Valid b (p ++ [⟨i,s⟩]):=by
 refine ⟨h.1,h.2.1,fun x hx=>?_⟩
 rcases List.mem_append.1 hx with hx |hx
 ·exact h.2.2 x hx
 ·obtain rfl:=List.mem_singleton.1 hx
  exact hl
theorem form_valid (v:List ByteArray) (hn:v.length≤223) (hw:whole v=true):Valid (List.replicate 33 zeroS ++ v) []:=by
 refine ⟨by simp;omega,fun s hs=>?_,by simp⟩
 rcases List.mem_append.1 hs with hs |hs
 ·rw [List.eq_of_mem_replicate hs,zeroS_B,zeroB_size];rfl
 ·exact of_decide_eq_true (List.all_eq_true.1 hw s hs)
def volS:List ByteArray:=(hibernaclelaw16_volume.f 300 2).getD []
theorem volS_some:hibernaclelaw16_volume.f 300 2=some volS:=by kernel_rfl
theorem volS_two:volS.length=2:=by kernel_rfl
theorem volS_whole:whole volS=true:=by kernel_rfl
def s0:ByteArray:=rdOf ByteArray.empty volS 0
def Eva:List ByteArray:=List.replicate 33 zeroS ++ volS
theorem Eva_len:Eva.length=35:=by rw [Eva,List.length_append,volS_two];rfl
theorem s0_size:s0.size=128:=by
 have h:=rd_mem volS 0 (by omega) (by rw [volS_two];decide)
 have:=of_decide_eq_true (List.all_eq_true.1 volS_whole _ h)
 show (rdOf ByteArray.empty volS 0).size=128
 omega
theorem Eva_valid:Valid Eva []:=form_valid volS (by rw [volS_two];omega) volS_whole
def l1S:List S27:=[⟨1,s0⟩]
theorem may_l1S:mayV l1S 2=0:=by
 have:=s0_size
 simp [mayV,l1S,mayL,this]
theorem plan_l1S:planC l1S=[.put 1 s0,.put 0 (headV l1S),.flush,.put 34 s0,.flush]:=by
 have:wrap64 34=34:=by unfold wrap64;omega
 simp [planC,putsC,putC,homeV,homeC,l1S,this]
theorem commit_Eva (a:Int):commitV Eva [] a l1S=doV [.put 1 s0,.put 0 (headV l1S),.flush,.put 34 s0,.flush] Eva [] a:=by
 rw [commitV,if_pos (badV_valid Eva_valid (by rw [Eva_len];omega)),if_pos ⟨by rw [Eva_len];exact may_l1S,by simp [l1S]⟩,plan_l1S]
theorem head_l1S:((headV l1S).size:Int)=128:=by rw [headV_size l1S (by simp [l1S])];rfl
def Evb:List ByteArray:=landTo Eva.length (fun _=>1) 0 [⟨1,s0⟩,⟨0,headV l1S⟩] Eva
theorem Evap_valid:Valid Eva [⟨1,s0⟩,⟨0,headV l1S⟩]:=by
 have h1:=valid_snoc Eva_valid (i:=1) (s:=s0) (look_ok (by omega) (by rw [Eva_len];decide) (by rw [s0_size];rfl))
 have h2:=valid_snoc h1 (i:=0) (s:=headV l1S) (look_ok (by omega) (by rw [Eva_len];decide) head_l1S)
 exact h2
theorem Evb_len:Evb.length=35:=by rw [Evb,land_len Evap_valid,Eva_len]
theorem Evb_valid:Valid Evb []:=land_valid Evap_valid
def Evc:List ByteArray:=landTo Evb.length (fun _=>1) 0 [⟨34,s0⟩] Evb
theorem Evbp_valid:Valid Evb [⟨34,s0⟩]:=valid_snoc Evb_valid (i:=34) (s:=s0) (look_ok (by omega) (by rw [Evb_len];decide) (by rw [s0_size];rfl))
theorem Evc_len:Evc.length=35:=by rw [Evc,land_len Evbp_valid,Evb_len]
theorem Evc_valid:Valid Evc []:=land_valid Evbp_valid
theorem less5:lessV 5=4∧lessV 4=3∧lessV 3=2∧lessV 2=1∧lessV 1=0:=⟨lessV_pos 4 (by omega),lessV_pos 3 (by omega),lessV_pos 2 (by omega),lessV_pos 1 (by omega),lessV_pos 0 (by omega)⟩
theorem awake4:commitV Eva [] 4 l1S=(Evb,[⟨34,s0⟩],0,17):=by
 obtain ⟨a5,a4,a3,a2,a1⟩:=less5
 rw [commit_Eva,doV_put _ _ _ _ _ _ (look_ok (by omega) (by rw [Eva_len];decide) (by rw [s0_size];rfl)) (by decide),a4,
  doV_put _ _ _ _ _ _ (look_ok (by omega) (by rw [Eva_len];decide) head_l1S) (by decide),a3,doV_flush _ _ _ _ (by decide),a2]
 show doV _ Evb [] 1=_
 rw [doV_put _ _ _ _ _ _ (look_ok (by omega) (by rw [Evb_len];decide) (by rw [s0_size];rfl)) (by decide),a1,doV_flush0]
 rfl
theorem awake5:commitV Eva [] 5 l1S=(Evc,[],0,0):=by
 obtain ⟨a5,a4,a3,a2,a1⟩:=less5
 rw [commit_Eva,doV_put _ _ _ _ _ _ (look_ok (by omega) (by rw [Eva_len];decide) (by rw [s0_size];rfl)) (by decide),a5,
  doV_put _ _ _ _ _ _ (look_ok (by omega) (by rw [Eva_len];decide) head_l1S) (by decide),a4,doV_flush _ _ _ _ (by decide),a3]
 show doV _ Evb [] 2=_
 rw [doV_put _ _ _ _ _ _ (look_ok (by omega) (by rw [Evb_len];decide) (by rw [s0_size];rfl)) (by decide),a2,doV_flush _ _ _ _ (by decide),a1]
 rfl
theorem home_Evc:homeL Evc []=[rdOf ByteArray.empty Evc 33,s0]:=by
 rw [homeL,if_pos (badV_valid Evc_valid (by rw [Evc_len];omega)),volL,Evc_len]
 have h34:rdOf ByteArray.empty Evc 34=s0:=by
  rw [Evc,(land_whole [⟨34,s0⟩] 0 Evb Evbp_valid).2.2 34 (by omega) (by rw [Evb_len];decide),show ([⟨34,s0⟩]:List S27)=[] ++ [⟨34,s0⟩] from rfl,getV_snoc4,if_pos rfl]
 show [getV Evc [] 33,getV Evc [] 34]=_
 rw [getV_nil,getV_nil,h34]
end Go.Proofs.Ytjfmnkmgnbbfgaa.A
