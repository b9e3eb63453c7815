/- Several texts of this claim in one: A100, M2. -/
import Derived.Test.YtjfmnkmgnbbfgaaA0
import Derived.Test.YtjfmnkmgnbbfgaaM1
import Derived.Test.YtjfmnkmgnbbfgaaA98
namespace Go.Proofs.Ytjfmnkmgnbbfgaa.A
open Go.RowKit Go.Proofs.YtjfmnkmgnbbfgaaW.PrintWords Go.Proofs.YtjfmnkmgnbbfgaaW.PrintLast Go.Proofs.YtjfmnkmgnbbfgaaW.PrintMore
attribute [local go_sem] max2_int min2_int max_two min_two max_three min_three max_four min_four   -- for this text's walks alone
set_option linter.unusedVariables false
set_option linter.unusedSimpArgs false
def num_Put.l0:Nat→Int→List Int→Int→Int→Option (ByteArray)
 | 0,_,_,_,_=>none
 | k + 1,x0,x5,x12,x13=>if x13<x12 then (if 0≤(wrap64 (8 * x13)) then (if 0≤x13 then (if x13<(x5.length:Int) then (num_Put.l0 k x0 (x5.set (x13:Int).toNat ((shr .u64 x0 (wrap64 (8 * x13))) % 256)) x12 (wrap64 (x13 + 1))) else (none)) else (none)) else (none)) else (some (strOfNums x5))
def num_Put.f (k:Nat) (a0:Int) (a1:Int):Option (ByteArray):=if 0≤(mn (mx a1 0) 8) then (if (mn (mx a1 0) 8:Int).toNat≤281474976710656 then ((some (List.replicate (mn (mx a1 0) 8:Int).toNat 0:List Int)).bind fun y164=>(num_Put.l0 k a0 y164 (y164.length:Int) 0)) else (none)) else (none)
theorem num_Put.mono_l:∀ k,(∀ y0 y1 y2 y3,LeO (num_Put.l0 k y0 y1 y2 y3) (num_Put.l0 (k + 1) y0 y1 y2 y3))
 | 0=>fun _ _ _ _ r h=>by simp [num_Put.l0] at h
 | k + 1=>by
  have ih0:=num_Put.mono_l k
  ·intro y0 y1 y2 y3
   unfold num_Put.l0
   repeat' first
   | (with_reducible exact ih0 _ _ _ _)
   | (with_reducible exact LeO.refl _)
   | (with_reducible exact LeO.none _)
   | (with_reducible refine LeO.ite ?_ ?_)
   | (with_reducible refine LeO.bind ?_ (fun _=>?_))
   | exact ih0 _ _ _ _
   | exact LeO.none _
   | refine LeO.ite ?_ ?_
   | refine LeO.bind ?_ (fun _=>?_)
theorem num_Put.mono:∀ a0 a1 k,LeO (num_Put.f k a0 a1) (num_Put.f (k + 1) a0 a1):=by
 intro a0 a1 k
 have ih0:=num_Put.mono_l k
 unfold num_Put.f
 repeat' first
   | (with_reducible exact ih0 _ _ _ _)
   | (with_reducible exact LeO.refl _)
   | (with_reducible exact LeO.none _)
   | (with_reducible refine LeO.ite ?_ ?_)
   | (with_reducible refine LeO.bind ?_ (fun _=>?_))
   | exact ih0 _ _ _ _
   | exact LeO.none _
   | refine LeO.ite ?_ ?_
   | refine LeO.bind ?_ (fun _=>?_)
set_option maxHeartbeats 8000000 in
set_option maxRecDepth 100000 in
theorem num_Put.calls (k:Nat) (a0:Int) (a1:Int) (r:ByteArray) (w:World) (h:num_Put.f k a0 a1=some r) :
  Calls Try.prog 100 #[.int .u64 a0,.int .i64 a1] w fun e w'=>e=.returned (.string r)∧Below w.heap.size w w':=by
 have HB:=Aside0.mk (Below.refl w.heap.size w)
 have H:(if 0≤(mn (mx a1 0) 8) then (if (mn (mx a1 0) 8:Int).toNat≤281474976710656 then ((some (List.replicate (mn (mx a1 0) 8:Int).toNat 0:List Int)).bind fun y164=>(num_Put.l0 k a0 y164 (y164.length:Int) 0)) else (none)) else (none))=some r:=h
 clear h
 obtain ⟨ji3,hji3⟩:∃ j_:Int,(mx a1 0)=j_:=⟨_,rfl⟩
 replace H:(if 0≤(mn (ji3) 8) then (if (mn (ji3) 8:Int).toNat≤281474976710656 then ((some (List.replicate (mn (ji3) 8:Int).toNat 0:List Int)).bind fun y164=>(num_Put.l0 k a0 y164 (y164.length:Int) 0)) else (none)) else (none))=some r:=by first |(rw [hji3] at H;exact H) |(simp only [hji3] at H ⊢;exact H)
 (try (have hji3l:0≤ji3:=by (rw [← hji3];unfold mx;(repeat' split) <;> omega)))
 (try (have hji3m:0≤ji3:=by omega))
 have hji3_:(if a1<0 then 0 else a1)=ji3:=hji3
 obtain ⟨ji4,hji4⟩:∃ j_:Int,(mn (ji3) 8)=j_:=⟨_,rfl⟩
 replace H:(if 0≤(ji4) then (if (ji4:Int).toNat≤281474976710656 then ((some (List.replicate (ji4:Int).toNat 0:List Int)).bind fun y164=>(num_Put.l0 k a0 y164 (y164.length:Int) 0)) else (none)) else (none))=some r:=by first |(rw [hji4] at H;exact H) |(simp only [hji4] at H ⊢;exact H)
 have hji4_:(if 8<(ji3) then 8 else (ji3))=ji4:=hji4
 by_cases c5:0≤(ji4)
 ·rw [if_pos c5] at H
  have c5b0:=eq_true c5
  have c5b1:decide (0≤(ji4))=true:=decide_eq_true c5
  clear c5
  by_cases c6:(ji4:Int).toNat≤281474976710656
  ·rw [if_pos c6] at H
   have c6b0:=eq_true c6
   have c6b1:decide ((ji4:Int).toNat≤281474976710656)=true:=decide_eq_true c6
   clear c6
   obtain ⟨y164,hy164⟩:∃ y_:List Int,y_=(List.replicate (ji4:Int).toNat 0):=⟨_,rfl⟩
   replace H:(num_Put.l0 k a0 y164 (y164.length:Int) 0)=some r:=by first |(rw [hy164];with_reducible exact H) |(have H2_:=(Option.bind_some _ _).symm.trans H;rw [hy164];with_reducible exact H2_) |(have H2_:=(Option.bind_some _ _).symm.trans H;with_reducible exact H2_) |with_reducible exact H |(rw [hy164];exact H) |exact H
   have Ny164:=Aside0.mk hy164
   clear hy164
   have H':=Aside0.mk H
   clear H
   go_enter Try.func100,Try.ntmps100
   go_wp2_with (first |((with_reducible refine gate_dst (N:=10) rfl ?_);refine Kd.R_make (Kd.int .u8) _ 5 rfl (N:=10) rfl 77 _ _ rfl ji4 rfl rfl Try.underlying77 (.int .u8 0) 1 info5 rfl (by decide) (by omega) 0 (ok:=fun _=>True) (okp:=fun _=>True) rfl (fun _ hk=>hk) trivial (of_decide_eq_true (by first |(with_reducible assumption) |assumption)) (Nat.le_trans (Nat.mul_le_mul_right _ (of_decide_eq_true (by first |(with_reducible assumption) |assumption):ji4.toNat≤281474976710656)) (by omega)) (Below.refl _ _) (Nat.le_refl _) ?_;intro v165 w7 ho8 hb hg_ hnew_;clear hg_ hnew_;(first |rw [← Ny164.out] at ho8 |(simp only [Int.reduceToNat] at ho8;rw [← Ny164.out] at ho8));have n0_:=Aside0.mk (Kd.R_lower ho8 (below_size (by repeat (first |(with_reducible first |exact HB.out |apply below_alloc |apply pw_below_drewN |apply below_drew1) |exact HB.out))));have n1_:=Aside0.mk (below_step (by repeat (first |(with_reducible first |exact HB.out |apply below_alloc |apply pw_below_drewN |apply below_drew1) |exact HB.out)) hb);clear HB;have HO166:=n0_;have HB:=n1_;clear n0_ n1_;clear hb ho8;obtain ⟨Ao9,co9,eo9⟩:=Kd.R_slice HO166.out;subst eo9))
   go_loopg [13] k (fun kq v13 w'=>∃ (x5_1:List Int) (x13_1:Int),v13=.int .i64 x13_1∧Aside0 (num_Put.l0 kq a0 x5_1 (y164.length:Int) x13_1=some r)∧Aside0 (kq≤k)∧Aside0 (Kd.R (Kd.int .u8) 5 w' w.heap.size (fun _=>True) (.slice Ao9 y164.length co9) x5_1)∧Aside0 (Below w.heap.size w w'))
   case atStart=>exact ⟨(y164),(0),(by first |rfl |(simp;done) |(simp [*];done)),H',⟨Nat.le_refl _⟩,⟨by (with_reducible repeat (first |apply Kd.R_alloc |apply Kd.R_drewN |apply Kd.R_drew));exact HO166.out⟩,⟨by repeat (first |(with_reducible first |exact HB.out |apply below_alloc |apply pw_below_drewN |apply below_drew1) |exact HB.out)⟩⟩
   case round=>
    clear H'
    try clear c1
    try clear p2
    try clear c5
    try clear c5b0
    try clear c5b1
    try clear c6
    try clear c6b0
    try clear c6b1
    obtain ⟨x5_1,x13_1,rfl,HA,HK1,HO_5,HB⟩:=hrel
    have hl5_1:=(Kd.R_reads' HO_5.out).1
    rw [hl5_1] at HO_5
    (try simp only [hl5_1])
    cases gk with
    | zero=>exact absurd HA.out (by simp [num_Put.l0])
    | succ k1=>
     have H:=HA.out
     clear HA
     simp only [num_Put.l0] at H
     by_cases c10:x13_1<(y164.length:Int)
     ·rw [if_pos c10] at H
      have c10b0:decide (x13_1<(y164.length:Int))=true:=decide_eq_true c10
      clear c10
      obtain ⟨ji11,hji11⟩:∃ j_:Int,(wrap64 (8 * x13_1))=j_:=⟨_,rfl⟩
      replace H:(if 0≤(ji11) then (if 0≤x13_1 then (if x13_1<(x5_1.length:Int) then (num_Put.l0 k1 a0 (x5_1.set (x13_1:Int).toNat ((shr .u64 a0 (ji11)) % 256)) (y164.length:Int) (wrap64 (x13_1 + 1))) else (none)) else (none)) else (none))=some r:=by first |(rw [hji11] at H;exact H) |(simp only [hji11] at H ⊢;exact H)
      have hji11w:(IntKind.i64.wrap (8 * x13_1))=ji11:=(i64_w _).trans hji11
      by_cases c12:0≤(ji11)
      ·rw [if_pos c12] at H
       have c12b0:=eq_true c12
       have c12b1:decide (0≤(ji11))=true:=decide_eq_true c12
       clear c12
       obtain ⟨ji13,hji13⟩:∃ j_:Int,(shr .u64 a0 (ji11))=j_:=⟨_,rfl⟩
       replace H:(if 0≤x13_1 then (if x13_1<(x5_1.length:Int) then (num_Put.l0 k1 a0 (x5_1.set (x13_1:Int).toNat ((ji13) % 256)) (y164.length:Int) (wrap64 (x13_1 + 1))) else (none)) else (none))=some r:=by first |(rw [hji13] at H;exact H) |(simp only [hji13] at H ⊢;exact H)
       have hji13_:(a0 / 2 ^ min (ji11).toNat 64)=ji13:=hji13
       have hji13z:(ji11)≤64→(a0 / 2 ^ (ji11).toNat)=ji13:=shr_small hji13
       by_cases c14:0≤x13_1
       ·rw [if_pos c14] at H
        have c14b0:decide (0≤x13_1)=true:=decide_eq_true c14
        clear c14
        by_cases c15:x13_1<(x5_1.length:Int)
        ·rw [if_pos c15] at H
         have c15b0:decide (x13_1<(x5_1.length:Int))=true:=decide_eq_true c15
         clear c15
         obtain ⟨y167,hy167⟩:∃ y_:List Int,y_=(x5_1.set (x13_1:Int).toNat ((ji13) % 256)):=⟨_,rfl⟩
         replace H:(num_Put.l0 k1 a0 y167 (y164.length:Int) (wrap64 (x13_1 + 1)))=some r:=by first |(rw [hy167];with_reducible exact H) |(have H2_:=(Option.bind_some _ _).symm.trans H;rw [hy167];with_reducible exact H2_) |(have H2_:=(Option.bind_some _ _).symm.trans H;with_reducible exact H2_) |with_reducible exact H |(rw [hy167];exact H) |exact H
         have Ny167:=Aside0.mk hy167
         clear hy167
         have H':=Aside0.mk H
         clear H
         have p16:0≤(x13_1:Int):=of_decide_eq_true (by first |(with_reducible assumption) |assumption)
         have q16:(x13_1:Int)<((x5_1.length:Int):Int):=of_decide_eq_true (by first |(with_reducible assumption) |assumption)
         obtain ⟨go16,co16,eo16,gb16,gl16,cl16,HG16⟩:=Kd.R_form HO_5.out (by omega)
         (first |cases eo16 |(injection eo16 with ea_ en_ ec_;(first |subst ea_ |(injection ea_ with ea_;subst ea_));subst ec_;clear en_))
         have GB16:=Aside0.mk gb16
         have GG16:=Aside0.mk HG16
         clear gb16 gl16 HG16
         obtain ⟨hx16_0,hf16_0⟩:=Kd.R_celln 0 HO_5.out (x13_1:Int) p16 q16
         replace p16:=eq_true p16
         replace q16:=eq_true q16
         have HP17:=Kd.R_putg HO_5.out (x13_1:Int) ((ji13) % 256)
         go_wp2_with (first |((with_reducible refine gate_store (t:=5) (p:=23) rfl ?_);refine store_event (t:=5) (p:=23) (v:=?vo_w18) (w1:=(wr.setCell ⟨go16,(x13_1:Int).toNat,none⟩ (.int .u8 ((ji13) % 256)))) ?hg ?ho ?hn ?hr ?_;(case ho=>rfl);(case hg=>rfl);(case hn=>rfl);(case hr=>first |(go_simp;done) |(go_simp;rfl));intro w18 hw;have hg:wr.grownBy w18 (some go16):=(by rw [hw];exact HP17.2);have hp_:Kd.R (Kd.int .u8) 5 w18 w.heap.size (fun _=>True) (.slice (some ⟨go16,0,none⟩) x5_1.length co9) y167:=(by rw [hw,Ny167.out];exact HP17.1);clear HP17;have n0_:=Aside0.mk (hp_);have n1_:=Aside0.mk ((by rw [hw];exact below_set (HB.out) GB16.out:Below w.heap.size w w18));clear HO_5;clear HB;have HO_5:=n0_;have HB:=n1_;clear n0_ n1_;clear hg hw hp_))
         (try simp only [← hl5_1])
         go_roundg k1
         case measure=>have:=HK1.out;omega
         case rel=>exact ⟨(y167),(wrap64 (x13_1 + 1)),(by first |rfl |(simp;done) |(simp [*];done)),H',⟨by have:=HK1.out;omega⟩,⟨by (try simp only [hl5_1]);(with_reducible repeat (first |apply Kd.R_alloc |apply Kd.R_drewN |apply Kd.R_drew));exact HO_5.out⟩,⟨by repeat (first |(with_reducible first |exact HB.out |apply below_alloc |apply pw_below_drewN |apply below_drew1) |exact HB.out)⟩⟩
        ·rw [if_neg c15] at H
         exact absurd H (by simp)
       ·rw [if_neg c14] at H
        exact absurd H (by simp)
      ·rw [if_neg c12] at H
       exact absurd H (by simp)
     ·rw [if_neg c10] at H
      have c10b0:decide (x13_1<(y164.length:Int))=false:=decide_eq_false c10
      try rw [hl5_1] at c10b0
      clear c10
      obtain rfl:=Option.some.inj H
      have hcv19:=own_string (P:=Try.prog) Try.underlying77 Try.underlying5 Try.underlying9 (Kd.own_of_R HO_5.out)
      go_wp2
      go_ret
      exact ⟨by first |rfl |(simp [errW_none,errW_some] <;> rfl) |(simp only [← hji3,← hji4];first |rfl |(simp [errW_none,errW_some] <;> rfl)) |(simp [*,errW_none,errW_some] <;> rfl),by repeat (first |(with_reducible first |exact HB.out |apply below_alloc |apply pw_below_drewN |apply below_drew1) |exact HB.out)⟩
  ·rw [if_neg c6] at H
   exact absurd H (by simp)
 ·rw [if_neg c5] at H
  exact absurd H (by simp)
end Go.Proofs.Ytjfmnkmgnbbfgaa.A
set_option linter.unusedVariables false
set_option linter.unusedSimpArgs false
namespace Go.Proofs.Ytjfmnkmgnbbfgaa.A
open Go.RowKit Go.Proofs.YtjfmnkmgnbbfgaaW.PrintWords Go.Proofs.YtjfmnkmgnbbfgaaW.PrintLast Go.Proofs.YtjfmnkmgnbbfgaaW.PrintMore
def le2 (x:Int):ByteArray:=strOfNums [x % 256,(x / 256) % 256]
theorem le2_size (x:Int):(le2 x).size=2:=by simp [le2,strOfNums_size]
theorem strOfNums_app (a b:List Int):strOfNums (a ++ b)=strOfNums a ++ strOfNums b:=by
 apply ByteArray.ext
 simp [strOfNums,ByteArray.data_append]
theorem nilB_app (a:ByteArray):(⟨#[]⟩:ByteArray) ++ a=a:=by
 apply ByteArray.ext
 simp [ByteArray.data_append]
theorem put2 (x:Int) (h0:0≤x) (h1:x<65536) (k:Nat) (hk:2<k):num_Put.f k x 2=some (le2 x):=by
 obtain ⟨k,rfl⟩:∃ j,k=j + 3:=⟨k - 3,by omega⟩
 have e0:mn (mx 2 0) 8=2:=by decide
 unfold num_Put.f
 rw [e0]
 have e1:wrap64 0=0:=by unfold wrap64;omega
 have e2:wrap64 1=1:=by unfold wrap64;omega
 have e3:wrap64 8=8:=by unfold wrap64;omega
 have e4:wrap64 2=2:=by unfold wrap64;omega
 have s0:shr .u64 x 0=x:=by simp [shr]
 have s1:shr .u64 x 8=x / 256:=by
  show x / 2 ^ min (8:Int).toNat 64=_
  show x / ((2:Int) ^ 8)=_
  rfl
 simp [num_Put.l0,e1,e2,e3,e4,s0,s1,le2,List.replicate]
theorem rput2 (x:Int) (h0:0≤x) (h1:x<65536) (k:Nat) (hk:2<k):hibernacleref01_Put.f k x 2=some (le2 x):=by
 obtain ⟨k,rfl⟩:∃ j,k=j + 3:=⟨k - 3,by omega⟩
 have e2:wrap64 (0 + 1)=1:=by unfold wrap64;omega
 have e4:wrap64 (1 + 1)=2:=by unfold wrap64;omega
 have t0:Int.tmod x 256 % 256=x % 256:=by rw [Int.tmod_eq_emod_of_nonneg h0];omega
 have d0:Int.tdiv x 256=x / 256:=Int.tdiv_eq_ediv_of_nonneg h0
 have w0:IntKind.u64.wrap (x / 256)=x / 256:=by
  have hb:IntKind.u64.bits=64:=rfl
  have hs:IntKind.u64.signed=false:=rfl
  unfold IntKind.wrap
  simp only [hb,hs,Bool.false_and,Bool.false_eq_true,if_false]
  omega
 have t1:Int.tmod (x / 256) 256 % 256=(x / 256) % 256:=by rw [Int.tmod_eq_emod_of_nonneg (by omega)];omega
 unfold hibernacleref01_Put.f
 simp only [hibernacleref01_Put.l0,e2,e4,t0,d0,w0,t1]
 have z1:(⟨#[]⟩:ByteArray).size + (strOfNums [x % 256]).size≤9223372036854775807:=by rw [strOfNums_size];simp [ByteArray.size]
 have z2:((⟨#[]⟩:ByteArray) ++ strOfNums [x % 256]).size + (strOfNums [x / 256 % 256]).size≤9223372036854775807:=by rw [nilB_app,strOfNums_size,strOfNums_size];simp
 simp only [Option.bind_some,if_pos z1,if_pos z2,show ((0:Int)<2)=True from by decide,show ((0:Int)<8)=True from by decide,show ((1:Int)<2)=True from by decide,show ((1:Int)<8)=True from by decide,show ((2:Int)<2)=False from by decide,if_true,if_false]
 rw [nilB_app,le2,← strOfNums_app]
 rfl
def zeroB (n:Nat):ByteArray:=repB ⟨#[0]⟩ n
theorem repL_succ (s:List UInt8) (n:Nat):Lib.repeatL s (n + 1)=s ++ Lib.repeatL s n:=rfl
theorem repL_snoc (s:List UInt8) (n:Nat):Lib.repeatL s (n + 1)=Lib.repeatL s n ++ s:=by
 induction n with
 | zero=>simp [Lib.repeatL]
 | succ n ih=>rw [repL_succ,ih,← List.append_assoc,← repL_succ,ih]
theorem repL_one (n:Nat):Lib.repeatL [(0:UInt8)] n=List.replicate n 0:=by
 induction n with
 | zero=>rfl
 | succ n ih=>rw [repL_succ,ih];rfl
theorem zeroB_size (n:Nat):(zeroB n).size=n:=by
 show (Lib.repeatL [(0:UInt8)] n).toArray.size=n
 rw [repL_one];simp
theorem zeroB_succ (n:Nat):zeroB (n + 1)=zeroB n ++ ⟨#[0]⟩:=by
 apply ByteArray.ext
 rw [ByteArray.data_append]
 show (Lib.repeatL [(0:UInt8)] (n + 1)).toArray=(Lib.repeatL [(0:UInt8)] n).toArray ++ #[0]
 rw [repL_snoc];simp
theorem zeroS_B:zeroS=zeroB 128:=rfl
theorem wzeros (n:Nat) (hn:n≤1000):wal_zeros.f (n:Int)=some (zeroB n):=by
 have h:strings_Repeat.f (⟨#[0]⟩:ByteArray) (n:Int)=some (zeroB n):=by
  unfold strings_Repeat.f
  have h1:(⟨#[0]⟩:ByteArray).size=1:=rfl
  rw [if_pos ⟨by omega,by omega,by rw [h1];omega⟩]
  rfl
 rw [wal_zeros.f,h];rfl
theorem rzeros_l0 (n:Nat) (hn:n≤1000) (d:Nat):∀ k i,i + d=n→d<k→hibernacleref16_zeros.l0 k (n:Int) (zeroB i) (i:Int)=some (zeroB n):=by
 induction d with
 | zero=>
  intro k i hi hk
  obtain ⟨k,rfl⟩:∃ j,k=j + 1:=⟨k - 1,by omega⟩
  obtain rfl:i=n:=by omega
  unfold hibernacleref16_zeros.l0
  rw [if_neg (by omega)]
 | succ d ih=>
  intro k i hi hk
  obtain ⟨k,rfl⟩:∃ j,k=j + 1:=⟨k - 1,by omega⟩
  unfold hibernacleref16_zeros.l0
  rw [if_pos (by omega),if_pos (by rw [zeroB_size];omega),← zeroB_succ,wrapS (by omega)]
  exact ih k (i + 1) (by omega) (by omega)
theorem rzeros (n:Nat) (hn:n≤1000) (k:Nat) (hk:n<k):hibernacleref16_zeros.f k (n:Int)=some (zeroB n):=rzeros_l0 n hn n k 0 (by omega) hk
def frontL (l:List S27) (acc:ByteArray):ByteArray:=l.foldl (fun a x=>a ++ le2 x.f0) acc
def markB:ByteArray:=⟨#[104,105,98,106]⟩
def frontV (l:List S27):ByteArray:=frontL l (markB ++ le2 l.length)
def frontZ (l:List S27):ByteArray:=frontV l ++ zeroB (70 - (frontV l).size)
def sumV (l:List S27):ByteArray:=strOfNums (digF hSum (joinS (frontZ l :: l.map (·.f1))))
def headV (l:List S27):ByteArray:=frontZ l ++ sumV l ++ zeroB 26
theorem frontL_size (l:List S27):∀ acc,(frontL l acc).size=acc.size + 2 * l.length:=by
 induction l with
 | nil=>intro acc;rfl
 | cons x l ih=>
  intro acc
  show (frontL l (acc ++ le2 x.f0)).size=_
  rw [ih,ByteArray.size_append,le2_size,List.length_cons];omega
theorem frontV_size (l:List S27):(frontV l).size=6 + 2 * l.length:=by
 rw [frontV,frontL_size,ByteArray.size_append,le2_size]
 rfl
theorem frontZ_size (l:List S27) (h:l.length≤32):(frontZ l).size=70:=by
 rw [frontZ,ByteArray.size_append,zeroB_size,frontV_size];omega
theorem frontL_snoc (l:List S27) (j:Nat) (hj:j<l.length) (acc:ByteArray):frontL (l.take (j + 1)) acc=frontL (l.take j) acc ++ le2 l[j].f0:=by
 rw [← List.take_append_getElem hj,frontL,List.foldl_append]
 rfl
theorem sumV_size (l:List S27):(sumV l).size=32:=by
 rw [sumV,strOfNums_size]
 simp [digF,fillB_length]
theorem headV_size (l:List S27) (h:l.length≤32):(headV l).size=128:=by
 rw [headV,ByteArray.size_append,ByteArray.size_append,zeroB_size,frontZ_size l h,sumV_size]
def Fit (l:List S27):Prop:=l.length≤32∧(∀ x ∈ l,0≤x.f0∧x.f0<65536)∧∀ x ∈ l,x.f1.size=128
theorem fit_mayL (n:Int) (hn:n≤65536) (l:List S27):∀ S,mayL n S l=0→(∀ x ∈ l,0≤x.f0∧x.f0<n)∧∀ x ∈ l,x.f1.size=128:=by
 induction l with
 | nil=>intro S h;simp
 | cons x l ih=>
  intro S h
  rw [mayL] at h
  split at h
  ·cases h
  ·split at h
   ·split at h
    ·cases h
    ·obtain ⟨h1,h2⟩:=ih _ h
     refine ⟨fun y hy=>?_,fun y hy=>?_⟩
     ·rcases List.mem_cons.1 hy with rfl |hy
      ·omega
      ·exact h1 y hy
     ·rcases List.mem_cons.1 hy with rfl |hy
      ·assumption
      ·exact h2 y hy
   ·cases h
theorem fit_may (n:Int) (hn:n≤65536) (l:List S27) (h:mayV l n=0):Fit l:=by
 unfold mayV at h
 split at h
 ·cases h
 ·obtain ⟨h1,h2⟩:=fit_mayL n hn l [] h
  exact ⟨by omega,fun x hx=>⟨(h1 x hx).1,by have:=(h1 x hx).2;omega⟩,h2⟩
end Go.Proofs.Ytjfmnkmgnbbfgaa.A
