/- wal.told: the writes that a drive's journal tells. -/
import Derived.Test.YtjfmnkmgnbbfgaaC4
import Derived.Test.YtjfmnkmgnbbfgaaA103
set_option linter.unusedVariables false
set_option linter.unusedSimpArgs false
namespace Go.Proofs.Ytjfmnkmgnbbfgaa.A
open Go.RowKit Go.Proofs.YtjfmnkmgnbbfgaaW.PrintWords Go.Proofs.YtjfmnkmgnbbfgaaW.PrintLast Go.Proofs.YtjfmnkmgnbbfgaaW.PrintMore
def get2 (s:ByteArray):Int:=bt s 0 + 256 * bt s 1
theorem or_256 (a b:Int) (ha0:0≤a) (ha:a<256) (hb0:0≤b) (hb:b<256):Go.bits .or .u64 a (b * 256)=a + 256 * b:=by
 have h:(List.range 256).all (fun x=>(List.range 256).all (fun y=>Go.bits .or .u64 (x:Int) ((y:Int) * 256) == (x:Int) + 256 * (y:Int)))=true:=by kernel_rfl
 obtain ⟨x,rfl⟩:=Int.eq_ofNat_of_zero_le ha0
 obtain ⟨y,rfl⟩:=Int.eq_ofNat_of_zero_le hb0
 have h1:=List.all_eq_true.1 h x (List.mem_range.2 (by omega))
 have h2:=List.all_eq_true.1 h1 y (List.mem_range.2 (by omega))
 exact eq_of_beq h2
theorem bt_bounds (s:ByteArray) (i:Int):0≤bt s i∧bt s i<256:=by
 unfold bt
 split
 ·rename_i h
  exact ⟨by omega,by have:=UInt8.toNat_lt (s[i.toNat]'h);omega⟩
 ·exact ⟨by omega,by omega⟩
theorem u64_byte (x:Int) (h0:0≤x) (h1:x<256):IntKind.u64.wrap x=x:=u64_small x h0 (by omega)
theorem get2_bounds (s:ByteArray):0≤get2 s∧get2 s<65536:=by
 have h0:=bt_bounds s 0
 have h1:=bt_bounds s 1
 unfold get2
 omega
theorem nget2 (s:ByteArray) (hs:s.size=2) (k:Nat) (hk:3<k):num_Get.f k s=some (get2 s):=by
 obtain ⟨k,rfl⟩:∃ j,k=j + 3:=⟨k - 3,by omega⟩
 have h0:=bt_bounds s 0
 have h1:=bt_bounds s 1
 have e0:mn (s.size:Int) 8=2:=by rw [hs];decide
 have a1:wrap64 (0 + 1)=1:=by unfold wrap64;omega
 have a2:wrap64 (1 + 1)=2:=by unfold wrap64;omega
 have a3:wrap64 (8 * 0)=0:=by unfold wrap64;omega
 have a4:wrap64 (8 * 1)=8:=by unfold wrap64;omega
 have s0:shl .u64 (IntKind.u64.wrap (bt s 0)) 0=bt s 0:=by
  rw [u64_byte _ h0.1 h0.2]
  show IntKind.u64.wrap (bt s 0 * 2 ^ min (0:Int).toNat 64)=_
  rw [show (2:Int) ^ min (0:Int).toNat 64=1 from rfl,Int.mul_one,u64_byte _ h0.1 h0.2]
 have s1:shl .u64 (IntKind.u64.wrap (bt s 1)) 8=bt s 1 * 256:=by
  rw [u64_byte _ h1.1 h1.2]
  show IntKind.u64.wrap (bt s 1 * 2 ^ min (8:Int).toNat 64)=_
  rw [show (2:Int) ^ min (8:Int).toNat 64=256 from rfl,u64_small _ (by omega) (by omega)]
 have o0:Go.bits .or .u64 0 (bt s 0)=bt s 0:=by
  have h:(List.range 256).all (fun x=>Go.bits .or .u64 0 (x:Int) == (x:Int))=true:=by kernel_rfl
  obtain ⟨x,hx⟩:=Int.eq_ofNat_of_zero_le h0.1
  rw [hx]
  exact eq_of_beq (List.all_eq_true.1 h x (List.mem_range.2 (by omega)))
 unfold num_Get.f
 rw [e0]
 simp only [num_Get.l0,hs,a1,a2,a3,a4,s0,s1,o0,or_256 _ _ h0.1 h0.2 h1.1 h1.2]
 simp [get2]
def tellAt (f:ByteArray) (i:Nat):Int:=get2 (f.extract (6 + 2 * i) (8 + 2 * i))
def tellL (b:List ByteArray) (p:List S27) (f:ByteArray) (n:Nat):List S27:=(List.range n).map fun i:Nat=>⟨tellAt f i,getV b p ((i + 1:Nat):Int)⟩
def tellN (f:ByteArray):Int:=get2 (f.extract 4 6)
def tellOk (f:ByteArray):Prop:=(f.extract 0 4).toList=[104,105,98,106]∧1≤tellN f∧tellN f≤32
instance (f:ByteArray):Decidable (tellOk f):=by unfold tellOk;infer_instance
def tellV (b:List ByteArray) (p:List S27):List S27:=
 if tellOk (getV b p 0) then if mayV (tellL b p (getV b p 0) (tellN (getV b p 0)).toNat) ((b.length:Int) - 33)=0∧headV (tellL b p (getV b p 0) (tellN (getV b p 0)).toNat)=getV b p 0 then tellL b p (getV b p 0) (tellN (getV b p 0)).toNat else [] else []
theorem tellL_succ (b:List ByteArray) (p:List S27) (f:ByteArray) (n:Nat):tellL b p f (n + 1)=tellL b p f n ++ [⟨tellAt f n,getV b p ((n + 1:Nat):Int)⟩]:=by
 rw [tellL,List.range_succ,List.map_append];rfl
theorem tellL_len (b:List ByteArray) (p:List S27) (f:ByteArray) (n:Nat):(tellL b p f n).length=n:=by simp [tellL]
theorem getV_size {b:List ByteArray} {p:List S27} (h:Valid b p) (i:Int) (h0:0≤i) (h1:i<b.length):(getV b p i).size=128:=by
 obtain ⟨_,h2,h3⟩:=land_whole p 0 b h
 rw [← h3 i h0 h1]
 have:=h2 _ (rd_mem _ i h0 (by rw [(land_whole p 0 b h).1];exact h1))
 omega
theorem toL_inj {a b:ByteArray} (h:a.toList=b.toList):a=b:=by
 rw [ByteArray.toList_eq,ByteArray.toList_eq] at h
 apply ByteArray.ext
 rw [← Array.toList_inj]
 exact h
theorem str_cut (s:ByteArray) (i j:Int) (h0:0≤i) (h1:i≤j) (h2:j≤s.size) (w:World):(Instr.slice 9 (.string s) (some (.int .i64 i)) (some (.int .i64 j)) none).run Try.prog w=.ok (.string (s.extract i.toNat j.toNat)) w:=by
 have ej:(j.toNat:Int)=j:=Int.toNat_of_nonneg (by omega)
 simp [Instr.slice,run_underlying Try.underlying9,Instr.sliceBounds,run_sliceBound,sliced, *,(by omega:0≤j),ej,Result.andThen]
theorem getc_walk (i:Int) (u:Nat) (A0:Option Addr) (c0:Nat) (b:List ByteArray) (A1:Option Addr) (c1:Nat) (p:List S27) (a:Int) (ok:Nat→Prop) (w:World)
  (hu:w.heap[u]?=some (.cells #[.slice A0 b.length c0,.slice A1 p.length c1,.int .i64 a] 29 (0,0))) (hd:Dr w ok (.slice A0 b.length c0) (.slice A1 p.length c1) b p) (h0:0≤i) (h1:i<b.length) (hp:p.length≤1000) :
  Calls Try.prog 101 #[.int .i64 i,.pointer (some ⟨u,0,none⟩)] w fun e w'=>e=.returned (.string (getV b p i))∧Below w.heap.size w w':=by
 have hu29:=Try.underlying29
 have k0:=(blk_cell hu 0).trans rfl
 have k1:=(blk_cell hu 1).trans rfl
 have k2:=(blk_cell hu 2).trans rfl
 have hg:drive_Get.f b p a i=some (getV b p i,0):=by rw [dget_many b p a i hp,if_neg (by omega)]
 have HG:=Aside0.mk hg
 have HD:=Aside0.mk hd
 clear hu hg hd
 go_enter Try.func101,Try.ntmps101
 go_wp2_with (first
  | ((with_reducible refine gate_dst (N:=9) rfl ?_);refine goesL_ (some 9) rfl rfl Try.func43 (by kernel_rfl) rfl #[.agg #[.slice A0 b.length c0,.slice A1 p.length c1,.int .i64 a],.int .i64 i] rfl (by (try simp only [List.map_toArray,List.map_cons,List.map_nil]);first |done |rfl) ?_;refine (drive_Get.calls A0 c0 b A1 c1 p a i (getV b p i) 0 _ (Kd.V_reads' HD.out.1).2.2 (Kd.V_reads' HD.out.1).2.1 (Kd.V_reads' HD.out.2).2.2 (Kd.V_reads' HD.out.2).2.1 HG.out).mono ?_;rintro e w1 ⟨rfl,hb1⟩;refine ⟨_,rfl, ?_⟩;have HB1:=Aside0.mk hb1;clear hb1 k0 k1 k2)
  | fail)
 go_ret
 exact ⟨rfl,HB1.out⟩
set_option maxHeartbeats 8000000 in
set_option maxRecDepth 100000 in
theorem told_walk (A0:Option Addr) (c0:Nat) (b:List ByteArray) (A1:Option Addr) (c1:Nat) (p:List S27) (a:Int) (ok:Nat→Prop) (w:World)
  (hd:Dr w ok (.slice A0 b.length c0) (.slice A1 p.length c1) b p) (hv:Valid b p) (h33:33<b.length) (hp:p.length≤1000) :
  Calls Try.prog 71 #[.agg #[.slice A0 b.length c0,.slice A1 p.length c1,.int .i64 a]] w fun e w'=>∃ v,e=.returned v∧Kd.R k27 27 w' w.heap.size (fun _=>True) v (tellV b p)∧Below w.heap.size w w':=by
 have hu29:=Try.underlying29
 have hu27:=Try.underlying27
 have HD:=Aside0.mk hd
 have h256:=hv.1
 have hFs:=getV_size hv 0 (by omega) (by omega)
 have HVL:=Aside0.mk hv
 clear hd hv
 go_enter Try.func71,Try.ntmps71
 go_wp2_with (first
  | ((with_reducible refine gate_dst (N:=1) rfl ?_);refine box_event ?hg (N:=1) ?hd (cs:=#[.slice A0 b.length c0,.slice A1 p.length c1,.int .i64 a]) (t:=29) ?hr ?_;(case hd=>rfl);(case hg=>rfl);(case hr=>first |(go_simp;done) |(go_simp;rfl));intro b1 hb1 w1 hx1 hl1;have HX1:=Aside0.mk hx1;have HL1:=Aside0.mk hl1;have HB1:=Aside0.mk hb1;clear hx1 hl1 hb1)
  | fail)
 have hgv:=getc_walk 0 b1 A0 c0 b A1 c1 p a ok w1 HX1.out (HD.out.below HL1.out) (by omega) (by omega) hp
 have hTV:tellV b p=if tellOk (getV b p 0) then if mayV (tellL b p (getV b p 0) (tellN (getV b p 0)).toNat) ((b.length:Int) - 33)=0∧headV (tellL b p (getV b p 0) (tellN (getV b p 0)).toNat)=getV b p 0 then tellL b p (getV b p 0) (tellN (getV b p 0)).toNat else [] else []:=rfl
 obtain ⟨F,hF⟩:∃ z,z=getV b p 0:=⟨_,rfl⟩
 rw [← hF] at hgv hTV hFs
 have HTV:=Aside0.mk hTV
 clear hF hTV
 obtain ⟨N,hN⟩:∃ z,z=tellN F:=⟨_,rfl⟩
 have hNb:=get2_bounds (F.extract 4 6)
 change 0≤tellN F∧tellN F<65536 at hNb
 have hnum:num_Get.f 10 (F.extract 4 6)=some N:=by rw [nget2 _ (by rw [ByteArray.size_extract];omega) 10 (by omega),hN];rfl
 rw [← hN] at hNb
 have HN:=Aside0.mk hN
 have HNUM:=Aside0.mk hnum
 have hNw:wrap64 N=N:=by unfold wrap64;omega
 clear hN hnum
 refine hgv.mono ?_
 rintro e w2 ⟨rfl,hb2⟩
 have HGV:=Aside0.mk hb2
 clear hb2 hgv
 have hmk:(⟨#[104,105,98,106]⟩:ByteArray).toList=[104,105,98,106]:=by kernel_rfl
 have hhp0:strings_HasPrefix.f F ⟨#[104,105,98,106]⟩=some ((F.extract 0 4).toList == [104,105,98,106]):=by
  unfold strings_HasPrefix.f stringslite_HasPrefix.f
  have hm:(⟨#[104,105,98,106]⟩:ByteArray).size=4:=rfl
  rw [hm,if_pos (by omega),if_pos (by omega),if_pos (by omega)]
  show some ((F.extract 0 4).toList == (⟨#[104,105,98,106]⟩:ByteArray).toList)=_
  rw [hmk]
 clear hmk
 by_cases hok:tellOk F
 ·obtain ⟨hpre,hn1,hn2⟩:=hok
  rw [← HN.out] at hn1 hn2
  have HHP:Aside0 (strings_HasPrefix.f F ⟨#[104,105,98,106]⟩=some true):=⟨by rw [hhp0,hpre];rfl⟩
  have d1:(N<1)=False:=eq_false (by omega)
  have d2:(32<N)=False:=eq_false (by omega)
  have HPRE:=Aside0.mk hpre
  clear hhp0 hpre
  go_wp2_with (first
   | ((with_reducible refine gate_dst (N:=14) rfl ?_);refine goesL_ (some 14) rfl rfl Try.func102 (by kernel_rfl) rfl #[.string (F.extract 4 6)] rfl (by (try simp only [List.map_toArray,List.map_cons,List.map_nil]);first |done |rfl) ?_;refine (num_Get.calls 10 (F.extract 4 6) N _ HNUM.out).mono ?_;rintro e w3 ⟨rfl,hb3⟩;refine ⟨_,rfl, ?_⟩;have HB3:=Aside0.mk hb3;clear hb3)
   | ((with_reducible refine gate_dst (N:=17) rfl ?_);refine goesL_ (some 17) rfl rfl Try.func103 (by kernel_rfl) rfl #[.string F,.string ⟨#[104,105,98,106]⟩] rfl (by (try simp only [List.map_toArray,List.map_cons,List.map_nil]);first |done |rfl) ?_;refine (strings_HasPrefix.calls F ⟨#[104,105,98,106]⟩ true _ HHP.out).mono ?_;rintro e w4 ⟨rfl,⟨⟨n4,hw4⟩⟩⟩;refine ⟨_,rfl, ?_⟩;have HB4:Aside0 (Below w3.heap.size w3 w4):=⟨by rw [hw4];exact pw_below_drewN (Below.refl _ _) n4⟩;clear hw4)
   | fail)
  have hB4:=below_step (below_step (below_step HL1.out HGV.out) HB3.out) HB4.out
  have hX4:=blk_below (blk_below (blk_below HX1.out HGV.out) HB3.out) HB4.out
  have hD4:=HD.out.below hB4
  have HB40:=Aside0.mk hB4
  have HX40:=Aside0.mk hX4
  have HD40:=Aside0.mk hD4
  clear hB4 hX4 hD4 d1 d2
  go_loopw [6,28] (fun v i wr=>∃ j:Nat,(j:Int)≤N∧i=.int .i64 (j:Int)∧Aside0 (Kd.R k27 27 wr w4.heap.size (fun _=>True) v (tellL b p F j))∧Aside0 (Below w4.heap.size w4 wr)) (fun _ i _=>N.toNat - (intOf i).toNat)
  case atStart=>exact ⟨0,by omega,rfl,⟨Kd.R_nil _ _ _ _ _⟩,⟨Below.refl _ _⟩⟩
  case round=>
   obtain ⟨j,hj,rfl,HR,HB⟩:=hrel
   by_cases hlt:(j:Int)<N
   ·have hjr:(j:Int)≤140737488355328:=by omega
    have hj32:j≤31:=by omega
    have w1_:wrap64 (2 * (j:Int))=2 * (j:Int):=by unfold wrap64;omega
    have w2_:wrap64 (6 + 2 * (j:Int))=6 + 2 * (j:Int):=by unfold wrap64;omega
    have w3_:wrap64 (6 + 2 * (j:Int) + 2)=6 + 2 * (j:Int) + 2:=by unfold wrap64;omega
    have hx1:F.extract (6 + 2 * (j:Int)).toNat (6 + 2 * (j:Int) + 2).toNat=F.extract (6 + 2 * j) (8 + 2 * j):=by
     rw [show (6 + 2 * (j:Int)).toNat=6 + 2 * j by omega,show (6 + 2 * (j:Int) + 2).toNat=8 + 2 * j by omega]
    have hnum2:num_Get.f 10 (F.extract (6 + 2 * j) (8 + 2 * j))=some (tellAt F j):=by rw [nget2 _ (by rw [ByteArray.size_extract];omega) 10 (by omega)];rfl
    have htb:=get2_bounds (F.extract (6 + 2 * j) (8 + 2 * j))
    change 0≤tellAt F j∧tellAt F j<65536 at htb
    have htw:wrap64 (tellAt F j)=tellAt F j:=by unfold wrap64;omega
    have hsl:=fun W=>str_cut F (6 + 2 * (j:Int)) (6 + 2 * (j:Int) + 2) (by omega) (by omega) (by omega) W
    rw [hx1] at hsl
    obtain ⟨x,hx⟩:∃ z:S27,z=⟨tellAt F j,getV b p ((j + 1:Nat):Int)⟩:=⟨_,rfl⟩
    have hts:=tellL_succ b p F j
    rw [← hx] at hts
    have hxa:tellAt F j=x.f0:=by rw [hx]
    have hxb:getV b p ((j + 1:Nat):Int)=x.f1:=by rw [hx]
    have hgv:=fun W (h1:Below w4.heap.size w4 W)=>getc_walk ((j:Int) + 1) b1 A0 c0 b A1 c1 p a ok W (blk_below HX40.out h1) (HD40.out.below h1) (by omega) (by omega) hp
    rw [show ((j:Int) + 1)=((j + 1:Nat):Int) by omega,hxb] at hgv
    rw [hxa] at htb htw hnum2
    have HNUM2:=Aside0.mk hnum2
    have HTS:=Aside0.mk hts
    have HGV2:=Aside0.mk hgv
    clear hx hts hxa hxb hgv hnum2
    go_wp2_with (first
     | ((with_reducible refine gate_dst (N:=40) rfl ?_);refine goesL_ (some 40) rfl rfl Try.func102 (by kernel_rfl) rfl #[.string (F.extract (6 + 2 * j) (8 + 2 * j))] rfl (by (try simp only [List.map_toArray,List.map_cons,List.map_nil]);first |done |rfl) ?_;refine (num_Get.calls 10 (F.extract (6 + 2 * j) (8 + 2 * j)) x.f0 _ HNUM2.out).mono ?_;rintro e w5 ⟨rfl,hb5⟩;refine ⟨_,rfl, ?_⟩;have HB5:=Aside0.mk hb5;clear hb5)
     | fail)
    refine (show Calls Try.prog 101 #[.int .i64 ((j:Int) + 1),.pointer (some ⟨b1,0,none⟩)] w5 (fun e w'=>e=.returned (.string x.f1)∧Below w5.heap.size w5 w') from HGV2.out w5 (below_step HB.out HB5.out)).mono ?_
    rintro e w6 ⟨rfl,hb6⟩
    have HB6:=Aside0.mk (below_step (below_step HB.out HB5.out) hb6)
    have HR6:=Aside0.mk (Kd.R_below (Kd.R_below HR.out HB5.out) hb6)
    clear hb6
    go_wp2_with (first
     | ((with_reducible refine gate_builtin (b:=.append) (xs:=#[.tmp 34,.tmp 47]) rfl ?_);at_builtin;refine Kd.R_append k27 (w0:=w4) w4.heap.size rfl (.tmp 34) (.tmp 47) 23 27 (.agg #[(.int .i64 0),(.string ⟨#[]⟩)]) 24 rfl Try.underlying23 info27 rfl (by decide) (by omega) u6 (tellL b p F j) x [.int .i64 x.f0,.string x.f1] (fun _=>True) (fun _=>False) rfl rfl (k27_mkM _ _ _ x) (fun _ hk=>hk.elim) (fun _ _=>trivial) HR6.out HB6.out HB6.out.size ?aL ?_;(case aL=>rw [tellL_len];omega);intro v7 w7 ho hb7 hg hat;have HR7:=Aside0.mk ho;have HB7:=Aside0.mk hb7;clear ho hb7 hg hat)
     | fail)
    go_roundw
    case rel=>
     refine ⟨j + 1,by omega,by simp,⟨?_⟩,HB7⟩
     rw [HTS.out]
     exact HR7.out
    case measure=>simp only [intOf];omega
   ·obtain ⟨n,hn⟩:∃ n:Nat,n=N.toNat:=⟨_,rfl⟩
    obtain rfl:j=n:=by omega
    obtain ⟨L,hL⟩:∃ z,z=tellL b p F j:=⟨_,rfl⟩
    have hLl:L.length=j:=by rw [hL,tellL_len]
    have hR:=HR.out
    rw [← hL] at hR
    obtain ⟨A6,c6,rfl⟩:=Kd.R_slice hR
    have hC:=Kd.R_reads' hR
    have HC:=Aside0.mk hC
    have HR:=Aside0.mk hR
    have hNn:N.toNat=j:=by omega
    have hT:tellV b p=if mayV L ((b.length:Int) - 33)=0∧headV L=F then L else []:=by
     rw [HTV.out,if_pos ⟨HPRE.out,by rw [← HN.out];omega,by rw [← HN.out];omega⟩,← HN.out,hNn,← hL]
    have HT:=Aside0.mk hT
    have hws:wrap64 ((b.length:Int) - 33)=(b.length:Int) - 33:=by unfold wrap64;omega
    have hX:=blk_below HX40.out HB.out
    have j0:=(blk_cell hX 0).trans rfl
    have HBB:=Aside0.mk (below_step HB40.out HB.out)
    have HLl:=Aside0.mk hLl
    clear hC hR hL hX hn HN HTV hLl
    by_cases hm0:mayV L ((b.length:Int) - 33)=0
    ·have hmb:(mayV L ((b.length:Int) - 33) != 0)=false:=bne_eq_false_iff_eq.mpr hm0
     have HFIT:=Aside0.mk (fit_may _ (by omega) L hm0)
     by_cases hh:headV L=F
     ·rw [if_pos ⟨hm0,hh⟩] at hT
      have hq2:((headV L).toList == F.toList)=true:=by rw [hh];exact beq_self_eq_true _
      have HTT:=Aside0.mk hT
      clear hT HT
      go_wp2_with (first
       | ((with_reducible refine gate_dst (N:=55) rfl ?_);refine goesL_ (some 55) rfl rfl Try.func66 (by kernel_rfl) rfl #[.slice A6 L.length c6,.int .i64 ((b.length:Int) - 33)] rfl (by (try simp only [List.map_toArray,List.map_cons,List.map_nil]);first |done |rfl) ?_;refine (may_walk A6 c6 L ((b.length:Int) - 33) _ HC.out.2.2 HC.out.2.1).mono ?_;rintro e w8 ⟨rfl,hb8⟩;refine ⟨_,rfl, ?_⟩;have HB8:=Aside0.mk hb8;clear hb8 j0)
       | fail)
      refine (head_walk A6 c6 L _ (Kd.C_below HC.out.2.2 HB8.out) HC.out.2.1 HFIT.out).mono ?_
      rintro e w9 ⟨rfl,hb9⟩
      have HB9:=Aside0.mk hb9
      clear hb9
      go_wp2
      go_ret
      rw [HTT.out]
      exact ⟨_,rfl,Kd.R_below (Kd.R_below (Kd.R_lower HR.out HB40.out.size) HB8.out) HB9.out,below_step (below_step HBB.out HB8.out) HB9.out⟩
     ·rw [if_neg (by simp [hh])] at hT
      have hq2:((headV L).toList == F.toList)=false:=beq_eq_false_iff_ne.mpr (fun h=>hh (toL_inj h))
      have HTT:=Aside0.mk hT
      clear hT HT
      go_wp2_with (first
       | ((with_reducible refine gate_dst (N:=55) rfl ?_);refine goesL_ (some 55) rfl rfl Try.func66 (by kernel_rfl) rfl #[.slice A6 L.length c6,.int .i64 ((b.length:Int) - 33)] rfl (by (try simp only [List.map_toArray,List.map_cons,List.map_nil]);first |done |rfl) ?_;refine (may_walk A6 c6 L ((b.length:Int) - 33) _ HC.out.2.2 HC.out.2.1).mono ?_;rintro e w8 ⟨rfl,hb8⟩;refine ⟨_,rfl, ?_⟩;have HB8:=Aside0.mk hb8;clear hb8 j0)
       | fail)
      refine (head_walk A6 c6 L _ (Kd.C_below HC.out.2.2 HB8.out) HC.out.2.1 HFIT.out).mono ?_
      rintro e w9 ⟨rfl,hb9⟩
      have HB9:=Aside0.mk hb9
      clear hb9
      go_wp2
      go_ret
      rw [HTT.out]
      exact ⟨_,rfl,Kd.R_nil _ _ _ _ _,below_step (below_step HBB.out HB8.out) HB9.out⟩
    ·have hmb:(mayV L ((b.length:Int) - 33) != 0)=true:=bne_iff_ne.mpr hm0
     rw [if_neg (by simp [hm0])] at hT
     have HTT:=Aside0.mk hT
     clear hT HT
     go_wp2_with (first
      | ((with_reducible refine gate_dst (N:=55) rfl ?_);refine goesL_ (some 55) rfl rfl Try.func66 (by kernel_rfl) rfl #[.slice A6 L.length c6,.int .i64 ((b.length:Int) - 33)] rfl (by (try simp only [List.map_toArray,List.map_cons,List.map_nil]);first |done |rfl) ?_;refine (may_walk A6 c6 L ((b.length:Int) - 33) _ HC.out.2.2 HC.out.2.1).mono ?_;rintro e w8 ⟨rfl,hb8⟩;refine ⟨_,rfl, ?_⟩;have HB8:=Aside0.mk hb8;clear hb8 j0)
      | fail)
     go_ret
     rw [HTT.out]
     exact ⟨_,rfl,Kd.R_nil _ _ _ _ _,below_step HBB.out HB8.out⟩
 ·have hcases:((F.extract 0 4).toList≠[104,105,98,106])∨((F.extract 0 4).toList=[104,105,98,106]∧(N<1∨1≤N∧32<N)):=by
   by_cases h:(F.extract 0 4).toList=[104,105,98,106]
   ·refine .inr ⟨h, ?_⟩
    by_cases h1:N<1
    ·exact .inl h1
    ·refine .inr ⟨by omega, ?_⟩
     by_cases h2:32<N
     ·exact h2
     ·exact absurd ⟨h,by rw [← HN.out];omega,by rw [← HN.out];omega⟩ hok
   ·exact .inl h
  rcases hcases with hpre |⟨hpre,hn |⟨hn1,hn⟩⟩
  ·have HHP:Aside0 (strings_HasPrefix.f F ⟨#[104,105,98,106]⟩=some false):=⟨by rw [hhp0,beq_eq_false_iff_ne.mpr hpre]⟩
   clear hhp0 hpre
   go_wp2_with (first
    | ((with_reducible refine gate_dst (N:=14) rfl ?_);refine goesL_ (some 14) rfl rfl Try.func102 (by kernel_rfl) rfl #[.string (F.extract 4 6)] rfl (by (try simp only [List.map_toArray,List.map_cons,List.map_nil]);first |done |rfl) ?_;refine (num_Get.calls 10 (F.extract 4 6) N _ HNUM.out).mono ?_;rintro e w3 ⟨rfl,hb3⟩;refine ⟨_,rfl, ?_⟩;have HB3:=Aside0.mk hb3;clear hb3)
    | ((with_reducible refine gate_dst (N:=17) rfl ?_);refine goesL_ (some 17) rfl rfl Try.func103 (by kernel_rfl) rfl #[.string F,.string ⟨#[104,105,98,106]⟩] rfl (by (try simp only [List.map_toArray,List.map_cons,List.map_nil]);first |done |rfl) ?_;refine (strings_HasPrefix.calls F ⟨#[104,105,98,106]⟩ false _ HHP.out).mono ?_;rintro e w4 ⟨rfl,⟨⟨n4,hw4⟩⟩⟩;refine ⟨_,rfl, ?_⟩;have HB4:Aside0 (Below w3.heap.size w3 w4):=⟨by rw [hw4];exact pw_below_drewN (Below.refl _ _) n4⟩;clear hw4)
    | fail)
   go_ret
   rw [HTV.out,if_neg hok]
   exact ⟨_,rfl,Kd.R_nil _ _ _ _ _,below_step (below_step (below_step HL1.out HGV.out) HB3.out) HB4.out⟩
  ·have HHP:Aside0 (strings_HasPrefix.f F ⟨#[104,105,98,106]⟩=some true):=⟨by rw [hhp0,hpre];rfl⟩
   have c1:(N<1)=True:=eq_true hn
   clear hhp0 hpre
   go_wp2_with (first
    | ((with_reducible refine gate_dst (N:=14) rfl ?_);refine goesL_ (some 14) rfl rfl Try.func102 (by kernel_rfl) rfl #[.string (F.extract 4 6)] rfl (by (try simp only [List.map_toArray,List.map_cons,List.map_nil]);first |done |rfl) ?_;refine (num_Get.calls 10 (F.extract 4 6) N _ HNUM.out).mono ?_;rintro e w3 ⟨rfl,hb3⟩;refine ⟨_,rfl, ?_⟩;have HB3:=Aside0.mk hb3;clear hb3)
    | ((with_reducible refine gate_dst (N:=17) rfl ?_);refine goesL_ (some 17) rfl rfl Try.func103 (by kernel_rfl) rfl #[.string F,.string ⟨#[104,105,98,106]⟩] rfl (by (try simp only [List.map_toArray,List.map_cons,List.map_nil]);first |done |rfl) ?_;refine (strings_HasPrefix.calls F ⟨#[104,105,98,106]⟩ true _ HHP.out).mono ?_;rintro e w4 ⟨rfl,⟨⟨n4,hw4⟩⟩⟩;refine ⟨_,rfl, ?_⟩;have HB4:Aside0 (Below w3.heap.size w3 w4):=⟨by rw [hw4];exact pw_below_drewN (Below.refl _ _) n4⟩;clear hw4)
    | fail)
   go_ret
   rw [HTV.out,if_neg hok]
   exact ⟨_,rfl,Kd.R_nil _ _ _ _ _,below_step (below_step (below_step HL1.out HGV.out) HB3.out) HB4.out⟩
  ·have HHP:Aside0 (strings_HasPrefix.f F ⟨#[104,105,98,106]⟩=some true):=⟨by rw [hhp0,hpre];rfl⟩
   have c1:(N<1)=False:=eq_false (by omega)
   have c2:(32<N)=True:=eq_true hn
   clear hhp0 hpre
   go_wp2_with (first
    | ((with_reducible refine gate_dst (N:=14) rfl ?_);refine goesL_ (some 14) rfl rfl Try.func102 (by kernel_rfl) rfl #[.string (F.extract 4 6)] rfl (by (try simp only [List.map_toArray,List.map_cons,List.map_nil]);first |done |rfl) ?_;refine (num_Get.calls 10 (F.extract 4 6) N _ HNUM.out).mono ?_;rintro e w3 ⟨rfl,hb3⟩;refine ⟨_,rfl, ?_⟩;have HB3:=Aside0.mk hb3;clear hb3)
    | ((with_reducible refine gate_dst (N:=17) rfl ?_);refine goesL_ (some 17) rfl rfl Try.func103 (by kernel_rfl) rfl #[.string F,.string ⟨#[104,105,98,106]⟩] rfl (by (try simp only [List.map_toArray,List.map_cons,List.map_nil]);first |done |rfl) ?_;refine (strings_HasPrefix.calls F ⟨#[104,105,98,106]⟩ true _ HHP.out).mono ?_;rintro e w4 ⟨rfl,⟨⟨n4,hw4⟩⟩⟩;refine ⟨_,rfl, ?_⟩;have HB4:Aside0 (Below w3.heap.size w3 w4):=⟨by rw [hw4];exact pw_below_drewN (Below.refl _ _) n4⟩;clear hw4)
    | fail)
   go_ret
   rw [HTV.out,if_neg hok]
   exact ⟨_,rfl,Kd.R_nil _ _ _ _ _,below_step (below_step (below_step HL1.out HGV.out) HB3.out) HB4.out⟩
end Go.Proofs.Ytjfmnkmgnbbfgaa.A
