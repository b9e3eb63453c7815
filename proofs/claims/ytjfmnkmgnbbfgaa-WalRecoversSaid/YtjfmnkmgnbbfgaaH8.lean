/- Several texts of this claim in one: H7, A91, H8. -/
import Derived.Test.YtjfmnkmgnbbfgaaH4t
import Derived.Test.YtjfmnkmgnbbfgaaA98
import Derived.Test.YtjfmnkmgnbbfgaaA0
set_option linter.unusedVariables false
set_option linter.unusedSimpArgs false
namespace Go.Proofs.Ytjfmnkmgnbbfgaa.A
open Go.RowKit Go.Proofs.YtjfmnkmgnbbfgaaW.PrintWords Go.Proofs.YtjfmnkmgnbbfgaaW.PrintLast Go.Proofs.YtjfmnkmgnbbfgaaW.PrintMore
theorem bits_u32_nonneg (op:BinOp) (x y:Int):0≤Go.bits op .u32 x y:=by
 have key:∀ z:Int,0≤IntKind.u32.wrap z:=by
  intro z
  rw [IntKind.wrap_u32']
  omega
 unfold Go.bits
 split <;> exact key _
theorem take_nonneg (h:List Int) (s:ByteArray) (c:Int) (l:Bool) (j:Nat) (hj:j<8):0≤gi (takeF h s c l) j:=by
 unfold takeF
 rw [gi_fillB _ _ _ _ _ hj,if_pos hj]
 exact bits_u32_nonneg _ _ _
theorem bits_u32_lt (op:BinOp) (x y:Int):Go.bits op .u32 x y<4294967296:=by
 have key:∀ z:Int,IntKind.u32.wrap z<4294967296:=by
  intro z
  rw [IntKind.wrap_u32']
  omega
 unfold Go.bits
 split <;> exact key _
theorem take_lt (h:List Int) (s:ByteArray) (c:Int) (l:Bool) (j:Nat) (hj:j<8):gi (takeF h s c l) j<4294967296:=by
 unfold takeF
 rw [gi_fillB _ _ _ _ _ hj,if_pos hj]
 exact bits_u32_lt _ _ _
theorem step256 (g:Int) (k:Nat) (h0:0≤g) (h1:g<4294967296):(g / 256 ^ k).tdiv 256 % 4294967296=g / 256 ^ (k + 1):=by
 have hp:(0:Int)≤256 ^ k:=Int.pow_nonneg (by decide)
 have h2:0≤g / 256 ^ k:=Int.ediv_nonneg h0 hp
 have h3:g / 256 ^ k≤g:=Int.ediv_le_self _ h0
 rw [Int.tdiv_eq_ediv_of_nonneg h2,Int.pow_succ,← Int.ediv_ediv_of_nonneg hp]
 omega
theorem pow256 (m:Nat):(2:Int) ^ (8 * m)=256 ^ m:=by
 rw [Int.pow_mul]
 rfl
theorem nulB_succ (n:Nat):nulB n ++ ⟨#[0]⟩=nulB (n + 1):=by
 unfold nulB repB
 apply ByteArray.ext
 rw [ByteArray.data_append]
 show (Lib.repeatL [0] n).toArray ++ #[0]=(Lib.repeatL [0] (n + 1)).toArray
 rw [Lib.repeatL_add]
 simp [Lib.repeatL]
theorem rtake_at (A:Array Value) (h:List Int) (hA:u32s h=A) (hl:h.length=8) (s:ByteArray) (hs:64≤s.size) (z:Int) (cnt:Nat) (hz:z=cnt) (hc:cnt<18446744073709551616) (last:Bool) (w:World) :
  Calls Try.prog 117 #[.agg A,.string s,.int .u64 z,.bool last] w fun e w'=>∃ h2,Aside0 (h2=takeF h s (cnt:Nat) last)∧h2.length=8∧e=.returned (.agg (u32s h2))∧Below w.heap.size w w':=by
 subst hz hA
 refine (ref_take.walk h hl s hs _ (by omega) last w).mono ?_
 rintro e w' ⟨rfl,hb⟩
 exact ⟨_,Aside0.mk rfl,take_len _ _ _ _,rfl,hb⟩
def strLen:Value→Nat
 | .string z=>z.size
 | _=>0
set_option maxHeartbeats 2000000 in
set_option maxRecDepth 100000 in
theorem ref_digest.walk (h:List Int) (hl:h.length=8) (s:ByteArray) (hs:s.size≤1000000) (w:World) :
  Calls Try.prog 90 #[.agg (u32s h),.string s] w fun e w'=>e=.returned (.agg (u8s (digF h s)))∧Below w.heap.size w w':=by
 go_enter Try.func90,Try.ntmps90
 go_wp2_with fail
 have HT:D1 w ((w.alloc (blk h 99)).alloc (blk8 (zeros 32) 57)) w.heap.size (w.heap.size + 1) h:=by
  refine ⟨below_alloc (below_alloc (Below.refl _ _) _) _,blk_alloc (heap_alloc_last _ _) _, ?_,Nat.le_refl _,by omega,by omega,hl⟩
  have:=heap_alloc_last (w.alloc (blk h 99)) (blk8 (zeros 32) 57)
  rw [sz1 rfl] at this
  exact this
 replace HT:=Aside0.mk HT
 change Code.wp _ _ _ _ ((w.alloc (blk h 99)).alloc (blk8 (zeros 32) 57))
 generalize (w.alloc (blk h 99)).alloc (blk8 (zeros 32) 57)=W1 at HT ⊢
 generalize w.heap.size + 1=gr at HT ⊢
 obtain ⟨gh,hgh⟩:∃ z,z=w.heap.size:=⟨_,rfl⟩
 rw [← hgh] at HT ⊢
 have HG:=Aside0.mk hgh
 clear hgh
 go_loopw [5] (fun vn wr=>∃ t:Nat,t≤lastN s∧vn=.int .i64 (64 * (t:Int))∧Aside0 (D1 w wr gh gr (hN h s t))) (fun vn _=>1000000 - (intOf vn).toNat)
 case atStart=>exact ⟨0,by omega,rfl,HT⟩
 case round=>
  obtain ⟨t,ht,rfl,HX⟩:=hrel
  clear HT
  obtain ⟨h1,hh1⟩:∃ z,z=hN h s t:=⟨_,rfl⟩
  rw [← hh1] at HX
  have HH:=Aside0.mk hh1
  clear hh1
  have hag:=u32s8 h1 HX.out.lh
  have k0:=cell_blk HX.out.bh 0 (by rw [HX.out.lh];decide)
  have k1:=cell_blk HX.out.bh 1 (by rw [HX.out.lh];decide)
  have k2:=cell_blk HX.out.bh 2 (by rw [HX.out.lh];decide)
  have k3:=cell_blk HX.out.bh 3 (by rw [HX.out.lh];decide)
  have k4:=cell_blk HX.out.bh 4 (by rw [HX.out.lh];decide)
  have k5:=cell_blk HX.out.bh 5 (by rw [HX.out.lh];decide)
  have k6:=cell_blk HX.out.bh 6 (by rw [HX.out.lh];decide)
  have k7:=cell_blk HX.out.bh 7 (by rw [HX.out.lh];decide)
  by_cases hlast:s.size≤64 * t + 64
  ·have htl:t=lastN s:=by unfold lastN at ht ⊢;omega
   have c1:(s.size:Int)≤64 * (t:Int) + 64:=by omega
   have c2:64 * (t:Int)≤(s.size:Int):=by unfold lastN at ht;omega
   have c3:(0:Int)≤64 * (t:Int):=by omega
   have c4:(64 * (t:Int)).toNat=64 * t:=by omega
   have cd:decide ((s.size:Int)≤64 * (t:Int) + 64)=true:=decide_eq_true c1
   replace htl:=Aside0.mk htl
   go_wp2_with fail
   obtain ⟨st,hst⟩:∃ z,z=s.extract (64 * t) s.size:=⟨_,rfl⟩
   rw [← hst]
   have HS:=Aside0.mk hst
   have HZ:Aside0 (st.size=s.size - 64 * t):=Aside0.mk (by rw [hst,ByteArray.size_extract];omega)
   clear hst
   go_loopw [8] (fun vb wr2=>∃ j:Nat,j≤64 - st.size∧vb=.string (st ++ nulB j)∧wr2=wr) (fun vb _=>64 - strLen vb)
   case atStart=>exact ⟨0,by omega,by rw [show nulB 0=ByteArray.empty from rfl,ByteArray.append_empty],rfl⟩
   case round=>
    obtain ⟨j,hj,rfl,rfl⟩:=hrel
    obtain ⟨b,hb⟩:∃ z,z=st ++ nulB j:=⟨_,rfl⟩
    have hbs:b.size=st.size + j:=by rw [hb,ByteArray.size_append,nulB_size]
    rw [← hb]
    have HBB:=Aside0.mk hb
    have HBS:=Aside0.mk hbs
    clear hb hbs
    by_cases hlt:b.size<64
    ·have d1:(b.size:Int)<64:=by omega
     have d2:¬ (9223372036854775807<b.size + 1):=by omega
     have e1:b ++ ⟨#[0]⟩=st ++ nulB (j + 1):=by rw [HBB.out,ByteArray.append_assoc,nulB_succ]
     replace e1:=Aside0.mk e1
     go_wp2_with fail
     have hjj:j + 1≤64 - st.size:=by have:=HBS.out;omega
     have hms:64 - strLen (.string (b ++ ⟨#[0]⟩))<64 - strLen (.string b):=by
      show 64 - (b ++ ⟨#[0]⟩).size<64 - b.size
      rw [ByteArray.size_append]
      show 64 - (b.size + 1)<_
      omega
     exact ⟨⟨j + 1,hjj,by rw [e1.out],trivial⟩,hms⟩
    ·have d1:¬ (b.size:Int)<64:=by omega
     have d3:64≤b.size:=by omega
     have d4:(0:Int)≤(s.size:Int):=by omega
     rename_i K5 hK5
     replace hK5:=Aside0.mk hK5
     go_wp2_with fail
     refine hK5.out _ _ ?_
     refine wp_seq_k fun K6 hK6=>?_
     replace hK6:=Aside0.mk hK6
     go_wp2_with fail
     go_at_call 117
     refine (rtake_at _ h1 hag HX.out.lh _ d3 _ s.size rfl (by omega) true _).mono ?_
     rintro e w4 ⟨h2,hh2,hl2,rfl,hb4⟩
     have HY:=Aside0.mk (HX.out.below hb4)
     have hst:=run_storeCells_w (v':=h2) HY.out.bh (by rw [HY.out.lh,hl2])
     have hsz2:(u32s h2).size=8:=by simp [u32s,hl2]
     have eh2:h2=finF h s:=by
      have e1:=HZ.out
      have e2:=HBS.out
      rw [hh2.out,HH.out,HBB.out,HS.out,finF,← htl.out]
      congr 2
      congr 1
      omega
     have HD:Aside0 (D1 w (w4.setRow gh (u32s h2)) gh gr h2):=Aside0.mk (HY.out.setRow h2 hl2)
     have HH2:=Aside0.mk eh2
     clear eh2
     go_wp2_with fail
     refine hK6.out _ _ ?_
     clear hst hsz2 HY k0 k1 k2 k3 k4 k5 k6 k7 hb4
     generalize w4.setRow gh (u32s h2)=W6 at HD ⊢
     go_wp2_with fail
     have HE:D2 w (W6.alloc (blk8 (zeros 32) 57)) gh gr W6.heap.size h2 (zeros 32):=⟨HD.out.below (below_alloc (Below.refl _ _) _),heap_alloc_last _ _,by have:=blk_lt HD.out.bh;omega,by have:=blk_lt HD.out.br;omega,HD.out.B.size,rfl⟩
     replace HE:=Aside0.mk HE
     change Code.wp _ _ _ _ (W6.alloc (blk8 (zeros 32) 57))
     clear HD
     generalize W6.alloc (blk8 (zeros 32) 57)=W7 at HE ⊢
     generalize W6.heap.size=gd at HE ⊢
     have hnn:∀ j,j<8→0≤gi h2 j:=fun j hj=>by rw [hh2.out];exact take_nonneg _ _ _ _ j hj
     replace hnn:=Aside0.mk hnn
     have hlt4:∀ j,j<8→gi h2 j<4294967296:=fun j hj=>by rw [hh2.out];exact take_lt _ _ _ _ j hj
     replace hlt4:=Aside0.mk hlt4
     rename_i K7 hK7
     replace hK7:=Aside0.mk hK7
     go_loopw [10] (fun vi wr=>∃ i:Nat,i≤32∧vi=.int .i64 i∧Aside0 (D2 w wr gh gr gd h2 (fillB 32 (zeros 32) (outV h2) i))) (fun vi _=>32 - (intOf vi).toNat)
     case atStart=>exact ⟨0,by omega,rfl,Aside0.mk (by rw [fillB_zero 32 _ _ rfl];exact HE.out)⟩
     case round=>
      obtain ⟨i,hi,rfl,HF⟩:=hrel
      clear HE
      by_cases hli:i<32
      ·have x1:(i:Int)<32:=by omega
       have x2:(i:Int) / 4<8:=by omega
       have x3:(0:Int)≤(i:Int) / 4:=by omega
       have x4:((i:Int) / 4).toNat=i / 4:=by omega
       have x5:(0:Int)≤(i:Int):=by omega
       have kx:=cell_blk HF.out.t.bh (i / 4) (by rw [HF.out.t.lh];omega)
       go_wp2_with fail
       clear kx
       go_loopw [11,12] (fun vx vk wr2=>∃ k:Nat,k≤i % 4∧vx=.int .u32 (gi h2 (i / 4) / 256 ^ k)∧vk=.int .i64 k∧wr2=wr) (fun _ vk _=>4 - (intOf vk).toNat)
       case atStart=>exact ⟨0,by omega,by simp,rfl,rfl⟩
       case round=>
        obtain ⟨k,hk,rfl,rfl,rfl⟩:=hrel
        have h0:0≤gi h2 (i / 4) / 256 ^ k:=Int.ediv_nonneg (hnn.out _ (by omega)) (by exact Int.pow_nonneg (by decide))
        obtain ⟨X,hX⟩:∃ z,z=gi h2 (i / 4) / 256 ^ k:=⟨_,rfl⟩
        rw [← hX] at h0 ⊢
        replace hX:=Aside0.mk hX
        by_cases hlk:k<i % 4
        ·have y1:(k:Int)<(i:Int) % 4:=by omega
         go_wp2_with fail
         have e256:=step256 (gi h2 (i / 4)) k (hnn.out _ (by omega)) (hlt4.out _ (by omega))
         rw [← hX.out] at e256
         refine ⟨⟨k + 1,by omega,by rw [e256],rfl,trivial⟩, ?_⟩
         simp only [intOf]
         omega
        ·have y1:¬ (k:Int)<(i:Int) % 4:=by omega
         have f1:=frozen_blk8 HF.out.bd i
         have g1:=cell_blk8 HF.out.bd i (by rw [fillB_length];omega)
         go_wp2_with fail
         have hki:k=i % 4:=by omega
         have eX:X % 256=outV h2 i:=by rw [hX.out,hki,outV,pow256]
         have HG2:Aside0 (D2 w (wr.setCell ⟨gd,i,none⟩ (.int .u8 (X % 256))) gh gr gd h2 (fillB 32 (zeros 32) (outV h2) (i + 1))):=Aside0.mk (by
          rw [eX,← fillB_set 32 _ _ i hli]
          exact HF.out.set i _)
         refine ⟨⟨i + 1,by omega,rfl,HG2⟩, ?_⟩
         simp only [intOf]
         omega
      ·obtain rfl:i=32:=by omega
       clear hli hi
       have hld:=loadAt8 HF.out.bd HF.out.l32
       have hst:=storeAt8 HF.out.t.br rfl HF.out.l32
       go_wp2_with fail
       refine hK7.out _ _ ?_
       refine wp_seq_k fun K4 hK4=>?_
       refine wp_region_lit ?_
       refine wpList_loadRow rfl rfl rfl hld ?_
       refine wpList_storeRow rfl rfl rfl rfl rfl hst ?_
       refine wpList_nil ?_
       change K4 _ _
       refine hK4 _ _ ?_
       clear hK4 K4 hld hst
       simp only [Act.put,List.setIfInBounds_toArray,List.set_cons_zero,List.set_cons_succ]
       go_wp2_with fail
       have eD:fillB 32 (zeros 32) (outV h2) 32=digF h s:=by rw [digF,HH2.out]
       have hgr:(wr.setRow gr (u8s (fillB 32 (zeros 32) (outV h2) 32))).heap[gr]?=some (.cells (u8s (digF h s)) 57 (0,0)):=by rw [eD];exact setRow_heap wr gr _ _ _ _ HF.out.t.br
       refine bodyPost_ret (results_cell_row rfl _ _ gr 57 (u8s (digF h s)) (0,0) _ rfl hgr Try.underlying57 rfl (by rw [show (u8s (digF h s)).size=32 from by simp [u8s,digF,fillB_length]];kernel_rfl)) rfl ?_
       exact ⟨rfl,HF.out.t.B.trans ((But.setRow wr _).below (B:=w.heap.size) HF.out.t.lr HF.out.t.B.size)⟩
  ·have ht1:t + 1≤lastN s:=by unfold lastN at ht ⊢;omega
   have c1:¬ (s.size:Int)≤64 * (t:Int) + 64:=by omega
   have c2:64 * (t:Int) + 64≤(s.size:Int):=by omega
   have c3:(0:Int)≤64 * (t:Int):=by omega
   have c4:(64 * (t:Int)).toNat=64 * t:=by omega
   have c5:(64 * (t:Int) + 64).toNat=64 * t + 64:=by omega
   have c6:64 * (t:Int)≤64 * (t:Int) + 64:=by omega
   have c7:(0:Int)≤64 * (t:Int) + 64:=by omega
   have c8:64 * t + 64≤s.size:=by omega
   have cd:decide ((s.size:Int)≤64 * (t:Int) + 64)=false:=decide_eq_false c1
   go_wp2_with fail
   go_at_call 117
   refine (rtake_at _ h1 hag HX.out.lh _ (by rw [ByteArray.size_extract];omega) _ (64 * (t + 1)) (by omega) (by omega) false _).mono ?_
   rintro e w4 ⟨h2,hh2,hl2,rfl,hb4⟩
   have HY:=Aside0.mk (HX.out.below hb4)
   have hst:=run_storeCells_w (v':=h2) HY.out.bh (by rw [HY.out.lh,hl2])
   have hsz2:(u32s h2).size=8:=by simp [u32s,hl2]
   have eh2:h2=hN h s (t + 1):=by rw [hh2.out,HH.out];rfl
   have HW:Aside0 (D1 w (w4.setRow gh (u32s h2)) gh gr (hN h s (t + 1))):=Aside0.mk (by
    have:=HY.out.setRow h2 hl2
    rw [← eh2]
    exact this)
   replace eh2:=Aside0.mk eh2
   go_wp2_with fail
   refine ⟨⟨t + 1,ht1,by rw [show ((t + 1:Nat):Int)=(t:Int) + 1 from by omega,Int.mul_add];rfl,HW⟩, ?_⟩
   have hb1:64 * t + 64<1000000:=by omega
   simp only [intOf]
   omega
end Go.Proofs.Ytjfmnkmgnbbfgaa.A
namespace Go.Proofs.Ytjfmnkmgnbbfgaa.A
open Go.RowKit Go.Proofs.YtjfmnkmgnbbfgaaW.PrintWords Go.Proofs.YtjfmnkmgnbbfgaaW.PrintLast Go.Proofs.YtjfmnkmgnbbfgaaW.PrintMore
attribute [local go_sem] max2_int min2_int max_two min_two max_three min_three max_four min_four   -- for this text's walks alone
set_option linter.unusedVariables false
set_option linter.unusedSimpArgs false
def hibernacleref02_joined.l0:Nat→List ByteArray→ByteArray→Int→Option (ByteArray)
 | 0,_,_,_=>none
 | k + 1,x0,x3,x4=>if x4<(x0.length:Int) then (if 0≤x4 then (if x3.size + (rdOf ByteArray.empty x0 x4).size≤9223372036854775807 then (hibernacleref02_joined.l0 k x0 (x3 ++ (rdOf ByteArray.empty x0 x4)) (wrap64 (x4 + 1))) else (none)) else (none)) else (some x3)
def hibernacleref02_joined.f (k:Nat) (l0:List ByteArray):Option (ByteArray):=hibernacleref02_joined.l0 k l0 (⟨#[]⟩:ByteArray) 0
theorem hibernacleref02_joined.mono_l:∀ k,(∀ y0 y1 y2,LeO (hibernacleref02_joined.l0 k y0 y1 y2) (hibernacleref02_joined.l0 (k + 1) y0 y1 y2))
 | 0=>fun _ _ _ r h=>by simp [hibernacleref02_joined.l0] at h
 | k + 1=>by
  have ih0:=hibernacleref02_joined.mono_l k
  ·intro y0 y1 y2
   unfold hibernacleref02_joined.l0
   repeat' first
   | (with_reducible exact ih0 _ _ _)
   | (with_reducible exact LeO.refl _)
   | (with_reducible exact LeO.none _)
   | (with_reducible refine LeO.ite ?_ ?_)
   | (with_reducible refine LeO.bind ?_ (fun _=>?_))
   | exact ih0 _ _ _
   | exact LeO.none _
   | refine LeO.ite ?_ ?_
   | refine LeO.bind ?_ (fun _=>?_)
theorem hibernacleref02_joined.mono:∀ a0 k,LeO (hibernacleref02_joined.f k a0) (hibernacleref02_joined.f (k + 1) a0):=by
 intro a0 k
 have ih0:=hibernacleref02_joined.mono_l k
 unfold hibernacleref02_joined.f
 repeat' first
   | (with_reducible exact ih0 _ _ _)
   | (with_reducible exact LeO.refl _)
   | (with_reducible exact LeO.none _)
   | (with_reducible refine LeO.ite ?_ ?_)
   | (with_reducible refine LeO.bind ?_ (fun _=>?_))
   | exact ih0 _ _ _
   | exact LeO.none _
   | refine LeO.ite ?_ ?_
   | refine LeO.bind ?_ (fun _=>?_)
set_option maxHeartbeats 8000000 in
set_option maxRecDepth 100000 in
theorem hibernacleref02_joined.calls (k:Nat) (A0:Option Addr) (c0:Nat) (l0:List ByteArray) (r:ByteArray) (w:World) (hr0:Kd.C Kd.string w A0 l0.length l0) (hc0:l0.length≤c0) (h:hibernacleref02_joined.f k l0=some r) :
  Calls Try.prog 91 #[.slice A0 l0.length c0] w fun e w'=>e=.returned (.string r)∧Drawn0 w w':=by
 have HR0:=Aside0.mk hr0
 have HC0:=Aside0.mk hc0
 clear hr0 hc0
 have H:(hibernacleref02_joined.l0 k l0 (⟨#[]⟩:ByteArray) 0)=some r:=h
 clear h
 have H':=Aside0.mk H
 clear H
 go_enter Try.func91,Try.ntmps91
 go_wp2
 go_loopg [3,4] k (fun kq v3 v4 w'=>∃ (x3_1:ByteArray) (x4_1:Int),v3=.string x3_1∧v4=.int .i64 x4_1∧Aside0 (hibernacleref02_joined.l0 kq l0 x3_1 x4_1=some r)∧Aside0 (kq≤k)∧Drawn0 w w')
 case atStart=>exact ⟨((⟨#[]⟩:ByteArray)),(0),(by first |rfl |(simp;done) |(simp [*];done)),(by first |rfl |(simp;done) |(simp [*];done)),H',⟨Nat.le_refl _⟩,by repeat (first |exact Drawn0.refl _ |apply Drawn0.step)⟩
 case round=>
  clear H'
  obtain ⟨x3_1,x4_1,rfl,rfl,HA,HK1,⟨m1,rfl⟩⟩:=hrel
  cases gk with
  | zero=>exact absurd HA.out (by simp [hibernacleref02_joined.l0])
  | succ k1=>
   have H:=HA.out
   clear HA
   simp only [hibernacleref02_joined.l0] at H
   by_cases c2:x4_1<(l0.length:Int)
   ·rw [if_pos c2] at H
    have c2b0:decide (x4_1<(l0.length:Int))=true:=decide_eq_true c2
    clear c2
    by_cases c3:0≤x4_1
    ·rw [if_pos c3] at H
     have c3b0:decide (0≤x4_1)=true:=decide_eq_true c3
     clear c3
     by_cases c4:x3_1.size + (rdOf ByteArray.empty l0 x4_1).size≤9223372036854775807
     ·rw [if_pos c4] at H
      have c4b0:=eq_true c4
      have c4b1:decide (x3_1.size + (rdOf ByteArray.empty l0 x4_1).size≤9223372036854775807)=true:=decide_eq_true c4
      try have c4b2:(9223372036854775807<x3_1.size + (rdOf ByteArray.empty l0 x4_1).size)=False:=eq_false (Nat.not_lt.2 c4)
      have H':=Aside0.mk H
      clear H
      have p261:0≤(x4_1:Int):=of_decide_eq_true (by first |(with_reducible assumption) |assumption)
      have q261:x4_1<(l0.length:Int):=of_decide_eq_true (by first |(with_reducible assumption) |assumption)
      obtain ⟨ad261,e261,hx261_0⟩:=Kd.at_string HR0.out x4_1 p261 q261
      cases e261
      replace p261:=eq_true p261
      replace q261:=eq_true q261
      go_wp2
      go_roundg k1
      case measure=>have:=HK1.out;omega
      case rel=>exact ⟨(x3_1 ++ (rdOf ByteArray.empty l0 x4_1)),(wrap64 (x4_1 + 1)),(by first |rfl |(simp;done) |(simp [*];done)),(by first |rfl |(simp;done) |(simp [*];done)),H',⟨by have:=HK1.out;omega⟩,by repeat (first |exact Drawn0.refl _ |apply Drawn0.step)⟩
     ·rw [if_neg c4] at H
      exact absurd H (by simp)
    ·rw [if_neg c3] at H
     exact absurd H (by simp)
   ·rw [if_neg c2] at H
    have c2b0:decide (x4_1<(l0.length:Int))=false:=decide_eq_false c2
    clear c2
    obtain rfl:=Option.some.inj H
    go_wp2
    go_ret
    exact ⟨by first |rfl |(simp;done) |(simp [*];done),by repeat (first |exact Drawn0.refl _ |apply Drawn0.step)⟩
end Go.Proofs.Ytjfmnkmgnbbfgaa.A
set_option linter.unusedVariables false
set_option linter.unusedSimpArgs false
namespace Go.Proofs.Ytjfmnkmgnbbfgaa.A
open Go.RowKit Go.Proofs.YtjfmnkmgnbbfgaaW.PrintWords Go.Proofs.YtjfmnkmgnbbfgaaW.PrintLast Go.Proofs.YtjfmnkmgnbbfgaaW.PrintMore
theorem rd_at (l:List ByteArray) (i:Nat) (h:i<l.length):rdOf ByteArray.empty l (i:Int)=l[i]:=by
 unfold rdOf
 rw [Int.toNat_natCast,List.getD_eq_getElem?_getD,List.getElem?_eq_getElem h,Option.getD_some]
theorem joined_l0 (l:List ByteArray) (hn:l.length≤140737488355328) (d:Nat):∀ (i:Nat) (x:ByteArray),l.length - i=d→i≤l.length→x.size + ((l.drop i).map (·.size)).sum≤1000000 →
  hibernacleref02_joined.l0 (d + 1) l x (i:Int)=some ⟨(x.data.toList ++ ((l.drop i).map (·.data.toList)).flatten).toArray⟩:=by
 induction d with
 | zero=>
  intro i x h1 h2 h3
  have hi:i=l.length:=by omega
  subst hi
  unfold hibernacleref02_joined.l0
  rw [if_neg (by omega),List.drop_length]
  simp
 | succ d ih=>
  intro i x h1 h2 h3
  have hlt:i<l.length:=by omega
  rw [List.drop_eq_getElem_cons hlt,List.map_cons,List.sum_cons] at h3
  unfold hibernacleref02_joined.l0
  rw [if_pos (by omega),if_pos (by omega),rd_at l i hlt,if_pos (by omega),show wrap64 ((i:Int) + 1)=((i + 1:Nat):Int) from by unfold wrap64;omega]
  rw [ih (i + 1) (x ++ l[i]) (by omega) (by omega) (by rw [ByteArray.size_append];omega)]
  rw [List.drop_eq_getElem_cons hlt,List.map_cons,List.flatten_cons]
  simp
theorem joined_f (l:List ByteArray) (hn:l.length≤140737488355328) (hs:(joinS l).size≤1000000):hibernacleref02_joined.f (l.length + 1) l=some (joinS l):=by
 unfold hibernacleref02_joined.f
 have:=joined_l0 l hn l.length 0 ⟨#[]⟩ (by omega) (by omega) (by rw [List.drop_zero,← joinS_size];show 0 + _≤_;omega)
 rw [show ((0:Nat):Int)=0 from rfl] at this
 rw [this,List.drop_zero]
 congr 1
 apply ByteArray.ext
 rw [← Array.toList_inj,joinS_flat]
 simp
theorem rjoin_at (A0:Option Addr) (c0:Nat) (l0:List ByteArray) (w:World) (hr0:Kd.C Kd.string w A0 l0.length l0) (hc0:l0.length≤c0) (hl:l0.length≤140737488355328) (hs:(joinS l0).size≤1000000) :
  Calls Try.prog 91 #[.slice A0 l0.length c0] w fun e w'=>∃ s,Aside0 (s=joinS l0)∧e=.returned (.string s)∧Below w.heap.size w w':=by
 refine (hibernacleref02_joined.calls (l0.length + 1) A0 c0 l0 (joinS l0) w hr0 hc0 (joined_f l0 hl hs)).mono ?_
 rintro e w' ⟨rfl,hb⟩
 exact ⟨_,Aside0.mk rfl,rfl,hb.below⟩
theorem rdig_at (A:Array Value) (h:List Int) (hA:u32s h=A) (hl:h.length=8) (s:ByteArray) (hs:s.size≤1000000) (w:World) :
  Calls Try.prog 90 #[.agg A,.string s] w fun e w'=>∃ d,Aside0 (d=digF h s)∧d.length=32∧e=.returned (.agg (u8s d))∧Below w.heap.size w w':=by
 subst hA
 refine (ref_digest.walk h hl s hs w).mono ?_
 rintro e w' ⟨rfl,hb⟩
 exact ⟨_,Aside0.mk rfl,dig_len _ _,rfl,hb⟩
def rsumr.T:Bool × List (List Nat × List Nat):=(true,[([],[]),([],[]),([1],[1]),([0,2,2],[0,2]),([3,3,0,1,2,3],[3])])
def rsumr.B:List Nat:=[0,0,2,7,15]
theorem rsumr.tab:rtab .any (opsOf Try.f60 3)=rsumr.T:=by kernel_rfl
theorem rsumr.bits:waitsOk rsumr.T.2 rsumr.B=true:=by kernel_rfl
set_option maxHeartbeats 2000000 in
set_option maxRecDepth 100000 in
theorem ref_Sum.walk (A0:Option Addr) (c0:Nat) (l0:List ByteArray) (w:World) (hr0:Kd.C Kd.string w A0 l0.length l0) (hc0:l0.length≤c0) (hl:l0.length≤140737488355328) (hs:(joinS l0).size≤1000000) :
  Calls Try.prog 60 #[.slice A0 l0.length c0] w fun e w'=>e=.returned (.agg (u8s (digF hSum (joinS l0))))∧Below w.heap.size w w':=by
 have HR:=Aside0.mk hr0
 clear hr0
 go_enter Try.func60,Try.ntmps60
 go_wp2_with (go_at_call 89;refine (show Calls Try.prog 89 #[] _ (fun e w'=>e=.returned (.agg #[.int .u32 1779033703,.int .u32 3144134277,.int .u32 1013904242,.int .u32 2773480762,.int .u32 1359893119,.int .u32 2600822924,.int .u32 528734635,.int .u32 1541459225])∧Below _ _ w') from ref_eight.walk _).mono ?_;rintro e w4 ⟨rfl,hb4⟩)
 have q0:=hb4.size
 rw [sz1 rfl] at q0
 have HX:D1 w (w4.alloc (blk hSum 99)) w4.heap.size w.heap.size hSum:=
  ⟨(below_then (below_alloc (Below.refl _ _) _) (by rw [sz1 rfl];omega) hb4).alloc (by omega) _,heap_alloc_last _ _,blk_alloc (blk_below (heap_alloc_last w (blk8 (zeros 32) 57)) hb4) _,by omega,Nat.le_refl _,by omega,rfl⟩
 have HC:Kd.C Kd.string (w4.alloc (blk hSum 99)) A0 l0.length l0:=Kd.C_below HR.out (below_alloc (below_then (below_alloc (Below.refl _ _) _) (by rw [sz1 rfl];omega) hb4) _)
 replace HX:=Aside0.mk HX
 replace HC:=Aside0.mk HC
 clear hb4 q0
 change Code.wp _ _ _ _ (w4.alloc (blk hSum 99))
 generalize w4.alloc (blk hSum 99)=W1 at HX HC ⊢
 generalize w4.heap.size=gh at HX ⊢
 obtain ⟨gr,hgr⟩:∃ z,z=w.heap.size:=⟨_,rfl⟩
 rw [← hgr] at HX ⊢
 have HG:=Aside0.mk hgr
 clear hgr
 obtain ⟨h1,hh1⟩:∃ z,z=hSum:=⟨_,rfl⟩
 rw [← hh1] at HX
 have HH:=Aside0.mk hh1
 clear hh1
 have hag:=u32s8 h1 HX.out.lh
 have k0:=cell_blk HX.out.bh 0 (by rw [HX.out.lh];decide)
 have k1:=cell_blk HX.out.bh 1 (by rw [HX.out.lh];decide)
 have k2:=cell_blk HX.out.bh 2 (by rw [HX.out.lh];decide)
 have k3:=cell_blk HX.out.bh 3 (by rw [HX.out.lh];decide)
 have k4:=cell_blk HX.out.bh 4 (by rw [HX.out.lh];decide)
 have k5:=cell_blk HX.out.bh 5 (by rw [HX.out.lh];decide)
 have k6:=cell_blk HX.out.bh 6 (by rw [HX.out.lh];decide)
 have k7:=cell_blk HX.out.bh 7 (by rw [HX.out.lh];decide)
 rename_i KK hKK
 replace hKK:=Aside0.mk hKK
 refine start_ (n:=5) (S:=fun w'=>w'.cell? ⟨gh,0,none⟩=some (.int .u32 (gi h1 0))∧w'.cell? ⟨gh,1,none⟩=some (.int .u32 (gi h1 1))∧w'.cell? ⟨gh,2,none⟩=some (.int .u32 (gi h1 2))∧w'.cell? ⟨gh,3,none⟩=some (.int .u32 (gi h1 3))∧w'.cell? ⟨gh,4,none⟩=some (.int .u32 (gi h1 4))∧w'.cell? ⟨gh,5,none⟩=some (.int .u32 (gi h1 5))∧w'.cell? ⟨gh,6,none⟩=some (.int .u32 (gi h1 6))∧w'.cell? ⟨gh,7,none⟩=some (.int .u32 (gi h1 7))) (ds:=[4]) #[false,false,false,false,false] (by kernel_rfl) rfl rfl ⟨k0,k1,k2,k3,k4,k5,k6,k7⟩ (fun hHeld=>?_);refine with_tabW rsumr.tab rsumr.bits (fun HT_ HW_=>?_)
 refine pure_ (i:=1) (N:=(some 10)) (v:=?_) (a':=?_) #[false,true,false,false,false] rfl rfl (any_of HT_.out (by kernel_rfl)) (fun _ _ _ h=>h) (Or.inl ⟨by rfl, ?_⟩) ?_ ?_
 rotate_left
 ·intro w'
  go_simp
  with_reducible rfl
 rotate_left
 ·simp only [Act.put,List.setIfInBounds_toArray,List.set_cons_zero,List.set_cons_succ,i64_w,i32_w]
  rfl
 refine take_ (i:=0) (N:=(some 9)) (v:=?_) (a':=?_) #[true,true,false,false,false] rfl rfl (take_ofW HT_.out HW_.out (by kernel_rfl)) (fun _ _ _ h=>h) (Or.inl ⟨by rfl, ?_⟩) hHeld ?_ ?_
 rotate_left
 ·rintro w' ⟨s0,s1,s2,s3,s4,s5,s6,s7⟩
  go_simp
  with_reducible rfl
 rotate_left
 ·simp only [Act.put,List.setIfInBounds_toArray,List.set_cons_zero,List.set_cons_succ,i64_w,i32_w]
  rfl
 refine one_ (i:=2) (N:=(some 11)) #[true,true,true,false,false] rfl rfl (one_of HT_.out (by kernel_rfl)) (by decide) (fun K hK=>?_)
 refine goes_ Try.func91 (by kernel_rfl) rfl #[.slice A0 l0.length c0] (by rfl) rfl rfl (by (try simp only [List.map_toArray,List.map_cons,List.map_nil]);first |done |rfl) ?_
 refine (rjoin_at A0 c0 l0 _ (Kd.C_below HC.out (below_drew (Below.refl _ _))) hc0 hl hs).mono ?_
 rintro e w5 ⟨s5,hs5,rfl,hb5⟩
 have HX5:=Aside0.mk (HX.out.drew.below hb5)
 refine ⟨_,rfl, ?_⟩
 refine hK.out _ _ ⟨pw_cell_below hb5 k0,pw_cell_below hb5 k1,pw_cell_below hb5 k2,pw_cell_below hb5 k3,pw_cell_below hb5 k4,pw_cell_below hb5 k5,pw_cell_below hb5 k6,pw_cell_below hb5 k7⟩ (fun hHeld=>?_)
 clear hK K
 refine norm_ (a':=?_) ?_ ?_
 rotate_left
 ·show Act.put _ (some 11) _=_
  simp only [Act.put,List.setIfInBounds_toArray,List.set_cons_zero,List.set_cons_succ,i64_w,i32_w]
  rfl
 refine one_ (i:=3) (N:=(some 12)) #[true,true,true,true,false] rfl rfl (one_of HT_.out (by kernel_rfl)) (by decide) (fun K hK=>?_)
 refine goes_ Try.func90 (by kernel_rfl) rfl #[.agg #[.int .u32 (gi h1 0),.int .u32 (gi h1 1),.int .u32 (gi h1 2),.int .u32 (gi h1 3),.int .u32 (gi h1 4),.int .u32 (gi h1 5),.int .u32 (gi h1 6),.int .u32 (gi h1 7)],.string s5] (by rfl) rfl rfl (by (try simp only [List.map_toArray,List.map_cons,List.map_nil]);first |done |rfl) ?_
 refine (rdig_at _ h1 hag HX.out.lh s5 (by rw [hs5.out];exact hs) _).mono ?_
 rintro e w6 ⟨d,hd,hdl,rfl,hb6⟩
 have HX6:=Aside0.mk (HX5.out.below hb6)
 refine ⟨_,rfl, ?_⟩
 refine hK.out _ _ ⟨pw_cell_below hb6 (pw_cell_below hb5 k0),pw_cell_below hb6 (pw_cell_below hb5 k1),pw_cell_below hb6 (pw_cell_below hb5 k2),pw_cell_below hb6 (pw_cell_below hb5 k3),pw_cell_below hb6 (pw_cell_below hb5 k4),pw_cell_below hb6 (pw_cell_below hb5 k5),pw_cell_below hb6 (pw_cell_below hb5 k6),pw_cell_below hb6 (pw_cell_below hb5 k7)⟩ (fun hHeld=>?_)
 clear hK K
 refine norm_ (a':=?_) ?_ ?_
 rotate_left
 ·show Act.put _ (some 12) _=_
  simp only [Act.put,List.setIfInBounds_toArray,List.set_cons_zero,List.set_cons_succ,i64_w,i32_w]
  rfl
 have hst:=run_storeCells_b (v':=d) HX6.out.br (by rw [hdl];rfl)
 have hsz2:(u8s d).size=32:=by simp [u8s,hdl]
 refine last_ (i:=4) (N:=none) #[true,true,true,true,true] rfl rfl (one_of HT_.out (by kernel_rfl)) (by decide) (fun K hK=>?_)
 refine skip_ (w1:=?_) (by rfl) rfl ?_ ?_
 rotate_left
 ·go_simp
  rfl
 refine hK.out _ _ ?_
 clear hK K
 refine done_ (done_of HT_.out (by kernel_rfl)) ?_
 change KK _ _
 refine hKK.out _ _ ?_
 go_wp2_with fail
 have hgrr:(w6.setRow gr (u8s d)).heap[gr]?=some (.cells (u8s d) 57 (0,0)):=setRow_heap w6 gr _ _ _ _ HX6.out.br
 refine bodyPost_ret (results_cell_row rfl _ _ gr 57 (u8s d) (0,0) _ rfl hgrr Try.underlying57 rfl (by rw [show (u8s d).size=32 from by simp [u8s,hdl]];kernel_rfl)) rfl ?_
 have eD:d=digF hSum (joinS l0):=by rw [hd.out,HH.out,hs5.out]
 exact ⟨by rw [eD],HX6.out.B.trans ((But.setRow w6 _).below (B:=w.heap.size) HX6.out.lr HX6.out.B.size)⟩
end Go.Proofs.Ytjfmnkmgnbbfgaa.A
