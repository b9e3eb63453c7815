/- Layer 2: the document's taking in of the last block, and both ways together. -/
import Derived.Test.YtjfmnkmgnbbfgaaH4
set_option linter.unusedVariables false
set_option linter.unusedSimpArgs false
namespace Go.Proofs.Ytjfmnkmgnbbfgaa.A
open Go.RowKit Go.Proofs.YtjfmnkmgnbbfgaaW.PrintWords Go.Proofs.YtjfmnkmgnbbfgaaW.PrintLast Go.Proofs.YtjfmnkmgnbbfgaaW.PrintMore
set_option maxHeartbeats 2000000 in
set_option maxRecDepth 100000 in
theorem ref_take.walk_t (h:List Int) (hl:h.length=8) (s:ByteArray) (hs:64≤s.size) (cnt:Int) (hc:0≤cnt∧cnt<18446744073709551616) (w:World) :
  Calls Try.prog 117 #[.agg (u32s h),.string s,.int .u64 cnt,.bool true] w fun e w'=>e=.returned (.agg (u32s (takeF h s cnt true)))∧Below w.heap.size w w':=by
 go_enter Try.func117,Try.ntmps117
 go_wp2_with (go_at_call 89;refine (show Calls Try.prog 89 #[] _ (fun e w'=>e=.returned (.agg #[.int .u32 1779033703,.int .u32 3144134277,.int .u32 1013904242,.int .u32 2773480762,.int .u32 1359893119,.int .u32 2600822924,.int .u32 528734635,.int .u32 1541459225])∧Below _ _ w') from ref_eight.walk _).mono ?_;rintro e w4 ⟨rfl,hb4⟩)
 have HT:T2 w (w4.alloc (blk ivF 99)) w.heap.size (w.heap.size + 1) (w.heap.size + 1 + 1 + 1) (w.heap.size + 1 + 1) w4.heap.size h (zeros 16) (zeros 16):=by
  have b0:Below w.heap.size w ((((w.alloc (blk h 99)).alloc (blk (zeros 8) 99)).alloc (blk (zeros 16) 138)).alloc (blk (zeros 16) 138)):=below_alloc (below_alloc (below_alloc (below_alloc (Below.refl _ _) _) _) _) _
  have sz:((((w.alloc (blk h 99)).alloc (blk (zeros 8) 99)).alloc (blk (zeros 16) 138)).alloc (blk (zeros 16) 138)).heap.size=w.heap.size + 1 + 1 + 1 + 1:=sz1 (sz1 (sz1 (sz1 rfl _) _) _) _
  have hb4':Below ((((w.alloc (blk h 99)).alloc (blk (zeros 8) 99)).alloc (blk (zeros 16) 138)).alloc (blk (zeros 16) 138)).heap.size ((((w.alloc (blk h 99)).alloc (blk (zeros 8) 99)).alloc (blk (zeros 16) 138)).alloc (blk (zeros 16) 138)) w4:=hb4
  have q4:=hb4'.size
  rw [sz] at q4
  have x0:((((w.alloc (blk h 99)).alloc (blk (zeros 8) 99)).alloc (blk (zeros 16) 138)).alloc (blk (zeros 16) 138)).heap[w.heap.size]?=some (blk h 99):=blk_alloc (blk_alloc (blk_alloc (heap_alloc_last _ _) _) _) _
  have x1:((((w.alloc (blk h 99)).alloc (blk (zeros 8) 99)).alloc (blk (zeros 16) 138)).alloc (blk (zeros 16) 138)).heap[w.heap.size + 1]?=some (blk (zeros 8) 99):=by
   have:=heap_alloc_last (w.alloc (blk h 99)) (blk (zeros 8) 99)
   rw [sz1 rfl] at this
   exact blk_alloc (blk_alloc this _) _
  have x2:((((w.alloc (blk h 99)).alloc (blk (zeros 8) 99)).alloc (blk (zeros 16) 138)).alloc (blk (zeros 16) 138)).heap[w.heap.size + 1 + 1]?=some (blk (zeros 16) 138):=by
   have:=heap_alloc_last ((w.alloc (blk h 99)).alloc (blk (zeros 8) 99)) (blk (zeros 16) 138)
   rw [sz1 (sz1 rfl _)] at this
   exact blk_alloc this _
  have x3:((((w.alloc (blk h 99)).alloc (blk (zeros 8) 99)).alloc (blk (zeros 16) 138)).alloc (blk (zeros 16) 138)).heap[w.heap.size + 1 + 1 + 1]?=some (blk (zeros 16) 138):=by
   have:=heap_alloc_last (((w.alloc (blk h 99)).alloc (blk (zeros 8) 99)).alloc (blk (zeros 16) 138)) (blk (zeros 16) 138)
   rw [sz1 (sz1 (sz1 rfl _) _)] at this
   exact this
  have b1:Below w.heap.size w w4:=below_then b0 b0.size hb4'
  exact ⟨⟨b1.alloc b1.size _,blk_alloc (blk_below x0 hb4') _,blk_alloc (blk_below x1 hb4') _,blk_alloc (blk_below x3 hb4') _,Nat.le_refl _,⟨by omega,by omega,by omega⟩,by omega,by omega,hl,rfl⟩,blk_alloc (blk_below x2 hb4') _,heap_alloc_last _ _,⟨by omega,by omega,by omega,by omega⟩,by omega,by omega,rfl⟩
 have hfm:w4.heap.size≠w.heap.size + 1 + 1 + 1:=by
  have q1:=blk_lt HT.t.bm
  have q2:((((w.alloc (blk h 99)).alloc (blk (zeros 8) 99)).alloc (blk (zeros 16) 138)).alloc (blk (zeros 16) 138)).heap.size≤w4.heap.size:=Below.size hb4
  rw [sz1 (sz1 (sz1 (sz1 rfl _) _) _) _] at q2
  omega
 replace HT:=Aside0.mk HT
 replace hfm:=Aside0.mk hfm
 change Code.wp _ _ _ _ (w4.alloc (blk ivF 99))
 clear hb4
 generalize w4.alloc (blk ivF 99)=W1 at HT ⊢
 generalize w4.heap.size=gf at HT hfm ⊢
 generalize w.heap.size + 1 + 1 + 1=gm at HT hfm ⊢
 generalize w.heap.size + 1 + 1=gv at HT ⊢
 generalize w.heap.size + 1=gr at HT ⊢
 obtain ⟨gh,hgh⟩:∃ z,z=w.heap.size:=⟨_,rfl⟩
 rw [← hgh] at HT ⊢
 have HG:=Aside0.mk hgh
 clear hgh
 go_loopw [12] (fun i wr=>∃ q:Nat,q≤16∧i=.int .i64 q∧Aside0 (T2 w wr gh gr gm gv gf h (fillB 16 (zeros 16) (wordV s) q) (fillB 16 (zeros 16) (gi (h ++ ivF)) q))) (fun i _=>16 - (intOf i).toNat)
 case atStart=>exact ⟨0,by omega,rfl,Aside0.mk (by rw [fillB_zero 16 _ _ rfl,fillB_zero 16 _ _ rfl];exact HT.out)⟩
 case round=>
  obtain ⟨q,hq,rfl,HT2⟩:=hrel
  clear HT
  by_cases hlt:q<16
  ·have c1:(q:Int)<16:=by omega
   have d0:4 * (q:Int) + 3<s.size:=by omega
   have d1:4 * (q:Int)<s.size:=by omega
   have d2:4 * (q:Int) + 1<s.size:=by omega
   have d3:4 * (q:Int) + 2<s.size:=by omega
   have w0:IntKind.i64.wrap (4 * (q:Int))=4 * (q:Int):=by rw [i64_w];unfold wrap64;omega
   have w1:IntKind.i64.wrap (4 * (q:Int) + 1)=4 * (q:Int) + 1:=by rw [i64_w];unfold wrap64;omega
   have w2:IntKind.i64.wrap (4 * (q:Int) + 2)=4 * (q:Int) + 2:=by rw [i64_w];unfold wrap64;omega
   have w3:IntKind.i64.wrap (4 * (q:Int) + 3)=4 * (q:Int) + 3:=by rw [i64_w];unfold wrap64;omega
   have y0:(0:Int)≤4 * (q:Int):=by omega
   have y1:(0:Int)≤4 * (q:Int) + 1:=by omega
   have y2:(0:Int)≤4 * (q:Int) + 2:=by omega
   have y3:(0:Int)≤4 * (q:Int) + 3:=by omega
   have n0:(4 * (q:Int)).toNat=4 * q:=by omega
   have n1:(4 * (q:Int) + 1).toNat=4 * q + 1:=by omega
   have n2:(4 * (q:Int) + 2).toNat=4 * q + 2:=by omega
   have n3:(4 * (q:Int) + 3).toNat=4 * q + 3:=by omega
   have p0:4 * q<s.size:=by omega
   have p1:4 * q + 1<s.size:=by omega
   have p2:4 * q + 2<s.size:=by omega
   have p3:4 * q + 3<s.size:=by omega
   go_wp2_with fail
   refine wp_region_still_tail 30 (by kernel_rfl) (by kernel_rfl) ?_
   simp only [List.take_succ_cons,List.take_zero,List.drop_succ_cons,List.drop_zero]
   repeat still_step
   refine wpStill_nil ?_
   change wpList _ _ _ _ _ wr.drew
   have HT3:=Aside0.mk HT2.out.drew
   generalize wr.drew=W10 at HT3 ⊢
   clear HT2
   have f1:=frozen_blk HT3.out.t.bm q
   have g1:=cell_blk HT3.out.t.bm q (by rw [fillB_length];exact hlt)
   rename_i K hK
   replace hK:=Aside0.mk hK
   go_wp2_with fail
   have e0:((s[4 * q]'p0).toNat:Int)=bt s ((4 * q:Nat):Int):=bt_at s ((4 * q:Nat):Int) p0
   have e1:((s[4 * q + 1]'p1).toNat:Int)=bt s ((4 * q + 1:Nat):Int):=bt_at s ((4 * q + 1:Nat):Int) p1
   have e2:((s[4 * q + 2]'p2).toNat:Int)=bt s ((4 * q + 2:Nat):Int):=bt_at s ((4 * q + 2:Nat):Int) p2
   have e3:((s[4 * q + 3]'p3).toNat:Int)=bt s ((4 * q + 3:Nat):Int):=bt_at s ((4 * q + 3:Nat):Int) p3
   obtain ⟨X,hX⟩:∃ z:Int,z=(((((s[4 * q]'p0).toNat:Int) % 4294967296 + ((s[4 * q + 1]'p1).toNat:Int) % 4294967296 * 256 % 4294967296) % 4294967296 + ((s[4 * q + 2]'p2).toNat:Int) % 4294967296 * 65536 % 4294967296) % 4294967296 + ((s[4 * q + 3]'p3).toNat:Int) % 4294967296 * 16777216 % 4294967296) % 4294967296:=⟨_,rfl⟩
   have hW:X=wordV s q:=by
    rw [hX,e0,e1,e2,e3]
    unfold wordV
    have:=bt_range s ((4 * q:Nat):Int)
    have:=bt_range s ((4 * q + 1:Nat):Int)
    have:=bt_range s ((4 * q + 2:Nat):Int)
    have:=bt_range s ((4 * q + 3:Nat):Int)
    omega
   refine hK.out _ _ ?_
   rw [← hX,hW]
   have HT4:Aside0 (T2 w (W10.setCell ⟨gm,q,none⟩ (.int .u32 (wordV s q))) gh gr gm gv gf h (fillB 16 (zeros 16) (wordV s) (q + 1)) (fillB 16 (zeros 16) (gi (h ++ ivF)) q)):=Aside0.mk (by
    have:=HT3.out.setm hfm.out q (wordV s q)
    rw [fillB_set 16 _ _ q hlt] at this
    exact this)
   generalize W10.setCell ⟨gm,q,none⟩ (.int .u32 (wordV s q))=W11 at HT4 ⊢
   clear hX hW e0 e1 e2 e3 f1 g1 HT3 hK K
   have f1:=frozen_blk HT4.out.bv q
   have g1:=cell_blk HT4.out.bv q (by rw [fillB_length];exact hlt)
   by_cases h8:q<8
   ·have c8:(q:Int)<8:=by omega
    have g2:=cell_blk HT4.out.t.bh q (by omega)
    have HT5:Aside0 (T2 w (W11.setCell ⟨gv,q,none⟩ (.int .u32 (gi h q))) gh gr gm gv gf h (fillB 16 (zeros 16) (wordV s) (q + 1)) (fillB 16 (zeros 16) (gi (h ++ ivF)) (q + 1))):=Aside0.mk (by
     have:=HT4.out.setv q (gi h q)
     rw [show gi h q=gi (h ++ ivF) q from by rw [gi_hi h hl q hlt,if_pos h8]] at this ⊢
     rw [fillB_set 16 _ _ q hlt] at this
     exact this)
    go_wp2_with fail
    go_roundw
    case rel=>exact ⟨q + 1,by omega,rfl,HT5⟩
    case measure=>
     show 16 - (intOf (Value.int IntKind.i64 ((q:Int) + 1))).toNat<16 - (intOf (Value.int IntKind.i64 (q:Int))).toNat
     simp only [intOf]
     omega
   ·have c8:(8:Int)≤(q:Int):=by omega
    have c9:(q:Int) - 8<8:=by omega
    have c10:(0:Int)≤(q:Int) - 8:=by omega
    have c11:((q:Int) - 8).toNat=q - 8:=by omega
    have c12:IntKind.i64.wrap ((q:Int) - 8)=(q:Int) - 8:=by rw [i64_w];unfold wrap64;omega
    have g2:=cell_blk HT4.out.bf (q - 8) (by show q - 8<8;omega)
    have HT5:Aside0 (T2 w (W11.setCell ⟨gv,q,none⟩ (.int .u32 (gi ivF (q - 8)))) gh gr gm gv gf h (fillB 16 (zeros 16) (wordV s) (q + 1)) (fillB 16 (zeros 16) (gi (h ++ ivF)) (q + 1))):=Aside0.mk (by
     have:=HT4.out.setv q (gi ivF (q - 8))
     rw [show gi ivF (q - 8)=gi (h ++ ivF) q from by rw [gi_hi h hl q hlt,if_neg h8]] at this ⊢
     rw [fillB_set 16 _ _ q hlt] at this
     exact this)
    go_wp2_with fail
    go_roundw
    case rel=>exact ⟨q + 1,by omega,rfl,HT5⟩
    case measure=>
     show 16 - (intOf (Value.int IntKind.i64 ((q:Int) + 1))).toNat<16 - (intOf (Value.int IntKind.i64 (q:Int))).toNat
     simp only [intOf]
     omega
  ·obtain rfl:q=16:=by omega
   clear hlt hq
   have l16:(h ++ ivF).length=16:=by simp [hl,ivF]
   have HT8:Aside0 (T2 w wr gh gr gm gv gf h (wordsF s) (h ++ ivF)):=Aside0.mk (by have:=HT2.out;rw [fill_hi h hl] at this;exact this)
   clear HT2
   have hm32:(cnt % 4294967296) % 4294967296=cnt % 4294967296:=by omega
   have hd32:0≤cnt / 4294967296∧cnt / 4294967296<4294967296:=by omega
   have f12:=frozen_blk HT8.out.bv 12
   have c12:=cell_blk HT8.out.bv 12 (by omega)
   have f13:=frozen_blk HT8.out.bv 13
   have c13:=cell_blk HT8.out.bv 13 (by omega)
   have f14:=frozen_blk HT8.out.bv 14
   have c14:=cell_blk HT8.out.bv 14 (by omega)
   rw [start14 h hl] at c14
   go_wp2_with fail
   have HT9:Aside0 (T2 w (((wr.setCell ⟨gv,12,none⟩ (.int .u32 (Go.bits .xor .u32 (gi (h ++ ivF) 12) (cnt % 4294967296)))).setCell ⟨gv,13,none⟩ (.int .u32 (Go.bits .xor .u32 (gi (h ++ ivF) 13) (cnt / 4294967296)))).setCell ⟨gv,14,none⟩ (.int .u32 3766232660)) gh gr gm gv gf h (wordsF s) (startF h cnt true)):=Aside0.mk (by
    have e:startF h cnt true=(st2 h cnt).set 14 3766232660:=by
     show (st2 h cnt).set 14 (xor32 4294967295 (gi (h ++ ivF) 14))=_
     rw [start14 h hl]
     rfl
    rw [e]
    exact ((HT8.out.setv 12 _).setv 13 _).setv 14 _)
   clear HT8 f12 c12 f13 c13 f14 c14 l16 hm32 hd32
   generalize ((wr.setCell ⟨gv,12,none⟩ (.int .u32 (Go.bits .xor .u32 (gi (h ++ ivF) 12) (cnt % 4294967296)))).setCell ⟨gv,13,none⟩ (.int .u32 (Go.bits .xor .u32 (gi (h ++ ivF) 13) (cnt / 4294967296)))).setCell ⟨gv,14,none⟩ (.int .u32 3766232660)=W9 at HT9 ⊢
   obtain ⟨m,hm⟩:∃ z,z=wordsF s:=⟨_,rfl⟩
   obtain ⟨v0,hv0⟩:∃ z,z=startF h cnt true:=⟨_,rfl⟩
   rw [← hm,← hv0] at HT9
   replace hm:=Aside0.mk hm
   replace hv0:=Aside0.mk hv0
   go_loopw [13] (fun i wr=>∃ r:Nat,r≤10∧i=.int .i64 r∧Aside0 (T2 w wr gh gr gm gv gf h m (runF m v0 r))) (fun i _=>10 - (intOf i).toNat)
   case atStart=>exact ⟨0,by omega,rfl,HT9⟩
   case round=>
    obtain ⟨r,hr,rfl,HR⟩:=hrel
    clear HT9
    by_cases hlt:r<10
    ·have c1:(r:Int)<10:=by omega
     have hrow:∀ W:World,(W.alloc (.cells (rowsL.map Value.string).toArray 9 (0,0))).cell? ⟨W.heap.size,r,none⟩=some (.string (rowS r)):=by
      intro W
      have e:=heap_alloc_last W (.cells (rowsL.map Value.string).toArray 9 (0,0))
      have lr:r<rowsL.length:=hlt
      simp only [World.cell?,e]
      simp [rowS,List.getD_eq_getElem?_getD,List.getElem?_eq_getElem lr]
     go_wp2_with fail
     go_at_call 127
     refine (rows_walk wr).mono ?_
     rintro e w5 ⟨rfl,rfl⟩
     have hrw:=hrow wr
     have HR5:=Aside0.mk (HR.out.below (below_alloc (Below.refl _ _) (.cells (rowsL.map Value.string).toArray 9 (0,0))))
     clear hrow
     go_wp2_with fail
     clear hrw HR
     generalize wr.alloc (.cells (rowsL.map Value.string).toArray 9 (0,0))=W5 at HR5 ⊢
     have hsz:=rowS_size r hlt
     obtain ⟨rs,hrs⟩:∃ z,z=rowS r:=⟨_,rfl⟩
     rw [← hrs] at hsz ⊢
     replace hrs:=Aside0.mk hrs
     go_loopw [15] (fun i wr=>∃ q:Nat,q≤8∧i=.int .i64 q∧Aside0 (T2 w wr gh gr gm gv gf h m (fold8 m (runF m v0 r) r q))) (fun i _=>8 - (intOf i).toNat)
     case atStart=>exact ⟨0,by omega,rfl,HR5⟩
     case round=>
      obtain ⟨q,hq,rfl,HR2⟩:=hrel
      clear HR5
      by_cases hlq:q<8
      ·have c2:(q:Int)<8:=by omega
       have s1:=sg_lt (16 * r + 2 * q) (by omega)
       have s2:=sg_lt (16 * r + (2 * q + 1)) (by omega)
       have m1:=cell_blk HR2.out.t.bm (sg (16 * r + 2 * q)) (by rw [HR2.out.t.lm16];exact s1)
       have m2:=cell_blk HR2.out.t.bm (sg (16 * r + (2 * q + 1))) (by rw [HR2.out.t.lm16];exact s2)
       have s1':((sg (16 * r + 2 * q):Nat):Int)<16:=by omega
       have s2':((sg (16 * r + (2 * q + 1)):Nat):Int)<16:=by omega
       have w0:IntKind.i64.wrap (2 * (q:Int))=2 * (q:Int):=by rw [i64_w];unfold wrap64;omega
       have w1:IntKind.i64.wrap (2 * (q:Int) + 1)=2 * (q:Int) + 1:=by rw [i64_w];unfold wrap64;omega
       have y0:(0:Int)≤2 * (q:Int):=by omega
       have y1:(0:Int)≤2 * (q:Int) + 1:=by omega
       have x0:2 * (q:Int)<16:=by omega
       have x1:2 * (q:Int) + 1<16:=by omega
       have n0:(2 * (q:Int)).toNat=2 * q:=by omega
       have n1:(2 * (q:Int) + 1).toNat=2 * q + 1:=by omega
       have p0:2 * q<16:=by omega
       have p1:2 * q + 1<16:=by omega
       have hp0:∀ h:2 * q<rs.size,placeV (((rs[2 * q]'h).toNat:Nat):Int)=(sg (16 * r + 2 * q):Int):=by
        rw [hrs.out];exact fun h=>row_place r (2 * q) hlt (by omega) h
       have hp1:∀ h:2 * q + 1<rs.size,placeV (((rs[2 * q + 1]'h).toNat:Nat):Int)=(sg (16 * r + (2 * q + 1)):Int):=by
        rw [hrs.out];exact fun h=>row_place r (2 * q + 1) hlt (by omega) h
       have HP0:=Aside0.mk hp0
       have HP1:=Aside0.mk hp1
       clear hp0 hp1
       go_wp2_with fail
       refine wp_region_still_lit (by kernel_rfl) (by kernel_rfl) ?_
       repeat still_step
       still_call (place_at _ _ (HP0.out _) _)
       repeat still_step
       still_call (place_at _ _ (HP1.out _) _)
       repeat still_step
       refine wpStill_nil ?_
       change Exit.then _ _ Exit.normal _ wr.drew
       have HR3:=Aside0.mk HR2.out.drew
       generalize wr.drew=W10 at HR3 ⊢
       clear HR2 m1 m2
       rename_i K hK
       change K _ _
       refine hK _ _ ?_
       clear hK K
       by_cases h4:q<4
       ·have c4:(q:Int)<4:=by omega
        have k0:=cell_blk HR3.out.bv 0 (by rw [HR3.out.lv16];decide)
        have z0:=frozen_blk HR3.out.bv 0
        have k1:=cell_blk HR3.out.bv 1 (by rw [HR3.out.lv16];decide)
        have z1:=frozen_blk HR3.out.bv 1
        have k2:=cell_blk HR3.out.bv 2 (by rw [HR3.out.lv16];decide)
        have z2:=frozen_blk HR3.out.bv 2
        have k3:=cell_blk HR3.out.bv 3 (by rw [HR3.out.lv16];decide)
        have z3:=frozen_blk HR3.out.bv 3
        have k4:=cell_blk HR3.out.bv 4 (by rw [HR3.out.lv16];decide)
        have z4:=frozen_blk HR3.out.bv 4
        have k5:=cell_blk HR3.out.bv 5 (by rw [HR3.out.lv16];decide)
        have z5:=frozen_blk HR3.out.bv 5
        have k6:=cell_blk HR3.out.bv 6 (by rw [HR3.out.lv16];decide)
        have z6:=frozen_blk HR3.out.bv 6
        have k7:=cell_blk HR3.out.bv 7 (by rw [HR3.out.lv16];decide)
        have z7:=frozen_blk HR3.out.bv 7
        have k8:=cell_blk HR3.out.bv 8 (by rw [HR3.out.lv16];decide)
        have z8:=frozen_blk HR3.out.bv 8
        have k9:=cell_blk HR3.out.bv 9 (by rw [HR3.out.lv16];decide)
        have z9:=frozen_blk HR3.out.bv 9
        have k10:=cell_blk HR3.out.bv 10 (by rw [HR3.out.lv16];decide)
        have z10:=frozen_blk HR3.out.bv 10
        have k11:=cell_blk HR3.out.bv 11 (by rw [HR3.out.lv16];decide)
        have z11:=frozen_blk HR3.out.bv 11
        have k12:=cell_blk HR3.out.bv 12 (by rw [HR3.out.lv16];decide)
        have z12:=frozen_blk HR3.out.bv 12
        have k13:=cell_blk HR3.out.bv 13 (by rw [HR3.out.lv16];decide)
        have z13:=frozen_blk HR3.out.bv 13
        have k14:=cell_blk HR3.out.bv 14 (by rw [HR3.out.lv16];decide)
        have z14:=frozen_blk HR3.out.bv 14
        have k15:=cell_blk HR3.out.bv 15 (by rw [HR3.out.lv16];decide)
        have z15:=frozen_blk HR3.out.bv 15
        have hag:=u32s16 _ HR3.out.lv16
        have hst:∀ W v',W.heap[gv]?=some (blk (fold8 m (runF m v0 r) r q) 138)→v'.length=16→(storeCells ⟨gv,0,none⟩ (u32s v').toList).run Try.prog W=.ok () (W.setRow gv (u32s v')):=fun W v' e hv=>run_storeCells_blk e (by rw [hv,HR3.out.lv16])
        replace hst:=Aside0.mk hst
        go_wp2_with fail
        go_at_call 129
        refine (refmix_at W10 _ q (4 + q) (8 + q) (12 + q) _ _ _ _ _ _ _ hag (by omega) (by omega) (by omega) (by omega) HR3.out.lv16 (by omega) (by omega) (by omega) (by omega)).mono ?_
        rintro e W11 ⟨rfl,hb11⟩
        have HR4:=Aside0.mk (HR3.out.below hb11)
        clear hb11
        obtain ⟨nv,hnv⟩:∃ z,z=mixF (fold8 m (runF m v0 r) r q) q (4 + q) (8 + q) (12 + q) (gi m (sg (16 * r + 2 * q))) (gi m (sg (16 * r + (2 * q + 1)))):=⟨_,rfl⟩
        rw [← hnv]
        have hnl:nv.length=16:=by rw [hnv,mix_len];exact HR3.out.lv16
        have hnx:nv=fold8 m (runF m v0 r) r (q + 1):=by
         rw [hnv]
         rw [fold8_succ,if_pos h4];rfl
        replace hnv:=Aside0.mk hnv
        replace hnx:=Aside0.mk hnx
        have hs2:=hst.out W11 nv HR4.out.bv hnl
        have hsz2:(u32s nv).size=16:=by simp [u32s,hnl]
        clear HR3
        go_wp2_with fail
        have HR6:=Aside0.mk (HR4.out.setRow nv hnl)
        rw [hnx.out] at HR6
        first
         | refine ⟨⟨q + 1,by omega,rfl,by rw [hnx.out];exact HR6⟩, ?measure⟩
         | refine ⟨⟨_,_,_,_,_,_,_,_,_,_,_,_,_,_,_,_,_,_,_,_,_,_,_,_,_,_,_,_,_,_,_,_,_,_,_,_,_,_,_,_,_,_,_,_,_,_,_,_,_,_,_,_,_,_,_,⟨q + 1,by omega,rfl,by rw [hnx.out];exact HR6⟩,rfl⟩, ?measure⟩
        case measure=>
         show 8 - (intOf (Value.int IntKind.i64 ((q:Int) + 1))).toNat<8 - (intOf (Value.int IntKind.i64 (q:Int))).toNat
         simp only [intOf]
         omega
       ·have c4:(4:Int)≤(q:Int):=by omega
        have c5:IntKind.i64.wrap ((q:Int) - 4)=(q:Int) - 4:=by rw [i64_w];unfold wrap64;omega
        have c6:(0:Int)≤(q:Int) - 4:=by omega
        have c7:(q:Int) - 4<4:=by omega
        have k0:=cell_blk HR3.out.bv 0 (by rw [HR3.out.lv16];decide)
        have z0:=frozen_blk HR3.out.bv 0
        have k1:=cell_blk HR3.out.bv 1 (by rw [HR3.out.lv16];decide)
        have z1:=frozen_blk HR3.out.bv 1
        have k2:=cell_blk HR3.out.bv 2 (by rw [HR3.out.lv16];decide)
        have z2:=frozen_blk HR3.out.bv 2
        have k3:=cell_blk HR3.out.bv 3 (by rw [HR3.out.lv16];decide)
        have z3:=frozen_blk HR3.out.bv 3
        have k4:=cell_blk HR3.out.bv 4 (by rw [HR3.out.lv16];decide)
        have z4:=frozen_blk HR3.out.bv 4
        have k5:=cell_blk HR3.out.bv 5 (by rw [HR3.out.lv16];decide)
        have z5:=frozen_blk HR3.out.bv 5
        have k6:=cell_blk HR3.out.bv 6 (by rw [HR3.out.lv16];decide)
        have z6:=frozen_blk HR3.out.bv 6
        have k7:=cell_blk HR3.out.bv 7 (by rw [HR3.out.lv16];decide)
        have z7:=frozen_blk HR3.out.bv 7
        have k8:=cell_blk HR3.out.bv 8 (by rw [HR3.out.lv16];decide)
        have z8:=frozen_blk HR3.out.bv 8
        have k9:=cell_blk HR3.out.bv 9 (by rw [HR3.out.lv16];decide)
        have z9:=frozen_blk HR3.out.bv 9
        have k10:=cell_blk HR3.out.bv 10 (by rw [HR3.out.lv16];decide)
        have z10:=frozen_blk HR3.out.bv 10
        have k11:=cell_blk HR3.out.bv 11 (by rw [HR3.out.lv16];decide)
        have z11:=frozen_blk HR3.out.bv 11
        have k12:=cell_blk HR3.out.bv 12 (by rw [HR3.out.lv16];decide)
        have z12:=frozen_blk HR3.out.bv 12
        have k13:=cell_blk HR3.out.bv 13 (by rw [HR3.out.lv16];decide)
        have z13:=frozen_blk HR3.out.bv 13
        have k14:=cell_blk HR3.out.bv 14 (by rw [HR3.out.lv16];decide)
        have z14:=frozen_blk HR3.out.bv 14
        have k15:=cell_blk HR3.out.bv 15 (by rw [HR3.out.lv16];decide)
        have z15:=frozen_blk HR3.out.bv 15
        have hag:=u32s16 _ HR3.out.lv16
        have hst:∀ W v',W.heap[gv]?=some (blk (fold8 m (runF m v0 r) r q) 138)→v'.length=16→(storeCells ⟨gv,0,none⟩ (u32s v').toList).run Try.prog W=.ok () (W.setRow gv (u32s v')):=fun W v' e hv=>run_storeCells_blk e (by rw [hv,HR3.out.lv16])
        replace hst:=Aside0.mk hst
        go_wp2_with fail
        go_at_call 129
        refine (refmix_at W10 _ (q - 4) (4 + (q - 4 + 1) % 4) (8 + (q - 4 + 2) % 4) (12 + (q - 4 + 3) % 4) _ _ _ _ _ _ _ hag (by omega) (by omega) (by omega) (by omega) HR3.out.lv16 (by omega) (by omega) (by omega) (by omega)).mono ?_
        rintro e W11 ⟨rfl,hb11⟩
        have HR4:=Aside0.mk (HR3.out.below hb11)
        clear hb11
        obtain ⟨nv,hnv⟩:∃ z,z=mixF (fold8 m (runF m v0 r) r q) (q - 4) (4 + (q - 4 + 1) % 4) (8 + (q - 4 + 2) % 4) (12 + (q - 4 + 3) % 4) (gi m (sg (16 * r + 2 * q))) (gi m (sg (16 * r + (2 * q + 1)))):=⟨_,rfl⟩
        rw [← hnv]
        have hnl:nv.length=16:=by rw [hnv,mix_len];exact HR3.out.lv16
        have hnx:nv=fold8 m (runF m v0 r) r (q + 1):=by
         rw [hnv]
         rw [fold8_succ,if_neg h4,rndB,show 8 + 2 * (q - 4)=2 * q from by omega,show 9 + 2 * (q - 4)=2 * q + 1 from by omega]
        replace hnv:=Aside0.mk hnv
        replace hnx:=Aside0.mk hnx
        have hs2:=hst.out W11 nv HR4.out.bv hnl
        have hsz2:(u32s nv).size=16:=by simp [u32s,hnl]
        clear HR3
        go_wp2_with fail
        have HR6:=Aside0.mk (HR4.out.setRow nv hnl)
        rw [hnx.out] at HR6
        first
         | refine ⟨⟨q + 1,by omega,rfl,by rw [hnx.out];exact HR6⟩, ?measure⟩
         | refine ⟨⟨_,_,_,_,_,_,_,_,_,_,_,_,_,_,_,_,_,_,_,_,_,_,_,_,_,_,_,_,_,_,_,_,_,_,_,_,_,_,_,_,_,_,_,_,_,_,_,_,_,_,_,_,_,_,_,⟨q + 1,by omega,rfl,by rw [hnx.out];exact HR6⟩,rfl⟩, ?measure⟩
        case measure=>
         show 8 - (intOf (Value.int IntKind.i64 ((q:Int) + 1))).toNat<8 - (intOf (Value.int IntKind.i64 (q:Int))).toNat
         simp only [intOf]
         omega
      ·obtain rfl:q=8:=by omega
       clear hlq hq
       go_wp2_with fail
       first
        | refine ⟨⟨r + 1,by omega,rfl,HR2⟩, ?measure⟩
        | refine ⟨⟨_,_,_,_,_,_,_,_,_,_,_,_,_,_,_,_,_,_,_,_,_,_,_,_,_,_,_,_,_,_,_,_,_,_,_,_,_,_,_,_,_,_,_,_,_,_,_,_,_,_,_,_,_,_,_,_,_,_,_,_,_,_,_,_,_,⟨r + 1,by omega,rfl,HR2⟩,rfl⟩, ?measure⟩
       case measure=>
        show 10 - (intOf (Value.int IntKind.i64 ((r:Int) + 1))).toNat<10 - (intOf (Value.int IntKind.i64 (r:Int))).toNat
        simp only [intOf]
        omega
    ·obtain rfl:r=10:=by omega
     clear hlt hr
     go_wp2_with fail
     have lv:=HR.out.lv16
     obtain ⟨V,hV⟩:∃ z,z=runF m v0 10:=⟨_,rfl⟩
     rw [← hV] at HR lv
     replace hV:=Aside0.mk hV
     go_loopw [19] (fun i wr=>∃ q:Nat,q≤8∧i=.int .i64 q∧Aside0 (T2 w wr gh gr gm gv gf (fillB 8 h (fun j=>xor32 (gi h j) (xor32 (gi V j) (gi V (j + 8)))) q) m V)) (fun i _=>8 - (intOf i).toNat)
     case atStart=>exact ⟨0,by omega,rfl,Aside0.mk (by rw [fillB_zero 8 h _ hl];exact HR.out)⟩
     case round=>
      obtain ⟨q,hq,rfl,HR2⟩:=hrel
      clear HR
      by_cases hlq:q<8
      ·have c2:(q:Int)<8:=by omega
       have c3:(q:Int) + 8<16:=by omega
       have c5:(q:Int)<16:=by omega
       have c6:IntKind.i64.wrap ((q:Int) + 8)=(q:Int) + 8:=by rw [i64_w];unfold wrap64;omega
       have c7:(0:Int)≤(q:Int) + 8:=by omega
       have c4:((q:Int) + 8).toNat=q + 8:=by omega
       have m0:=cell_blk HR2.out.t.bh q (by rw [fillB_length];exact hlq)
       rw [gi_fillB _ _ _ _ _ hlq,if_neg (Nat.lt_irrefl _)] at m0
       have m1:=cell_blk HR2.out.bv q (by omega)
       have m2:=cell_blk HR2.out.bv (q + 8) (by omega)
       go_wp2_with fail
       refine wp_region_still_tail 13 (by kernel_rfl) (by kernel_rfl) ?_
       simp only [List.take_succ_cons,List.take_zero,List.drop_succ_cons,List.drop_zero]
       repeat still_step
       refine wpStill_nil ?_
       change wpList _ _ _ _ _ wr.drew
       have HR3:=Aside0.mk HR2.out.drew
       generalize wr.drew=W10 at HR3 ⊢
       clear HR2 m0 m1 m2
       have f0:=frozen_blk HR3.out.t.bh q
       have m0:=cell_blk HR3.out.t.bh q (by rw [fillB_length];exact hlq)
       go_wp2_with fail
       have hX:Go.bits .xor .u32 (Go.bits .xor .u32 (gi h q) (gi V q)) (gi V (q + 8))=xor32 (gi h q) (xor32 (gi V q) (gi V (q + 8))):=xor32_assoc _ _ _
       have HR6:Aside0 (T2 w (W10.setCell ⟨gh,q,none⟩ (.int .u32 (Go.bits .xor .u32 (Go.bits .xor .u32 (gi h q) (gi V q)) (gi V (q + 8))))) gh gr gm gv gf (fillB 8 h (fun j=>xor32 (gi h j) (xor32 (gi V j) (gi V (j + 8)))) (q + 1)) m V):=Aside0.mk (by
        rw [hX,← fillB_set 8 h _ q hlq]
        exact HR3.out.seth q _)
       first
        | refine ⟨⟨q + 1,by omega,rfl,HR6⟩, ?measure⟩
        | refine ⟨⟨_,_,_,_,_,_,_,_,_,_,_,_,_,_,_,_,_,_,_,⟨q + 1,by omega,rfl,HR6⟩,rfl⟩, ?measure⟩
       case measure=>
        show 8 - (intOf (Value.int IntKind.i64 ((q:Int) + 1))).toNat<8 - (intOf (Value.int IntKind.i64 (q:Int))).toNat
        simp only [intOf]
        omega
      ·obtain rfl:q=8:=by omega
       clear hlq hq
       have lH:(fillB 8 h (fun j=>xor32 (gi h j) (xor32 (gi V j) (gi V (j + 8)))) 8).length=8:=fillB_length _ _ _ _
       obtain ⟨H,hH⟩:∃ z,z=fillB 8 h (fun j=>xor32 (gi h j) (xor32 (gi V j) (gi V (j + 8)))) 8:=⟨_,rfl⟩
       rw [← hH] at HR2 lH
       replace hH:=Aside0.mk hH
       have k0:=cell_blk HR2.out.t.bh 0 (by omega)
       have z0:=cell_blk HR2.out.t.br 0 (by decide)
       have f0:=frozen_blk HR2.out.t.br 0
       have k1:=cell_blk HR2.out.t.bh 1 (by omega)
       have z1:=cell_blk HR2.out.t.br 1 (by decide)
       have f1:=frozen_blk HR2.out.t.br 1
       have k2:=cell_blk HR2.out.t.bh 2 (by omega)
       have z2:=cell_blk HR2.out.t.br 2 (by decide)
       have f2:=frozen_blk HR2.out.t.br 2
       have k3:=cell_blk HR2.out.t.bh 3 (by omega)
       have z3:=cell_blk HR2.out.t.br 3 (by decide)
       have f3:=frozen_blk HR2.out.t.br 3
       have k4:=cell_blk HR2.out.t.bh 4 (by omega)
       have z4:=cell_blk HR2.out.t.br 4 (by decide)
       have f4:=frozen_blk HR2.out.t.br 4
       have k5:=cell_blk HR2.out.t.bh 5 (by omega)
       have z5:=cell_blk HR2.out.t.br 5 (by decide)
       have f5:=frozen_blk HR2.out.t.br 5
       have k6:=cell_blk HR2.out.t.bh 6 (by omega)
       have z6:=cell_blk HR2.out.t.br 6 (by decide)
       have f6:=frozen_blk HR2.out.t.br 6
       have k7:=cell_blk HR2.out.t.bh 7 (by omega)
       have z7:=cell_blk HR2.out.t.br 7 (by decide)
       have f7:=frozen_blk HR2.out.t.br 7
       go_wp2_with fail
       have hgr:((((((((wr.setCell ⟨gr,0,none⟩ (.int .u32 (gi H 0))).setCell ⟨gr,1,none⟩ (.int .u32 (gi H 1))).setCell ⟨gr,2,none⟩ (.int .u32 (gi H 2))).setCell ⟨gr,3,none⟩ (.int .u32 (gi H 3))).setCell ⟨gr,4,none⟩ (.int .u32 (gi H 4))).setCell ⟨gr,5,none⟩ (.int .u32 (gi H 5))).setCell ⟨gr,6,none⟩ (.int .u32 (gi H 6))).setCell ⟨gr,7,none⟩ (.int .u32 (gi H 7))).heap[gr]?=some (blk H 99):=by
        have e:=set_blk (set_blk (set_blk (set_blk (set_blk (set_blk (set_blk (set_blk HR2.out.t.br 0 (gi H 0)) 1 (gi H 1)) 2 (gi H 2)) 3 (gi H 3)) 4 (gi H 4)) 5 (gi H 5)) 6 (gi H 6)) 7 (gi H 7)
        rw [show ((((((((zeros 8).set 0 (gi H 0)).set 1 (gi H 1)).set 2 (gi H 2)).set 3 (gi H 3)).set 4 (gi H 4)).set 5 (gi H 5)).set 6 (gi H 6)).set 7 (gi H 7)=H from eight_sets H lH] at e
        exact e
       refine bodyPost_ret (results_cell_row rfl _ _ gr 99 (u32s H) (0,0) _ rfl hgr Try.underlying99 rfl (by rw [show (u32s H).size=8 from by simp [u32s,lH]];kernel_rfl)) rfl ?_
       have hF:H=takeF h s cnt true:=by rw [hH.out,hV.out,hv0.out,hm.out,takeF]
       have lr:=HR2.out.t.lr
       refine ⟨by rw [hF], ?_⟩
       exact (((((((HR2.out.t.B.setCell (p:=⟨gr,0,none⟩) lr _).setCell (p:=⟨gr,1,none⟩) lr _).setCell (p:=⟨gr,2,none⟩) lr _).setCell (p:=⟨gr,3,none⟩) lr _).setCell (p:=⟨gr,4,none⟩) lr _).setCell (p:=⟨gr,5,none⟩) lr _).setCell (p:=⟨gr,6,none⟩) lr _).setCell (p:=⟨gr,7,none⟩) lr _
theorem ref_take.walk (h:List Int) (hl:h.length=8) (s:ByteArray) (hs:64≤s.size) (cnt:Int) (hc:0≤cnt∧cnt<18446744073709551616) (last:Bool) (w:World) :
  Calls Try.prog 117 #[.agg (u32s h),.string s,.int .u64 cnt,.bool last] w fun e w'=>e=.returned (.agg (u32s (takeF h s cnt last)))∧Below w.heap.size w w':=by
 cases last
 ·exact ref_take.walk_f h hl s hs cnt hc w
 ·exact ref_take.walk_t h hl s hs cnt hc w
end Go.Proofs.Ytjfmnkmgnbbfgaa.A
