/- Several texts of this claim in one: Gb, K1, H3. -/
import Derived.Test.YtjfmnkmgnbbfgaaG0
import Derived.Test.YtjfmnkmgnbbfgaaC5
import Derived.Test.YtjfmnkmgnbbfgaaK0
import Derived.Test.YtjfmnkmgnbbfgaaA41
import Derived.Test.YtjfmnkmgnbbfgaaH1
set_option linter.unusedVariables false
set_option linter.unusedSimpArgs false
namespace Go.Proofs.Ytjfmnkmgnbbfgaa.A
open Go.RowKit Go.Proofs.YtjfmnkmgnbbfgaaW.PrintWords Go.Proofs.YtjfmnkmgnbbfgaaW.PrintLast Go.Proofs.YtjfmnkmgnbbfgaaW.PrintMore
theorem doV_append (xs ys:List CallV):∀ b p a,doV (xs ++ ys) b p a=if (doV xs b p a).2.2.2=0 then doV ys (doV xs b p a).1 (doV xs b p a).2.1 (doV xs b p a).2.2.1 else doV xs b p a:=by
 induction xs with
 | nil=>intro b p a;rfl
 | cons c cs ih=>
  intro b p a
  rw [List.cons_append,doV,doV]
  by_cases h:(callV c b p a).2.2.2=0
  ·rw [if_pos h,if_pos h,ih]
  ·rw [if_neg h,if_neg h,if_neg h]
theorem callV_valid (c:CallV) (b:List ByteArray) (p:List S27) (a:Int) (hv:Valid b p) (h:(callV c b p a).2.2.2=0):Valid (callV c b p a).1 (callV c b p a).2.1:=by
 cases c with
 | put i s=>
  simp only [callV,putV] at h ⊢
  by_cases h1:lookV b.length i s=0
  ·rw [if_pos h1] at h ⊢
   by_cases h2:a=0
   ·rw [if_pos h2] at h;cases h
   ·rw [if_neg h2];exact valid_snoc hv h1
  ·rw [if_neg h1] at h;exact absurd h h1
 | flush=>
  simp only [callV,flushV] at h ⊢
  by_cases h2:a=0
  ·rw [if_pos h2] at h;cases h
  ·rw [if_neg h2];exact land_valid hv
theorem callV_blen (c:CallV) (b:List ByteArray) (p:List S27) (a:Int) (h:(callV c b p a).2.2.2=0):(callV c b p a).1.length=b.length:=by
 cases c with
 | put i s=>
  simp only [callV,putV] at h ⊢
  by_cases h1:lookV b.length i s=0
  ·rw [if_pos h1] at h ⊢
   split <;> rfl
  ·rw [if_neg h1] at h;exact absurd h h1
 | flush=>
  simp only [callV,flushV] at h ⊢
  split
  ·rfl
  ·rw [landTo_length]
theorem callV_plen (c:CallV) (b:List ByteArray) (p:List S27) (a:Int):(callV c b p a).2.1.length≤p.length + 1:=by
 cases c with
 | put i s=>exact putV_len b p a i s
 | flush=>
  simp only [callV,flushV]
  split
  ·simp
  ·simp
theorem doV_valid (cs:List CallV):∀ b p a,Valid b p→(doV cs b p a).2.2.2=0→Valid (doV cs b p a).1 (doV cs b p a).2.1∧(doV cs b p a).1.length=b.length:=by
 induction cs with
 | nil=>intro b p a hv _;exact ⟨hv,rfl⟩
 | cons c cs ih=>
  intro b p a hv h
  rw [doV] at h ⊢
  by_cases h1:(callV c b p a).2.2.2=0
  ·rw [if_pos h1] at h ⊢
   have:=ih _ _ _ (callV_valid c b p a hv h1) h
   rw [callV_blen c b p a h1] at this
   exact this
  ·rw [if_neg h1] at h;exact absurd h h1
theorem doV_plen (cs:List CallV):∀ b p a,(doV cs b p a).2.1.length≤p.length + cs.length:=by
 induction cs with
 | nil=>intro b p a;exact Nat.le_refl _
 | cons c cs ih=>
  intro b p a
  rw [doV,List.length_cons]
  have h1:=callV_plen c b p a
  split
  ·have:=ih (callV c b p a).1 (callV c b p a).2.1 (callV c b p a).2.2.1
   omega
  ·omega
theorem tup0 (T:List ByteArray × List S27 × Int × Int):some T=some (if T.2.2.2=0 then (T.1,T.2.1,T.2.2.1,(0:Int)) else T):=by
 obtain ⟨t1,t2,t3,t4⟩:=T
 dsimp only
 by_cases h2:t4=0
 ·rw [if_pos h2,h2]
 ·rw [if_neg h2]
theorem doV_b256 (cs:List CallV):∀ b p a,b.length≤256→(doV cs b p a).1.length≤256:=by
 induction cs with
 | nil=>intro b p a h;exact h
 | cons c cs ih=>
  intro b p a h
  rw [doV]
  have h1:=(callV_len c b p a h).1
  split
  ·exact ih _ _ _ h1
  ·exact h1
theorem homeL_size (b:List ByteArray) (p:List S27):(homeL b p).length≤300:=by
 unfold homeL
 split
 ·rename_i h
  have:=(badV_zero h).1.1
  simp [volL];omega
 ·simp
end Go.Proofs.Ytjfmnkmgnbbfgaa.A
set_option linter.unusedVariables false
set_option linter.unusedSimpArgs false
namespace Go.Proofs.Ytjfmnkmgnbbfgaa.A
open Go.RowKit Go.Proofs.YtjfmnkmgnbbfgaaW.PrintWords Go.Proofs.YtjfmnkmgnbbfgaaW.PrintLast Go.Proofs.YtjfmnkmgnbbfgaaW.PrintMore
theorem rflush_walk (A0:Option Addr) (c0:Nat) (b:List ByteArray) (A1:Option Addr) (c1:Nat) (p:List S27) (a:Int) (ok:Nat→Prop) (w:World)
  (hd:Dr w ok (.slice A0 b.length c0) (.slice A1 p.length c1) b p) (hv:Valid b p) (hp:p.length≤1000) :
  Calls Try.prog 41 #[.agg #[.slice A0 b.length c0,.slice A1 p.length c1,.int .i64 a]] w fun e w'=>DoOut w w' ok e (flushV b p a):=by
 obtain ⟨T,hT⟩:∃ z,z=flushV b p a:=⟨_,rfl⟩
 have h:=rflush_many b p a hv hp (b.length + p.length + 3) (by omega)
 rw [← hT] at h ⊢
 obtain ⟨t1,t2,t3,t4⟩:=T
 exact (hibernacleref15_Flush.calls _ ok A0 c0 b ok A1 c1 p a t1 t2 t3 t4 w hd.1 hd.2 h).mono (fun e w' h=>DoOut.of h)
set_option maxHeartbeats 8000000 in
set_option maxRecDepth 100000 in
theorem rhome_walk (A0:Option Addr) (c0:Nat) (b:List ByteArray) (A1:Option Addr) (c1:Nat) (p:List S27) (a:Int) (A:Option Addr) (c:Nat) (l:List S27) (ok:Nat→Prop) (w:World)
  (hd:Dr w ok (.slice A0 b.length c0) (.slice A1 p.length c1) b p) (hl:Kd.C k27 w A l.length l) (hc:l.length≤c) (hv:Valid b p) (hp:p.length + l.length≤1000) :
  Calls Try.prog 74 #[.agg #[.slice A0 b.length c0,.slice A1 p.length c1,.int .i64 a],.slice A l.length c] w fun e w'=>DoOut w w' ok e (doV (homeV l) b p a):=by
 have hu29:=Try.underlying29
 obtain ⟨T,hT⟩:∃ z,z=doV (l.map homeC) b p a:=⟨_,rfl⟩
 have hV:doV (homeV l) b p a=if T.2.2.2=0 then flushV T.1 T.2.1 T.2.2.1 else T:=by
  rw [homeV,doV_append,← hT]
  show (if T.2.2.2=0 then (if (flushV T.1 T.2.1 T.2.2.1).2.2.2=0 then _ else _) else _)=_
  split
  ·exact (Option.some.inj (tup0 (flushV T.1 T.2.1 T.2.2.1))).symm
  ·rfl
 have hpl:=doV_plen (l.map homeC) b p a
 have hvd:=doV_valid (l.map homeC) b p a hv
 rw [List.length_map] at hpl
 rw [← hT] at hpl hvd
 obtain ⟨t1,t2,t3,t4⟩:=T
 dsimp only at hV hpl hvd
 have HV:=Aside0.mk hV
 have HT:=Aside0.mk hT.symm
 have HVD:=Aside0.mk hvd
 have HD:=Aside0.mk hd
 have HL:=Aside0.mk hl
 clear hd hl hV hT hvd
 go_enter Try.func74,Try.ntmps74
 go_wp2_with (first
  | ((with_reducible refine gate_dst (N:=2) rfl ?_);refine box_event ?hg (N:=2) ?hd (cs:=#[.slice A0 b.length c0,.slice A1 p.length c1,.int .i64 a]) (t:=29) ?hr ?_;(case hd=>rfl);(case hg=>rfl);(case hr=>first |(go_simp;done) |(go_simp;rfl));intro bd hbd wd hxd hld;have HXd:=Aside0.mk hxd;have HLd:=Aside0.mk hld;have HBd:=Aside0.mk hbd;clear hxd hld hbd)
  | ((with_reducible refine gate_dst (N:=4) rfl ?_);refine box_event ?hg (N:=4) ?hd (cs:=#[.slice none 0 0,.slice none 0 0,.int .i64 0]) (t:=29) ?hr ?_;(case hd=>rfl);(case hg=>rfl);(case hr=>first |(go_simp;done) |(go_simp;rfl));intro br hbr wr hxr hlr;have S0:=Aside0.mk (St.start HD.out HXd.out HLd.out HBd.out hxr hlr hbr);have j0:=(blk_cell S0.out.x 0).trans rfl;have j1:=(blk_cell S0.out.x 1).trans rfl;have j2:=(blk_cell S0.out.x 2).trans rfl;clear hxr hlr hbr)
  | fail)
 refine (rput_walk_true A0 c0 b A1 c1 p a A c l (OkQ w ok bd br) wr S0.out.d (Kd.C_below HL.out S0.out.bl) hc hp).mono ?_
 rw [show doV (rplan l true) b p a=(t1,t2,t3,t4) from HT.out]
 rintro e w1 ⟨v0,v1,rfl,hD,hb⟩
 obtain ⟨B0,e0,B1,e1,rfl,rfl⟩:=hD.slices
 have HD1:=Aside0.mk hD
 have HB1:=Aside0.mk hb
 clear hD hb j0 j1 j2
 have m0:=(blk_cell (blk_below S0.out.x HB1.out) 0).trans rfl
 have m1:=(blk_cell (blk_below S0.out.x HB1.out) 1).trans rfl
 have m2:=(blk_cell (blk_below S0.out.x HB1.out) 2).trans rfl
 have f0:=blk_frozen (blk_below S0.out.x HB1.out) 0
 have f1:=blk_frozen (blk_below S0.out.x HB1.out) 1
 have f2:=blk_frozen (blk_below S0.out.x HB1.out) 2
 by_cases h0:t4=0
 ·subst h0
  obtain ⟨hv1,hl1⟩:=HVD.out rfl
  obtain ⟨Q,hQ⟩:∃ z,z=flushV t1 t2 t3:=⟨_,rfl⟩
  have HV2:Aside0 (doV (homeV l) b p a=Q):=⟨by rw [HV.out,if_pos rfl,hQ]⟩
  have HQ:=Aside0.mk hQ
  have HV1:=Aside0.mk hv1
  clear HVD HV HT hQ hv1 hl1
  go_wp2_with (first
   | ((with_reducible refine gate_store (t:=29) (p:=2) rfl ?_);refine store_event (t:=29) (p:=2) (v:=?vo_u1) (w1:=?wn_u1) ?hg ?ho ?hn ?hr ?_;(case ho=>rfl);(case hg=>rfl);(case hn=>rfl);(case hr=>first |(go_simp;done) |(go_simp;rfl));intro u1 hw;have hS:=St.put3 S0.out HB1.out HD1.out t3;rw [← hw] at hS;have S1:=Aside0.mk hS;clear hS hw m0 m1 m2 f0 f1 f2;have j0:=(blk_cell S1.out.x 0).trans rfl;have j1:=(blk_cell S1.out.x 1).trans rfl;have j2:=(blk_cell S1.out.x 2).trans rfl;have m0:=(blk_cell S1.out.r 0).trans rfl;have m1:=(blk_cell S1.out.r 1).trans rfl;have m2:=(blk_cell S1.out.r 2).trans rfl;have f0:=blk_frozen S1.out.r 0;have f1:=blk_frozen S1.out.r 1;have f2:=blk_frozen S1.out.r 2)
   | fail)
  refine (rflush_walk B0 e0 t1 B1 e1 t2 t3 (OkQ w ok bd br) u1 S1.out.d HV1.out (by omega)).mono ?_
  rw [← HQ.out]
  obtain ⟨q1,q2,q3,q4⟩:=Q
  clear m0 m1 m2 f0 f1 f2 HQ
  rintro e w2 ⟨v0,v1,rfl,hD,hb⟩
  obtain ⟨C0,g0,C1,g1,rfl,rfl⟩:=hD.slices
  have HD2:=Aside0.mk hD
  have HB2:=Aside0.mk hb
  clear hD hb j0 j1 j2
  have m0:=(blk_cell (blk_below S1.out.r HB2.out) 0).trans rfl
  have m1:=(blk_cell (blk_below S1.out.r HB2.out) 1).trans rfl
  have m2:=(blk_cell (blk_below S1.out.r HB2.out) 2).trans rfl
  have f0:=blk_frozen (blk_below S1.out.r HB2.out) 0
  have f1:=blk_frozen (blk_below S1.out.r HB2.out) 1
  have f2:=blk_frozen (blk_below S1.out.r HB2.out) 2
  go_wp2
  refine bodyPost_ret (results_ct rfl _ _ br 29 #[.slice C0 q1.length g0,.slice C1 q2.length g1,.int .i64 q3] (0,0) _ rfl ((Aside0.mk (S1.out.below HB2.out)).out.outb _ _ _) Try.underlying29 rfl (by kernel_rfl)) rfl ?_
  rw [HV2.out]
  exact S1.out.outc HB2.out HD2.out _ _ _ q3 q4
 ·have hne:(t4 != 0)=true:=bne_iff_ne.mpr h0
  have HV2:Aside0 (doV (homeV l) b p a=(t1,t2,t3,t4)):=⟨by rw [HV.out,if_neg h0]⟩
  clear h0
  go_wp2_with (first
   | ((with_reducible refine gate_store (t:=29) (p:=2) rfl ?_);refine store_event (t:=29) (p:=2) (v:=?vo_u1) (w1:=?wn_u1) ?hg ?ho ?hn ?hr ?_;(case ho=>rfl);(case hg=>rfl);(case hn=>rfl);(case hr=>first |(go_simp;done) |(go_simp;rfl));intro u1 hw;have hS:=St.put3 S0.out HB1.out HD1.out t3;rw [← hw] at hS;have S1:=Aside0.mk hS;clear hS hw m0 m1 m2 f0 f1 f2;have j0:=(blk_cell S1.out.x 0).trans rfl;have j1:=(blk_cell S1.out.x 1).trans rfl;have j2:=(blk_cell S1.out.x 2).trans rfl;have m0:=(blk_cell S1.out.r 0).trans rfl;have m1:=(blk_cell S1.out.r 1).trans rfl;have m2:=(blk_cell S1.out.r 2).trans rfl;have f0:=blk_frozen S1.out.r 0;have f1:=blk_frozen S1.out.r 1;have f2:=blk_frozen S1.out.r 2)
   | fail)
  refine bodyPost_ret (results_ct rfl _ _ br 29 #[.slice B0 t1.length e0,.slice B1 t2.length e1,.int .i64 t3] (0,0) _ rfl (S1.out.outb _ _ _) Try.underlying29 rfl (by kernel_rfl)) rfl ?_
  rw [HV2.out]
  exact S1.out.out _ _ _ t4
end Go.Proofs.Ytjfmnkmgnbbfgaa.A
set_option linter.unusedVariables false
set_option linter.unusedSimpArgs false
namespace Go.Proofs.Ytjfmnkmgnbbfgaa.A
open Go.RowKit Go.Proofs.YtjfmnkmgnbbfgaaW.PrintWords Go.Proofs.YtjfmnkmgnbbfgaaW.PrintLast Go.Proofs.YtjfmnkmgnbbfgaaW.PrintMore
theorem or_comm32 (a b:Int):Go.bits .or .u32 a b=Go.bits .or .u32 b a:=by
 unfold Go.bits
 simp only [BitVec.or_comm]
theorem turn16 (x:Int) (w:World):Calls Try.prog 135 #[.int .u32 x,.int .u64 16] w fun e w'=>e=.returned (.int .u32 (rotr x 16))∧w'=w:=by
 have e3:IntKind.u64.wrap (32 - 16)=16:=by decide
 have e4:Go.bits .or .u32 (x / 2 ^ 16) (x * 2 ^ 16 % 4294967296)=rotr x 16:=or_comm32 _ _
 have E4:=Aside0.mk e4
 clear e4
 go_enter Try.func135,Try.ntmps135
 go_wp2
 go_ret
 exact ⟨congrArg (fun z=>Ending.returned (Value.int .u32 z)) E4.out,rfl⟩
theorem turn12 (x:Int) (w:World):Calls Try.prog 135 #[.int .u32 x,.int .u64 12] w fun e w'=>e=.returned (.int .u32 (rotr x 12))∧w'=w:=by
 have e3:IntKind.u64.wrap (32 - 12)=20:=by decide
 have e4:Go.bits .or .u32 (x / 2 ^ 12) (x * 2 ^ 20 % 4294967296)=rotr x 12:=or_comm32 _ _
 have E4:=Aside0.mk e4
 clear e4
 go_enter Try.func135,Try.ntmps135
 go_wp2
 go_ret
 exact ⟨congrArg (fun z=>Ending.returned (Value.int .u32 z)) E4.out,rfl⟩
theorem turn8 (x:Int) (w:World):Calls Try.prog 135 #[.int .u32 x,.int .u64 8] w fun e w'=>e=.returned (.int .u32 (rotr x 8))∧w'=w:=by
 have e3:IntKind.u64.wrap (32 - 8)=24:=by decide
 have e4:Go.bits .or .u32 (x / 2 ^ 8) (x * 2 ^ 24 % 4294967296)=rotr x 8:=or_comm32 _ _
 have E4:=Aside0.mk e4
 clear e4
 go_enter Try.func135,Try.ntmps135
 go_wp2
 go_ret
 exact ⟨congrArg (fun z=>Ending.returned (Value.int .u32 z)) E4.out,rfl⟩
theorem turn7 (x:Int) (w:World):Calls Try.prog 135 #[.int .u32 x,.int .u64 7] w fun e w'=>e=.returned (.int .u32 (rotr x 7))∧w'=w:=by
 have e3:IntKind.u64.wrap (32 - 7)=25:=by decide
 have e4:Go.bits .or .u32 (x / 2 ^ 7) (x * 2 ^ 25 % 4294967296)=rotr x 7:=or_comm32 _ _
 have E4:=Aside0.mk e4
 clear e4
 go_enter Try.func135,Try.ntmps135
 go_wp2
 go_ret
 exact ⟨congrArg (fun z=>Ending.returned (Value.int .u32 z)) E4.out,rfl⟩
theorem half1_alt (v:List Int) (a b:Nat) (n:Int):v.set a (((gi v a + gi v b) % 4294967296 + n) % 4294967296)=half1 v a b n:=by
 unfold half1
 congr 1
 omega
structure M1 (w W:World) (g gr:Nat) (v:List Int):Prop where
 B:Below w.heap.size w W
 bv:W.heap[g]?=some (blk v 138)
 br:W.heap[gr]?=some (blk (List.replicate 16 0) 138)
 le:w.heap.size≤g
 n:g≠gr
 lr:w.heap.size≤gr
 l16:v.length=16
theorem M1.drew {w W:World} {g gr:Nat} {v:List Int} (t:M1 w W g gr v):M1 w W.drew g gr v:=⟨t.B.drew,t.bv,t.br,t.le,t.n,t.lr,t.l16⟩
theorem M1.set {w W:World} {g gr:Nat} {v:List Int} (t:M1 w W g gr v) (k:Nat) (x:Int):M1 w (W.setCell ⟨g,k,none⟩ (.int .u32 x)) g gr (v.set k x):=
 ⟨t.B.setCell (p:=⟨g,k,none⟩) t.le _,set_blk t.bv k x,(Below.heap_setCell W ⟨g,k,none⟩ _ gr t.n.symm).trans t.br,t.le,t.n,t.lr,by simpa using t.l16⟩
theorem run_storeCells_blk {W:World} {g:Nat} {v v':List Int} {T:TypeId} (h:W.heap[g]?=some (blk v T)) (hl:v'.length=v.length) :
  (storeCells ⟨g,0,none⟩ (u32s v').toList).run Try.prog W=.ok () (W.setRow g (u32s v')):=by
 have:=run_storeCells_at Try.prog g 0 T (u32s v').toList 0 (u32s v) W h (by simp [u32s,hl]) (by
  intro x hx
  simp only [u32s,List.mem_map] at hx
  obtain ⟨y,_,rfl⟩:=hx
  rfl)
 rw [this]
 have e:(List.take (0 + 0) (u32s v).toList ++ (u32s v').toList ++ List.drop (0 + 0 + (u32s v').toList.length) (u32s v).toList).toArray=u32s v':=by
  simp [u32s,hl]
 rw [e]
theorem sixteen_sets (H:List Int) (hl:H.length=16):(((((((((((((((((List.replicate 16 0).set 0 (gi H 0)).set 1 (gi H 1)).set 2 (gi H 2)).set 3 (gi H 3)).set 4 (gi H 4)).set 5 (gi H 5)).set 6 (gi H 6)).set 7 (gi H 7)).set 8 (gi H 8)).set 9 (gi H 9)).set 10 (gi H 10)).set 11 (gi H 11)).set 12 (gi H 12)).set 13 (gi H 13)).set 14 (gi H 14)).set 15 (gi H 15))=H:=by
 match H,hl with
 | [_,_,_,_,_,_,_,_,_,_,_,_,_,_,_,_],_=>rfl
set_option maxHeartbeats 2000000 in
set_option maxRecDepth 100000 in
theorem ref_mix.walk (w:World) (a b c d:Nat) (v:List Int) (x y:Int) (hl:v.length=16) (la:a<16) (lb:b<16) (lc:c<16) (ld:d<16) :
  Calls Try.prog 129 #[.agg (u32s v),.int .i64 a,.int .i64 b,.int .i64 c,.int .i64 d,.int .u32 x,.int .u32 y] w fun e w'=>
   e=.returned (.agg (u32s (mixF v a b c d x y)))∧Below w.heap.size w w':=by
 have ia:(a:Int)<16:=by omega
 have ib:(b:Int)<16:=by omega
 have id_:(d:Int)<16:=by omega
 have ic:(c:Int)<16:=by omega
 go_enter Try.func129,Try.ntmps129
 go_wp2_with fail
 have HM0:M1 w ((w.alloc (blk v 138)).alloc (blk (List.replicate 16 0) 138)) w.heap.size (w.heap.size + 1) v:=by
  refine ⟨below_alloc (below_alloc (Below.refl _ _) _) _,blk_alloc (heap_alloc_last _ _) _, ?_,Nat.le_refl _,by omega,by omega,hl⟩
  have:=heap_alloc_last (w.alloc (blk v 138)) (blk (List.replicate 16 0) 138)
  rw [sz1 rfl] at this
  exact this
 replace HM0:=Aside0.mk HM0
 change Code.wp _ _ _ _ ((w.alloc (blk v 138)).alloc (blk (List.replicate 16 0) 138))
 generalize ((w.alloc (blk v 138)).alloc (blk (List.replicate 16 0) 138))=w0 at HM0 ⊢
 generalize w.heap.size + 1=gr at HM0 ⊢
 obtain ⟨g,hg⟩:∃ z,z=w.heap.size:=⟨_,rfl⟩
 rw [← hg] at HM0 ⊢
 have HG:=Aside0.mk hg
 clear hg
 have c_a:=cell_blk HM0.out.bv a (by rw [HM0.out.l16];assumption)
 have c_b:=cell_blk HM0.out.bv b (by rw [HM0.out.l16];assumption)
 refine wp_region_still_tail 10 (by kernel_rfl) (by kernel_rfl) ?_
 simp only [List.take_succ_cons,List.take_zero,List.drop_succ_cons,List.drop_zero]
 repeat still_step
 refine wpStill_nil ?_
 change wpList _ _ _ _ _ w0.drew
 have HM1:=Aside0.mk HM0.out.drew
 generalize w0.drew=w1 at HM1 ⊢
 clear c_a c_b HM0
 have fa:=frozen_blk HM1.out.bv a
 have c_a:=cell_blk HM1.out.bv a (by rw [HM1.out.l16];assumption)
 go_wp2_with fail
 have HM2:Aside0 (M1 w (w1.setCell ⟨g,a,none⟩ (.int .u32 (((gi v a + gi v b) % 4294967296 + x) % 4294967296))) g gr (half1 v a b x)):=Aside0.mk (by rw [← half1_alt];exact HM1.out.set a _)
 obtain ⟨v1,hv1⟩:∃ z,z=half1 v a b x:=⟨_,rfl⟩
 rw [← hv1] at HM2
 replace hv1:=Aside0.mk hv1
 clear fa c_a
 change Code.wp _ _ _ _ (World.setCell _ _ _)
 generalize w1.setCell ⟨g,a,none⟩ (.int .u32 (((gi v a + gi v b) % 4294967296 + x) % 4294967296))=w2 at HM2 ⊢
 clear HM1
 have c_d:=cell_blk HM2.out.bv d (by rw [HM2.out.l16];assumption)
 have c_a:=cell_blk HM2.out.bv a (by rw [HM2.out.l16];assumption)
 refine wp_region_still_tail 9 (by kernel_rfl) (by kernel_rfl) ?_
 simp only [List.take_succ_cons,List.take_zero,List.drop_succ_cons,List.drop_zero]
 repeat still_step
 still_call (turn16 _ _)
 repeat still_step
 refine wpStill_nil ?_
 change wpList _ _ _ _ _ w2.drew
 have HM3:=Aside0.mk HM2.out.drew
 generalize w2.drew=w3 at HM3 ⊢
 clear c_d c_a HM2
 have fa:=frozen_blk HM3.out.bv d
 have c_d:=cell_blk HM3.out.bv d (by rw [HM3.out.l16];assumption)
 go_wp2_with fail
 have HM4:Aside0 (M1 w (w3.setCell ⟨g,d,none⟩ (.int .u32 (rotr (Go.bits .xor .u32 (gi v1 d) (gi v1 a)) 16))) g gr (half2 v1 a d 16)):=Aside0.mk (HM3.out.set d _)
 obtain ⟨v2,hv2⟩:∃ z,z=half2 v1 a d 16:=⟨_,rfl⟩
 rw [← hv2] at HM4
 replace hv2:=Aside0.mk hv2
 clear fa c_d
 change Code.wp _ _ _ _ (World.setCell _ _ _)
 generalize w3.setCell ⟨g,d,none⟩ (.int .u32 (rotr (Go.bits .xor .u32 (gi v1 d) (gi v1 a)) 16))=w4 at HM4 ⊢
 clear HM3
 have c_c:=cell_blk HM4.out.bv c (by rw [HM4.out.l16];assumption)
 have c_d:=cell_blk HM4.out.bv d (by rw [HM4.out.l16];assumption)
 refine wp_region_still_tail 8 (by kernel_rfl) (by kernel_rfl) ?_
 simp only [List.take_succ_cons,List.take_zero,List.drop_succ_cons,List.drop_zero]
 repeat still_step
 refine wpStill_nil ?_
 change wpList _ _ _ _ _ w4.drew
 have HM5:=Aside0.mk HM4.out.drew
 generalize w4.drew=w5 at HM5 ⊢
 clear c_c c_d HM4
 have fa:=frozen_blk HM5.out.bv c
 have c_c:=cell_blk HM5.out.bv c (by rw [HM5.out.l16];assumption)
 go_wp2_with fail
 have HM6:Aside0 (M1 w (w5.setCell ⟨g,c,none⟩ (.int .u32 ((gi v2 c + gi v2 d) % 4294967296))) g gr (half3 v2 c d)):=Aside0.mk (HM5.out.set c _)
 obtain ⟨v3,hv3⟩:∃ z,z=half3 v2 c d:=⟨_,rfl⟩
 rw [← hv3] at HM6
 replace hv3:=Aside0.mk hv3
 clear fa c_c
 change Code.wp _ _ _ _ (World.setCell _ _ _)
 generalize w5.setCell ⟨g,c,none⟩ (.int .u32 ((gi v2 c + gi v2 d) % 4294967296))=w6 at HM6 ⊢
 clear HM5
 have c_b:=cell_blk HM6.out.bv b (by rw [HM6.out.l16];assumption)
 have c_c:=cell_blk HM6.out.bv c (by rw [HM6.out.l16];assumption)
 refine wp_region_still_tail 9 (by kernel_rfl) (by kernel_rfl) ?_
 simp only [List.take_succ_cons,List.take_zero,List.drop_succ_cons,List.drop_zero]
 repeat still_step
 still_call (turn12 _ _)
 repeat still_step
 refine wpStill_nil ?_
 change wpList _ _ _ _ _ w6.drew
 have HM7:=Aside0.mk HM6.out.drew
 generalize w6.drew=w7 at HM7 ⊢
 clear c_b c_c HM6
 have fa:=frozen_blk HM7.out.bv b
 have c_b:=cell_blk HM7.out.bv b (by rw [HM7.out.l16];assumption)
 go_wp2_with fail
 have HM8:Aside0 (M1 w (w7.setCell ⟨g,b,none⟩ (.int .u32 (rotr (Go.bits .xor .u32 (gi v3 b) (gi v3 c)) 12))) g gr (half2 v3 c b 12)):=Aside0.mk (HM7.out.set b _)
 obtain ⟨v4,hv4⟩:∃ z,z=half2 v3 c b 12:=⟨_,rfl⟩
 rw [← hv4] at HM8
 replace hv4:=Aside0.mk hv4
 clear fa c_b
 change Code.wp _ _ _ _ (World.setCell _ _ _)
 generalize w7.setCell ⟨g,b,none⟩ (.int .u32 (rotr (Go.bits .xor .u32 (gi v3 b) (gi v3 c)) 12))=w8 at HM8 ⊢
 clear HM7
 have c_a:=cell_blk HM8.out.bv a (by rw [HM8.out.l16];assumption)
 have c_b:=cell_blk HM8.out.bv b (by rw [HM8.out.l16];assumption)
 refine wp_region_still_tail 10 (by kernel_rfl) (by kernel_rfl) ?_
 simp only [List.take_succ_cons,List.take_zero,List.drop_succ_cons,List.drop_zero]
 repeat still_step
 refine wpStill_nil ?_
 change wpList _ _ _ _ _ w8.drew
 have HM9:=Aside0.mk HM8.out.drew
 generalize w8.drew=w9 at HM9 ⊢
 clear c_a c_b HM8
 have fa:=frozen_blk HM9.out.bv a
 have c_a:=cell_blk HM9.out.bv a (by rw [HM9.out.l16];assumption)
 go_wp2_with fail
 have HM10:Aside0 (M1 w (w9.setCell ⟨g,a,none⟩ (.int .u32 (((gi v4 a + gi v4 b) % 4294967296 + y) % 4294967296))) g gr (half1 v4 a b y)):=Aside0.mk (by rw [← half1_alt];exact HM9.out.set a _)
 obtain ⟨v5,hv5⟩:∃ z,z=half1 v4 a b y:=⟨_,rfl⟩
 rw [← hv5] at HM10
 replace hv5:=Aside0.mk hv5
 clear fa c_a
 change Code.wp _ _ _ _ (World.setCell _ _ _)
 generalize w9.setCell ⟨g,a,none⟩ (.int .u32 (((gi v4 a + gi v4 b) % 4294967296 + y) % 4294967296))=w10 at HM10 ⊢
 clear HM9
 have c_d:=cell_blk HM10.out.bv d (by rw [HM10.out.l16];assumption)
 have c_a:=cell_blk HM10.out.bv a (by rw [HM10.out.l16];assumption)
 refine wp_region_still_tail 9 (by kernel_rfl) (by kernel_rfl) ?_
 simp only [List.take_succ_cons,List.take_zero,List.drop_succ_cons,List.drop_zero]
 repeat still_step
 still_call (turn8 _ _)
 repeat still_step
 refine wpStill_nil ?_
 change wpList _ _ _ _ _ w10.drew
 have HM11:=Aside0.mk HM10.out.drew
 generalize w10.drew=w11 at HM11 ⊢
 clear c_d c_a HM10
 have fa:=frozen_blk HM11.out.bv d
 have c_d:=cell_blk HM11.out.bv d (by rw [HM11.out.l16];assumption)
 go_wp2_with fail
 have HM12:Aside0 (M1 w (w11.setCell ⟨g,d,none⟩ (.int .u32 (rotr (Go.bits .xor .u32 (gi v5 d) (gi v5 a)) 8))) g gr (half2 v5 a d 8)):=Aside0.mk (HM11.out.set d _)
 obtain ⟨v6,hv6⟩:∃ z,z=half2 v5 a d 8:=⟨_,rfl⟩
 rw [← hv6] at HM12
 replace hv6:=Aside0.mk hv6
 clear fa c_d
 change Code.wp _ _ _ _ (World.setCell _ _ _)
 generalize w11.setCell ⟨g,d,none⟩ (.int .u32 (rotr (Go.bits .xor .u32 (gi v5 d) (gi v5 a)) 8))=w12 at HM12 ⊢
 clear HM11
 have c_c:=cell_blk HM12.out.bv c (by rw [HM12.out.l16];assumption)
 have c_d:=cell_blk HM12.out.bv d (by rw [HM12.out.l16];assumption)
 refine wp_region_still_tail 8 (by kernel_rfl) (by kernel_rfl) ?_
 simp only [List.take_succ_cons,List.take_zero,List.drop_succ_cons,List.drop_zero]
 repeat still_step
 refine wpStill_nil ?_
 change wpList _ _ _ _ _ w12.drew
 have HM13:=Aside0.mk HM12.out.drew
 generalize w12.drew=w13 at HM13 ⊢
 clear c_c c_d HM12
 have fa:=frozen_blk HM13.out.bv c
 have c_c:=cell_blk HM13.out.bv c (by rw [HM13.out.l16];assumption)
 go_wp2_with fail
 have HM14:Aside0 (M1 w (w13.setCell ⟨g,c,none⟩ (.int .u32 ((gi v6 c + gi v6 d) % 4294967296))) g gr (half3 v6 c d)):=Aside0.mk (HM13.out.set c _)
 obtain ⟨v7,hv7⟩:∃ z,z=half3 v6 c d:=⟨_,rfl⟩
 rw [← hv7] at HM14
 replace hv7:=Aside0.mk hv7
 clear fa c_c
 change Code.wp _ _ _ _ (World.setCell _ _ _)
 generalize w13.setCell ⟨g,c,none⟩ (.int .u32 ((gi v6 c + gi v6 d) % 4294967296))=w14 at HM14 ⊢
 clear HM13
 have c_b:=cell_blk HM14.out.bv b (by rw [HM14.out.l16];assumption)
 have c_c:=cell_blk HM14.out.bv c (by rw [HM14.out.l16];assumption)
 refine wp_region_still_tail 9 (by kernel_rfl) (by kernel_rfl) ?_
 simp only [List.take_succ_cons,List.take_zero,List.drop_succ_cons,List.drop_zero]
 repeat still_step
 still_call (turn7 _ _)
 repeat still_step
 refine wpStill_nil ?_
 change wpList _ _ _ _ _ w14.drew
 have HM15:=Aside0.mk HM14.out.drew
 generalize w14.drew=w15 at HM15 ⊢
 clear c_b c_c HM14
 have fa:=frozen_blk HM15.out.bv b
 have c_b:=cell_blk HM15.out.bv b (by rw [HM15.out.l16];assumption)
 have HM16:Aside0 (M1 w (w15.setCell ⟨g,b,none⟩ (.int .u32 (rotr (Go.bits .xor .u32 (gi v7 b) (gi v7 c)) 7))) g gr (half2 v7 c b 7)):=Aside0.mk (HM15.out.set b _)
 obtain ⟨v8,hv8⟩:∃ z,z=half2 v7 c b 7:=⟨_,rfl⟩
 rw [← hv8] at HM16
 replace hv8:=Aside0.mk hv8
 rename_i K hK
 replace hK:=Aside0.mk hK
 go_wp2_with fail
 refine hK.out _ _ ?_
 change Code.wp _ _ _ _ (World.setCell _ _ _)
 generalize w15.setCell ⟨g,b,none⟩ (.int .u32 (rotr (Go.bits .xor .u32 (gi v7 b) (gi v7 c)) 7))=w16 at HM16 ⊢
 clear fa c_b HM15 hK K
 have k0:=cell_blk HM16.out.bv 0 (by rw [HM16.out.l16];decide)
 have z0:=cell_blk HM16.out.br 0 (by decide)
 have f0:=frozen_blk HM16.out.br 0
 have k1:=cell_blk HM16.out.bv 1 (by rw [HM16.out.l16];decide)
 have z1:=cell_blk HM16.out.br 1 (by decide)
 have f1:=frozen_blk HM16.out.br 1
 have k2:=cell_blk HM16.out.bv 2 (by rw [HM16.out.l16];decide)
 have z2:=cell_blk HM16.out.br 2 (by decide)
 have f2:=frozen_blk HM16.out.br 2
 have k3:=cell_blk HM16.out.bv 3 (by rw [HM16.out.l16];decide)
 have z3:=cell_blk HM16.out.br 3 (by decide)
 have f3:=frozen_blk HM16.out.br 3
 have k4:=cell_blk HM16.out.bv 4 (by rw [HM16.out.l16];decide)
 have z4:=cell_blk HM16.out.br 4 (by decide)
 have f4:=frozen_blk HM16.out.br 4
 have k5:=cell_blk HM16.out.bv 5 (by rw [HM16.out.l16];decide)
 have z5:=cell_blk HM16.out.br 5 (by decide)
 have f5:=frozen_blk HM16.out.br 5
 have k6:=cell_blk HM16.out.bv 6 (by rw [HM16.out.l16];decide)
 have z6:=cell_blk HM16.out.br 6 (by decide)
 have f6:=frozen_blk HM16.out.br 6
 have k7:=cell_blk HM16.out.bv 7 (by rw [HM16.out.l16];decide)
 have z7:=cell_blk HM16.out.br 7 (by decide)
 have f7:=frozen_blk HM16.out.br 7
 have k8:=cell_blk HM16.out.bv 8 (by rw [HM16.out.l16];decide)
 have z8:=cell_blk HM16.out.br 8 (by decide)
 have f8:=frozen_blk HM16.out.br 8
 have k9:=cell_blk HM16.out.bv 9 (by rw [HM16.out.l16];decide)
 have z9:=cell_blk HM16.out.br 9 (by decide)
 have f9:=frozen_blk HM16.out.br 9
 have k10:=cell_blk HM16.out.bv 10 (by rw [HM16.out.l16];decide)
 have z10:=cell_blk HM16.out.br 10 (by decide)
 have f10:=frozen_blk HM16.out.br 10
 have k11:=cell_blk HM16.out.bv 11 (by rw [HM16.out.l16];decide)
 have z11:=cell_blk HM16.out.br 11 (by decide)
 have f11:=frozen_blk HM16.out.br 11
 have k12:=cell_blk HM16.out.bv 12 (by rw [HM16.out.l16];decide)
 have z12:=cell_blk HM16.out.br 12 (by decide)
 have f12:=frozen_blk HM16.out.br 12
 have k13:=cell_blk HM16.out.bv 13 (by rw [HM16.out.l16];decide)
 have z13:=cell_blk HM16.out.br 13 (by decide)
 have f13:=frozen_blk HM16.out.br 13
 have k14:=cell_blk HM16.out.bv 14 (by rw [HM16.out.l16];decide)
 have z14:=cell_blk HM16.out.br 14 (by decide)
 have f14:=frozen_blk HM16.out.br 14
 have k15:=cell_blk HM16.out.bv 15 (by rw [HM16.out.l16];decide)
 have z15:=cell_blk HM16.out.br 15 (by decide)
 have f15:=frozen_blk HM16.out.br 15
 go_wp2_with fail
 have hgr:(((((((((((((((((w16.setCell ⟨gr,0,none⟩ (.int .u32 (gi v8 0))).setCell ⟨gr,1,none⟩ (.int .u32 (gi v8 1))).setCell ⟨gr,2,none⟩ (.int .u32 (gi v8 2))).setCell ⟨gr,3,none⟩ (.int .u32 (gi v8 3))).setCell ⟨gr,4,none⟩ (.int .u32 (gi v8 4))).setCell ⟨gr,5,none⟩ (.int .u32 (gi v8 5))).setCell ⟨gr,6,none⟩ (.int .u32 (gi v8 6))).setCell ⟨gr,7,none⟩ (.int .u32 (gi v8 7))).setCell ⟨gr,8,none⟩ (.int .u32 (gi v8 8))).setCell ⟨gr,9,none⟩ (.int .u32 (gi v8 9))).setCell ⟨gr,10,none⟩ (.int .u32 (gi v8 10))).setCell ⟨gr,11,none⟩ (.int .u32 (gi v8 11))).setCell ⟨gr,12,none⟩ (.int .u32 (gi v8 12))).setCell ⟨gr,13,none⟩ (.int .u32 (gi v8 13))).setCell ⟨gr,14,none⟩ (.int .u32 (gi v8 14))).setCell ⟨gr,15,none⟩ (.int .u32 (gi v8 15)))).heap[gr]?=some (blk v8 138):=by
  have e:=(set_blk (set_blk (set_blk (set_blk (set_blk (set_blk (set_blk (set_blk (set_blk (set_blk (set_blk (set_blk (set_blk (set_blk (set_blk (set_blk HM16.out.br 0 (gi v8 0)) 1 (gi v8 1)) 2 (gi v8 2)) 3 (gi v8 3)) 4 (gi v8 4)) 5 (gi v8 5)) 6 (gi v8 6)) 7 (gi v8 7)) 8 (gi v8 8)) 9 (gi v8 9)) 10 (gi v8 10)) 11 (gi v8 11)) 12 (gi v8 12)) 13 (gi v8 13)) 14 (gi v8 14)) 15 (gi v8 15))
  rw [sixteen_sets v8 HM16.out.l16] at e
  exact e
 have lr:=HM16.out.lr
 refine bodyPost_ret (results_cell_row rfl _ _ gr 138 (u32s v8) (0,0) _ rfl hgr Try.underlying138 rfl (by rw [show (u32s v8).size=16 from by simp [u32s,HM16.out.l16]];kernel_rfl)) rfl ?_
 have hF:v8=mixF v a b c d x y:=by rw [hv8.out,hv7.out,hv6.out,hv5.out,hv4.out,hv3.out,hv2.out,hv1.out];rfl
 refine ⟨by rw [hF], ?_⟩
 exact ((((((((((((((((HM16.out.B.setCell (p:=⟨gr,0,none⟩) lr _).setCell (p:=⟨gr,1,none⟩) lr _).setCell (p:=⟨gr,2,none⟩) lr _).setCell (p:=⟨gr,3,none⟩) lr _).setCell (p:=⟨gr,4,none⟩) lr _).setCell (p:=⟨gr,5,none⟩) lr _).setCell (p:=⟨gr,6,none⟩) lr _).setCell (p:=⟨gr,7,none⟩) lr _).setCell (p:=⟨gr,8,none⟩) lr _).setCell (p:=⟨gr,9,none⟩) lr _).setCell (p:=⟨gr,10,none⟩) lr _).setCell (p:=⟨gr,11,none⟩) lr _).setCell (p:=⟨gr,12,none⟩) lr _).setCell (p:=⟨gr,13,none⟩) lr _).setCell (p:=⟨gr,14,none⟩) lr _).setCell (p:=⟨gr,15,none⟩) lr _)
end Go.Proofs.Ytjfmnkmgnbbfgaa.A
