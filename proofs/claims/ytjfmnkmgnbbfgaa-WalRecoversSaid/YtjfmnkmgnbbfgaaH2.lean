/- Layer 2: a block is taken in (hash.take): what the walk makes of the eight numbers. -/
import Derived.Test.YtjfmnkmgnbbfgaaH1
set_option linter.unusedVariables false
set_option linter.unusedSimpArgs false
namespace Go.Proofs.Ytjfmnkmgnbbfgaa.A
open Go.RowKit Go.Proofs.YtjfmnkmgnbbfgaaW.PrintWords Go.Proofs.YtjfmnkmgnbbfgaaW.PrintLast Go.Proofs.YtjfmnkmgnbbfgaaW.PrintMore
def fillB (n:Nat) (base:List Int) (f:Nat→Int) (q:Nat):List Int:=(List.range n).map fun j=>if j<q then f j else gi base j
theorem fillB_length (n:Nat) (base:List Int) (f:Nat→Int) (q:Nat):(fillB n base f q).length=n:=by simp [fillB]
theorem gi_fillB (n:Nat) (base:List Int) (f:Nat→Int) (q j:Nat) (hj:j<n):gi (fillB n base f q) j=if j<q then f j else gi base j:=by
 simp [gi,fillB,List.getD_eq_getElem?_getD,List.getElem?_map,hj]
theorem fillB_zero (n:Nat) (base:List Int) (f:Nat→Int) (hl:base.length=n):fillB n base f 0=base:=by
 apply List.ext_getElem
 ·simp [fillB,hl]
 ·intro j h1 h2
  simp [fillB,gi,List.getD_eq_getElem?_getD,List.getElem?_eq_getElem h2]
theorem fillB_set (n:Nat) (base:List Int) (f:Nat→Int) (q:Nat) (hq:q<n):(fillB n base f q).set q (f q)=fillB n base f (q + 1):=by
 apply List.ext_getElem
 ·simp [fillB]
 ·intro j h1 h2
  rw [List.getElem_set]
  have hj:j<n:=by simpa [fillB] using h2
  by_cases e:q=j
  ·subst e
   simp [fillB]
  ·rw [if_neg e]
   simp only [fillB,List.getElem_map,List.getElem_range]
   by_cases l:j<q
   ·rw [if_pos l,if_pos (by omega)]
   ·rw [if_neg l,if_neg (by omega)]
def zeros (n:Nat):List Int:=List.replicate n 0
def wordsF (s:ByteArray):List Int:=fillB 16 (zeros 16) (wordV s) 16
def xor32 (a b:Int):Int:=Go.bits .xor .u32 a b
def st1 (h:List Int) (cnt:Int):List Int:=(h ++ ivF).set 12 (xor32 (gi (h ++ ivF) 12) (cnt % 4294967296))
def st2 (h:List Int) (cnt:Int):List Int:=(st1 h cnt).set 13 (xor32 (gi (h ++ ivF) 13) (cnt / 4294967296))
def startF (h:List Int) (cnt:Int) (last:Bool):List Int:=if last then (st2 h cnt).set 14 (xor32 4294967295 (gi (h ++ ivF) 14)) else st2 h cnt
def rndA (m v:List Int) (r i:Nat):List Int:=mixF v i (4 + i) (8 + i) (12 + i) (gi m (sg (16 * r + 2 * i))) (gi m (sg (16 * r + (2 * i + 1))))
def rndB (m v:List Int) (r i:Nat):List Int:=mixF v i (4 + (i + 1) % 4) (8 + (i + 2) % 4) (12 + (i + 3) % 4) (gi m (sg (16 * r + (8 + 2 * i)))) (gi m (sg (16 * r + (9 + 2 * i))))
def foldA (m v:List Int) (r:Nat):Nat→List Int
 | 0=>v
 | i + 1=>rndA m (foldA m v r i) r i
def foldB (m v:List Int) (r:Nat):Nat→List Int
 | 0=>v
 | i + 1=>rndB m (foldB m v r i) r i
def runF (m v:List Int):Nat→List Int
 | 0=>v
 | r + 1=>foldB m (foldA m (runF m v r) r 4) r 4
def takeF (h:List Int) (s:ByteArray) (cnt:Int) (last:Bool):List Int:=
 fillB 8 h (fun j=>xor32 (gi h j) (xor32 (gi (runF (wordsF s) (startF h cnt last) 10) j) (gi (runF (wordsF s) (startF h cnt last) 10) (j + 8)))) 8
theorem half_len (v:List Int) (a b c d:Nat) (n:Int) (x y:Nat):(halfF v a b c d n x y).length=v.length:=by simp [halfF,half1,half2,half3]
theorem mix_len (v:List Int) (a b c d:Nat) (x y:Int):(mixF v a b c d x y).length=v.length:=by simp [mixF,half_len]
theorem foldA_len (m v:List Int) (r i:Nat):(foldA m v r i).length=v.length:=by
 induction i with
 | zero=>rfl
 | succ i ih=>simp [foldA,rndA,mix_len,ih]
theorem foldB_len (m v:List Int) (r i:Nat):(foldB m v r i).length=v.length:=by
 induction i with
 | zero=>rfl
 | succ i ih=>simp [foldB,rndB,mix_len,ih]
theorem run_len (m v:List Int) (r:Nat):(runF m v r).length=v.length:=by
 induction r with
 | zero=>rfl
 | succ i ih=>simp [runF,foldA_len,foldB_len,ih]
structure T1 (w W:World) (gh gr gm:Nat) (h m:List Int):Prop where
 B:Below w.heap.size w W
 bh:W.heap[gh]?=some (blk h 99)
 br:W.heap[gr]?=some (blk (zeros 8) 99)
 bm:W.heap[gm]?=some (blk m 138)
 le:w.heap.size≤gh
 n:gh≠gr∧gh≠gm∧gr≠gm
 lr:w.heap.size≤gr
 lm:w.heap.size≤gm
 lh:h.length=8
 lm16:m.length=16
theorem T1.below {w W W':World} {gh gr gm:Nat} {h m:List Int} (t:T1 w W gh gr gm h m) (hb:Below W.heap.size W W'):T1 w W' gh gr gm h m:=
 ⟨below_then t.B t.B.size hb,blk_below t.bh hb,blk_below t.br hb,blk_below t.bm hb,t.le,t.n,t.lr,t.lm,t.lh,t.lm16⟩
theorem other_blk {W:World} {g:Nat} {o:Obj} (h:W.heap[g]?=some o) {b:Nat} (hn:g≠b) (k:Nat) (u:Value):(W.setCell ⟨b,k,none⟩ u).heap[g]?=some o:=(Below.heap_setCell W ⟨b,k,none⟩ u g hn).trans h
theorem T1.setm {w W:World} {gh gr gm:Nat} {h m:List Int} (t:T1 w W gh gr gm h m) (k:Nat) (x:Int):T1 w (W.setCell ⟨gm,k,none⟩ (.int .u32 x)) gh gr gm h (m.set k x):=
 ⟨t.B.setCell (p:=⟨gm,k,none⟩) t.lm _,other_blk t.bh t.n.2.1 k _,other_blk t.br t.n.2.2 k _,set_blk t.bm k x,t.le,t.n,t.lr,t.lm,t.lh,by simpa using t.lm16⟩
theorem eight_sets (H:List Int) (hl:H.length=8):((((((((zeros 8).set 0 (gi H 0)).set 1 (gi H 1)).set 2 (gi H 2)).set 3 (gi H 3)).set 4 (gi H 4)).set 5 (gi H 5)).set 6 (gi H 6)).set 7 (gi H 7)=H:=by
 match H,hl with
 | [a,b,c,d,e,f,g,h],_=>rfl
theorem row_at (r i:Nat) (hr:r<10) (hi:i<16) (w:World) (z:Int) (hz:z=(i:Nat)) :
  Calls Try.prog 126 #[.int .i64 r,.int .i64 z] w fun e w'=>e=.returned (.int .i64 (sg (16 * r + i)))∧w'=w:=by
 subst hz
 exact hash_row.walk r i hr hi w
theorem mix_at (w:World) (b:Nat) (T:TypeId) (a c2 c d:Nat) (za zb zc zd:Int) (v:List Int) (x y:Int) (ha:za=(a:Nat)) (hb2:zb=(c2:Nat)) (hc2:zc=(c:Nat)) (hd:zd=(d:Nat)) (hb:w.heap[b]?=some (blk v T)) (hl:v.length=16) (la:a<16) (lb:c2<16) (lc:c<16) (ld:d<16) :
  Calls Try.prog 125 #[.pointer (some ⟨b,0,none⟩),.int .i64 za,.int .i64 zb,.int .i64 zc,.int .i64 zd,.int .u32 x,.int .u32 y] w fun e w'=>
   e=.returned (.tuple #[])∧w'.heap[b]?=some (blk (mixF v a c2 c d x y) T)∧But b w w':=by
 subst ha hb2 hc2 hd
 exact hash_mix.walk w b T a c2 c d v x y hb hl la lb lc ld
structure T2 (w W:World) (gh gr gm gv gf:Nat) (h m v:List Int):Prop where
 t:T1 w W gh gr gm h m
 bv:W.heap[gv]?=some (blk v 138)
 bf:W.heap[gf]?=some (blk ivF 99)
 nv:gv≠gh∧gv≠gr∧gv≠gm∧gv≠gf
 nf:gf≠gh
 lv:w.heap.size≤gv
 lv16:v.length=16
theorem T2.below {w W W':World} {gh gr gm gv gf:Nat} {h m v:List Int} (t:T2 w W gh gr gm gv gf h m v) (hb:Below W.heap.size W W'):T2 w W' gh gr gm gv gf h m v:=
 ⟨t.t.below hb,blk_below t.bv hb,blk_below t.bf hb,t.nv,t.nf,t.lv,t.lv16⟩
theorem T2.drew {w W:World} {gh gr gm gv gf:Nat} {h m v:List Int} (t:T2 w W gh gr gm gv gf h m v):T2 w W.drew gh gr gm gv gf h m v:=t.below (below_drew (Below.refl _ _))
theorem But.blk {b:Nat} {w w':World} (h:But b w w') {g:Nat} {o:Obj} (hg:w.heap[g]?=some o) (hn:g≠b):w'.heap[g]?=some o:=(h.block g (blk_lt hg) hn).trans hg
theorem T2.but {w W W':World} {gh gr gm gv gf:Nat} {h m v v':List Int} (t:T2 w W gh gr gm gv gf h m v) (hb:But gv W W') (hv:W'.heap[gv]?=some (blk v' 138)) (hl:v'.length=16):T2 w W' gh gr gm gv gf h m v':=
 ⟨⟨⟨hb.os.trans t.t.B.os,hb.tape.trans t.t.B.tape,hb.output.trans t.t.B.output,Nat.le_trans t.t.B.size hb.size,fun k hk=>(hb.block k (Nat.lt_of_lt_of_le hk t.t.B.size) (by have:=t.lv;omega)).trans (t.t.B.block k hk)⟩,
  hb.blk t.t.bh t.nv.1.symm,hb.blk t.t.br t.nv.2.1.symm,hb.blk t.t.bm t.nv.2.2.1.symm,t.t.le,t.t.n,t.t.lr,t.t.lm,t.t.lh,t.t.lm16⟩,hv,hb.blk t.bf t.nv.2.2.2.symm,t.nv,t.nf,t.lv,hl⟩
theorem T2.setv {w W:World} {gh gr gm gv gf:Nat} {h m v:List Int} (t:T2 w W gh gr gm gv gf h m v) (k:Nat) (x:Int):T2 w (W.setCell ⟨gv,k,none⟩ (.int .u32 x)) gh gr gm gv gf h m (v.set k x):=
 t.but ((But.refl gv W).setCell k _) (set_blk t.bv k x) (by simpa using t.lv16)
theorem But.setRow {b:Nat} (w:World) (cs:Array Value):But b w (w.setRow b cs):=⟨rfl,rfl,rfl,by simp,fun k _ hn=>setRow_other w b k cs hn⟩
theorem T2.setRow {w W:World} {gh gr gm gv gf:Nat} {h m v:List Int} (t:T2 w W gh gr gm gv gf h m v) (v':List Int) (hl:v'.length=16):T2 w (W.setRow gv (u32s v')) gh gr gm gv gf h m v':=
 t.but (But.setRow W _) (setRow_heap W gv _ _ _ _ t.bv) hl
theorem T2.seth {w W:World} {gh gr gm gv gf:Nat} {h m v:List Int} (t:T2 w W gh gr gm gv gf h m v) (k:Nat) (x:Int):T2 w (W.setCell ⟨gh,k,none⟩ (.int .u32 x)) gh gr gm gv gf (h.set k x) m v:=
 ⟨⟨t.t.B.setCell (p:=⟨gh,k,none⟩) t.t.le _,set_blk t.t.bh k x,other_blk t.t.br t.t.n.1.symm k _,other_blk t.t.bm t.t.n.2.1.symm k _,t.t.le,t.t.n,t.t.lr,t.t.lm,by simpa using t.t.lh,t.t.lm16⟩,
  other_blk t.bv t.nv.1 k _,other_blk t.bf t.nf k _,t.nv,t.nf,t.lv,t.lv16⟩
theorem u32s_one (v:List Int):∀ x ∈ (u32s v).toList,x.oneCell'=true:=by
 intro x hx
 simp only [u32s,List.mem_map] at hx
 obtain ⟨y,_,rfl⟩:=hx
 rfl
theorem copy_u32 {W:World} {gd gs:Nat} {d s:List Int} {T T':TypeId} (hd:W.heap[gd]?=some (blk d T)) (hs:W.heap[gs]?=some (blk s T')) (hne:True) (o n cap sc:Nat) (ho:o + n≤d.length) (hn:s.length=n) (ty:TypeId) :
  (Builtin.copy_ #[140,140] ty #[.slice (some ⟨gd,o,none⟩) n cap,.slice (some ⟨gs,0,none⟩) n sc]).run Try.prog W=.ok (goInt n) (W.setRow gd (u32s (d.take o ++ s ++ d.drop (o + n)))):=by
 have:=run_copy_row (P:=Try.prog) W 140 140 ty 98 gd o n cap ⟨gs,0,none⟩ n sc (u32s d) T (u32s s).toList Try.underlying140 (by kernel_rfl) hd (by simp [u32s,hn]) (fun j v hv=>by
   have hj:j<s.length:=by
    have:=(List.getElem?_eq_some_iff.1 hv).1
    simpa [u32s] using this
   have hc:=cell_blk hs j hj
   have e:(⟨gs,0,none⟩:Addr).add j=⟨gs,j,none⟩:=by unfold Addr.add;split <;> simp_all
   rw [e,hc]
   rw [← hv]
   simp [u32s,gi,List.getD_eq_getElem?_getD,List.getElem?_eq_getElem hj]) (by simp [u32s,hn];omega) (u32s_one s)
 rw [this]
 simp [u32s,hn,List.map_take,List.map_drop]
set_option maxHeartbeats 2000000 in
set_option maxRecDepth 100000 in
theorem hash_take.walk_f (h:List Int) (hl:h.length=8) (s:ByteArray) (hs:64≤s.size) (cnt:Int) (hc:0≤cnt∧cnt<18446744073709551616) (w:World) :
  Calls Try.prog 116 #[.agg (u32s h),.string s,.int .u64 cnt,.bool false] w fun e w'=>e=.returned (.agg (u32s (takeF h s cnt false)))∧Below w.heap.size w w':=by
 go_enter Try.func116,Try.ntmps116
 go_wp2_with fail
 have HT:T1 w (((w.alloc (Obj.cells (u32s h) 99)).alloc (blk (zeros 8) 99)).alloc (blk (zeros 16) 138)) w.heap.size (w.heap.size + 1) (w.heap.size + 1 + 1) h (zeros 16):=by
  refine ⟨below_alloc (below_alloc (below_alloc (Below.refl _ _) _) _) _,blk_alloc (blk_alloc (heap_alloc_last _ _) _) _, ?_, ?_,Nat.le_refl _,⟨by omega,by omega,by omega⟩,by omega,by omega,hl,rfl⟩
  ·have:=heap_alloc_last (w.alloc (Obj.cells (u32s h) 99)) (blk (zeros 8) 99)
   rw [sz1 rfl] at this
   exact blk_alloc this _
  ·have:=heap_alloc_last ((w.alloc (Obj.cells (u32s h) 99)).alloc (blk (zeros 8) 99)) (blk (zeros 16) 138)
   rw [sz1 (sz1 rfl _)] at this
   exact this
 replace HT:=Aside0.mk HT
 change Code.wp _ _ _ _ (((w.alloc (Obj.cells (u32s h) 99)).alloc (blk (zeros 8) 99)).alloc (blk (zeros 16) 138))
 generalize ((w.alloc (Obj.cells (u32s h) 99)).alloc (blk (zeros 8) 99)).alloc (blk (zeros 16) 138)=W1 at HT ⊢
 generalize w.heap.size + 1 + 1=gm at HT ⊢
 generalize w.heap.size + 1=gr at HT ⊢
 obtain ⟨gh,hgh⟩:∃ z,z=w.heap.size:=⟨_,rfl⟩
 rw [← hgh] at HT ⊢
 have HG:=Aside0.mk hgh
 clear hgh
 go_loopw [17] (fun i wr=>∃ q:Nat,q≤16∧i=.int .i64 q∧Aside0 (T1 w wr gh gr gm h (fillB 16 (zeros 16) (wordV s) q))) (fun i _=>16 - (intOf i).toNat)
 case atStart=>exact ⟨0,by omega,rfl,Aside0.mk (by rw [fillB_zero 16 _ _ rfl];exact HT.out)⟩
 case round=>
  obtain ⟨q,hq,rfl,HT2⟩:=hrel
  clear HT
  by_cases hlt:q<16
  ·have c1:(q:Int)<16:=by omega
   go_wp2_with fail
   go_at_call 124
   refine (hash_word.walk s q (by omega) _).mono ?_
   rintro e w3 ⟨rfl,hd⟩
   have HT3:=Aside0.mk (HT2.out.below hd.below)
   clear hd
   have f1:=frozen_blk HT3.out.bm q
   have g1:=cell_blk HT3.out.bm q (by rw [fillB_length];exact hlt)
   go_wp2_with fail
   go_roundw
   case rel=>exact ⟨q + 1,by omega,rfl,Aside0.mk (by rw [← fillB_set 16 _ _ q hlt];exact HT3.out.setm q _)⟩
   case measure=>
    show 16 - (intOf (Value.int IntKind.i64 ((q:Int) + 1))).toNat<16 - (intOf (Value.int IntKind.i64 (q:Int))).toNat
    simp only [intOf]
    omega
  ·obtain rfl:q=16:=by omega
   clear hlt hq
   go_wp2_with (go_at_call 86;refine (show Calls Try.prog 86 #[] _ (fun e w'=>e=.returned (.agg #[.int .u32 1779033703,.int .u32 3144134277,.int .u32 1013904242,.int .u32 2773480762,.int .u32 1359893119,.int .u32 2600822924,.int .u32 528734635,.int .u32 1541459225])∧Below _ _ w') from hash_eight.walk _).mono ?_;rintro e w4 ⟨rfl,hb4⟩)
   have HT4:T2 w (w4.alloc (blk ivF 99)) gh gr gm wr.heap.size w4.heap.size h (wordsF s) (zeros 16):=by
    have t0:=HT2.out
    have hg:=HG.out
    have lw:=t0.B.size
    have q1:=blk_lt t0.bh
    have q2:=blk_lt t0.br
    have q3:=blk_lt t0.bm
    have q4:=hb4.size
    rw [sz1 rfl] at q4
    have b0:Below wr.heap.size wr w4:=below_then (below_alloc (Below.refl _ _) _) (by rw [sz1 rfl];omega) hb4
    have t1:=(t0.below b0).below (below_alloc (Below.refl _ _) (blk ivF 99))
    refine ⟨t1,blk_alloc (blk_below (heap_alloc_last wr (blk (zeros 16) 138)) hb4) _,heap_alloc_last _ _,⟨by omega,by omega,by omega,by omega⟩,by omega,by omega,rfl⟩
   change Code.wp _ _ _ _ (w4.alloc (blk ivF 99))
   replace HT4:=Aside0.mk HT4
   generalize w4.alloc (blk ivF 99)=W5 at HT4 ⊢
   generalize wr.heap.size=gv at HT4 ⊢
   generalize w4.heap.size=gf at HT4 ⊢
   clear HT2 hb4
   refine wp_region_still_tail 2 (by kernel_rfl) (by kernel_rfl) ?_
   simp only [List.take_succ_cons,List.take_zero,List.drop_succ_cons,List.drop_zero]
   repeat still_step
   refine wpStill_nil ?_
   change wpList _ _ _ _ _ W5.drew
   have HT5:=Aside0.mk HT4.out.drew
   generalize W5.drew=W6 at HT5 ⊢
   clear HT4
   have hcp:=fun ty=>copy_u32 HT5.out.bv HT5.out.t.bh trivial 0 8 16 8 (by rw [HT5.out.lv16];omega) hl ty
   go_wp2_with fail
   clear hcp
   have HT6:=Aside0.mk (HT5.out.setRow (h ++ List.drop 8 (zeros 16)) (by simp [hl,zeros]))
   clear HT5
   generalize W6.setRow gv (u32s (h ++ List.drop 8 (zeros 16)))=W7 at HT6 ⊢
   refine wp_region_still_tail 2 (by kernel_rfl) (by kernel_rfl) ?_
   simp only [List.take_succ_cons,List.take_zero,List.drop_succ_cons,List.drop_zero]
   repeat still_step
   refine wpStill_nil ?_
   change wpList _ _ _ _ _ W7.drew
   have HT7:=Aside0.mk HT6.out.drew
   generalize W7.drew=W8 at HT7 ⊢
   clear HT6
   have hcp:=fun ty=>copy_u32 HT7.out.bv HT7.out.bf trivial 8 8 8 8 (by rw [HT7.out.lv16];omega) rfl ty
   have e1:(h ++ List.drop 8 (zeros 16)).take 8 ++ ivF ++ (h ++ List.drop 8 (zeros 16)).drop (8 + 8)=h ++ ivF:=by
    rw [List.take_append_of_le_length (by omega),List.take_of_length_le (by omega),List.drop_eq_nil_of_le (by simp [hl,zeros]),List.append_nil]
   rw [e1] at hcp
   clear e1
   have l16:(h ++ ivF).length=16:=by simp [hl,ivF]
   have HT8:=Aside0.mk (HT7.out.setRow (h ++ ivF) l16)
   have f12:=frozen_blk HT8.out.bv 12
   have c12:=cell_blk HT8.out.bv 12 (by omega)
   have f13:=frozen_blk HT8.out.bv 13
   have c13:=cell_blk HT8.out.bv 13 (by omega)
   have f14:=frozen_blk HT8.out.bv 14
   have c14:=cell_blk HT8.out.bv 14 (by omega)
   have hsg:(if IntKind.u32.signed=true then (-1:Int) else IntKind.u32.max)=4294967295:=by decide
   have hsg2:IntKind.u32.signed=false:=rfl
   have hsg3:IntKind.u32.max=4294967295:=by decide
   go_wp2_with fail
   have HT9:T2 w (((W8.setRow gv (u32s (h ++ ivF))).setCell ⟨gv,12,none⟩ (.int .u32 (Go.bits .xor .u32 (gi (h ++ ivF) 12) (cnt % 4294967296)))).setCell ⟨gv,13,none⟩ (.int .u32 (Go.bits .xor .u32 (gi (h ++ ivF) 13) (cnt / 4294967296)))) gh gr gm gv gf h (wordsF s) (startF h cnt false):=(HT8.out.setv 12 _).setv 13 _
   replace HT9:=Aside0.mk HT9
   clear hsg hsg2 hsg3 HT8 f12 c12 f13 c13 f14 c14 hcp l16
   generalize ((W8.setRow gv (u32s (h ++ ivF))).setCell ⟨gv,12,none⟩ (.int .u32 (Go.bits .xor .u32 (gi (h ++ ivF) 12) (cnt % 4294967296)))).setCell ⟨gv,13,none⟩ (.int .u32 (Go.bits .xor .u32 (gi (h ++ ivF) 13) (cnt / 4294967296)))=W9 at HT9 ⊢
   obtain ⟨m,hm⟩:∃ z,z=wordsF s:=⟨_,rfl⟩
   obtain ⟨v0,hv0⟩:∃ z,z=startF h cnt false:=⟨_,rfl⟩
   rw [← hm,← hv0] at HT9
   replace hm:=Aside0.mk hm
   replace hv0:=Aside0.mk hv0
   clear HT7
   go_loopw [53] (fun i wr=>∃ r:Nat,r≤10∧i=.int .i64 r∧Aside0 (T2 w wr gh gr gm gv gf h m (runF m v0 r))) (fun i _=>10 - (intOf i).toNat)
   case atStart=>exact ⟨0,by omega,rfl,HT9⟩
   case round=>
    obtain ⟨r,hr,rfl,HR⟩:=hrel
    clear HT9
    by_cases hlt:r<10
    ·have c1:(r:Int)<10:=by omega
     go_wp2_with fail
     go_loopw [56] (fun i wr=>∃ q:Nat,q≤4∧i=.int .i64 q∧Aside0 (T2 w wr gh gr gm gv gf h m (foldA m (runF m v0 r) r q))) (fun i _=>4 - (intOf i).toNat)
     case atStart=>exact ⟨0,by omega,rfl,HR⟩
     case round=>
      obtain ⟨q,hq,rfl,HR2⟩:=hrel
      clear HR
      by_cases hlq:q<4
      ·have c2:(q:Int)<4:=by omega
       have s1:=sg_lt (16 * r + 2 * q) (by omega)
       have s2:=sg_lt (16 * r + (2 * q + 1)) (by omega)
       have m1:=cell_blk HR2.out.t.bm (sg (16 * r + 2 * q)) (by rw [HR2.out.t.lm16];exact s1)
       have m2:=cell_blk HR2.out.t.bm (sg (16 * r + (2 * q + 1))) (by rw [HR2.out.t.lm16];exact s2)
       have s1':((sg (16 * r + 2 * q):Nat):Int)<16:=by omega
       have s2':((sg (16 * r + (2 * q + 1)):Nat):Int)<16:=by omega
       go_wp2_with fail
       refine wp_region_still_tail 20 (by kernel_rfl) (by kernel_rfl) ?_
       simp only [List.take_succ_cons,List.take_zero,List.drop_succ_cons,List.drop_zero]
       repeat still_step
       still_call (row_at r (2 * q) (by omega) (by omega) _ _ (by simp only [i64_w,wrap64];omega))
       repeat still_step
       still_call (row_at r (2 * q + 1) (by omega) (by omega) _ _ (by simp only [i64_w,wrap64];omega))
       repeat still_step
       refine wpStill_nil ?_
       change wpList _ _ _ _ _ wr.drew
       have HR3:=Aside0.mk HR2.out.drew
       generalize wr.drew=W10 at HR3 ⊢
       clear HR2 m1 m2
       go_wp2_with fail
       go_at_call 125
       refine (mix_at W10 gv 138 q (4 + q) (8 + q) (12 + q) _ _ _ _ _ _ _ (by omega) (by omega) (by omega) (by omega) HR3.out.bv HR3.out.lv16 (by omega) (by omega) (by omega) (by omega)).mono ?_
       rintro e W11 ⟨rfl,hv11,hb11⟩
       have HR4:Aside0 (T2 w W11 gh gr gm gv gf h m (foldA m (runF m v0 r) r (q + 1))):=Aside0.mk (HR3.out.but hb11 hv11 (by rw [foldA_len,run_len];have:=HR3.out.lv16;rw [foldA_len,run_len] at this;exact this))
       clear hv11 hb11 HR3
       go_wp2_with fail
       go_roundw
       case rel=>exact ⟨q + 1,by omega,rfl,HR4⟩
       case measure=>
        show 4 - (intOf (Value.int IntKind.i64 ((q:Int) + 1))).toNat<4 - (intOf (Value.int IntKind.i64 (q:Int))).toNat
        simp only [intOf]
        omega
      ·obtain rfl:q=4:=by omega
       clear hlq hq
       go_wp2_with fail
       go_loopw [81] (fun i wr=>∃ q:Nat,q≤4∧i=.int .i64 q∧Aside0 (T2 w wr gh gr gm gv gf h m (foldB m (foldA m (runF m v0 r) r 4) r q))) (fun i _=>4 - (intOf i).toNat)
       case atStart=>exact ⟨0,by omega,rfl,HR2⟩
       case round=>
        obtain ⟨q,hq,rfl,HR3⟩:=hrel
        clear HR2
        by_cases hlq:q<4
        ·have c2:(q:Int)<4:=by omega
         have s1:=sg_lt (16 * r + (8 + 2 * q)) (by omega)
         have s2:=sg_lt (16 * r + (9 + 2 * q)) (by omega)
         have m1:=cell_blk HR3.out.t.bm (sg (16 * r + (8 + 2 * q))) (by rw [HR3.out.t.lm16];exact s1)
         have m2:=cell_blk HR3.out.t.bm (sg (16 * r + (9 + 2 * q))) (by rw [HR3.out.t.lm16];exact s2)
         have s1':((sg (16 * r + (8 + 2 * q)):Nat):Int)<16:=by omega
         have s2':((sg (16 * r + (9 + 2 * q)):Nat):Int)<16:=by omega
         go_wp2_with fail
         refine wp_region_still_tail 27 (by kernel_rfl) (by kernel_rfl) ?_
         simp only [List.take_succ_cons,List.take_zero,List.drop_succ_cons,List.drop_zero]
         repeat still_step
         still_call (row_at r (8 + 2 * q) (by omega) (by omega) _ _ (by simp only [i64_w,wrap64];omega))
         repeat still_step
         still_call (row_at r (9 + 2 * q) (by omega) (by omega) _ _ (by simp only [i64_w,wrap64];omega))
         repeat still_step
         refine wpStill_nil ?_
         change wpList _ _ _ _ _ wr.drew
         have HR5:=Aside0.mk HR3.out.drew
         generalize wr.drew=W10 at HR5 ⊢
         clear HR3 m1 m2
         go_wp2_with fail
         go_at_call 125
         refine (mix_at W10 gv 138 q (4 + (q + 1) % 4) (8 + (q + 2) % 4) (12 + (q + 3) % 4) _ _ _ _ _ _ _ (by omega) (by omega) (by omega) (by omega) HR5.out.bv HR5.out.lv16 (by omega) (by omega) (by omega) (by omega)).mono ?_
         rintro e W11 ⟨rfl,hv11,hb11⟩
         have HR4:Aside0 (T2 w W11 gh gr gm gv gf h m (foldB m (foldA m (runF m v0 r) r 4) r (q + 1))):=Aside0.mk (HR5.out.but hb11 hv11 (by rw [foldB_len,foldA_len,run_len];have:=HR5.out.lv16;rw [foldB_len,foldA_len,run_len] at this;exact this))
         clear hv11 hb11 HR5
         go_wp2_with fail
         refine ⟨⟨_,_,_,_,_,_,_,_,_,_,_,_,_,_,_,_,_,_,_,_,_,_,_,_,_,_,_,_,_,_,_,_,_, ?rel,rfl⟩, ?measure⟩
         case rel=>exact ⟨q + 1,by omega,rfl,HR4⟩
         case measure=>
          show 4 - (intOf (Value.int IntKind.i64 ((q:Int) + 1))).toNat<4 - (intOf (Value.int IntKind.i64 (q:Int))).toNat
          simp only [intOf]
          omega
        ·obtain rfl:q=4:=by omega
         clear hlq hq
         go_wp2_with fail
         go_roundw
         case rel=>exact ⟨r + 1,by omega,rfl,HR3⟩
         case measure=>
          show 10 - (intOf (Value.int IntKind.i64 ((r:Int) + 1))).toNat<10 - (intOf (Value.int IntKind.i64 (r:Int))).toNat
          simp only [intOf]
          omega
    ·obtain rfl:r=10:=by omega
     clear hlt hr
     go_wp2_with fail
     have lv:=HR.out.lv16
     obtain ⟨V,hV⟩:∃ z,z=runF m v0 10:=⟨_,rfl⟩
     rw [← hV] at HR lv
     replace hV:=Aside0.mk hV
     go_loopw [114] (fun i wr=>∃ q:Nat,q≤8∧i=.int .i64 q∧Aside0 (T2 w wr gh gr gm gv gf (fillB 8 h (fun j=>xor32 (gi h j) (xor32 (gi V j) (gi V (j + 8)))) q) m V)) (fun i _=>8 - (intOf i).toNat)
     case atStart=>exact ⟨0,by omega,rfl,Aside0.mk (by rw [fillB_zero 8 h _ hl];exact HR.out)⟩
     case round=>
      obtain ⟨q,hq,rfl,HR2⟩:=hrel
      clear HR
      by_cases hlq:q<8
      ·have c2:(q:Int)<8:=by omega
       have c3:(q:Int) + 8<16:=by omega
       have c5:(q:Int)<16:=by omega
       have c6:IntKind.i64.wrap ((q:Int) + 8)=(q:Int) + 8:=by rw [i64_w];unfold wrap64;omega
       have c7:(0:Int)≤(q:Int) + 8:=by omega
       have c4:((q:Int) + 8).toNat=q + 8:=by omega
       have m0:=cell_blk HR2.out.t.bh q (by rw [fillB_length];exact hlq)
       rw [gi_fillB _ _ _ _ _ hlq,if_neg (Nat.lt_irrefl _)] at m0
       have m1:=cell_blk HR2.out.bv q (by omega)
       have m2:=cell_blk HR2.out.bv (q + 8) (by omega)
       go_wp2_with fail
       refine wp_region_still_tail 12 (by kernel_rfl) (by kernel_rfl) ?_
       simp only [List.take_succ_cons,List.take_zero,List.drop_succ_cons,List.drop_zero]
       repeat still_step
       refine wpStill_nil ?_
       change wpList _ _ _ _ _ wr.drew
       have HR3:=Aside0.mk HR2.out.drew
       generalize wr.drew=W10 at HR3 ⊢
       clear HR2 m0 m1 m2
       have f0:=frozen_blk HR3.out.t.bh q
       have m0:=cell_blk HR3.out.t.bh q (by rw [fillB_length];exact hlq)
       go_wp2_with fail
       refine ⟨⟨_,_,_,_,_,_,_,_,_,_,_,_,_,_,_,_,_,_, ?rel,rfl⟩, ?measure⟩
       case rel=>
        refine ⟨q + 1,by omega,rfl,Aside0.mk ?_⟩
        rw [← fillB_set 8 h _ q hlq]
        exact HR3.out.seth q _
       case measure=>
        show 8 - (intOf (Value.int IntKind.i64 ((q:Int) + 1))).toNat<8 - (intOf (Value.int IntKind.i64 (q:Int))).toNat
        simp only [intOf]
        omega
      ·obtain rfl:q=8:=by omega
       clear hlq hq
       have lH:(fillB 8 h (fun j=>xor32 (gi h j) (xor32 (gi V j) (gi V (j + 8)))) 8).length=8:=fillB_length _ _ _ _
       obtain ⟨H,hH⟩:∃ z,z=fillB 8 h (fun j=>xor32 (gi h j) (xor32 (gi V j) (gi V (j + 8)))) 8:=⟨_,rfl⟩
       rw [← hH] at HR2 lH
       replace hH:=Aside0.mk hH
       have k0:=cell_blk HR2.out.t.bh 0 (by omega)
       have z0:=cell_blk HR2.out.t.br 0 (by decide)
       have f0:=frozen_blk HR2.out.t.br 0
       have k1:=cell_blk HR2.out.t.bh 1 (by omega)
       have z1:=cell_blk HR2.out.t.br 1 (by decide)
       have f1:=frozen_blk HR2.out.t.br 1
       have k2:=cell_blk HR2.out.t.bh 2 (by omega)
       have z2:=cell_blk HR2.out.t.br 2 (by decide)
       have f2:=frozen_blk HR2.out.t.br 2
       have k3:=cell_blk HR2.out.t.bh 3 (by omega)
       have z3:=cell_blk HR2.out.t.br 3 (by decide)
       have f3:=frozen_blk HR2.out.t.br 3
       have k4:=cell_blk HR2.out.t.bh 4 (by omega)
       have z4:=cell_blk HR2.out.t.br 4 (by decide)
       have f4:=frozen_blk HR2.out.t.br 4
       have k5:=cell_blk HR2.out.t.bh 5 (by omega)
       have z5:=cell_blk HR2.out.t.br 5 (by decide)
       have f5:=frozen_blk HR2.out.t.br 5
       have k6:=cell_blk HR2.out.t.bh 6 (by omega)
       have z6:=cell_blk HR2.out.t.br 6 (by decide)
       have f6:=frozen_blk HR2.out.t.br 6
       have k7:=cell_blk HR2.out.t.bh 7 (by omega)
       have z7:=cell_blk HR2.out.t.br 7 (by decide)
       have f7:=frozen_blk HR2.out.t.br 7
       go_wp2_with fail
       have hgr:((((((((wr.setCell ⟨gr,0,none⟩ (.int .u32 (gi H 0))).setCell ⟨gr,1,none⟩ (.int .u32 (gi H 1))).setCell ⟨gr,2,none⟩ (.int .u32 (gi H 2))).setCell ⟨gr,3,none⟩ (.int .u32 (gi H 3))).setCell ⟨gr,4,none⟩ (.int .u32 (gi H 4))).setCell ⟨gr,5,none⟩ (.int .u32 (gi H 5))).setCell ⟨gr,6,none⟩ (.int .u32 (gi H 6))).setCell ⟨gr,7,none⟩ (.int .u32 (gi H 7))).heap[gr]?=some (blk H 99):=by
        have e:=set_blk (set_blk (set_blk (set_blk (set_blk (set_blk (set_blk (set_blk HR2.out.t.br 0 (gi H 0)) 1 (gi H 1)) 2 (gi H 2)) 3 (gi H 3)) 4 (gi H 4)) 5 (gi H 5)) 6 (gi H 6)) 7 (gi H 7)
        rw [show ((((((((zeros 8).set 0 (gi H 0)).set 1 (gi H 1)).set 2 (gi H 2)).set 3 (gi H 3)).set 4 (gi H 4)).set 5 (gi H 5)).set 6 (gi H 6)).set 7 (gi H 7)=H from eight_sets H lH] at e
        exact e
       refine bodyPost_ret (results_cell_row rfl _ _ gr 99 (u32s H) (0,0) _ rfl hgr Try.underlying99 rfl (by rw [show (u32s H).size=8 from by simp [u32s,lH]];kernel_rfl)) rfl ?_
       have hF:H=takeF h s cnt false:=by rw [hH.out,hV.out,hv0.out,hm.out,takeF]
       have lr:=HR2.out.t.lr
       refine ⟨by rw [hF], ?_⟩
       exact (((((((HR2.out.t.B.setCell (p:=⟨gr,0,none⟩) lr _).setCell (p:=⟨gr,1,none⟩) lr _).setCell (p:=⟨gr,2,none⟩) lr _).setCell (p:=⟨gr,3,none⟩) lr _).setCell (p:=⟨gr,4,none⟩) lr _).setCell (p:=⟨gr,5,none⟩) lr _).setCell (p:=⟨gr,6,none⟩) lr _).setCell (p:=⟨gr,7,none⟩) lr _
set_option maxHeartbeats 2000000 in
set_option maxRecDepth 100000 in
theorem hash_take.walk_t (h:List Int) (hl:h.length=8) (s:ByteArray) (hs:64≤s.size) (cnt:Int) (hc:0≤cnt∧cnt<18446744073709551616) (w:World) :
  Calls Try.prog 116 #[.agg (u32s h),.string s,.int .u64 cnt,.bool true] w fun e w'=>e=.returned (.agg (u32s (takeF h s cnt true)))∧Below w.heap.size w w':=by
 go_enter Try.func116,Try.ntmps116
 go_wp2_with fail
 have HT:T1 w (((w.alloc (Obj.cells (u32s h) 99)).alloc (blk (zeros 8) 99)).alloc (blk (zeros 16) 138)) w.heap.size (w.heap.size + 1) (w.heap.size + 1 + 1) h (zeros 16):=by
  refine ⟨below_alloc (below_alloc (below_alloc (Below.refl _ _) _) _) _,blk_alloc (blk_alloc (heap_alloc_last _ _) _) _, ?_, ?_,Nat.le_refl _,⟨by omega,by omega,by omega⟩,by omega,by omega,hl,rfl⟩
  ·have:=heap_alloc_last (w.alloc (Obj.cells (u32s h) 99)) (blk (zeros 8) 99)
   rw [sz1 rfl] at this
   exact blk_alloc this _
  ·have:=heap_alloc_last ((w.alloc (Obj.cells (u32s h) 99)).alloc (blk (zeros 8) 99)) (blk (zeros 16) 138)
   rw [sz1 (sz1 rfl _)] at this
   exact this
 replace HT:=Aside0.mk HT
 change Code.wp _ _ _ _ (((w.alloc (Obj.cells (u32s h) 99)).alloc (blk (zeros 8) 99)).alloc (blk (zeros 16) 138))
 generalize ((w.alloc (Obj.cells (u32s h) 99)).alloc (blk (zeros 8) 99)).alloc (blk (zeros 16) 138)=W1 at HT ⊢
 generalize w.heap.size + 1 + 1=gm at HT ⊢
 generalize w.heap.size + 1=gr at HT ⊢
 obtain ⟨gh,hgh⟩:∃ z,z=w.heap.size:=⟨_,rfl⟩
 rw [← hgh] at HT ⊢
 have HG:=Aside0.mk hgh
 clear hgh
 go_loopw [17] (fun i wr=>∃ q:Nat,q≤16∧i=.int .i64 q∧Aside0 (T1 w wr gh gr gm h (fillB 16 (zeros 16) (wordV s) q))) (fun i _=>16 - (intOf i).toNat)
 case atStart=>exact ⟨0,by omega,rfl,Aside0.mk (by rw [fillB_zero 16 _ _ rfl];exact HT.out)⟩
 case round=>
  obtain ⟨q,hq,rfl,HT2⟩:=hrel
  clear HT
  by_cases hlt:q<16
  ·have c1:(q:Int)<16:=by omega
   go_wp2_with fail
   go_at_call 124
   refine (hash_word.walk s q (by omega) _).mono ?_
   rintro e w3 ⟨rfl,hd⟩
   have HT3:=Aside0.mk (HT2.out.below hd.below)
   clear hd
   have f1:=frozen_blk HT3.out.bm q
   have g1:=cell_blk HT3.out.bm q (by rw [fillB_length];exact hlt)
   go_wp2_with fail
   go_roundw
   case rel=>exact ⟨q + 1,by omega,rfl,Aside0.mk (by rw [← fillB_set 16 _ _ q hlt];exact HT3.out.setm q _)⟩
   case measure=>
    show 16 - (intOf (Value.int IntKind.i64 ((q:Int) + 1))).toNat<16 - (intOf (Value.int IntKind.i64 (q:Int))).toNat
    simp only [intOf]
    omega
  ·obtain rfl:q=16:=by omega
   clear hlt hq
   go_wp2_with (go_at_call 86;refine (show Calls Try.prog 86 #[] _ (fun e w'=>e=.returned (.agg #[.int .u32 1779033703,.int .u32 3144134277,.int .u32 1013904242,.int .u32 2773480762,.int .u32 1359893119,.int .u32 2600822924,.int .u32 528734635,.int .u32 1541459225])∧Below _ _ w') from hash_eight.walk _).mono ?_;rintro e w4 ⟨rfl,hb4⟩)
   have HT4:T2 w (w4.alloc (blk ivF 99)) gh gr gm wr.heap.size w4.heap.size h (wordsF s) (zeros 16):=by
    have t0:=HT2.out
    have hg:=HG.out
    have lw:=t0.B.size
    have q1:=blk_lt t0.bh
    have q2:=blk_lt t0.br
    have q3:=blk_lt t0.bm
    have q4:=hb4.size
    rw [sz1 rfl] at q4
    have b0:Below wr.heap.size wr w4:=below_then (below_alloc (Below.refl _ _) _) (by rw [sz1 rfl];omega) hb4
    have t1:=(t0.below b0).below (below_alloc (Below.refl _ _) (blk ivF 99))
    refine ⟨t1,blk_alloc (blk_below (heap_alloc_last wr (blk (zeros 16) 138)) hb4) _,heap_alloc_last _ _,⟨by omega,by omega,by omega,by omega⟩,by omega,by omega,rfl⟩
   change Code.wp _ _ _ _ (w4.alloc (blk ivF 99))
   replace HT4:=Aside0.mk HT4
   generalize w4.alloc (blk ivF 99)=W5 at HT4 ⊢
   generalize wr.heap.size=gv at HT4 ⊢
   generalize w4.heap.size=gf at HT4 ⊢
   clear HT2 hb4
   refine wp_region_still_tail 2 (by kernel_rfl) (by kernel_rfl) ?_
   simp only [List.take_succ_cons,List.take_zero,List.drop_succ_cons,List.drop_zero]
   repeat still_step
   refine wpStill_nil ?_
   change wpList _ _ _ _ _ W5.drew
   have HT5:=Aside0.mk HT4.out.drew
   generalize W5.drew=W6 at HT5 ⊢
   clear HT4
   have hcp:=fun ty=>copy_u32 HT5.out.bv HT5.out.t.bh trivial 0 8 16 8 (by rw [HT5.out.lv16];omega) hl ty
   go_wp2_with fail
   clear hcp
   have HT6:=Aside0.mk (HT5.out.setRow (h ++ List.drop 8 (zeros 16)) (by simp [hl,zeros]))
   clear HT5
   generalize W6.setRow gv (u32s (h ++ List.drop 8 (zeros 16)))=W7 at HT6 ⊢
   refine wp_region_still_tail 2 (by kernel_rfl) (by kernel_rfl) ?_
   simp only [List.take_succ_cons,List.take_zero,List.drop_succ_cons,List.drop_zero]
   repeat still_step
   refine wpStill_nil ?_
   change wpList _ _ _ _ _ W7.drew
   have HT7:=Aside0.mk HT6.out.drew
   generalize W7.drew=W8 at HT7 ⊢
   clear HT6
   have hcp:=fun ty=>copy_u32 HT7.out.bv HT7.out.bf trivial 8 8 8 8 (by rw [HT7.out.lv16];omega) rfl ty
   have e1:(h ++ List.drop 8 (zeros 16)).take 8 ++ ivF ++ (h ++ List.drop 8 (zeros 16)).drop (8 + 8)=h ++ ivF:=by
    rw [List.take_append_of_le_length (by omega),List.take_of_length_le (by omega),List.drop_eq_nil_of_le (by simp [hl,zeros]),List.append_nil]
   rw [e1] at hcp
   clear e1
   have l16:(h ++ ivF).length=16:=by simp [hl,ivF]
   have HT8:=Aside0.mk (HT7.out.setRow (h ++ ivF) l16)
   have f12:=frozen_blk HT8.out.bv 12
   have c12:=cell_blk HT8.out.bv 12 (by omega)
   have f13:=frozen_blk HT8.out.bv 13
   have c13:=cell_blk HT8.out.bv 13 (by omega)
   have f14:=frozen_blk HT8.out.bv 14
   have c14:=cell_blk HT8.out.bv 14 (by omega)
   have hsg:(if IntKind.u32.signed=true then (-1:Int) else IntKind.u32.max)=4294967295:=by decide
   have hsg2:IntKind.u32.signed=false:=rfl
   have hsg3:IntKind.u32.max=4294967295:=by decide
   go_wp2_with fail
   have HT9:T2 w ((((W8.setRow gv (u32s (h ++ ivF))).setCell ⟨gv,12,none⟩ (.int .u32 (Go.bits .xor .u32 (gi (h ++ ivF) 12) (cnt % 4294967296)))).setCell ⟨gv,13,none⟩ (.int .u32 (Go.bits .xor .u32 (gi (h ++ ivF) 13) (cnt / 4294967296)))).setCell ⟨gv,14,none⟩ (.int .u32 (Go.bits .xor .u32 4294967295 (gi (h ++ ivF) 14)))) gh gr gm gv gf h (wordsF s) (startF h cnt true):=((HT8.out.setv 12 _).setv 13 _).setv 14 _
   replace HT9:=Aside0.mk HT9
   clear hsg hsg2 hsg3 HT8 f12 c12 f13 c13 f14 c14 hcp l16
   generalize (((W8.setRow gv (u32s (h ++ ivF))).setCell ⟨gv,12,none⟩ (.int .u32 (Go.bits .xor .u32 (gi (h ++ ivF) 12) (cnt % 4294967296)))).setCell ⟨gv,13,none⟩ (.int .u32 (Go.bits .xor .u32 (gi (h ++ ivF) 13) (cnt / 4294967296)))).setCell ⟨gv,14,none⟩ (.int .u32 (Go.bits .xor .u32 4294967295 (gi (h ++ ivF) 14)))=W9 at HT9 ⊢
   obtain ⟨m,hm⟩:∃ z,z=wordsF s:=⟨_,rfl⟩
   obtain ⟨v0,hv0⟩:∃ z,z=startF h cnt true:=⟨_,rfl⟩
   rw [← hm,← hv0] at HT9
   replace hm:=Aside0.mk hm
   replace hv0:=Aside0.mk hv0
   clear HT7
   go_loopw [53] (fun i wr=>∃ r:Nat,r≤10∧i=.int .i64 r∧Aside0 (T2 w wr gh gr gm gv gf h m (runF m v0 r))) (fun i _=>10 - (intOf i).toNat)
   case atStart=>exact ⟨0,by omega,rfl,HT9⟩
   case round=>
    obtain ⟨r,hr,rfl,HR⟩:=hrel
    clear HT9
    by_cases hlt:r<10
    ·have c1:(r:Int)<10:=by omega
     go_wp2_with fail
     go_loopw [56] (fun i wr=>∃ q:Nat,q≤4∧i=.int .i64 q∧Aside0 (T2 w wr gh gr gm gv gf h m (foldA m (runF m v0 r) r q))) (fun i _=>4 - (intOf i).toNat)
     case atStart=>exact ⟨0,by omega,rfl,HR⟩
     case round=>
      obtain ⟨q,hq,rfl,HR2⟩:=hrel
      clear HR
      by_cases hlq:q<4
      ·have c2:(q:Int)<4:=by omega
       have s1:=sg_lt (16 * r + 2 * q) (by omega)
       have s2:=sg_lt (16 * r + (2 * q + 1)) (by omega)
       have m1:=cell_blk HR2.out.t.bm (sg (16 * r + 2 * q)) (by rw [HR2.out.t.lm16];exact s1)
       have m2:=cell_blk HR2.out.t.bm (sg (16 * r + (2 * q + 1))) (by rw [HR2.out.t.lm16];exact s2)
       have s1':((sg (16 * r + 2 * q):Nat):Int)<16:=by omega
       have s2':((sg (16 * r + (2 * q + 1)):Nat):Int)<16:=by omega
       go_wp2_with fail
       refine wp_region_still_tail 20 (by kernel_rfl) (by kernel_rfl) ?_
       simp only [List.take_succ_cons,List.take_zero,List.drop_succ_cons,List.drop_zero]
       repeat still_step
       still_call (row_at r (2 * q) (by omega) (by omega) _ _ (by simp only [i64_w,wrap64];omega))
       repeat still_step
       still_call (row_at r (2 * q + 1) (by omega) (by omega) _ _ (by simp only [i64_w,wrap64];omega))
       repeat still_step
       refine wpStill_nil ?_
       change wpList _ _ _ _ _ wr.drew
       have HR3:=Aside0.mk HR2.out.drew
       generalize wr.drew=W10 at HR3 ⊢
       clear HR2 m1 m2
       go_wp2_with fail
       go_at_call 125
       refine (mix_at W10 gv 138 q (4 + q) (8 + q) (12 + q) _ _ _ _ _ _ _ (by omega) (by omega) (by omega) (by omega) HR3.out.bv HR3.out.lv16 (by omega) (by omega) (by omega) (by omega)).mono ?_
       rintro e W11 ⟨rfl,hv11,hb11⟩
       have HR4:Aside0 (T2 w W11 gh gr gm gv gf h m (foldA m (runF m v0 r) r (q + 1))):=Aside0.mk (HR3.out.but hb11 hv11 (by rw [foldA_len,run_len];have:=HR3.out.lv16;rw [foldA_len,run_len] at this;exact this))
       clear hv11 hb11 HR3
       go_wp2_with fail
       go_roundw
       case rel=>exact ⟨q + 1,by omega,rfl,HR4⟩
       case measure=>
        show 4 - (intOf (Value.int IntKind.i64 ((q:Int) + 1))).toNat<4 - (intOf (Value.int IntKind.i64 (q:Int))).toNat
        simp only [intOf]
        omega
      ·obtain rfl:q=4:=by omega
       clear hlq hq
       go_wp2_with fail
       go_loopw [81] (fun i wr=>∃ q:Nat,q≤4∧i=.int .i64 q∧Aside0 (T2 w wr gh gr gm gv gf h m (foldB m (foldA m (runF m v0 r) r 4) r q))) (fun i _=>4 - (intOf i).toNat)
       case atStart=>exact ⟨0,by omega,rfl,HR2⟩
       case round=>
        obtain ⟨q,hq,rfl,HR3⟩:=hrel
        clear HR2
        by_cases hlq:q<4
        ·have c2:(q:Int)<4:=by omega
         have s1:=sg_lt (16 * r + (8 + 2 * q)) (by omega)
         have s2:=sg_lt (16 * r + (9 + 2 * q)) (by omega)
         have m1:=cell_blk HR3.out.t.bm (sg (16 * r + (8 + 2 * q))) (by rw [HR3.out.t.lm16];exact s1)
         have m2:=cell_blk HR3.out.t.bm (sg (16 * r + (9 + 2 * q))) (by rw [HR3.out.t.lm16];exact s2)
         have s1':((sg (16 * r + (8 + 2 * q)):Nat):Int)<16:=by omega
         have s2':((sg (16 * r + (9 + 2 * q)):Nat):Int)<16:=by omega
         go_wp2_with fail
         refine wp_region_still_tail 27 (by kernel_rfl) (by kernel_rfl) ?_
         simp only [List.take_succ_cons,List.take_zero,List.drop_succ_cons,List.drop_zero]
         repeat still_step
         still_call (row_at r (8 + 2 * q) (by omega) (by omega) _ _ (by simp only [i64_w,wrap64];omega))
         repeat still_step
         still_call (row_at r (9 + 2 * q) (by omega) (by omega) _ _ (by simp only [i64_w,wrap64];omega))
         repeat still_step
         refine wpStill_nil ?_
         change wpList _ _ _ _ _ wr.drew
         have HR5:=Aside0.mk HR3.out.drew
         generalize wr.drew=W10 at HR5 ⊢
         clear HR3 m1 m2
         go_wp2_with fail
         go_at_call 125
         refine (mix_at W10 gv 138 q (4 + (q + 1) % 4) (8 + (q + 2) % 4) (12 + (q + 3) % 4) _ _ _ _ _ _ _ (by omega) (by omega) (by omega) (by omega) HR5.out.bv HR5.out.lv16 (by omega) (by omega) (by omega) (by omega)).mono ?_
         rintro e W11 ⟨rfl,hv11,hb11⟩
         have HR4:Aside0 (T2 w W11 gh gr gm gv gf h m (foldB m (foldA m (runF m v0 r) r 4) r (q + 1))):=Aside0.mk (HR5.out.but hb11 hv11 (by rw [foldB_len,foldA_len,run_len];have:=HR5.out.lv16;rw [foldB_len,foldA_len,run_len] at this;exact this))
         clear hv11 hb11 HR5
         go_wp2_with fail
         refine ⟨⟨_,_,_,_,_,_,_,_,_,_,_,_,_,_,_,_,_,_,_,_,_,_,_,_,_,_,_,_,_,_,_,_,_, ?rel,rfl⟩, ?measure⟩
         case rel=>exact ⟨q + 1,by omega,rfl,HR4⟩
         case measure=>
          show 4 - (intOf (Value.int IntKind.i64 ((q:Int) + 1))).toNat<4 - (intOf (Value.int IntKind.i64 (q:Int))).toNat
          simp only [intOf]
          omega
        ·obtain rfl:q=4:=by omega
         clear hlq hq
         go_wp2_with fail
         go_roundw
         case rel=>exact ⟨r + 1,by omega,rfl,HR3⟩
         case measure=>
          show 10 - (intOf (Value.int IntKind.i64 ((r:Int) + 1))).toNat<10 - (intOf (Value.int IntKind.i64 (r:Int))).toNat
          simp only [intOf]
          omega
    ·obtain rfl:r=10:=by omega
     clear hlt hr
     go_wp2_with fail
     have lv:=HR.out.lv16
     obtain ⟨V,hV⟩:∃ z,z=runF m v0 10:=⟨_,rfl⟩
     rw [← hV] at HR lv
     replace hV:=Aside0.mk hV
     go_loopw [114] (fun i wr=>∃ q:Nat,q≤8∧i=.int .i64 q∧Aside0 (T2 w wr gh gr gm gv gf (fillB 8 h (fun j=>xor32 (gi h j) (xor32 (gi V j) (gi V (j + 8)))) q) m V)) (fun i _=>8 - (intOf i).toNat)
     case atStart=>exact ⟨0,by omega,rfl,Aside0.mk (by rw [fillB_zero 8 h _ hl];exact HR.out)⟩
     case round=>
      obtain ⟨q,hq,rfl,HR2⟩:=hrel
      clear HR
      by_cases hlq:q<8
      ·have c2:(q:Int)<8:=by omega
       have c3:(q:Int) + 8<16:=by omega
       have c5:(q:Int)<16:=by omega
       have c6:IntKind.i64.wrap ((q:Int) + 8)=(q:Int) + 8:=by rw [i64_w];unfold wrap64;omega
       have c7:(0:Int)≤(q:Int) + 8:=by omega
       have c4:((q:Int) + 8).toNat=q + 8:=by omega
       have m0:=cell_blk HR2.out.t.bh q (by rw [fillB_length];exact hlq)
       rw [gi_fillB _ _ _ _ _ hlq,if_neg (Nat.lt_irrefl _)] at m0
       have m1:=cell_blk HR2.out.bv q (by omega)
       have m2:=cell_blk HR2.out.bv (q + 8) (by omega)
       go_wp2_with fail
       refine wp_region_still_tail 12 (by kernel_rfl) (by kernel_rfl) ?_
       simp only [List.take_succ_cons,List.take_zero,List.drop_succ_cons,List.drop_zero]
       repeat still_step
       refine wpStill_nil ?_
       change wpList _ _ _ _ _ wr.drew
       have HR3:=Aside0.mk HR2.out.drew
       generalize wr.drew=W10 at HR3 ⊢
       clear HR2 m0 m1 m2
       have f0:=frozen_blk HR3.out.t.bh q
       have m0:=cell_blk HR3.out.t.bh q (by rw [fillB_length];exact hlq)
       go_wp2_with fail
       refine ⟨⟨_,_,_,_,_,_,_,_,_,_,_,_,_,_,_,_,_,_, ?rel,rfl⟩, ?measure⟩
       case rel=>
        refine ⟨q + 1,by omega,rfl,Aside0.mk ?_⟩
        rw [← fillB_set 8 h _ q hlq]
        exact HR3.out.seth q _
       case measure=>
        show 8 - (intOf (Value.int IntKind.i64 ((q:Int) + 1))).toNat<8 - (intOf (Value.int IntKind.i64 (q:Int))).toNat
        simp only [intOf]
        omega
      ·obtain rfl:q=8:=by omega
       clear hlq hq
       have lH:(fillB 8 h (fun j=>xor32 (gi h j) (xor32 (gi V j) (gi V (j + 8)))) 8).length=8:=fillB_length _ _ _ _
       obtain ⟨H,hH⟩:∃ z,z=fillB 8 h (fun j=>xor32 (gi h j) (xor32 (gi V j) (gi V (j + 8)))) 8:=⟨_,rfl⟩
       rw [← hH] at HR2 lH
       replace hH:=Aside0.mk hH
       have k0:=cell_blk HR2.out.t.bh 0 (by omega)
       have z0:=cell_blk HR2.out.t.br 0 (by decide)
       have f0:=frozen_blk HR2.out.t.br 0
       have k1:=cell_blk HR2.out.t.bh 1 (by omega)
       have z1:=cell_blk HR2.out.t.br 1 (by decide)
       have f1:=frozen_blk HR2.out.t.br 1
       have k2:=cell_blk HR2.out.t.bh 2 (by omega)
       have z2:=cell_blk HR2.out.t.br 2 (by decide)
       have f2:=frozen_blk HR2.out.t.br 2
       have k3:=cell_blk HR2.out.t.bh 3 (by omega)
       have z3:=cell_blk HR2.out.t.br 3 (by decide)
       have f3:=frozen_blk HR2.out.t.br 3
       have k4:=cell_blk HR2.out.t.bh 4 (by omega)
       have z4:=cell_blk HR2.out.t.br 4 (by decide)
       have f4:=frozen_blk HR2.out.t.br 4
       have k5:=cell_blk HR2.out.t.bh 5 (by omega)
       have z5:=cell_blk HR2.out.t.br 5 (by decide)
       have f5:=frozen_blk HR2.out.t.br 5
       have k6:=cell_blk HR2.out.t.bh 6 (by omega)
       have z6:=cell_blk HR2.out.t.br 6 (by decide)
       have f6:=frozen_blk HR2.out.t.br 6
       have k7:=cell_blk HR2.out.t.bh 7 (by omega)
       have z7:=cell_blk HR2.out.t.br 7 (by decide)
       have f7:=frozen_blk HR2.out.t.br 7
       go_wp2_with fail
       have hgr:((((((((wr.setCell ⟨gr,0,none⟩ (.int .u32 (gi H 0))).setCell ⟨gr,1,none⟩ (.int .u32 (gi H 1))).setCell ⟨gr,2,none⟩ (.int .u32 (gi H 2))).setCell ⟨gr,3,none⟩ (.int .u32 (gi H 3))).setCell ⟨gr,4,none⟩ (.int .u32 (gi H 4))).setCell ⟨gr,5,none⟩ (.int .u32 (gi H 5))).setCell ⟨gr,6,none⟩ (.int .u32 (gi H 6))).setCell ⟨gr,7,none⟩ (.int .u32 (gi H 7))).heap[gr]?=some (blk H 99):=by
        have e:=set_blk (set_blk (set_blk (set_blk (set_blk (set_blk (set_blk (set_blk HR2.out.t.br 0 (gi H 0)) 1 (gi H 1)) 2 (gi H 2)) 3 (gi H 3)) 4 (gi H 4)) 5 (gi H 5)) 6 (gi H 6)) 7 (gi H 7)
        rw [show ((((((((zeros 8).set 0 (gi H 0)).set 1 (gi H 1)).set 2 (gi H 2)).set 3 (gi H 3)).set 4 (gi H 4)).set 5 (gi H 5)).set 6 (gi H 6)).set 7 (gi H 7)=H from eight_sets H lH] at e
        exact e
       refine bodyPost_ret (results_cell_row rfl _ _ gr 99 (u32s H) (0,0) _ rfl hgr Try.underlying99 rfl (by rw [show (u32s H).size=8 from by simp [u32s,lH]];kernel_rfl)) rfl ?_
       have hF:H=takeF h s cnt true:=by rw [hH.out,hV.out,hv0.out,hm.out,takeF]
       have lr:=HR2.out.t.lr
       refine ⟨by rw [hF], ?_⟩
       exact (((((((HR2.out.t.B.setCell (p:=⟨gr,0,none⟩) lr _).setCell (p:=⟨gr,1,none⟩) lr _).setCell (p:=⟨gr,2,none⟩) lr _).setCell (p:=⟨gr,3,none⟩) lr _).setCell (p:=⟨gr,4,none⟩) lr _).setCell (p:=⟨gr,5,none⟩) lr _).setCell (p:=⟨gr,6,none⟩) lr _).setCell (p:=⟨gr,7,none⟩) lr _
theorem hash_take.walk (h:List Int) (hl:h.length=8) (s:ByteArray) (hs:64≤s.size) (cnt:Int) (hc:0≤cnt∧cnt<18446744073709551616) (last:Bool) (w:World) :
  Calls Try.prog 116 #[.agg (u32s h),.string s,.int .u64 cnt,.bool last] w fun e w'=>e=.returned (.agg (u32s (takeF h s cnt last)))∧Below w.heap.size w w':=by
 cases last
 ·exact hash_take.walk_f h hl s hs cnt hc w
 ·exact hash_take.walk_t h hl s hs cnt hc w
end Go.Proofs.Ytjfmnkmgnbbfgaa.A
