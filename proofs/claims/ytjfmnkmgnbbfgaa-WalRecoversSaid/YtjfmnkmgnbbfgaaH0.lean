/- Layer 2: the turning of words and the mixing of four numbers (hash.mix): what the walk makes of the sixteen numbers. -/
import Derived.Test.YtjfmnkmgnbbfgaaA0
import Derived.StillTailTactics
import Derived.Deep.QuietTactic
set_option linter.unusedVariables false
set_option linter.unusedSimpArgs false
namespace Go.Proofs.Ytjfmnkmgnbbfgaa.A
open Go.RowKit Go.Proofs.YtjfmnkmgnbbfgaaW.PrintWords Go.Proofs.YtjfmnkmgnbbfgaaW.PrintLast Go.Proofs.YtjfmnkmgnbbfgaaW.PrintMore
def rotr (x:Int) (n:Nat):Int:=Go.bits .or .u32 ((x * 2 ^ (32 - n)) % 4294967296) (x / 2 ^ n)
theorem rot16 (x:Int) (w:World):Calls Try.prog 134 #[.int .u32 x,.int .i64 (-16)] w fun e w'=>e=.returned (.int .u32 (rotr x 16))∧w'=w:=by
 have e1:IntKind.u64.wrap (-16)=18446744073709551600:=by decide
 have e2:Go.bits .and .u64 18446744073709551600 31=16:=by decide
 have e3:IntKind.u64.wrap (32 - 16)=16:=by decide
 go_enter Try.func134,Try.ntmps134
 go_wp2
 go_ret
 exact ⟨rfl,rfl⟩
theorem rot12 (x:Int) (w:World):Calls Try.prog 134 #[.int .u32 x,.int .i64 (-12)] w fun e w'=>e=.returned (.int .u32 (rotr x 12))∧w'=w:=by
 have e1:IntKind.u64.wrap (-12)=18446744073709551604:=by decide
 have e2:Go.bits .and .u64 18446744073709551604 31=20:=by decide
 have e3:IntKind.u64.wrap (32 - 20)=12:=by decide
 go_enter Try.func134,Try.ntmps134
 go_wp2
 go_ret
 exact ⟨rfl,rfl⟩
theorem rot8 (x:Int) (w:World):Calls Try.prog 134 #[.int .u32 x,.int .i64 (-8)] w fun e w'=>e=.returned (.int .u32 (rotr x 8))∧w'=w:=by
 have e1:IntKind.u64.wrap (-8)=18446744073709551608:=by decide
 have e2:Go.bits .and .u64 18446744073709551608 31=24:=by decide
 have e3:IntKind.u64.wrap (32 - 24)=8:=by decide
 go_enter Try.func134,Try.ntmps134
 go_wp2
 go_ret
 exact ⟨rfl,rfl⟩
theorem rot7 (x:Int) (w:World):Calls Try.prog 134 #[.int .u32 x,.int .i64 (-7)] w fun e w'=>e=.returned (.int .u32 (rotr x 7))∧w'=w:=by
 have e1:IntKind.u64.wrap (-7)=18446744073709551609:=by decide
 have e2:Go.bits .and .u64 18446744073709551609 31=25:=by decide
 have e3:IntKind.u64.wrap (32 - 25)=7:=by decide
 go_enter Try.func134,Try.ntmps134
 go_wp2
 go_ret
 exact ⟨rfl,rfl⟩
def gi (v:List Int) (k:Nat):Int:=v.getD k 0
def u32s (v:List Int):Array Value:=(v.map (Value.int .u32)).toArray
def blk (v:List Int) (T:TypeId):Obj:=.cells (u32s v) T (0,0)
theorem cell_blk {W:World} {b:Nat} {v:List Int} {T:TypeId} (h:W.heap[b]?=some (blk v T)) (k:Nat) (hk:k<v.length):W.cell? ⟨b,k,none⟩=some (.int .u32 (gi v k)):=by
 unfold blk at h
 simp [World.cell?,h,u32s,gi,List.getD_eq_getElem?_getD,List.getElem?_eq_getElem hk]
theorem frozen_blk {W:World} {b:Nat} {v:List Int} {T:TypeId} (h:W.heap[b]?=some (blk v T)) (k:Nat):W.frozen? ⟨b,k,none⟩=false:=by
 unfold blk at h
 simp [World.frozen?,h]
theorem set_blk {W:World} {b:Nat} {v:List Int} {T:TypeId} (h:W.heap[b]?=some (blk v T)) (k:Nat) (x:Int):(W.setCell ⟨b,k,none⟩ (.int .u32 x)).heap[b]?=some (blk (v.set k x) T):=by
 simp only [blk,u32s] at h ⊢
 simp only [World.setCell,Array.getElem?_modify,h,if_true,Option.map_some]
 simp [List.map_set]
structure But (b:Nat) (w w':World):Prop where
 os:w'.os=w.os
 tape:w'.tape=w.tape
 output:w'.output=w.output
 size:w.heap.size≤w'.heap.size
 block:∀ k,k<w.heap.size→k≠b→w'.heap[k]?=w.heap[k]?
theorem But.refl (b:Nat) (w:World):But b w w:=⟨rfl,rfl,rfl,Nat.le_refl _,fun _ _ _=>rfl⟩
theorem But.trans {b:Nat} {x y z:World} (h:But b x y) (k:But b y z):But b x z:=
 ⟨k.os.trans h.os,k.tape.trans h.tape,k.output.trans h.output,Nat.le_trans h.size k.size,fun i hi hb=>(k.block i (Nat.lt_of_lt_of_le hi h.size) hb).trans (h.block i hi hb)⟩
theorem But.of_below {b:Nat} {w w':World} (h:Below w.heap.size w w'):But b w w':=⟨h.os,h.tape,h.output,h.size,fun k hk _=>h.block k hk⟩
theorem But.drewN {b:Nat} {w w':World} (h:But b w w') (n:Nat):But b w (w'.drewN n):=⟨h.os,h.tape,h.output,h.size,h.block⟩
theorem But.drew {b:Nat} {w w':World} (h:But b w w'):But b w w'.drew:=⟨h.os,h.tape,h.output,h.size,h.block⟩
theorem But.setCell {b:Nat} {w w':World} (h:But b w w') (k:Nat) (u:Value):But b w (w'.setCell ⟨b,k,none⟩ u):=
 h.trans ⟨rfl,rfl,rfl,by simp [World.setCell],fun i _ hb=>Below.heap_setCell w' ⟨b,k,none⟩ u i hb⟩
theorem But.below {b:Nat} {w w':World} (h:But b w w') {B:Nat} (hb:B≤b) (hB:B≤w.heap.size):Below B w w':=⟨h.os,h.tape,h.output,h.size,fun k hk=>h.block k (by omega) (by omega)⟩
theorem But.cell {b:Nat} {w w':World} (h:But b w w') {a:Addr} {v:Value} (hc:w.cell? a=some v) (hb:a.block≠b):w'.cell? a=some v:=
 (World.cell?_of_block (w:=w) (h.block a.block (World.block_lt_of_cell? w a hc) hb)).trans hc
structure Mx (W:World) (g3 g4 g5 g6 g7 b:Nat) (T:TypeId) (a c2 d c:Nat) (v:List Int):Prop where
 h3:W.cell? ⟨g3,0,none⟩=some (.pointer (some ⟨b,0,none⟩))
 h4:W.cell? ⟨g4,0,none⟩=some (.int .i64 a)
 h5:W.cell? ⟨g5,0,none⟩=some (.int .i64 c2)
 h6:W.cell? ⟨g6,0,none⟩=some (.int .i64 d)
 h7:W.cell? ⟨g7,0,none⟩=some (.int .i64 c)
 hb:W.heap[b]?=some (blk v T)
 n:g3≠b∧g4≠b∧g5≠b∧g6≠b∧g7≠b
 len:v.length=16
 lt:a<16∧c2<16∧d<16∧c<16
theorem Mx.drew {W:World} {g3 g4 g5 g6 g7 b:Nat} {T:TypeId} {a c2 d c:Nat} {v:List Int} (h:Mx W g3 g4 g5 g6 g7 b T a c2 d c v):Mx W.drew g3 g4 g5 g6 g7 b T a c2 d c v:=⟨h.h3,h.h4,h.h5,h.h6,h.h7,h.hb,h.n,h.len,h.lt⟩
theorem Mx.set {W:World} {g3 g4 g5 g6 g7 b:Nat} {T:TypeId} {a c2 d c:Nat} {v:List Int} (h:Mx W g3 g4 g5 g6 g7 b T a c2 d c v) (k:Nat) (x:Int):Mx (W.setCell ⟨b,k,none⟩ (.int .u32 x)) g3 g4 g5 g6 g7 b T a c2 d c (v.set k x):=by
 have hB:But b W (W.setCell ⟨b,k,none⟩ (.int .u32 x)):=(But.refl b W).setCell k _
 exact ⟨hB.cell h.h3 h.n.1,hB.cell h.h4 h.n.2.1,hB.cell h.h5 h.n.2.2.1,hB.cell h.h6 h.n.2.2.2.1,hB.cell h.h7 h.n.2.2.2.2,set_blk h.hb k x,h.n,by simpa using h.len,h.lt⟩
def half1 (v:List Int) (a b:Nat) (n:Int):List Int:=v.set a ((gi v a + (gi v b + n) % 4294967296) % 4294967296)
def half2 (v:List Int) (a d:Nat) (t:Nat):List Int:=v.set d (rotr (Go.bits .xor .u32 (gi v d) (gi v a)) t)
def half3 (v:List Int) (c d:Nat):List Int:=v.set c ((gi v c + gi v d) % 4294967296)
def halfF (v:List Int) (a b c d:Nat) (n:Int) (td tb:Nat):List Int:=half2 (half3 (half2 (half1 v a b n) a d td) c d) c b tb
set_option maxHeartbeats 1000000 in
set_option maxRecDepth 100000 in
theorem half_16 (w:World) (g3 g4 g5 g6 g7 b:Nat) (T:TypeId) (a c2 d c:Nat) (v:List Int) (x:Int) (h:Mx w g3 g4 g5 g6 g7 b T a c2 d c v) :
  Calls Try.prog 133 #[.int .u32 x,.int .i64 16,.int .i64 12,.pointer (some ⟨g3,0,none⟩),.pointer (some ⟨g4,0,none⟩),.pointer (some ⟨g5,0,none⟩),.pointer (some ⟨g6,0,none⟩),.pointer (some ⟨g7,0,none⟩)] w fun e w'=>
   e=.returned (.tuple #[])∧Mx w' g3 g4 g5 g6 g7 b T a c2 d c (halfF v a c2 c d x 16 12)∧But b w w':=by
 have la:=h.lt.1;have lb:=h.lt.2.1;have ld:=h.lt.2.2.1;have lc:=h.lt.2.2.2
 have ia:(a:Int)<16:=by omega
 have ib:(c2:Int)<16:=by omega
 have id_:(d:Int)<16:=by omega
 have ic:(c:Int)<16:=by omega
 have HM0:=Aside0.mk h
 have HB0:=Aside0.mk (But.refl b w)
 clear h
 go_enter Try.func133,Try.ntmps133
 have h3:=HM0.out.h3;have h4:=HM0.out.h4;have h5:=HM0.out.h5;have h6:=HM0.out.h6;have h7:=HM0.out.h7
 have c_a:=cell_blk HM0.out.hb a (by rw [HM0.out.len];assumption)
 have c_c2:=cell_blk HM0.out.hb c2 (by rw [HM0.out.len];assumption)
 go_wp2_with fail
 refine wp_region_still_tail 14 (by kernel_rfl) (by kernel_rfl) ?_
 simp only [List.take_succ_cons,List.take_zero,List.drop_succ_cons,List.drop_zero]
 repeat still_step
 refine wpStill_nil ?_
 change wpList _ _ _ _ _ w.drew
 have HM1:=Aside0.mk HM0.out.drew
 have HB1:=Aside0.mk HB0.out.drew
 generalize w.drew=w1 at HM1 HB1 ⊢
 clear h3 h4 h5 h6 h7 c_a c_c2 HM0 HB0
 have h3:=HM1.out.h3;have h4:=HM1.out.h4;have h5:=HM1.out.h5;have h6:=HM1.out.h6;have h7:=HM1.out.h7
 have fa:=frozen_blk HM1.out.hb a
 have c_a:=cell_blk HM1.out.hb a (by rw [HM1.out.len];assumption)
 go_wp2_with fail
 have HM2:Aside0 (Mx (w1.setCell ⟨b,a,none⟩ (.int .u32 ((gi v a + (gi v c2 + x) % 4294967296) % 4294967296))) g3 g4 g5 g6 g7 b T a c2 d c (half1 v a c2 x)):=Aside0.mk (HM1.out.set a _)
 have HB2:=Aside0.mk (HB1.out.setCell a (.int .u32 ((gi v a + (gi v c2 + x) % 4294967296) % 4294967296)))
 obtain ⟨v1,hv1⟩:∃ z,z=half1 v a c2 x:=⟨_,rfl⟩
 rw [← hv1] at HM2
 replace hv1:=Aside0.mk hv1
 clear h3 h4 h5 h6 h7 fa c_a
 change Code.wp _ _ _ _ (World.setCell _ _ _)
 generalize w1.setCell ⟨b,a,none⟩ (.int .u32 ((gi v a + (gi v c2 + x) % 4294967296) % 4294967296))=w2 at HM2 HB2 ⊢
 clear HM1 HB1
 have h3:=HM2.out.h3;have h4:=HM2.out.h4;have h5:=HM2.out.h5;have h6:=HM2.out.h6;have h7:=HM2.out.h7
 have c_d:=cell_blk HM2.out.hb d (by rw [HM2.out.len];assumption)
 have c_a:=cell_blk HM2.out.hb a (by rw [HM2.out.len];assumption)
 refine wp_region_still_tail 17 (by kernel_rfl) (by kernel_rfl) ?_
 simp only [List.take_succ_cons,List.take_zero,List.drop_succ_cons,List.drop_zero]
 repeat still_step
 still_call (rot16 _ _)
 repeat still_step
 refine wpStill_nil ?_
 change wpList _ _ _ _ _ w2.drew
 have HM3:=Aside0.mk HM2.out.drew
 have HB3:=Aside0.mk HB2.out.drew
 generalize w2.drew=w3 at HM3 HB3 ⊢
 clear h3 h4 h5 h6 h7 c_d c_a HM2 HB2
 have h3:=HM3.out.h3;have h4:=HM3.out.h4;have h5:=HM3.out.h5;have h6:=HM3.out.h6;have h7:=HM3.out.h7
 have fa:=frozen_blk HM3.out.hb d
 have c_d:=cell_blk HM3.out.hb d (by rw [HM3.out.len];assumption)
 go_wp2_with fail
 have HM4:Aside0 (Mx (w3.setCell ⟨b,d,none⟩ (.int .u32 (rotr (Go.bits .xor .u32 (gi v1 d) (gi v1 a)) 16))) g3 g4 g5 g6 g7 b T a c2 d c (half2 v1 a d 16)):=Aside0.mk (HM3.out.set d _)
 have HB4:=Aside0.mk (HB3.out.setCell d (.int .u32 (rotr (Go.bits .xor .u32 (gi v1 d) (gi v1 a)) 16)))
 obtain ⟨v2,hv2⟩:∃ z,z=half2 v1 a d 16:=⟨_,rfl⟩
 rw [← hv2] at HM4
 replace hv2:=Aside0.mk hv2
 clear h3 h4 h5 h6 h7 fa c_d
 change Code.wp _ _ _ _ (World.setCell _ _ _)
 generalize w3.setCell ⟨b,d,none⟩ (.int .u32 (rotr (Go.bits .xor .u32 (gi v1 d) (gi v1 a)) 16))=w4 at HM4 HB4 ⊢
 clear HM3 HB3
 have h3:=HM4.out.h3;have h4:=HM4.out.h4;have h5:=HM4.out.h5;have h6:=HM4.out.h6;have h7:=HM4.out.h7
 have c_c:=cell_blk HM4.out.hb c (by rw [HM4.out.len];assumption)
 have c_d:=cell_blk HM4.out.hb d (by rw [HM4.out.len];assumption)
 refine wp_region_still_tail 12 (by kernel_rfl) (by kernel_rfl) ?_
 simp only [List.take_succ_cons,List.take_zero,List.drop_succ_cons,List.drop_zero]
 repeat still_step
 refine wpStill_nil ?_
 change wpList _ _ _ _ _ w4.drew
 have HM5:=Aside0.mk HM4.out.drew
 have HB5:=Aside0.mk HB4.out.drew
 generalize w4.drew=w5 at HM5 HB5 ⊢
 clear h3 h4 h5 h6 h7 c_c c_d HM4 HB4
 have h3:=HM5.out.h3;have h4:=HM5.out.h4;have h5:=HM5.out.h5;have h6:=HM5.out.h6;have h7:=HM5.out.h7
 have fa:=frozen_blk HM5.out.hb c
 have c_c:=cell_blk HM5.out.hb c (by rw [HM5.out.len];assumption)
 go_wp2_with fail
 have HM6:Aside0 (Mx (w5.setCell ⟨b,c,none⟩ (.int .u32 ((gi v2 c + gi v2 d) % 4294967296))) g3 g4 g5 g6 g7 b T a c2 d c (half3 v2 c d)):=Aside0.mk (HM5.out.set c _)
 have HB6:=Aside0.mk (HB5.out.setCell c (.int .u32 ((gi v2 c + gi v2 d) % 4294967296)))
 obtain ⟨v3,hv3⟩:∃ z,z=half3 v2 c d:=⟨_,rfl⟩
 rw [← hv3] at HM6
 replace hv3:=Aside0.mk hv3
 clear h3 h4 h5 h6 h7 fa c_c
 change Code.wp _ _ _ _ (World.setCell _ _ _)
 generalize w5.setCell ⟨b,c,none⟩ (.int .u32 ((gi v2 c + gi v2 d) % 4294967296))=w6 at HM6 HB6 ⊢
 clear HM5 HB5
 have h3:=HM6.out.h3;have h4:=HM6.out.h4;have h5:=HM6.out.h5;have h6:=HM6.out.h6;have h7:=HM6.out.h7
 have c_c2:=cell_blk HM6.out.hb c2 (by rw [HM6.out.len];assumption)
 have c_c:=cell_blk HM6.out.hb c (by rw [HM6.out.len];assumption)
 refine wp_region_still_tail 17 (by kernel_rfl) (by kernel_rfl) ?_
 simp only [List.take_succ_cons,List.take_zero,List.drop_succ_cons,List.drop_zero]
 repeat still_step
 still_call (rot12 _ _)
 repeat still_step
 refine wpStill_nil ?_
 change wpList _ _ _ _ _ w6.drew
 have HM7:=Aside0.mk HM6.out.drew
 have HB7:=Aside0.mk HB6.out.drew
 generalize w6.drew=w7 at HM7 HB7 ⊢
 clear h3 h4 h5 h6 h7 c_c2 c_c HM6 HB6
 have h3:=HM7.out.h3;have h4:=HM7.out.h4;have h5:=HM7.out.h5;have h6:=HM7.out.h6;have h7:=HM7.out.h7
 have fa:=frozen_blk HM7.out.hb c2
 have c_c2:=cell_blk HM7.out.hb c2 (by rw [HM7.out.len];assumption)
 go_wp2_with fail
 go_end0
 have e1:=hv1.out;have e2:=hv2.out;have e3:=hv3.out
 subst e1 e2 e3
 exact ⟨rfl,HM7.out.set c2 _,HB7.out.setCell c2 _⟩
set_option maxHeartbeats 1000000 in
set_option maxRecDepth 100000 in
theorem half_8 (w:World) (g3 g4 g5 g6 g7 b:Nat) (T:TypeId) (a c2 d c:Nat) (v:List Int) (x:Int) (h:Mx w g3 g4 g5 g6 g7 b T a c2 d c v) :
  Calls Try.prog 133 #[.int .u32 x,.int .i64 8,.int .i64 7,.pointer (some ⟨g3,0,none⟩),.pointer (some ⟨g4,0,none⟩),.pointer (some ⟨g5,0,none⟩),.pointer (some ⟨g6,0,none⟩),.pointer (some ⟨g7,0,none⟩)] w fun e w'=>
   e=.returned (.tuple #[])∧Mx w' g3 g4 g5 g6 g7 b T a c2 d c (halfF v a c2 c d x 8 7)∧But b w w':=by
 have la:=h.lt.1;have lb:=h.lt.2.1;have ld:=h.lt.2.2.1;have lc:=h.lt.2.2.2
 have ia:(a:Int)<16:=by omega
 have ib:(c2:Int)<16:=by omega
 have id_:(d:Int)<16:=by omega
 have ic:(c:Int)<16:=by omega
 have HM0:=Aside0.mk h
 have HB0:=Aside0.mk (But.refl b w)
 clear h
 go_enter Try.func133,Try.ntmps133
 have h3:=HM0.out.h3;have h4:=HM0.out.h4;have h5:=HM0.out.h5;have h6:=HM0.out.h6;have h7:=HM0.out.h7
 have c_a:=cell_blk HM0.out.hb a (by rw [HM0.out.len];assumption)
 have c_c2:=cell_blk HM0.out.hb c2 (by rw [HM0.out.len];assumption)
 go_wp2_with fail
 refine wp_region_still_tail 14 (by kernel_rfl) (by kernel_rfl) ?_
 simp only [List.take_succ_cons,List.take_zero,List.drop_succ_cons,List.drop_zero]
 repeat still_step
 refine wpStill_nil ?_
 change wpList _ _ _ _ _ w.drew
 have HM1:=Aside0.mk HM0.out.drew
 have HB1:=Aside0.mk HB0.out.drew
 generalize w.drew=w1 at HM1 HB1 ⊢
 clear h3 h4 h5 h6 h7 c_a c_c2 HM0 HB0
 have h3:=HM1.out.h3;have h4:=HM1.out.h4;have h5:=HM1.out.h5;have h6:=HM1.out.h6;have h7:=HM1.out.h7
 have fa:=frozen_blk HM1.out.hb a
 have c_a:=cell_blk HM1.out.hb a (by rw [HM1.out.len];assumption)
 go_wp2_with fail
 have HM2:Aside0 (Mx (w1.setCell ⟨b,a,none⟩ (.int .u32 ((gi v a + (gi v c2 + x) % 4294967296) % 4294967296))) g3 g4 g5 g6 g7 b T a c2 d c (half1 v a c2 x)):=Aside0.mk (HM1.out.set a _)
 have HB2:=Aside0.mk (HB1.out.setCell a (.int .u32 ((gi v a + (gi v c2 + x) % 4294967296) % 4294967296)))
 obtain ⟨v1,hv1⟩:∃ z,z=half1 v a c2 x:=⟨_,rfl⟩
 rw [← hv1] at HM2
 replace hv1:=Aside0.mk hv1
 clear h3 h4 h5 h6 h7 fa c_a
 change Code.wp _ _ _ _ (World.setCell _ _ _)
 generalize w1.setCell ⟨b,a,none⟩ (.int .u32 ((gi v a + (gi v c2 + x) % 4294967296) % 4294967296))=w2 at HM2 HB2 ⊢
 clear HM1 HB1
 have h3:=HM2.out.h3;have h4:=HM2.out.h4;have h5:=HM2.out.h5;have h6:=HM2.out.h6;have h7:=HM2.out.h7
 have c_d:=cell_blk HM2.out.hb d (by rw [HM2.out.len];assumption)
 have c_a:=cell_blk HM2.out.hb a (by rw [HM2.out.len];assumption)
 refine wp_region_still_tail 17 (by kernel_rfl) (by kernel_rfl) ?_
 simp only [List.take_succ_cons,List.take_zero,List.drop_succ_cons,List.drop_zero]
 repeat still_step
 still_call (rot8 _ _)
 repeat still_step
 refine wpStill_nil ?_
 change wpList _ _ _ _ _ w2.drew
 have HM3:=Aside0.mk HM2.out.drew
 have HB3:=Aside0.mk HB2.out.drew
 generalize w2.drew=w3 at HM3 HB3 ⊢
 clear h3 h4 h5 h6 h7 c_d c_a HM2 HB2
 have h3:=HM3.out.h3;have h4:=HM3.out.h4;have h5:=HM3.out.h5;have h6:=HM3.out.h6;have h7:=HM3.out.h7
 have fa:=frozen_blk HM3.out.hb d
 have c_d:=cell_blk HM3.out.hb d (by rw [HM3.out.len];assumption)
 go_wp2_with fail
 have HM4:Aside0 (Mx (w3.setCell ⟨b,d,none⟩ (.int .u32 (rotr (Go.bits .xor .u32 (gi v1 d) (gi v1 a)) 8))) g3 g4 g5 g6 g7 b T a c2 d c (half2 v1 a d 8)):=Aside0.mk (HM3.out.set d _)
 have HB4:=Aside0.mk (HB3.out.setCell d (.int .u32 (rotr (Go.bits .xor .u32 (gi v1 d) (gi v1 a)) 8)))
 obtain ⟨v2,hv2⟩:∃ z,z=half2 v1 a d 8:=⟨_,rfl⟩
 rw [← hv2] at HM4
 replace hv2:=Aside0.mk hv2
 clear h3 h4 h5 h6 h7 fa c_d
 change Code.wp _ _ _ _ (World.setCell _ _ _)
 generalize w3.setCell ⟨b,d,none⟩ (.int .u32 (rotr (Go.bits .xor .u32 (gi v1 d) (gi v1 a)) 8))=w4 at HM4 HB4 ⊢
 clear HM3 HB3
 have h3:=HM4.out.h3;have h4:=HM4.out.h4;have h5:=HM4.out.h5;have h6:=HM4.out.h6;have h7:=HM4.out.h7
 have c_c:=cell_blk HM4.out.hb c (by rw [HM4.out.len];assumption)
 have c_d:=cell_blk HM4.out.hb d (by rw [HM4.out.len];assumption)
 refine wp_region_still_tail 12 (by kernel_rfl) (by kernel_rfl) ?_
 simp only [List.take_succ_cons,List.take_zero,List.drop_succ_cons,List.drop_zero]
 repeat still_step
 refine wpStill_nil ?_
 change wpList _ _ _ _ _ w4.drew
 have HM5:=Aside0.mk HM4.out.drew
 have HB5:=Aside0.mk HB4.out.drew
 generalize w4.drew=w5 at HM5 HB5 ⊢
 clear h3 h4 h5 h6 h7 c_c c_d HM4 HB4
 have h3:=HM5.out.h3;have h4:=HM5.out.h4;have h5:=HM5.out.h5;have h6:=HM5.out.h6;have h7:=HM5.out.h7
 have fa:=frozen_blk HM5.out.hb c
 have c_c:=cell_blk HM5.out.hb c (by rw [HM5.out.len];assumption)
 go_wp2_with fail
 have HM6:Aside0 (Mx (w5.setCell ⟨b,c,none⟩ (.int .u32 ((gi v2 c + gi v2 d) % 4294967296))) g3 g4 g5 g6 g7 b T a c2 d c (half3 v2 c d)):=Aside0.mk (HM5.out.set c _)
 have HB6:=Aside0.mk (HB5.out.setCell c (.int .u32 ((gi v2 c + gi v2 d) % 4294967296)))
 obtain ⟨v3,hv3⟩:∃ z,z=half3 v2 c d:=⟨_,rfl⟩
 rw [← hv3] at HM6
 replace hv3:=Aside0.mk hv3
 clear h3 h4 h5 h6 h7 fa c_c
 change Code.wp _ _ _ _ (World.setCell _ _ _)
 generalize w5.setCell ⟨b,c,none⟩ (.int .u32 ((gi v2 c + gi v2 d) % 4294967296))=w6 at HM6 HB6 ⊢
 clear HM5 HB5
 have h3:=HM6.out.h3;have h4:=HM6.out.h4;have h5:=HM6.out.h5;have h6:=HM6.out.h6;have h7:=HM6.out.h7
 have c_c2:=cell_blk HM6.out.hb c2 (by rw [HM6.out.len];assumption)
 have c_c:=cell_blk HM6.out.hb c (by rw [HM6.out.len];assumption)
 refine wp_region_still_tail 17 (by kernel_rfl) (by kernel_rfl) ?_
 simp only [List.take_succ_cons,List.take_zero,List.drop_succ_cons,List.drop_zero]
 repeat still_step
 still_call (rot7 _ _)
 repeat still_step
 refine wpStill_nil ?_
 change wpList _ _ _ _ _ w6.drew
 have HM7:=Aside0.mk HM6.out.drew
 have HB7:=Aside0.mk HB6.out.drew
 generalize w6.drew=w7 at HM7 HB7 ⊢
 clear h3 h4 h5 h6 h7 c_c2 c_c HM6 HB6
 have h3:=HM7.out.h3;have h4:=HM7.out.h4;have h5:=HM7.out.h5;have h6:=HM7.out.h6;have h7:=HM7.out.h7
 have fa:=frozen_blk HM7.out.hb c2
 have c_c2:=cell_blk HM7.out.hb c2 (by rw [HM7.out.len];assumption)
 go_wp2_with fail
 go_end0
 have e1:=hv1.out;have e2:=hv2.out;have e3:=hv3.out
 subst e1 e2 e3
 exact ⟨rfl,HM7.out.set c2 _,HB7.out.setCell c2 _⟩
theorem cAl {W:World} {a:Addr} {v:Value} (o:Obj) (h:W.cell? a=some v):(W.alloc o).cell? a=some v:=pw_cell_below (below_alloc (Below.refl _ _) o) h
theorem sz1 {W:World} {n:Nat} (h:W.heap.size=n) (o:Obj):(W.alloc o).heap.size=n + 1:=by rw [← h];exact Array.size_push _
theorem cN {W:World} {n:Nat} (h:W.heap.size=n) (v:Value) (T:TypeId):(W.alloc (.cells #[v] T (0,0))).cell? ⟨n,0,none⟩=some v:=by
 subst h
 have:(W.alloc (.cells #[v] T (0,0))).heap[W.heap.size]?=some (.cells #[v] T (0,0)):=Array.getElem?_push_size
 simp only [World.cell?,this]
 rfl
def mixF (v:List Int) (a b c d:Nat) (x y:Int):List Int:=halfF (halfF v a b c d x 16 12) a b c d y 8 7
set_option maxHeartbeats 1000000 in
set_option maxRecDepth 100000 in
theorem hash_mix.walk (w:World) (b:Nat) (T:TypeId) (a c2 c d:Nat) (v:List Int) (x y:Int) (hb:w.heap[b]?=some (blk v T)) (hl:v.length=16) (la:a<16) (lb:c2<16) (lc:c<16) (ld:d<16) :
  Calls Try.prog 125 #[.pointer (some ⟨b,0,none⟩),.int .i64 a,.int .i64 c2,.int .i64 c,.int .i64 d,.int .u32 x,.int .u32 y] w fun e w'=>
   e=.returned (.tuple #[])∧w'.heap[b]?=some (blk (mixF v a c2 c d x y) T)∧But b w w':=by
 go_enter Try.func125,Try.ntmps125
 go_wp2_with fail
 have hlt:=blk_lt hb
 generalize hw5:((((w.alloc (.cells #[.pointer (some ⟨b,0,none⟩)] 142 (0,0))).alloc (.cells #[.int .i64 a] 3 (0,0))).alloc (.cells #[.int .i64 c2] 3 (0,0))).alloc (.cells #[.int .i64 c] 3 (0,0))).alloc (.cells #[.int .i64 d] 3 (0,0))=w5
 have HM:Mx w5 w.heap.size (w.heap.size + 1) (w.heap.size + 1 + 1) (w.heap.size + 1 + 1 + 1 + 1) (w.heap.size + 1 + 1 + 1) b T a c2 d c v:=by
  subst hw5
  refine ⟨?_, ?_, ?_, ?_, ?_, ?_,⟨by omega,by omega,by omega,by omega,by omega⟩,hl,⟨la,lb,ld,lc⟩⟩
  ·exact cAl _ (cAl _ (cAl _ (cAl _ (cN rfl _ _))))
  ·exact cAl _ (cAl _ (cAl _ (cN (sz1 rfl _) _ _)))
  ·exact cAl _ (cAl _ (cN (sz1 (sz1 rfl _) _) _ _))
  ·exact cN (sz1 (sz1 (sz1 (sz1 rfl _) _) _) _) _ _
  ·exact cAl _ (cN (sz1 (sz1 (sz1 rfl _) _) _) _ _)
  ·exact blk_alloc (blk_alloc (blk_alloc (blk_alloc (blk_alloc hb _) _) _) _) _
 have HB:But b w w5:=by
  subst hw5
  exact But.of_below (below_alloc (below_alloc (below_alloc (below_alloc (below_alloc (Below.refl _ _) _) _) _) _) _)
 clear hw5
 go_at_call 133
 refine (half_16 w5 _ _ _ _ _ b T a c2 d c v x HM).mono ?_
 rintro e w6 ⟨rfl,HM6,HB6⟩
 go_wp2_with (go_at_call 133;refine (half_8 w6 _ _ _ _ _ b T a c2 d c _ y HM6).mono ?_;rintro e w7 ⟨rfl,HM7,HB7⟩)
 go_end0
 exact ⟨rfl,HM7.hb,(HB.trans HB6).trans HB7⟩
end Go.Proofs.Ytjfmnkmgnbbfgaa.A
