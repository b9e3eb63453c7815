/- Layer 2: the digest of blocks (hash.digest), as the walk makes it. -/
import Derived.Test.YtjfmnkmgnbbfgaaH2
set_option linter.unusedVariables false
set_option linter.unusedSimpArgs false
namespace Go.Proofs.Ytjfmnkmgnbbfgaa.A
open Go.RowKit Go.Proofs.YtjfmnkmgnbbfgaaW.PrintWords Go.Proofs.YtjfmnkmgnbbfgaaW.PrintLast Go.Proofs.YtjfmnkmgnbbfgaaW.PrintMore
def u8s (v:List Int):Array Value:=(v.map (Value.int .u8)).toArray
def blk8 (v:List Int) (T:TypeId):Obj:=.cells (u8s v) T (0,0)
theorem cell_blk8 {W:World} {b:Nat} {v:List Int} {T:TypeId} (h:W.heap[b]?=some (blk8 v T)) (k:Nat) (hk:k<v.length):W.cell? ⟨b,k,none⟩=some (.int .u8 (gi v k)):=by
 unfold blk8 at h
 simp [World.cell?,h,u8s,gi,List.getD_eq_getElem?_getD,List.getElem?_eq_getElem hk]
theorem frozen_blk8 {W:World} {b:Nat} {v:List Int} {T:TypeId} (h:W.heap[b]?=some (blk8 v T)) (k:Nat):W.frozen? ⟨b,k,none⟩=false:=by
 unfold blk8 at h
 simp [World.frozen?,h]
theorem set_blk8 {W:World} {b:Nat} {v:List Int} {T:TypeId} (h:W.heap[b]?=some (blk8 v T)) (k:Nat) (x:Int):(W.setCell ⟨b,k,none⟩ (.int .u8 x)).heap[b]?=some (blk8 (v.set k x) T):=by
 simp only [blk8,u8s] at h ⊢
 simp only [World.setCell,Array.getElem?_modify,h,if_true,Option.map_some]
 simp [List.map_set]
theorem run_storeCells_w {W:World} {g:Nat} {v v':List Int} {T:TypeId} (h:W.heap[g]?=some (blk v T)) (hl:v'.length=v.length) :
  (storeCells ⟨g,0,none⟩ (u32s v').toList).run Try.prog W=.ok () (W.setRow g (u32s v')):=by
 have:=run_storeCells_at Try.prog g 0 T (u32s v').toList 0 (u32s v) W h (by simp [u32s,hl]) (u32s_one v')
 rw [this]
 have e:(List.take (0 + 0) (u32s v).toList ++ (u32s v').toList ++ List.drop (0 + 0 + (u32s v').toList.length) (u32s v).toList).toArray=u32s v':=by
  simp [u32s,hl]
 rw [e]
theorem loadAt8 {W:World} {g:Nat} {v:List Int} (h:W.heap[g]?=some (blk8 v 57)) (hl:v.length=32):(Instr.loadAt 57 (.pointer (some ⟨g,0,none⟩))).run Try.prog W=.ok (.agg (u8s v)) W:=by
 simp only [Instr.loadAt,Instr.sureAddr,Sem.run_bind,Sem.run_pure,Result.andThen]
 exact run_loadVar_row _ g 57 57 (u8s v) (0,0) _ h Try.underlying57 rfl (by rw [show (u8s v).size=32 from by simp [u8s,hl]];kernel_rfl)
theorem u8s_one (v:List Int):(u8s v).all (·.oneCell')=true:=by
 rw [Array.all_eq_true_iff_forall_mem]
 intro x hx
 simp only [u8s,List.mem_toArray,List.mem_map] at hx
 obtain ⟨y,_,rfl⟩:=hx
 rfl
theorem storeAt8 {W:World} {g:Nat} {v v':List Int} (h:W.heap[g]?=some (blk8 v 57)) (hl:v.length=32) (hl':v'.length=32):(Instr.storeAt 57 (.pointer (some ⟨g,0,none⟩)) (.agg (u8s v'))).run Try.prog W=.ok () (W.setRow g (u8s v')):=by
 simp only [Instr.storeAt,Instr.sureAddr,Sem.run_bind,Sem.run_pure,Result.andThen]
 exact run_storeVar_row _ g 57 57 (u8s v) (u8s v') h (by rw [show (u8s v').size=32 from by simp [u8s,hl']];kernel_rfl) (by simp [u8s,hl,hl']) (u8s_one v')
def nulB (n:Nat):ByteArray:=repB ⟨#[0]⟩ n
def hN (h:List Int) (s:ByteArray):Nat→List Int
 | 0=>h
 | t + 1=>takeF (hN h s t) (s.extract (64 * t) (64 * t + 64)) (64 * (t + 1):Nat) false
def lastN (s:ByteArray):Nat:=(s.size - 1) / 64
def finF (h:List Int) (s:ByteArray):List Int:=takeF (hN h s (lastN s)) (s.extract (64 * lastN s) s.size ++ nulB (64 - (s.size - 64 * lastN s))) (s.size:Nat) true
def outV (H:List Int) (i:Nat):Int:=gi H (i / 4) / 2 ^ (8 * (i % 4)) % 256
def digF (h:List Int) (s:ByteArray):List Int:=fillB 32 (zeros 32) (outV (finF h s)) 32
theorem take_len (h:List Int) (s:ByteArray) (c:Int) (l:Bool):(takeF h s c l).length=8:=fillB_length _ _ _ _
structure D1 (w W:World) (gh gr:Nat) (h:List Int):Prop where
 B:Below w.heap.size w W
 bh:W.heap[gh]?=some (blk h 99)
 br:W.heap[gr]?=some (blk8 (zeros 32) 57)
 le:w.heap.size≤gh
 lr:w.heap.size≤gr
 n:gh≠gr
 lh:h.length=8
theorem D1.below {w W W':World} {gh gr:Nat} {h:List Int} (t:D1 w W gh gr h) (hb:Below W.heap.size W W'):D1 w W' gh gr h:=
 ⟨below_then t.B t.B.size hb,blk_below t.bh hb,blk_below t.br hb,t.le,t.lr,t.n,t.lh⟩
theorem D1.drew {w W:World} {gh gr:Nat} {h:List Int} (t:D1 w W gh gr h):D1 w W.drew gh gr h:=t.below (below_drew (Below.refl _ _))
theorem D1.setRow {w W:World} {gh gr:Nat} {h:List Int} (t:D1 w W gh gr h) (h':List Int) (hl:h'.length=8):D1 w (W.setRow gh (u32s h')) gh gr h':=
 ⟨t.B.trans ((But.setRow W (u32s h')).below (B:=w.heap.size) t.le t.B.size),setRow_heap W gh _ _ _ _ t.bh,(setRow_other W gh gr _ t.n.symm).trans t.br,t.le,t.lr,t.n,hl⟩
theorem idx_row {T e:TypeId} {n:Nat} (hu:Try.prog.underlying T=some (.array n e)) (hi:(Try.prog.info? e).map (·.size)=some 1) (ha:∀ W,(Go.isAgg e).run Try.prog W=.ok false W) (cs:Array Value) (q:Nat) (hq:q<n) (hc:cs.size=n) (x:Value) (hx:cs[q]?=some x) (W:World) :
  (Instr.index T (.agg cs) (.int .i64 (q:Int))).run Try.prog W=.ok x W:=by
 cases hq':Try.prog.info? e with
 | none=>simp [hq'] at hi
 | some i=>
  have hs:i.size=1:=by simpa [hq'] using hi
  simp [Instr.index,asIntOf,run_underlying hu,sizeOf,typeInfo,hq',hs,part,ha,hq]
  rw [hx]
  rfl
theorem idx99 (v:List Int) (hl:v.length=8) (q:Nat) (hq:q<8) (W:World):(Instr.index 99 (.agg (u32s v)) (.int .i64 (q:Int))).run Try.prog W=.ok (.int .u32 (gi v q)) W:=
 idx_row Try.underlying99 (by kernel_rfl) (fun W=>by go_simp) _ q hq (by simp [u32s,hl]) _ (by simp [u32s,gi,List.getD_eq_getElem?_getD,List.getElem?_eq_getElem (show q<v.length by omega)]) W
theorem wpList_loadRow {P:Program} {ops:Array Oper} {Q:Exit→Act→World→Prop} {o:Oper} {rest:List Oper} {a:Act} {W:World} {T:TypeId} {p:Operand} {A:Value} {g:Addr}
  (ho:o.op=.load T p) (hg:o.guard=none) (hp:a.eval p=.pointer (some g)) (hr:(Instr.loadAt T (.pointer (some g))).run P W=.ok A W) (h:wpList P ops Q rest (a.put o.dst A) W):wpList P ops Q (o :: rest) a W:=by
 refine wpList_step fun K hK=>event_step (v:=A) (w1:=W) (by simp [Region.wanted,hg]) ?_ (hK _ _ h)
 unfold execOp
 simp only [ho,hp,Sem.run_bind,hr,Result.andThen_ok]
 rfl
theorem wpList_storeRow {P:Program} {ops:Array Oper} {Q:Exit→Act→World→Prop} {o:Oper} {rest:List Oper} {a:Act} {W W':World} {T:TypeId} {p x:Operand} {A:Value} {g:Addr}
  (ho:o.op=.store T p x) (hg:o.guard=none) (hd:o.dst=none) (hp:a.eval p=.pointer (some g)) (hx:a.eval x=A) (hr:(Instr.storeAt T (.pointer (some g)) A).run P W=.ok () W') (h:wpList P ops Q rest a W'):wpList P ops Q (o :: rest) a W:=by
 refine wpList_step fun K hK=>?_
 rw [if_pos (by simp [Region.wanted,hg])]
 have e:(execOp a.eval o).run P W=.ok .skip W':=by
  unfold execOp
  simp only [ho,hp,hx,Sem.run_bind,hr,Result.andThen_ok]
  rfl
 unfold Oper.wp
 rw [e]
 have h2:=hK _ _ h
 simpa [Oper.upon,hd,Act.put] using h2
structure D2 (w W:World) (gh gr gd:Nat) (h d:List Int):Prop where
 t:D1 w W gh gr h
 bd:W.heap[gd]?=some (blk8 d 57)
 n1:gd≠gh
 n2:gd≠gr
 ld:w.heap.size≤gd
 l32:d.length=32
theorem D2.set {w W:World} {gh gr gd:Nat} {h d:List Int} (t:D2 w W gh gr gd h d) (k:Nat) (x:Int):D2 w (W.setCell ⟨gd,k,none⟩ (.int .u8 x)) gh gr gd h (d.set k x):=
 ⟨⟨t.t.B.setCell (p:=⟨gd,k,none⟩) t.ld _,other_blk t.t.bh t.n1.symm k _,other_blk t.t.br t.n2.symm k _,t.t.le,t.t.lr,t.t.n,t.t.lh⟩,set_blk8 t.bd k x,t.n1,t.n2,t.ld,by simpa using t.l32⟩
theorem u32s8 (v:List Int) (hl:v.length=8):u32s v=#[.int .u32 (gi v 0),.int .u32 (gi v 1),.int .u32 (gi v 2),.int .u32 (gi v 3),.int .u32 (gi v 4),.int .u32 (gi v 5),.int .u32 (gi v 6),.int .u32 (gi v 7)]:=by
 match v,hl with
 | [_,_,_,_,_,_,_,_],_=>rfl
theorem nulB_size (n:Nat):(nulB n).size=n:=by
 unfold nulB repB
 show (List.toArray (Lib.repeatL [0] n)).size=n
 rw [List.size_toArray]
 induction n with
 | zero=>rfl
 | succ n ih=>simp [Lib.repeatL,ih]
theorem rep_at (z:Int) (n:Nat) (hz:z=n) (hn:n≤64) (w:World):Calls Try.prog 75 #[.string ⟨#[0]⟩,.int .i64 z] w fun e w'=>e=.returned (.string (nulB n))∧Below w.heap.size w w':=by
 subst hz
 refine strings_Repeat.calls _ _ _ w ?_
 unfold strings_Repeat.f
 rw [if_pos ⟨by omega,by omega,by rw [Int.toNat_natCast];show 1 * n≤_;omega⟩,Int.toNat_natCast]
 rfl
theorem take_at (A:Array Value) (h:List Int) (hA:u32s h=A) (hl:h.length=8) (s:ByteArray) (hs:64≤s.size) (z:Int) (cnt:Nat) (hz:z=cnt) (hc:cnt<18446744073709551616) (last:Bool) (w:World) :
  Calls Try.prog 116 #[.agg A,.string s,.int .u64 z,.bool last] w fun e w'=>∃ h2,Aside0 (h2=takeF h s (cnt:Nat) last)∧h2.length=8∧e=.returned (.agg (u32s h2))∧Below w.heap.size w w':=by
 subst hz hA
 refine (hash_take.walk h hl s hs _ (by omega) last w).mono ?_
 rintro e w' ⟨rfl,hb⟩
 exact ⟨_,Aside0.mk rfl,take_len _ _ _ _,rfl,hb⟩
def dig4.T:Bool × List (List Nat × List Nat):=(true,[([],[]),([],[]),([1],[1]),([],[]),([0,2,3],[0,2,3]),([],[]),([5],[5]),([4,4,0,1,2,3,4],[4]),([6,7,0,1,2,3,4,5,6,7],[1,5,6])])
def dig4.B:List Nat:=[0,0,2,0,15,0,32,31,255]
theorem dig4.tab:rtab .any (opsOf Try.f87 4)=dig4.T:=by kernel_rfl
theorem dig4.bits:waitsOk dig4.T.2 dig4.B=true:=by kernel_rfl
def dig6.T:Bool × List (List Nat × List Nat):=(true,[([],[]),([],[]),([],[]),([2],[2]),([3],[3]),([4],[4]),([1,5],[1,5]),([],[]),([0,6,7,5],[0,6,7]),([8,8,0,1,2,3,4,5,6,7,8],[8])])
def dig6.B:List Nat:=[0,0,0,4,12,28,62,0,255,511]
theorem dig6.tab:rtab .any (opsOf Try.f87 6)=dig6.T:=by kernel_rfl
theorem dig6.bits:waitsOk dig6.T.2 dig6.B=true:=by kernel_rfl
set_option maxHeartbeats 2000000 in
set_option maxRecDepth 100000 in
theorem hash_digest.walk (h:List Int) (hl:h.length=8) (s:ByteArray) (hs:s.size≤1000000) (w:World) :
  Calls Try.prog 87 #[.agg (u32s h),.string s] w fun e w'=>e=.returned (.agg (u8s (digF h s)))∧Below w.heap.size w w':=by
 go_enter Try.func87,Try.ntmps87
 go_wp2_with fail
 have HT:D1 w ((w.alloc (blk h 99)).alloc (blk8 (zeros 32) 57)) w.heap.size (w.heap.size + 1) h:=by
  refine ⟨below_alloc (below_alloc (Below.refl _ _) _) _,blk_alloc (heap_alloc_last _ _) _, ?_,Nat.le_refl _,by omega,by omega,hl⟩
  have:=heap_alloc_last (w.alloc (blk h 99)) (blk8 (zeros 32) 57)
  rw [sz1 rfl] at this
  exact this
 replace HT:=Aside0.mk HT
 change Code.wp _ _ _ _ ((w.alloc (blk h 99)).alloc (blk8 (zeros 32) 57))
 generalize (w.alloc (blk h 99)).alloc (blk8 (zeros 32) 57)=W1 at HT ⊢
 generalize w.heap.size + 1=gr at HT ⊢
 obtain ⟨gh,hgh⟩:∃ z,z=w.heap.size:=⟨_,rfl⟩
 rw [← hgh] at HT ⊢
 have HG:=Aside0.mk hgh
 clear hgh
 go_loopw [1,5] (fun vs vc wr=>∃ t:Nat,t≤lastN s∧vs=.string (s.extract (64 * t) s.size)∧vc=.int .u64 (64 * (t:Int))∧Aside0 (D1 w wr gh gr (hN h s t))) (fun vs _ _=>match vs with |.string z=>z.size |_=>0)
 case atStart=>exact ⟨0,by omega,by simp,rfl,HT⟩
 case round=>
  obtain ⟨t,ht,rfl,rfl,HX⟩:=hrel
  clear HT
  have hsz:(s.extract (64 * t) s.size).size=s.size - 64 * t:=by simp
  obtain ⟨st,hst⟩:∃ z,z=s.extract (64 * t) s.size:=⟨_,rfl⟩
  rw [← hst] at hsz ⊢
  have HS:=Aside0.mk hst
  have HZ:=Aside0.mk hsz
  clear hst hsz
  by_cases hlt:64<st.size
  ·have hlt0:64<s.size - 64 * t:=by rw [← HZ.out];exact hlt
   have ht1:t + 1≤lastN s:=by unfold lastN;omega
   have c1:(64:Int)<(st.size:Int):=by omega
   have c2:(64:Int)≤(st.size:Int):=by omega
   have e64:st.extract 0 64=s.extract (64 * t) (64 * t + 64):=by
    rw [HS.out,ByteArray.extract_extract]
    congr 1
    omega
   have e65:st.extract 64 st.size=s.extract (64 * (t + 1)) s.size:=by
    rw [HZ.out,HS.out,ByteArray.extract_extract]
    congr 1 <;> omega
   replace e64:=Aside0.mk e64
   replace e65:=Aside0.mk e65
   have sz64:64≤(s.extract (64 * t) (64 * t + 64)).size:=by rw [ByteArray.size_extract];omega
   obtain ⟨h1,hh1⟩:∃ z,z=hN h s t:=⟨_,rfl⟩
   rw [← hh1] at HX
   have HH:=Aside0.mk hh1
   clear hh1
   have hag:=u32s8 h1 HX.out.lh
   have k0:=cell_blk HX.out.bh 0 (by rw [HX.out.lh];decide)
   have k1:=cell_blk HX.out.bh 1 (by rw [HX.out.lh];decide)
   have k2:=cell_blk HX.out.bh 2 (by rw [HX.out.lh];decide)
   have k3:=cell_blk HX.out.bh 3 (by rw [HX.out.lh];decide)
   have k4:=cell_blk HX.out.bh 4 (by rw [HX.out.lh];decide)
   have k5:=cell_blk HX.out.bh 5 (by rw [HX.out.lh];decide)
   have k6:=cell_blk HX.out.bh 6 (by rw [HX.out.lh];decide)
   have k7:=cell_blk HX.out.bh 7 (by rw [HX.out.lh];decide)
   go_wp2_with fail
   refine start_ (n:=9) (S:=fun w'=>w'.cell? ⟨gh,0,none⟩=some (.int .u32 (gi h1 0))∧w'.cell? ⟨gh,1,none⟩=some (.int .u32 (gi h1 1))∧w'.cell? ⟨gh,2,none⟩=some (.int .u32 (gi h1 2))∧w'.cell? ⟨gh,3,none⟩=some (.int .u32 (gi h1 3))∧w'.cell? ⟨gh,4,none⟩=some (.int .u32 (gi h1 4))∧w'.cell? ⟨gh,5,none⟩=some (.int .u32 (gi h1 5))∧w'.cell? ⟨gh,6,none⟩=some (.int .u32 (gi h1 6))∧w'.cell? ⟨gh,7,none⟩=some (.int .u32 (gi h1 7))) (ds:=[7]) #[false,false,false,false,false,false,false,false,false] (by kernel_rfl) rfl rfl ⟨k0,k1,k2,k3,k4,k5,k6,k7⟩ (fun hHeld=>?_);refine with_tabW dig4.tab dig4.bits (fun HT_ HW_=>?_)
   refine pure_ (i:=1) (N:=(some 16)) (v:=?_) (a':=?_) #[false,true,false,false,false,false,false,false,false] rfl rfl (any_of HT_.out (by kernel_rfl)) (fun _ _ _ h=>h) (Or.inl ⟨by rfl, ?_⟩) ?_ ?_
   rotate_left
   ·intro w'
    go_simp
    with_reducible rfl
   rotate_left
   ·simp only [Act.put,List.setIfInBounds_toArray,List.set_cons_zero,List.set_cons_succ,i64_w,i32_w]
    rfl
   refine pure_ (i:=2) (N:=(some 17)) (v:=?_) (a':=?_) #[false,true,true,false,false,false,false,false,false] rfl rfl (any_of HT_.out (by kernel_rfl)) (fun _ _ _ h=>h) (Or.inl ⟨by rfl, ?_⟩) ?_ ?_
   rotate_left
   ·intro w'
    go_simp
    with_reducible rfl
   rotate_left
   ·simp only [Act.put,List.setIfInBounds_toArray,List.set_cons_zero,List.set_cons_succ,i64_w,i32_w]
    rfl
   refine pure_ (i:=3) (N:=(some 18)) (v:=?_) (a':=?_) #[false,true,true,true,false,false,false,false,false] rfl rfl (any_of HT_.out (by kernel_rfl)) (fun _ _ _ h=>h) (Or.inl ⟨by rfl, ?_⟩) ?_ ?_
   rotate_left
   ·intro w'
    go_simp
    with_reducible rfl
   rotate_left
   ·simp only [Act.put,List.setIfInBounds_toArray,List.set_cons_zero,List.set_cons_succ,i64_w,i32_w]
    rfl
   refine pure_ (i:=5) (N:=(some 20)) (v:=?_) (a':=?_) #[false,true,true,true,false,true,false,false,false] rfl rfl (any_of HT_.out (by kernel_rfl)) (fun _ _ _ h=>h) (Or.inl ⟨by rfl, ?_⟩) ?_ ?_
   rotate_left
   ·intro w'
    go_simp
    with_reducible rfl
   rotate_left
   ·simp only [Act.put,List.setIfInBounds_toArray,List.set_cons_zero,List.set_cons_succ,i64_w,i32_w]
    rfl
   refine pure_ (i:=6) (N:=(some 21)) (v:=?_) (a':=?_) #[false,true,true,true,false,true,true,false,false] rfl rfl (any_of HT_.out (by kernel_rfl)) (fun _ _ _ h=>h) (Or.inl ⟨by rfl, ?_⟩) ?_ ?_
   rotate_left
   ·intro w'
    go_simp
    with_reducible rfl
   rotate_left
   ·simp only [Act.put,List.setIfInBounds_toArray,List.set_cons_zero,List.set_cons_succ,i64_w,i32_w]
    rfl
   refine take_ (i:=0) (N:=(some 15)) (v:=?_) (a':=?_) #[true,true,true,true,false,true,true,false,false] rfl rfl (take_ofW HT_.out HW_.out (by kernel_rfl)) (fun _ _ _ h=>h) (Or.inl ⟨by rfl, ?_⟩) hHeld ?_ ?_
   rotate_left
   ·rintro w' ⟨s0,s1,s2,s3,s4,s5,s6,s7⟩
    go_simp
    with_reducible rfl
   rotate_left
   ·simp only [Act.put,List.setIfInBounds_toArray,List.set_cons_zero,List.set_cons_succ,i64_w,i32_w]
    rfl
   refine one_ (i:=4) (N:=(some 19)) #[true,true,true,true,true,true,true,false,false] rfl rfl (one_of HT_.out (by kernel_rfl)) (by decide) (fun K hK=>?_)
   refine goes_ Try.func116 (by kernel_rfl) rfl #[.agg #[.int .u32 (gi h1 0),.int .u32 (gi h1 1),.int .u32 (gi h1 2),.int .u32 (gi h1 3),.int .u32 (gi h1 4),.int .u32 (gi h1 5),.int .u32 (gi h1 6),.int .u32 (gi h1 7)],.string (st.extract 0 64),.int .u64 (64 * (t:Int) + 64),.bool false] (by rfl) rfl rfl (by (try simp only [List.map_toArray,List.map_cons,List.map_nil]);first |done |rfl) ?_
   refine (take_at _ h1 hag HX.out.lh _ (by rw [e64.out];exact sz64) _ (64 * (t + 1)) (by omega) (by omega) false _).mono ?_
   rintro e w4 ⟨h2,hh2,hl2,rfl,hb4⟩
   have HY:=Aside0.mk (HX.out.drew.below hb4)
   refine ⟨_,rfl, ?_⟩
   refine hK.out _ _ ⟨pw_cell_below hb4 k0,pw_cell_below hb4 k1,pw_cell_below hb4 k2,pw_cell_below hb4 k3,pw_cell_below hb4 k4,pw_cell_below hb4 k5,pw_cell_below hb4 k6,pw_cell_below hb4 k7⟩ (fun hHeld=>?_)
   clear hK K
   refine norm_ (a':=?_) ?_ ?_
   rotate_left
   ·show Act.put _ (some 19) _=_
    simp only [Act.put,List.setIfInBounds_toArray,List.set_cons_zero,List.set_cons_succ,i64_w,i32_w]
    rfl
   rw [e64.out] at hh2
   have hst:=run_storeCells_w (v':=h2) HY.out.bh (by rw [HY.out.lh,hl2])
   have hsz2:(u32s h2).size=8:=by simp [u32s,hl2]
   refine last_ (i:=7) (N:=none) #[true,true,true,true,true,true,true,true,false] rfl rfl (one_of HT_.out (by kernel_rfl)) (by decide) (fun K hK=>?_)
   refine skip_ (w1:=?_) (by rfl) rfl ?_ ?_
   rotate_left
   ·go_simp
    rfl
   refine hK.out _ _ ?_
   clear hK K
   refine pure_ (i:=8) (N:=(some 1)) (v:=?_) (a':=?_) #[true,true,true,true,true,true,true,true,true] rfl rfl (any_of HT_.out (by kernel_rfl)) (fun _ _ _ h=>h) (Or.inl ⟨by rfl, ?_⟩) ?_ ?_
   rotate_left
   ·intro w'
    go_simp
    with_reducible rfl
   rotate_left
   ·simp only [Act.put,List.setIfInBounds_toArray,List.set_cons_zero,List.set_cons_succ,i64_w,i32_w]
    rfl
   refine done_ (done_of HT_.out (by kernel_rfl)) ?_
   have eh2:h2=hN h s (t + 1):=by rw [hh2.out,HH.out];rfl
   have HW:Aside0 (D1 w (w4.setRow gh (u32s h2)) gh gr (hN h s (t + 1))):=Aside0.mk (by
    have:=HY.out.setRow h2 hl2
    rw [← eh2]
    exact this)
   replace eh2:=Aside0.mk eh2
   go_wp2_with fail
   refine ⟨⟨t + 1,ht1,by rw [e65.out],by rw [show ((t + 1:Nat):Int)=(t:Int) + 1 from by omega,Int.mul_add];rfl,HW⟩, ?_⟩
   show (st.extract 64 st.size).size<st.size
   rw [ByteArray.size_extract]
   omega
  ·have htl:t=lastN s:=by
    have hz:=HZ.out
    unfold lastN at ht ⊢
    omega
   have c1:¬ (64:Int)<(st.size:Int):=by omega
   have c2:(st.size:Int)≤64:=by omega
   have c3:(0:Int)≤64 - (st.size:Int):=by omega
   obtain ⟨h1,hh1⟩:∃ z,z=hN h s t:=⟨_,rfl⟩
   rw [← hh1] at HX
   have HH:=Aside0.mk hh1
   have HL:=Aside0.mk htl
   clear hh1 htl
   have hag:=u32s8 h1 HX.out.lh
   have k0:=cell_blk HX.out.bh 0 (by rw [HX.out.lh];decide)
   have k1:=cell_blk HX.out.bh 1 (by rw [HX.out.lh];decide)
   have k2:=cell_blk HX.out.bh 2 (by rw [HX.out.lh];decide)
   have k3:=cell_blk HX.out.bh 3 (by rw [HX.out.lh];decide)
   have k4:=cell_blk HX.out.bh 4 (by rw [HX.out.lh];decide)
   have k5:=cell_blk HX.out.bh 5 (by rw [HX.out.lh];decide)
   have k6:=cell_blk HX.out.bh 6 (by rw [HX.out.lh];decide)
   have k7:=cell_blk HX.out.bh 7 (by rw [HX.out.lh];decide)
   have hz:=HZ.out
   have hl64:64 * t≤s.size:=by have:=HL.out;unfold lastN at this;omega
   have cw:IntKind.u64.wrap (64 * (t:Int) + (st.size:Int))=(s.size:Int):=by rw [IntKind.wrap_u64];omega
   clear hz
   obtain ⟨n,hn⟩:∃ n:Nat,n=64 - st.size:=⟨_,rfl⟩
   replace hn:=Aside0.mk hn
   go_wp2_with fail
   rename_i KK hKK
   replace hKK:=Aside0.mk hKK
   refine start_ (n:=10) (S:=fun w'=>w'.cell? ⟨gh,0,none⟩=some (.int .u32 (gi h1 0))∧w'.cell? ⟨gh,1,none⟩=some (.int .u32 (gi h1 1))∧w'.cell? ⟨gh,2,none⟩=some (.int .u32 (gi h1 2))∧w'.cell? ⟨gh,3,none⟩=some (.int .u32 (gi h1 3))∧w'.cell? ⟨gh,4,none⟩=some (.int .u32 (gi h1 4))∧w'.cell? ⟨gh,5,none⟩=some (.int .u32 (gi h1 5))∧w'.cell? ⟨gh,6,none⟩=some (.int .u32 (gi h1 6))∧w'.cell? ⟨gh,7,none⟩=some (.int .u32 (gi h1 7))) (ds:=[9]) #[false,false,false,false,false,false,false,false,false,false] (by kernel_rfl) rfl rfl ⟨k0,k1,k2,k3,k4,k5,k6,k7⟩ (fun hHeld=>?_);refine with_tabW dig6.tab dig6.bits (fun HT_ HW_=>?_)
   refine pure_ (i:=1) (N:=(some 28)) (v:=?_) (a':=?_) #[false,true,false,false,false,false,false,false,false,false] rfl rfl (any_of HT_.out (by kernel_rfl)) (fun _ _ _ h=>h) (Or.inl ⟨by rfl, ?_⟩) ?_ ?_
   rotate_left
   ·intro w'
    go_simp
    with_reducible rfl
   rotate_left
   ·simp only [Act.put,List.setIfInBounds_toArray,List.set_cons_zero,List.set_cons_succ,i64_w,i32_w]
    rfl
   refine pure_ (i:=2) (N:=(some 29)) (v:=?_) (a':=?_) #[false,true,true,false,false,false,false,false,false,false] rfl rfl (any_of HT_.out (by kernel_rfl)) (fun _ _ _ h=>h) (Or.inl ⟨by rfl, ?_⟩) ?_ ?_
   rotate_left
   ·intro w'
    go_simp
    with_reducible rfl
   rotate_left
   ·simp only [Act.put,List.setIfInBounds_toArray,List.set_cons_zero,List.set_cons_succ,i64_w,i32_w]
    rfl
   refine pure_ (i:=3) (N:=(some 30)) (v:=?_) (a':=?_) #[false,true,true,true,false,false,false,false,false,false] rfl rfl (any_of HT_.out (by kernel_rfl)) (fun _ _ _ h=>h) (Or.inl ⟨by rfl, ?_⟩) ?_ ?_
   rotate_left
   ·intro w'
    go_simp
    with_reducible rfl
   rotate_left
   ·simp only [Act.put,List.setIfInBounds_toArray,List.set_cons_zero,List.set_cons_succ,i64_w,i32_w]
    rfl
   refine pure_ (i:=4) (N:=(some 31)) (v:=?_) (a':=?_) #[false,true,true,true,true,false,false,false,false,false] rfl rfl (any_of HT_.out (by kernel_rfl)) (fun _ _ _ h=>h) (Or.inl ⟨by rfl, ?_⟩) ?_ ?_
   rotate_left
   ·intro w'
    go_simp
    with_reducible rfl
   rotate_left
   ·simp only [Act.put,List.setIfInBounds_toArray,List.set_cons_zero,List.set_cons_succ,i64_w,i32_w]
    rfl
   refine pure_ (i:=7) (N:=(some 34)) (v:=?_) (a':=?_) #[false,true,true,true,true,false,false,true,false,false] rfl rfl (any_of HT_.out (by kernel_rfl)) (fun _ _ _ h=>h) (Or.inl ⟨by rfl, ?_⟩) ?_ ?_
   rotate_left
   ·intro w'
    go_simp
    with_reducible rfl
   rotate_left
   ·simp only [Act.put,List.setIfInBounds_toArray,List.set_cons_zero,List.set_cons_succ,i64_w,i32_w]
    rfl
   refine take_ (i:=0) (N:=(some 27)) (v:=?_) (a':=?_) #[true,true,true,true,true,false,false,true,false,false] rfl rfl (take_ofW HT_.out HW_.out (by kernel_rfl)) (fun _ _ _ h=>h) (Or.inl ⟨by rfl, ?_⟩) hHeld ?_ ?_
   rotate_left
   ·rintro w' ⟨s0,s1,s2,s3,s4,s5,s6,s7⟩
    go_simp
    with_reducible rfl
   rotate_left
   ·simp only [Act.put,List.setIfInBounds_toArray,List.set_cons_zero,List.set_cons_succ,i64_w,i32_w]
    rfl
   refine one_ (i:=5) (N:=(some 32)) #[true,true,true,true,true,true,false,true,false,false] rfl rfl (one_of HT_.out (by kernel_rfl)) (by decide) (fun K hK=>?_)
   refine goes_ Try.func75 (by kernel_rfl) rfl #[.string ⟨#[0]⟩,.int .i64 (wrap64 (64 - (st.size:Int)))] (by rfl) rfl rfl (by (try simp only [List.map_toArray,List.map_cons,List.map_nil]);first |done |rfl) ?_
   refine (rep_at _ n (by unfold wrap64;have:=hn.out;omega) (by have:=hn.out;omega) _).mono ?_
   rintro e w3 ⟨rfl,hb3⟩
   have HX3:=Aside0.mk (HX.out.drew.below hb3)
   refine ⟨_,rfl, ?_⟩
   refine hK.out _ _ ⟨pw_cell_below hb3 k0,pw_cell_below hb3 k1,pw_cell_below hb3 k2,pw_cell_below hb3 k3,pw_cell_below hb3 k4,pw_cell_below hb3 k5,pw_cell_below hb3 k6,pw_cell_below hb3 k7⟩ (fun hHeld=>?_)
   clear hK K
   refine norm_ (a':=?_) ?_ ?_
   rotate_left
   ·show Act.put _ (some 32) _=_
    simp only [Act.put,List.setIfInBounds_toArray,List.set_cons_zero,List.set_cons_succ,i64_w,i32_w]
    rfl
   have hcat:¬ (9223372036854775807<st.size + (nulB n).size):=by rw [nulB_size];have:=hn.out;omega
   refine pure_ (i:=6) (N:=(some 33)) (v:=?_) (a':=?_) #[true,true,true,true,true,true,true,true,false,false] rfl rfl (any_of HT_.out (by kernel_rfl)) (fun _ _ _ h=>h) (Or.inl ⟨by rfl, ?_⟩) ?_ ?_
   rotate_left
   ·intro w'
    go_simp
    with_reducible rfl
   rotate_left
   ·simp only [Act.put,List.setIfInBounds_toArray,List.set_cons_zero,List.set_cons_succ,i64_w,i32_w]
    rfl
   refine one_ (i:=8) (N:=(some 35)) #[true,true,true,true,true,true,true,true,true,false] rfl rfl (one_of HT_.out (by kernel_rfl)) (by decide) (fun K hK=>?_)
   refine goes_ Try.func116 (by kernel_rfl) rfl #[.agg #[.int .u32 (gi h1 0),.int .u32 (gi h1 1),.int .u32 (gi h1 2),.int .u32 (gi h1 3),.int .u32 (gi h1 4),.int .u32 (gi h1 5),.int .u32 (gi h1 6),.int .u32 (gi h1 7)],.string (st ++ nulB n),.int .u64 (s.size:Int),.bool true] (by rfl) rfl rfl (by (try simp only [List.map_toArray,List.map_cons,List.map_nil]);first |done |rfl) ?_
   refine (take_at _ h1 hag HX.out.lh _ (by rw [ByteArray.size_append,nulB_size];have:=hn.out;omega) _ s.size rfl (by omega) true _).mono ?_
   rintro e w4 ⟨h2,hh2,hl2,rfl,hb4⟩
   have HY:=Aside0.mk (HX3.out.below hb4)
   refine ⟨_,rfl, ?_⟩
   refine hK.out _ _ ⟨pw_cell_below hb4 (pw_cell_below hb3 k0),pw_cell_below hb4 (pw_cell_below hb3 k1),pw_cell_below hb4 (pw_cell_below hb3 k2),pw_cell_below hb4 (pw_cell_below hb3 k3),pw_cell_below hb4 (pw_cell_below hb3 k4),pw_cell_below hb4 (pw_cell_below hb3 k5),pw_cell_below hb4 (pw_cell_below hb3 k6),pw_cell_below hb4 (pw_cell_below hb3 k7)⟩ (fun hHeld=>?_)
   clear hK K
   refine norm_ (a':=?_) ?_ ?_
   rotate_left
   ·show Act.put _ (some 35) _=_
    simp only [Act.put,List.setIfInBounds_toArray,List.set_cons_zero,List.set_cons_succ,i64_w,i32_w]
    rfl
   have hst:=run_storeCells_w (v':=h2) HY.out.bh (by rw [HY.out.lh,hl2])
   have hsz2:(u32s h2).size=8:=by simp [u32s,hl2]
   refine last_ (i:=9) (N:=none) #[true,true,true,true,true,true,true,true,true,true] rfl rfl (one_of HT_.out (by kernel_rfl)) (by decide) (fun K hK=>?_)
   refine skip_ (w1:=?_) (by rfl) rfl ?_ ?_
   rotate_left
   ·go_simp
    rfl
   refine hK.out _ _ ?_
   clear hK K
   refine done_ (done_of HT_.out (by kernel_rfl)) ?_
   have HH2:Aside0 (h2=finF h s):=Aside0.mk (by
    rw [hh2.out,HH.out,HS.out,finF,← HL.out]
    have e:=HZ.out
    have e2:=hn.out
    rw [e2,e])
   have HD:=Aside0.mk (HY.out.setRow h2 hl2)
   change KK _ _
   refine hKK.out _ _ ?_
   clear hKK KK hst hsz2 hcat HX3 HY hh2 hb3 hb4 HX cw
   clear k0 k1 k2 k3 k4 k5 k6 k7
   generalize w4.setRow gh (u32s h2)=W6 at HD ⊢
   have k0:∀ o,(W6.alloc o).cell? ⟨gh,0,none⟩=some (.int .u32 (gi h2 0)):=fun o=>cAl o (cell_blk HD.out.bh 0 (by rw [HD.out.lh];decide))
   have k1:∀ o,(W6.alloc o).cell? ⟨gh,1,none⟩=some (.int .u32 (gi h2 1)):=fun o=>cAl o (cell_blk HD.out.bh 1 (by rw [HD.out.lh];decide))
   have k2:∀ o,(W6.alloc o).cell? ⟨gh,2,none⟩=some (.int .u32 (gi h2 2)):=fun o=>cAl o (cell_blk HD.out.bh 2 (by rw [HD.out.lh];decide))
   have k3:∀ o,(W6.alloc o).cell? ⟨gh,3,none⟩=some (.int .u32 (gi h2 3)):=fun o=>cAl o (cell_blk HD.out.bh 3 (by rw [HD.out.lh];decide))
   have k4:∀ o,(W6.alloc o).cell? ⟨gh,4,none⟩=some (.int .u32 (gi h2 4)):=fun o=>cAl o (cell_blk HD.out.bh 4 (by rw [HD.out.lh];decide))
   have k5:∀ o,(W6.alloc o).cell? ⟨gh,5,none⟩=some (.int .u32 (gi h2 5)):=fun o=>cAl o (cell_blk HD.out.bh 5 (by rw [HD.out.lh];decide))
   have k6:∀ o,(W6.alloc o).cell? ⟨gh,6,none⟩=some (.int .u32 (gi h2 6)):=fun o=>cAl o (cell_blk HD.out.bh 6 (by rw [HD.out.lh];decide))
   have k7:∀ o,(W6.alloc o).cell? ⟨gh,7,none⟩=some (.int .u32 (gi h2 7)):=fun o=>cAl o (cell_blk HD.out.bh 7 (by rw [HD.out.lh];decide))
   go_wp2_with fail
   clear k0 k1 k2 k3 k4 k5 k6 k7
   have HE:D2 w (W6.alloc (blk8 (zeros 32) 57)) gh gr W6.heap.size h2 (zeros 32):=⟨HD.out.below (below_alloc (Below.refl _ _) _),heap_alloc_last _ _,by have:=blk_lt HD.out.bh;omega,by have:=blk_lt HD.out.br;omega,HD.out.B.size,rfl⟩
   replace HE:=Aside0.mk HE
   change Code.wp _ _ _ _ (W6.alloc (blk8 (zeros 32) 57))
   clear HD
   generalize W6.alloc (blk8 (zeros 32) 57)=W7 at HE ⊢
   generalize W6.heap.size=gd at HE ⊢
   have hag2:=u32s8 h2 hl2
   rw [← hag2]
   clear hag2
   rename_i K3 hK3
   replace hK3:=Aside0.mk hK3
   go_loopw [37] (fun i wr=>∃ q:Nat,q≤8∧i=.int .i64 q∧Aside0 (D2 w wr gh gr gd h2 (fillB 32 (zeros 32) (outV h2) (4 * q)))) (fun i _=>8 - (intOf i).toNat)
   case atStart=>exact ⟨0,by omega,rfl,Aside0.mk (by rw [fillB_zero 32 _ _ rfl];exact HE.out)⟩
   case round=>
    obtain ⟨q,hq,rfl,HF⟩:=hrel
    clear HE
    by_cases hlq:q<8
    ·have c4:(q:Int)<8:=by omega
     have ix:=idx99 h2 hl2 q hlq
     go_wp2_with fail
     clear ix
     go_loopw [41] (fun i wr=>∃ k:Nat,k≤4∧i=.int .i64 k∧Aside0 (D2 w wr gh gr gd h2 (fillB 32 (zeros 32) (outV h2) (4 * q + k)))) (fun i _=>4 - (intOf i).toNat)
     case atStart=>exact ⟨0,by omega,rfl,HF⟩
     case round=>
      obtain ⟨k,hk,rfl,HF2⟩:=hrel
      clear HF
      by_cases hlk:k<4
      ·have c5:(k:Int)<4:=by omega
       have c6:8 * (k:Int)≤32:=by omega
       have c7:(0:Int)≤8 * (k:Int):=by omega
       have c8:(8 * (k:Int)).toNat=8 * k:=by omega
       have c9:4 * (q:Int) + (k:Int)<32:=by omega
       have c10:(0:Int)≤4 * (q:Int) + (k:Int):=by omega
       have c11:(4 * (q:Int) + (k:Int)).toNat=4 * q + k:=by omega
       have f1:=frozen_blk8 HF2.out.bd (4 * q + k)
       have g1:=cell_blk8 HF2.out.bd (4 * q + k) (by rw [fillB_length];omega)
       go_wp2_with fail
       have e1:outV h2 (4 * q + k)=gi h2 q / 2 ^ (8 * k) % 256:=by
        unfold outV
        rw [show (4 * q + k) / 4=q from by omega,show (4 * q + k) % 4=k from by omega]
       have HG2:Aside0 (D2 w (wr.setCell ⟨gd,4 * q + k,none⟩ (.int .u8 (gi h2 q / 2 ^ (8 * k) % 256))) gh gr gd h2 (fillB 32 (zeros 32) (outV h2) (4 * q + (k + 1)))):=Aside0.mk (by
        rw [← e1,show 4 * q + (k + 1)=4 * q + k + 1 from rfl,← fillB_set 32 _ _ (4 * q + k) (by omega)]
        exact HF2.out.set (4 * q + k) _)
       refine ⟨⟨k + 1,by omega,rfl,HG2⟩, ?_⟩
       show 4 - (intOf (Value.int IntKind.i64 ((k:Int) + 1))).toNat<4 - (intOf (Value.int IntKind.i64 (k:Int))).toNat
       simp only [intOf]
       omega
      ·obtain rfl:k=4:=by omega
       clear hlk hk
       go_wp2_with fail
       refine ⟨⟨q + 1,by omega,rfl,HF2⟩, ?_⟩
       show 8 - (intOf (Value.int IntKind.i64 ((q:Int) + 1))).toNat<8 - (intOf (Value.int IntKind.i64 (q:Int))).toNat
       simp only [intOf]
       omega
    ·obtain rfl:q=8:=by omega
     clear hlq hq
     have hld:=loadAt8 HF.out.bd HF.out.l32
     have hst:=storeAt8 HF.out.t.br rfl HF.out.l32
     go_wp2_with fail
     refine hK3.out _ _ ?_
     refine wp_seq_k fun K4 hK4=>?_
     refine wp_region_lit ?_
     refine wpList_loadRow rfl rfl rfl hld ?_
     refine wpList_storeRow rfl rfl rfl rfl rfl hst ?_
     refine wpList_nil ?_
     change K4 _ _
     refine hK4 _ _ ?_
     clear hK4 K4 hld hst
     simp only [Act.put,List.setIfInBounds_toArray,List.set_cons_zero,List.set_cons_succ]
     go_wp2_with fail
     have eD:fillB 32 (zeros 32) (outV h2) (4 * 8)=digF h s:=by rw [digF,HH2.out]
     have hgr:(wr.setRow gr (u8s (fillB 32 (zeros 32) (outV h2) (4 * 8)))).heap[gr]?=some (.cells (u8s (digF h s)) 57 (0,0)):=by rw [eD];exact setRow_heap wr gr _ _ _ _ HF.out.t.br
     refine bodyPost_ret (results_cell_row rfl _ _ gr 57 (u8s (digF h s)) (0,0) _ rfl hgr Try.underlying57 rfl (by rw [show (u8s (digF h s)).size=32 from by simp [u8s,digF,fillB_length]];kernel_rfl)) rfl ?_
     exact ⟨rfl,HF.out.t.B.trans ((But.setRow wr _).below (B:=w.heap.size) HF.out.t.lr HF.out.t.B.size)⟩
end Go.Proofs.Ytjfmnkmgnbbfgaa.A
