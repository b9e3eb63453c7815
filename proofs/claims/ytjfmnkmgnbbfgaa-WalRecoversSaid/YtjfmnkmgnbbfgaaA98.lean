/- Several texts of this claim in one: H6, J0, A64, A96, WRepsOne, A98. -/
import Derived.Test.YtjfmnkmgnbbfgaaH5
import Derived.Test.YtjfmnkmgnbbfgaaA0
import Derived.Test.YtjfmnkmgnbbfgaaC1
import Derived.Test.YtjfmnkmgnbbfgaaWWords
set_option linter.unusedVariables false
set_option linter.unusedSimpArgs false
namespace Go.Proofs.Ytjfmnkmgnbbfgaa.A
open Go.RowKit Go.Proofs.YtjfmnkmgnbbfgaaW.PrintWords Go.Proofs.YtjfmnkmgnbbfgaaW.PrintLast Go.Proofs.YtjfmnkmgnbbfgaaW.PrintMore
theorem run_storeCells_b {W:World} {g:Nat} {v v':List Int} {T:TypeId} (h:W.heap[g]?=some (blk8 v T)) (hl:v'.length=v.length) :
  (storeCells ⟨g,0,none⟩ (u8s v').toList).run Try.prog W=.ok () (W.setRow g (u8s v')):=by
 have:=run_storeCells_at Try.prog g 0 T (u8s v').toList 0 (u8s v) W h (by simp [u8s,hl]) (by
  intro x hx
  simp only [u8s,List.mem_map] at hx
  obtain ⟨y,_,rfl⟩:=hx
  rfl)
 rw [this]
 have e:(List.take (0 + 0) (u8s v).toList ++ (u8s v').toList ++ List.drop (0 + 0 + (u8s v').toList.length) (u8s v).toList).toArray=u8s v':=by
  simp [u8s,hl]
 rw [e]
def joinS (l:List ByteArray):ByteArray:=joinB l ⟨#[]⟩
def hSum:List Int:=ivF.set 0 (xor32 1779033703 16842784)
theorem dig_len (h:List Int) (s:ByteArray):(digF h s).length=32:=fillB_length _ _ _ _
theorem dig_at (A:Array Value) (h:List Int) (hA:u32s h=A) (hl:h.length=8) (s:ByteArray) (hs:s.size≤1000000) (w:World) :
  Calls Try.prog 87 #[.agg A,.string s] w fun e w'=>∃ d,Aside0 (d=digF h s)∧d.length=32∧e=.returned (.agg (u8s d))∧Below w.heap.size w w':=by
 subst hA
 refine (hash_digest.walk h hl s hs w).mono ?_
 rintro e w' ⟨rfl,hb⟩
 exact ⟨_,Aside0.mk rfl,dig_len _ _,rfl,hb⟩
theorem join_at (A0:Option Addr) (c0:Nat) (l0:List ByteArray) (w:World) (hr0:Kd.C Kd.string w A0 l0.length l0) (hc0:l0.length≤c0) (hl:l0.length≤140737488355328) (hs:(joinS l0).size≤1000000) :
  Calls Try.prog 88 #[.slice A0 l0.length c0,.string ⟨#[]⟩] w fun e w'=>∃ s,Aside0 (s=joinS l0)∧e=.returned (.string s)∧Below w.heap.size w w':=by
 refine (strings_Join.calls A0 c0 l0 ⟨#[]⟩ (joinS l0) w hr0 hc0 ?_).mono ?_
 ·unfold strings_Join.f
  rw [if_pos ⟨hl,by unfold joinS at hs;omega⟩]
  rfl
 ·rintro e w' ⟨rfl,hb⟩
  exact ⟨_,Aside0.mk rfl,rfl,hb⟩
def sumr.T:Bool × List (List Nat × List Nat):=(true,[([],[]),([],[]),([1],[1]),([0,2,2],[0,2]),([3,3,0,1,2,3],[3])])
def sumr.B:List Nat:=[0,0,2,7,15]
theorem sumr.tab:rtab .any (opsOf Try.f47 3)=sumr.T:=by kernel_rfl
theorem sumr.bits:waitsOk sumr.T.2 sumr.B=true:=by kernel_rfl
set_option maxHeartbeats 2000000 in
set_option maxRecDepth 100000 in
theorem hash_Sum.walk (A0:Option Addr) (c0:Nat) (l0:List ByteArray) (w:World) (hr0:Kd.C Kd.string w A0 l0.length l0) (hc0:l0.length≤c0) (hl:l0.length≤140737488355328) (hs:(joinS l0).size≤1000000) :
  Calls Try.prog 47 #[.slice A0 l0.length c0] w fun e w'=>e=.returned (.agg (u8s (digF hSum (joinS l0))))∧Below w.heap.size w w':=by
 have HR:=Aside0.mk hr0
 clear hr0
 go_enter Try.func47,Try.ntmps47
 go_wp2_with (go_at_call 86;refine (show Calls Try.prog 86 #[] _ (fun e w'=>e=.returned (.agg #[.int .u32 1779033703,.int .u32 3144134277,.int .u32 1013904242,.int .u32 2773480762,.int .u32 1359893119,.int .u32 2600822924,.int .u32 528734635,.int .u32 1541459225])∧Below _ _ w') from hash_eight.walk _).mono ?_;rintro e w4 ⟨rfl,hb4⟩)
 have q0:=hb4.size
 rw [sz1 rfl] at q0
 have HX:D1 w (w4.alloc (blk hSum 99)) w4.heap.size w.heap.size hSum:=
  ⟨(below_then (below_alloc (Below.refl _ _) _) (by rw [sz1 rfl];omega) hb4).alloc (by omega) _,heap_alloc_last _ _,blk_alloc (blk_below (heap_alloc_last w (blk8 (zeros 32) 57)) hb4) _,by omega,Nat.le_refl _,by omega,rfl⟩
 have HC:Kd.C Kd.string (w4.alloc (blk hSum 99)) A0 l0.length l0:=Kd.C_below HR.out (below_alloc (below_then (below_alloc (Below.refl _ _) _) (by rw [sz1 rfl];omega) hb4) _)
 replace HX:=Aside0.mk HX
 replace HC:=Aside0.mk HC
 clear hb4 q0
 change Code.wp _ _ _ _ (w4.alloc (blk hSum 99))
 generalize w4.alloc (blk hSum 99)=W1 at HX HC ⊢
 generalize w4.heap.size=gh at HX ⊢
 obtain ⟨gr,hgr⟩:∃ z,z=w.heap.size:=⟨_,rfl⟩
 rw [← hgr] at HX ⊢
 have HG:=Aside0.mk hgr
 clear hgr
 obtain ⟨h1,hh1⟩:∃ z,z=hSum:=⟨_,rfl⟩
 rw [← hh1] at HX
 have HH:=Aside0.mk hh1
 clear hh1
 have hag:=u32s8 h1 HX.out.lh
 have k0:=cell_blk HX.out.bh 0 (by rw [HX.out.lh];decide)
 have k1:=cell_blk HX.out.bh 1 (by rw [HX.out.lh];decide)
 have k2:=cell_blk HX.out.bh 2 (by rw [HX.out.lh];decide)
 have k3:=cell_blk HX.out.bh 3 (by rw [HX.out.lh];decide)
 have k4:=cell_blk HX.out.bh 4 (by rw [HX.out.lh];decide)
 have k5:=cell_blk HX.out.bh 5 (by rw [HX.out.lh];decide)
 have k6:=cell_blk HX.out.bh 6 (by rw [HX.out.lh];decide)
 have k7:=cell_blk HX.out.bh 7 (by rw [HX.out.lh];decide)
 rename_i KK hKK
 replace hKK:=Aside0.mk hKK
 refine start_ (n:=5) (S:=fun w'=>w'.cell? ⟨gh,0,none⟩=some (.int .u32 (gi h1 0))∧w'.cell? ⟨gh,1,none⟩=some (.int .u32 (gi h1 1))∧w'.cell? ⟨gh,2,none⟩=some (.int .u32 (gi h1 2))∧w'.cell? ⟨gh,3,none⟩=some (.int .u32 (gi h1 3))∧w'.cell? ⟨gh,4,none⟩=some (.int .u32 (gi h1 4))∧w'.cell? ⟨gh,5,none⟩=some (.int .u32 (gi h1 5))∧w'.cell? ⟨gh,6,none⟩=some (.int .u32 (gi h1 6))∧w'.cell? ⟨gh,7,none⟩=some (.int .u32 (gi h1 7))) (ds:=[4]) #[false,false,false,false,false] (by kernel_rfl) rfl rfl ⟨k0,k1,k2,k3,k4,k5,k6,k7⟩ (fun hHeld=>?_);refine with_tabW sumr.tab sumr.bits (fun HT_ HW_=>?_)
 refine pure_ (i:=1) (N:=(some 10)) (v:=?_) (a':=?_) #[false,true,false,false,false] rfl rfl (any_of HT_.out (by kernel_rfl)) (fun _ _ _ h=>h) (Or.inl ⟨by rfl, ?_⟩) ?_ ?_
 rotate_left
 ·intro w'
  go_simp
  with_reducible rfl
 rotate_left
 ·simp only [Act.put,List.setIfInBounds_toArray,List.set_cons_zero,List.set_cons_succ,i64_w,i32_w]
  rfl
 refine take_ (i:=0) (N:=(some 9)) (v:=?_) (a':=?_) #[true,true,false,false,false] rfl rfl (take_ofW HT_.out HW_.out (by kernel_rfl)) (fun _ _ _ h=>h) (Or.inl ⟨by rfl, ?_⟩) hHeld ?_ ?_
 rotate_left
 ·rintro w' ⟨s0,s1,s2,s3,s4,s5,s6,s7⟩
  go_simp
  with_reducible rfl
 rotate_left
 ·simp only [Act.put,List.setIfInBounds_toArray,List.set_cons_zero,List.set_cons_succ,i64_w,i32_w]
  rfl
 refine one_ (i:=2) (N:=(some 11)) #[true,true,true,false,false] rfl rfl (one_of HT_.out (by kernel_rfl)) (by decide) (fun K hK=>?_)
 refine goes_ Try.func88 (by kernel_rfl) rfl #[.slice A0 l0.length c0,.string ⟨#[]⟩] (by rfl) rfl rfl (by (try simp only [List.map_toArray,List.map_cons,List.map_nil]);first |done |rfl) ?_
 refine (join_at A0 c0 l0 _ (Kd.C_below HC.out (below_drew (Below.refl _ _))) hc0 hl hs).mono ?_
 rintro e w5 ⟨s5,hs5,rfl,hb5⟩
 have HX5:=Aside0.mk (HX.out.drew.below hb5)
 refine ⟨_,rfl, ?_⟩
 refine hK.out _ _ ⟨pw_cell_below hb5 k0,pw_cell_below hb5 k1,pw_cell_below hb5 k2,pw_cell_below hb5 k3,pw_cell_below hb5 k4,pw_cell_below hb5 k5,pw_cell_below hb5 k6,pw_cell_below hb5 k7⟩ (fun hHeld=>?_)
 clear hK K
 refine norm_ (a':=?_) ?_ ?_
 rotate_left
 ·show Act.put _ (some 11) _=_
  simp only [Act.put,List.setIfInBounds_toArray,List.set_cons_zero,List.set_cons_succ,i64_w,i32_w]
  rfl
 refine one_ (i:=3) (N:=(some 12)) #[true,true,true,true,false] rfl rfl (one_of HT_.out (by kernel_rfl)) (by decide) (fun K hK=>?_)
 refine goes_ Try.func87 (by kernel_rfl) rfl #[.agg #[.int .u32 (gi h1 0),.int .u32 (gi h1 1),.int .u32 (gi h1 2),.int .u32 (gi h1 3),.int .u32 (gi h1 4),.int .u32 (gi h1 5),.int .u32 (gi h1 6),.int .u32 (gi h1 7)],.string s5] (by rfl) rfl rfl (by (try simp only [List.map_toArray,List.map_cons,List.map_nil]);first |done |rfl) ?_
 refine (dig_at _ h1 hag HX.out.lh s5 (by rw [hs5.out];exact hs) _).mono ?_
 rintro e w6 ⟨d,hd,hdl,rfl,hb6⟩
 have HX6:=Aside0.mk (HX5.out.below hb6)
 refine ⟨_,rfl, ?_⟩
 refine hK.out _ _ ⟨pw_cell_below hb6 (pw_cell_below hb5 k0),pw_cell_below hb6 (pw_cell_below hb5 k1),pw_cell_below hb6 (pw_cell_below hb5 k2),pw_cell_below hb6 (pw_cell_below hb5 k3),pw_cell_below hb6 (pw_cell_below hb5 k4),pw_cell_below hb6 (pw_cell_below hb5 k5),pw_cell_below hb6 (pw_cell_below hb5 k6),pw_cell_below hb6 (pw_cell_below hb5 k7)⟩ (fun hHeld=>?_)
 clear hK K
 refine norm_ (a':=?_) ?_ ?_
 rotate_left
 ·show Act.put _ (some 12) _=_
  simp only [Act.put,List.setIfInBounds_toArray,List.set_cons_zero,List.set_cons_succ,i64_w,i32_w]
  rfl
 have hst:=run_storeCells_b (v':=d) HX6.out.br (by rw [hdl];rfl)
 have hsz2:(u8s d).size=32:=by simp [u8s,hdl]
 refine last_ (i:=4) (N:=none) #[true,true,true,true,true] rfl rfl (one_of HT_.out (by kernel_rfl)) (by decide) (fun K hK=>?_)
 refine skip_ (w1:=?_) (by rfl) rfl ?_ ?_
 rotate_left
 ·go_simp
  rfl
 refine hK.out _ _ ?_
 clear hK K
 refine done_ (done_of HT_.out (by kernel_rfl)) ?_
 change KK _ _
 refine hKK.out _ _ ?_
 go_wp2_with fail
 have hgrr:(w6.setRow gr (u8s d)).heap[gr]?=some (.cells (u8s d) 57 (0,0)):=setRow_heap w6 gr _ _ _ _ HX6.out.br
 refine bodyPost_ret (results_cell_row rfl _ _ gr 57 (u8s d) (0,0) _ rfl hgrr Try.underlying57 rfl (by rw [show (u8s d).size=32 from by simp [u8s,hdl]];kernel_rfl)) rfl ?_
 have eD:d=digF hSum (joinS l0):=by rw [hd.out,HH.out,hs5.out]
 exact ⟨by rw [eD],HX6.out.B.trans ((But.setRow w6 _).below (B:=w.heap.size) HX6.out.lr HX6.out.B.size)⟩
end Go.Proofs.Ytjfmnkmgnbbfgaa.A
set_option linter.unusedVariables false
set_option linter.unusedSimpArgs false
namespace Go.Proofs.Ytjfmnkmgnbbfgaa.A
open Go.RowKit Go.Proofs.YtjfmnkmgnbbfgaaW.PrintWords Go.Proofs.YtjfmnkmgnbbfgaaW.PrintLast Go.Proofs.YtjfmnkmgnbbfgaaW.PrintMore
theorem joinS_flat (l:List ByteArray):(joinS l).data.toList=(l.map (·.data.toList)).flatten:=by
 show (Lib.join (l.map (·.data.toList)) [])=_
 cases l with
 | nil=>rfl
 | cons x r=>
  rw [List.map_cons,Lib.join_cons]
  simp [Lib.joinTail]
  rfl
theorem joinS_size (l:List ByteArray):(joinS l).size=(l.map (·.size)).sum:=by
 show (joinS l).data.size=_
 rw [← Array.length_toList,joinS_flat,List.length_flatten,List.map_map]
 rfl
end Go.Proofs.Ytjfmnkmgnbbfgaa.A
namespace Go.Proofs.Ytjfmnkmgnbbfgaa.A
open Go.RowKit Go.Proofs.YtjfmnkmgnbbfgaaW.PrintWords Go.Proofs.YtjfmnkmgnbbfgaaW.PrintLast Go.Proofs.YtjfmnkmgnbbfgaaW.PrintMore
attribute [local go_sem] max2_int min2_int max_two min_two max_three min_three max_four min_four   -- for this text's walks alone
set_option linter.unusedVariables false
set_option linter.unusedSimpArgs false
def wal_zeros.f (a0:Int):Option (ByteArray):=(strings_Repeat.f (⟨#[0]⟩:ByteArray) a0).bind fun t132=>(some t132)
set_option maxHeartbeats 8000000 in
set_option maxRecDepth 100000 in
theorem wal_zeros.calls (a0:Int) (r:ByteArray) (w:World) (h:wal_zeros.f a0=some r) :
  Calls Try.prog 64 #[.int .i64 a0] w fun e w'=>e=.returned (.string r)∧Below w.heap.size w w':=by
 have HB:=Aside0.mk (Below.refl w.heap.size w)
 have H:((strings_Repeat.f (⟨#[0]⟩:ByteArray) a0).bind fun t132=>(some t132))=some r:=h
 clear h
 replace H:=Option.bind_eq_some_iff.mp H
 obtain ⟨t132,A20,H⟩:=H
 replace H:(some t132)=some r:=H
 have A2:=Aside0.mk A20
 clear A20
 obtain rfl:=Option.some.inj H
 go_enter Try.func64,Try.ntmps64
 go_wp2_with (first |((with_reducible refine gate_callee (f:=75) rfl ?_);refine goesL_ (some 4) rfl rfl Try.func75 (by kernel_rfl) rfl #[.string (⟨#[0]⟩:ByteArray),.int .i64 a0] rfl (by (try simp only [List.map_toArray,List.map_cons,List.map_nil]);first |done |rfl |(simp only [List.length_drop,List.length_take];rfl)) ?_;(with_reducible refine (strings_Repeat.calls (⟨#[0]⟩:ByteArray) a0 t132 _ A2.out).mono ?_);rintro e w3 ⟨rfl,hb⟩;refine ⟨_,rfl, ?_⟩;have n0_:=Aside0.mk (below_step (by repeat (first |(with_reducible first |exact HB.out |apply below_alloc |apply pw_below_drewN |apply below_drew1) |exact HB.out)) hb);clear HB;have HB:=n0_;clear n0_;(try clear hb);(try clear hb2);(try clear hk);(try clear hi)))
 go_ret
 exact ⟨by first |rfl |(simp [errW_none,errW_some] <;> rfl) |(simp [*,errW_none,errW_some] <;> rfl),by repeat (first |(with_reducible first |exact HB.out |apply below_alloc |apply pw_below_drewN |apply below_drew1) |exact HB.out)⟩
end Go.Proofs.Ytjfmnkmgnbbfgaa.A
namespace Go.Proofs.Ytjfmnkmgnbbfgaa.A
open Go.RowKit Go.Proofs.YtjfmnkmgnbbfgaaW.PrintWords Go.Proofs.YtjfmnkmgnbbfgaaW.PrintLast Go.Proofs.YtjfmnkmgnbbfgaaW.PrintMore
attribute [local go_sem] max2_int min2_int max_two min_two max_three min_three max_four min_four   -- for this text's walks alone
set_option linter.unusedVariables false
set_option linter.unusedSimpArgs false
def hibernacleref16_zeros.l0:Nat→Int→ByteArray→Int→Option (ByteArray)
 | 0,_,_,_=>none
 | k + 1,x0,x3,x4=>if x4<x0 then (if x3.size + 1≤9223372036854775807 then (hibernacleref16_zeros.l0 k x0 (x3 ++ (⟨#[0]⟩:ByteArray)) (wrap64 (x4 + 1))) else (none)) else (some x3)
def hibernacleref16_zeros.f (k:Nat) (a0:Int):Option (ByteArray):=hibernacleref16_zeros.l0 k a0 (⟨#[]⟩:ByteArray) 0
theorem hibernacleref16_zeros.mono_l:∀ k,(∀ y0 y1 y2,LeO (hibernacleref16_zeros.l0 k y0 y1 y2) (hibernacleref16_zeros.l0 (k + 1) y0 y1 y2))
 | 0=>fun _ _ _ r h=>by simp [hibernacleref16_zeros.l0] at h
 | k + 1=>by
  have ih0:=hibernacleref16_zeros.mono_l k
  ·intro y0 y1 y2
   unfold hibernacleref16_zeros.l0
   repeat' first
   | (with_reducible exact ih0 _ _ _)
   | (with_reducible exact LeO.refl _)
   | (with_reducible exact LeO.none _)
   | (with_reducible refine LeO.ite ?_ ?_)
   | (with_reducible refine LeO.bind ?_ (fun _=>?_))
   | exact ih0 _ _ _
   | exact LeO.none _
   | refine LeO.ite ?_ ?_
   | refine LeO.bind ?_ (fun _=>?_)
theorem hibernacleref16_zeros.mono:∀ a0 k,LeO (hibernacleref16_zeros.f k a0) (hibernacleref16_zeros.f (k + 1) a0):=by
 intro a0 k
 have ih0:=hibernacleref16_zeros.mono_l k
 unfold hibernacleref16_zeros.f
 repeat' first
   | (with_reducible exact ih0 _ _ _)
   | (with_reducible exact LeO.refl _)
   | (with_reducible exact LeO.none _)
   | (with_reducible refine LeO.ite ?_ ?_)
   | (with_reducible refine LeO.bind ?_ (fun _=>?_))
   | exact ih0 _ _ _
   | exact LeO.none _
   | refine LeO.ite ?_ ?_
   | refine LeO.bind ?_ (fun _=>?_)
set_option maxHeartbeats 8000000 in
set_option maxRecDepth 100000 in
theorem hibernacleref16_zeros.calls (k:Nat) (a0:Int) (r:ByteArray) (w:World) (h:hibernacleref16_zeros.f k a0=some r) :
  Calls Try.prog 96 #[.int .i64 a0] w fun e w'=>e=.returned (.string r)∧Drawn0 w w':=by
 have H:(hibernacleref16_zeros.l0 k a0 (⟨#[]⟩:ByteArray) 0)=some r:=h
 clear h
 have H':=Aside0.mk H
 clear H
 go_enter Try.func96,Try.ntmps96
 go_wp2
 go_loopg [3,4] k (fun kq v3 v4 w'=>∃ (x3_1:ByteArray) (x4_1:Int),v3=.string x3_1∧v4=.int .i64 x4_1∧Aside0 (hibernacleref16_zeros.l0 kq a0 x3_1 x4_1=some r)∧Aside0 (kq≤k)∧Drawn0 w w')
 case atStart=>exact ⟨((⟨#[]⟩:ByteArray)),(0),(by first |rfl |(simp;done) |(simp [*];done)),(by first |rfl |(simp;done) |(simp [*];done)),H',⟨Nat.le_refl _⟩,by repeat (first |exact Drawn0.refl _ |apply Drawn0.step)⟩
 case round=>
  clear H'
  obtain ⟨x3_1,x4_1,rfl,rfl,HA,HK1,⟨m1,rfl⟩⟩:=hrel
  cases gk with
  | zero=>exact absurd HA.out (by simp [hibernacleref16_zeros.l0])
  | succ k1=>
   have H:=HA.out
   clear HA
   simp only [hibernacleref16_zeros.l0] at H
   by_cases c2:x4_1<a0
   ·rw [if_pos c2] at H
    have c2b0:decide (x4_1<a0)=true:=decide_eq_true c2
    clear c2
    by_cases c3:x3_1.size + 1≤9223372036854775807
    ·rw [if_pos c3] at H
     have c3b0:=eq_true c3
     have c3b1:decide (x3_1.size + 1≤9223372036854775807)=true:=decide_eq_true c3
     try have c3b2:(9223372036854775807<x3_1.size + 1)=False:=eq_false (Nat.not_lt.2 c3)
     have H':=Aside0.mk H
     clear H
     go_wp2
     go_roundg k1
     case measure=>have:=HK1.out;omega
     case rel=>exact ⟨(x3_1 ++ (⟨#[0]⟩:ByteArray)),(wrap64 (x4_1 + 1)),(by first |rfl |(simp;done) |(simp [*];done)),(by first |rfl |(simp;done) |(simp [*];done)),H',⟨by have:=HK1.out;omega⟩,by repeat (first |exact Drawn0.refl _ |apply Drawn0.step)⟩
    ·rw [if_neg c3] at H
     exact absurd H (by simp)
   ·rw [if_neg c2] at H
    have c2b0:decide (x4_1<a0)=false:=decide_eq_false c2
    clear c2
    obtain rfl:=Option.some.inj H
    go_wp2
    go_ret
    exact ⟨by first |rfl |(simp;done) |(simp [*];done),by repeat (first |exact Drawn0.refl _ |apply Drawn0.step)⟩
end Go.Proofs.Ytjfmnkmgnbbfgaa.A
namespace Go.Proofs.YtjfmnkmgnbbfgaaW.PrintWords
theorem Reps.one {α:Type} {R:α→List Value→Prop} {ps:List α} {cs:List Value} {p:α} {v:Value} (hp:R p [v]) (h:Reps R 1 ps cs):Reps R 1 (p :: ps) (v :: cs):=by
 refine ⟨by simp [h.1],fun j q hq=>?_⟩
 cases j with
 | zero=>
  simp only [List.getElem?_cons_zero,Option.some.injEq] at hq
  subst hq
  simpa using hp
 | succ j=>
  simp only [List.getElem?_cons_succ] at hq
  have h1:=h.2 j q hq
  simpa [Nat.mul_one] using h1
theorem Reps.front {α:Type} {R:α→List Value→Prop} {size:Nat} {ps:List α} {cs c all:List Value} {p:α} (hp:R p c) (hc:c.length=size) (h:Reps R size ps cs) (ha:c ++ cs=all):Reps R size (p :: ps) all:=by
 subst ha
 refine ⟨by rw [List.length_append,hc,h.1,List.length_cons,Nat.succ_mul,Nat.add_comm],fun j q hq=>?_⟩
 cases j with
 | zero=>
  simp only [List.getElem?_cons_zero,Option.some.injEq] at hq
  subst hq
  rw [Nat.zero_mul,List.drop_zero,List.take_append_of_le_length (by omega),List.take_of_length_le (by omega)]
  exact hp
 | succ j=>
  simp only [List.getElem?_cons_succ] at hq
  have h1:=h.2 j q hq
  rw [Nat.succ_mul,List.drop_append,List.drop_of_length_le (by rw [hc];exact Nat.le_add_left _ _),List.nil_append,hc,Nat.add_sub_cancel]
  exact h1
theorem Reps.c2 {α:Type} {R:α→List Value→Prop} {ps:List α} {cs:List Value} {p:α} {va vb:Value} (hp:R p [va,vb]) (h:Reps R 2 ps cs):Reps R 2 (p :: ps) (va :: vb :: cs):=Reps.front hp rfl h rfl
theorem Reps.c3 {α:Type} {R:α→List Value→Prop} {ps:List α} {cs:List Value} {p:α} {va vb vc:Value} (hp:R p [va,vb,vc]) (h:Reps R 3 ps cs):Reps R 3 (p :: ps) (va :: vb :: vc :: cs):=Reps.front hp rfl h rfl
theorem Reps.c4 {α:Type} {R:α→List Value→Prop} {ps:List α} {cs:List Value} {p:α} {va vb vc vd:Value} (hp:R p [va,vb,vc,vd]) (h:Reps R 4 ps cs):Reps R 4 (p :: ps) (va :: vb :: vc :: vd :: cs):=Reps.front hp rfl h rfl
theorem Reps.c5 {α:Type} {R:α→List Value→Prop} {ps:List α} {cs:List Value} {p:α} {va vb vc vd ve:Value} (hp:R p [va,vb,vc,vd,ve]) (h:Reps R 5 ps cs):Reps R 5 (p :: ps) (va :: vb :: vc :: vd :: ve :: cs):=Reps.front hp rfl h rfl
theorem Reps.c6 {α:Type} {R:α→List Value→Prop} {ps:List α} {cs:List Value} {p:α} {va vb vc vd ve vf:Value} (hp:R p [va,vb,vc,vd,ve,vf]) (h:Reps R 6 ps cs):Reps R 6 (p :: ps) (va :: vb :: vc :: vd :: ve :: vf :: cs):=Reps.front hp rfl h rfl
theorem Reps.c7 {α:Type} {R:α→List Value→Prop} {ps:List α} {cs:List Value} {p:α} {va vb vc vd ve vf vg:Value} (hp:R p [va,vb,vc,vd,ve,vf,vg]) (h:Reps R 7 ps cs):Reps R 7 (p :: ps) (va :: vb :: vc :: vd :: ve :: vf :: vg :: cs):=Reps.front hp rfl h rfl
theorem Reps.c8 {α:Type} {R:α→List Value→Prop} {ps:List α} {cs:List Value} {p:α} {va vb vc vd ve vf vg vh:Value} (hp:R p [va,vb,vc,vd,ve,vf,vg,vh]) (h:Reps R 8 ps cs):Reps R 8 (p :: ps) (va :: vb :: vc :: vd :: ve :: vf :: vg :: vh :: cs):=Reps.front hp rfl h rfl
theorem Reps.c9 {α:Type} {R:α→List Value→Prop} {ps:List α} {cs:List Value} {p:α} {va vb vc vd ve vf vg vh vi:Value} (hp:R p [va,vb,vc,vd,ve,vf,vg,vh,vi]) (h:Reps R 9 ps cs):Reps R 9 (p :: ps) (va :: vb :: vc :: vd :: ve :: vf :: vg :: vh :: vi :: cs):=Reps.front hp rfl h rfl
theorem Reps.c10 {α:Type} {R:α→List Value→Prop} {ps:List α} {cs:List Value} {p:α} {va vb vc vd ve vf vg vh vi vj:Value} (hp:R p [va,vb,vc,vd,ve,vf,vg,vh,vi,vj]) (h:Reps R 10 ps cs):Reps R 10 (p :: ps) (va :: vb :: vc :: vd :: ve :: vf :: vg :: vh :: vi :: vj :: cs):=Reps.front hp rfl h rfl
end Go.Proofs.YtjfmnkmgnbbfgaaW.PrintWords
namespace Go.Proofs.Ytjfmnkmgnbbfgaa.A
open Go.RowKit Go.Proofs.YtjfmnkmgnbbfgaaW.PrintWords Go.Proofs.YtjfmnkmgnbbfgaaW.PrintLast Go.Proofs.YtjfmnkmgnbbfgaaW.PrintMore
attribute [local go_sem] max2_int min2_int max_two min_two max_three min_three max_four min_four   -- for this text's walks alone
set_option linter.unusedVariables false
set_option linter.unusedSimpArgs false
def hibernacleref01_Put.l0:Nat→Int→Int→ByteArray→Int→Option (ByteArray)
 | 0,_,_,_,_=>none
 | k + 1,x0,x1,x5,x6=>if x6<x1 then (if x6<8 then ((some (([(Int.tmod x0 256) % 256]:List Int):List Int)).bind fun y262=>(if x5.size + (strOfNums y262).size≤9223372036854775807 then (hibernacleref01_Put.l0 k (IntKind.u64.wrap (Int.tdiv x0 256)) x1 (x5 ++ (strOfNums y262)) (wrap64 (x6 + 1))) else (none))) else (some x5)) else (some x5)
def hibernacleref01_Put.f (k:Nat) (a0:Int) (a1:Int):Option (ByteArray):=hibernacleref01_Put.l0 k a0 a1 (⟨#[]⟩:ByteArray) 0
theorem hibernacleref01_Put.mono_l:∀ k,(∀ y0 y1 y2 y3,LeO (hibernacleref01_Put.l0 k y0 y1 y2 y3) (hibernacleref01_Put.l0 (k + 1) y0 y1 y2 y3))
 | 0=>fun _ _ _ _ r h=>by simp [hibernacleref01_Put.l0] at h
 | k + 1=>by
  have ih0:=hibernacleref01_Put.mono_l k
  ·intro y0 y1 y2 y3
   unfold hibernacleref01_Put.l0
   repeat' first
   | (with_reducible exact ih0 _ _ _ _)
   | (with_reducible exact LeO.refl _)
   | (with_reducible exact LeO.none _)
   | (with_reducible refine LeO.ite ?_ ?_)
   | (with_reducible refine LeO.bind ?_ (fun _=>?_))
   | exact ih0 _ _ _ _
   | exact LeO.none _
   | refine LeO.ite ?_ ?_
   | refine LeO.bind ?_ (fun _=>?_)
theorem hibernacleref01_Put.mono:∀ a0 a1 k,LeO (hibernacleref01_Put.f k a0 a1) (hibernacleref01_Put.f (k + 1) a0 a1):=by
 intro a0 a1 k
 have ih0:=hibernacleref01_Put.mono_l k
 unfold hibernacleref01_Put.f
 repeat' first
   | (with_reducible exact ih0 _ _ _ _)
   | (with_reducible exact LeO.refl _)
   | (with_reducible exact LeO.none _)
   | (with_reducible refine LeO.ite ?_ ?_)
   | (with_reducible refine LeO.bind ?_ (fun _=>?_))
   | exact ih0 _ _ _ _
   | exact LeO.none _
   | refine LeO.ite ?_ ?_
   | refine LeO.bind ?_ (fun _=>?_)
set_option maxHeartbeats 8000000 in
set_option maxRecDepth 100000 in
theorem hibernacleref01_Put.calls (k:Nat) (a0:Int) (a1:Int) (r:ByteArray) (w:World) (h:hibernacleref01_Put.f k a0 a1=some r) :
  Calls Try.prog 98 #[.int .u64 a0,.int .i64 a1] w fun e w'=>e=.returned (.string r)∧Below w.heap.size w w':=by
 have HB:=Aside0.mk (Below.refl w.heap.size w)
 have H:(hibernacleref01_Put.l0 k a0 a1 (⟨#[]⟩:ByteArray) 0)=some r:=h
 clear h
 have H':=Aside0.mk H
 clear H
 go_enter Try.func98,Try.ntmps98
 go_wp2
 go_loopg [0,5,6] k (fun kq v0 v5 v6 w'=>∃ (x0_1:Int) (x5_1:ByteArray) (x6_1:Int),v0=.int .u64 x0_1∧v5=.string x5_1∧v6=.int .i64 x6_1∧Aside0 (hibernacleref01_Put.l0 kq x0_1 a1 x5_1 x6_1=some r)∧Aside0 (kq≤k)∧Aside0 (Below w.heap.size w w'))
 case atStart=>exact ⟨(a0),((⟨#[]⟩:ByteArray)),(0),(by first |rfl |(simp;done) |(simp [*];done)),(by first |rfl |(simp;done) |(simp [*];done)),(by first |rfl |(simp;done) |(simp [*];done)),H',⟨Nat.le_refl _⟩,⟨by repeat (first |(with_reducible first |exact HB.out |apply below_alloc |apply pw_below_drewN |apply below_drew1) |exact HB.out)⟩⟩
 case round=>
  clear H'
  try clear p2
  obtain ⟨x0_1,x5_1,x6_1,rfl,rfl,rfl,HA,HK1,HB⟩:=hrel
  cases gk with
  | zero=>exact absurd HA.out (by simp [hibernacleref01_Put.l0])
  | succ k1=>
   have H:=HA.out
   clear HA
   simp only [hibernacleref01_Put.l0] at H
   by_cases c3:x6_1<a1
   ·rw [if_pos c3] at H
    have c3b0:decide (x6_1<a1)=true:=decide_eq_true c3
    clear c3
    by_cases c4:x6_1<8
    ·rw [if_pos c4] at H
     have c4b0:decide (x6_1<8)=true:=decide_eq_true c4
     clear c4
     obtain ⟨y262,hy262⟩:∃ y_:List Int,y_=(([(Int.tmod x0_1 256) % 256]:List Int)):=⟨_,rfl⟩
     replace H:(if x5_1.size + (strOfNums y262).size≤9223372036854775807 then (hibernacleref01_Put.l0 k1 (IntKind.u64.wrap (Int.tdiv x0_1 256)) a1 (x5_1 ++ (strOfNums y262)) (wrap64 (x6_1 + 1))) else (none))=some r:=by first |(rw [hy262];with_reducible exact H) |(have H2_:=(Option.bind_some _ _).symm.trans H;rw [hy262];with_reducible exact H2_) |(have H2_:=(Option.bind_some _ _).symm.trans H;with_reducible exact H2_) |with_reducible exact H |(rw [hy262];exact H) |exact H
     have Ny262:=Aside0.mk hy262
     clear hy262
     by_cases c5:x5_1.size + (strOfNums y262).size≤9223372036854775807
     ·rw [if_pos c5] at H
      have c5b0:=eq_true c5
      have c5b1:decide (x5_1.size + (strOfNums y262).size≤9223372036854775807)=true:=decide_eq_true c5
      try have c5b2:(9223372036854775807<x5_1.size + (strOfNums y262).size)=False:=eq_false (Nat.not_lt.2 c5)
      have H':=Aside0.mk H
      clear H
      go_wp2_with (first |((with_reducible refine gate_dst (N:=20) rfl ?_);refine Kd.R_lit (Kd.int .u8) _ 5 ?hg (N:=20) ?hd (xs:=([(Int.tmod x0_1 256) % 256]:List Int)) (inner:=[.int .u8 ((Int.tmod x0_1 256) % 256)]) (ok:=fun _=>True) (okp:=fun _=>True) ?hr ?hp (fun _ hk=>hk) trivial (Below.refl _ _) (Nat.le_refl _) (by simp) ?_;(case hd=>rfl);(case hg=>rfl);(case hr=>first |(go_simp;done) |(go_simp;rfl));(case hp=>exact (Reps.one (show Kd.M (Kd.int .u8) _ _ _ ((Int.tmod x0_1 256) % 256) [.int .u8 ((Int.tmod x0_1 256) % 256)] from rfl) (Reps.none _ _)));intro v263 w6 ho7 hb hg_ hnew_;clear hg_ hnew_;(first |rw [← Ny262.out] at ho7 |(simp only [Int.reduceToNat] at ho7;rw [← Ny262.out] at ho7));have n0_:=Aside0.mk (Kd.R_lower ho7 (below_size (by repeat (first |(with_reducible first |exact HB.out |apply below_alloc |apply pw_below_drewN |apply below_drew1) |exact HB.out))));have n1_:=Aside0.mk (below_step (by repeat (first |(with_reducible first |exact HB.out |apply below_alloc |apply pw_below_drewN |apply below_drew1) |exact HB.out)) hb);clear HB;have HO264:=n0_;have HB:=n1_;clear n0_ n1_;clear hb ho7;have hcv8:=own_string (P:=Try.prog) Try.underlying77 Try.underlying5 Try.underlying9 (Kd.own_of_R HO264.out)))
      go_roundg k1
      case measure=>have:=HK1.out;omega
      case rel=>exact ⟨(IntKind.u64.wrap (Int.tdiv x0_1 256)),(x5_1 ++ (strOfNums y262)),(wrap64 (x6_1 + 1)),(by first |rfl |(simp;done) |(simp [*];done)),(by first |rfl |(simp;done) |(simp [*];done)),(by first |rfl |(simp;done) |(simp [*];done)),H',⟨by have:=HK1.out;omega⟩,⟨by repeat (first |(with_reducible first |exact HB.out |apply below_alloc |apply pw_below_drewN |apply below_drew1) |exact HB.out)⟩⟩
     ·rw [if_neg c5] at H
      exact absurd H (by simp)
    ·rw [if_neg c4] at H
     have c4b0:decide (x6_1<8)=false:=decide_eq_false c4
     clear c4
     obtain rfl:=Option.some.inj H
     go_wp2
     go_ret
     exact ⟨by first |rfl |(simp [errW_none,errW_some] <;> rfl) |(simp [*,errW_none,errW_some] <;> rfl),by repeat (first |(with_reducible first |exact HB.out |apply below_alloc |apply pw_below_drewN |apply below_drew1) |exact HB.out)⟩
   ·rw [if_neg c3] at H
    have c3b0:decide (x6_1<a1)=false:=decide_eq_false c3
    clear c3
    obtain rfl:=Option.some.inj H
    go_wp2
    go_ret
    exact ⟨by first |rfl |(simp [errW_none,errW_some] <;> rfl) |(simp [*,errW_none,errW_some] <;> rfl),by repeat (first |(with_reducible first |exact HB.out |apply below_alloc |apply pw_below_drewN |apply below_drew1) |exact HB.out)⟩
end Go.Proofs.Ytjfmnkmgnbbfgaa.A
