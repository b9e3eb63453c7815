/- hibernacleref16.put: writes to a drive's blocks from a place on, or to their own; the calls are told as the program's (doV). -/
import Derived.Test.YtjfmnkmgnbbfgaaC4
import Derived.Test.YtjfmnkmgnbbfgaaD3r
set_option linter.unusedVariables false
set_option linter.unusedSimpArgs false
namespace Go.Proofs.Ytjfmnkmgnbbfgaa.A
open Go.RowKit Go.Proofs.YtjfmnkmgnbbfgaaW.PrintWords Go.Proofs.YtjfmnkmgnbbfgaaW.PrintLast Go.Proofs.YtjfmnkmgnbbfgaaW.PrintMore
def rplan (l:List S27) (own:Bool):List CallV:=if own then l.map homeC else putsC l
theorem rplan_len (l:List S27) (own:Bool):(rplan l own).length=l.length:=by cases own <;> simp [rplan,putsC]
theorem rplan_at (l:List S27) (own:Bool) (j:Nat) (hj:j<l.length):(rplan l own).drop j=(if own then homeC l[j] else putC j l[j]) :: (rplan l own).drop (j + 1):=by
 rw [List.drop_eq_getElem_cons (by rw [rplan_len];exact hj)]
 congr 1
 cases own
 ·simp [rplan,putsC]
 ·simp [rplan]
theorem putV_len (b:List ByteArray) (p:List S27) (a i:Int) (s:ByteArray):(putV b p a i s).2.1.length≤p.length + 1:=by
 unfold putV
 split
 ·split
  ·simp
  ·simp
 ·simp
def hrpt.T:Bool × List (List Nat × List Nat):=(true,[([],[]),([],[]),([],[]),([],[]),([2,3],[2,3]),([4],[4]),([5],[5]),([0,1,6],[0,1,6]),([7],[7]),([8],[8]),([8],[8]),([],[]),([11,9,7,0,1,2,3,4,5,6,7,8,9,11],[9,11]),([10,12,0,1,2,3,4,5,6,7,8,9,10,11,12],[10])])
def hrpt.B:List Nat:=[0,0,0,0,12,28,60,127,255,511,511,0,3071,8191]
theorem hrpt.tab:rtab .any (opsOf Try.f97 7)=hrpt.T:=by kernel_rfl
theorem hrpt.bits:waitsOk hrpt.T.2 hrpt.B=true:=by kernel_rfl
set_option maxHeartbeats 8000000 in
set_option maxRecDepth 100000 in
theorem rput_walk_true (A0:Option Addr) (c0:Nat) (l0:List ByteArray) (A1:Option Addr) (c1:Nat) (l1:List S27) (a:Int) (A:Option Addr) (c:Nat) (l:List S27) (ok:Nat→Prop) (w:World)
  (hd:Dr w ok (.slice A0 l0.length c0) (.slice A1 l1.length c1) l0 l1) (hl:Kd.C k27 w A l.length l) (hc:l.length≤c) (hp:l1.length + l.length≤1000) :
  Calls Try.prog 97 #[.agg #[.slice A0 l0.length c0,.slice A1 l1.length c1,.int .i64 a],.slice A l.length c,.bool true] w fun e w'=>DoOut w w' ok e (doV (rplan l true) l0 l1 a):=by
 have hu29:=Try.underlying29
 have hu27:=Try.underlying27
 have HD:=Aside0.mk hd
 have HL:=Aside0.mk hl
 clear hd hl
 go_enter Try.func97,Try.ntmps97
 go_wp2_with (first
  | ((with_reducible refine gate_dst (N:=3) rfl ?_);refine box_event ?hg (N:=3) ?hd (cs:=#[.slice A0 l0.length c0,.slice A1 l1.length c1,.int .i64 a]) (t:=29) ?hr ?_;(case hd=>rfl);(case hg=>rfl);(case hr=>first |(go_simp;done) |(go_simp;rfl));intro b3 hb3 w3 hx3 hl3;have HX3:=Aside0.mk hx3;have HL3:=Aside0.mk hl3;have HB3:=Aside0.mk hb3;clear hx3 hl3 hb3)
  | ((with_reducible refine gate_dst (N:=6) rfl ?_);refine box_event ?hg (N:=6) ?hd (cs:=#[.slice none 0 0,.slice none 0 0,.int .i64 0]) (t:=29) ?hr ?_;(case hd=>rfl);(case hg=>rfl);(case hr=>first |(go_simp;done) |(go_simp;rfl));intro b6 hb6 w6 hx6 hl6;have HX6:=Aside0.mk hx6;have HL6:=Aside0.mk hl6;have HB6:=Aside0.mk hb6;clear hx6 hl6 hb6)
  | fail)
 have hbw:=below_step HL3.out HL6.out
 have g3:w.heap.size≤b3:=Nat.le_of_eq HB3.out.symm
 have g6:w.heap.size≤b6:=by rw [HB6.out];exact HL3.out.size
 have n36:b3≠b6:=by rw [HB6.out];exact Nat.ne_of_lt (blk_lt HX3.out)
 have HD0:=Aside0.mk (((HD.out.bound).below hbw).mono (ok':=fun k=>(ok k∨w.heap.size≤k)∧k≠b3∧k≠b6) (fun k hk=>⟨.inl hk.1,by have:=hk.2;omega,by have:=hk.2;omega⟩))
 have HX3:=Aside0.mk (blk_below HX3.out HL6.out)
 have HBW:=Aside0.mk hbw
 clear HD hbw
 go_loopw [14] (fun i wr=>∃ (j:Nat) (b:List ByteArray) (p:List S27) (y:Int) (B0:Option Addr) (e0:Nat) (B1:Option Addr) (e1:Nat),j≤l.length∧i=.int .i64 (j:Int)∧Aside0 (doV ((rplan l true).drop j) b p y=doV (rplan l true) l0 l1 a)∧Aside0 (p.length≤l1.length + j)∧Aside0 (wr.heap[b3]?=some (.cells #[.slice B0 b.length e0,.slice B1 p.length e1,.int .i64 y] 29 (0,0)))∧Aside0 (wr.heap[b6]?=some (.cells #[.slice none 0 0,.slice none 0 0,.int .i64 0] 29 (0,0)))∧Aside0 (Dr wr (fun k=>(ok k∨w.heap.size≤k)∧k≠b3∧k≠b6) (.slice B0 b.length e0) (.slice B1 p.length e1) b p)∧Aside0 (Below w.heap.size w wr)) (fun i _=>l.length - (intOf i).toNat)
 case atStart=>exact ⟨0,l0,l1,a,A0,c0,A1,c1,Nat.zero_le _,rfl,⟨rfl⟩,⟨by omega⟩,HX3,HX6,HD0,HBW⟩
 case round=>
  clear HX3 HX6 HD0 HBW
  obtain ⟨j,b,p,y,B0,e0,B1,e1,hj,rfl,HV,HP,HX3,HX6,HD0,HB⟩:=hrel
  by_cases hlt:j<l.length
  ·have hjl:(j:Int)<l.length:=by omega
   have hjr:(j:Int)≤140737488355328:=by omega
   obtain ⟨ad,rfl,g0,g1⟩:=at_T27 (Kd.C_below HL.out HB.out) (j:Int) (by omega) (by omega)
   rw [show rd_T27 l (j:Int)=l[j] from rdTN l j hlt] at g0 g1
   have hV:=HV.out
   rw [rplan_at l true j hlt,if_pos rfl,doV] at hV
   obtain ⟨x,hx⟩:∃ x,x=l[j]:=⟨_,rfl⟩
   rw [← hx] at g0 g1 hV
   simp only [Int.toNat_natCast] at g0 g1
   have hput:hibernacleref15_Put.f 5 b p y (wrap64 (33 + x.f0)) x.f1=some (putV b p y (wrap64 (33 + x.f0)) x.f1):=rput_many b p y (wrap64 (33 + x.f0)) x.f1 (by have:=HP.out;omega) 5 (by omega)
   have hpl:=putV_len b p y (wrap64 (33 + x.f0)) x.f1
   change (if (putV b p y (wrap64 (33 + x.f0)) x.f1).2.2.2=0 then doV _ (putV b p y (wrap64 (33 + x.f0)) x.f1).1 (putV b p y (wrap64 (33 + x.f0)) x.f1).2.1 (putV b p y (wrap64 (33 + x.f0)) x.f1).2.2.1 else putV b p y (wrap64 (33 + x.f0)) x.f1)=_ at hV
   generalize putV b p y (wrap64 (33 + x.f0)) x.f1=T at hput hV hpl
   obtain ⟨r1,r2,r3,r4⟩:=T
   have HV2:=Aside0.mk hV
   have HPL:=Aside0.mk hpl
   clear hV hx hpl HV
   go_wp2
   rename_i KK hKK
   replace hKK:=Aside0.mk hKK
   have h3:wr.drew.heap[b3]?=some (.cells #[.slice B0 b.length e0,.slice B1 p.length e1,.int .i64 y] 29 (0,0)):=HX3.out
   have h6:wr.drew.heap[b6]?=some (.cells #[.slice none 0 0,.slice none 0 0,.int .i64 0] 29 (0,0)):=HX6.out
   have hc:wr.drew.cell? ⟨(ad.add (j * 2)).block,(ad.add (j * 2)).off + 1,none⟩=some (.string x.f1):=g1
   have hB0:Below w.heap.size w wr.drew:=HB.out.drew
   obtain ⟨okd,hokd⟩:∃ z,z=fun k=>(ok k∨w.heap.size≤k)∧k≠b3∧k≠b6:=⟨_,rfl⟩
   have hD:Dr wr.drew okd (.slice B0 b.length e0) (.slice B1 p.length e1) b p:=by rw [hokd];exact HD0.out.below (Below.refl _ _).drew
   clear HX3 HX6 HB HD0 g0 g1
   refine start_ (n:=14) (S:=fun w'=>w'.heap[b3]?=some (.cells #[.slice B0 b.length e0,.slice B1 p.length e1,.int .i64 y] 29 (0,0))∧w'.cell? ⟨(ad.add (j * 2)).block,(ad.add (j * 2)).off + 1,none⟩=some (.string x.f1)) (ds:=[12]) #[false,false,false,false,false,false,false,false,false,false,false,false,false,false] (by kernel_rfl) rfl rfl ⟨h3,hc⟩ (fun hHeld=>?_);refine with_tabW hrpt.tab hrpt.bits (fun HT_ HW_=>?_)
   generalize wr.drew=Wp at h3 hc h6 hB0 hD hHeld ⊢
   refine take_ (i:=0) (N:=(some 27)) (v:=?_) (a':=?_) #[true,false,false,false,false,false,false,false,false,false,false,false,false,false] rfl rfl (take_ofW HT_.out HW_.out (by kernel_rfl)) (fun _ _ _ h=>h) (Or.inl ⟨by rfl, ?_⟩) hHeld ?_ ?_
   rotate_left
   ·rintro w' s1;have t0:=(blk_cell s1.1 0).trans rfl;have t1:=(blk_cell s1.1 1).trans rfl;have t2:=(blk_cell s1.1 2).trans rfl
    go_simp
    with_reducible rfl
   rotate_left
   ·simp only [Act.put,List.setIfInBounds_toArray,List.set_cons_zero,List.set_cons_succ,i64_w,i32_w]
    rfl
   refine pure_ (i:=1) (N:=(some 28)) (v:=?_) (a':=?_) #[true,true,false,false,false,false,false,false,false,false,false,false,false,false] rfl rfl (any_of HT_.out (by kernel_rfl)) (fun _ _ _ h=>h) (Or.inl ⟨by rfl, ?_⟩) ?_ ?_
   rotate_left
   ·intro w'
    go_simp
    with_reducible rfl
   rotate_left
   ·simp only [Act.put,List.setIfInBounds_toArray,List.set_cons_zero,List.set_cons_succ,i64_w,i32_w]
    rfl
   refine pure_ (i:=2) (N:=(some 29)) (v:=?_) (a':=?_) #[true,true,true,false,false,false,false,false,false,false,false,false,false,false] rfl rfl (any_of HT_.out (by kernel_rfl)) (fun _ _ _ h=>h) (Or.inl ⟨by rfl, ?_⟩) ?_ ?_
   rotate_left
   ·intro w'
    go_simp
    with_reducible rfl
   rotate_left
   ·simp only [Act.put,List.setIfInBounds_toArray,List.set_cons_zero,List.set_cons_succ,i64_w,i32_w]
    rfl
   refine pure_ (i:=3) (N:=(some 30)) (v:=?_) (a':=?_) #[true,true,true,true,false,false,false,false,false,false,false,false,false,false] rfl rfl (any_of HT_.out (by kernel_rfl)) (fun _ _ _ h=>h) (Or.inl ⟨by rfl, ?_⟩) ?_ ?_
   rotate_left
   ·intro w'
    go_simp
    with_reducible rfl
   rotate_left
   ·simp only [Act.put,List.setIfInBounds_toArray,List.set_cons_zero,List.set_cons_succ,i64_w,i32_w]
    rfl
   refine pure_ (i:=4) (N:=(some 31)) (v:=?_) (a':=?_) #[true,true,true,true,true,false,false,false,false,false,false,false,false,false] rfl rfl (any_of HT_.out (by kernel_rfl)) (fun _ _ _ h=>h) (Or.inl ⟨by rfl, ?_⟩) ?_ ?_
   rotate_left
   ·intro w'
    go_simp
    with_reducible rfl
   rotate_left
   ·simp only [Act.put,List.setIfInBounds_toArray,List.set_cons_zero,List.set_cons_succ,i64_w,i32_w]
    rfl
   refine pure_ (i:=5) (N:=(some 32)) (v:=?_) (a':=?_) #[true,true,true,true,true,true,false,false,false,false,false,false,false,false] rfl rfl (any_of HT_.out (by kernel_rfl)) (fun _ _ _ h=>h) (Or.inl ⟨by rfl, ?_⟩) ?_ ?_
   rotate_left
   ·intro w'
    go_simp
    with_reducible rfl
   rotate_left
   ·simp only [Act.put,List.setIfInBounds_toArray,List.set_cons_zero,List.set_cons_succ,i64_w,i32_w]
    rfl
   refine take_ (i:=6) (N:=(some 33)) (v:=?_) (a':=?_) #[true,true,true,true,true,true,true,false,false,false,false,false,false,false] rfl rfl (take_ofW HT_.out HW_.out (by kernel_rfl)) (fun _ _ _ h=>h) (Or.inl ⟨by rfl, ?_⟩) hHeld ?_ ?_
   rotate_left
   ·rintro w' s1;have t0:=s1.2
    go_simp
    with_reducible rfl
   rotate_left
   ·simp only [Act.put,List.setIfInBounds_toArray,List.set_cons_zero,List.set_cons_succ,i64_w,i32_w]
    rfl
   refine join_ (σ:=Value × Value × Nat) 2 #[true,true,true,true,true,true,true,true,true,true,true,true,false,false] (fun s_=>[(34,.tuple #[.agg #[s_.1,s_.2.1,.int .i64 r3],.int .i64 r4]),(10,.pointer (some ⟨s_.2.2,0,none⟩)),(26,.tuple #[.agg #[s_.1,s_.2.1,.int .i64 r3],.int .i64 r4]),(35,.agg #[s_.1,s_.2.1,.int .i64 r3]),(36,.int .i64 r4)]) (fun s_ w'=>Below Wp.heap.size Wp w'∧w'.heap[s_.2.2]?=some (.cells #[.slice none 0 0,.slice none 0 0,.int .i64 0] 29 (0,0))∧Wp.heap.size≤s_.2.2∧Dr w' (fun k=>((okd k∧k<Wp.heap.size)∨Wp.heap.size≤k)∧k≠s_.2.2) s_.1 s_.2.1 r1 r2) (fun s_ w' hF=>?_) (fun hcont=>?ord7)
   case ord7=>
    refine two_ (i:=7) (j:=11) (Ni:=(some 34)) (Nj:=(some 10)) #[true,true,true,true,true,true,true,true,false,false,false,false,false,false] #[true,true,true,true,true,true,true,false,false,false,false,true,false,false] rfl rfl rfl rfl (two_of HT_.out (by kernel_rfl)) (by decide) (by decide) (fun K hK=>?_) (fun K hK=>?_)
    ·refine goes_ Try.func39 (by kernel_rfl) rfl #[.agg #[.slice B0 b.length e0,.slice B1 p.length e1,.int .i64 y],.int .i64 (wrap64 (33 + x.f0)),.string x.f1] (by rfl) rfl rfl (by (try simp only [List.map_toArray,List.map_cons,List.map_nil]);first |done |rfl) ?_
     refine (hibernacleref15_Put.calls 5 (fun k=>okd k∧k<Wp.heap.size) B0 e0 b (fun k=>okd k∧k<Wp.heap.size) B1 e1 p y (wrap64 (33 + x.f0)) x.f1 r1 r2 r3 r4 Wp hD.bound.1 hD.bound.2 hput).mono ?_
     rintro e_ pV1 ⟨v0pV1,v1pV1,rfl,hapV1,hzpV1,hspV1⟩
     have hrespV1:Dr pV1 (fun k=>(okd k∧k<Wp.heap.size)∨Wp.heap.size≤k) v0pV1 v1pV1 r1 r2:=⟨Kd.V_mono hapV1 (fun k hk=>hk.imp (fun h=>h.elim id id) id),Kd.V_mono hzpV1 (fun k hk=>hk.imp (fun h=>h.elim id id) id)⟩
     refine ⟨_,rfl, ?_⟩
     have hbpV1:Below Wp.heap.size Wp pV1:=hspV1
     refine hK.out _ _ ⟨blk_below h3 hbpV1,pw_cell_below hbpV1 hc⟩ (fun hHeld=>?_)
     clear hK K
     refine norm_ (a':=?_) ?_ ?_
     rotate_left
     ·show Act.put _ (some 34) _=_
      simp only [Act.put,List.setIfInBounds_toArray,List.set_cons_zero,List.set_cons_succ,i64_w,i32_w]
      rfl
     refine pure_ (i:=8) (N:=(some 26)) (v:=?_) (a':=?_) #[true,true,true,true,true,true,true,true,true,false,false,false,false,false] rfl rfl (any_of HT_.out (by kernel_rfl)) (fun _ _ _ h=>h) (Or.inl ⟨by rfl, ?_⟩) ?_ ?_
     rotate_left
     ·intro w'
      go_simp
      with_reducible rfl
     rotate_left
     ·simp only [Act.put,List.setIfInBounds_toArray,List.set_cons_zero,List.set_cons_succ,i64_w,i32_w]
      rfl
     refine pure_ (i:=9) (N:=(some 35)) (v:=?_) (a':=?_) #[true,true,true,true,true,true,true,true,true,true,false,false,false,false] rfl rfl (any_of HT_.out (by kernel_rfl)) (fun _ _ _ h=>h) (Or.inl ⟨by rfl, ?_⟩) ?_ ?_
     rotate_left
     ·intro w'
      go_simp
      with_reducible rfl
     rotate_left
     ·simp only [Act.put,List.setIfInBounds_toArray,List.set_cons_zero,List.set_cons_succ,i64_w,i32_w]
      rfl
     refine pure_ (i:=10) (N:=(some 36)) (v:=?_) (a':=?_) #[true,true,true,true,true,true,true,true,true,true,true,false,false,false] rfl rfl (any_of HT_.out (by kernel_rfl)) (fun _ _ _ h=>h) (Or.inl ⟨by rfl, ?_⟩) ?_ ?_
     rotate_left
     ·intro w'
      go_simp
      with_reducible rfl
     rotate_left
     ·simp only [Act.put,List.setIfInBounds_toArray,List.set_cons_zero,List.set_cons_succ,i64_w,i32_w]
      rfl
     refine one_ (i:=11) (N:=(some 10)) #[true,true,true,true,true,true,true,true,true,true,true,true,false,false] rfl rfl (one_of HT_.out (by kernel_rfl)) (by decide) (fun K hK=>?_)
     refine value_ (w1:=pV1.alloc (.cells #[.slice none 0 0,.slice none 0 0,.int .i64 0] 29 (0,0))) (v:=.pointer (some ⟨pV1.heap.size,0,none⟩)) (by rfl) rfl ?_ ?_
     ·first |(go_simp;done) |(go_simp;rfl)
     obtain ⟨pV2,epV2⟩:∃ z,z=pV1.alloc (.cells #[.slice none 0 0,.slice none 0 0,.int .i64 0] 29 (0,0)):=⟨_,rfl⟩
     have hspV2:Below pV1.heap.size pV1 pV2:=by rw [epV2];exact below_alloc (Below.refl _ _) _
     have hqpV2:pV2.heap[pV1.heap.size]?=some (.cells #[.slice none 0 0,.slice none 0 0,.int .i64 0] 29 (0,0)):=by rw [epV2];exact heap_alloc_last _ _
     rw [← epV2]
     have hbpV2:Below Wp.heap.size Wp pV2:=below_step hbpV1 hspV2
     have hrespV2:=hrespV1.below hspV2
     obtain ⟨gpV2,egpV2⟩:∃ z,z=pV1.heap.size:=⟨_,rfl⟩
     rw [← egpV2] at hqpV2 ⊢
     refine hK.out _ _ ⟨blk_below h3 hbpV2,pw_cell_below hbpV2 hc⟩ (fun hHeld=>?_)
     clear hK K
     refine norm_ (a':=?_) ?_ ?_
     rotate_left
     ·show Act.put _ (some 10) _=_
      simp only [Act.put,List.setIfInBounds_toArray,List.set_cons_zero,List.set_cons_succ,i64_w,i32_w]
      rfl
     have hqs:=blk_lt hqpV2
     have hge:Wp.heap.size≤gpV2:=by rw [egpV2];exact hbpV1.size
     have hres2:Dr pV2 (fun k=>((okd k∧k<Wp.heap.size)∨Wp.heap.size≤k)∧k≠gpV2) v0pV1 v1pV1 r1 r2:=(hrespV1.bound.below hspV2).mono (fun k hk=>by have h1_:=hk.2;have h2_:=egpV2;have h4_:=Nat.le_refl Wp.heap.size;replace hk:=hk.1;rcases hk with hk |hk;exact ⟨.inl hk,by have:=hk.2;omega⟩;exact ⟨.inr (by omega),by omega⟩)
     have hcc:=hcont (v0pV1,v1pV1,gpV2) pV2 ⟨hbpV2,hqpV2,hge,hres2⟩
     simp only [putAll,Act.put,List.setIfInBounds_toArray,List.set_cons_zero,List.set_cons_succ] at hcc
     exact hcc
    ·refine value_ (w1:=Wp.alloc (.cells #[.slice none 0 0,.slice none 0 0,.int .i64 0] 29 (0,0))) (v:=.pointer (some ⟨Wp.heap.size,0,none⟩)) (by rfl) rfl ?_ ?_
     ·first |(go_simp;done) |(go_simp;rfl)
     obtain ⟨pV3,epV3⟩:∃ z,z=Wp.alloc (.cells #[.slice none 0 0,.slice none 0 0,.int .i64 0] 29 (0,0)):=⟨_,rfl⟩
     have hspV3:Below Wp.heap.size Wp pV3:=by rw [epV3];exact below_alloc (Below.refl _ _) _
     have hqpV3:pV3.heap[Wp.heap.size]?=some (.cells #[.slice none 0 0,.slice none 0 0,.int .i64 0] 29 (0,0)):=by rw [epV3];exact heap_alloc_last _ _
     rw [← epV3]
     have hbpV3:Below Wp.heap.size Wp pV3:=hspV3
     obtain ⟨gpV3,egpV3⟩:∃ z,z=Wp.heap.size:=⟨_,rfl⟩
     rw [← egpV3] at hqpV3 ⊢
     refine hK.out _ _ ⟨blk_below h3 hbpV3,pw_cell_below hbpV3 hc⟩ (fun hHeld=>?_)
     clear hK K
     refine norm_ (a':=?_) ?_ ?_
     rotate_left
     ·show Act.put _ (some 10) _=_
      simp only [Act.put,List.setIfInBounds_toArray,List.set_cons_zero,List.set_cons_succ,i64_w,i32_w]
      rfl
     refine one_ (i:=7) (N:=(some 34)) #[true,true,true,true,true,true,true,true,false,false,false,true,false,false] rfl rfl (one_of HT_.out (by kernel_rfl)) (by decide) (fun K hK=>?_)
     refine goes_ Try.func39 (by kernel_rfl) rfl #[.agg #[.slice B0 b.length e0,.slice B1 p.length e1,.int .i64 y],.int .i64 (wrap64 (33 + x.f0)),.string x.f1] (by rfl) rfl rfl (by (try simp only [List.map_toArray,List.map_cons,List.map_nil]);first |done |rfl) ?_
     refine (hibernacleref15_Put.calls 5 (fun k=>okd k∧k<Wp.heap.size) B0 e0 b (fun k=>okd k∧k<Wp.heap.size) B1 e1 p y (wrap64 (33 + x.f0)) x.f1 r1 r2 r3 r4 pV3 (hD.bound.below hbpV3).1 (hD.bound.below hbpV3).2 hput).mono ?_
     rintro e_ pV4 ⟨v0pV4,v1pV4,rfl,hapV4,hzpV4,hspV4⟩
     have hrespV4:Dr pV4 (fun k=>(okd k∧k<Wp.heap.size)∨pV3.heap.size≤k) v0pV4 v1pV4 r1 r2:=⟨Kd.V_mono hapV4 (fun k hk=>hk.imp (fun h=>h.elim id id) id),Kd.V_mono hzpV4 (fun k hk=>hk.imp (fun h=>h.elim id id) id)⟩
     refine ⟨_,rfl, ?_⟩
     have hbpV4:Below Wp.heap.size Wp pV4:=below_step hbpV3 hspV4
     have hboxpV4:=blk_below hqpV3 hspV4
     refine hK.out _ _ ⟨blk_below h3 hbpV4,pw_cell_below hbpV4 hc⟩ (fun hHeld=>?_)
     clear hK K
     refine norm_ (a':=?_) ?_ ?_
     rotate_left
     ·show Act.put _ (some 34) _=_
      simp only [Act.put,List.setIfInBounds_toArray,List.set_cons_zero,List.set_cons_succ,i64_w,i32_w]
      rfl
     refine pure_ (i:=8) (N:=(some 26)) (v:=?_) (a':=?_) #[true,true,true,true,true,true,true,true,true,false,false,true,false,false] rfl rfl (any_of HT_.out (by kernel_rfl)) (fun _ _ _ h=>h) (Or.inl ⟨by rfl, ?_⟩) ?_ ?_
     rotate_left
     ·intro w'
      go_simp
      with_reducible rfl
     rotate_left
     ·simp only [Act.put,List.setIfInBounds_toArray,List.set_cons_zero,List.set_cons_succ,i64_w,i32_w]
      rfl
     refine pure_ (i:=9) (N:=(some 35)) (v:=?_) (a':=?_) #[true,true,true,true,true,true,true,true,true,true,false,true,false,false] rfl rfl (any_of HT_.out (by kernel_rfl)) (fun _ _ _ h=>h) (Or.inl ⟨by rfl, ?_⟩) ?_ ?_
     rotate_left
     ·intro w'
      go_simp
      with_reducible rfl
     rotate_left
     ·simp only [Act.put,List.setIfInBounds_toArray,List.set_cons_zero,List.set_cons_succ,i64_w,i32_w]
      rfl
     refine pure_ (i:=10) (N:=(some 36)) (v:=?_) (a':=?_) #[true,true,true,true,true,true,true,true,true,true,true,true,false,false] rfl rfl (any_of HT_.out (by kernel_rfl)) (fun _ _ _ h=>h) (Or.inl ⟨by rfl, ?_⟩) ?_ ?_
     rotate_left
     ·intro w'
      go_simp
      with_reducible rfl
     rotate_left
     ·simp only [Act.put,List.setIfInBounds_toArray,List.set_cons_zero,List.set_cons_succ,i64_w,i32_w]
      rfl
     have hqs:=blk_lt hboxpV4
     have hge:Wp.heap.size≤gpV3:=by rw [egpV3];exact Nat.le_refl _
     have hlb:gpV3<pV3.heap.size:=by have:=blk_lt hqpV3;omega
     have hres2:Dr pV4 (fun k=>((okd k∧k<Wp.heap.size)∨Wp.heap.size≤k)∧k≠gpV3) v0pV4 v1pV4 r1 r2:=hrespV4.mono (fun k hk=>by have h4_:=hbpV3.size;rcases hk with hk |hk;exact ⟨.inl hk,by have:=hk.2;omega⟩;exact ⟨.inr (by omega),by omega⟩)
     have hcc:=hcont (v0pV4,v1pV4,gpV3) pV4 ⟨hbpV4,hboxpV4,hge,hres2⟩
     simp only [putAll,Act.put,List.setIfInBounds_toArray,List.set_cons_zero,List.set_cons_succ] at hcc
     exact hcc
   obtain ⟨v0,v1,b10⟩:=s_
   obtain ⟨hbF,hxF,hgF,hdF⟩:=hF
   obtain ⟨C0,q0,C1,q1,rfl,rfl⟩:=hdF.slices
   dsimp only at hxF hgF hdF
   have m0:=(blk_cell hxF 0).trans rfl
   have m1:=(blk_cell hxF 1).trans rfl
   have m2:=(blk_cell hxF 2).trans rfl
   have f0:=blk_frozen hxF 0
   have f1:=blk_frozen hxF 1
   have f2:=blk_frozen hxF 2
   refine norm_ (a':=?_) ?_ ?_
   rotate_left
   ·simp only [putAll,Act.put,List.setIfInBounds_toArray,List.set_cons_zero,List.set_cons_succ]
    rfl
   refine last_ (i:=12) (N:=none) #[true,true,true,true,true,true,true,true,true,true,true,true,true,false] rfl rfl (one_of HT_.out (by kernel_rfl)) (by decide) (fun K hK=>?_)
   refine skip_ (w1:=?_) (by rfl) rfl ?_ ?_
   rotate_left
   ·go_simp
    rfl
   refine hK.out _ _ ?_
   clear hK K
   refine pure_ (i:=13) (N:=(some 11)) (v:=?_) (a':=?_) #[true,true,true,true,true,true,true,true,true,true,true,true,true,true] rfl rfl (any_of HT_.out (by kernel_rfl)) (fun _ _ _ h=>h) (Or.inl ⟨by rfl, ?_⟩) ?_ ?_
   rotate_left
   ·intro w'
    go_simp
    with_reducible rfl
   rotate_left
   ·simp only [Act.put,List.setIfInBounds_toArray,List.set_cons_zero,List.set_cons_succ,i64_w,i32_w]
    rfl
   refine done_ (done_of HT_.out (by kernel_rfl)) ?_
   refine hKK.out _ _ ?_
   clear hKK KK
   have n3:b3≠b10:=Nat.ne_of_lt (Nat.lt_of_lt_of_le (blk_lt h3) hgF)
   have n6:b6≠b10:=Nat.ne_of_lt (Nat.lt_of_lt_of_le (blk_lt h6) hgF)
   have g10:w.heap.size≤b10:=Nat.le_trans hB0.size hgF
   obtain ⟨U,hU⟩:∃ z,z=(((w'.setCell ⟨b10,0,none⟩ (.slice C0 r1.length q0)).setCell ⟨b10,1,none⟩ (.slice C1 r2.length q1)).setCell ⟨b10,2,none⟩ (.int .i64 r3)):=⟨_,rfl⟩
   have hBU:Below w.heap.size w U:=by rw [hU];exact below_set3 (below_step hB0 hbF) g10 _ _ _
   have h3U:U.heap[b3]?=some (.cells #[.slice B0 b.length e0,.slice B1 p.length e1,.int .i64 y] 29 (0,0)):=by rw [hU];exact blk_far (blk_far (blk_far (blk_below h3 hbF) n3 _) n3 _) n3 _
   have h6U:U.heap[b6]?=some (.cells #[.slice none 0 0,.slice none 0 0,.int .i64 0] 29 (0,0)):=by rw [hU];exact blk_far (blk_far (blk_far (blk_below h6 hbF) n6 _) n6 _) n6 _
   have hxU:U.heap[b10]?=some (.cells #[.slice C0 r1.length q0,.slice C1 r2.length q1,.int .i64 r3] 29 (0,0)):=by rw [hU];exact blk_put (blk_put (blk_put hxF 0 _ rfl) 1 _ rfl) 2 _ rfl
   have hDU:Dr U (fun k=>(ok k∨w.heap.size≤k)∧k≠b3∧k≠b6) (.slice C0 r1.length q0) (.slice C1 r2.length q1) r1 r2:=by
    rw [hU]
    refine (hdF.set3 (g:=b10) (fun k hk=>hk.2) _ _ _).mono (fun k hk=>?_)
    have t1:=blk_lt h3
    have t2:=blk_lt h6
    have t3:=hB0.size
    rcases hk.1 with h |h
    ·have:=h.1;rw [hokd] at this;exact this
    ·exact ⟨.inr (by omega),by omega,by omega⟩
   change Code.wp _ _ _ _ (((w'.setCell ⟨b10,0,none⟩ (.slice C0 r1.length q0)).setCell ⟨b10,1,none⟩ (.slice C1 r2.length q1)).setCell ⟨b10,2,none⟩ (.int .i64 r3))
   rw [← hU]
   clear hU m0 m1 m2 f0 f1 f2 hdF hxF hbF hD h3 h6 hc hgF hB0
   have k0:=(blk_cell hxU 0).trans rfl
   have k1:=(blk_cell hxU 1).trans rfl
   have k2:=(blk_cell hxU 2).trans rfl
   have j0:=(blk_cell h3U 0).trans rfl
   have j1:=(blk_cell h3U 1).trans rfl
   have j2:=(blk_cell h3U 2).trans rfl
   have f0:=blk_frozen h3U 0
   have f1:=blk_frozen h3U 1
   have f2:=blk_frozen h3U 2
   have z0:=(blk_cell h6U 0).trans rfl
   have z1:=(blk_cell h6U 1).trans rfl
   have z2:=(blk_cell h6U 2).trans rfl
   have zf0:=blk_frozen h6U 0
   have zf1:=blk_frozen h6U 1
   have zf2:=blk_frozen h6U 2
   have Y3:=Aside0.mk h3U
   have Y6:=Aside0.mk h6U
   have YD:=Aside0.mk hDU
   have YB:=Aside0.mk hBU
   clear h3U h6U hDU hBU hxU
   by_cases h4:r4=0
   ·have h4b:(r4 == 0)=true:=beq_iff_eq.mpr h4
    have h4c:(r4 != 0)=false:=bne_eq_false_iff_eq.mpr h4
    go_wp2
    go_roundw
    case rel=>
     have hV:=HV2.out
     rw [if_pos h4] at hV
     refine ⟨j + 1,r1,r2,r3,C0,q0,C1,q1,by omega,by simp,⟨hV⟩,⟨by have:=HPL.out;have:=HP.out;omega⟩,⟨?_⟩,⟨?_⟩,⟨?_⟩,⟨?_⟩⟩
     ·exact blk_put (blk_put (blk_put Y3.out 0 _ rfl) 1 _ rfl) 2 _ rfl
     ·exact blk_far (blk_far (blk_far Y6.out n36.symm _) n36.symm _) n36.symm _
     ·exact YD.out.set3 (g:=b3) (fun k hk=>hk.2.1) _ _ _
     ·exact below_set3 YB.out g3 _ _ _
    case measure=>simp only [intOf];omega
   ·have h4b:(r4 == 0)=false:=beq_eq_false_iff_ne.mpr h4
    have h4c:(r4 != 0)=true:=bne_iff_ne.mpr h4
    go_wp2
    have hV:=HV2.out
    rw [if_neg h4] at hV
    refine bodyPost_ret (results_ct rfl _ _ b6 29 #[.slice C0 r1.length q0,.slice C1 r2.length q1,.int .i64 r3] (0,0) _ rfl (blk_put (blk_put (blk_put (blk_far (blk_far (blk_far Y6.out n36.symm _) n36.symm _) n36.symm _) 0 _ rfl) 1 _ rfl) 2 _ rfl) Try.underlying29 rfl (by kernel_rfl)) rfl ?_
    rw [← hV]
    exact ⟨_,_,rfl,((YD.out.set3 (g:=b3) (fun k hk=>hk.2.1) _ _ _).set3 (g:=b6) (fun k hk=>hk.2.2) _ _ _).mono (fun k hk=>hk.1),below_set3 (below_set3 YB.out g3 _ _ _) g6 _ _ _⟩
  ·obtain rfl:j=l.length:=by omega
   have k0:=(blk_cell HX3.out 0).trans rfl
   have k1:=(blk_cell HX3.out 1).trans rfl
   have k2:=(blk_cell HX3.out 2).trans rfl
   have m0:=(blk_cell HX6.out 0).trans rfl
   have m1:=(blk_cell HX6.out 1).trans rfl
   have m2:=(blk_cell HX6.out 2).trans rfl
   have r0:=blk_frozen HX6.out 0
   have r1:=blk_frozen HX6.out 1
   have r2:=blk_frozen HX6.out 2
   go_wp2
   refine bodyPost_ret (results_ct rfl _ _ b6 29 #[.slice B0 b.length e0,.slice B1 p.length e1,.int .i64 y] (0,0) _ rfl (blk_put (blk_put (blk_put HX6.out 0 _ rfl) 1 _ rfl) 2 _ rfl) Try.underlying29 rfl (by kernel_rfl)) rfl ?_
   have hV:=HV.out
   rw [List.drop_of_length_le (by rw [rplan_len];exact Nat.le_refl _),doV] at hV
   rw [← hV]
   exact ⟨_,_,rfl,(HD0.out.set3 (fun k hk=>hk.2.2) _ _ _).mono (fun k hk=>hk.1),below_set3 HB.out g6 _ _ _⟩
end Go.Proofs.Ytjfmnkmgnbbfgaa.A
