/- hibernaclelaw16.awake: the document's example. -/
import Derived.Test.YtjfmnkmgnbbfgaaF1
import Derived.Test.YtjfmnkmgnbbfgaaA98
set_option linter.unusedVariables false
set_option linter.unusedSimpArgs false
namespace Go.Proofs.Ytjfmnkmgnbbfgaa.A
open Go.RowKit Go.Proofs.YtjfmnkmgnbbfgaaW.PrintWords Go.Proofs.YtjfmnkmgnbbfgaaW.PrintLast Go.Proofs.YtjfmnkmgnbbfgaaW.PrintMore
theorem form_volS:wal_Format.f 60 volS=some (Eva,[],-1,0):=by
 rw [form_some volS 60 (by rw [volS_two];omega),formV,if_neg (by rw [volS_two];omega),if_pos volS_whole]
 rfl
theorem C_lit27 {W:World} {g:Nat} {a:Int} {s:ByteArray} (h:W.heap[g]?=some (.cells #[.int .i64 a,.string s] 27 (0,0))):Kd.C k27 W (some ⟨g,0,none⟩) 1 [⟨a,s⟩]:=by
 refine ⟨rfl,by omega,fun _=>⟨_,rfl,fun j p hp=>⟨[.int .i64 p.f0,.string p.f1],rfl,k27_mk W p,fun i u hu=>?_⟩⟩⟩
 have hj:j<1:=(List.getElem?_eq_some_iff.1 hp).1
 obtain rfl:j=0:=by omega
 obtain rfl:(⟨a,s⟩:S27)=p:=by simpa using hp
 have e:(⟨g,0,none⟩:Addr).add (0 * k27.sz + i)=⟨g,i,none⟩:=by
  rw [Nat.zero_mul,Nat.zero_add]
  unfold Addr.add;split <;> simp_all
 rw [e,blk_cell h i]
 rw [← hu]
 simp
theorem row_l1S {W:World} {g:Nat} (h:W.heap[g]?=some (.cells #[.int .i64 1,.string s0] 27 (0,0))):Kd.C k27 W (some ⟨g,0,none⟩) 1 l1S:=C_lit27 h
def hawa.T:Bool × List (List Nat × List Nat):=(true,[([],[]),([],[]),([1],[1]),([2],[2]),([3],[3]),([4],[4]),([0,5],[0,5]),([6],[6]),([7],[7]),([7],[7]),([],[]),([10,8,6,0,1,2,3,4,5,6,7,8,10],[8,10]),([9,11,0,1,2,3,4,5,6,7,8,9,10,11],[9])])
def hawa.B:List Nat:=[0,0,2,6,14,30,63,127,255,255,0,1535,4095]
theorem hawa.tab:rtab .any (opsOf Try.f21 4)=hawa.T:=by kernel_rfl
theorem hawa.bits:waitsOk hawa.T.2 hawa.B=true:=by kernel_rfl
def hawb.T:Bool × List (List Nat × List Nat):=(true,[([],[]),([],[]),([1],[1]),([2],[2]),([3],[3]),([4],[4]),([0,5],[0,5]),([6],[6]),([7],[7]),([7],[7]),([],[]),([10,8,6,0,1,2,3,4,5,6,7,8,10],[8,10]),([9,11,0,1,2,3,4,5,6,7,8,9,10,11],[9])])
def hawb.B:List Nat:=[0,0,2,6,14,30,63,127,255,255,0,1535,4095]
theorem hawb.tab:rtab .any (opsOf Try.f21 6)=hawb.T:=by kernel_rfl
theorem hawb.bits:waitsOk hawb.T.2 hawb.B=true:=by kernel_rfl
set_option maxHeartbeats 8000000 in
set_option maxRecDepth 100000 in
theorem awake_walk (w:World):Calls Try.prog 21 #[] w fun e w'=>e=.returned (.bool true)∧Below w.heap.size w w':=by
 have hu29:=Try.underlying29
 go_enter Try.func21,Try.ntmps21
 go_wp2_with (first
  | ((with_reducible refine gate_dst (N:=9) rfl ?_);refine goesL_ (some 9) rfl rfl Try.func63 (by kernel_rfl) rfl #[.int .i64 2] rfl (by (try simp only [List.map_toArray,List.map_cons,List.map_nil]);first |done |rfl) ?_;refine (hibernaclelaw16_volume.calls 300 2 volS _ volS_some).mono ?_;rintro e w9 ⟨v9,rfl,hr9,hb9⟩;obtain ⟨Av,cv,rfl⟩:=Kd.R_slice hr9;refine ⟨_,rfl, ?_⟩;rw [volS_two];have HV9:=Aside0.mk (Kd.R_reads' hr9);have HB9:=Aside0.mk hb9;clear hr9 hb9)
  | ((with_reducible refine gate_dst (N:=12) rfl ?_);refine goesL_ (some 12) rfl rfl Try.func22 (by kernel_rfl) rfl #[.slice Av 2 cv] rfl (by (try simp only [List.map_toArray,List.map_cons,List.map_nil]);first |done |rfl) ?_;have hcall:=wal_Format.calls 60 Av cv volS Eva [] (-1) 0 w9 HV9.out.2.2 HV9.out.2.1 form_volS;rw [volS_two] at hcall;refine hcall.mono ?_;rintro e w12 ⟨v0,v1,rfl,h0,h1,hb12⟩;have hD:=Dr.of_R h0 h1;obtain ⟨B0,e0,B1,e1,rfl,rfl⟩:=hD.slices;refine ⟨_,rfl, ?_⟩;have HD:=Aside0.mk hD;have HV12:=Aside0.mk (Kd.C_below HV9.out.2.2 hb12);have HB12:=Aside0.mk (below_step HB9.out hb12);clear hD h0 h1 hb12)
  | ((with_reducible refine gate_dst (N:=2) rfl ?_);refine box_event ?hg (N:=2) ?hd (cs:=#[.slice none 0 0,.slice none 0 0,.int .i64 0]) (t:=29) ?hr ?_;(case hd=>rfl);(case hg=>rfl);(case hr=>first |(go_simp;done) |(go_simp;rfl));intro b2 hb2 w2 hx2 hl2;have k0:=(blk_cell hx2 0).trans rfl;have k1:=(blk_cell hx2 1).trans rfl;have k2:=(blk_cell hx2 2).trans rfl;have f0:=blk_frozen hx2 0;have f1:=blk_frozen hx2 1;have f2:=blk_frozen hx2 2;have HX2:=Aside0.mk hx2;have HL2:=Aside0.mk hl2;have HB2:=Aside0.mk hb2;clear hx2 hl2 hb2)
  | fail)
 rename_i KK hKK
 replace hKK:=Aside0.mk hKK
 obtain ⟨ad,rfl,hc12⟩:=Kd.at_string HV12.out 0 (by omega) (by rw [volS_two];decide)
 have hc12:w12.cell? ad=some (.string s0):=by
  have ha0:ad.add (Int.toNat 0)=ad:=by unfold Addr.add;simp
  rw [ha0] at hc12
  exact hc12
 obtain ⟨okd,hokd⟩:∃ z,z=fun k=>w9.heap.size≤k∧k<w12.heap.size:=⟨_,rfl⟩
 have hD12:=HD.out
 rw [← hokd] at hD12
 have g2:w12.heap.size≤b2:=Nat.le_of_eq HB2.out.symm
 obtain ⟨Wx,hWx⟩:∃ z,z=((((w2.setCell ⟨b2,0,none⟩ (.slice B0 Eva.length e0)).setCell ⟨b2,1,none⟩ (.slice B1 0 e1)).setCell ⟨b2,2,none⟩ (.int .i64 (-1))).setCell ⟨b2,2,none⟩ (.int .i64 4)):=⟨_,rfl⟩
 have hbx:Below w12.heap.size w12 Wx:=by rw [hWx];exact (below_set3 HL2.out g2 _ _ _).setCell (p:=⟨b2,2,none⟩) g2 _
 have h2:Wx.drew.heap[b2]?=some (.cells #[.slice B0 Eva.length e0,.slice B1 0 e1,.int .i64 4] 29 (0,0)):=by rw [hWx];exact blk_put (blk_put (blk_put (blk_put HX2.out 0 _ rfl) 1 _ rfl) 2 _ rfl) 2 _ rfl
 rw [← hWx]
 have hb12:Below w12.heap.size w12 Wx.drew:=hbx.drew
 have hc:Wx.drew.cell? ad=some (.string s0):=pw_cell_below hb12 hc12
 have hD:=hD12.below hb12
 clear hWx hbx k0 k1 k2 f0 f1 f2 HX2 HL2
 refine start_ (n:=13) (S:=fun w'=>w'.heap[b2]?=some (.cells #[.slice B0 Eva.length e0,.slice B1 0 e1,.int .i64 4] 29 (0,0))∧w'.cell? ad=some (.string s0)) (ds:=[11]) #[false,false,false,false,false,false,false,false,false,false,false,false,false] (by kernel_rfl) rfl rfl ⟨h2,hc⟩ (fun hHeld=>?_);refine with_tabW hawa.tab hawa.bits (fun HT_ HW_=>?_)
 generalize Wx.drew=Wa at hD h2 hc hb12 hHeld ⊢
 refine take_ (i:=0) (N:=(some 17)) (v:=?_) (a':=?_) #[true,false,false,false,false,false,false,false,false,false,false,false,false] rfl rfl (take_ofW HT_.out HW_.out (by kernel_rfl)) (fun _ _ _ h=>h) (Or.inl ⟨by rfl, ?_⟩) hHeld ?_ ?_
 rotate_left
 ·rintro w' s1;have t0:=(blk_cell s1.1 0).trans rfl;have t1:=(blk_cell s1.1 1).trans rfl;have t2:=(blk_cell s1.1 2).trans rfl
  go_simp
  with_reducible rfl
 rotate_left
 ·simp only [Act.put,List.setIfInBounds_toArray,List.set_cons_zero,List.set_cons_succ,i64_w,i32_w]
  rfl
 refine pure_ (i:=1) (N:=(some 18)) (v:=?_) (a':=?_) #[true,true,false,false,false,false,false,false,false,false,false,false,false] rfl rfl (any_of HT_.out (by kernel_rfl)) (fun _ _ _ h=>h) (Or.inl ⟨by rfl, ?_⟩) ?_ ?_
 rotate_left
 ·intro w'
  go_simp
  with_reducible rfl
 rotate_left
 ·simp only [Act.put,List.setIfInBounds_toArray,List.set_cons_zero,List.set_cons_succ,i64_w,i32_w]
  rfl
 refine pure_ (i:=2) (N:=(some 19)) (v:=?_) (a':=?_) #[true,true,true,false,false,false,false,false,false,false,false,false,false] rfl rfl (any_of HT_.out (by kernel_rfl)) (fun _ _ _ h=>h) (Or.inl ⟨by rfl, ?_⟩) ?_ ?_
 rotate_left
 ·intro w'
  go_simp
  with_reducible rfl
 rotate_left
 ·simp only [Act.put,List.setIfInBounds_toArray,List.set_cons_zero,List.set_cons_succ,i64_w,i32_w]
  rfl
 refine take_ (i:=3) (N:=(some 20)) (v:=?_) (a':=?_) #[true,true,true,true,false,false,false,false,false,false,false,false,false] rfl rfl (take_ofW HT_.out HW_.out (by kernel_rfl)) (fun _ _ _ h=>h) (Or.inl ⟨by rfl, ?_⟩) hHeld ?_ ?_
 rotate_left
 ·rintro w' s1;have t0:=s1.2
  go_simp
  with_reducible rfl
 rotate_left
 ·simp only [Act.put,List.setIfInBounds_toArray,List.set_cons_zero,List.set_cons_succ,i64_w,i32_w]
  rfl
 refine pure_ (i:=4) (N:=(some 21)) (v:=?_) (a':=?_) #[true,true,true,true,true,false,false,false,false,false,false,false,false] rfl rfl (any_of HT_.out (by kernel_rfl)) (fun _ _ _ h=>h) (Or.inl ⟨by rfl, ?_⟩) ?_ ?_
 rotate_left
 ·intro w'
  go_simp
  with_reducible rfl
 rotate_left
 ·simp only [Act.put,List.setIfInBounds_toArray,List.set_cons_zero,List.set_cons_succ,i64_w,i32_w]
  rfl
 refine join_ (σ:=Value × Value × Value × Nat) 2 #[true,true,true,true,true,true,true,true,true,true,true,false,false] (fun s_=>[(22,s_.1),(23,.tuple #[.agg #[s_.2.1,s_.2.2.1,.int .i64 0],.int .i64 17]),(4,.pointer (some ⟨s_.2.2.2,0,none⟩)),(16,.tuple #[.agg #[s_.2.1,s_.2.2.1,.int .i64 0],.int .i64 17]),(24,.agg #[s_.2.1,s_.2.2.1,.int .i64 0]),(25,.int .i64 17)]) (fun s_ w'=>Below Wa.heap.size Wa w'∧w'.heap[s_.2.2.2]?=some (.cells #[.slice none 0 0,.slice none 0 0,.int .i64 0] 29 (0,0))∧Wa.heap.size≤s_.2.2.2∧Dr w' (fun k=>((okd k∧k<Wa.heap.size)∨Wa.heap.size≤k)∧k≠s_.2.2.2) s_.2.1 s_.2.2.1 Evb [⟨34,s0⟩]) (fun s_ w' hF=>?_) (fun hcont=>?ord4)
 case ord4=>
  refine two_ (i:=5) (j:=10) (Ni:=(some 22)) (Nj:=(some 4)) #[true,true,true,true,true,true,false,false,false,false,false,false,false] #[true,true,true,true,true,false,false,false,false,false,true,false,false] rfl rfl rfl rfl (two_of HT_.out (by kernel_rfl)) (by decide) (by decide) (fun K hK=>?_) (fun K hK=>?_)
  ·refine value_ (w1:=Wa.alloc (.cells #[.int .i64 1,.string s0] 27 (0,0))) (v:=.slice (some ⟨Wa.heap.size,0,none⟩) 1 1) (by rfl) rfl ?_ ?_
   ·first |(go_simp;done) |(go_simp;rfl)
   obtain ⟨aV1,eaV1⟩:∃ z,z=Wa.alloc (.cells #[.int .i64 1,.string s0] 27 (0,0)):=⟨_,rfl⟩
   have hsaV1:Below Wa.heap.size Wa aV1:=by rw [eaV1];exact below_alloc (Below.refl _ _) _
   have hqaV1:aV1.heap[Wa.heap.size]?=some (.cells #[.int .i64 1,.string s0] 27 (0,0)):=by rw [eaV1];exact heap_alloc_last _ _
   rw [← eaV1]
   have hbaV1:Below Wa.heap.size Wa aV1:=hsaV1
   obtain ⟨gaV1,egaV1⟩:∃ z,z=Wa.heap.size:=⟨_,rfl⟩
   rw [← egaV1] at hqaV1 ⊢
   have hrowaV1:Kd.C k27 aV1 (some ⟨gaV1,0,none⟩) 1 l1S:=row_l1S hqaV1
   refine hK.out _ _ ⟨blk_below h2 hbaV1,pw_cell_below hbaV1 hc⟩ (fun hHeld=>?_)
   clear hK K
   refine norm_ (a':=?_) ?_ ?_
   rotate_left
   ·show Act.put _ (some 22) _=_
    simp only [Act.put,List.setIfInBounds_toArray,List.set_cons_zero,List.set_cons_succ,i64_w,i32_w]
    rfl
   refine two_ (i:=6) (j:=10) (Ni:=(some 23)) (Nj:=(some 4)) #[true,true,true,true,true,true,true,false,false,false,false,false,false] #[true,true,true,true,true,true,false,false,false,false,true,false,false] rfl rfl rfl rfl (two_of HT_.out (by kernel_rfl)) (by decide) (by decide) (fun K hK=>?_) (fun K hK=>?_)
   ·refine goes_ Try.func23 (by kernel_rfl) rfl #[.agg #[.slice B0 Eva.length e0,.slice B1 0 e1,.int .i64 4],.slice (some ⟨gaV1,0,none⟩) l1S.length 1] (by rfl) rfl rfl (by (try simp only [List.map_toArray,List.map_cons,List.map_nil]);first |done |rfl) ?_
    refine (commit_walk B0 e0 Eva B1 e1 [] 4 (some ⟨gaV1,0,none⟩) 1 l1S (fun k=>okd k∧k<Wa.heap.size) aV1 (hD.bound.below hbaV1) hrowaV1 (by simp [l1S]) (by simp) (by rw [Eva_len];omega)).mono ?_
    rw [awake4]
    rintro e_ aV2 ⟨v0aV2,v1aV2,rfl,hresaV2,hsaV2⟩
    refine ⟨_,rfl, ?_⟩
    have hbaV2:Below Wa.heap.size Wa aV2:=below_step hbaV1 hsaV2
    have hrowaV2:=Kd.C_below hrowaV1 hsaV2
    refine hK.out _ _ ⟨blk_below h2 hbaV2,pw_cell_below hbaV2 hc⟩ (fun hHeld=>?_)
    clear hK K
    refine norm_ (a':=?_) ?_ ?_
    rotate_left
    ·show Act.put _ (some 23) _=_
     simp only [Act.put,List.setIfInBounds_toArray,List.set_cons_zero,List.set_cons_succ,i64_w,i32_w]
     rfl
    refine pure_ (i:=7) (N:=(some 16)) (v:=?_) (a':=?_) #[true,true,true,true,true,true,true,true,false,false,false,false,false] rfl rfl (any_of HT_.out (by kernel_rfl)) (fun _ _ _ h=>h) (Or.inl ⟨by rfl, ?_⟩) ?_ ?_
    rotate_left
    ·intro w'
     go_simp
     with_reducible rfl
    rotate_left
    ·simp only [Act.put,List.setIfInBounds_toArray,List.set_cons_zero,List.set_cons_succ,i64_w,i32_w]
     rfl
    refine pure_ (i:=8) (N:=(some 24)) (v:=?_) (a':=?_) #[true,true,true,true,true,true,true,true,true,false,false,false,false] rfl rfl (any_of HT_.out (by kernel_rfl)) (fun _ _ _ h=>h) (Or.inl ⟨by rfl, ?_⟩) ?_ ?_
    rotate_left
    ·intro w'
     go_simp
     with_reducible rfl
    rotate_left
    ·simp only [Act.put,List.setIfInBounds_toArray,List.set_cons_zero,List.set_cons_succ,i64_w,i32_w]
     rfl
    refine pure_ (i:=9) (N:=(some 25)) (v:=?_) (a':=?_) #[true,true,true,true,true,true,true,true,true,true,false,false,false] rfl rfl (any_of HT_.out (by kernel_rfl)) (fun _ _ _ h=>h) (Or.inl ⟨by rfl, ?_⟩) ?_ ?_
    rotate_left
    ·intro w'
     go_simp
     with_reducible rfl
    rotate_left
    ·simp only [Act.put,List.setIfInBounds_toArray,List.set_cons_zero,List.set_cons_succ,i64_w,i32_w]
     rfl
    refine one_ (i:=10) (N:=(some 4)) #[true,true,true,true,true,true,true,true,true,true,true,false,false] rfl rfl (one_of HT_.out (by kernel_rfl)) (by decide) (fun K hK=>?_)
    refine value_ (w1:=aV2.alloc (.cells #[.slice none 0 0,.slice none 0 0,.int .i64 0] 29 (0,0))) (v:=.pointer (some ⟨aV2.heap.size,0,none⟩)) (by rfl) rfl ?_ ?_
    ·first |(go_simp;done) |(go_simp;rfl)
    obtain ⟨aV3,eaV3⟩:∃ z,z=aV2.alloc (.cells #[.slice none 0 0,.slice none 0 0,.int .i64 0] 29 (0,0)):=⟨_,rfl⟩
    have hsaV3:Below aV2.heap.size aV2 aV3:=by rw [eaV3];exact below_alloc (Below.refl _ _) _
    have hqaV3:aV3.heap[aV2.heap.size]?=some (.cells #[.slice none 0 0,.slice none 0 0,.int .i64 0] 29 (0,0)):=by rw [eaV3];exact heap_alloc_last _ _
    rw [← eaV3]
    have hbaV3:Below Wa.heap.size Wa aV3:=below_step hbaV2 hsaV3
    have hrowaV3:=Kd.C_below hrowaV2 hsaV3
    have hresaV3:=hresaV2.below hsaV3
    obtain ⟨gaV3,egaV3⟩:∃ z,z=aV2.heap.size:=⟨_,rfl⟩
    rw [← egaV3] at hqaV3 ⊢
    refine hK.out _ _ ⟨blk_below h2 hbaV3,pw_cell_below hbaV3 hc⟩ (fun hHeld=>?_)
    clear hK K
    refine norm_ (a':=?_) ?_ ?_
    rotate_left
    ·show Act.put _ (some 4) _=_
     simp only [Act.put,List.setIfInBounds_toArray,List.set_cons_zero,List.set_cons_succ,i64_w,i32_w]
     rfl
    have hqs:=blk_lt hqaV3
    have hge:Wa.heap.size≤gaV3:=by rw [egaV3];exact hbaV2.size
    have hres2:Dr aV3 (fun k=>((okd k∧k<Wa.heap.size)∨Wa.heap.size≤k)∧k≠gaV3) v0aV2 v1aV2 Evb [⟨34,s0⟩]:=(hresaV2.bound.below hsaV3).mono (fun k hk=>by have h1_:=hk.2;have h2_:=egaV3;have h4_:=hbaV1.size;rcases hk.1 with hk |hk;exact ⟨.inl hk,by have:=hk.2;omega⟩;exact ⟨.inr (by omega),by omega⟩)
    have hcc:=hcont (.slice (some ⟨gaV1,0,none⟩) 1 1,v0aV2,v1aV2,gaV3) aV3 ⟨hbaV3,hqaV3,hge,hres2⟩
    simp only [putAll,Act.put,List.setIfInBounds_toArray,List.set_cons_zero,List.set_cons_succ] at hcc
    exact hcc
   ·refine value_ (w1:=aV1.alloc (.cells #[.slice none 0 0,.slice none 0 0,.int .i64 0] 29 (0,0))) (v:=.pointer (some ⟨aV1.heap.size,0,none⟩)) (by rfl) rfl ?_ ?_
    ·first |(go_simp;done) |(go_simp;rfl)
    obtain ⟨aV4,eaV4⟩:∃ z,z=aV1.alloc (.cells #[.slice none 0 0,.slice none 0 0,.int .i64 0] 29 (0,0)):=⟨_,rfl⟩
    have hsaV4:Below aV1.heap.size aV1 aV4:=by rw [eaV4];exact below_alloc (Below.refl _ _) _
    have hqaV4:aV4.heap[aV1.heap.size]?=some (.cells #[.slice none 0 0,.slice none 0 0,.int .i64 0] 29 (0,0)):=by rw [eaV4];exact heap_alloc_last _ _
    rw [← eaV4]
    have hbaV4:Below Wa.heap.size Wa aV4:=below_step hbaV1 hsaV4
    have hrowaV4:=Kd.C_below hrowaV1 hsaV4
    obtain ⟨gaV4,egaV4⟩:∃ z,z=aV1.heap.size:=⟨_,rfl⟩
    rw [← egaV4] at hqaV4 ⊢
    refine hK.out _ _ ⟨blk_below h2 hbaV4,pw_cell_below hbaV4 hc⟩ (fun hHeld=>?_)
    clear hK K
    refine norm_ (a':=?_) ?_ ?_
    rotate_left
    ·show Act.put _ (some 4) _=_
     simp only [Act.put,List.setIfInBounds_toArray,List.set_cons_zero,List.set_cons_succ,i64_w,i32_w]
     rfl
    refine one_ (i:=6) (N:=(some 23)) #[true,true,true,true,true,true,true,false,false,false,true,false,false] rfl rfl (one_of HT_.out (by kernel_rfl)) (by decide) (fun K hK=>?_)
    refine goes_ Try.func23 (by kernel_rfl) rfl #[.agg #[.slice B0 Eva.length e0,.slice B1 0 e1,.int .i64 4],.slice (some ⟨gaV1,0,none⟩) l1S.length 1] (by rfl) rfl rfl (by (try simp only [List.map_toArray,List.map_cons,List.map_nil]);first |done |rfl) ?_
    refine (commit_walk B0 e0 Eva B1 e1 [] 4 (some ⟨gaV1,0,none⟩) 1 l1S (fun k=>okd k∧k<Wa.heap.size) aV4 (hD.bound.below hbaV4) hrowaV4 (by simp [l1S]) (by simp) (by rw [Eva_len];omega)).mono ?_
    rw [awake4]
    rintro e_ aV5 ⟨v0aV5,v1aV5,rfl,hresaV5,hsaV5⟩
    refine ⟨_,rfl, ?_⟩
    have hbaV5:Below Wa.heap.size Wa aV5:=below_step hbaV4 hsaV5
    have hrowaV5:=Kd.C_below hrowaV4 hsaV5
    have hboxaV5:=blk_below hqaV4 hsaV5
    refine hK.out _ _ ⟨blk_below h2 hbaV5,pw_cell_below hbaV5 hc⟩ (fun hHeld=>?_)
    clear hK K
    refine norm_ (a':=?_) ?_ ?_
    rotate_left
    ·show Act.put _ (some 23) _=_
     simp only [Act.put,List.setIfInBounds_toArray,List.set_cons_zero,List.set_cons_succ,i64_w,i32_w]
     rfl
    refine pure_ (i:=7) (N:=(some 16)) (v:=?_) (a':=?_) #[true,true,true,true,true,true,true,true,false,false,true,false,false] rfl rfl (any_of HT_.out (by kernel_rfl)) (fun _ _ _ h=>h) (Or.inl ⟨by rfl, ?_⟩) ?_ ?_
    rotate_left
    ·intro w'
     go_simp
     with_reducible rfl
    rotate_left
    ·simp only [Act.put,List.setIfInBounds_toArray,List.set_cons_zero,List.set_cons_succ,i64_w,i32_w]
     rfl
    refine pure_ (i:=8) (N:=(some 24)) (v:=?_) (a':=?_) #[true,true,true,true,true,true,true,true,true,false,true,false,false] rfl rfl (any_of HT_.out (by kernel_rfl)) (fun _ _ _ h=>h) (Or.inl ⟨by rfl, ?_⟩) ?_ ?_
    rotate_left
    ·intro w'
     go_simp
     with_reducible rfl
    rotate_left
    ·simp only [Act.put,List.setIfInBounds_toArray,List.set_cons_zero,List.set_cons_succ,i64_w,i32_w]
     rfl
    refine pure_ (i:=9) (N:=(some 25)) (v:=?_) (a':=?_) #[true,true,true,true,true,true,true,true,true,true,true,false,false] rfl rfl (any_of HT_.out (by kernel_rfl)) (fun _ _ _ h=>h) (Or.inl ⟨by rfl, ?_⟩) ?_ ?_
    rotate_left
    ·intro w'
     go_simp
     with_reducible rfl
    rotate_left
    ·simp only [Act.put,List.setIfInBounds_toArray,List.set_cons_zero,List.set_cons_succ,i64_w,i32_w]
     rfl
    have hqs:=blk_lt hboxaV5
    have hge:Wa.heap.size≤gaV4:=by rw [egaV4];exact hbaV1.size
    have hlb:gaV4<aV4.heap.size:=by have:=blk_lt hqaV4;omega
    have hres2:Dr aV5 (fun k=>((okd k∧k<Wa.heap.size)∨Wa.heap.size≤k)∧k≠gaV4) v0aV5 v1aV5 Evb [⟨34,s0⟩]:=hresaV5.mono (fun k hk=>by have h4_:=hbaV4.size;rcases hk with hk |hk;exact ⟨.inl hk,by have:=hk.2;omega⟩;exact ⟨.inr (by omega),by omega⟩)
    have hcc:=hcont (.slice (some ⟨gaV1,0,none⟩) 1 1,v0aV5,v1aV5,gaV4) aV5 ⟨hbaV5,hboxaV5,hge,hres2⟩
    simp only [putAll,Act.put,List.setIfInBounds_toArray,List.set_cons_zero,List.set_cons_succ] at hcc
    exact hcc
  ·refine value_ (w1:=Wa.alloc (.cells #[.slice none 0 0,.slice none 0 0,.int .i64 0] 29 (0,0))) (v:=.pointer (some ⟨Wa.heap.size,0,none⟩)) (by rfl) rfl ?_ ?_
   ·first |(go_simp;done) |(go_simp;rfl)
   obtain ⟨aV6,eaV6⟩:∃ z,z=Wa.alloc (.cells #[.slice none 0 0,.slice none 0 0,.int .i64 0] 29 (0,0)):=⟨_,rfl⟩
   have hsaV6:Below Wa.heap.size Wa aV6:=by rw [eaV6];exact below_alloc (Below.refl _ _) _
   have hqaV6:aV6.heap[Wa.heap.size]?=some (.cells #[.slice none 0 0,.slice none 0 0,.int .i64 0] 29 (0,0)):=by rw [eaV6];exact heap_alloc_last _ _
   rw [← eaV6]
   have hbaV6:Below Wa.heap.size Wa aV6:=hsaV6
   obtain ⟨gaV6,egaV6⟩:∃ z,z=Wa.heap.size:=⟨_,rfl⟩
   rw [← egaV6] at hqaV6 ⊢
   refine hK.out _ _ ⟨blk_below h2 hbaV6,pw_cell_below hbaV6 hc⟩ (fun hHeld=>?_)
   clear hK K
   refine norm_ (a':=?_) ?_ ?_
   rotate_left
   ·show Act.put _ (some 4) _=_
    simp only [Act.put,List.setIfInBounds_toArray,List.set_cons_zero,List.set_cons_succ,i64_w,i32_w]
    rfl
   refine one_ (i:=5) (N:=(some 22)) #[true,true,true,true,true,true,false,false,false,false,true,false,false] rfl rfl (one_of HT_.out (by kernel_rfl)) (by decide) (fun K hK=>?_)
   refine value_ (w1:=aV6.alloc (.cells #[.int .i64 1,.string s0] 27 (0,0))) (v:=.slice (some ⟨aV6.heap.size,0,none⟩) 1 1) (by rfl) rfl ?_ ?_
   ·first |(go_simp;done) |(go_simp;rfl)
   obtain ⟨aV7,eaV7⟩:∃ z,z=aV6.alloc (.cells #[.int .i64 1,.string s0] 27 (0,0)):=⟨_,rfl⟩
   have hsaV7:Below aV6.heap.size aV6 aV7:=by rw [eaV7];exact below_alloc (Below.refl _ _) _
   have hqaV7:aV7.heap[aV6.heap.size]?=some (.cells #[.int .i64 1,.string s0] 27 (0,0)):=by rw [eaV7];exact heap_alloc_last _ _
   rw [← eaV7]
   have hbaV7:Below Wa.heap.size Wa aV7:=below_step hbaV6 hsaV7
   have hboxaV7:=blk_below hqaV6 hsaV7
   obtain ⟨gaV7,egaV7⟩:∃ z,z=aV6.heap.size:=⟨_,rfl⟩
   rw [← egaV7] at hqaV7 ⊢
   have hrowaV7:Kd.C k27 aV7 (some ⟨gaV7,0,none⟩) 1 l1S:=row_l1S hqaV7
   refine hK.out _ _ ⟨blk_below h2 hbaV7,pw_cell_below hbaV7 hc⟩ (fun hHeld=>?_)
   clear hK K
   refine norm_ (a':=?_) ?_ ?_
   rotate_left
   ·show Act.put _ (some 22) _=_
    simp only [Act.put,List.setIfInBounds_toArray,List.set_cons_zero,List.set_cons_succ,i64_w,i32_w]
    rfl
   refine one_ (i:=6) (N:=(some 23)) #[true,true,true,true,true,true,true,false,false,false,true,false,false] rfl rfl (one_of HT_.out (by kernel_rfl)) (by decide) (fun K hK=>?_)
   refine goes_ Try.func23 (by kernel_rfl) rfl #[.agg #[.slice B0 Eva.length e0,.slice B1 0 e1,.int .i64 4],.slice (some ⟨gaV7,0,none⟩) l1S.length 1] (by rfl) rfl rfl (by (try simp only [List.map_toArray,List.map_cons,List.map_nil]);first |done |rfl) ?_
   refine (commit_walk B0 e0 Eva B1 e1 [] 4 (some ⟨gaV7,0,none⟩) 1 l1S (fun k=>okd k∧k<Wa.heap.size) aV7 (hD.bound.below hbaV7) hrowaV7 (by simp [l1S]) (by simp) (by rw [Eva_len];omega)).mono ?_
   rw [awake4]
   rintro e_ aV8 ⟨v0aV8,v1aV8,rfl,hresaV8,hsaV8⟩
   refine ⟨_,rfl, ?_⟩
   have hbaV8:Below Wa.heap.size Wa aV8:=below_step hbaV7 hsaV8
   have hboxaV8:=blk_below hboxaV7 hsaV8
   have hrowaV8:=Kd.C_below hrowaV7 hsaV8
   refine hK.out _ _ ⟨blk_below h2 hbaV8,pw_cell_below hbaV8 hc⟩ (fun hHeld=>?_)
   clear hK K
   refine norm_ (a':=?_) ?_ ?_
   rotate_left
   ·show Act.put _ (some 23) _=_
    simp only [Act.put,List.setIfInBounds_toArray,List.set_cons_zero,List.set_cons_succ,i64_w,i32_w]
    rfl
   refine pure_ (i:=7) (N:=(some 16)) (v:=?_) (a':=?_) #[true,true,true,true,true,true,true,true,false,false,true,false,false] rfl rfl (any_of HT_.out (by kernel_rfl)) (fun _ _ _ h=>h) (Or.inl ⟨by rfl, ?_⟩) ?_ ?_
   rotate_left
   ·intro w'
    go_simp
    with_reducible rfl
   rotate_left
   ·simp only [Act.put,List.setIfInBounds_toArray,List.set_cons_zero,List.set_cons_succ,i64_w,i32_w]
    rfl
   refine pure_ (i:=8) (N:=(some 24)) (v:=?_) (a':=?_) #[true,true,true,true,true,true,true,true,true,false,true,false,false] rfl rfl (any_of HT_.out (by kernel_rfl)) (fun _ _ _ h=>h) (Or.inl ⟨by rfl, ?_⟩) ?_ ?_
   rotate_left
   ·intro w'
    go_simp
    with_reducible rfl
   rotate_left
   ·simp only [Act.put,List.setIfInBounds_toArray,List.set_cons_zero,List.set_cons_succ,i64_w,i32_w]
    rfl
   refine pure_ (i:=9) (N:=(some 25)) (v:=?_) (a':=?_) #[true,true,true,true,true,true,true,true,true,true,true,false,false] rfl rfl (any_of HT_.out (by kernel_rfl)) (fun _ _ _ h=>h) (Or.inl ⟨by rfl, ?_⟩) ?_ ?_
   rotate_left
   ·intro w'
    go_simp
    with_reducible rfl
   rotate_left
   ·simp only [Act.put,List.setIfInBounds_toArray,List.set_cons_zero,List.set_cons_succ,i64_w,i32_w]
    rfl
   have hqs:=blk_lt hboxaV8
   have hge:Wa.heap.size≤gaV6:=by rw [egaV6];exact Nat.le_refl _
   have hlb:gaV6<aV7.heap.size:=by have:=blk_lt hboxaV7;omega
   have hres2:Dr aV8 (fun k=>((okd k∧k<Wa.heap.size)∨Wa.heap.size≤k)∧k≠gaV6) v0aV8 v1aV8 Evb [⟨34,s0⟩]:=hresaV8.mono (fun k hk=>by have h4_:=hbaV7.size;rcases hk with hk |hk;exact ⟨.inl hk,by have:=hk.2;omega⟩;exact ⟨.inr (by omega),by omega⟩)
   have hcc:=hcont (.slice (some ⟨gaV7,0,none⟩) 1 1,v0aV8,v1aV8,gaV6) aV8 ⟨hbaV8,hboxaV8,hge,hres2⟩
   simp only [putAll,Act.put,List.setIfInBounds_toArray,List.set_cons_zero,List.set_cons_succ] at hcc
   exact hcc
 obtain ⟨v22,v0,v1,b4⟩:=s_
 obtain ⟨hbF,hxF,hgF,hdF⟩:=hF
 obtain ⟨C0,q0,C1,q1,rfl,rfl⟩:=hdF.slices
 dsimp only at hxF hgF hdF
 have m0:=(blk_cell hxF 0).trans rfl
 have m1:=(blk_cell hxF 1).trans rfl
 have m2:=(blk_cell hxF 2).trans rfl
 have f0:=blk_frozen hxF 0
 have f1:=blk_frozen hxF 1
 have f2:=blk_frozen hxF 2
 refine norm_ (a':=?_) ?_ ?_
 rotate_left
 ·simp only [putAll,Act.put,List.setIfInBounds_toArray,List.set_cons_zero,List.set_cons_succ]
  rfl
 refine last_ (i:=11) (N:=none) #[true,true,true,true,true,true,true,true,true,true,true,true,false] rfl rfl (one_of HT_.out (by kernel_rfl)) (by decide) (fun K hK=>?_)
 refine skip_ (w1:=?_) (by rfl) rfl ?_ ?_
 rotate_left
 ·go_simp
  rfl
 refine hK.out _ _ ?_
 clear hK K
 refine pure_ (i:=12) (N:=(some 5)) (v:=?_) (a':=?_) #[true,true,true,true,true,true,true,true,true,true,true,true,true] rfl rfl (any_of HT_.out (by kernel_rfl)) (fun _ _ _ h=>h) (Or.inl ⟨by rfl, ?_⟩) ?_ ?_
 rotate_left
 ·intro w'
  go_simp
  with_reducible rfl
 rotate_left
 ·simp only [Act.put,List.setIfInBounds_toArray,List.set_cons_zero,List.set_cons_succ,i64_w,i32_w]
  rfl
 refine done_ (done_of HT_.out (by kernel_rfl)) ?_
 refine hKK.out _ _ ?_
 clear hKK KK
 have n24:b2≠b4:=Nat.ne_of_lt (Nat.lt_of_lt_of_le (blk_lt h2) hgF)
 have g4:w12.heap.size≤b4:=Nat.le_trans hb12.size hgF
 obtain ⟨U,hU⟩:∃ z,z=(((w'.setCell ⟨b4,0,none⟩ (.slice C0 Evb.length q0)).setCell ⟨b4,1,none⟩ (.slice C1 1 q1)).setCell ⟨b4,2,none⟩ (.int .i64 0)):=⟨_,rfl⟩
 have hbU:Below w12.heap.size w12 U:=by rw [hU];exact below_set3 (below_step hb12 hbF) g4 _ _ _
 have h2U:U.heap[b2]?=some (.cells #[.slice B0 Eva.length e0,.slice B1 0 e1,.int .i64 4] 29 (0,0)):=by rw [hU];exact blk_far (blk_far (blk_far (blk_below h2 hbF) n24 _) n24 _) n24 _
 have hxU:U.heap[b4]?=some (.cells #[.slice C0 Evb.length q0,.slice C1 1 q1,.int .i64 0] 29 (0,0)):=by rw [hU];exact blk_put (blk_put (blk_put hxF 0 _ rfl) 1 _ rfl) 2 _ rfl
 change Code.wp _ _ _ _ (((w'.setCell ⟨b4,0,none⟩ (.slice C0 Evb.length q0)).setCell ⟨b4,1,none⟩ (.slice C1 1 q1)).setCell ⟨b4,2,none⟩ (.int .i64 0))
 rw [← hU]
 clear hU m0 m1 m2 f0 f1 f2 hdF hxF hbF hD h2 hc hb12 hgF
 have k2:=(blk_cell h2U 2).trans rfl
 have f2:=blk_frozen h2U 2
 go_wp2
 clear k2 f2
 rename_i KK hKK
 replace hKK:=Aside0.mk hKK
 obtain ⟨Wy,hWy⟩:∃ z,z=U.setCell ⟨b2,2,none⟩ (.int .i64 5):=⟨_,rfl⟩
 have hb12:Below w12.heap.size w12 Wy.drew:=by rw [hWy];exact (hbU.setCell (p:=⟨b2,2,none⟩) g2 _).drew
 have h2:Wy.drew.heap[b2]?=some (.cells #[.slice B0 Eva.length e0,.slice B1 0 e1,.int .i64 5] 29 (0,0)):=by rw [hWy];exact blk_put h2U 2 _ rfl
 have hx:Wy.drew.heap[b4]?=some (.cells #[.slice C0 Evb.length q0,.slice C1 1 q1,.int .i64 0] 29 (0,0)):=by rw [hWy];exact blk_far hxU n24.symm _
 rw [← hWy]
 have hc:Wy.drew.cell? ad=some (.string s0):=pw_cell_below hb12 hc12
 have hD:=hD12.below hb12
 clear hWy hbU h2U hxU
 refine start_ (n:=13) (S:=fun w'=>w'.heap[b2]?=some (.cells #[.slice B0 Eva.length e0,.slice B1 0 e1,.int .i64 5] 29 (0,0))∧w'.cell? ad=some (.string s0)) (ds:=[11]) #[false,false,false,false,false,false,false,false,false,false,false,false,false] (by kernel_rfl) rfl rfl ⟨h2,hc⟩ (fun hHeld=>?_);refine with_tabW hawb.tab hawb.bits (fun HT_ HW_=>?_)
 generalize Wy.drew=Wb at hD h2 hx hc hb12 hHeld ⊢
 refine take_ (i:=0) (N:=(some 28)) (v:=?_) (a':=?_) #[true,false,false,false,false,false,false,false,false,false,false,false,false] rfl rfl (take_ofW HT_.out HW_.out (by kernel_rfl)) (fun _ _ _ h=>h) (Or.inl ⟨by rfl, ?_⟩) hHeld ?_ ?_
 rotate_left
 ·rintro w' s1;have t0:=(blk_cell s1.1 0).trans rfl;have t1:=(blk_cell s1.1 1).trans rfl;have t2:=(blk_cell s1.1 2).trans rfl
  go_simp
  with_reducible rfl
 rotate_left
 ·simp only [Act.put,List.setIfInBounds_toArray,List.set_cons_zero,List.set_cons_succ,i64_w,i32_w]
  rfl
 refine pure_ (i:=1) (N:=(some 29)) (v:=?_) (a':=?_) #[true,true,false,false,false,false,false,false,false,false,false,false,false] rfl rfl (any_of HT_.out (by kernel_rfl)) (fun _ _ _ h=>h) (Or.inl ⟨by rfl, ?_⟩) ?_ ?_
 rotate_left
 ·intro w'
  go_simp
  with_reducible rfl
 rotate_left
 ·simp only [Act.put,List.setIfInBounds_toArray,List.set_cons_zero,List.set_cons_succ,i64_w,i32_w]
  rfl
 refine pure_ (i:=2) (N:=(some 30)) (v:=?_) (a':=?_) #[true,true,true,false,false,false,false,false,false,false,false,false,false] rfl rfl (any_of HT_.out (by kernel_rfl)) (fun _ _ _ h=>h) (Or.inl ⟨by rfl, ?_⟩) ?_ ?_
 rotate_left
 ·intro w'
  go_simp
  with_reducible rfl
 rotate_left
 ·simp only [Act.put,List.setIfInBounds_toArray,List.set_cons_zero,List.set_cons_succ,i64_w,i32_w]
  rfl
 refine take_ (i:=3) (N:=(some 31)) (v:=?_) (a':=?_) #[true,true,true,true,false,false,false,false,false,false,false,false,false] rfl rfl (take_ofW HT_.out HW_.out (by kernel_rfl)) (fun _ _ _ h=>h) (Or.inl ⟨by rfl, ?_⟩) hHeld ?_ ?_
 rotate_left
 ·rintro w' s1;have t0:=s1.2
  go_simp
  with_reducible rfl
 rotate_left
 ·simp only [Act.put,List.setIfInBounds_toArray,List.set_cons_zero,List.set_cons_succ,i64_w,i32_w]
  rfl
 refine pure_ (i:=4) (N:=(some 32)) (v:=?_) (a':=?_) #[true,true,true,true,true,false,false,false,false,false,false,false,false] rfl rfl (any_of HT_.out (by kernel_rfl)) (fun _ _ _ h=>h) (Or.inl ⟨by rfl, ?_⟩) ?_ ?_
 rotate_left
 ·intro w'
  go_simp
  with_reducible rfl
 rotate_left
 ·simp only [Act.put,List.setIfInBounds_toArray,List.set_cons_zero,List.set_cons_succ,i64_w,i32_w]
  rfl
 refine join_ (σ:=Value × Value × Value × Nat) 2 #[true,true,true,true,true,true,true,true,true,true,true,false,false] (fun s_=>[(33,s_.1),(34,.tuple #[.agg #[s_.2.1,s_.2.2.1,.int .i64 0],.int .i64 0]),(6,.pointer (some ⟨s_.2.2.2,0,none⟩)),(27,.tuple #[.agg #[s_.2.1,s_.2.2.1,.int .i64 0],.int .i64 0]),(35,.agg #[s_.2.1,s_.2.2.1,.int .i64 0]),(36,.int .i64 0)]) (fun s_ w'=>Below Wb.heap.size Wb w'∧w'.heap[s_.2.2.2]?=some (.cells #[.slice none 0 0,.slice none 0 0,.int .i64 0] 29 (0,0))∧Wb.heap.size≤s_.2.2.2∧Dr w' (fun k=>((okd k∧k<Wb.heap.size)∨Wb.heap.size≤k)∧k≠s_.2.2.2) s_.2.1 s_.2.2.1 Evc []) (fun s_ w' hF=>?_) (fun hcont=>?ord6)
 case ord6=>
  refine two_ (i:=5) (j:=10) (Ni:=(some 33)) (Nj:=(some 6)) #[true,true,true,true,true,true,false,false,false,false,false,false,false] #[true,true,true,true,true,false,false,false,false,false,true,false,false] rfl rfl rfl rfl (two_of HT_.out (by kernel_rfl)) (by decide) (by decide) (fun K hK=>?_) (fun K hK=>?_)
  ·refine value_ (w1:=Wb.alloc (.cells #[.int .i64 1,.string s0] 27 (0,0))) (v:=.slice (some ⟨Wb.heap.size,0,none⟩) 1 1) (by rfl) rfl ?_ ?_
   ·first |(go_simp;done) |(go_simp;rfl)
   obtain ⟨bV1,ebV1⟩:∃ z,z=Wb.alloc (.cells #[.int .i64 1,.string s0] 27 (0,0)):=⟨_,rfl⟩
   have hsbV1:Below Wb.heap.size Wb bV1:=by rw [ebV1];exact below_alloc (Below.refl _ _) _
   have hqbV1:bV1.heap[Wb.heap.size]?=some (.cells #[.int .i64 1,.string s0] 27 (0,0)):=by rw [ebV1];exact heap_alloc_last _ _
   rw [← ebV1]
   have hbbV1:Below Wb.heap.size Wb bV1:=hsbV1
   obtain ⟨gbV1,egbV1⟩:∃ z,z=Wb.heap.size:=⟨_,rfl⟩
   rw [← egbV1] at hqbV1 ⊢
   have hrowbV1:Kd.C k27 bV1 (some ⟨gbV1,0,none⟩) 1 l1S:=row_l1S hqbV1
   refine hK.out _ _ ⟨blk_below h2 hbbV1,pw_cell_below hbbV1 hc⟩ (fun hHeld=>?_)
   clear hK K
   refine norm_ (a':=?_) ?_ ?_
   rotate_left
   ·show Act.put _ (some 33) _=_
    simp only [Act.put,List.setIfInBounds_toArray,List.set_cons_zero,List.set_cons_succ,i64_w,i32_w]
    rfl
   refine two_ (i:=6) (j:=10) (Ni:=(some 34)) (Nj:=(some 6)) #[true,true,true,true,true,true,true,false,false,false,false,false,false] #[true,true,true,true,true,true,false,false,false,false,true,false,false] rfl rfl rfl rfl (two_of HT_.out (by kernel_rfl)) (by decide) (by decide) (fun K hK=>?_) (fun K hK=>?_)
   ·refine goes_ Try.func23 (by kernel_rfl) rfl #[.agg #[.slice B0 Eva.length e0,.slice B1 0 e1,.int .i64 5],.slice (some ⟨gbV1,0,none⟩) l1S.length 1] (by rfl) rfl rfl (by (try simp only [List.map_toArray,List.map_cons,List.map_nil]);first |done |rfl) ?_
    refine (commit_walk B0 e0 Eva B1 e1 [] 5 (some ⟨gbV1,0,none⟩) 1 l1S (fun k=>okd k∧k<Wb.heap.size) bV1 (hD.bound.below hbbV1) hrowbV1 (by simp [l1S]) (by simp) (by rw [Eva_len];omega)).mono ?_
    rw [awake5]
    rintro e_ bV2 ⟨v0bV2,v1bV2,rfl,hresbV2,hsbV2⟩
    refine ⟨_,rfl, ?_⟩
    have hbbV2:Below Wb.heap.size Wb bV2:=below_step hbbV1 hsbV2
    have hrowbV2:=Kd.C_below hrowbV1 hsbV2
    refine hK.out _ _ ⟨blk_below h2 hbbV2,pw_cell_below hbbV2 hc⟩ (fun hHeld=>?_)
    clear hK K
    refine norm_ (a':=?_) ?_ ?_
    rotate_left
    ·show Act.put _ (some 34) _=_
     simp only [Act.put,List.setIfInBounds_toArray,List.set_cons_zero,List.set_cons_succ,i64_w,i32_w]
     rfl
    refine pure_ (i:=7) (N:=(some 27)) (v:=?_) (a':=?_) #[true,true,true,true,true,true,true,true,false,false,false,false,false] rfl rfl (any_of HT_.out (by kernel_rfl)) (fun _ _ _ h=>h) (Or.inl ⟨by rfl, ?_⟩) ?_ ?_
    rotate_left
    ·intro w'
     go_simp
     with_reducible rfl
    rotate_left
    ·simp only [Act.put,List.setIfInBounds_toArray,List.set_cons_zero,List.set_cons_succ,i64_w,i32_w]
     rfl
    refine pure_ (i:=8) (N:=(some 35)) (v:=?_) (a':=?_) #[true,true,true,true,true,true,true,true,true,false,false,false,false] rfl rfl (any_of HT_.out (by kernel_rfl)) (fun _ _ _ h=>h) (Or.inl ⟨by rfl, ?_⟩) ?_ ?_
    rotate_left
    ·intro w'
     go_simp
     with_reducible rfl
    rotate_left
    ·simp only [Act.put,List.setIfInBounds_toArray,List.set_cons_zero,List.set_cons_succ,i64_w,i32_w]
     rfl
    refine pure_ (i:=9) (N:=(some 36)) (v:=?_) (a':=?_) #[true,true,true,true,true,true,true,true,true,true,false,false,false] rfl rfl (any_of HT_.out (by kernel_rfl)) (fun _ _ _ h=>h) (Or.inl ⟨by rfl, ?_⟩) ?_ ?_
    rotate_left
    ·intro w'
     go_simp
     with_reducible rfl
    rotate_left
    ·simp only [Act.put,List.setIfInBounds_toArray,List.set_cons_zero,List.set_cons_succ,i64_w,i32_w]
     rfl
    refine one_ (i:=10) (N:=(some 6)) #[true,true,true,true,true,true,true,true,true,true,true,false,false] rfl rfl (one_of HT_.out (by kernel_rfl)) (by decide) (fun K hK=>?_)
    refine value_ (w1:=bV2.alloc (.cells #[.slice none 0 0,.slice none 0 0,.int .i64 0] 29 (0,0))) (v:=.pointer (some ⟨bV2.heap.size,0,none⟩)) (by rfl) rfl ?_ ?_
    ·first |(go_simp;done) |(go_simp;rfl)
    obtain ⟨bV3,ebV3⟩:∃ z,z=bV2.alloc (.cells #[.slice none 0 0,.slice none 0 0,.int .i64 0] 29 (0,0)):=⟨_,rfl⟩
    have hsbV3:Below bV2.heap.size bV2 bV3:=by rw [ebV3];exact below_alloc (Below.refl _ _) _
    have hqbV3:bV3.heap[bV2.heap.size]?=some (.cells #[.slice none 0 0,.slice none 0 0,.int .i64 0] 29 (0,0)):=by rw [ebV3];exact heap_alloc_last _ _
    rw [← ebV3]
    have hbbV3:Below Wb.heap.size Wb bV3:=below_step hbbV2 hsbV3
    have hrowbV3:=Kd.C_below hrowbV2 hsbV3
    have hresbV3:=hresbV2.below hsbV3
    obtain ⟨gbV3,egbV3⟩:∃ z,z=bV2.heap.size:=⟨_,rfl⟩
    rw [← egbV3] at hqbV3 ⊢
    refine hK.out _ _ ⟨blk_below h2 hbbV3,pw_cell_below hbbV3 hc⟩ (fun hHeld=>?_)
    clear hK K
    refine norm_ (a':=?_) ?_ ?_
    rotate_left
    ·show Act.put _ (some 6) _=_
     simp only [Act.put,List.setIfInBounds_toArray,List.set_cons_zero,List.set_cons_succ,i64_w,i32_w]
     rfl
    have hqs:=blk_lt hqbV3
    have hge:Wb.heap.size≤gbV3:=by rw [egbV3];exact hbbV2.size
    have hres2:Dr bV3 (fun k=>((okd k∧k<Wb.heap.size)∨Wb.heap.size≤k)∧k≠gbV3) v0bV2 v1bV2 Evc []:=(hresbV2.bound.below hsbV3).mono (fun k hk=>by have h1_:=hk.2;have h2_:=egbV3;have h4_:=hbbV1.size;rcases hk.1 with hk |hk;exact ⟨.inl hk,by have:=hk.2;omega⟩;exact ⟨.inr (by omega),by omega⟩)
    have hcc:=hcont (.slice (some ⟨gbV1,0,none⟩) 1 1,v0bV2,v1bV2,gbV3) bV3 ⟨hbbV3,hqbV3,hge,hres2⟩
    simp only [putAll,Act.put,List.setIfInBounds_toArray,List.set_cons_zero,List.set_cons_succ] at hcc
    exact hcc
   ·refine value_ (w1:=bV1.alloc (.cells #[.slice none 0 0,.slice none 0 0,.int .i64 0] 29 (0,0))) (v:=.pointer (some ⟨bV1.heap.size,0,none⟩)) (by rfl) rfl ?_ ?_
    ·first |(go_simp;done) |(go_simp;rfl)
    obtain ⟨bV4,ebV4⟩:∃ z,z=bV1.alloc (.cells #[.slice none 0 0,.slice none 0 0,.int .i64 0] 29 (0,0)):=⟨_,rfl⟩
    have hsbV4:Below bV1.heap.size bV1 bV4:=by rw [ebV4];exact below_alloc (Below.refl _ _) _
    have hqbV4:bV4.heap[bV1.heap.size]?=some (.cells #[.slice none 0 0,.slice none 0 0,.int .i64 0] 29 (0,0)):=by rw [ebV4];exact heap_alloc_last _ _
    rw [← ebV4]
    have hbbV4:Below Wb.heap.size Wb bV4:=below_step hbbV1 hsbV4
    have hrowbV4:=Kd.C_below hrowbV1 hsbV4
    obtain ⟨gbV4,egbV4⟩:∃ z,z=bV1.heap.size:=⟨_,rfl⟩
    rw [← egbV4] at hqbV4 ⊢
    refine hK.out _ _ ⟨blk_below h2 hbbV4,pw_cell_below hbbV4 hc⟩ (fun hHeld=>?_)
    clear hK K
    refine norm_ (a':=?_) ?_ ?_
    rotate_left
    ·show Act.put _ (some 6) _=_
     simp only [Act.put,List.setIfInBounds_toArray,List.set_cons_zero,List.set_cons_succ,i64_w,i32_w]
     rfl
    refine one_ (i:=6) (N:=(some 34)) #[true,true,true,true,true,true,true,false,false,false,true,false,false] rfl rfl (one_of HT_.out (by kernel_rfl)) (by decide) (fun K hK=>?_)
    refine goes_ Try.func23 (by kernel_rfl) rfl #[.agg #[.slice B0 Eva.length e0,.slice B1 0 e1,.int .i64 5],.slice (some ⟨gbV1,0,none⟩) l1S.length 1] (by rfl) rfl rfl (by (try simp only [List.map_toArray,List.map_cons,List.map_nil]);first |done |rfl) ?_
    refine (commit_walk B0 e0 Eva B1 e1 [] 5 (some ⟨gbV1,0,none⟩) 1 l1S (fun k=>okd k∧k<Wb.heap.size) bV4 (hD.bound.below hbbV4) hrowbV4 (by simp [l1S]) (by simp) (by rw [Eva_len];omega)).mono ?_
    rw [awake5]
    rintro e_ bV5 ⟨v0bV5,v1bV5,rfl,hresbV5,hsbV5⟩
    refine ⟨_,rfl, ?_⟩
    have hbbV5:Below Wb.heap.size Wb bV5:=below_step hbbV4 hsbV5
    have hrowbV5:=Kd.C_below hrowbV4 hsbV5
    have hboxbV5:=blk_below hqbV4 hsbV5
    refine hK.out _ _ ⟨blk_below h2 hbbV5,pw_cell_below hbbV5 hc⟩ (fun hHeld=>?_)
    clear hK K
    refine norm_ (a':=?_) ?_ ?_
    rotate_left
    ·show Act.put _ (some 34) _=_
     simp only [Act.put,List.setIfInBounds_toArray,List.set_cons_zero,List.set_cons_succ,i64_w,i32_w]
     rfl
    refine pure_ (i:=7) (N:=(some 27)) (v:=?_) (a':=?_) #[true,true,true,true,true,true,true,true,false,false,true,false,false] rfl rfl (any_of HT_.out (by kernel_rfl)) (fun _ _ _ h=>h) (Or.inl ⟨by rfl, ?_⟩) ?_ ?_
    rotate_left
    ·intro w'
     go_simp
     with_reducible rfl
    rotate_left
    ·simp only [Act.put,List.setIfInBounds_toArray,List.set_cons_zero,List.set_cons_succ,i64_w,i32_w]
     rfl
    refine pure_ (i:=8) (N:=(some 35)) (v:=?_) (a':=?_) #[true,true,true,true,true,true,true,true,true,false,true,false,false] rfl rfl (any_of HT_.out (by kernel_rfl)) (fun _ _ _ h=>h) (Or.inl ⟨by rfl, ?_⟩) ?_ ?_
    rotate_left
    ·intro w'
     go_simp
     with_reducible rfl
    rotate_left
    ·simp only [Act.put,List.setIfInBounds_toArray,List.set_cons_zero,List.set_cons_succ,i64_w,i32_w]
     rfl
    refine pure_ (i:=9) (N:=(some 36)) (v:=?_) (a':=?_) #[true,true,true,true,true,true,true,true,true,true,true,false,false] rfl rfl (any_of HT_.out (by kernel_rfl)) (fun _ _ _ h=>h) (Or.inl ⟨by rfl, ?_⟩) ?_ ?_
    rotate_left
    ·intro w'
     go_simp
     with_reducible rfl
    rotate_left
    ·simp only [Act.put,List.setIfInBounds_toArray,List.set_cons_zero,List.set_cons_succ,i64_w,i32_w]
     rfl
    have hqs:=blk_lt hboxbV5
    have hge:Wb.heap.size≤gbV4:=by rw [egbV4];exact hbbV1.size
    have hlb:gbV4<bV4.heap.size:=by have:=blk_lt hqbV4;omega
    have hres2:Dr bV5 (fun k=>((okd k∧k<Wb.heap.size)∨Wb.heap.size≤k)∧k≠gbV4) v0bV5 v1bV5 Evc []:=hresbV5.mono (fun k hk=>by have h4_:=hbbV4.size;rcases hk with hk |hk;exact ⟨.inl hk,by have:=hk.2;omega⟩;exact ⟨.inr (by omega),by omega⟩)
    have hcc:=hcont (.slice (some ⟨gbV1,0,none⟩) 1 1,v0bV5,v1bV5,gbV4) bV5 ⟨hbbV5,hboxbV5,hge,hres2⟩
    simp only [putAll,Act.put,List.setIfInBounds_toArray,List.set_cons_zero,List.set_cons_succ] at hcc
    exact hcc
  ·refine value_ (w1:=Wb.alloc (.cells #[.slice none 0 0,.slice none 0 0,.int .i64 0] 29 (0,0))) (v:=.pointer (some ⟨Wb.heap.size,0,none⟩)) (by rfl) rfl ?_ ?_
   ·first |(go_simp;done) |(go_simp;rfl)
   obtain ⟨bV6,ebV6⟩:∃ z,z=Wb.alloc (.cells #[.slice none 0 0,.slice none 0 0,.int .i64 0] 29 (0,0)):=⟨_,rfl⟩
   have hsbV6:Below Wb.heap.size Wb bV6:=by rw [ebV6];exact below_alloc (Below.refl _ _) _
   have hqbV6:bV6.heap[Wb.heap.size]?=some (.cells #[.slice none 0 0,.slice none 0 0,.int .i64 0] 29 (0,0)):=by rw [ebV6];exact heap_alloc_last _ _
   rw [← ebV6]
   have hbbV6:Below Wb.heap.size Wb bV6:=hsbV6
   obtain ⟨gbV6,egbV6⟩:∃ z,z=Wb.heap.size:=⟨_,rfl⟩
   rw [← egbV6] at hqbV6 ⊢
   refine hK.out _ _ ⟨blk_below h2 hbbV6,pw_cell_below hbbV6 hc⟩ (fun hHeld=>?_)
   clear hK K
   refine norm_ (a':=?_) ?_ ?_
   rotate_left
   ·show Act.put _ (some 6) _=_
    simp only [Act.put,List.setIfInBounds_toArray,List.set_cons_zero,List.set_cons_succ,i64_w,i32_w]
    rfl
   refine one_ (i:=5) (N:=(some 33)) #[true,true,true,true,true,true,false,false,false,false,true,false,false] rfl rfl (one_of HT_.out (by kernel_rfl)) (by decide) (fun K hK=>?_)
   refine value_ (w1:=bV6.alloc (.cells #[.int .i64 1,.string s0] 27 (0,0))) (v:=.slice (some ⟨bV6.heap.size,0,none⟩) 1 1) (by rfl) rfl ?_ ?_
   ·first |(go_simp;done) |(go_simp;rfl)
   obtain ⟨bV7,ebV7⟩:∃ z,z=bV6.alloc (.cells #[.int .i64 1,.string s0] 27 (0,0)):=⟨_,rfl⟩
   have hsbV7:Below bV6.heap.size bV6 bV7:=by rw [ebV7];exact below_alloc (Below.refl _ _) _
   have hqbV7:bV7.heap[bV6.heap.size]?=some (.cells #[.int .i64 1,.string s0] 27 (0,0)):=by rw [ebV7];exact heap_alloc_last _ _
   rw [← ebV7]
   have hbbV7:Below Wb.heap.size Wb bV7:=below_step hbbV6 hsbV7
   have hboxbV7:=blk_below hqbV6 hsbV7
   obtain ⟨gbV7,egbV7⟩:∃ z,z=bV6.heap.size:=⟨_,rfl⟩
   rw [← egbV7] at hqbV7 ⊢
   have hrowbV7:Kd.C k27 bV7 (some ⟨gbV7,0,none⟩) 1 l1S:=row_l1S hqbV7
   refine hK.out _ _ ⟨blk_below h2 hbbV7,pw_cell_below hbbV7 hc⟩ (fun hHeld=>?_)
   clear hK K
   refine norm_ (a':=?_) ?_ ?_
   rotate_left
   ·show Act.put _ (some 33) _=_
    simp only [Act.put,List.setIfInBounds_toArray,List.set_cons_zero,List.set_cons_succ,i64_w,i32_w]
    rfl
   refine one_ (i:=6) (N:=(some 34)) #[true,true,true,true,true,true,true,false,false,false,true,false,false] rfl rfl (one_of HT_.out (by kernel_rfl)) (by decide) (fun K hK=>?_)
   refine goes_ Try.func23 (by kernel_rfl) rfl #[.agg #[.slice B0 Eva.length e0,.slice B1 0 e1,.int .i64 5],.slice (some ⟨gbV7,0,none⟩) l1S.length 1] (by rfl) rfl rfl (by (try simp only [List.map_toArray,List.map_cons,List.map_nil]);first |done |rfl) ?_
   refine (commit_walk B0 e0 Eva B1 e1 [] 5 (some ⟨gbV7,0,none⟩) 1 l1S (fun k=>okd k∧k<Wb.heap.size) bV7 (hD.bound.below hbbV7) hrowbV7 (by simp [l1S]) (by simp) (by rw [Eva_len];omega)).mono ?_
   rw [awake5]
   rintro e_ bV8 ⟨v0bV8,v1bV8,rfl,hresbV8,hsbV8⟩
   refine ⟨_,rfl, ?_⟩
   have hbbV8:Below Wb.heap.size Wb bV8:=below_step hbbV7 hsbV8
   have hboxbV8:=blk_below hboxbV7 hsbV8
   have hrowbV8:=Kd.C_below hrowbV7 hsbV8
   refine hK.out _ _ ⟨blk_below h2 hbbV8,pw_cell_below hbbV8 hc⟩ (fun hHeld=>?_)
   clear hK K
   refine norm_ (a':=?_) ?_ ?_
   rotate_left
   ·show Act.put _ (some 34) _=_
    simp only [Act.put,List.setIfInBounds_toArray,List.set_cons_zero,List.set_cons_succ,i64_w,i32_w]
    rfl
   refine pure_ (i:=7) (N:=(some 27)) (v:=?_) (a':=?_) #[true,true,true,true,true,true,true,true,false,false,true,false,false] rfl rfl (any_of HT_.out (by kernel_rfl)) (fun _ _ _ h=>h) (Or.inl ⟨by rfl, ?_⟩) ?_ ?_
   rotate_left
   ·intro w'
    go_simp
    with_reducible rfl
   rotate_left
   ·simp only [Act.put,List.setIfInBounds_toArray,List.set_cons_zero,List.set_cons_succ,i64_w,i32_w]
    rfl
   refine pure_ (i:=8) (N:=(some 35)) (v:=?_) (a':=?_) #[true,true,true,true,true,true,true,true,true,false,true,false,false] rfl rfl (any_of HT_.out (by kernel_rfl)) (fun _ _ _ h=>h) (Or.inl ⟨by rfl, ?_⟩) ?_ ?_
   rotate_left
   ·intro w'
    go_simp
    with_reducible rfl
   rotate_left
   ·simp only [Act.put,List.setIfInBounds_toArray,List.set_cons_zero,List.set_cons_succ,i64_w,i32_w]
    rfl
   refine pure_ (i:=9) (N:=(some 36)) (v:=?_) (a':=?_) #[true,true,true,true,true,true,true,true,true,true,true,false,false] rfl rfl (any_of HT_.out (by kernel_rfl)) (fun _ _ _ h=>h) (Or.inl ⟨by rfl, ?_⟩) ?_ ?_
   rotate_left
   ·intro w'
    go_simp
    with_reducible rfl
   rotate_left
   ·simp only [Act.put,List.setIfInBounds_toArray,List.set_cons_zero,List.set_cons_succ,i64_w,i32_w]
    rfl
   have hqs:=blk_lt hboxbV8
   have hge:Wb.heap.size≤gbV6:=by rw [egbV6];exact Nat.le_refl _
   have hlb:gbV6<bV7.heap.size:=by have:=blk_lt hboxbV7;omega
   have hres2:Dr bV8 (fun k=>((okd k∧k<Wb.heap.size)∨Wb.heap.size≤k)∧k≠gbV6) v0bV8 v1bV8 Evc []:=hresbV8.mono (fun k hk=>by have h4_:=hbbV7.size;rcases hk with hk |hk;exact ⟨.inl hk,by have:=hk.2;omega⟩;exact ⟨.inr (by omega),by omega⟩)
   have hcc:=hcont (.slice (some ⟨gbV7,0,none⟩) 1 1,v0bV8,v1bV8,gbV6) bV8 ⟨hbbV8,hboxbV8,hge,hres2⟩
   simp only [putAll,Act.put,List.setIfInBounds_toArray,List.set_cons_zero,List.set_cons_succ] at hcc
   exact hcc
 obtain ⟨v22,v0,v1,b6⟩:=s_
 obtain ⟨hbF,hxF,hgF,hdF⟩:=hF
 obtain ⟨E0,r0,E1,r1,rfl,rfl⟩:=hdF.slices
 dsimp only at hxF hgF hdF
 have m0:=(blk_cell hxF 0).trans rfl
 have m1:=(blk_cell hxF 1).trans rfl
 have m2:=(blk_cell hxF 2).trans rfl
 have f0:=blk_frozen hxF 0
 have f1:=blk_frozen hxF 1
 have f2:=blk_frozen hxF 2
 refine norm_ (a':=?_) ?_ ?_
 rotate_left
 ·simp only [putAll,Act.put,List.setIfInBounds_toArray,List.set_cons_zero,List.set_cons_succ]
  rfl
 refine last_ (i:=11) (N:=none) #[true,true,true,true,true,true,true,true,true,true,true,true,false] rfl rfl (one_of HT_.out (by kernel_rfl)) (by decide) (fun K hK=>?_)
 refine skip_ (w1:=?_) (by rfl) rfl ?_ ?_
 rotate_left
 ·go_simp
  rfl
 refine hK.out _ _ ?_
 clear hK K
 refine pure_ (i:=12) (N:=(some 7)) (v:=?_) (a':=?_) #[true,true,true,true,true,true,true,true,true,true,true,true,true] rfl rfl (any_of HT_.out (by kernel_rfl)) (fun _ _ _ h=>h) (Or.inl ⟨by rfl, ?_⟩) ?_ ?_
 rotate_left
 ·intro w'
  go_simp
  with_reducible rfl
 rotate_left
 ·simp only [Act.put,List.setIfInBounds_toArray,List.set_cons_zero,List.set_cons_succ,i64_w,i32_w]
  rfl
 refine done_ (done_of HT_.out (by kernel_rfl)) ?_
 have n46:b4≠b6:=Nat.ne_of_lt (Nat.lt_of_lt_of_le (blk_lt hx) hgF)
 have g6:w12.heap.size≤b6:=Nat.le_trans hb12.size hgF
 obtain ⟨U,hU⟩:∃ z,z=(((w'.setCell ⟨b6,0,none⟩ (.slice E0 Evc.length r0)).setCell ⟨b6,1,none⟩ (.slice E1 0 r1)).setCell ⟨b6,2,none⟩ (.int .i64 0)):=⟨_,rfl⟩
 have hbU:Below w12.heap.size w12 U:=by rw [hU];exact below_set3 (below_step hb12 hbF) g6 _ _ _
 have hx4:U.heap[b4]?=some (.cells #[.slice C0 Evb.length q0,.slice C1 1 q1,.int .i64 0] 29 (0,0)):=by rw [hU];exact blk_far (blk_far (blk_far (blk_below hx hbF) n46 _) n46 _) n46 _
 have hx6:U.heap[b6]?=some (.cells #[.slice E0 Evc.length r0,.slice E1 0 r1,.int .i64 0] 29 (0,0)):=by rw [hU];exact blk_put (blk_put (blk_put hxF 0 _ rfl) 1 _ rfl) 2 _ rfl
 have hD6:=hdF.set3 (g:=b6) (fun k hk=>hk.2) (.slice E0 Evc.length r0) (.slice E1 0 r1) (.int .i64 0)
 change KK _ (((w'.setCell ⟨b6,0,none⟩ (.slice E0 Evc.length r0)).setCell ⟨b6,1,none⟩ (.slice E1 0 r1)).setCell ⟨b6,2,none⟩ (.int .i64 0))
 rw [← hU] at hD6 ⊢
 clear hU m0 m1 m2 f0 f1 f2 hdF hxF hbF hD h2 hc hx hb12 hgF hcall
 refine hKK.out _ _ ?_
 clear hKK KK
 have k0:=(blk_cell hx6 0).trans rfl
 have k1:=(blk_cell hx6 1).trans rfl
 have k2:=(blk_cell hx6 2).trans rfl
 have hhome:=home_some Evc [] 0 (by simp) 400 (by omega)
 rw [home_Evc] at hhome
 replace hhome:=Aside0.mk hhome
 obtain ⟨t0,ht0⟩:∃ z,z=rdOf ByteArray.empty Evc 33:=⟨_,rfl⟩
 rw [← ht0] at hhome
 clear ht0
 have HHD:=Aside0.mk hD6
 clear hD6
 go_wp2_with (first
  | ((with_reducible refine gate_dst (N:=38) rfl ?_);refine goesL_ (some 38) rfl rfl Try.func25 (by kernel_rfl) rfl #[.agg #[.slice E0 Evc.length r0,.slice E1 0 r1,.int .i64 0]] rfl (by (try simp only [List.map_toArray,List.map_cons,List.map_nil]);first |done |rfl) ?_;refine (wal_Home.calls 400 E0 r0 Evc E1 r1 [] 0 [t0,s0] U (Kd.V_reads' HHD.out.1).2.2 (Kd.V_reads' HHD.out.1).2.1 (Kd.V_reads' HHD.out.2).2.2 (Kd.V_reads' HHD.out.2).2.1 hhome.out).mono ?_;rintro e w8 ⟨v8,rfl,hr8,hb8⟩;obtain ⟨g8,c8,rfl,gb8,gl8,cl8,hG8⟩:=Kd.R_form hr8 (by simp);refine ⟨_,rfl, ?_⟩;have HR8:Aside0 (w8.cell? ⟨g8,1,none⟩=some (.string s0)):=⟨(Kd.R_celln (⟨#[]⟩:ByteArray) hr8 1 (by decide) (by simp)).1⟩;have HY4:=Aside0.mk (blk_below hx4 hb8);have HY6:=Aside0.mk (blk_below hx6 hb8);have HB8:=Aside0.mk (below_step hbU hb8);clear hr8 hb8 k0 k1 k2 gb8 gl8 hG8 cl8)
  | fail)
 rename_i KK hKK
 replace hKK:=Aside0.mk hKK
 have hc8:w8.drew.cell? ⟨g8,1,none⟩=some (.string s0):=HR8.out
 have hc1:w8.drew.cell? ad=some (.string s0):=pw_cell_below HB8.out.drew hc12
 have j4:w8.drew.cell? ⟨b4,2,none⟩=some (.int .i64 0):=(blk_cell (show w8.drew.heap[b4]?=_ from HY4.out) 2).trans rfl
 have j6:w8.drew.cell? ⟨b6,2,none⟩=some (.int .i64 0):=(blk_cell (show w8.drew.heap[b6]?=_ from HY6.out) 2).trans rfl
 refine wp_region_still_lit (by kernel_rfl) (by kernel_rfl) ?_
 change wpStill _ _ w8.drew (fun a'=>Exit.then KK _ Exit.normal a' w8.drew) _ _
 repeat still_step
 refine wpStill_nil ?_
 change KK _ w8.drew
 refine hKK.out _ _ ?_
 clear hKK KK
 go_wp2
 go_ret
 refine ⟨by simp, ?_⟩
 exact (below_then HB12.out HB12.out.size HB8.out).drew
def hibernaclelaw16_awake.f:Option Bool:=some true
theorem hibernaclelaw16_awake.calls (r:Bool) (w:World) (h:hibernaclelaw16_awake.f=some r):Calls Try.prog 21 #[] w fun e w'=>e=.returned (.bool r)∧Below w.heap.size w w':=by
 obtain rfl:=Option.some.inj h
 exact awake_walk w
end Go.Proofs.Ytjfmnkmgnbbfgaa.A
