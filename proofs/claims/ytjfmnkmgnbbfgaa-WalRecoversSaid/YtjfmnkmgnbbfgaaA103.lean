/- Several texts of this claim in one: M4, A102, A120, A103. -/
import Derived.Test.YtjfmnkmgnbbfgaaA65
import Derived.Test.YtjfmnkmgnbbfgaaH8
import Derived.Test.YtjfmnkmgnbbfgaaA0
set_option linter.unusedVariables false
set_option linter.unusedSimpArgs false
namespace Go.Proofs.Ytjfmnkmgnbbfgaa.A
open Go.RowKit Go.Proofs.YtjfmnkmgnbbfgaaW.PrintWords Go.Proofs.YtjfmnkmgnbbfgaaW.PrintLast Go.Proofs.YtjfmnkmgnbbfgaaW.PrintMore
theorem rzeros_at (n:Nat) (hn:n≤1000) (w:World):Calls Try.prog 96 #[.int .i64 (n:Int)] w fun e w'=>e=.returned (.string (zeroB n))∧Below w.heap.size w w':=by
 refine (hibernacleref16_zeros.calls (n + 1) (n:Int) (zeroB n) w (rzeros n hn (n + 1) (by omega))).mono ?_
 rintro e w' ⟨rfl,⟨⟨m,hm⟩⟩⟩
 exact ⟨rfl,by rw [hm];exact pw_below_drewN (Below.refl _ _) m⟩
theorem rput2_at (x:Int) (h0:0≤x) (h1:x<65536) (w:World):Calls Try.prog 98 #[.int .u64 x,.int .i64 2] w fun e w'=>e=.returned (.string (le2 x))∧Below w.heap.size w w':=hibernacleref01_Put.calls 3 x 2 _ w (rput2 x h0 h1 3 (by omega))
def hrhead.T:Bool × List (List Nat × List Nat):=(true,[([],[]),([],[]),([1],[1]),([0,2],[0,2]),([],[]),([3,4],[3,4]),([5,4,0,1,2,3,4,5],[5])])
def hrhead.B:List Nat:=[0,0,2,7,0,31,63]
theorem hrhead.tab:rtab .any (opsOf Try.f61 11)=hrhead.T:=by kernel_rfl
theorem hrhead.bits:waitsOk hrhead.T.2 hrhead.B=true:=by kernel_rfl
set_option maxHeartbeats 8000000 in
set_option maxRecDepth 100000 in
theorem rhead_walk (A:Option Addr) (c:Nat) (l:List S27) (w:World) (hl:Kd.C k27 w A l.length l) (hc:l.length≤c) (hf:Fit l) :
  Calls Try.prog 61 #[.slice A l.length c] w fun e w'=>e=.returned (.string (headV l))∧Below w.heap.size w w':=by
 have hu27:=Try.underlying27
 have HL:=Aside0.mk hl
 have hn:=hf.1
 have HF:=Aside0.mk hf
 have hwl:IntKind.u64.wrap (l.length:Int)=(l.length:Int):=u64_small _ (by omega) (by omega)
 have c0:(9223372036854775807<(⟨#[104,105,98,106]⟩:ByteArray).size + (le2 (l.length:Int)).size)=False:=eq_false (by rw [le2_size];decide)
 clear hl hf
 go_enter Try.func61,Try.ntmps61
 go_wp2_with (first
  | ((with_reducible refine gate_dst (N:=10) rfl ?_);refine goesL_ (some 10) rfl rfl Try.func98 (by kernel_rfl) rfl #[.int .u64 (l.length:Int),.int .i64 2] rfl (by (try simp only [List.map_toArray,List.map_cons,List.map_nil]);first |done |rfl) ?_;refine (rput2_at (l.length:Int) (by omega) (by omega) _).mono ?_;rintro e w1 ⟨rfl,hb1⟩;refine ⟨_,rfl, ?_⟩;have HB1:=Aside0.mk hb1;clear hb1)
  | ((with_reducible refine gate_dst (N:=12) rfl ?_);refine Kd.R_lit Kd.string w.heap.size 9 ?hg (N:=12) ?hd (xs:=([]:List ByteArray)) (inner:=[]) (ok:=fun _=>True) (okp:=fun _=>True) ?hr ?hp (fun _ hk=>hk) trivial HB1.out HB1.out.size (by simp) ?_;(case hd=>rfl);(case hg=>rfl);(case hr=>first |(go_simp;done) |(go_simp;rfl));(case hp=>exact (Reps.none _ _));intro v2 w2 ho2 hb2 hg_ hnew_;clear hg_ hnew_;have HO2:=Aside0.mk ho2;have HB2:=Aside0.mk hb2;clear ho2 hb2)
  | fail)
 obtain ⟨B2,e2,rfl⟩:=Kd.R_slice HO2.out
 obtain ⟨f0,hf0⟩:∃ z,z=(⟨#[104,105,98,106]⟩:ByteArray) ++ le2 (l.length:Int):=⟨_,rfl⟩
 have hf0s:f0.size=6:=by rw [hf0,ByteArray.size_append,le2_size];rfl
 rw [← hf0]
 have HF0:=Aside0.mk hf0
 clear hf0
 go_loopw [3,4,15] (fun f v i wr=>∃ j:Nat,j≤l.length∧f=.string (frontL (l.take j) f0)∧i=.int .i64 (j:Int)∧Aside0 (Kd.R Kd.string 9 wr w.heap.size (fun _=>True) v ((l.take j).map (·.f1)))∧Aside0 (Below w.heap.size w wr)) (fun _ _ i _=>l.length - (intOf i).toNat)
 case atStart=>exact ⟨0,Nat.zero_le _,rfl,rfl,HO2,HB2⟩
 case round=>
  clear HO2 HB2
  obtain ⟨j,hj,rfl,rfl,HR,HB⟩:=hrel
  by_cases hlt:j<l.length
  ·have hjl:(j:Int)<l.length:=by omega
   have hjr:(j:Int)≤140737488355328:=by omega
   obtain ⟨ad,rfl,g0,g1⟩:=at_T27 (Kd.C_below HL.out HB.out) (j:Int) (by omega) (by omega)
   rw [show rd_T27 l (j:Int)=l[j] from rdTN l j hlt] at g0 g1
   have hsnoc:=frontL_snoc l j hlt f0
   have hmem:=HF.out.2.1 l[j] (List.getElem_mem hlt)
   have hts:(l.take (j + 1)).map (·.f1)=(l.take j).map (·.f1) ++ [l[j].f1]:=by rw [← List.take_append_getElem hlt,List.map_append];rfl
   have hfs:(frontL (l.take j) f0).size≤70:=by rw [frontL_size,hf0s,List.length_take];omega
   obtain ⟨x,hx⟩:∃ x,x=l[j]:=⟨_,rfl⟩
   rw [← hx] at g0 g1 hsnoc hmem hts
   simp only [Int.toNat_natCast] at g0 g1
   generalize frontL (l.take j) f0=f at hsnoc hfs ⊢
   have HS:=Aside0.mk hsnoc
   have HT:=Aside0.mk hts
   have hwx:=u64_small x.f0 hmem.1 hmem.2
   have hcx:(9223372036854775807<f.size + (le2 x.f0).size)=False:=eq_false (by rw [le2_size];omega)
   clear hx hsnoc hts
   go_wp2_with (first
    | ((with_reducible refine gate_dst (N:=25) rfl ?_);refine goesL_ (some 25) rfl rfl Try.func98 (by kernel_rfl) rfl #[.int .u64 x.f0,.int .i64 2] rfl (by (try simp only [List.map_toArray,List.map_cons,List.map_nil]);first |done |rfl) ?_;refine (rput2_at x.f0 hmem.1 hmem.2 _).mono ?_;rintro e w7 ⟨rfl,hb7⟩;refine ⟨_,rfl, ?_⟩;have n1:=pw_cell_below hb7 g1;have HR7:=Aside0.mk (Kd.R_below HR.out hb7);have HB7:=Aside0.mk (below_step HB.out hb7);clear hb7)
    | ((with_reducible refine gate_builtin (b:=.append) (xs:=#[.tmp 27,.tmp 33]) rfl ?_);at_builtin;refine Kd.R_append Kd.string (w0:=w) w.heap.size rfl (.tmp 27) (.tmp 33) 22 9 (.string ⟨#[]⟩) 16 rfl Try.underlying22 info9 rfl (by decide) (by omega) u4 ((l.take j).map (·.f1)) x.f1 [.string x.f1] (fun _=>True) (fun _=>False) rfl rfl rfl (fun _ hk=>hk.elim) (fun _ _=>trivial) HR7.out HB7.out HB7.out.size ?aL ?_;(case aL=>simp;omega);intro v8 w8 ho hb8 hg hat;have HR8:=Aside0.mk ho;have HB8:=Aside0.mk hb8;clear ho hb8 hg hat)
    | fail)
   go_roundw
   case rel=>
    refine ⟨_,_,_,_,⟨j + 1,by omega,rfl,rfl,⟨?_⟩⟩,by rw [HS.out],rfl,rfl,by simp⟩
    rw [← List.map_take,HT.out]
    exact HR8.out
   case measure=>simp only [intOf];omega
  ·obtain rfl:j=l.length:=by omega
   have hR:=HR.out
   rw [List.take_length] at hR ⊢
   obtain ⟨Ls,hLs⟩:∃ z,z=l.map (·.f1):=⟨_,rfl⟩
   obtain ⟨F,hF⟩:∃ z,z=frontL l f0:=⟨_,rfl⟩
   rw [← hLs] at hR
   rw [← hF]
   have hFs:F.size=6 + 2 * l.length:=by rw [hF,frontL_size,hf0s]
   have hLl:Ls.length=l.length:=by rw [hLs,List.length_map]
   have hFV:F=frontV l:=by rw [hF,frontV,HF0.out];rfl
   have hws:wrap64 (70 - (F.size:Int))=((70 - F.size:Nat):Int):=by unfold wrap64;omega
   have hcz:(9223372036854775807<F.size + (zeroB (70 - F.size)).size)=False:=eq_false (by rw [zeroB_size];omega)
   have hG:(F ++ zeroB (70 - F.size)).size=70:=by rw [ByteArray.size_append,zeroB_size];omega
   obtain ⟨A4,c4,rfl⟩:=Kd.R_slice hR
   have HR:=Aside0.mk hR
   have HFV:=Aside0.mk hFV
   have HLs:=Aside0.mk hLs
   obtain ⟨D,hD⟩:∃ z,z=digF hSum (joinS ((F ++ zeroB (70 - F.size)) :: Ls)):=⟨_,rfl⟩
   have HDl:Aside0 (D.length=32):=⟨by rw [hD];simp [digF,fillB_length]⟩
   have HJ:Aside0 ((joinS ((F ++ zeroB (70 - F.size)) :: Ls)).size≤1000000):=⟨by
    rw [joinS_size,List.map_cons,List.sum_cons,hG]
    have:=sum_128 Ls (by rw [hLs];intro s hs;obtain ⟨y,hy,rfl⟩:=List.mem_map.1 hs;exact HF.out.2.2 y hy)
    omega⟩
   have HD:=Aside0.mk hD
   clear hD
   have HFs:=Aside0.mk hFs;have HLl:=Aside0.mk hLl;have HG:=Aside0.mk hG;clear hR hF hLs HF0 hFV hFs hLl hG
   go_wp2_with (first
    | ((with_reducible refine gate_dst (N:=40) rfl ?_);refine goesL_ (some 40) rfl rfl Try.func96 (by kernel_rfl) rfl #[.int .i64 (wrap64 (70 - (F.size:Int)))] rfl (by (try simp only [List.map_toArray,List.map_cons,List.map_nil]);first |done |rfl) ?_;refine (show Calls Try.prog 96 #[.int .i64 (wrap64 (70 - (F.size:Int)))] _ (fun e w'=>e=.returned (.string (zeroB (70 - F.size)))∧Below _ _ w') from (by rw [hws];exact rzeros_at (70 - F.size) (by have:=HFs.out;omega) _)).mono ?_;rintro e w9 ⟨rfl,hb9⟩;refine ⟨_,rfl, ?_⟩;have HR9:=Aside0.mk (Kd.R_below HR.out hb9);have HB9:=Aside0.mk (below_step HB.out hb9);clear hb9)
    | ((with_reducible refine gate_dst (N:=43) rfl ?_);refine Kd.R_lit Kd.string (w0:=w) w.heap.size 9 ?hg (N:=43) ?hd (xs:=([F ++ zeroB (70 - F.size)]:List ByteArray)) (inner:=[.string (F ++ zeroB (70 - F.size))]) (ok:=fun _=>True) (okp:=fun _=>True) ?hr ?hp (fun _ hk=>hk) trivial HB9.out HB9.out.size (by simp) ?_;(case hd=>rfl);(case hg=>rfl);(case hr=>first |(go_simp;done) |(go_simp;rfl));(case hp=>exact (Reps.one (show Kd.M Kd.string _ _ _ (F ++ zeroB (70 - F.size)) [.string (F ++ zeroB (70 - F.size))] from rfl) (Reps.none _ _)));intro v43 w43 ho43 hb43 hg43 hnew_;have HC43:=Aside0.mk (Kd.C_below (Kd.R_reads' HR9.out).2.2 (show Below w9.heap.size w9 w43 from ⟨hg43.os,hg43.tape,hg43.output,hg43.size,fun k hk=>hg43.block k hk (by simp)⟩));clear hg43 hnew_;have HO43:=Aside0.mk ho43;have HB43:=Aside0.mk hb43;clear ho43 hb43)
    | ((with_reducible refine gate_builtin (b:=.append) (xs:=#[.tmp 43,.tmp 44]) rfl ?_);at_builtin;refine Kd.R_append_rows Kd.string (w0:=w) w.heap.size rfl (.tmp 43) (.tmp 44) 22 9 (.string ⟨#[]⟩) 16 rfl Try.underlying22 info9 rfl (by decide) (by omega) v43 [F ++ zeroB (70 - F.size)] Ls A4 Ls.length c4 (fun _=>True) (fun _=>False) rfl rfl HO43.out HC43.out (fun _ _ h=>h) (fun _ h=>h.elim) (fun _ _=>trivial) HB43.out HB43.out.size ?aL ?_;(case aL=>simp;have:=HLl.out;omega);intro v45 w45 ho45 hb45 hg hat;obtain ⟨A45,c45,rfl⟩:=Kd.R_slice ho45;have HR45:=Aside0.mk (Kd.R_reads' ho45);have HB45:=Aside0.mk hb45;clear ho45 hb45 hg hat)
    | ((with_reducible refine gate_callee (f:=60) rfl ?_);refine goesL_ (some 46) rfl rfl Try.func60 (by kernel_rfl) rfl #[.slice A45 ([F ++ zeroB (70 - F.size)] ++ Ls).length c45] rfl (by (try simp only [List.map_toArray,List.map_cons,List.map_nil]);first |done |rfl) ?_;refine (show Calls Try.prog 60 #[.slice A45 ([F ++ zeroB (70 - F.size)] ++ Ls).length c45] w45 (fun e w'=>e=.returned (.agg (u8s D))∧Below _ _ w') from (by rw [HD.out];exact ref_Sum.walk A45 c45 ((F ++ zeroB (70 - F.size)) :: Ls) _ HR45.out.2.2 HR45.out.2.1 (by simp;have:=HLl.out;omega) HJ.out)).mono ?_;rintro e w11 ⟨rfl,hb11⟩;refine ⟨_,rfl, ?_⟩;have HB11:=Aside0.mk (below_step HB45.out hb11);clear hb11)
    | ((with_reducible refine gate_store (t:=57) (p:=6) rfl ?_);refine wpList_storeRow (T:=57) (A:=.agg (u8s D)) rfl rfl rfl rfl rfl (storeAt8 (v':=D) (heap_alloc_last w11 (blk8 (zeros 32) 57)) rfl HDl.out) ?_)
    | fail)
   have hB12:Below w.heap.size w ((w11.alloc (blk8 (zeros 32) 57)).setRow w11.heap.size (u8s D)):=(below_alloc HB11.out _).trans ((But.setRow _ _).below (B:=w.heap.size) HB11.out.size (by rw [sz1 rfl];have:=HB11.out.size;omega))
   have hk12:((w11.alloc (blk8 (zeros 32) 57)).setRow w11.heap.size (u8s D)).heap[w11.heap.size]?=some (blk8 D 57):=setRow_heap _ _ _ _ _ _ (heap_alloc_last w11 (blk8 (zeros 32) 57))
   rename_i KK hKK
   replace hKK:=Aside0.mk hKK
   change Code.wp _ _ _ _ ((w11.alloc (blk8 (zeros 32) 57)).setRow w11.heap.size (u8s D))
   obtain ⟨W12,hW12⟩:∃ z,z=(w11.alloc (blk8 (zeros 32) 57)).setRow w11.heap.size (u8s D):=⟨_,rfl⟩
   rw [← hW12] at hB12 hk12 ⊢
   generalize w11.heap.size=g12 at hk12 ⊢
   have HB12:Aside0 (Below w.heap.size w W12.drew∧W12.drew.heap[g12]?=some (blk8 D 57)):=⟨⟨hB12.drew,hk12⟩⟩
   clear hW12 hB12 hk12 HB11 HB9 HR9
   have hcv:=fun (w':World) (h:w'.heap[g12]?=some (blk8 D 57))=>string_of_reads (P:=Try.prog) (src:=77) (dst:=9) (c:=32) Try.underlying77 Try.underlying5 Try.underlying9 (reads_blk8 h HDl.out)
   have hz1:(9223372036854775807<(F ++ zeroB (70 - F.size)).size + (strOfNums D).size)=False:=eq_false (by rw [HG.out,strOfNums_size,HDl.out];decide)
   have hz2:(9223372036854775807<(F ++ zeroB (70 - F.size)).size + (strOfNums D).size + (zeroB 26).size)=False:=eq_false (by rw [HG.out,strOfNums_size,HDl.out,zeroB_size];decide)
   have hbd:=HB12.out
   obtain ⟨G,hGe⟩:∃ z,z=F ++ zeroB (70 - F.size):=⟨_,rfl⟩
   rw [← hGe] at HG HD hz1 hz2 ⊢
   have HGe:=Aside0.mk hGe
   clear hGe
   refine start_ (n:=7) (S:=fun w'=>w'.heap[g12]?=some (blk8 D 57)) (ds:=[]) #[false,false,false,false,false,false,false] (by kernel_rfl) rfl rfl HB12.out.2 (fun hHeld=>?_);refine with_tabW hrhead.tab hrhead.bits (fun HT_ HW_=>?_)
   generalize W12.drew=W13 at hbd hHeld ⊢
   refine pure_ (i:=0) (N:=(some 47)) (v:=?_) (a':=?_) #[true,false,false,false,false,false,false] rfl rfl (any_of HT_.out (by kernel_rfl)) (fun _ _ _ h=>h) (Or.inl ⟨by rfl, ?_⟩) ?_ ?_
   rotate_left
   ·intro w'
    go_simp
    with_reducible rfl
   rotate_left
   ·simp only [Act.put,List.setIfInBounds_toArray,List.set_cons_zero,List.set_cons_succ,i64_w,i32_w]
    rfl
   refine pure_ (i:=1) (N:=(some 48)) (v:=?_) (a':=?_) #[true,true,false,false,false,false,false] rfl rfl (any_of HT_.out (by kernel_rfl)) (fun _ _ _ h=>h) (Or.inl ⟨by rfl, ?_⟩) ?_ ?_
   rotate_left
   ·intro w'
    go_simp
    with_reducible rfl
   rotate_left
   ·simp only [Act.put,List.setIfInBounds_toArray,List.set_cons_zero,List.set_cons_succ,i64_w,i32_w]
    rfl
   refine take_ (i:=2) (N:=(some 49)) (v:=?_) (a':=?_) #[true,true,true,false,false,false,false] rfl rfl (take_ofW HT_.out HW_.out (by kernel_rfl)) (fun _ _ _ h=>h) (Or.inl ⟨by rfl, ?_⟩) hHeld ?_ ?_
   rotate_left
   ·rintro w' s1;have hc1:=hcv w' s1
    go_simp
    with_reducible rfl
   rotate_left
   ·simp only [Act.put,List.setIfInBounds_toArray,List.set_cons_zero,List.set_cons_succ,i64_w,i32_w]
    rfl
   refine pure_ (i:=3) (N:=(some 50)) (v:=?_) (a':=?_) #[true,true,true,true,false,false,false] rfl rfl (any_of HT_.out (by kernel_rfl)) (fun _ _ _ h=>h) (Or.inl ⟨by rfl, ?_⟩) ?_ ?_
   rotate_left
   ·intro w'
    go_simp
    with_reducible rfl
   rotate_left
   ·simp only [Act.put,List.setIfInBounds_toArray,List.set_cons_zero,List.set_cons_succ,i64_w,i32_w]
    rfl
   refine one_ (i:=4) (N:=(some 51)) #[true,true,true,true,true,false,false] rfl rfl (one_of HT_.out (by kernel_rfl)) (by decide) (fun K hK=>?_)
   refine goes_ Try.func96 (by kernel_rfl) rfl #[.int .i64 26] (by rfl) rfl rfl (by (try simp only [List.map_toArray,List.map_cons,List.map_nil]);first |done |rfl) ?_
   refine (rzeros_at 26 (by omega) W13).mono ?_
   rintro e_ V1 ⟨rfl,hc1⟩
   refine ⟨_,rfl, ?_⟩
   refine hK.out _ _ (blk_below hbd.2 hc1) (fun hHeld=>?_)
   clear hK K
   refine norm_ (a':=?_) ?_ ?_
   rotate_left
   ·show Act.put _ (some 51) _=_
    simp only [Act.put,List.setIfInBounds_toArray,List.set_cons_zero,List.set_cons_succ,i64_w,i32_w]
    rfl
   refine pure_ (i:=5) (N:=(some 52)) (v:=?_) (a':=?_) #[true,true,true,true,true,true,false] rfl rfl (any_of HT_.out (by kernel_rfl)) (fun _ _ _ h=>h) (Or.inl ⟨by rfl, ?_⟩) ?_ ?_
   rotate_left
   ·intro w'
    go_simp
    with_reducible rfl
   rotate_left
   ·simp only [Act.put,List.setIfInBounds_toArray,List.set_cons_zero,List.set_cons_succ,i64_w,i32_w]
    rfl
   refine pure_ (i:=6) (N:=(some 2)) (v:=?_) (a':=?_) #[true,true,true,true,true,true,true] rfl rfl (any_of HT_.out (by kernel_rfl)) (fun _ _ _ h=>h) (Or.inl ⟨by rfl, ?_⟩) ?_ ?_
   rotate_left
   ·intro w'
    go_simp
    with_reducible rfl
   rotate_left
   ·simp only [Act.put,List.setIfInBounds_toArray,List.set_cons_zero,List.set_cons_succ,i64_w,i32_w]
    rfl
   refine done_ (done_of HT_.out (by kernel_rfl)) ?_
   refine hKK.out _ _ ?_
   clear hKK KK
   go_wp2
   go_ret
   refine ⟨?_,below_step hbd.1 hc1⟩
   have hGZ:G=frontZ l:=by rw [HGe.out,HFV.out];rfl
   rw [HD.out,hGZ,HLs.out]
   rfl
instance (l:List S27):Decidable (Fit l):=by unfold Fit;infer_instance
def hibernacleref16_Head.f (l1:List S27):Option ByteArray:=if Fit l1 then some (headV l1) else none
theorem hibernacleref16_Head.calls (A1:Option Addr) (c1:Nat) (l1:List S27) (r:ByteArray) (w:World) (hr1:Kd.C k27 w A1 l1.length l1) (hc1:l1.length≤c1) (h:hibernacleref16_Head.f l1=some r) :
  Calls Try.prog 61 #[.slice A1 l1.length c1] w fun e w'=>e=.returned (.string r)∧Below w.heap.size w w':=by
 unfold hibernacleref16_Head.f at h
 split at h
 case isFalse=>cases h
 case isTrue hf=>
 obtain rfl:=Option.some.inj h
 exact rhead_walk A1 c1 l1 w hr1 hc1 hf
end Go.Proofs.Ytjfmnkmgnbbfgaa.A
namespace Go.Proofs.Ytjfmnkmgnbbfgaa.A
open Go.RowKit Go.Proofs.YtjfmnkmgnbbfgaaW.PrintWords Go.Proofs.YtjfmnkmgnbbfgaaW.PrintLast Go.Proofs.YtjfmnkmgnbbfgaaW.PrintMore
attribute [local go_sem] max2_int min2_int max_two min_two max_three min_three max_four min_four   -- for this text's walks alone
set_option linter.unusedVariables false
set_option linter.unusedSimpArgs false
def num_Get.l0:Nat→ByteArray→Int→Int→Int→Option (Int)
 | 0,_,_,_,_=>none
 | k + 1,x0,x3,x7,x8=>if x8<x7 then (if 0≤x8 then (if x8<(x0.size:Int) then (if 0≤(wrap64 (8 * x8)) then (num_Get.l0 k x0 (Go.bits .or .u64 x3 (shl .u64 (IntKind.u64.wrap (bt x0 x8)) (wrap64 (8 * x8)))) x7 (wrap64 (x8 + 1))) else (none)) else (none)) else (none)) else (some x3)
def num_Get.f (k:Nat) (a0:ByteArray):Option (Int):=num_Get.l0 k a0 0 (mn (a0.size:Int) 8) 0
theorem num_Get.mono_l:∀ k,(∀ y0 y1 y2 y3,LeO (num_Get.l0 k y0 y1 y2 y3) (num_Get.l0 (k + 1) y0 y1 y2 y3))
 | 0=>fun _ _ _ _ r h=>by simp [num_Get.l0] at h
 | k + 1=>by
  have ih0:=num_Get.mono_l k
  ·intro y0 y1 y2 y3
   unfold num_Get.l0
   repeat' first
   | (with_reducible exact ih0 _ _ _ _)
   | (with_reducible exact LeO.refl _)
   | (with_reducible exact LeO.none _)
   | (with_reducible refine LeO.ite ?_ ?_)
   | (with_reducible refine LeO.bind ?_ (fun _=>?_))
   | exact ih0 _ _ _ _
   | exact LeO.none _
   | refine LeO.ite ?_ ?_
   | refine LeO.bind ?_ (fun _=>?_)
theorem num_Get.mono:∀ a0 k,LeO (num_Get.f k a0) (num_Get.f (k + 1) a0):=by
 intro a0 k
 have ih0:=num_Get.mono_l k
 unfold num_Get.f
 repeat' first
   | (with_reducible exact ih0 _ _ _ _)
   | (with_reducible exact LeO.refl _)
   | (with_reducible exact LeO.none _)
   | (with_reducible refine LeO.ite ?_ ?_)
   | (with_reducible refine LeO.bind ?_ (fun _=>?_))
   | exact ih0 _ _ _ _
   | exact LeO.none _
   | refine LeO.ite ?_ ?_
   | refine LeO.bind ?_ (fun _=>?_)
set_option maxHeartbeats 8000000 in
set_option maxRecDepth 100000 in
theorem num_Get.calls (k:Nat) (a0:ByteArray) (r:Int) (w:World) (h:num_Get.f k a0=some r) :
  Calls Try.prog 102 #[.string a0] w fun e w'=>e=.returned (.int .u64 r)∧Below w.heap.size w w':=by
 have HB:=Aside0.mk (Below.refl w.heap.size w)
 have H:(num_Get.l0 k a0 0 (mn (a0.size:Int) 8) 0)=some r:=h
 clear h
 obtain ⟨ji2,hji2⟩:∃ j_:Int,(mn (a0.size:Int) 8)=j_:=⟨_,rfl⟩
 replace H:(num_Get.l0 k a0 0 ji2 0)=some r:=by first |(rw [hji2] at H;exact H) |(simp only [hji2] at H ⊢;exact H)
 (try (have hji2h:ji2≤8:=by (rw [← hji2];unfold mn;(repeat' split) <;> omega)))
 (try (have hji2g:ji2≤64:=by omega))
 (try (have hji2l:0≤ji2:=by (rw [← hji2];unfold mn;(repeat' split) <;> omega)))
 (try (have hji2m:0≤ji2:=by omega))
 have hji2_:(if 8<(a0.size:Int) then 8 else (a0.size:Int))=ji2:=hji2
 have H':=Aside0.mk H
 clear H
 go_enter Try.func102,Try.ntmps102
 go_wp2
 go_loopg [3,8] k (fun kq v3 v8 w'=>∃ (x3_1:Int) (x8_1:Int),v3=.int .u64 x3_1∧v8=.int .i64 x8_1∧Aside0 (num_Get.l0 kq a0 x3_1 ji2 x8_1=some r)∧Aside0 (kq≤k)∧Aside0 (Below w.heap.size w w'))
 case atStart=>exact ⟨(0),(0),(by first |rfl |(simp;done) |(simp [*];done)),(by first |rfl |(simp;done) |(simp [*];done)),H',⟨Nat.le_refl _⟩,⟨by repeat (first |(with_reducible first |exact HB.out |apply below_alloc |apply pw_below_drewN |apply below_drew1) |exact HB.out)⟩⟩
 case round=>
  clear H'
  try clear c1
  try clear p2
  obtain ⟨x3_1,x8_1,rfl,rfl,HA,HK1,HB⟩:=hrel
  cases gk with
  | zero=>exact absurd HA.out (by simp [num_Get.l0])
  | succ k1=>
   have H:=HA.out
   clear HA
   simp only [num_Get.l0] at H
   by_cases c3:x8_1<ji2
   ·rw [if_pos c3] at H
    have c3b0:decide (x8_1<ji2)=true:=decide_eq_true c3
    clear c3
    by_cases c4:0≤x8_1
    ·rw [if_pos c4] at H
     have c4b0:decide (0≤x8_1)=true:=decide_eq_true c4
     clear c4
     by_cases c5:x8_1<(a0.size:Int)
     ·rw [if_pos c5] at H
      have c5b0:decide (x8_1<(a0.size:Int))=true:=decide_eq_true c5
      clear c5
      obtain ⟨ji7,hji7⟩:∃ j_:Int,(wrap64 (8 * x8_1))=j_:=⟨_,rfl⟩
      replace H:(if 0≤(ji7) then (num_Get.l0 k1 a0 (Go.bits .or .u64 x3_1 (shl .u64 (IntKind.u64.wrap (bt a0 x8_1)) (ji7))) ji2 (wrap64 (x8_1 + 1))) else (none))=some r:=by first |(rw [hji7] at H;exact H) |(simp only [hji7] at H ⊢;exact H)
      have hji7w:(IntKind.i64.wrap (8 * x8_1))=ji7:=(i64_w _).trans hji7
      by_cases c8:0≤(ji7)
      ·rw [if_pos c8] at H
       have c8b0:=eq_true c8
       have c8b1:decide (0≤(ji7))=true:=decide_eq_true c8
       clear c8
       obtain ⟨ji9,hji9⟩:∃ j_:Int,(shl .u64 (IntKind.u64.wrap (bt a0 x8_1)) (ji7))=j_:=⟨_,rfl⟩
       replace H:(num_Get.l0 k1 a0 (Go.bits .or .u64 x3_1 (ji9)) ji2 (wrap64 (x8_1 + 1)))=some r:=by first |(rw [hji9] at H;exact H) |(simp only [hji9] at H ⊢;exact H)
       have hji9_:(IntKind.u64.wrap ((IntKind.u64.wrap (bt a0 x8_1)) * 2 ^ min (ji7).toNat 64))=ji9:=hji9
       have hji9z:(ji7)≤64→(IntKind.u64.wrap ((IntKind.u64.wrap (bt a0 x8_1)) * 2 ^ (ji7).toNat))=ji9:=shl_small hji9
       have H':=Aside0.mk H
       clear H
       have p6:0≤(x8_1:Int):=of_decide_eq_true (by first |(with_reducible assumption) |assumption)
       have q6:x8_1<(a0.size:Int):=of_decide_eq_true (by first |(with_reducible assumption) |assumption)
       have hx6:=bt_at a0 x8_1
       replace p6:=eq_true p6
       replace q6:=eq_true q6
       go_wp2
       go_roundg k1
       case measure=>have:=HK1.out;omega
       case rel=>exact ⟨(Go.bits .or .u64 x3_1 (ji9)),(wrap64 (x8_1 + 1)),(by first |rfl |(simp;done) |(simp only [← hji9] <;> (first |rfl |simp)) |(simp [*];done)),(by first |rfl |(simp;done) |(simp [*];done)),H',⟨by have:=HK1.out;omega⟩,⟨by repeat (first |(with_reducible first |exact HB.out |apply below_alloc |apply pw_below_drewN |apply below_drew1) |exact HB.out)⟩⟩
      ·rw [if_neg c8] at H
       exact absurd H (by simp)
     ·rw [if_neg c5] at H
      exact absurd H (by simp)
    ·rw [if_neg c4] at H
     exact absurd H (by simp)
   ·rw [if_neg c3] at H
    have c3b0:decide (x8_1<ji2)=false:=decide_eq_false c3
    clear c3
    obtain rfl:=Option.some.inj H
    go_wp2
    go_ret
    exact ⟨by first |rfl |(simp [errW_none,errW_some] <;> rfl) |(simp only [← hji2];first |rfl |(simp [errW_none,errW_some] <;> rfl)) |(simp [*,errW_none,errW_some] <;> rfl),by repeat (first |(with_reducible first |exact HB.out |apply below_alloc |apply pw_below_drewN |apply below_drew1) |exact HB.out)⟩
end Go.Proofs.Ytjfmnkmgnbbfgaa.A
namespace Go.Proofs.Ytjfmnkmgnbbfgaa.A
open Go.RowKit Go.Proofs.YtjfmnkmgnbbfgaaW.PrintWords Go.Proofs.YtjfmnkmgnbbfgaaW.PrintLast Go.Proofs.YtjfmnkmgnbbfgaaW.PrintMore
attribute [local go_sem] max2_int min2_int max_two min_two max_three min_three max_four min_four   -- for this text's walks alone
set_option linter.unusedVariables false
set_option linter.unusedSimpArgs false
def stringslite_HasPrefix.f (a0:ByteArray) (a1:ByteArray):Option (Bool):=if (a0.size:Int) ≥ (a1.size:Int) then (if 0≤(a1.size:Int) then (if (a1.size:Int)≤(a0.size:Int) then (some ((a0.extract 0 ((a1.size:Int):Int).toNat).toList == a1.toList)) else (none)) else (none)) else (some false)
set_option maxHeartbeats 8000000 in
set_option maxRecDepth 100000 in
theorem stringslite_HasPrefix.calls (a0:ByteArray) (a1:ByteArray) (r:Bool) (w:World) (h:stringslite_HasPrefix.f a0 a1=some r) :
  Calls Try.prog 120 #[.string a0,.string a1] w fun e w'=>e=.returned (.bool r)∧Drawn0 w w':=by
 have H:(if (a0.size:Int) ≥ (a1.size:Int) then (if 0≤(a1.size:Int) then (if (a1.size:Int)≤(a0.size:Int) then (some ((a0.extract 0 ((a1.size:Int):Int).toNat).toList == a1.toList)) else (none)) else (none)) else (some false))=some r:=h
 clear h
 by_cases c3:(a0.size:Int) ≥ (a1.size:Int)
 ·rw [if_pos c3] at H
  have c3b0:decide ((a1.size:Int)≤(a0.size:Int))=true:=decide_eq_true c3
  have c3b1:decide (a1.size≤a0.size)=true:=decide_eq_true (Int.ofNat_le.mp c3)
  clear c3
  by_cases c4:0≤(a1.size:Int)
  ·rw [if_pos c4] at H
   have c4b0:=eq_true c4
   have c4b1:decide (0≤(a1.size:Int))=true:=decide_eq_true c4
   clear c4
   by_cases c5:(a1.size:Int)≤(a0.size:Int)
   ·rw [if_pos c5] at H
    have c5b0:=eq_true c5
    have c5b1:decide ((a1.size:Int)≤(a0.size:Int))=true:=decide_eq_true c5
    clear c5
    obtain rfl:=Option.some.inj H
    go_enter Try.func120,Try.ntmps120
    go_wp2
    go_ret
    exact ⟨by first |rfl |(simp;done) |(simp [*];done),by repeat (first |exact Drawn0.refl _ |apply Drawn0.step)⟩
   ·rw [if_neg c5] at H
    exact absurd H (by simp)
  ·rw [if_neg c4] at H
   exact absurd H (by simp)
 ·rw [if_neg c3] at H
  have c3b0:decide ((a1.size:Int)≤(a0.size:Int))=false:=decide_eq_false c3
  have c3b1:decide (a1.size≤a0.size)=false:=decide_eq_false (fun h=>c3 (Int.ofNat_le.mpr h))
  clear c3
  obtain rfl:=Option.some.inj H
  go_enter Try.func120,Try.ntmps120
  go_wp2
  go_ret
  exact ⟨by first |rfl |(simp;done) |(simp [*];done),by repeat (first |exact Drawn0.refl _ |apply Drawn0.step)⟩
end Go.Proofs.Ytjfmnkmgnbbfgaa.A
namespace Go.Proofs.Ytjfmnkmgnbbfgaa.A
open Go.RowKit Go.Proofs.YtjfmnkmgnbbfgaaW.PrintWords Go.Proofs.YtjfmnkmgnbbfgaaW.PrintLast Go.Proofs.YtjfmnkmgnbbfgaaW.PrintMore
attribute [local go_sem] max2_int min2_int max_two min_two max_three min_three max_four min_four   -- for this text's walks alone
set_option linter.unusedVariables false
set_option linter.unusedSimpArgs false
def strings_HasPrefix.f (a0:ByteArray) (a1:ByteArray):Option (Bool):=(stringslite_HasPrefix.f a0 a1).bind fun t129=>(some t129)
set_option maxHeartbeats 8000000 in
set_option maxRecDepth 100000 in
theorem strings_HasPrefix.calls (a0:ByteArray) (a1:ByteArray) (r:Bool) (w:World) (h:strings_HasPrefix.f a0 a1=some r) :
  Calls Try.prog 103 #[.string a0,.string a1] w fun e w'=>e=.returned (.bool r)∧Drawn0 w w':=by
 have H:((stringslite_HasPrefix.f a0 a1).bind fun t129=>(some t129))=some r:=h
 clear h
 replace H:=Option.bind_eq_some_iff.mp H
 obtain ⟨t129,A30,H⟩:=H
 replace H:(some t129)=some r:=H
 have A3:=Aside0.mk A30
 clear A30
 obtain rfl:=Option.some.inj H
 go_enter Try.func103,Try.ntmps103
 go_wp2_with (first |((with_reducible refine gate_callee (f:=120) rfl ?_);refine goesL_ (some 7) rfl rfl Try.func120 (by kernel_rfl) rfl #[.string a0,.string a1] rfl (by (try simp only [List.map_toArray,List.map_cons,List.map_nil]);first |done |rfl |(simp only [List.length_drop,List.length_take];rfl)) ?_;(with_reducible refine (stringslite_HasPrefix.calls a0 a1 t129 _ A3.out).mono ?_);rintro e w' ⟨rfl,⟨nd,rfl⟩⟩;refine ⟨_,rfl, ?_⟩))
 go_ret
 exact ⟨by first |rfl |(simp;done) |(simp [*];done),by repeat (first |exact Drawn0.refl _ |apply Drawn0.step)⟩
end Go.Proofs.Ytjfmnkmgnbbfgaa.A
