/- hibernacleref16.Head: the document's first block of a journal: the same as the program's. -/
import Derived.Test.YtjfmnkmgnbbfgaaA65
import Derived.Test.YtjfmnkmgnbbfgaaH8
set_option linter.unusedVariables false
set_option linter.unusedSimpArgs false
namespace Go.Proofs.Ytjfmnkmgnbbfgaa.A
open Go.RowKit Go.Proofs.YtjfmnkmgnbbfgaaW.PrintWords Go.Proofs.YtjfmnkmgnbbfgaaW.PrintLast Go.Proofs.YtjfmnkmgnbbfgaaW.PrintMore
theorem rzeros_at (n:Nat) (hn:n≤1000) (w:World):Calls Try.prog 96 #[.int .i64 (n:Int)] w fun e w'=>e=.returned (.string (zeroB n))∧Below w.heap.size w w':=by
 refine (hibernacleref16_zeros.calls (n + 1) (n:Int) (zeroB n) w (rzeros n hn (n + 1) (by omega))).mono ?_
 rintro e w' ⟨rfl,⟨⟨m,hm⟩⟩⟩
 exact ⟨rfl,by rw [hm];exact pw_below_drewN (Below.refl _ _) m⟩
theorem rput2_at (x:Int) (h0:0≤x) (h1:x<65536) (w:World):Calls Try.prog 98 #[.int .u64 x,.int .i64 2] w fun e w'=>e=.returned (.string (le2 x))∧Below w.heap.size w w':=hibernacleref01_Put.calls 3 x 2 _ w (rput2 x h0 h1 3 (by omega))
def hrhead.T:Bool × List (List Nat × List Nat):=(true,[([],[]),([],[]),([1],[1]),([0,2],[0,2]),([],[]),([3,4],[3,4]),([5,4,0,1,2,3,4,5],[5])])
def hrhead.B:List Nat:=[0,0,2,7,0,31,63]
theorem hrhead.tab:rtab .any (opsOf Try.f61 11)=hrhead.T:=by kernel_rfl
theorem hrhead.bits:waitsOk hrhead.T.2 hrhead.B=true:=by kernel_rfl
set_option maxHeartbeats 8000000 in
set_option maxRecDepth 100000 in
theorem rhead_walk (A:Option Addr) (c:Nat) (l:List S27) (w:World) (hl:Kd.C k27 w A l.length l) (hc:l.length≤c) (hf:Fit l) :
  Calls Try.prog 61 #[.slice A l.length c] w fun e w'=>e=.returned (.string (headV l))∧Below w.heap.size w w':=by
 have hu27:=Try.underlying27
 have HL:=Aside0.mk hl
 have hn:=hf.1
 have HF:=Aside0.mk hf
 have hwl:IntKind.u64.wrap (l.length:Int)=(l.length:Int):=u64_small _ (by omega) (by omega)
 have c0:(9223372036854775807<(⟨#[104,105,98,106]⟩:ByteArray).size + (le2 (l.length:Int)).size)=False:=eq_false (by rw [le2_size];decide)
 clear hl hf
 go_enter Try.func61,Try.ntmps61
 go_wp2_with (first
  | ((with_reducible refine gate_dst (N:=10) rfl ?_);refine goesL_ (some 10) rfl rfl Try.func98 (by kernel_rfl) rfl #[.int .u64 (l.length:Int),.int .i64 2] rfl (by (try simp only [List.map_toArray,List.map_cons,List.map_nil]);first |done |rfl) ?_;refine (rput2_at (l.length:Int) (by omega) (by omega) _).mono ?_;rintro e w1 ⟨rfl,hb1⟩;refine ⟨_,rfl, ?_⟩;have HB1:=Aside0.mk hb1;clear hb1)
  | ((with_reducible refine gate_dst (N:=12) rfl ?_);refine Kd.R_lit Kd.string w.heap.size 9 ?hg (N:=12) ?hd (xs:=([]:List ByteArray)) (inner:=[]) (ok:=fun _=>True) (okp:=fun _=>True) ?hr ?hp (fun _ hk=>hk) trivial HB1.out HB1.out.size (by simp) ?_;(case hd=>rfl);(case hg=>rfl);(case hr=>first |(go_simp;done) |(go_simp;rfl));(case hp=>exact (Reps.none _ _));intro v2 w2 ho2 hb2 hg_ hnew_;clear hg_ hnew_;have HO2:=Aside0.mk ho2;have HB2:=Aside0.mk hb2;clear ho2 hb2)
  | fail)
 obtain ⟨B2,e2,rfl⟩:=Kd.R_slice HO2.out
 obtain ⟨f0,hf0⟩:∃ z,z=(⟨#[104,105,98,106]⟩:ByteArray) ++ le2 (l.length:Int):=⟨_,rfl⟩
 have hf0s:f0.size=6:=by rw [hf0,ByteArray.size_append,le2_size];rfl
 rw [← hf0]
 have HF0:=Aside0.mk hf0
 clear hf0
 go_loopw [3,4,15] (fun f v i wr=>∃ j:Nat,j≤l.length∧f=.string (frontL (l.take j) f0)∧i=.int .i64 (j:Int)∧Aside0 (Kd.R Kd.string 9 wr w.heap.size (fun _=>True) v ((l.take j).map (·.f1)))∧Aside0 (Below w.heap.size w wr)) (fun _ _ i _=>l.length - (intOf i).toNat)
 case atStart=>exact ⟨0,Nat.zero_le _,rfl,rfl,HO2,HB2⟩
 case round=>
  clear HO2 HB2
  obtain ⟨j,hj,rfl,rfl,HR,HB⟩:=hrel
  by_cases hlt:j<l.length
  ·have hjl:(j:Int)<l.length:=by omega
   have hjr:(j:Int)≤140737488355328:=by omega
   obtain ⟨ad,rfl,g0,g1⟩:=at_T27 (Kd.C_below HL.out HB.out) (j:Int) (by omega) (by omega)
   rw [show rd_T27 l (j:Int)=l[j] from rdTN l j hlt] at g0 g1
   have hsnoc:=frontL_snoc l j hlt f0
   have hmem:=HF.out.2.1 l[j] (List.getElem_mem hlt)
   have hts:(l.take (j + 1)).map (·.f1)=(l.take j).map (·.f1) ++ [l[j].f1]:=by rw [← List.take_append_getElem hlt,List.map_append];rfl
   have hfs:(frontL (l.take j) f0).size≤70:=by rw [frontL_size,hf0s,List.length_take];omega
   obtain ⟨x,hx⟩:∃ x,x=l[j]:=⟨_,rfl⟩
   rw [← hx] at g0 g1 hsnoc hmem hts
   simp only [Int.toNat_natCast] at g0 g1
   generalize frontL (l.take j) f0=f at hsnoc hfs ⊢
   have HS:=Aside0.mk hsnoc
   have HT:=Aside0.mk hts
   have hwx:=u64_small x.f0 hmem.1 hmem.2
   have hcx:(9223372036854775807<f.size + (le2 x.f0).size)=False:=eq_false (by rw [le2_size];omega)
   clear hx hsnoc hts
   go_wp2_with (first
    | ((with_reducible refine gate_dst (N:=25) rfl ?_);refine goesL_ (some 25) rfl rfl Try.func98 (by kernel_rfl) rfl #[.int .u64 x.f0,.int .i64 2] rfl (by (try simp only [List.map_toArray,List.map_cons,List.map_nil]);first |done |rfl) ?_;refine (rput2_at x.f0 hmem.1 hmem.2 _).mono ?_;rintro e w7 ⟨rfl,hb7⟩;refine ⟨_,rfl, ?_⟩;have n1:=pw_cell_below hb7 g1;have HR7:=Aside0.mk (Kd.R_below HR.out hb7);have HB7:=Aside0.mk (below_step HB.out hb7);clear hb7)
    | ((with_reducible refine gate_builtin (b:=.append) (xs:=#[.tmp 27,.tmp 33]) rfl ?_);at_builtin;refine Kd.R_append Kd.string (w0:=w) w.heap.size rfl (.tmp 27) (.tmp 33) 22 9 (.string ⟨#[]⟩) 16 rfl Try.underlying22 info9 rfl (by decide) (by omega) u4 ((l.take j).map (·.f1)) x.f1 [.string x.f1] (fun _=>True) (fun _=>False) rfl rfl rfl (fun _ hk=>hk.elim) (fun _ _=>trivial) HR7.out HB7.out HB7.out.size ?aL ?_;(case aL=>simp;omega);intro v8 w8 ho hb8 hg hat;have HR8:=Aside0.mk ho;have HB8:=Aside0.mk hb8;clear ho hb8 hg hat)
    | fail)
   go_roundw
   case rel=>
    refine ⟨_,_,_,_,⟨j + 1,by omega,rfl,rfl,⟨?_⟩⟩,by rw [HS.out],rfl,rfl,by simp⟩
    rw [← List.map_take,HT.out]
    exact HR8.out
   case measure=>simp only [intOf];omega
  ·obtain rfl:j=l.length:=by omega
   have hR:=HR.out
   rw [List.take_length] at hR ⊢
   obtain ⟨Ls,hLs⟩:∃ z,z=l.map (·.f1):=⟨_,rfl⟩
   obtain ⟨F,hF⟩:∃ z,z=frontL l f0:=⟨_,rfl⟩
   rw [← hLs] at hR
   rw [← hF]
   have hFs:F.size=6 + 2 * l.length:=by rw [hF,frontL_size,hf0s]
   have hLl:Ls.length=l.length:=by rw [hLs,List.length_map]
   have hFV:F=frontV l:=by rw [hF,frontV,HF0.out];rfl
   have hws:wrap64 (70 - (F.size:Int))=((70 - F.size:Nat):Int):=by unfold wrap64;omega
   have hcz:(9223372036854775807<F.size + (zeroB (70 - F.size)).size)=False:=eq_false (by rw [zeroB_size];omega)
   have hG:(F ++ zeroB (70 - F.size)).size=70:=by rw [ByteArray.size_append,zeroB_size];omega
   obtain ⟨A4,c4,rfl⟩:=Kd.R_slice hR
   have HR:=Aside0.mk hR
   have HFV:=Aside0.mk hFV
   have HLs:=Aside0.mk hLs
   obtain ⟨D,hD⟩:∃ z,z=digF hSum (joinS ((F ++ zeroB (70 - F.size)) :: Ls)):=⟨_,rfl⟩
   have HDl:Aside0 (D.length=32):=⟨by rw [hD];simp [digF,fillB_length]⟩
   have HJ:Aside0 ((joinS ((F ++ zeroB (70 - F.size)) :: Ls)).size≤1000000):=⟨by
    rw [joinS_size,List.map_cons,List.sum_cons,hG]
    have:=sum_128 Ls (by rw [hLs];intro s hs;obtain ⟨y,hy,rfl⟩:=List.mem_map.1 hs;exact HF.out.2.2 y hy)
    omega⟩
   have HD:=Aside0.mk hD
   clear hD
   have HFs:=Aside0.mk hFs;have HLl:=Aside0.mk hLl;have HG:=Aside0.mk hG;clear hR hF hLs HF0 hFV hFs hLl hG
   go_wp2_with (first
    | ((with_reducible refine gate_dst (N:=40) rfl ?_);refine goesL_ (some 40) rfl rfl Try.func96 (by kernel_rfl) rfl #[.int .i64 (wrap64 (70 - (F.size:Int)))] rfl (by (try simp only [List.map_toArray,List.map_cons,List.map_nil]);first |done |rfl) ?_;refine (show Calls Try.prog 96 #[.int .i64 (wrap64 (70 - (F.size:Int)))] _ (fun e w'=>e=.returned (.string (zeroB (70 - F.size)))∧Below _ _ w') from (by rw [hws];exact rzeros_at (70 - F.size) (by have:=HFs.out;omega) _)).mono ?_;rintro e w9 ⟨rfl,hb9⟩;refine ⟨_,rfl, ?_⟩;have HR9:=Aside0.mk (Kd.R_below HR.out hb9);have HB9:=Aside0.mk (below_step HB.out hb9);clear hb9)
    | ((with_reducible refine gate_dst (N:=43) rfl ?_);refine Kd.R_lit Kd.string (w0:=w) w.heap.size 9 ?hg (N:=43) ?hd (xs:=([F ++ zeroB (70 - F.size)]:List ByteArray)) (inner:=[.string (F ++ zeroB (70 - F.size))]) (ok:=fun _=>True) (okp:=fun _=>True) ?hr ?hp (fun _ hk=>hk) trivial HB9.out HB9.out.size (by simp) ?_;(case hd=>rfl);(case hg=>rfl);(case hr=>first |(go_simp;done) |(go_simp;rfl));(case hp=>exact (Reps.one (show Kd.M Kd.string _ _ _ (F ++ zeroB (70 - F.size)) [.string (F ++ zeroB (70 - F.size))] from rfl) (Reps.none _ _)));intro v43 w43 ho43 hb43 hg43 hnew_;have HC43:=Aside0.mk (Kd.C_below (Kd.R_reads' HR9.out).2.2 (show Below w9.heap.size w9 w43 from ⟨hg43.os,hg43.tape,hg43.output,hg43.size,fun k hk=>hg43.block k hk (by simp)⟩));clear hg43 hnew_;have HO43:=Aside0.mk ho43;have HB43:=Aside0.mk hb43;clear ho43 hb43)
    | ((with_reducible refine gate_builtin (b:=.append) (xs:=#[.tmp 43,.tmp 44]) rfl ?_);at_builtin;refine Kd.R_append_rows Kd.string (w0:=w) w.heap.size rfl (.tmp 43) (.tmp 44) 22 9 (.string ⟨#[]⟩) 16 rfl Try.underlying22 info9 rfl (by decide) (by omega) v43 [F ++ zeroB (70 - F.size)] Ls A4 Ls.length c4 (fun _=>True) (fun _=>False) rfl rfl HO43.out HC43.out (fun _ _ h=>h) (fun _ h=>h.elim) (fun _ _=>trivial) HB43.out HB43.out.size ?aL ?_;(case aL=>simp;have:=HLl.out;omega);intro v45 w45 ho45 hb45 hg hat;obtain ⟨A45,c45,rfl⟩:=Kd.R_slice ho45;have HR45:=Aside0.mk (Kd.R_reads' ho45);have HB45:=Aside0.mk hb45;clear ho45 hb45 hg hat)
    | ((with_reducible refine gate_callee (f:=60) rfl ?_);refine goesL_ (some 46) rfl rfl Try.func60 (by kernel_rfl) rfl #[.slice A45 ([F ++ zeroB (70 - F.size)] ++ Ls).length c45] rfl (by (try simp only [List.map_toArray,List.map_cons,List.map_nil]);first |done |rfl) ?_;refine (show Calls Try.prog 60 #[.slice A45 ([F ++ zeroB (70 - F.size)] ++ Ls).length c45] w45 (fun e w'=>e=.returned (.agg (u8s D))∧Below _ _ w') from (by rw [HD.out];exact ref_Sum.walk A45 c45 ((F ++ zeroB (70 - F.size)) :: Ls) _ HR45.out.2.2 HR45.out.2.1 (by simp;have:=HLl.out;omega) HJ.out)).mono ?_;rintro e w11 ⟨rfl,hb11⟩;refine ⟨_,rfl, ?_⟩;have HB11:=Aside0.mk (below_step HB45.out hb11);clear hb11)
    | ((with_reducible refine gate_store (t:=57) (p:=6) rfl ?_);refine wpList_storeRow (T:=57) (A:=.agg (u8s D)) rfl rfl rfl rfl rfl (storeAt8 (v':=D) (heap_alloc_last w11 (blk8 (zeros 32) 57)) rfl HDl.out) ?_)
    | fail)
   have hB12:Below w.heap.size w ((w11.alloc (blk8 (zeros 32) 57)).setRow w11.heap.size (u8s D)):=(below_alloc HB11.out _).trans ((But.setRow _ _).below (B:=w.heap.size) HB11.out.size (by rw [sz1 rfl];have:=HB11.out.size;omega))
   have hk12:((w11.alloc (blk8 (zeros 32) 57)).setRow w11.heap.size (u8s D)).heap[w11.heap.size]?=some (blk8 D 57):=setRow_heap _ _ _ _ _ _ (heap_alloc_last w11 (blk8 (zeros 32) 57))
   rename_i KK hKK
   replace hKK:=Aside0.mk hKK
   change Code.wp _ _ _ _ ((w11.alloc (blk8 (zeros 32) 57)).setRow w11.heap.size (u8s D))
   obtain ⟨W12,hW12⟩:∃ z,z=(w11.alloc (blk8 (zeros 32) 57)).setRow w11.heap.size (u8s D):=⟨_,rfl⟩
   rw [← hW12] at hB12 hk12 ⊢
   generalize w11.heap.size=g12 at hk12 ⊢
   have HB12:Aside0 (Below w.heap.size w W12.drew∧W12.drew.heap[g12]?=some (blk8 D 57)):=⟨⟨hB12.drew,hk12⟩⟩
   clear hW12 hB12 hk12 HB11 HB9 HR9
   have hcv:=fun (w':World) (h:w'.heap[g12]?=some (blk8 D 57))=>string_of_reads (P:=Try.prog) (src:=77) (dst:=9) (c:=32) Try.underlying77 Try.underlying5 Try.underlying9 (reads_blk8 h HDl.out)
   have hz1:(9223372036854775807<(F ++ zeroB (70 - F.size)).size + (strOfNums D).size)=False:=eq_false (by rw [HG.out,strOfNums_size,HDl.out];decide)
   have hz2:(9223372036854775807<(F ++ zeroB (70 - F.size)).size + (strOfNums D).size + (zeroB 26).size)=False:=eq_false (by rw [HG.out,strOfNums_size,HDl.out,zeroB_size];decide)
   have hbd:=HB12.out
   obtain ⟨G,hGe⟩:∃ z,z=F ++ zeroB (70 - F.size):=⟨_,rfl⟩
   rw [← hGe] at HG HD hz1 hz2 ⊢
   have HGe:=Aside0.mk hGe
   clear hGe
   refine start_ (n:=7) (S:=fun w'=>w'.heap[g12]?=some (blk8 D 57)) (ds:=[]) #[false,false,false,false,false,false,false] (by kernel_rfl) rfl rfl HB12.out.2 (fun hHeld=>?_);refine with_tabW hrhead.tab hrhead.bits (fun HT_ HW_=>?_)
   generalize W12.drew=W13 at hbd hHeld ⊢
   refine pure_ (i:=0) (N:=(some 47)) (v:=?_) (a':=?_) #[true,false,false,false,false,false,false] rfl rfl (any_of HT_.out (by kernel_rfl)) (fun _ _ _ h=>h) (Or.inl ⟨by rfl, ?_⟩) ?_ ?_
   rotate_left
   ·intro w'
    go_simp
    with_reducible rfl
   rotate_left
   ·simp only [Act.put,List.setIfInBounds_toArray,List.set_cons_zero,List.set_cons_succ,i64_w,i32_w]
    rfl
   refine pure_ (i:=1) (N:=(some 48)) (v:=?_) (a':=?_) #[true,true,false,false,false,false,false] rfl rfl (any_of HT_.out (by kernel_rfl)) (fun _ _ _ h=>h) (Or.inl ⟨by rfl, ?_⟩) ?_ ?_
   rotate_left
   ·intro w'
    go_simp
    with_reducible rfl
   rotate_left
   ·simp only [Act.put,List.setIfInBounds_toArray,List.set_cons_zero,List.set_cons_succ,i64_w,i32_w]
    rfl
   refine take_ (i:=2) (N:=(some 49)) (v:=?_) (a':=?_) #[true,true,true,false,false,false,false] rfl rfl (take_ofW HT_.out HW_.out (by kernel_rfl)) (fun _ _ _ h=>h) (Or.inl ⟨by rfl, ?_⟩) hHeld ?_ ?_
   rotate_left
   ·rintro w' s1;have hc1:=hcv w' s1
    go_simp
    with_reducible rfl
   rotate_left
   ·simp only [Act.put,List.setIfInBounds_toArray,List.set_cons_zero,List.set_cons_succ,i64_w,i32_w]
    rfl
   refine pure_ (i:=3) (N:=(some 50)) (v:=?_) (a':=?_) #[true,true,true,true,false,false,false] rfl rfl (any_of HT_.out (by kernel_rfl)) (fun _ _ _ h=>h) (Or.inl ⟨by rfl, ?_⟩) ?_ ?_
   rotate_left
   ·intro w'
    go_simp
    with_reducible rfl
   rotate_left
   ·simp only [Act.put,List.setIfInBounds_toArray,List.set_cons_zero,List.set_cons_succ,i64_w,i32_w]
    rfl
   refine one_ (i:=4) (N:=(some 51)) #[true,true,true,true,true,false,false] rfl rfl (one_of HT_.out (by kernel_rfl)) (by decide) (fun K hK=>?_)
   refine goes_ Try.func96 (by kernel_rfl) rfl #[.int .i64 26] (by rfl) rfl rfl (by (try simp only [List.map_toArray,List.map_cons,List.map_nil]);first |done |rfl) ?_
   refine (rzeros_at 26 (by omega) W13).mono ?_
   rintro e_ V1 ⟨rfl,hc1⟩
   refine ⟨_,rfl, ?_⟩
   refine hK.out _ _ (blk_below hbd.2 hc1) (fun hHeld=>?_)
   clear hK K
   refine norm_ (a':=?_) ?_ ?_
   rotate_left
   ·show Act.put _ (some 51) _=_
    simp only [Act.put,List.setIfInBounds_toArray,List.set_cons_zero,List.set_cons_succ,i64_w,i32_w]
    rfl
   refine pure_ (i:=5) (N:=(some 52)) (v:=?_) (a':=?_) #[true,true,true,true,true,true,false] rfl rfl (any_of HT_.out (by kernel_rfl)) (fun _ _ _ h=>h) (Or.inl ⟨by rfl, ?_⟩) ?_ ?_
   rotate_left
   ·intro w'
    go_simp
    with_reducible rfl
   rotate_left
   ·simp only [Act.put,List.setIfInBounds_toArray,List.set_cons_zero,List.set_cons_succ,i64_w,i32_w]
    rfl
   refine pure_ (i:=6) (N:=(some 2)) (v:=?_) (a':=?_) #[true,true,true,true,true,true,true] rfl rfl (any_of HT_.out (by kernel_rfl)) (fun _ _ _ h=>h) (Or.inl ⟨by rfl, ?_⟩) ?_ ?_
   rotate_left
   ·intro w'
    go_simp
    with_reducible rfl
   rotate_left
   ·simp only [Act.put,List.setIfInBounds_toArray,List.set_cons_zero,List.set_cons_succ,i64_w,i32_w]
    rfl
   refine done_ (done_of HT_.out (by kernel_rfl)) ?_
   refine hKK.out _ _ ?_
   clear hKK KK
   go_wp2
   go_ret
   refine ⟨?_,below_step hbd.1 hc1⟩
   have hGZ:G=frontZ l:=by rw [HGe.out,HFV.out];rfl
   rw [HD.out,hGZ,HLs.out]
   rfl
instance (l:List S27):Decidable (Fit l):=by unfold Fit;infer_instance
def hibernacleref16_Head.f (l1:List S27):Option ByteArray:=if Fit l1 then some (headV l1) else none
theorem hibernacleref16_Head.calls (A1:Option Addr) (c1:Nat) (l1:List S27) (r:ByteArray) (w:World) (hr1:Kd.C k27 w A1 l1.length l1) (hc1:l1.length≤c1) (h:hibernacleref16_Head.f l1=some r) :
  Calls Try.prog 61 #[.slice A1 l1.length c1] w fun e w'=>e=.returned (.string r)∧Below w.heap.size w w':=by
 unfold hibernacleref16_Head.f at h
 split at h
 case isFalse=>cases h
 case isTrue hf=>
 obtain rfl:=Option.some.inj h
 exact rhead_walk A1 c1 l1 w hr1 hc1 hf
end Go.Proofs.Ytjfmnkmgnbbfgaa.A
