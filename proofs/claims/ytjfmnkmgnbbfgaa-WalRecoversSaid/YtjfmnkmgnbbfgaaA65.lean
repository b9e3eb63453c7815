/- Several texts of this claim in one: M3, A65. -/
import Derived.Test.YtjfmnkmgnbbfgaaM2
import Derived.Test.YtjfmnkmgnbbfgaaA98
import Derived.Test.YtjfmnkmgnbbfgaaA0
import Derived.Test.YtjfmnkmgnbbfgaaXcheck
set_option linter.unusedVariables false
set_option linter.unusedSimpArgs false
namespace Go.Proofs.Ytjfmnkmgnbbfgaa.A
open Go.RowKit Go.Proofs.YtjfmnkmgnbbfgaaW.PrintWords Go.Proofs.YtjfmnkmgnbbfgaaW.PrintLast Go.Proofs.YtjfmnkmgnbbfgaaW.PrintMore
theorem u64_small (x:Int) (h0:0≤x) (h1:x<65536):IntKind.u64.wrap x=x:=by
 have hb:IntKind.u64.bits=64:=rfl
 have hs:IntKind.u64.signed=false:=rfl
 unfold IntKind.wrap
 simp only [hb,hs,Bool.false_and,Bool.false_eq_true,if_false]
 omega
theorem sum_128 (L:List ByteArray) (h:∀ s ∈ L,s.size=128):(L.map (·.size)).sum=128 * L.length:=by
 induction L with
 | nil=>rfl
 | cons s L ih=>rw [List.map_cons,List.sum_cons,h s (List.mem_cons_self),ih (fun s hs=>h s (List.mem_cons_of_mem _ hs)),List.length_cons];omega
theorem put2_at (x:Int) (h0:0≤x) (h1:x<65536) (w:World):Calls Try.prog 100 #[.int .u64 x,.int .i64 2] w fun e w'=>e=.returned (.string (le2 x))∧Below w.heap.size w w':=num_Put.calls 3 x 2 _ w (put2 x h0 h1 3 (by omega))
def hhead.T:Bool × List (List Nat × List Nat):=(true,[([],[]),([],[]),([1],[1]),([0,2],[0,2]),([],[]),([3,4],[3,4]),([5,4,0,1,2,3,4,5],[5])])
def hhead.B:List Nat:=[0,0,2,7,0,31,63]
theorem hhead.tab:rtab .any (opsOf Try.f68 12)=hhead.T:=by kernel_rfl
theorem hhead.bits:waitsOk hhead.T.2 hhead.B=true:=by kernel_rfl
theorem reads_blk8 {W:World} {g:Nat} {v:List Int} (h:W.heap[g]?=some (blk8 v 57)) (hl:v.length=32):ReadsInt W .u8 (some ⟨g,0,none⟩) 32 v:=by
 refine ⟨hl,by omega,fun _=>⟨_,rfl,fun j hj=>?_⟩⟩
 have h1:=(blk_cell h j)
 rw [show (Addr.add ⟨g,0,none⟩ j)=⟨g,j,none⟩ from by simp only [Addr.add,Nat.zero_add];split <;> simp_all,h1]
 simp [u8s,List.getD_eq_getElem?_getD,List.getElem?_eq_getElem (show j<v.length by omega)]
set_option maxHeartbeats 8000000 in
set_option maxRecDepth 100000 in
theorem head_walk (A:Option Addr) (c:Nat) (l:List S27) (w:World) (hl:Kd.C k27 w A l.length l) (hc:l.length≤c) (hf:Fit l) :
  Calls Try.prog 68 #[.slice A l.length c] w fun e w'=>e=.returned (.string (headV l))∧Below w.heap.size w w':=by
 have hu27:=Try.underlying27
 have HL:=Aside0.mk hl
 have hn:=hf.1
 have HF:=Aside0.mk hf
 have hwl:IntKind.u64.wrap (l.length:Int)=(l.length:Int):=u64_small _ (by omega) (by omega)
 have c0:(9223372036854775807<(⟨#[104,105,98,106]⟩:ByteArray).size + (le2 (l.length:Int)).size)=False:=eq_false (by rw [le2_size];decide)
 clear hl hf
 go_enter Try.func68,Try.ntmps68
 go_wp2_with (first
  | ((with_reducible refine gate_dst (N:=11) rfl ?_);refine goesL_ (some 11) rfl rfl Try.func100 (by kernel_rfl) rfl #[.int .u64 (l.length:Int),.int .i64 2] rfl (by (try simp only [List.map_toArray,List.map_cons,List.map_nil]);first |done |rfl) ?_;refine (put2_at (l.length:Int) (by omega) (by omega) _).mono ?_;rintro e w1 ⟨rfl,hb1⟩;refine ⟨_,rfl, ?_⟩;have HB1:=Aside0.mk hb1;clear hb1)
  | ((with_reducible refine gate_dst (N:=13) rfl ?_);refine Kd.R_lit Kd.string w.heap.size 9 ?hg (N:=13) ?hd (xs:=([⟨#[]⟩]:List ByteArray)) (inner:=[.string ⟨#[]⟩]) (ok:=fun _=>True) (okp:=fun _=>True) ?hr ?hp (fun _ hk=>hk) trivial HB1.out HB1.out.size (by simp) ?_;(case hd=>rfl);(case hg=>rfl);(case hr=>first |(go_simp;done) |(go_simp;rfl));(case hp=>exact (Reps.one (show Kd.M Kd.string _ _ _ (⟨#[]⟩:ByteArray) [.string ⟨#[]⟩] from rfl) (Reps.none _ _)));intro v2 w2 ho2 hb2 hg_ hnew_;clear hg_ hnew_;have HO2:=Aside0.mk ho2;have HB2:=Aside0.mk hb2;clear ho2 hb2)
  | fail)
 obtain ⟨B2,e2,rfl⟩:=Kd.R_slice HO2.out
 obtain ⟨f0,hf0⟩:∃ z,z=(⟨#[104,105,98,106]⟩:ByteArray) ++ le2 (l.length:Int):=⟨_,rfl⟩
 have hf0s:f0.size=6:=by rw [hf0,ByteArray.size_append,le2_size];rfl
 rw [← hf0]
 have HF0:=Aside0.mk hf0
 clear hf0
 go_loopw [3,4,16] (fun f v i wr=>∃ j:Nat,j≤l.length∧f=.string (frontL (l.take j) f0)∧i=.int .i64 (j:Int)∧Aside0 (Kd.R Kd.string 9 wr w.heap.size (fun _=>True) v (⟨#[]⟩ :: (l.take j).map (·.f1)))∧Aside0 (Below w.heap.size w wr)) (fun _ _ i _=>l.length - (intOf i).toNat)
 case atStart=>exact ⟨0,Nat.zero_le _,rfl,rfl,HO2,HB2⟩
 case round=>
  clear HO2 HB2
  obtain ⟨j,hj,rfl,rfl,HR,HB⟩:=hrel
  by_cases hlt:j<l.length
  ·have hjl:(j:Int)<l.length:=by omega
   have hjr:(j:Int)≤140737488355328:=by omega
   obtain ⟨ad,rfl,g0,g1⟩:=at_T27 (Kd.C_below HL.out HB.out) (j:Int) (by omega) (by omega)
   rw [show rd_T27 l (j:Int)=l[j] from rdTN l j hlt] at g0 g1
   have hsnoc:=frontL_snoc l j hlt f0
   have hmem:=HF.out.2.1 l[j] (List.getElem_mem hlt)
   have hts:(l.take (j + 1)).map (·.f1)=(l.take j).map (·.f1) ++ [l[j].f1]:=by rw [← List.take_append_getElem hlt,List.map_append];rfl
   have hfs:(frontL (l.take j) f0).size≤70:=by rw [frontL_size,hf0s,List.length_take];omega
   obtain ⟨x,hx⟩:∃ x,x=l[j]:=⟨_,rfl⟩
   rw [← hx] at g0 g1 hsnoc hmem hts
   simp only [Int.toNat_natCast] at g0 g1
   generalize frontL (l.take j) f0=f at hsnoc hfs ⊢
   have HS:=Aside0.mk hsnoc
   have HT:=Aside0.mk hts
   have hwx:=u64_small x.f0 hmem.1 hmem.2
   have hcx:(9223372036854775807<f.size + (le2 x.f0).size)=False:=eq_false (by rw [le2_size];omega)
   clear hx hsnoc hts
   go_wp2_with (first
    | ((with_reducible refine gate_dst (N:=6) rfl ?_);refine box_event ?hg (N:=6) ?hd (cs:=#[.int .i64 0,.string ⟨#[]⟩]) (t:=27) ?hr ?_;(case hd=>rfl);(case hg=>rfl);(case hr=>first |(go_simp;done) |(go_simp;rfl));intro b6 hb6 w6 hx6 hl6;have m0:=(blk_cell hx6 0).trans rfl;have m1:=(blk_cell hx6 1).trans rfl;have g6:w.heap.size≤b6:=(by rw [hb6];exact HB.out.size);have q0:=blk_frozen hx6 0;have q1:=blk_frozen hx6 1;have HX6:=Aside0.mk hx6;have HL6:=Aside0.mk hl6;have HB6:=Aside0.mk hb6;clear hx6 hl6 hb6)
    | ((with_reducible refine gate_dst (N:=24) rfl ?_);refine goesL_ (some 24) rfl rfl Try.func100 (by kernel_rfl) rfl #[.int .u64 x.f0,.int .i64 2] rfl (by (try simp only [List.map_toArray,List.map_cons,List.map_nil]);first |done |rfl) ?_;refine (put2_at x.f0 hmem.1 hmem.2 _).mono ?_;rintro e w7 ⟨rfl,hb7⟩;refine ⟨_,rfl, ?_⟩;have hRX:=R_set2 (Kd.R_below HR.out HL6.out) HX6.out (by decide) (.int .i64 x.f0) (.string x.f1);have hBX:=((below_step HB.out HL6.out).setCell (p:=⟨b6,0,none⟩) g6 (.int .i64 x.f0)).setCell (p:=⟨b6,1,none⟩) g6 (.string x.f1);have hY:=blk_below (blk_put (blk_put HX6.out 0 (.int .i64 x.f0) rfl) 1 (.string x.f1) rfl) hb7;have n1:=(blk_cell hY 1).trans rfl;have HR7:=Aside0.mk (Kd.R_below hRX hb7);have HB7:=Aside0.mk (below_step hBX hb7);clear hb7 hRX hBX hY)
    | ((with_reducible refine gate_builtin (b:=.append) (xs:=#[.tmp 26,.tmp 29]) rfl ?_);at_builtin;refine Kd.R_append Kd.string (w0:=w) w.heap.size rfl (.tmp 26) (.tmp 29) 22 9 (.string ⟨#[]⟩) 16 rfl Try.underlying22 info9 rfl (by decide) (by omega) u4 (⟨#[]⟩ :: (l.take j).map (·.f1)) x.f1 [.string x.f1] (fun _=>True) (fun _=>False) rfl rfl rfl (fun _ hk=>hk.elim) (fun _ _=>trivial) HR7.out HB7.out HB7.out.size ?aL ?_;(case aL=>simp;omega);intro v8 w8 ho hb8 hg hat;have HR8:=Aside0.mk ho;have HB8:=Aside0.mk hb8;clear ho hb8 hg hat)
    | fail)
   go_roundw
   case rel=>
    refine ⟨_,_,_,_,⟨j + 1,by omega,rfl,rfl,⟨?_⟩⟩,by rw [HS.out],rfl,rfl,by simp⟩
    rw [← List.map_take,HT.out]
    exact HR8.out
   case measure=>simp only [intOf];omega
  ·obtain rfl:j=l.length:=by omega
   have hR:=HR.out
   rw [List.take_length] at hR ⊢
   obtain ⟨Ls,hLs⟩:∃ z,z=l.map (·.f1):=⟨_,rfl⟩
   obtain ⟨F,hF⟩:∃ z,z=frontL l f0:=⟨_,rfl⟩
   rw [← hLs] at hR
   rw [← hF]
   have hFs:F.size=6 + 2 * l.length:=by rw [hF,frontL_size,hf0s]
   have hLl:Ls.length=l.length:=by rw [hLs,List.length_map]
   have hFV:F=frontV l:=by rw [hF,frontV,HF0.out];rfl
   have hws:wrap64 (70 - (F.size:Int))=((70 - F.size:Nat):Int):=by unfold wrap64;omega
   have hcz:(9223372036854775807<F.size + (zeroB (70 - F.size)).size)=False:=eq_false (by rw [zeroB_size];omega)
   have hG:(F ++ zeroB (70 - F.size)).size=70:=by rw [ByteArray.size_append,zeroB_size];omega
   obtain ⟨g4,c4,rfl,gb4,gl4,cl4,hG4⟩:=Kd.R_form hR (by simp)
   have HR:=Aside0.mk hR
   have HFV:=Aside0.mk hFV
   have HLs:=Aside0.mk hLs
   obtain ⟨D,hD⟩:∃ z,z=digF hSum (joinS ((F ++ zeroB (70 - F.size)) :: Ls)):=⟨_,rfl⟩
   have HDl:Aside0 (D.length=32):=⟨by rw [hD];simp [digF,fillB_length]⟩
   have HJ:Aside0 ((joinS ((F ++ zeroB (70 - F.size)) :: Ls)).size≤1000000):=⟨by
    rw [joinS_size,List.map_cons,List.sum_cons,hG]
    have:=sum_128 Ls (by rw [hLs];intro s hs;obtain ⟨y,hy,rfl⟩:=List.mem_map.1 hs;exact HF.out.2.2 y hy)
    omega⟩
   have HD:=Aside0.mk hD
   clear hD
   have HFs:=Aside0.mk hFs;have HLl:=Aside0.mk hLl;have HG:=Aside0.mk hG;clear hR hF hLs hG4 HF0 hFV hFs hLl hG
   go_wp2_with (first
    | ((with_reducible refine gate_dst (N:=36) rfl ?_);refine goesL_ (some 36) rfl rfl Try.func64 (by kernel_rfl) rfl #[.int .i64 (wrap64 (70 - (F.size:Int)))] rfl (by (try simp only [List.map_toArray,List.map_cons,List.map_nil]);first |done |rfl) ?_;refine (show Calls Try.prog 64 #[.int .i64 (wrap64 (70 - (F.size:Int)))] _ (fun e w'=>e=.returned (.string (zeroB (70 - F.size)))∧Below _ _ w') from (by rw [hws];exact wal_zeros.calls ((70 - F.size:Nat):Int) (zeroB (70 - F.size)) _ (wzeros _ (by have:=HFs.out;omega)))).mono ?_;rintro e w9 ⟨rfl,hb9⟩;refine ⟨_,rfl, ?_⟩;have hR9:=Kd.R_below HR.out hb9;have hcc:=Kd.R_celln (⟨#[]⟩:ByteArray) hR9 0 (by decide) (by simp);have k0:w9.cell? ⟨g4,0,none⟩=some (.string ⟨#[]⟩):=hcc.1;have k1:w9.frozen? ⟨g4,0,none⟩=false:=hcc.2;have HR9:=Aside0.mk hR9;have HB9:=Aside0.mk (below_step HB.out hb9);clear hb9 hR9 hcc)
    | ((with_reducible refine gate_callee (f:=47) rfl ?_);have hp:=(Kd.R_putg HR9.out 0 (F ++ zeroB (70 - F.size))).1;have hC:=Kd.R_reads' hp;have HB10:=Aside0.mk (below_set HB9.out gb4:Below w.heap.size w (w9.setCell ⟨g4,0,none⟩ (.string (F ++ zeroB (70 - F.size)))));refine goesL_ (some 42) rfl rfl Try.func47 (by kernel_rfl) rfl #[.slice (some ⟨g4,0,none⟩) (Ls.length + 1) c4] rfl (by (try simp only [List.map_toArray,List.map_cons,List.map_nil]);first |done |rfl) ?_;refine (show Calls Try.prog 47 #[.slice (some ⟨g4,0,none⟩) (Ls.length + 1) c4] (w9.setCell ⟨g4,0,none⟩ (.string (F ++ zeroB (70 - F.size)))) (fun e w'=>e=.returned (.agg (u8s D))∧Below _ _ w') from (by rw [HD.out];exact hash_Sum.walk (some ⟨g4,0,none⟩) c4 ((F ++ zeroB (70 - F.size)) :: Ls) _ hC.2.2 hC.2.1 (by simp;have:=HLl.out;omega) HJ.out)).mono ?_;rintro e w11 ⟨rfl,hb11⟩;refine ⟨_,rfl, ?_⟩;have HB11:=Aside0.mk (below_step HB10.out hb11);clear hb11 hp hC)
    | ((with_reducible refine gate_store (t:=57) (p:=7) rfl ?_);refine wpList_storeRow (T:=57) (A:=.agg (u8s D)) rfl rfl rfl rfl rfl (storeAt8 (v':=D) (heap_alloc_last w11 (blk8 (zeros 32) 57)) rfl HDl.out) ?_)
    | fail)
   have hB12:Below w.heap.size w ((w11.alloc (blk8 (zeros 32) 57)).setRow w11.heap.size (u8s D)):=(below_alloc HB11.out _).trans ((But.setRow _ _).below (B:=w.heap.size) HB11.out.size (by rw [sz1 rfl];have:=HB11.out.size;omega))
   have hk12:((w11.alloc (blk8 (zeros 32) 57)).setRow w11.heap.size (u8s D)).heap[w11.heap.size]?=some (blk8 D 57):=setRow_heap _ _ _ _ _ _ (heap_alloc_last w11 (blk8 (zeros 32) 57))
   rename_i KK hKK
   replace hKK:=Aside0.mk hKK
   change Code.wp _ _ _ _ ((w11.alloc (blk8 (zeros 32) 57)).setRow w11.heap.size (u8s D))
   obtain ⟨W12,hW12⟩:∃ z,z=(w11.alloc (blk8 (zeros 32) 57)).setRow w11.heap.size (u8s D):=⟨_,rfl⟩
   rw [← hW12] at hB12 hk12 ⊢
   generalize w11.heap.size=g12 at hk12 ⊢
   have HB12:Aside0 (Below w.heap.size w W12.drew∧W12.drew.heap[g12]?=some (blk8 D 57)):=⟨⟨hB12.drew,hk12⟩⟩
   clear hW12 hB12 hk12 HB11 HB10 HB9 HR9 k0 k1
   have hcv:=fun (w':World) (h:w'.heap[g12]?=some (blk8 D 57))=>string_of_reads (P:=Try.prog) (src:=77) (dst:=9) (c:=32) Try.underlying77 Try.underlying5 Try.underlying9 (reads_blk8 h HDl.out)
   have hz1:(9223372036854775807<(F ++ zeroB (70 - F.size)).size + (strOfNums D).size)=False:=eq_false (by rw [HG.out,strOfNums_size,HDl.out];decide)
   have hz2:(9223372036854775807<(F ++ zeroB (70 - F.size)).size + (strOfNums D).size + (zeroB 26).size)=False:=eq_false (by rw [HG.out,strOfNums_size,HDl.out,zeroB_size];decide)
   have hbd:=HB12.out
   obtain ⟨G,hGe⟩:∃ z,z=F ++ zeroB (70 - F.size):=⟨_,rfl⟩
   rw [← hGe] at HG HD hz1 hz2 ⊢
   have HGe:=Aside0.mk hGe
   clear hGe
   refine start_ (n:=7) (S:=fun w'=>w'.heap[g12]?=some (blk8 D 57)) (ds:=[]) #[false,false,false,false,false,false,false] (by kernel_rfl) rfl rfl HB12.out.2 (fun hHeld=>?_);refine with_tabW hhead.tab hhead.bits (fun HT_ HW_=>?_)
   generalize W12.drew=W13 at hbd hHeld ⊢
   refine pure_ (i:=0) (N:=(some 43)) (v:=?_) (a':=?_) #[true,false,false,false,false,false,false] rfl rfl (any_of HT_.out (by kernel_rfl)) (fun _ _ _ h=>h) (Or.inl ⟨by rfl, ?_⟩) ?_ ?_
   rotate_left
   ·intro w'
    go_simp
    with_reducible rfl
   rotate_left
   ·simp only [Act.put,List.setIfInBounds_toArray,List.set_cons_zero,List.set_cons_succ,i64_w,i32_w]
    rfl
   refine pure_ (i:=1) (N:=(some 44)) (v:=?_) (a':=?_) #[true,true,false,false,false,false,false] rfl rfl (any_of HT_.out (by kernel_rfl)) (fun _ _ _ h=>h) (Or.inl ⟨by rfl, ?_⟩) ?_ ?_
   rotate_left
   ·intro w'
    go_simp
    with_reducible rfl
   rotate_left
   ·simp only [Act.put,List.setIfInBounds_toArray,List.set_cons_zero,List.set_cons_succ,i64_w,i32_w]
    rfl
   refine take_ (i:=2) (N:=(some 45)) (v:=?_) (a':=?_) #[true,true,true,false,false,false,false] rfl rfl (take_ofW HT_.out HW_.out (by kernel_rfl)) (fun _ _ _ h=>h) (Or.inl ⟨by rfl, ?_⟩) hHeld ?_ ?_
   rotate_left
   ·rintro w' s1;have hc1:=hcv w' s1
    go_simp
    with_reducible rfl
   rotate_left
   ·simp only [Act.put,List.setIfInBounds_toArray,List.set_cons_zero,List.set_cons_succ,i64_w,i32_w]
    rfl
   refine pure_ (i:=3) (N:=(some 46)) (v:=?_) (a':=?_) #[true,true,true,true,false,false,false] rfl rfl (any_of HT_.out (by kernel_rfl)) (fun _ _ _ h=>h) (Or.inl ⟨by rfl, ?_⟩) ?_ ?_
   rotate_left
   ·intro w'
    go_simp
    with_reducible rfl
   rotate_left
   ·simp only [Act.put,List.setIfInBounds_toArray,List.set_cons_zero,List.set_cons_succ,i64_w,i32_w]
    rfl
   refine one_ (i:=4) (N:=(some 47)) #[true,true,true,true,true,false,false] rfl rfl (one_of HT_.out (by kernel_rfl)) (by decide) (fun K hK=>?_)
   refine goes_ Try.func64 (by kernel_rfl) rfl #[.int .i64 26] (by rfl) rfl rfl (by (try simp only [List.map_toArray,List.map_cons,List.map_nil]);first |done |rfl) ?_
   refine (wal_zeros.calls 26 (zeroB 26) W13 (wzeros 26 (by omega))).mono ?_
   rintro e_ V1 ⟨rfl,hc1⟩
   refine ⟨_,rfl, ?_⟩
   refine hK.out _ _ (blk_below hbd.2 hc1) (fun hHeld=>?_)
   clear hK K
   refine norm_ (a':=?_) ?_ ?_
   rotate_left
   ·show Act.put _ (some 47) _=_
    simp only [Act.put,List.setIfInBounds_toArray,List.set_cons_zero,List.set_cons_succ,i64_w,i32_w]
    rfl
   refine pure_ (i:=5) (N:=(some 48)) (v:=?_) (a':=?_) #[true,true,true,true,true,true,false] rfl rfl (any_of HT_.out (by kernel_rfl)) (fun _ _ _ h=>h) (Or.inl ⟨by rfl, ?_⟩) ?_ ?_
   rotate_left
   ·intro w'
    go_simp
    with_reducible rfl
   rotate_left
   ·simp only [Act.put,List.setIfInBounds_toArray,List.set_cons_zero,List.set_cons_succ,i64_w,i32_w]
    rfl
   refine pure_ (i:=6) (N:=(some 2)) (v:=?_) (a':=?_) #[true,true,true,true,true,true,true] rfl rfl (any_of HT_.out (by kernel_rfl)) (fun _ _ _ h=>h) (Or.inl ⟨by rfl, ?_⟩) ?_ ?_
   rotate_left
   ·intro w'
    go_simp
    with_reducible rfl
   rotate_left
   ·simp only [Act.put,List.setIfInBounds_toArray,List.set_cons_zero,List.set_cons_succ,i64_w,i32_w]
    rfl
   refine done_ (done_of HT_.out (by kernel_rfl)) ?_
   refine hKK.out _ _ ?_
   clear hKK KK
   go_wp2
   go_ret
   refine ⟨?_,below_step hbd.1 hc1⟩
   have hGZ:G=frontZ l:=by rw [HGe.out,HFV.out];rfl
   rw [HD.out,hGZ,HLs.out]
   rfl
end Go.Proofs.Ytjfmnkmgnbbfgaa.A
namespace Go.Proofs.Ytjfmnkmgnbbfgaa.A
open Go.RowKit Go.Proofs.YtjfmnkmgnbbfgaaW.PrintWords Go.Proofs.YtjfmnkmgnbbfgaaW.PrintLast Go.Proofs.YtjfmnkmgnbbfgaaW.PrintMore
attribute [local go_sem] max2_int min2_int max_two min_two max_three min_three max_four min_four   -- for this text's walks alone
set_option linter.unusedVariables false
set_option linter.unusedSimpArgs false
def wal_bad.f (l0_0:List ByteArray) (l0_1:List (S27)) (a0_2:Int):Option (Int):=(drive_Check.f l0_0 l0_1 a0_2).bind fun t162=>(if t162=0 then (if (l0_0.length:Int)≤33 then (some 2) else (some 0)) else (some t162))
set_option maxHeartbeats 8000000 in
set_option maxRecDepth 100000 in
theorem wal_bad.calls (A0_0:Option Addr) (c0_0:Nat) (l0_0:List ByteArray) (A0_1:Option Addr) (c0_1:Nat) (l0_1:List (S27)) (a0_2:Int) (r:Int) (w:World) (hr0_0:Kd.C Kd.string w A0_0 l0_0.length l0_0) (hc0_0:l0_0.length≤c0_0) (hr0_1:Kd.C k27 w A0_1 l0_1.length l0_1) (hc0_1:l0_1.length≤c0_1) (h:wal_bad.f l0_0 l0_1 a0_2=some r) :
  Calls Try.prog 65 #[.agg #[.slice A0_0 l0_0.length c0_0,.slice A0_1 l0_1.length c0_1,.int .i64 a0_2]] w fun e w'=>e=.returned (.int .i64 r)∧Below w.heap.size w w':=by
 have hu29:=Try.underlying29
 have HR0_0:=Aside0.mk hr0_0
 have HC0_0:=Aside0.mk hc0_0
 clear hr0_0 hc0_0
 have HR0_1:=Aside0.mk hr0_1
 have HC0_1:=Aside0.mk hc0_1
 clear hr0_1 hc0_1
 have HB:=Aside0.mk (Below.refl w.heap.size w)
 have H:((drive_Check.f l0_0 l0_1 a0_2).bind fun t162=>(if t162=0 then (if (l0_0.length:Int)≤33 then (some 2) else (some 0)) else (some t162)))=some r:=h
 clear h
 replace H:=Option.bind_eq_some_iff.mp H
 obtain ⟨t162,A20,H⟩:=H
 replace H:(if t162=0 then (if (l0_0.length:Int)≤33 then (some 2) else (some 0)) else (some t162))=some r:=H
 have A2:=Aside0.mk A20
 clear A20
 by_cases c3:t162=0
 ·rw [if_pos c3] at H
  have c3b0:(t162 == 0)=true:=beq_iff_eq.mpr c3
  have c3b1:(t162 != 0)=false:=bne_eq_false_iff_eq.mpr c3
  clear c3
  by_cases c4:(l0_0.length:Int)≤33
  ·rw [if_pos c4] at H
   have c4b0:decide ((l0_0.length:Int)≤33)=true:=decide_eq_true c4
   have c4b1:decide (l0_0.length≤33)=true:=decide_eq_true (by omega)
   clear c4
   obtain rfl:=Option.some.inj H
   go_enter Try.func65,Try.ntmps65
   go_wp2_with (first |((with_reducible refine gate_dst (N:=1) rfl ?_);refine box_event ?hg (N:=1) ?hd (cs:=#[.slice A0_0 l0_0.length c0_0,.slice A0_1 l0_1.length c0_1,.int .i64 a0_2]) (t:=29) ?hr ?_;(case hd=>rfl);(case hg=>rfl);(case hr=>first |(go_simp;done) |(go_simp;rfl));intro gb161 hg w5 hbox hb;have n0_:=Aside0.mk (below_step (by repeat (first |(with_reducible first |exact HB.out |apply below_alloc |apply pw_below_drewN |apply below_drew1) |exact HB.out)) hb);have n1_:=Aside0.mk (hbox);have n2_:=Aside0.mk ((by rw [hg];exact (below_size (by repeat (first |(with_reducible first |exact HB.out |apply below_alloc |apply pw_below_drewN |apply below_drew1) |exact HB.out))):w.heap.size≤gb161));have n3_:=Aside0.mk ((by rw [hg];exact (below_size (by repeat (first |(with_reducible first |exact HB.out |apply below_alloc |apply pw_below_drewN |apply below_drew1) |exact HB.out))):w.heap.size≤gb161));clear HB;have HB:=n0_;have BK161:=n1_;have GW161:=n2_;have GE161:=n3_;clear n0_ n1_ n2_ n3_;clear hb hbox hg;have hcz6_0:w5.cell? ⟨gb161,0,none⟩=some (.slice A0_0 l0_0.length c0_0):=(blk_cell BK161.out 0).trans rfl;have hcz6_1:w5.cell? ⟨gb161,1,none⟩=some (.slice A0_1 l0_1.length c0_1):=(blk_cell BK161.out 1).trans rfl;have hcz6_2:w5.cell? ⟨gb161,2,none⟩=some (.int .i64 a0_2):=(blk_cell BK161.out 2).trans rfl;have hfz6_0:=blk_frozen BK161.out 0;have hfz6_1:=blk_frozen BK161.out 1;have hfz6_2:=blk_frozen BK161.out 2) |((with_reducible refine gate_callee (f:=34) rfl ?_);refine goesL_ (some 5) rfl rfl Try.func34 (by kernel_rfl) rfl #[.agg #[.slice A0_0 l0_0.length c0_0,.slice A0_1 l0_1.length c0_1,.int .i64 a0_2]] rfl (by (try simp only [List.map_toArray,List.map_cons,List.map_nil]);first |done |rfl |(simp only [List.length_drop,List.length_take];rfl)) ?_;(with_reducible refine (drive_Check.calls _ _ l0_0 _ _ l0_1 a0_2 t162 _ ?side1 ?side2 ?side3 ?side4 A2.out).mono ?_);(case side1=>repeat (first |exact (Kd.C_below HR0_0.out HB.out) |(with_reducible refine Kd.C_alloc ?_ _) |(with_reducible refine Kd.C_drewN ?_ _) |(with_reducible refine Kd.C_drew ?_)));(case side2=>exact HC0_0.out);(case side3=>repeat (first |exact (Kd.C_below HR0_1.out HB.out) |(with_reducible refine Kd.C_alloc ?_ _) |(with_reducible refine Kd.C_drewN ?_ _) |(with_reducible refine Kd.C_drew ?_)));(case side4=>exact HC0_1.out);rintro e w7 ⟨rfl,hb⟩;refine ⟨_,rfl, ?_⟩;have n0_:=Aside0.mk (blk_below (g:=gb161) (o:=.cells #[.slice A0_0 l0_0.length c0_0,.slice A0_1 l0_1.length c0_1,.int .i64 a0_2] 29 (0,0)) (by (with_reducible repeat (first |refine blk_drewN ?_ _ |refine blk_drew ?_ |refine blk_alloc ?_ _));exact BK161.out) hb);have n1_:=Aside0.mk (below_step (by repeat (first |(with_reducible first |exact HB.out |apply below_alloc |apply pw_below_drewN |apply below_drew1 |refine below_set ?_ GE161.out) |exact HB.out)) hb);clear BK161;clear HB;have BK161:=n0_;have HB:=n1_;clear n0_ n1_;(try clear hb);(try clear hb2);(try clear hk);(try clear hi);have hcz8_0:w7.cell? ⟨gb161,0,none⟩=some (.slice A0_0 l0_0.length c0_0):=(blk_cell BK161.out 0).trans rfl;have hcz8_1:w7.cell? ⟨gb161,1,none⟩=some (.slice A0_1 l0_1.length c0_1):=(blk_cell BK161.out 1).trans rfl;have hcz8_2:w7.cell? ⟨gb161,2,none⟩=some (.int .i64 a0_2):=(blk_cell BK161.out 2).trans rfl;have hfz8_0:=blk_frozen BK161.out 0;have hfz8_1:=blk_frozen BK161.out 1;have hfz8_2:=blk_frozen BK161.out 2))
   go_ret
   exact ⟨by first |rfl |(simp [errW_none,errW_some] <;> rfl) |(simp [*,errW_none,errW_some] <;> rfl),by repeat (first |(with_reducible first |exact HB.out |apply below_alloc |apply pw_below_drewN |apply below_drew1 |refine below_set ?_ GE161.out) |exact HB.out)⟩
  ·rw [if_neg c4] at H
   have c4b0:decide ((l0_0.length:Int)≤33)=false:=decide_eq_false c4
   have c4b1:decide (l0_0.length≤33)=false:=decide_eq_false (by omega)
   clear c4
   obtain rfl:=Option.some.inj H
   go_enter Try.func65,Try.ntmps65
   go_wp2_with (first |((with_reducible refine gate_dst (N:=1) rfl ?_);refine box_event ?hg (N:=1) ?hd (cs:=#[.slice A0_0 l0_0.length c0_0,.slice A0_1 l0_1.length c0_1,.int .i64 a0_2]) (t:=29) ?hr ?_;(case hd=>rfl);(case hg=>rfl);(case hr=>first |(go_simp;done) |(go_simp;rfl));intro gb161 hg w9 hbox hb;have n0_:=Aside0.mk (below_step (by repeat (first |(with_reducible first |exact HB.out |apply below_alloc |apply pw_below_drewN |apply below_drew1) |exact HB.out)) hb);have n1_:=Aside0.mk (hbox);have n2_:=Aside0.mk ((by rw [hg];exact (below_size (by repeat (first |(with_reducible first |exact HB.out |apply below_alloc |apply pw_below_drewN |apply below_drew1) |exact HB.out))):w.heap.size≤gb161));have n3_:=Aside0.mk ((by rw [hg];exact (below_size (by repeat (first |(with_reducible first |exact HB.out |apply below_alloc |apply pw_below_drewN |apply below_drew1) |exact HB.out))):w.heap.size≤gb161));clear HB;have HB:=n0_;have BK161:=n1_;have GW161:=n2_;have GE161:=n3_;clear n0_ n1_ n2_ n3_;clear hb hbox hg;have hcz10_0:w9.cell? ⟨gb161,0,none⟩=some (.slice A0_0 l0_0.length c0_0):=(blk_cell BK161.out 0).trans rfl;have hcz10_1:w9.cell? ⟨gb161,1,none⟩=some (.slice A0_1 l0_1.length c0_1):=(blk_cell BK161.out 1).trans rfl;have hcz10_2:w9.cell? ⟨gb161,2,none⟩=some (.int .i64 a0_2):=(blk_cell BK161.out 2).trans rfl;have hfz10_0:=blk_frozen BK161.out 0;have hfz10_1:=blk_frozen BK161.out 1;have hfz10_2:=blk_frozen BK161.out 2) |((with_reducible refine gate_callee (f:=34) rfl ?_);refine goesL_ (some 5) rfl rfl Try.func34 (by kernel_rfl) rfl #[.agg #[.slice A0_0 l0_0.length c0_0,.slice A0_1 l0_1.length c0_1,.int .i64 a0_2]] rfl (by (try simp only [List.map_toArray,List.map_cons,List.map_nil]);first |done |rfl |(simp only [List.length_drop,List.length_take];rfl)) ?_;(with_reducible refine (drive_Check.calls _ _ l0_0 _ _ l0_1 a0_2 t162 _ ?side1 ?side2 ?side3 ?side4 A2.out).mono ?_);(case side1=>repeat (first |exact (Kd.C_below HR0_0.out HB.out) |(with_reducible refine Kd.C_alloc ?_ _) |(with_reducible refine Kd.C_drewN ?_ _) |(with_reducible refine Kd.C_drew ?_)));(case side2=>exact HC0_0.out);(case side3=>repeat (first |exact (Kd.C_below HR0_1.out HB.out) |(with_reducible refine Kd.C_alloc ?_ _) |(with_reducible refine Kd.C_drewN ?_ _) |(with_reducible refine Kd.C_drew ?_)));(case side4=>exact HC0_1.out);rintro e w11 ⟨rfl,hb⟩;refine ⟨_,rfl, ?_⟩;have n0_:=Aside0.mk (blk_below (g:=gb161) (o:=.cells #[.slice A0_0 l0_0.length c0_0,.slice A0_1 l0_1.length c0_1,.int .i64 a0_2] 29 (0,0)) (by (with_reducible repeat (first |refine blk_drewN ?_ _ |refine blk_drew ?_ |refine blk_alloc ?_ _));exact BK161.out) hb);have n1_:=Aside0.mk (below_step (by repeat (first |(with_reducible first |exact HB.out |apply below_alloc |apply pw_below_drewN |apply below_drew1 |refine below_set ?_ GE161.out) |exact HB.out)) hb);clear BK161;clear HB;have BK161:=n0_;have HB:=n1_;clear n0_ n1_;(try clear hb);(try clear hb2);(try clear hk);(try clear hi);have hcz12_0:w11.cell? ⟨gb161,0,none⟩=some (.slice A0_0 l0_0.length c0_0):=(blk_cell BK161.out 0).trans rfl;have hcz12_1:w11.cell? ⟨gb161,1,none⟩=some (.slice A0_1 l0_1.length c0_1):=(blk_cell BK161.out 1).trans rfl;have hcz12_2:w11.cell? ⟨gb161,2,none⟩=some (.int .i64 a0_2):=(blk_cell BK161.out 2).trans rfl;have hfz12_0:=blk_frozen BK161.out 0;have hfz12_1:=blk_frozen BK161.out 1;have hfz12_2:=blk_frozen BK161.out 2))
   go_ret
   exact ⟨by first |rfl |(simp [errW_none,errW_some] <;> rfl) |(simp [*,errW_none,errW_some] <;> rfl),by repeat (first |(with_reducible first |exact HB.out |apply below_alloc |apply pw_below_drewN |apply below_drew1 |refine below_set ?_ GE161.out) |exact HB.out)⟩
 ·rw [if_neg c3] at H
  have c3b0:(t162 == 0)=false:=beq_eq_false_iff_ne.mpr c3
  have c3b1:(t162 != 0)=true:=bne_iff_ne.mpr c3
  obtain rfl:=Option.some.inj H
  go_enter Try.func65,Try.ntmps65
  go_wp2_with (first |((with_reducible refine gate_dst (N:=1) rfl ?_);refine box_event ?hg (N:=1) ?hd (cs:=#[.slice A0_0 l0_0.length c0_0,.slice A0_1 l0_1.length c0_1,.int .i64 a0_2]) (t:=29) ?hr ?_;(case hd=>rfl);(case hg=>rfl);(case hr=>first |(go_simp;done) |(go_simp;rfl));intro gb161 hg w13 hbox hb;have n0_:=Aside0.mk (below_step (by repeat (first |(with_reducible first |exact HB.out |apply below_alloc |apply pw_below_drewN |apply below_drew1) |exact HB.out)) hb);have n1_:=Aside0.mk (hbox);have n2_:=Aside0.mk ((by rw [hg];exact (below_size (by repeat (first |(with_reducible first |exact HB.out |apply below_alloc |apply pw_below_drewN |apply below_drew1) |exact HB.out))):w.heap.size≤gb161));have n3_:=Aside0.mk ((by rw [hg];exact (below_size (by repeat (first |(with_reducible first |exact HB.out |apply below_alloc |apply pw_below_drewN |apply below_drew1) |exact HB.out))):w.heap.size≤gb161));clear HB;have HB:=n0_;have BK161:=n1_;have GW161:=n2_;have GE161:=n3_;clear n0_ n1_ n2_ n3_;clear hb hbox hg;have hcz14_0:w13.cell? ⟨gb161,0,none⟩=some (.slice A0_0 l0_0.length c0_0):=(blk_cell BK161.out 0).trans rfl;have hcz14_1:w13.cell? ⟨gb161,1,none⟩=some (.slice A0_1 l0_1.length c0_1):=(blk_cell BK161.out 1).trans rfl;have hcz14_2:w13.cell? ⟨gb161,2,none⟩=some (.int .i64 a0_2):=(blk_cell BK161.out 2).trans rfl;have hfz14_0:=blk_frozen BK161.out 0;have hfz14_1:=blk_frozen BK161.out 1;have hfz14_2:=blk_frozen BK161.out 2) |((with_reducible refine gate_callee (f:=34) rfl ?_);refine goesL_ (some 5) rfl rfl Try.func34 (by kernel_rfl) rfl #[.agg #[.slice A0_0 l0_0.length c0_0,.slice A0_1 l0_1.length c0_1,.int .i64 a0_2]] rfl (by (try simp only [List.map_toArray,List.map_cons,List.map_nil]);first |done |rfl |(simp only [List.length_drop,List.length_take];rfl)) ?_;(with_reducible refine (drive_Check.calls _ _ l0_0 _ _ l0_1 a0_2 t162 _ ?side1 ?side2 ?side3 ?side4 A2.out).mono ?_);(case side1=>repeat (first |exact (Kd.C_below HR0_0.out HB.out) |(with_reducible refine Kd.C_alloc ?_ _) |(with_reducible refine Kd.C_drewN ?_ _) |(with_reducible refine Kd.C_drew ?_)));(case side2=>exact HC0_0.out);(case side3=>repeat (first |exact (Kd.C_below HR0_1.out HB.out) |(with_reducible refine Kd.C_alloc ?_ _) |(with_reducible refine Kd.C_drewN ?_ _) |(with_reducible refine Kd.C_drew ?_)));(case side4=>exact HC0_1.out);rintro e w15 ⟨rfl,hb⟩;refine ⟨_,rfl, ?_⟩;have n0_:=Aside0.mk (blk_below (g:=gb161) (o:=.cells #[.slice A0_0 l0_0.length c0_0,.slice A0_1 l0_1.length c0_1,.int .i64 a0_2] 29 (0,0)) (by (with_reducible repeat (first |refine blk_drewN ?_ _ |refine blk_drew ?_ |refine blk_alloc ?_ _));exact BK161.out) hb);have n1_:=Aside0.mk (below_step (by repeat (first |(with_reducible first |exact HB.out |apply below_alloc |apply pw_below_drewN |apply below_drew1 |refine below_set ?_ GE161.out) |exact HB.out)) hb);clear BK161;clear HB;have BK161:=n0_;have HB:=n1_;clear n0_ n1_;(try clear hb);(try clear hb2);(try clear hk);(try clear hi)))
  go_ret
  exact ⟨by first |rfl |(simp [errW_none,errW_some] <;> rfl) |(simp [*,errW_none,errW_some] <;> rfl),by repeat (first |(with_reducible first |exact HB.out |apply below_alloc |apply pw_below_drewN |apply below_drew1 |refine below_set ?_ GE161.out) |exact HB.out)⟩
end Go.Proofs.Ytjfmnkmgnbbfgaa.A
