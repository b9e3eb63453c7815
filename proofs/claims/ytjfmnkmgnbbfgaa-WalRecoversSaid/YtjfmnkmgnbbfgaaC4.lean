/- wal.Commit: what it makes of a drive. -/
import Derived.Test.YtjfmnkmgnbbfgaaC3
import Derived.Test.YtjfmnkmgnbbfgaaA65
set_option linter.unusedVariables false
set_option linter.unusedSimpArgs false
namespace Go.Proofs.Ytjfmnkmgnbbfgaa.A
open Go.RowKit Go.Proofs.YtjfmnkmgnbbfgaaW.PrintWords Go.Proofs.YtjfmnkmgnbbfgaaW.PrintLast Go.Proofs.YtjfmnkmgnbbfgaaW.PrintMore
def badV (b:List ByteArray) (p:List S27):Int:=if checkV b p=0 then if b.length≤33 then 2 else 0 else checkV b p
theorem bad_some (b:List ByteArray) (p:List S27) (a:Int) (hp:p.length≤140737488355328):wal_bad.f b p a=some (badV b p):=by
 unfold wal_bad.f drive_Check.f badV
 rw [if_pos hp,Option.bind_some]
 by_cases h:checkV b p=0
 ·rw [if_pos h,if_pos h]
  by_cases h2:b.length≤33
  ·rw [if_pos h2,if_pos (by omega)]
  ·rw [if_neg h2,if_neg (by omega)]
 ·rw [if_neg h,if_neg h]
theorem badV_zero {b:List ByteArray} {p:List S27} (h:badV b p=0):Valid b p∧33<b.length:=by
 unfold badV at h
 by_cases h1:checkV b p=0
 ·rw [if_pos h1] at h
  by_cases h2:b.length≤33
  ·rw [if_pos h2] at h;cases h
  ·exact ⟨check_valid _ _ h1,by omega⟩
 ·rw [if_neg h1] at h;exact absurd h h1
theorem badV_valid {b:List ByteArray} {p:List S27} (h:Valid b p) (h3:33<b.length):badV b p=0:=by
 unfold badV
 rw [if_pos (valid_check _ _ h),if_neg (by omega)]
def putC (i:Nat) (x:S27):CallV:=.put ((i:Int) + 1) x.f1
def putsC (l:List S27):List CallV:=l.mapIdx putC
def planC (l:List S27):List CallV:=putsC l ++ [.put 0 (headV l),.flush] ++ homeV l
def commitV (b:List ByteArray) (p:List S27) (a:Int) (l:List S27):List ByteArray × List S27 × Int × Int:=
 if badV b p=0 then if mayV l ((b.length:Int) - 33)=0∧l≠[] then doV (planC l) b p a else (b,p,a,mayV l ((b.length:Int) - 33)) else (b,p,a,badV b p)
theorem putsC_take (l:List S27) (j:Nat) (hj:j<l.length):putsC (l.take (j + 1))=putsC (l.take j) ++ [putC j l[j]]:=by
 rw [← List.take_append_getElem hj,putsC,List.mapIdx_concat,List.length_take,Nat.min_eq_left (by omega)]
 rfl
theorem kcall_far {W:World} {base base':Nat} {ok:Nat→Prop} {x:CallV} {cs:List Value} (hb:base'≤base) (h:kcall.M W base ok x cs):kcall.M W base' (fun k=>base≤k) x cs:=by
 obtain ⟨v,rfl,h⟩:=h
 exact ⟨v,rfl,h.move (fun _ _ _=>rfl) (fun k _ hk _ _=>⟨hk.2,Nat.le_trans hb hk.2⟩)⟩
theorem planC_len (l:List S27):(planC l).length=2 * l.length + 3:=by
 simp [planC,putsC,homeV];omega
def hcom.T:Bool × List (List Nat × List Nat):=(true,[([],[]),([],[]),([],[]),([2],[2]),([1,3,3],[1,3]),([0,4,4],[0,4]),([5],[5]),([5],[5]),([6,5,0,1,2,3,4,5,6,7],[6]),([7,8,0,1,2,3,4,5,6,7,8],[7])])
def hcom.B:List Nat:=[0,0,0,4,14,31,63,63,255,511]
theorem hcom.tab:rtab .any (opsOf Try.f23 14)=hcom.T:=by kernel_rfl
theorem hcom.bits:waitsOk hcom.T.2 hcom.B=true:=by kernel_rfl
set_option maxHeartbeats 8000000 in
set_option maxRecDepth 100000 in
theorem commit_walk (A0:Option Addr) (c0:Nat) (l0:List ByteArray) (A1:Option Addr) (c1:Nat) (l1:List S27) (a:Int) (A:Option Addr) (c:Nat) (l:List S27) (ok:Nat→Prop) (w:World)
  (hd:Dr w ok (.slice A0 l0.length c0) (.slice A1 l1.length c1) l0 l1) (hl:Kd.C k27 w A l.length l) (hc:l.length≤c) (hp:l1.length≤900) (h0n:l0.length≤140737488355328) :
  Calls Try.prog 23 #[.agg #[.slice A0 l0.length c0,.slice A1 l1.length c1,.int .i64 a],.slice A l.length c] w fun e w'=>DoOut w w' ok e (commitV l0 l1 a l):=by
 have hu29:=Try.underlying29
 have hu27:=Try.underlying27
 have HD:=Aside0.mk hd
 have HL:=Aside0.mk hl
 have hbad:=bad_some l0 l1 a (by omega)
 have HBAD:=Aside0.mk hbad
 clear hd hl hbad
 go_enter Try.func23,Try.ntmps23
 have hws:IntKind.i64.wrap ((l0.length:Int) - 33)=(l0.length:Int) - 33:=by rw [i64_w];unfold wrap64;omega
 by_cases hb0:badV l0 l1=0
 ·have hbb:(badV l0 l1 != 0)=false:=bne_eq_false_iff_eq.mpr hb0
  obtain ⟨hval,h33⟩:=badV_zero hb0
  have h256:=hval.1
  by_cases hm0:mayV l ((l0.length:Int) - 33)=0
  ·have hmb:(mayV l ((l0.length:Int) - 33) != 0)=false:=bne_eq_false_iff_eq.mpr hm0
   by_cases hnil:l=[]
   ·have hln:((l.length:Int) == 0)=true:=by rw [hnil];rfl
    have hV:commitV l0 l1 a l=(l0,l1,a,0):=by rw [commitV,if_pos hb0,if_neg (by simp [hnil]),hm0]
    rw [hV]
    clear hV hnil
    go_wp2_with (first
     | ((with_reducible refine gate_dst (N:=2) rfl ?_);refine box_event ?hg (N:=2) ?hd (cs:=#[.slice A0 l0.length c0,.slice A1 l1.length c1,.int .i64 a]) (t:=29) ?hr ?_;(case hd=>rfl);(case hg=>rfl);(case hr=>first |(go_simp;done) |(go_simp;rfl));intro b2 hb2 w2 hx2 hl2;have HX2:=Aside0.mk hx2;have HL2:=Aside0.mk hl2;have HB2:=Aside0.mk hb2;clear hx2 hl2 hb2)
     | ((with_reducible refine gate_dst (N:=4) rfl ?_);refine box_event ?hg (N:=4) ?hd (cs:=#[.slice none 0 0,.slice none 0 0,.int .i64 0]) (t:=29) ?hr ?_;(case hd=>rfl);(case hg=>rfl);(case hr=>first |(go_simp;done) |(go_simp;rfl));intro b4 hb4 w4 hx4 hl4;have k0:=(blk_cell (blk_below HX2.out hl4) 0).trans rfl;have k1:=(blk_cell (blk_below HX2.out hl4) 1).trans rfl;have k2:=(blk_cell (blk_below HX2.out hl4) 2).trans rfl;have HX4:=Aside0.mk hx4;have HL4:=Aside0.mk hl4;have HB4:=Aside0.mk hb4;clear hx4 hl4 hb4)
     | ((with_reducible refine gate_dst (N:=12) rfl ?_);refine goesL_ (some 12) rfl rfl Try.func65 (by kernel_rfl) rfl #[.agg #[.slice A0 l0.length c0,.slice A1 l1.length c1,.int .i64 a]] rfl (by (try simp only [List.map_toArray,List.map_cons,List.map_nil]);first |done |rfl) ?_;have hbw:=below_step HL2.out HL4.out;have hD4:=HD.out.below hbw;refine (wal_bad.calls A0 c0 l0 A1 c1 l1 a (badV l0 l1) _ (Kd.V_reads' hD4.1).2.2 (Kd.V_reads' hD4.1).2.1 (Kd.V_reads' hD4.2).2.2 (Kd.V_reads' hD4.2).2.1 HBAD.out).mono ?_;rintro e w5 ⟨rfl,hb5⟩;refine ⟨_,rfl, ?_⟩;clear k0 k1 k2;have HBW:=Aside0.mk (below_step hbw hb5);have Y2:=Aside0.mk (blk_below (blk_below HX2.out HL4.out) hb5);have Y4:=Aside0.mk (blk_below HX4.out hb5);have j0:=(blk_cell Y2.out 0).trans rfl;have j1:=(blk_cell Y2.out 1).trans rfl;have j2:=(blk_cell Y2.out 2).trans rfl;have m0:=(blk_cell Y4.out 0).trans rfl;have m1:=(blk_cell Y4.out 1).trans rfl;have m2:=(blk_cell Y4.out 2).trans rfl;have f0:=blk_frozen Y4.out 0;have f1:=blk_frozen Y4.out 1;have f2:=blk_frozen Y4.out 2;clear hb5 hbw hD4)
     | ((with_reducible refine gate_dst (N:=22) rfl ?_);refine goesL_ (some 22) rfl rfl Try.func66 (by kernel_rfl) rfl #[.slice A l.length c,.int .i64 ((l0.length:Int) - 33)] rfl (by (try simp only [List.map_toArray,List.map_cons,List.map_nil]);first |done |rfl) ?_;refine (may_walk A c l ((l0.length:Int) - 33) _ (Kd.C_below HL.out HBW.out) hc).mono ?_;rintro e w6 ⟨rfl,hb6⟩;refine ⟨_,rfl, ?_⟩;have HB6:=Aside0.mk (below_step HBW.out hb6);clear j0 j1 j2 m0 m1 m2 f0 f1 f2;have Z2:=Aside0.mk (blk_below Y2.out hb6);have Z4:=Aside0.mk (blk_below Y4.out hb6);have j0:=(blk_cell Z2.out 0).trans rfl;have j1:=(blk_cell Z2.out 1).trans rfl;have j2:=(blk_cell Z2.out 2).trans rfl;have m0:=(blk_cell Z4.out 0).trans rfl;have m1:=(blk_cell Z4.out 1).trans rfl;have m2:=(blk_cell Z4.out 2).trans rfl;have f0:=blk_frozen Z4.out 0;have f1:=blk_frozen Z4.out 1;have f2:=blk_frozen Z4.out 2;clear hb6)
     | fail)
    have g4:w.heap.size≤b4:=by rw [HB4.out];exact HL2.out.size
    refine bodyPost_ret (results_ct rfl _ _ b4 29 #[.slice A0 l0.length c0,.slice A1 l1.length c1,.int .i64 a] (0,0) _ rfl (blk_put (blk_put (blk_put Z4.out 0 _ rfl) 1 _ rfl) 2 _ rfl) Try.underlying29 rfl (by kernel_rfl)) rfl ?_
    skip
    exact ⟨_,_,rfl,((HD.out.bound.below HB6.out).set3 (fun k hk=>by have:=hk.2;omega) _ _ _).mono (fun k hk=>.inl hk.1),below_set3 HB6.out g4 _ _ _⟩
   ·have hlp:0<l.length:=List.length_pos_iff.mpr hnil
    have hln:((l.length:Int) == 0)=false:=beq_eq_false_iff_ne.mpr (by omega)
    have hV:commitV l0 l1 a l=doV (planC l) l0 l1 a:=by rw [commitV,if_pos hb0,if_pos ⟨hm0,hnil⟩]
    rw [hV]
    clear hV
    have hfit:=fit_may _ (by omega) l hm0
    have HFIT:=Aside0.mk hfit
    have h32:=hfit.1
    clear hfit
    go_wp2_with (first
     | ((with_reducible refine gate_dst (N:=2) rfl ?_);refine box_event ?hg (N:=2) ?hd (cs:=#[.slice A0 l0.length c0,.slice A1 l1.length c1,.int .i64 a]) (t:=29) ?hr ?_;(case hd=>rfl);(case hg=>rfl);(case hr=>first |(go_simp;done) |(go_simp;rfl));intro b2 hb2 w2 hx2 hl2;have HX2:=Aside0.mk hx2;have HL2:=Aside0.mk hl2;have HB2:=Aside0.mk hb2;clear hx2 hl2 hb2)
     | ((with_reducible refine gate_dst (N:=4) rfl ?_);refine box_event ?hg (N:=4) ?hd (cs:=#[.slice none 0 0,.slice none 0 0,.int .i64 0]) (t:=29) ?hr ?_;(case hd=>rfl);(case hg=>rfl);(case hr=>first |(go_simp;done) |(go_simp;rfl));intro b4 hb4 w4 hx4 hl4;have k0:=(blk_cell (blk_below HX2.out hl4) 0).trans rfl;have k1:=(blk_cell (blk_below HX2.out hl4) 1).trans rfl;have k2:=(blk_cell (blk_below HX2.out hl4) 2).trans rfl;have HX4:=Aside0.mk hx4;have HL4:=Aside0.mk hl4;have HB4:=Aside0.mk hb4;clear hx4 hl4 hb4)
     | ((with_reducible refine gate_dst (N:=12) rfl ?_);refine goesL_ (some 12) rfl rfl Try.func65 (by kernel_rfl) rfl #[.agg #[.slice A0 l0.length c0,.slice A1 l1.length c1,.int .i64 a]] rfl (by (try simp only [List.map_toArray,List.map_cons,List.map_nil]);first |done |rfl) ?_;have hbw:=below_step HL2.out HL4.out;have hD4:=HD.out.below hbw;refine (wal_bad.calls A0 c0 l0 A1 c1 l1 a (badV l0 l1) _ (Kd.V_reads' hD4.1).2.2 (Kd.V_reads' hD4.1).2.1 (Kd.V_reads' hD4.2).2.2 (Kd.V_reads' hD4.2).2.1 HBAD.out).mono ?_;rintro e w5 ⟨rfl,hb5⟩;refine ⟨_,rfl, ?_⟩;clear k0 k1 k2;have HBW:=Aside0.mk (below_step hbw hb5);have Y2:=Aside0.mk (blk_below (blk_below HX2.out HL4.out) hb5);have Y4:=Aside0.mk (blk_below HX4.out hb5);have j0:=(blk_cell Y2.out 0).trans rfl;have j1:=(blk_cell Y2.out 1).trans rfl;have j2:=(blk_cell Y2.out 2).trans rfl;have m0:=(blk_cell Y4.out 0).trans rfl;have m1:=(blk_cell Y4.out 1).trans rfl;have m2:=(blk_cell Y4.out 2).trans rfl;have f0:=blk_frozen Y4.out 0;have f1:=blk_frozen Y4.out 1;have f2:=blk_frozen Y4.out 2;clear hb5 hbw hD4)
     | ((with_reducible refine gate_dst (N:=22) rfl ?_);refine goesL_ (some 22) rfl rfl Try.func66 (by kernel_rfl) rfl #[.slice A l.length c,.int .i64 ((l0.length:Int) - 33)] rfl (by (try simp only [List.map_toArray,List.map_cons,List.map_nil]);first |done |rfl) ?_;refine (may_walk A c l ((l0.length:Int) - 33) _ (Kd.C_below HL.out HBW.out) hc).mono ?_;rintro e w6 ⟨rfl,hb6⟩;refine ⟨_,rfl, ?_⟩;have HB6:=Aside0.mk (below_step HBW.out hb6);clear j0 j1 j2 m0 m1 m2 f0 f1 f2;have Z2:=Aside0.mk (blk_below Y2.out hb6);have Z4:=Aside0.mk (blk_below Y4.out hb6);have j0:=(blk_cell Z2.out 0).trans rfl;have j1:=(blk_cell Z2.out 1).trans rfl;have j2:=(blk_cell Z2.out 2).trans rfl;have m0:=(blk_cell Z4.out 0).trans rfl;have m1:=(blk_cell Z4.out 1).trans rfl;have m2:=(blk_cell Z4.out 2).trans rfl;have f0:=blk_frozen Z4.out 0;have f1:=blk_frozen Z4.out 1;have f2:=blk_frozen Z4.out 2;clear hb6)
     | fail)
    clear j0 j1 j2 m0 m1 m2 f0 f1 f2
    go_loopw [8,34] (fun v i wr=>∃ j:Nat,j≤l.length∧i=.int .i64 (j:Int)∧Aside0 (Kd.R kcall 83 wr w6.heap.size (fun _=>True) v (putsC (l.take j)))∧Aside0 (Below w6.heap.size w6 wr)) (fun _ i _=>l.length - (intOf i).toNat)
    case atStart=>exact ⟨0,Nat.zero_le _,rfl,⟨Kd.R_nil _ _ _ _ _⟩,⟨Below.refl _ _⟩⟩
    case round=>
     obtain ⟨j,hj,rfl,HR,HB⟩:=hrel
     by_cases hlt:j<l.length
     ·have hjl:(j:Int)<l.length:=by omega
      have hjr:(j:Int)≤140737488355328:=by omega
      obtain ⟨ad,rfl,g0,g1⟩:=at_T27 (Kd.C_below HL.out (below_step HB6.out HB.out)) (j:Int) (by omega) (by omega)
      rw [show rd_T27 l (j:Int)=l[j] from rdTN l j hlt] at g0 g1
      have htk:=putsC_take l j hlt
      obtain ⟨x,hx⟩:∃ x,x=l[j]:=⟨_,rfl⟩
      rw [← hx] at g0 g1 htk
      simp only [Int.toNat_natCast] at g0 g1
      have HT:=Aside0.mk htk
      clear hx htk
      go_wp2_with (first
       | ((with_reducible refine gate_dst (N:=10) rfl ?_);refine box_event ?hg (N:=10) ?hd (cs:=#[.int .i64 0,.string ⟨#[]⟩]) (t:=27) ?hr ?_;(case hd=>rfl);(case hg=>rfl);(case hr=>first |(go_simp;done) |(go_simp;rfl));intro b10 hb10 w10 hx10 hl10;have m0:=(blk_cell hx10 0).trans rfl;have m1:=(blk_cell hx10 1).trans rfl;have g10:w6.heap.size≤b10:=(by rw [hb10];exact HB.out.size);have f0:=blk_frozen hx10 0;have f1:=blk_frozen hx10 1;have HX10:=Aside0.mk hx10;have HL10:=Aside0.mk hl10;have HB10:=Aside0.mk hb10;clear hx10 hl10 hb10)
       | ((with_reducible refine gate_dst (N:=44) rfl ?_);refine goesL_ (some 44) rfl rfl Try.func67 (by kernel_rfl) rfl #[.int .i64 ((j:Int) + 1),.string x.f1] rfl (by (try simp only [List.map_toArray,List.map_cons,List.map_nil]);first |done |rfl) ?_;refine (wal_put.walk2 ((j:Int) + 1) x.f1 _).mono ?_;rintro e w11 ⟨caps,rfl,hm11,hb11⟩;refine ⟨_,rfl, ?_⟩;have hRX:=R_set2 (Kd.R_below HR.out HL10.out) HX10.out (by decide) (.int .i64 x.f0) (.string x.f1);have hBX:=((below_step HB.out HL10.out).setCell (p:=⟨b10,0,none⟩) g10 (.int .i64 x.f0)).setCell (p:=⟨b10,1,none⟩) g10 (.string x.f1);have hM:=kcall.M_lower hBX.size hm11;have hne:∀ k,(((w10.setCell ⟨b10,0,none⟩ (.int .i64 x.f0)).setCell ⟨b10,1,none⟩ (.string x.f1)).heap.size≤k)→True∧some k≠u8.ownBlock:=(fun k hk=>⟨trivial,fun e_=>by have:=(Kd.R_bound hRX).1 k e_.symm;omega⟩);have HM11:=Aside0.mk hM;have HN11:=Aside0.mk hne;have HR11:=Aside0.mk (Kd.R_below hRX hb11);have HB11:=Aside0.mk (below_step hBX hb11);clear hm11 hb11 hRX hBX hM hne)
       | ((with_reducible refine gate_builtin (b:=.append) (xs:=#[.tmp 39,.tmp 45]) rfl ?_);at_builtin;refine Kd.R_append kcall (w0:=w6) w6.heap.size rfl (.tmp 39) (.tmp 45) 82 83 .nilFunc 8 rfl Try.underlying82 info83 rfl (by decide) (by omega) u8 (putsC (l.take j)) (putC j x) [.func (.func 99) #[] caps] (fun _=>True) _ rfl rfl HM11.out HN11.out (fun _ _=>trivial) HR11.out HB11.out HB11.out.size ?aL ?_;(case aL=>simp [putsC];omega);intro v12 w12 ho hb12 hg hat;have HR12:=Aside0.mk ho;have HB12:=Aside0.mk hb12;clear ho hb12 hg hat)
       | fail)
      go_roundw
      case rel=>
       refine ⟨j + 1,by omega,by simp,⟨?_⟩,HB12⟩
       rw [HT.out]
       exact HR12.out
      case measure=>simp only [intOf];omega
     ·obtain rfl:j=l.length:=by omega
      have hR:=HR.out
      rw [List.take_length] at hR
      have HR:=Aside0.mk hR
      clear hR
      go_wp2_with (first
       | ((with_reducible refine gate_dst (N:=50) rfl ?_);refine goesL_ (some 50) rfl rfl Try.func68 (by kernel_rfl) rfl #[.slice A l.length c] rfl (by (try simp only [List.map_toArray,List.map_cons,List.map_nil]);first |done |rfl) ?_;refine (head_walk A c l _ (Kd.C_below HL.out (below_step HB6.out HB.out)) hc HFIT.out).mono ?_;rintro e wh ⟨rfl,hbh⟩;refine ⟨_,rfl, ?_⟩;have HRh:=Aside0.mk (Kd.R_below HR.out hbh);have HBh:=Aside0.mk (below_step HB.out hbh);clear hbh)
       | ((with_reducible refine gate_dst (N:=51) rfl ?_);refine goesL_ (some 51) rfl rfl Try.func67 (by kernel_rfl) rfl #[.int .i64 0,.string (headV l)] rfl (by (try simp only [List.map_toArray,List.map_cons,List.map_nil]);first |done |rfl) ?_;refine (wal_put.walk2 0 (headV l) _).mono ?_;rintro e wp ⟨caps,rfl,hmp,hbp⟩;refine ⟨_,rfl, ?_⟩;have HMp:=Aside0.mk hmp;have HBp:=Aside0.mk hbp;clear hmp hbp)
       | ((with_reducible refine gate_dst (N:=52) rfl ?_);refine Kd.R_lit kcall (w0:=wh) wh.heap.size 83 ?hg (N:=52) ?hd (xs:=[.put 0 (headV l),.flush]) (inner:=[.func (.func 99) #[] caps,.func (.func 40) #[] #[]]) (ok:=fun _=>True) (okp:=fun k=>wh.heap.size≤k) ?hr ?hp (fun _ _=>trivial) trivial HBp.out HBp.out.size (by simp) ?_;(case hd=>rfl);(case hg=>rfl);(case hr=>first |(go_simp;done) |(go_simp;rfl));(case hp=>exact (Reps.one HMp.out (Reps.one (show kcall.M _ _ _ .flush [.func (.func 40) #[] #[]] from ⟨_,rfl,rfl⟩) (Reps.none _ _))));intro v52 w52 ho52 hb52 hg_ hnew_;clear hg_ hnew_;obtain ⟨A52,c52,hv52,hl52,hrr⟩:=OwnRow.reads ho52.2;subst hv52;have HRR:=Aside0.mk hrr;have HB52:=Aside0.mk hb52;clear ho52 hb52 hrr)
       | ((with_reducible refine gate_builtin (b:=.append) (xs:=#[.tmp 48,.tmp 52]) rfl ?_);at_builtin;refine Kd.R_append_rows kcall (w0:=w6) w6.heap.size rfl (.tmp 48) (.tmp 52) 82 83 .nilFunc 8 rfl Try.underlying82 info83 rfl (by decide) (by omega) u8 (putsC l) [.put 0 (headV l),.flush] A52 2 c52 (fun _=>True) (fun k=>wh.heap.size≤k) rfl rfl (Kd.R_below HRh.out HB52.out) HRR.out (fun x cs h=>kcall_far HBh.out.size h) (fun k hk=>⟨trivial,fun e_=>by have:=(Kd.R_bound HRh.out).1 k e_.symm;omega⟩) (fun _ _=>trivial) (below_step HBh.out HB52.out) (below_step HBh.out HB52.out).size ?aL ?_;(case aL=>simp [putsC];omega);intro v53 w53 ho hb53 hg hat;have HR53:=Aside0.mk ho;have HB53:=Aside0.mk hb53;clear ho hb53 hg hat)
       | fail)
      rename_i KK hKK
      replace hKK:=Aside0.mk hKK
      have hZ:w53.drew.heap[b2]?=some (.cells #[.slice A0 l0.length c0,.slice A1 l1.length c1,.int .i64 a] 29 (0,0)):=blk_below Z2.out HB53.out.drew
      have hB0:Below w6.heap.size w6 w53.drew:=HB53.out.drew
      have hR0:=Kd.R_drew HR53.out
      have n24:b2≠b4:=by rw [HB4.out];exact Nat.ne_of_lt (blk_lt HX2.out)
      refine start_ (n:=10) (S:=fun w'=>w'.heap[b2]?=some (.cells #[.slice A0 l0.length c0,.slice A1 l1.length c1,.int .i64 a] 29 (0,0))) (ds:=[]) #[false,false,false,false,false,false,false,false,false,false] (by kernel_rfl) rfl rfl hZ (fun hHeld=>?_);refine with_tabW hcom.tab hcom.bits (fun HT_ HW_=>?_)
      generalize w53.drew=W0 at hZ hB0 hR0 hHeld ⊢
      refine take_ (i:=0) (N:=(some 54)) (v:=?_) (a':=?_) #[true,false,false,false,false,false,false,false,false,false] rfl rfl (take_ofW HT_.out HW_.out (by kernel_rfl)) (fun _ _ _ h=>h) (Or.inl ⟨by rfl, ?_⟩) hHeld ?_ ?_
      rotate_left
      ·rintro w' s1;have e0:=(blk_cell s1 0).trans rfl;have e1:=(blk_cell s1 1).trans rfl;have e2:=(blk_cell s1 2).trans rfl
       go_simp
       with_reducible rfl
      rotate_left
      ·simp only [Act.put,List.setIfInBounds_toArray,List.set_cons_zero,List.set_cons_succ,i64_w,i32_w]
       rfl
      refine pure_ (i:=1) (N:=(some 55)) (v:=?_) (a':=?_) #[true,true,false,false,false,false,false,false,false,false] rfl rfl (any_of HT_.out (by kernel_rfl)) (fun _ _ _ h=>h) (Or.inl ⟨by rfl, ?_⟩) ?_ ?_
      rotate_left
      ·intro w'
       go_simp
       with_reducible rfl
      rotate_left
      ·simp only [Act.put,List.setIfInBounds_toArray,List.set_cons_zero,List.set_cons_succ,i64_w,i32_w]
       rfl
      refine pure_ (i:=2) (N:=(some 56)) (v:=?_) (a':=?_) #[true,true,true,false,false,false,false,false,false,false] rfl rfl (any_of HT_.out (by kernel_rfl)) (fun _ _ _ h=>h) (Or.inl ⟨by rfl, ?_⟩) ?_ ?_
      rotate_left
      ·intro w'
       go_simp
       with_reducible rfl
      rotate_left
      ·simp only [Act.put,List.setIfInBounds_toArray,List.set_cons_zero,List.set_cons_succ,i64_w,i32_w]
       rfl
      refine one_ (i:=3) (N:=(some 57)) #[true,true,true,true,false,false,false,false,false,false] rfl rfl (one_of HT_.out (by kernel_rfl)) (by decide) (fun K hK=>?_)
      refine goes_ Try.func70 (by kernel_rfl) rfl #[.slice A l.length c] (by rfl) rfl rfl (by (try simp only [List.map_toArray,List.map_cons,List.map_nil]);first |done |rfl) ?_
      refine (home_walk A c l W0 (Kd.C_below HL.out (below_step HB6.out hB0)) (by omega)).mono ?_
      rintro e_ W1 ⟨v57,rfl,hr1,hb1⟩
      obtain ⟨A57,c57,rfl,hl57,hrr⟩:=OwnRow.reads hr1.2
      refine ⟨_,rfl, ?_⟩
      refine hK.out _ _ (blk_below hZ hb1) (fun hHeld=>?_)
      clear hK K
      refine norm_ (a':=?_) ?_ ?_
      rotate_left
      ·show Act.put _ (some 57) _=_
       simp only [Act.put,List.setIfInBounds_toArray,List.set_cons_zero,List.set_cons_succ,i64_w,i32_w]
       rfl
      refine one_ (i:=4) (N:=(some 58)) #[true,true,true,true,true,false,false,false,false,false] rfl rfl (one_of HT_.out (by kernel_rfl)) (by decide) (fun K hK=>?_)
      refine Kd.R_append_rows_step kcall (w0:=w6) w6.heap.size (by rfl) (.tmp 55) (.tmp 57) 82 83 .nilFunc 8 rfl Try.underlying82 info83 rfl (by decide) (by omega) v53 (putsC l ++ [.put 0 (headV l),.flush]) (homeV l) A57 (homeV l).length c57 (fun _=>True) (fun k=>W0.heap.size≤k) rfl rfl (Kd.R_below hR0 hb1) hrr (fun x cs h=>kcall_far hB0.size h) (fun k hk=>⟨trivial,fun e_=>by have:=(Kd.R_bound hR0).1 k e_.symm;omega⟩) (fun _ _=>trivial) (below_step hB0 hb1) (below_step hB0 hb1).size ?aL ?_
      (case aL=>simp [putsC,homeV];omega)
      intro v58 W2 hr2 hb2 hg_ hat_
      refine hK.out _ _ (blk_below Z2.out hb2) (fun hHeld=>?_)
      clear hK K
      refine norm_ (a':=?_) ?_ ?_
      rotate_left
      ·show Act.put _ (some 58) _=_
       simp only [Act.put,List.setIfInBounds_toArray,List.set_cons_zero,List.set_cons_succ,i64_w,i32_w]
       rfl
      refine one_ (i:=5) (N:=(some 59)) #[true,true,true,true,true,true,false,false,false,false] rfl rfl (one_of HT_.out (by kernel_rfl)) (by decide) (fun K hK=>?_)
      obtain ⟨A58,c58,rfl,hl58,hC58⟩:=Kd.R_reads hr2
      refine goes_ Try.func69 (by kernel_rfl) rfl #[.agg #[.slice A0 l0.length c0,.slice A1 l1.length c1,.int .i64 a],.slice A58 (planC l).length c58] (by rfl) rfl rfl (by (try simp only [List.map_toArray,List.map_cons,List.map_nil]);first |done |rfl) ?_
      refine (do_walk (planC l) A58 c58 A0 c0 l0 A1 c1 l1 a (fun k=>ok k∧k<w.heap.size) W2 (HD.out.bound.below (below_step HB6.out hb2)) hC58 h256 (by rw [planC_len];omega)).mono ?_
      rintro e_ W3 ⟨v0,v1,rfl,hD3,hb3⟩
      obtain ⟨C0,q0,C1,q1,rfl,rfl⟩:=hD3.slices
      refine ⟨_,rfl, ?_⟩
      refine hK.out _ _ (blk_below (blk_below Z2.out hb2) hb3) (fun hHeld=>?_)
      clear hK K
      refine norm_ (a':=?_) ?_ ?_
      rotate_left
      ·show Act.put _ (some 59) _=_
       simp only [Act.put,List.setIfInBounds_toArray,List.set_cons_zero,List.set_cons_succ,i64_w,i32_w]
       rfl
      refine pure_ (i:=6) (N:=(some 60)) (v:=?_) (a':=?_) #[true,true,true,true,true,true,true,false,false,false] rfl rfl (any_of HT_.out (by kernel_rfl)) (fun _ _ _ h=>h) (Or.inl ⟨by rfl, ?_⟩) ?_ ?_
      rotate_left
      ·intro w'
       go_simp
       with_reducible rfl
      rotate_left
      ·simp only [Act.put,List.setIfInBounds_toArray,List.set_cons_zero,List.set_cons_succ,i64_w,i32_w]
       rfl
      refine pure_ (i:=7) (N:=(some 61)) (v:=?_) (a':=?_) #[true,true,true,true,true,true,true,true,false,false] rfl rfl (any_of HT_.out (by kernel_rfl)) (fun _ _ _ h=>h) (Or.inl ⟨by rfl, ?_⟩) ?_ ?_
      rotate_left
      ·intro w'
       go_simp
       with_reducible rfl
      rotate_left
      ·simp only [Act.put,List.setIfInBounds_toArray,List.set_cons_zero,List.set_cons_succ,i64_w,i32_w]
       rfl
      refine one_ (i:=8) (N:=none) #[true,true,true,true,true,true,true,true,true,false] rfl rfl (one_of HT_.out (by kernel_rfl)) (by decide) (fun K hK=>?_)
      have z4:=blk_below (blk_below Z4.out hb2) hb3
      have m0:=(blk_cell z4 0).trans rfl
      have m1:=(blk_cell z4 1).trans rfl
      have m2:=(blk_cell z4 2).trans rfl
      have f0:=blk_frozen z4 0
      have f1:=blk_frozen z4 1
      have f2:=blk_frozen z4 2
      refine skip_ (w1:=?_) (by rfl) rfl ?_ ?_
      rotate_left
      ·go_simp
       rfl
      refine hK.out _ _ (blk_far (blk_far (blk_far (blk_below (blk_below Z2.out hb2) hb3) n24 _) n24 _) n24 _) (fun hHeld=>?_)
      clear hK K
      refine pure_ (i:=9) (N:=(some 5)) (v:=?_) (a':=?_) #[true,true,true,true,true,true,true,true,true,true] rfl rfl (any_of HT_.out (by kernel_rfl)) (fun _ _ _ h=>h) (Or.inl ⟨by rfl, ?_⟩) ?_ ?_
      rotate_left
      ·intro w'
       go_simp
       with_reducible rfl
      rotate_left
      ·simp only [Act.put,List.setIfInBounds_toArray,List.set_cons_zero,List.set_cons_succ,i64_w,i32_w]
       rfl
      refine done_ (done_of HT_.out (by kernel_rfl)) ?_
      refine hKK.out _ _ ?_
      clear hKK KK
      have g4:w.heap.size≤b4:=by rw [HB4.out];exact HL2.out.size
      have hB3:=below_step (below_step HB6.out hb2) hb3
      go_wp2
      refine bodyPost_ret (results_ct rfl _ _ b4 29 #[.slice C0 (doV (planC l) l0 l1 a).1.length q0,.slice C1 (doV (planC l) l0 l1 a).2.1.length q1,.int .i64 (doV (planC l) l0 l1 a).2.2.1] (0,0) _ rfl (blk_put (blk_put (blk_put z4 0 _ rfl) 1 _ rfl) 2 _ rfl) Try.underlying29 rfl (by kernel_rfl)) rfl ?_
      have q2:=(HB6.out.trans (hb2.mono HB6.out.size)).size
      have q4:=blk_lt (blk_below Z4.out hb2)
      exact ⟨_,_,rfl,(hD3.set3 (g:=b4) (fun k hk=>by rcases hk with hk |hk <;> omega) _ _ _).mono (fun k hk=>hk.imp (fun h=>h.1) (fun h=>by omega)),below_set3 hB3 g4 _ _ _⟩
  ·have hmb:(mayV l ((l0.length:Int) - 33) != 0)=true:=bne_iff_ne.mpr hm0
   have hV:commitV l0 l1 a l=(l0,l1,a,mayV l ((l0.length:Int) - 33)):=by rw [commitV,if_pos hb0,if_neg (by simp [hm0])]
   rw [hV]
   clear hV
   go_wp2_with (first
    | ((with_reducible refine gate_dst (N:=2) rfl ?_);refine box_event ?hg (N:=2) ?hd (cs:=#[.slice A0 l0.length c0,.slice A1 l1.length c1,.int .i64 a]) (t:=29) ?hr ?_;(case hd=>rfl);(case hg=>rfl);(case hr=>first |(go_simp;done) |(go_simp;rfl));intro b2 hb2 w2 hx2 hl2;have HX2:=Aside0.mk hx2;have HL2:=Aside0.mk hl2;have HB2:=Aside0.mk hb2;clear hx2 hl2 hb2)
    | ((with_reducible refine gate_dst (N:=4) rfl ?_);refine box_event ?hg (N:=4) ?hd (cs:=#[.slice none 0 0,.slice none 0 0,.int .i64 0]) (t:=29) ?hr ?_;(case hd=>rfl);(case hg=>rfl);(case hr=>first |(go_simp;done) |(go_simp;rfl));intro b4 hb4 w4 hx4 hl4;have k0:=(blk_cell (blk_below HX2.out hl4) 0).trans rfl;have k1:=(blk_cell (blk_below HX2.out hl4) 1).trans rfl;have k2:=(blk_cell (blk_below HX2.out hl4) 2).trans rfl;have HX4:=Aside0.mk hx4;have HL4:=Aside0.mk hl4;have HB4:=Aside0.mk hb4;clear hx4 hl4 hb4)
    | ((with_reducible refine gate_dst (N:=12) rfl ?_);refine goesL_ (some 12) rfl rfl Try.func65 (by kernel_rfl) rfl #[.agg #[.slice A0 l0.length c0,.slice A1 l1.length c1,.int .i64 a]] rfl (by (try simp only [List.map_toArray,List.map_cons,List.map_nil]);first |done |rfl) ?_;have hbw:=below_step HL2.out HL4.out;have hD4:=HD.out.below hbw;refine (wal_bad.calls A0 c0 l0 A1 c1 l1 a (badV l0 l1) _ (Kd.V_reads' hD4.1).2.2 (Kd.V_reads' hD4.1).2.1 (Kd.V_reads' hD4.2).2.2 (Kd.V_reads' hD4.2).2.1 HBAD.out).mono ?_;rintro e w5 ⟨rfl,hb5⟩;refine ⟨_,rfl, ?_⟩;clear k0 k1 k2;have HBW:=Aside0.mk (below_step hbw hb5);have Y2:=Aside0.mk (blk_below (blk_below HX2.out HL4.out) hb5);have Y4:=Aside0.mk (blk_below HX4.out hb5);have j0:=(blk_cell Y2.out 0).trans rfl;have j1:=(blk_cell Y2.out 1).trans rfl;have j2:=(blk_cell Y2.out 2).trans rfl;have m0:=(blk_cell Y4.out 0).trans rfl;have m1:=(blk_cell Y4.out 1).trans rfl;have m2:=(blk_cell Y4.out 2).trans rfl;have f0:=blk_frozen Y4.out 0;have f1:=blk_frozen Y4.out 1;have f2:=blk_frozen Y4.out 2;clear hb5 hbw hD4)
    | ((with_reducible refine gate_dst (N:=22) rfl ?_);refine goesL_ (some 22) rfl rfl Try.func66 (by kernel_rfl) rfl #[.slice A l.length c,.int .i64 ((l0.length:Int) - 33)] rfl (by (try simp only [List.map_toArray,List.map_cons,List.map_nil]);first |done |rfl) ?_;refine (may_walk A c l ((l0.length:Int) - 33) _ (Kd.C_below HL.out HBW.out) hc).mono ?_;rintro e w6 ⟨rfl,hb6⟩;refine ⟨_,rfl, ?_⟩;have HB6:=Aside0.mk (below_step HBW.out hb6);clear j0 j1 j2 m0 m1 m2 f0 f1 f2;have Z2:=Aside0.mk (blk_below Y2.out hb6);have Z4:=Aside0.mk (blk_below Y4.out hb6);have j0:=(blk_cell Z2.out 0).trans rfl;have j1:=(blk_cell Z2.out 1).trans rfl;have j2:=(blk_cell Z2.out 2).trans rfl;have m0:=(blk_cell Z4.out 0).trans rfl;have m1:=(blk_cell Z4.out 1).trans rfl;have m2:=(blk_cell Z4.out 2).trans rfl;have f0:=blk_frozen Z4.out 0;have f1:=blk_frozen Z4.out 1;have f2:=blk_frozen Z4.out 2;clear hb6)
    | fail)
   have g4:w.heap.size≤b4:=by rw [HB4.out];exact HL2.out.size
   refine bodyPost_ret (results_ct rfl _ _ b4 29 #[.slice A0 l0.length c0,.slice A1 l1.length c1,.int .i64 a] (0,0) _ rfl (blk_put (blk_put (blk_put Z4.out 0 _ rfl) 1 _ rfl) 2 _ rfl) Try.underlying29 rfl (by kernel_rfl)) rfl ?_
   skip
   exact ⟨_,_,rfl,((HD.out.bound.below HB6.out).set3 (fun k hk=>by have:=hk.2;omega) _ _ _).mono (fun k hk=>.inl hk.1),below_set3 HB6.out g4 _ _ _⟩
 ·have hbb:(badV l0 l1 != 0)=true:=bne_iff_ne.mpr hb0
  have hV:commitV l0 l1 a l=(l0,l1,a,badV l0 l1):=by rw [commitV,if_neg hb0]
  rw [hV]
  clear hV
  go_wp2_with (first
   | ((with_reducible refine gate_dst (N:=2) rfl ?_);refine box_event ?hg (N:=2) ?hd (cs:=#[.slice A0 l0.length c0,.slice A1 l1.length c1,.int .i64 a]) (t:=29) ?hr ?_;(case hd=>rfl);(case hg=>rfl);(case hr=>first |(go_simp;done) |(go_simp;rfl));intro b2 hb2 w2 hx2 hl2;have HX2:=Aside0.mk hx2;have HL2:=Aside0.mk hl2;have HB2:=Aside0.mk hb2;clear hx2 hl2 hb2)
   | ((with_reducible refine gate_dst (N:=4) rfl ?_);refine box_event ?hg (N:=4) ?hd (cs:=#[.slice none 0 0,.slice none 0 0,.int .i64 0]) (t:=29) ?hr ?_;(case hd=>rfl);(case hg=>rfl);(case hr=>first |(go_simp;done) |(go_simp;rfl));intro b4 hb4 w4 hx4 hl4;have k0:=(blk_cell (blk_below HX2.out hl4) 0).trans rfl;have k1:=(blk_cell (blk_below HX2.out hl4) 1).trans rfl;have k2:=(blk_cell (blk_below HX2.out hl4) 2).trans rfl;have HX4:=Aside0.mk hx4;have HL4:=Aside0.mk hl4;have HB4:=Aside0.mk hb4;clear hx4 hl4 hb4)
   | ((with_reducible refine gate_dst (N:=12) rfl ?_);refine goesL_ (some 12) rfl rfl Try.func65 (by kernel_rfl) rfl #[.agg #[.slice A0 l0.length c0,.slice A1 l1.length c1,.int .i64 a]] rfl (by (try simp only [List.map_toArray,List.map_cons,List.map_nil]);first |done |rfl) ?_;have hbw:=below_step HL2.out HL4.out;have hD4:=HD.out.below hbw;refine (wal_bad.calls A0 c0 l0 A1 c1 l1 a (badV l0 l1) _ (Kd.V_reads' hD4.1).2.2 (Kd.V_reads' hD4.1).2.1 (Kd.V_reads' hD4.2).2.2 (Kd.V_reads' hD4.2).2.1 HBAD.out).mono ?_;rintro e w5 ⟨rfl,hb5⟩;refine ⟨_,rfl, ?_⟩;clear k0 k1 k2;have HBW:=Aside0.mk (below_step hbw hb5);have Y2:=Aside0.mk (blk_below (blk_below HX2.out HL4.out) hb5);have Y4:=Aside0.mk (blk_below HX4.out hb5);have j0:=(blk_cell Y2.out 0).trans rfl;have j1:=(blk_cell Y2.out 1).trans rfl;have j2:=(blk_cell Y2.out 2).trans rfl;have m0:=(blk_cell Y4.out 0).trans rfl;have m1:=(blk_cell Y4.out 1).trans rfl;have m2:=(blk_cell Y4.out 2).trans rfl;have f0:=blk_frozen Y4.out 0;have f1:=blk_frozen Y4.out 1;have f2:=blk_frozen Y4.out 2;clear hb5 hbw hD4)
   | fail)
  have g4:w.heap.size≤b4:=by rw [HB4.out];exact HL2.out.size
  refine bodyPost_ret (results_ct rfl _ _ b4 29 #[.slice A0 l0.length c0,.slice A1 l1.length c1,.int .i64 a] (0,0) _ rfl (blk_put (blk_put (blk_put Y4.out 0 _ rfl) 1 _ rfl) 2 _ rfl) Try.underlying29 rfl (by kernel_rfl)) rfl ?_
  skip
  exact ⟨_,_,rfl,((HD.out.bound.below HBW.out).set3 (fun k hk=>by have:=hk.2;omega) _ _ _).mono (fun k hk=>.inl hk.1),below_set3 HBW.out g4 _ _ _⟩
end Go.Proofs.Ytjfmnkmgnbbfgaa.A
