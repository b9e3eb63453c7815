/- The contracts of drive.land (by Flush's and by Crash's closure), drive.Flush and drive.Crash. -/
import Derived.Test.YtjfmnkmgnbbfgaaA0
import Derived.Test.YtjfmnkmgnbbfgaaXclone
import Derived.Test.YtjfmnkmgnbbfgaaA79
import Derived.Test.YtjfmnkmgnbbfgaaA82
import Derived.Test.YtjfmnkmgnbbfgaaXcheck
import Derived.Deep.RegionHeld3
import Derived.Lib.Hide
set_option linter.unusedVariables false
set_option linter.unusedSimpArgs false
namespace Go.Proofs.Ytjfmnkmgnbbfgaa.A
open Go.RowKit Go.Proofs.YtjfmnkmgnbbfgaaW.PrintWords Go.Proofs.YtjfmnkmgnbbfgaaW.PrintLast Go.Proofs.YtjfmnkmgnbbfgaaW.PrintMore
theorem run_store_func {P:Program} {w:World} {a:Addr} {m:Mode} (f:Fn) (x y:Array Value):(Go.store a (.func f x y) m).run P w=Go.stored P w a (.func f x y) m:=Go.run_store P w a _ m rfl
attribute [local go_sem] run_store_func
def endV (h:Int) (was now:ByteArray):ByteArray:=if h=0 then was else if h=1 then now else now.extract 0 64 ++ was.extract 64 was.size
def landOk (n:Nat) (x:S27) (l:List ByteArray):Prop:=lookV n x.f0 x.f1=0∧((rdOf ByteArray.empty l x.f0).size:Int)=128
instance (n:Nat) (x:S27) (l:List ByteArray):Decidable (landOk n x l):=inferInstanceAs (Decidable (_∧_))
def landStep (n:Nat) (h:Int) (x:S27) (l:List ByteArray):List ByteArray:=
 if landOk n x l then l.set x.f0.toNat (endV h (rdOf ByteArray.empty l x.f0) x.f1) else l
def landTo (n:Nat) (hv:Nat→Int):Nat→List S27→List ByteArray→List ByteArray
 | _,[],l=>l
 | i,x :: xs,l=>landTo n hv (i + 1) xs (landStep n (hv i) x l)
theorem landStep_length (n:Nat) (h:Int) (x:S27) (l:List ByteArray):(landStep n h x l).length=l.length:=by unfold landStep;split <;> simp
theorem below_base {base:Nat} {w W W2:World} (h:Below base w W) (hb:base≤W.heap.size) (h2:Below W.heap.size W W2):Below base w W2:=below_then h hb h2
theorem below_set3 {base:Nat} {w W:World} (h:Below base w W) {g:Nat} (hg:base≤g) (a b c:Value):Below base w (((W.setCell ⟨g,0,none⟩ a).setCell ⟨g,1,none⟩ b).setCell ⟨g,2,none⟩ c):=((h.setCell (p:=⟨g,0,none⟩) hg a).setCell (p:=⟨g,1,none⟩) hg b).setCell (p:=⟨g,2,none⟩) hg c
theorem R_far0 {α:Type} {d:Kd α} {e:Nat} {w:World} {base:Nat} {v:Value} {xs:List α} (h:Kd.R d e w base (fun _=>True) v xs) {g t:Nat} {cells:Array Value} (hb:w.heap[g]?=some (.cells cells t (0,0))) (ht:∀ q,q ∈ e :: d.E→q≠t) (j:Nat) (u:Value):Kd.R d e (w.setCell ⟨g,j,none⟩ u) base (fun _=>True) v xs:=
 Kd.R_mono (Kd.R_far (p:=⟨g,j,none⟩) (Kd.R_types h hb ht) (fun _ hk=>hk.2) u) (fun _ _=>trivial)
theorem R_set3 {α:Type} {d:Kd α} {e:Nat} {w:World} {base:Nat} {v:Value} {xs:List α} (h:Kd.R d e w base (fun _=>True) v xs) {g t:Nat} {cells:Array Value} (hb:w.heap[g]?=some (.cells cells t (0,0))) (ht:∀ q,q ∈ e :: d.E→q≠t) (x y z:Value) :
  Kd.R d e (((w.setCell ⟨g,0,none⟩ x).setCell ⟨g,1,none⟩ y).setCell ⟨g,2,none⟩ z) base (fun _=>True) v xs:=
 R_far0 (R_far0 (R_far0 h hb ht 0 x) (blk_set hb 0 x) ht 1 y) (blk_set (blk_set hb 0 x) 1 y) ht 2 z
theorem R_set2 {α:Type} {d:Kd α} {e:Nat} {w:World} {base:Nat} {v:Value} {xs:List α} (h:Kd.R d e w base (fun _=>True) v xs) {g t:Nat} {cells:Array Value} (hb:w.heap[g]?=some (.cells cells t (0,0))) (ht:∀ q,q ∈ e :: d.E→q≠t) (x y:Value) :
  Kd.R d e ((w.setCell ⟨g,0,none⟩ x).setCell ⟨g,1,none⟩ y) base (fun _=>True) v xs:=
 R_far0 (R_far0 h hb ht 0 x) (blk_set hb 0 x) ht 1 y
theorem R_fresh2 {α:Type} {d:Kd α} {e:Nat} {w w2:World} {base:Nat} {v:Value} {xs:List α} (h:Kd.R d e w base (fun _=>True) v xs) (hb:Below w.heap.size w w2) {g:Nat} (hg:w.heap.size≤g) (x y:Value) :
  Kd.R d e ((w2.setCell ⟨g,0,none⟩ x).setCell ⟨g,1,none⟩ y) base (fun _=>True) v xs:=
 Kd.R_mono (Kd.R_far (p:=⟨g,1,none⟩) (Kd.R_far (p:=⟨g,0,none⟩) (Kd.R_below (Kd.R_bound h) hb) (fun k hk=>by have:=hk.2.2.1;show k≠g;omega) x) (fun k hk=>by have:=hk.2.2.1;show k≠g;omega) y) (fun _ _=>trivial)
theorem lookV_is (n:Nat) (i:Int) (s:ByteArray):lookV n i s=0∨lookV n i s=2∨lookV n i s=3:=by unfold lookV;split <;> (try split) <;> simp
def land4.T:Bool × List (List Nat × List Nat):=(true,[([],[]),([0],[0]),([1],[1]),([],[]),([3],[3]),([],[]),([5],[5]),([2,4,6],[2,4,6]),([7],[7]),([8,7],[8]),([9],[9]),([10,9],[9,10]),([11,9],[9,11]),([12,9],[9,12]),([9],[9]),([14,9],[9,14]),([13,15,9],[9,13,15]),([16,9],[9,16]),([17,9],[9,17]),([18,9],[9,18]),([9,19],[9,19])])
def land4.B:List Nat:=[0,1,3,0,8,0,32,127,255,511,1023,2047,4095,8191,1023,17407,65535,131071,262143,524287,1048575]
theorem land4.tab:rtab .any (opsOf Try.f80 4)=land4.T:=by kernel_rfl
theorem land4.bits:waitsOk land4.T.2 land4.B=true:=by kernel_rfl
theorem goesV_ {P : Program} {ops : Array Oper} {Q : Exit → Act → World → Prop} {oi : Oper} {N : Option Tmp} {a : Act} {w : World} {K : Act → World → Prop} {f : FuncId} {fn : Func} {t : Tmp} {caps : Array Value} {xs : Array Operand} {ts : Array TypeId} (hf : P.funcs[f]? = some fn) (hname : (fn.name == "runtime.NumGoroutine") = false) (hb : fn.body.isSome = true) (args : Array Value)
  (hw:Region.wanted oi (yielded ops a.tmps)=true) (hN:oi.dst=N) (hop:oi.op=.call { callee:=.value (.tmp t),args:=xs,argTypes:=ts }) (ht:a.eval (.tmp t)=.func (.func f) #[] caps) (hargs:xs.map a.eval ++ caps=args)
  (h:Calls P f args w fun e w'=>∃ v,e=.returned v∧K (a.put N v) w'):if Region.wanted oi (yielded ops a.tmps)=true then Oper.wp P oi a w K Q else K (a.put N undef) w:=by
 refine call_ f args hw hN ?_ h
 have he:=enters_ hf hname hb args w
 unfold execOp
 simp [hop,resolve,Deferred.ofValue,invoke,ht,hargs,he]
def land5.T:Bool × List (List Nat × List Nat):=(true,[([],[]),([0],[0]),([1],[1]),([2],[2]),([],[]),([4],[4]),([],[]),([],[]),([6,7],[6,7]),([8],[8]),([9],[9]),([],[]),([11],[11]),([12],[12]),([13],[13]),([],[]),([15],[15]),([14,16],[14,16]),([17],[17]),([],[]),([19],[19]),([10,18,20,8],[10,18,20]),([3,5,0,1,2,3,4,5,6,7,8,9,10,11,12,13,14,15,16,17,18,19,20,21],[3,5]),([22,21,21,0,1,2,3,4,5,6,7,8,9,10,11,12,13,14,15,16,17,18,19,20,21],[21,22])])
def land5.B:List Nat:=[0,1,3,7,0,16,0,0,192,448,960,0,2048,6144,14336,0,32768,129024,260096,0,524288,2097088,4194303,8388607]
theorem land5.tab:rtab .any (opsOf Try.f80 5)=land5.T:=by kernel_rfl
theorem land5.bits:waitsOk land5.T.2 land5.B=true:=by kernel_rfl
theorem lookV_zero {n:Nat} {i:Int} {s:ByteArray} (h:lookV n i s=0):0≤i∧i<n∧(s.size:Int)=128:=by
 unfold lookV at h
 split at h
 ·simp at h
 ·split at h
  ·simp at h
  ·omega
theorem end0_any (a b:ByteArray) (w:World):Calls Try.prog 112 #[.string a,.string b] w fun e w'=>e=.returned (.string a)∧∃ m,w'=w.drewN m:=by
 go_enter Try.func112,Try.ntmps112
 go_wp2
 go_ret
 exact ⟨rfl,0,rfl⟩
theorem end1_any (a b:ByteArray) (w:World):Calls Try.prog 113 #[.string a,.string b] w fun e w'=>e=.returned (.string b)∧∃ m,w'=w.drewN m:=by
 go_enter Try.func113,Try.ntmps113
 go_wp2
 go_ret
 exact ⟨rfl,0,rfl⟩
theorem end2_any (a b:ByteArray) (ha:(a.size:Int)=128) (hb:(b.size:Int)=128) (w:World):Calls Try.prog 114 #[.string a,.string b] w fun e w'=>e=.returned (.string (b.extract 0 64 ++ a.extract 64 a.size))∧∃ m,w'=w.drewN m:=by
 have h1:64≤(b.size:Int):=by omega
 have h2:64≤(a.size:Int):=by omega
 have h1':64≤b.size:=by omega
 have h2':64≤a.size:=by omega
 have h3:(9223372036854775807<min 64 b.size + (a.size - 64))=False:=eq_false (by omega)
 go_enter Try.func114,Try.ntmps114
 go_wp2
 go_quiet (fail)
 go_wp2
 go_ret
 exact ⟨rfl,nq,rfl⟩
set_option maxHeartbeats 4000000 in
set_option maxRecDepth 100000 in
theorem land_any {F : FuncId} {fnF : Func} (hfF : Try.prog.funcs[F]? = some fnF) (hnF : (fnF.name == "runtime.NumGoroutine") = false) (hbF : fnF.body.isSome = true) (caps : Array Value) (g : Nat) (Ab : Option Addr) (cb : Nat) (lb : List ByteArray) (Aw : Option Addr) (cw : Nat) (lw : List S27) (a : Int) (base : Nat) (hv : Nat → Int) (w : World)
  (hg:w.heap[g]?=some (.cells #[.slice Ab lb.length cb,.slice Aw lw.length cw,.int .i64 a] 29 (0,0)))
  (hb:Kd.R Kd.string 9 w base (fun _=>True) (.slice Ab lb.length cb) lb) (hw:Kd.R k27 27 w base (fun _=>True) (.slice Aw lw.length cw) lw)
  (hbg:base≤g) (hl:lw.length≤140737488355328) (pb:Nat) (pcs:Array Value) (pt:Nat) (hpb:w.heap[pb]?=some (.cells pcs pt (0,0))) (hpt:pt≠9) (kb:Nat) (kcs:Array Value) (kt:Nat) (hkb:w.heap[kb]?=some (.cells kcs kt (0,0))) (hkt:kt≠9) (hkg:kb≠g)
  (hhow:∀ q wr,q<lw.length→wr.heap[pb]?=some (.cells pcs pt (0,0))→Below base w wr→Calls Try.prog F (#[.int .i64 q] ++ caps) wr fun e w'=>e=.returned (.int .i64 (hv q))∧w'=wr) (hv3:∀ q,hv q=0∨hv q=1∨hv q=2) :
  Calls Try.prog 80 #[.pointer (some ⟨g,0,none⟩),.func (.func F) #[] caps] w fun e w'=>e=.returned (.tuple #[])∧w'.heap[g]?=some (.cells #[.slice Ab lb.length cb,.slice none 0 0,.int .i64 a] 29 (0,0))∧Kd.R Kd.string 9 w' base (fun _=>True) (.slice Ab lb.length cb) (landTo lb.length hv 0 lw lb)∧w'.heap[kb]?=some (.cells kcs kt (0,0))∧Below base w w':=by
 have hu29:=Try.underlying29
 have hu27:=Try.underlying27
 have HG:=Aside0.mk hg
 have HB:=Aside0.mk hb
 have HW:=Aside0.mk hw
 have HH:=Aside0.mk hhow
 have H3:=Aside0.mk hv3
 have HpP:=Aside0.mk hpb
 clear hpb
 have HkP:=Aside0.mk hkb
 clear hkb
 clear hb hw hhow hv3
 have hbase:base≤w.heap.size:=Nat.le_trans hbg (Nat.le_of_lt (blk_lt hg))
 have g0:w.cell? ⟨g,0,none⟩=some (.slice Ab lb.length cb):=(blk_cell hg 0).trans rfl
 have g1:w.cell? ⟨g,1,none⟩=some (.slice Aw lw.length cw):=(blk_cell hg 1).trans rfl
 have g2:w.cell? ⟨g,2,none⟩=some (.int .i64 a):=(blk_cell hg 2).trans rfl
 clear hg
 go_enter Try.func80,Try.ntmps80
 go_wp2_with (
  (with_reducible refine gate_dst (N:=4) rfl ?_);refine box_event ?hg (N:=4) ?hd (cs:=#[.nilFunc,.nilFunc,.nilFunc]) (t:=130) ?hr ?_;(case hd=>rfl);(case hg=>rfl);(case hr=>first |(go_simp;done) |(go_simp;rfl));intro eb heb w1 hbox hb1;have he0:w1.cell? ⟨eb,0,none⟩=some .nilFunc:=(blk_cell hbox 0).trans rfl;have he1:w1.cell? ⟨eb,1,none⟩=some .nilFunc:=(blk_cell hbox 1).trans rfl;have he2:w1.cell? ⟨eb,2,none⟩=some .nilFunc:=(blk_cell hbox 2).trans rfl;have k0:=blk_frozen hbox 0;have k1:=blk_frozen hbox 1;have k2:=blk_frozen hbox 2;have hn1:g≠eb:=(by (rw [heb];exact Nat.ne_of_lt (blk_lt HG.out)));have hn2:eb≠g:=Ne.symm hn1;have hbe:base≤eb:=(by (rw [heb];exact hbase));have hg1:=pw_cell_below hb1 g1;have HEB:=Aside0.mk heb;clear heb)
 have hnp:pb≠eb:=by rw [HEB.out];exact Nat.ne_of_lt (blk_lt HpP.out)
 have hnk:kb≠eb:=by rw [HEB.out];exact Nat.ne_of_lt (blk_lt HkP.out)
 have hgE:=(blk_far (blk_far (blk_far (blk_below HG.out hb1) (p:=⟨eb,0,none⟩) hn1 (.func (.func 112) #[] #[])) (p:=⟨eb,1,none⟩) hn1 (.func (.func 113) #[] #[])) (p:=⟨eb,2,none⟩) hn1 (.func (.func 114) #[] #[]))
 have hbE:=below_set3 (below_base (Below.refl base w) hbase hb1) hbe (.func (.func 112) #[] #[]) (.func (.func 113) #[] #[]) (.func (.func 114) #[] #[])
 have heE:=blk_put (blk_put (blk_put hbox 0 (.func (.func 112) #[] #[]) rfl) 1 (.func (.func 113) #[] #[]) rfl) 2 (.func (.func 114) #[] #[]) rfl
 have hRE:=R_set3 (Kd.R_below HB.out hb1) hbox (by decide) (.func (.func 112) #[] #[]) (.func (.func 113) #[] #[]) (.func (.func 114) #[] #[])
 have hWE:=R_set3 (Kd.R_below HW.out hb1) hbox (by decide) (.func (.func 112) #[] #[]) (.func (.func 113) #[] #[]) (.func (.func 114) #[] #[])
 have hpE:=(blk_far (blk_far (blk_far (blk_below HpP.out hb1) (p:=⟨eb,0,none⟩) hnp (.func (.func 112) #[] #[])) (p:=⟨eb,1,none⟩) hnp (.func (.func 113) #[] #[])) (p:=⟨eb,2,none⟩) hnp (.func (.func 114) #[] #[]))
 have hkE:=(blk_far (blk_far (blk_far (blk_below HkP.out hb1) (p:=⟨eb,0,none⟩) hnk (.func (.func 112) #[] #[])) (p:=⟨eb,1,none⟩) hnk (.func (.func 113) #[] #[])) (p:=⟨eb,2,none⟩) hnk (.func (.func 114) #[] #[]))
 generalize ((w1.setCell ⟨eb,0,none⟩ (.func (.func 112) #[] #[])).setCell ⟨eb,1,none⟩ (.func (.func 113) #[] #[])).setCell ⟨eb,2,none⟩ (.func (.func 114) #[] #[])=W1 at hgE hbE heE hRE hWE hpE hkE ⊢
 have HgE:=Aside0.mk hgE
 have HeE:=Aside0.mk heE
 have HbE:=Aside0.mk hbE
 have HRE:=Aside0.mk hRE
 have HWE:=Aside0.mk hWE
 have HpE:=Aside0.mk hpE
 clear hpE
 have HkE:=Aside0.mk hkE
 clear hkE
 clear hgE hbE heE hRE hWE g0 g1 g2 hg1 he0 he1 he2 k0 k1 k2 hbox hb1 HB HW HG
 go_loopw [13] (fun i wr=>∃ (q:Nat) (lc:List ByteArray),q≤lw.length∧i=.int .i64 q∧Aside0 (lc.length=lb.length)∧Aside0 (landTo lb.length hv q (lw.drop q) lc=landTo lb.length hv 0 lw lb) ∧
   Aside0 (wr.heap[g]?=some (.cells #[.slice Ab lb.length cb,.slice Aw lw.length cw,.int .i64 a] 29 (0,0)))∧Aside0 (wr.heap[eb]?=some (.cells #[.func (.func 112) #[] #[],.func (.func 113) #[] #[],.func (.func 114) #[] #[]] 130 (0,0))) ∧
   Aside0 (Kd.R Kd.string 9 wr base (fun _=>True) (.slice Ab lb.length cb) lc)∧Aside0 (Kd.R k27 27 wr base (fun _=>True) (.slice Aw lw.length cw) lw)∧Aside0 (wr.heap[pb]?=some (.cells pcs pt (0,0)))∧Aside0 (wr.heap[kb]?=some (.cells kcs kt (0,0)))∧Aside0 (Below base w wr)) (fun i _=>lw.length - (intOf i).toNat)
 case atStart=>exact ⟨0,lb,Nat.zero_le _,rfl,⟨rfl⟩,⟨rfl⟩,HgE,HeE,HRE,HWE,HpE,HkE,HbE⟩
 case round=>
  clear HgE HeE HRE HWE HbE HpE HkE
  obtain ⟨q,lc,hq,rfl,HLN,HLT,HgE,HeE,HRE,HWE,HpE,HkE,HbE⟩:=hrel
  by_cases hlt:q<lw.length
  ·obtain ⟨ad,rfl,hc0,hc1⟩:=at_T27 (Kd.R_reads' HWE.out).2.2 (q:Int) (by omega) (by omega)
   have hrd:rd_T27 lw (q:Int)=lw[q]:=by unfold rd_T27;rw [Int.toNat_natCast,List.getD_eq_getElem?_getD,List.getElem?_eq_getElem hlt,Option.getD_some]
   rw [hrd,Int.toNat_natCast] at hc0 hc1
   clear hrd
   have hlt':(q:Int)<(lw.length:Int):=by omega
   have hsz:base≤wr.heap.size:=Nat.le_trans hbg (Nat.le_of_lt (blk_lt HgE.out))
   go_wp2_with (
    (with_reducible refine gate_dst (N:=6) rfl ?_);refine box_event ?hg (N:=6) ?hd (cs:=#[.int .i64 0,.string (⟨#[]⟩:ByteArray)]) (t:=27) ?hr ?_;(case hd=>rfl);(case hg=>rfl);(case hr=>first |(go_simp;done) |(go_simp;rfl));intro bx hbx w2 hbox hb2;have g0:w2.cell? ⟨bx,0,none⟩=some (.int .i64 0):=(blk_cell hbox 0).trans rfl;have g1:w2.cell? ⟨bx,1,none⟩=some (.string (⟨#[]⟩:ByteArray)):=(blk_cell hbox 1).trans rfl;have f0:=blk_frozen hbox 0;have f1:=blk_frozen hbox 1;have HBX:=Aside0.mk hbx;clear hbx)
   have hbx:=HBX.out
   have n1:g≠bx:=(by (rw [hbx];exact Nat.ne_of_lt (blk_lt HgE.out)));have n2:eb≠bx:=(by (rw [hbx];exact Nat.ne_of_lt (blk_lt HeE.out)));have np:pb≠bx:=by (rw [hbx];exact Nat.ne_of_lt (blk_lt HpE.out))
   have HpF:=Aside0.mk (blk_far (blk_far (blk_below HpE.out hb2) (p:=⟨bx,0,none⟩) np (.int .i64 lw[q].f0)) (p:=⟨bx,1,none⟩) np (.string lw[q].f1));have nk:kb≠bx:=by (rw [hbx];exact Nat.ne_of_lt (blk_lt HkE.out))
   have HkF:=Aside0.mk (blk_far (blk_far (blk_below HkE.out hb2) (p:=⟨bx,0,none⟩) nk (.int .i64 lw[q].f0)) (p:=⟨bx,1,none⟩) nk (.string lw[q].f1));have hbxb:base≤bx:=(by (rw [hbx];exact hsz));have HgF:=Aside0.mk (blk_far (blk_far (blk_below HgE.out hb2) (p:=⟨bx,0,none⟩) n1 (.int .i64 lw[q].f0)) (p:=⟨bx,1,none⟩) n1 (.string lw[q].f1));have HeF:=Aside0.mk (blk_far (blk_far (blk_below HeE.out hb2) (p:=⟨bx,0,none⟩) n2 (.int .i64 lw[q].f0)) (p:=⟨bx,1,none⟩) n2 (.string lw[q].f1));have HxF:=Aside0.mk (blk_put (blk_put hbox 0 (.int .i64 lw[q].f0) rfl) 1 (.string lw[q].f1) rfl);have HRF:=Aside0.mk (R_fresh2 HRE.out hb2 (Nat.le_of_eq hbx.symm) (.int .i64 lw[q].f0) (.string lw[q].f1));have HWF:=Aside0.mk (R_fresh2 HWE.out hb2 (Nat.le_of_eq hbx.symm) (.int .i64 lw[q].f0) (.string lw[q].f1));have HbF:=Aside0.mk (((below_base HbE.out hsz hb2).setCell (p:=⟨bx,0,none⟩) hbxb (.int .i64 lw[q].f0)).setCell (p:=⟨bx,1,none⟩) hbxb (.string lw[q].f1));generalize (w2.setCell ⟨bx,0,none⟩ (.int .i64 lw[q].f0)).setCell ⟨bx,1,none⟩ (.string lw[q].f1)=W3 at HgF HeF HxF HRF HWF HbF HpF HkF ⊢
   clear hbox hb2 g0 g1 f0 f1 hbx HBX HgE HeE HRE HWE HbE hc0 hc1 n1 n2 np HpE nk HkE
   have CR:=(Kd.R_reads' HRF.out).2.2
   have CRl:=(Kd.R_reads' HRF.out).2.1
   have CW:=(Kd.R_reads' HWF.out).2.2
   have CWl:=(Kd.R_reads' HWF.out).2.1
   have LK0:∀ W,Below W3.heap.size W3 W→Calls Try.prog 78 #[.agg #[.slice Ab lb.length cb,.slice (some ad) lw.length cw,.int .i64 a],.int .i64 lw[q].f0,.string lw[q].f1] W fun e w'=>e=.returned (.int .i64 (lookV lb.length lw[q].f0 lw[q].f1))∧Below W.heap.size W w':=by
    intro W hW
    have:=drive_look.calls 2 Ab cb lc (some ad) cw lw a lw[q].f0 lw[q].f1 _ W (Kd.C_below CR hW) (by rw [HLN.out];exact CRl) (Kd.C_below CW hW) CWl (look_some _ _ _ _ _)
    rw [HLN.out] at this
    exact this
   have LK:=Aside0.mk LK0
   clear LK0 CR CRl CW CWl
   have g0:W3.cell? ⟨g,0,none⟩=some (.slice Ab lb.length cb):=(blk_cell HgF.out 0).trans rfl
   have g1:W3.cell? ⟨g,1,none⟩=some (.slice (some ad) lw.length cw):=(blk_cell HgF.out 1).trans rfl
   have g2:W3.cell? ⟨g,2,none⟩=some (.int .i64 a):=(blk_cell HgF.out 2).trans rfl
   have x0:W3.cell? ⟨bx,0,none⟩=some (.int .i64 lw[q].f0):=(blk_cell HxF.out 0).trans rfl
   have x1:W3.cell? ⟨bx,1,none⟩=some (.string lw[q].f1):=(blk_cell HxF.out 1).trans rfl
   have hs3:base≤W3.heap.size:=Nat.le_trans hbg (Nat.le_of_lt (blk_lt HgF.out))
   rcases lookV_is lb.length lw[q].f0 lw[q].f1 with hz |hz |hz
   ·obtain ⟨hf0,hf1,hf2⟩:=lookV_zero hz
    have hp:0<lc.length:=by have:=HLN.out;omega
    obtain ⟨go,co,eo,gbb,glt,cells,hcells⟩:=Kd.R_form HRF.out hp
    injection eo with ea_ en_ ec_
    subst ea_
    subst ec_
    clear en_
    obtain ⟨d0,df0⟩:=Kd.R_celln ByteArray.empty HRF.out lw[q].f0 hf0 hf1
    have HCE:=Aside0.mk hcells
    clear hcells
    have LK:=Aside0.mk (fun W hW=>(LK.out W hW).mono (R':=fun e w'=>e=.returned (.int .i64 0)∧Below W.heap.size W w') (fun e w' h=>by rw [hz] at h;exact h))
    refine start_ (n:=21) (S:=fun w'=>w'.cell? ⟨g,0,none⟩=some (.slice (some ⟨go,0,none⟩) lb.length cb)∧w'.cell? ⟨g,1,none⟩=some (.slice (some ad) lw.length cw)∧w'.cell? ⟨g,2,none⟩=some (.int .i64 a)∧w'.cell? ⟨bx,0,none⟩=some (.int .i64 lw[q].f0)∧w'.cell? ⟨bx,1,none⟩=some (.string lw[q].f1)∧w'.cell? ⟨go,lw[q].f0.toNat,none⟩=some (.string (rdOf ByteArray.empty lc lw[q].f0))) (ds:=[]) #[false,false,false,false,false,false,false,false,false,false,false,false,false,false,false,false,false,false,false,false,false] (by kernel_rfl) rfl rfl ⟨g0,g1,g2,x0,x1,d0⟩ (fun hHeld=>?_);refine with_tabW land4.tab land4.bits (fun HT_ HW_=>?_)
    refine pure_ (i:=0) (N:=(some 18)) (v:=?_) (a':=?_) #[true,false,false,false,false,false,false,false,false,false,false,false,false,false,false,false,false,false,false,false,false] rfl rfl (any_of HT_.out (by kernel_rfl)) (fun _ _ _ h=>h) (Or.inl ⟨by rfl, ?_⟩) ?_ ?_
    rotate_left
    ·intro w'
     go_simp
     with_reducible rfl
    rotate_left
    ·simp only [Act.put,List.setIfInBounds_toArray,List.set_cons_zero,List.set_cons_succ,i64_w,i32_w]
     rfl
    refine pure_ (i:=1) (N:=(some 19)) (v:=?_) (a':=?_) #[true,true,false,false,false,false,false,false,false,false,false,false,false,false,false,false,false,false,false,false,false] rfl rfl (any_of HT_.out (by kernel_rfl)) (fun _ _ _ h=>h) (Or.inl ⟨by rfl, ?_⟩) ?_ ?_
    rotate_left
    ·intro w'
     go_simp
     with_reducible rfl
    rotate_left
    ·simp only [Act.put,List.setIfInBounds_toArray,List.set_cons_zero,List.set_cons_succ,i64_w,i32_w]
     rfl
    refine pure_ (i:=3) (N:=(some 21)) (v:=?_) (a':=?_) #[true,true,false,true,false,false,false,false,false,false,false,false,false,false,false,false,false,false,false,false,false] rfl rfl (any_of HT_.out (by kernel_rfl)) (fun _ _ _ h=>h) (Or.inl ⟨by rfl, ?_⟩) ?_ ?_
    rotate_left
    ·intro w'
     go_simp
     with_reducible rfl
    rotate_left
    ·simp only [Act.put,List.setIfInBounds_toArray,List.set_cons_zero,List.set_cons_succ,i64_w,i32_w]
     rfl
    refine pure_ (i:=5) (N:=(some 23)) (v:=?_) (a':=?_) #[true,true,false,true,false,true,false,false,false,false,false,false,false,false,false,false,false,false,false,false,false] rfl rfl (any_of HT_.out (by kernel_rfl)) (fun _ _ _ h=>h) (Or.inl ⟨by rfl, ?_⟩) ?_ ?_
    rotate_left
    ·intro w'
     go_simp
     with_reducible rfl
    rotate_left
    ·simp only [Act.put,List.setIfInBounds_toArray,List.set_cons_zero,List.set_cons_succ,i64_w,i32_w]
     rfl
    refine take_ (i:=2) (N:=(some 20)) (v:=?_) (a':=?_) #[true,true,true,true,false,true,false,false,false,false,false,false,false,false,false,false,false,false,false,false,false] rfl rfl (take_ofW HT_.out HW_.out (by kernel_rfl)) (fun _ _ _ h=>h) (Or.inl ⟨by rfl, ?_⟩) hHeld ?_ ?_
    rotate_left
    ·rintro w' ⟨s0,s1,s2,s3,s4,s5⟩
     go_simp
     with_reducible rfl
    rotate_left
    ·simp only [Act.put,List.setIfInBounds_toArray,List.set_cons_zero,List.set_cons_succ,i64_w,i32_w]
     rfl
    refine take_ (i:=4) (N:=(some 22)) (v:=?_) (a':=?_) #[true,true,true,true,true,true,false,false,false,false,false,false,false,false,false,false,false,false,false,false,false] rfl rfl (take_ofW HT_.out HW_.out (by kernel_rfl)) (fun _ _ _ h=>h) (Or.inl ⟨by rfl, ?_⟩) hHeld ?_ ?_
    rotate_left
    ·rintro w' ⟨s0,s1,s2,s3,s4,s5⟩
     go_simp
     with_reducible rfl
    rotate_left
    ·simp only [Act.put,List.setIfInBounds_toArray,List.set_cons_zero,List.set_cons_succ,i64_w,i32_w]
     rfl
    refine take_ (i:=6) (N:=(some 24)) (v:=?_) (a':=?_) #[true,true,true,true,true,true,true,false,false,false,false,false,false,false,false,false,false,false,false,false,false] rfl rfl (take_ofW HT_.out HW_.out (by kernel_rfl)) (fun _ _ _ h=>h) (Or.inl ⟨by rfl, ?_⟩) hHeld ?_ ?_
    rotate_left
    ·rintro w' ⟨s0,s1,s2,s3,s4,s5⟩
     go_simp
     with_reducible rfl
    rotate_left
    ·simp only [Act.put,List.setIfInBounds_toArray,List.set_cons_zero,List.set_cons_succ,i64_w,i32_w]
     rfl
    refine one_ (i:=7) (N:=(some 25)) #[true,true,true,true,true,true,true,true,false,false,false,false,false,false,false,false,false,false,false,false,false] rfl rfl (one_of HT_.out (by kernel_rfl)) (by decide) (fun K hK=>?_)
    refine goes_ Try.func78 (by kernel_rfl) rfl #[.agg #[.slice (some ⟨go,0,none⟩) lb.length cb,.slice (some ad) lw.length cw,.int .i64 a],.int .i64 lw[q].f0,.string lw[q].f1] (by rfl) rfl rfl (by (try simp only [List.map_toArray,List.map_cons,List.map_nil]);first |done |rfl) ?_
    with_reducible refine (LK.out _ (below_drew1 (Below.refl _ _))).mono ?_
    rintro e w4 ⟨rfl,hb4⟩
    refine ⟨_,rfl, ?_⟩
    refine hK.out _ _ ⟨pw_cell_below hb4 g0,pw_cell_below hb4 g1,pw_cell_below hb4 g2,pw_cell_below hb4 x0,pw_cell_below hb4 x1,pw_cell_below hb4 d0⟩ (fun hHeld=>?_)
    clear hK K
    refine norm_ (a':=?_) ?_ ?_
    rotate_left
    ·show Act.put _ (some 25) _=_
     simp only [Act.put,List.setIfInBounds_toArray,List.set_cons_zero,List.set_cons_succ,i64_w,i32_w]
     rfl
    refine pure_ (i:=8) (N:=(some 26)) (v:=?_) (a':=?_) #[true,true,true,true,true,true,true,true,true,false,false,false,false,false,false,false,false,false,false,false,false] rfl rfl (any_of HT_.out (by kernel_rfl)) (fun _ _ _ h=>h) (Or.inl ⟨by rfl, ?_⟩) ?_ ?_
    rotate_left
    ·intro w'
     go_simp
     with_reducible rfl
    rotate_left
    ·simp only [Act.put,List.setIfInBounds_toArray,List.set_cons_zero,List.set_cons_succ,i64_w,i32_w]
     rfl
    refine pure_ (i:=9) (N:=(some 27)) (v:=?_) (a':=?_) #[true,true,true,true,true,true,true,true,true,true,false,false,false,false,false,false,false,false,false,false,false] rfl rfl (any_of HT_.out (by kernel_rfl)) (fun _ _ _ h=>h) (Or.inl ⟨by rfl, ?_⟩) ?_ ?_
    rotate_left
    ·intro w'
     go_simp
     with_reducible rfl
    rotate_left
    ·simp only [Act.put,List.setIfInBounds_toArray,List.set_cons_zero,List.set_cons_succ,i64_w,i32_w]
     rfl
    refine pure_ (i:=10) (N:=(some 28)) (v:=?_) (a':=?_) #[true,true,true,true,true,true,true,true,true,true,true,false,false,false,false,false,false,false,false,false,false] rfl rfl (any_of HT_.out (by kernel_rfl)) (fun _ _ _ h=>h) (Or.inl ⟨by rfl, ?_⟩) ?_ ?_
    rotate_left
    ·intro w'
     go_simp
     with_reducible rfl
    rotate_left
    ·simp only [Act.put,List.setIfInBounds_toArray,List.set_cons_zero,List.set_cons_succ,i64_w,i32_w]
     rfl
    refine pure_ (i:=11) (N:=(some 29)) (v:=?_) (a':=?_) #[true,true,true,true,true,true,true,true,true,true,true,true,false,false,false,false,false,false,false,false,false] rfl rfl (any_of HT_.out (by kernel_rfl)) (fun _ _ _ h=>h) (Or.inl ⟨by rfl, ?_⟩) ?_ ?_
    rotate_left
    ·intro w'
     go_simp
     with_reducible rfl
    rotate_left
    ·simp only [Act.put,List.setIfInBounds_toArray,List.set_cons_zero,List.set_cons_succ,i64_w,i32_w]
     rfl
    refine pure_ (i:=12) (N:=(some 30)) (v:=?_) (a':=?_) #[true,true,true,true,true,true,true,true,true,true,true,true,true,false,false,false,false,false,false,false,false] rfl rfl (any_of HT_.out (by kernel_rfl)) (fun _ _ _ h=>h) (Or.inl ⟨by rfl, ?_⟩) ?_ ?_
    rotate_left
    ·intro w'
     go_simp
     with_reducible rfl
    rotate_left
    ·simp only [Act.put,List.setIfInBounds_toArray,List.set_cons_zero,List.set_cons_succ,i64_w,i32_w]
     rfl
    refine pure_ (i:=14) (N:=(some 32)) (v:=?_) (a':=?_) #[true,true,true,true,true,true,true,true,true,true,true,true,true,false,true,false,false,false,false,false,false] rfl rfl (any_of HT_.out (by kernel_rfl)) (fun _ _ _ h=>h) (Or.inl ⟨by rfl, ?_⟩) ?_ ?_
    rotate_left
    ·intro w'
     go_simp
     with_reducible rfl
    rotate_left
    ·simp only [Act.put,List.setIfInBounds_toArray,List.set_cons_zero,List.set_cons_succ,i64_w,i32_w]
     rfl
    refine take_ (i:=13) (N:=(some 31)) (v:=?_) (a':=?_) #[true,true,true,true,true,true,true,true,true,true,true,true,true,true,true,false,false,false,false,false,false] rfl rfl (take_ofW HT_.out HW_.out (by kernel_rfl)) (fun _ _ _ h=>h) (Or.inl ⟨by rfl, ?_⟩) hHeld ?_ ?_
    rotate_left
    ·rintro w' ⟨s0,s1,s2,s3,s4,s5⟩
     go_simp
     with_reducible rfl
    rotate_left
    ·simp only [Act.put,List.setIfInBounds_toArray,List.set_cons_zero,List.set_cons_succ,i64_w,i32_w]
     rfl
    refine take_ (i:=15) (N:=(some 33)) (v:=?_) (a':=?_) #[true,true,true,true,true,true,true,true,true,true,true,true,true,true,true,true,false,false,false,false,false] rfl rfl (take_ofW HT_.out HW_.out (by kernel_rfl)) (fun _ _ _ h=>h) (Or.inl ⟨by rfl, ?_⟩) hHeld ?_ ?_
    rotate_left
    ·rintro w' ⟨s0,s1,s2,s3,s4,s5⟩
     go_simp
     with_reducible rfl
    rotate_left
    ·simp only [Act.put,List.setIfInBounds_toArray,List.set_cons_zero,List.set_cons_succ,i64_w,i32_w]
     rfl
    refine pure_ (i:=16) (N:=(some 34)) (v:=?_) (a':=?_) #[true,true,true,true,true,true,true,true,true,true,true,true,true,true,true,true,true,false,false,false,false] rfl rfl (any_of HT_.out (by kernel_rfl)) (fun _ _ _ h=>h) (Or.inl ⟨by rfl, ?_⟩) ?_ ?_
    rotate_left
    ·intro w'
     go_simp
     with_reducible rfl
    rotate_left
    ·simp only [Act.put,List.setIfInBounds_toArray,List.set_cons_zero,List.set_cons_succ,i64_w,i32_w]
     rfl
    refine take_ (i:=17) (N:=(some 35)) (v:=?_) (a':=?_) #[true,true,true,true,true,true,true,true,true,true,true,true,true,true,true,true,true,true,false,false,false] rfl rfl (take_ofW HT_.out HW_.out (by kernel_rfl)) (fun _ _ _ h=>h) (Or.inl ⟨by rfl, ?_⟩) hHeld ?_ ?_
    rotate_left
    ·rintro w' ⟨s0,s1,s2,s3,s4,s5⟩
     go_simp
     with_reducible rfl
    rotate_left
    ·simp only [Act.put,List.setIfInBounds_toArray,List.set_cons_zero,List.set_cons_succ,i64_w,i32_w]
     rfl
    refine pure_ (i:=18) (N:=(some 36)) (v:=?_) (a':=?_) #[true,true,true,true,true,true,true,true,true,true,true,true,true,true,true,true,true,true,true,false,false] rfl rfl (any_of HT_.out (by kernel_rfl)) (fun _ _ _ h=>h) (Or.inl ⟨by rfl, ?_⟩) ?_ ?_
    rotate_left
    ·intro w'
     go_simp
     with_reducible rfl
    rotate_left
    ·simp only [Act.put,List.setIfInBounds_toArray,List.set_cons_zero,List.set_cons_succ,i64_w,i32_w]
     rfl
    refine pure_ (i:=19) (N:=(some 37)) (v:=?_) (a':=?_) #[true,true,true,true,true,true,true,true,true,true,true,true,true,true,true,true,true,true,true,true,false] rfl rfl (any_of HT_.out (by kernel_rfl)) (fun _ _ _ h=>h) (Or.inl ⟨by rfl, ?_⟩) ?_ ?_
    rotate_left
    ·intro w'
     go_simp
     with_reducible rfl
    rotate_left
    ·simp only [Act.put,List.setIfInBounds_toArray,List.set_cons_zero,List.set_cons_succ,i64_w,i32_w]
     rfl
    refine pure_ (i:=20) (N:=(some 38)) (v:=?_) (a':=?_) #[true,true,true,true,true,true,true,true,true,true,true,true,true,true,true,true,true,true,true,true,true] rfl rfl (any_of HT_.out (by kernel_rfl)) (fun _ _ _ h=>h) (Or.inl ⟨by rfl, ?_⟩) ?_ ?_
    rotate_left
    ·intro w'
     go_simp
     with_reducible rfl
    rotate_left
    ·simp only [Act.put,List.setIfInBounds_toArray,List.set_cons_zero,List.set_cons_succ,i64_w,i32_w]
     rfl
    refine done_ (done_of HT_.out (by kernel_rfl)) ?_
    have hbw:=below_step (below_drew1 (Below.refl W3.heap.size W3)) hb4
    have HgH:=Aside0.mk (blk_below HgF.out hbw)
    have HeH:=Aside0.mk (blk_below HeF.out hbw)
    have HxH:=Aside0.mk (blk_below HxF.out hbw)
    have HRH:=Aside0.mk (Kd.R_below HRF.out hbw)
    have HWH:=Aside0.mk (Kd.R_below HWF.out hbw)
    have HbH:=Aside0.mk (below_base HbF.out hs3 hbw)
    have HCH:=Aside0.mk (blk_below HCE.out hbw)
    have HpH:=Aside0.mk (blk_below HpF.out hbw)
    have HkH:=Aside0.mk (blk_below HkF.out hbw)
    have d4:=pw_cell_below hb4 d0
    obtain ⟨_,df4⟩:=Kd.R_celln ByteArray.empty HRH.out lw[q].f0 hf0 hf1
    clear g0 g1 g2 x0 x1 d0 df0 hbw hb4
    by_cases hsz:((rdOf ByteArray.empty lc lw[q].f0).size:Int)=128
    ·have hsb:(((rdOf ByteArray.empty lc lw[q].f0).size:Int) == 128)=true:=beq_iff_eq.mpr hsz
     have hyes:landOk lb.length lw[q] lc:=⟨hz,hsz⟩
     have HN:g≠go:=fun e_=>by have h1_:=HgH.out;rw [e_,HCH.out] at h1_;cases h1_
     have HNe:eb≠go:=fun e_=>by have h1_:=HeH.out;rw [e_,HCH.out] at h1_;cases h1_
     have HNp:pb≠go:=fun e_=>by have h1_:=HpH.out;rw [e_,HCH.out] at h1_;injection (Option.some.inj h1_) with h2_ h3_ h4_;exact hpt h3_.symm
     have HNk:kb≠go:=fun e_=>by have h1_:=HkH.out;rw [e_,HCH.out] at h1_;injection (Option.some.inj h1_) with h2_ h3_ h4_;exact hkt h3_.symm
     have HZ:=Lib.hid hsz
     have HZ2:=Lib.hid hf2
     clear hsz hf2
     rcases H3.out q with hh |hh |hh
     ·have HQ:=Aside0.mk (fun W (hx:W.heap[pb]?=some (.cells pcs pt (0,0))∧Below base w W)=>(HH.out q W hlt hx.1 hx.2).mono (R':=fun e w'=>e=.returned (.int .i64 0)∧w'=W) (fun e w' h=>by rw [hh] at h;exact h))
      go_wp2
      have hsz:=HZ.out
      have hf2:=HZ2.out
      refine start_ (n:=24) (S:=fun w'=>w'.cell? ⟨g,0,none⟩=some (.slice (some ⟨go,0,none⟩) lb.length cb)∧w'.cell? ⟨bx,0,none⟩=some (.int .i64 lw[q].f0)∧w'.cell? ⟨bx,1,none⟩=some (.string lw[q].f1)∧w'.cell? ⟨eb,0,none⟩=some (.func (.func 112) #[] #[])∧w'.cell? ⟨go,lw[q].f0.toNat,none⟩=some (.string (rdOf ByteArray.empty lc lw[q].f0))) (ds:=[23]) #[false,false,false,false,false,false,false,false,false,false,false,false,false,false,false,false,false,false,false,false,false,false,false,false] (by kernel_rfl) rfl rfl ⟨(blk_cell HgH.out 0).trans rfl,(blk_cell HxH.out 0).trans rfl,(blk_cell HxH.out 1).trans rfl,(blk_cell HeH.out 0).trans rfl,d4⟩ (fun hHeld=>?_);refine with_tabW land5.tab land5.bits (fun HT_ HW_=>?_)
      refine pure_ (i:=0) (N:=(some 39)) (v:=?_) (a':=?_) #[true,false,false,false,false,false,false,false,false,false,false,false,false,false,false,false,false,false,false,false,false,false,false,false] rfl rfl (any_of HT_.out (by kernel_rfl)) (fun _ _ _ h=>h) (Or.inl ⟨by rfl, ?_⟩) ?_ ?_
      rotate_left
      ·intro w'
       go_simp
       with_reducible rfl
      rotate_left
      ·simp only [Act.put,List.setIfInBounds_toArray,List.set_cons_zero,List.set_cons_succ,i64_w,i32_w]
       rfl
      refine pure_ (i:=1) (N:=(some 40)) (v:=?_) (a':=?_) #[true,true,false,false,false,false,false,false,false,false,false,false,false,false,false,false,false,false,false,false,false,false,false,false] rfl rfl (any_of HT_.out (by kernel_rfl)) (fun _ _ _ h=>h) (Or.inl ⟨by rfl, ?_⟩) ?_ ?_
      rotate_left
      ·intro w'
       go_simp
       with_reducible rfl
      rotate_left
      ·simp only [Act.put,List.setIfInBounds_toArray,List.set_cons_zero,List.set_cons_succ,i64_w,i32_w]
       rfl
      refine pure_ (i:=2) (N:=(some 41)) (v:=?_) (a':=?_) #[true,true,true,false,false,false,false,false,false,false,false,false,false,false,false,false,false,false,false,false,false,false,false,false] rfl rfl (any_of HT_.out (by kernel_rfl)) (fun _ _ _ h=>h) (Or.inl ⟨by rfl, ?_⟩) ?_ ?_
      rotate_left
      ·intro w'
       go_simp
       with_reducible rfl
      rotate_left
      ·simp only [Act.put,List.setIfInBounds_toArray,List.set_cons_zero,List.set_cons_succ,i64_w,i32_w]
       rfl
      refine pure_ (i:=4) (N:=(some 43)) (v:=?_) (a':=?_) #[true,true,true,false,true,false,false,false,false,false,false,false,false,false,false,false,false,false,false,false,false,false,false,false] rfl rfl (any_of HT_.out (by kernel_rfl)) (fun _ _ _ h=>h) (Or.inl ⟨by rfl, ?_⟩) ?_ ?_
      rotate_left
      ·intro w'
       go_simp
       with_reducible rfl
      rotate_left
      ·simp only [Act.put,List.setIfInBounds_toArray,List.set_cons_zero,List.set_cons_succ,i64_w,i32_w]
       rfl
      refine pure_ (i:=6) (N:=(some 45)) (v:=?_) (a':=?_) #[true,true,true,false,true,false,true,false,false,false,false,false,false,false,false,false,false,false,false,false,false,false,false,false] rfl rfl (any_of HT_.out (by kernel_rfl)) (fun _ _ _ h=>h) (Or.inl ⟨by rfl, ?_⟩) ?_ ?_
      rotate_left
      ·intro w'
       go_simp
       with_reducible rfl
      rotate_left
      ·simp only [Act.put,List.setIfInBounds_toArray,List.set_cons_zero,List.set_cons_succ,i64_w,i32_w]
       rfl
      refine pure_ (i:=7) (N:=(some 46)) (v:=?_) (a':=?_) #[true,true,true,false,true,false,true,true,false,false,false,false,false,false,false,false,false,false,false,false,false,false,false,false] rfl rfl (any_of HT_.out (by kernel_rfl)) (fun _ _ _ h=>h) (Or.inl ⟨by rfl, ?_⟩) ?_ ?_
      rotate_left
      ·intro w'
       go_simp
       with_reducible rfl
      rotate_left
      ·simp only [Act.put,List.setIfInBounds_toArray,List.set_cons_zero,List.set_cons_succ,i64_w,i32_w]
       rfl
      refine pure_ (i:=11) (N:=(some 50)) (v:=?_) (a':=?_) #[true,true,true,false,true,false,true,true,false,false,false,true,false,false,false,false,false,false,false,false,false,false,false,false] rfl rfl (any_of HT_.out (by kernel_rfl)) (fun _ _ _ h=>h) (Or.inl ⟨by rfl, ?_⟩) ?_ ?_
      rotate_left
      ·intro w'
       go_simp
       with_reducible rfl
      rotate_left
      ·simp only [Act.put,List.setIfInBounds_toArray,List.set_cons_zero,List.set_cons_succ,i64_w,i32_w]
       rfl
      refine pure_ (i:=12) (N:=(some 51)) (v:=?_) (a':=?_) #[true,true,true,false,true,false,true,true,false,false,false,true,true,false,false,false,false,false,false,false,false,false,false,false] rfl rfl (any_of HT_.out (by kernel_rfl)) (fun _ _ _ h=>h) (Or.inl ⟨by rfl, ?_⟩) ?_ ?_
      rotate_left
      ·intro w'
       go_simp
       with_reducible rfl
      rotate_left
      ·simp only [Act.put,List.setIfInBounds_toArray,List.set_cons_zero,List.set_cons_succ,i64_w,i32_w]
       rfl
      refine pure_ (i:=13) (N:=(some 52)) (v:=?_) (a':=?_) #[true,true,true,false,true,false,true,true,false,false,false,true,true,true,false,false,false,false,false,false,false,false,false,false] rfl rfl (any_of HT_.out (by kernel_rfl)) (fun _ _ _ h=>h) (Or.inl ⟨by rfl, ?_⟩) ?_ ?_
      rotate_left
      ·intro w'
       go_simp
       with_reducible rfl
      rotate_left
      ·simp only [Act.put,List.setIfInBounds_toArray,List.set_cons_zero,List.set_cons_succ,i64_w,i32_w]
       rfl
      refine pure_ (i:=15) (N:=(some 54)) (v:=?_) (a':=?_) #[true,true,true,false,true,false,true,true,false,false,false,true,true,true,false,true,false,false,false,false,false,false,false,false] rfl rfl (any_of HT_.out (by kernel_rfl)) (fun _ _ _ h=>h) (Or.inl ⟨by rfl, ?_⟩) ?_ ?_
      rotate_left
      ·intro w'
       go_simp
       with_reducible rfl
      rotate_left
      ·simp only [Act.put,List.setIfInBounds_toArray,List.set_cons_zero,List.set_cons_succ,i64_w,i32_w]
       rfl
      refine pure_ (i:=19) (N:=(some 58)) (v:=?_) (a':=?_) #[true,true,true,false,true,false,true,true,false,false,false,true,true,true,false,true,false,false,false,true,false,false,false,false] rfl rfl (any_of HT_.out (by kernel_rfl)) (fun _ _ _ h=>h) (Or.inl ⟨by rfl, ?_⟩) ?_ ?_
      rotate_left
      ·intro w'
       go_simp
       with_reducible rfl
      rotate_left
      ·simp only [Act.put,List.setIfInBounds_toArray,List.set_cons_zero,List.set_cons_succ,i64_w,i32_w]
       rfl
      refine take_ (i:=3) (N:=(some 42)) (v:=?_) (a':=?_) #[true,true,true,true,true,false,true,true,false,false,false,true,true,true,false,true,false,false,false,true,false,false,false,false] rfl rfl (take_ofW HT_.out HW_.out (by kernel_rfl)) (fun _ _ _ h=>h) (Or.inl ⟨by rfl, ?_⟩) hHeld ?_ ?_
      rotate_left
      ·rintro w' ⟨s0,s1,s2,s3,s4⟩
       go_simp
       with_reducible rfl
      rotate_left
      ·simp only [Act.put,List.setIfInBounds_toArray,List.set_cons_zero,List.set_cons_succ,i64_w,i32_w]
       rfl
      refine take_ (i:=5) (N:=(some 44)) (v:=?_) (a':=?_) #[true,true,true,true,true,true,true,true,false,false,false,true,true,true,false,true,false,false,false,true,false,false,false,false] rfl rfl (take_ofW HT_.out HW_.out (by kernel_rfl)) (fun _ _ _ h=>h) (Or.inl ⟨by rfl, ?_⟩) hHeld ?_ ?_
      rotate_left
      ·rintro w' ⟨s0,s1,s2,s3,s4⟩
       go_simp
       with_reducible rfl
      rotate_left
      ·simp only [Act.put,List.setIfInBounds_toArray,List.set_cons_zero,List.set_cons_succ,i64_w,i32_w]
       rfl
      refine take_ (i:=14) (N:=(some 53)) (v:=?_) (a':=?_) #[true,true,true,true,true,true,true,true,false,false,false,true,true,true,true,true,false,false,false,true,false,false,false,false] rfl rfl (take_ofW HT_.out HW_.out (by kernel_rfl)) (fun _ _ _ h=>h) (Or.inl ⟨by rfl, ?_⟩) hHeld ?_ ?_
      rotate_left
      ·rintro w' ⟨s0,s1,s2,s3,s4⟩
       go_simp
       with_reducible rfl
      rotate_left
      ·simp only [Act.put,List.setIfInBounds_toArray,List.set_cons_zero,List.set_cons_succ,i64_w,i32_w]
       rfl
      refine take_ (i:=16) (N:=(some 55)) (v:=?_) (a':=?_) #[true,true,true,true,true,true,true,true,false,false,false,true,true,true,true,true,true,false,false,true,false,false,false,false] rfl rfl (take_ofW HT_.out HW_.out (by kernel_rfl)) (fun _ _ _ h=>h) (Or.inl ⟨by rfl, ?_⟩) hHeld ?_ ?_
      rotate_left
      ·rintro w' ⟨s0,s1,s2,s3,s4⟩
       go_simp
       with_reducible rfl
      rotate_left
      ·simp only [Act.put,List.setIfInBounds_toArray,List.set_cons_zero,List.set_cons_succ,i64_w,i32_w]
       rfl
      refine pure_ (i:=17) (N:=(some 56)) (v:=?_) (a':=?_) #[true,true,true,true,true,true,true,true,false,false,false,true,true,true,true,true,true,true,false,true,false,false,false,false] rfl rfl (any_of HT_.out (by kernel_rfl)) (fun _ _ _ h=>h) (Or.inl ⟨by rfl, ?_⟩) ?_ ?_
      rotate_left
      ·intro w'
       go_simp
       with_reducible rfl
      rotate_left
      ·simp only [Act.put,List.setIfInBounds_toArray,List.set_cons_zero,List.set_cons_succ,i64_w,i32_w]
       rfl
      refine take_ (i:=18) (N:=(some 57)) (v:=?_) (a':=?_) #[true,true,true,true,true,true,true,true,false,false,false,true,true,true,true,true,true,true,true,true,false,false,false,false] rfl rfl (take_ofW HT_.out HW_.out (by kernel_rfl)) (fun _ _ _ h=>h) (Or.inl ⟨by rfl, ?_⟩) hHeld ?_ ?_
      rotate_left
      ·rintro w' ⟨s0,s1,s2,s3,s4⟩
       go_simp
       with_reducible rfl
      rotate_left
      ·simp only [Act.put,List.setIfInBounds_toArray,List.set_cons_zero,List.set_cons_succ,i64_w,i32_w]
       rfl
      refine take_ (i:=20) (N:=(some 59)) (v:=?_) (a':=?_) #[true,true,true,true,true,true,true,true,false,false,false,true,true,true,true,true,true,true,true,true,true,false,false,false] rfl rfl (take_ofW HT_.out HW_.out (by kernel_rfl)) (fun _ _ _ h=>h) (Or.inl ⟨by rfl, ?_⟩) hHeld ?_ ?_
      rotate_left
      ·rintro w' ⟨s0,s1,s2,s3,s4⟩
       go_simp
       with_reducible rfl
      rotate_left
      ·simp only [Act.put,List.setIfInBounds_toArray,List.set_cons_zero,List.set_cons_succ,i64_w,i32_w]
       rfl
      refine one_ (i:=8) (N:=(some 47)) #[true,true,true,true,true,true,true,true,true,false,false,true,true,true,true,true,true,true,true,true,true,false,false,false] rfl rfl (one_of HT_.out (by kernel_rfl)) (by decide) (fun K hK=>?_)
      refine goesV_ hfF hnF hbF (#[.int .i64 q] ++ caps) (by rfl) rfl rfl rfl (by (try simp only [List.map_toArray,List.map_cons,List.map_nil]);first |done |rfl |simp) ?_
      refine (HQ.out _ ⟨blk_drew HpH.out,below_drew1 HbH.out⟩).mono ?_
      rintro e w5 ⟨rfl,rfl⟩
      refine ⟨_,rfl, ?_⟩
      refine hK.out _ _ hHeld (fun hHeld=>?_)
      clear hK K
      refine norm_ (a':=?_) ?_ ?_
      rotate_left
      ·show Act.put _ (some 47) _=_
       simp only [Act.put,List.setIfInBounds_toArray,List.set_cons_zero,List.set_cons_succ,i64_w,i32_w]
       rfl
      refine pure_ (i:=9) (N:=(some 48)) (v:=?_) (a':=?_) #[true,true,true,true,true,true,true,true,true,true,false,true,true,true,true,true,true,true,true,true,true,false,false,false] rfl rfl (any_of HT_.out (by kernel_rfl)) (fun _ _ _ h=>h) (Or.inl ⟨by rfl, ?_⟩) ?_ ?_
      rotate_left
      ·intro w'
       go_simp
       with_reducible rfl
      rotate_left
      ·simp only [Act.put,List.setIfInBounds_toArray,List.set_cons_zero,List.set_cons_succ,i64_w,i32_w]
       rfl
      refine take_ (i:=10) (N:=(some 49)) (v:=?_) (a':=?_) #[true,true,true,true,true,true,true,true,true,true,true,true,true,true,true,true,true,true,true,true,true,false,false,false] rfl rfl (take_ofW HT_.out HW_.out (by kernel_rfl)) (fun _ _ _ h=>h) (Or.inl ⟨by rfl, ?_⟩) hHeld ?_ ?_
      rotate_left
      ·rintro w' ⟨s0,s1,s2,s3,s4⟩
       go_simp
       with_reducible rfl
      rotate_left
      ·simp only [Act.put,List.setIfInBounds_toArray,List.set_cons_zero,List.set_cons_succ,i64_w,i32_w]
       rfl
      refine one_ (i:=21) (N:=(some 60)) #[true,true,true,true,true,true,true,true,true,true,true,true,true,true,true,true,true,true,true,true,true,true,false,false] rfl rfl (one_of HT_.out (by kernel_rfl)) (by decide) (fun K hK=>?_)
      refine goesV_ Try.func112 (by kernel_rfl) rfl #[.string (rdOf ByteArray.empty lc lw[q].f0),.string lw[q].f1] (by rfl) rfl rfl rfl (by (try simp only [List.map_toArray,List.map_cons,List.map_nil]);first |done |rfl |simp) ?_
      refine (end0_any _ _ _).mono ?_
      rintro e w6 ⟨rfl,m6,rfl⟩
      refine ⟨_,rfl, ?_⟩
      refine hK.out _ _ hHeld (fun hHeld=>?_)
      clear hK K
      refine norm_ (a':=?_) ?_ ?_
      rotate_left
      ·show Act.put _ (some 60) _=_
       simp only [Act.put,List.setIfInBounds_toArray,List.set_cons_zero,List.set_cons_succ,i64_w,i32_w]
       rfl
      refine pure_ (i:=22) (N:=(some 61)) (v:=?_) (a':=?_) #[true,true,true,true,true,true,true,true,true,true,true,true,true,true,true,true,true,true,true,true,true,true,true,false] rfl rfl (any_of HT_.out (by kernel_rfl)) (fun _ _ _ h=>h) (Or.inl ⟨by rfl, ?_⟩) ?_ ?_
      rotate_left
      ·intro w'
       go_simp
       with_reducible rfl
      rotate_left
      ·simp only [Act.put,List.setIfInBounds_toArray,List.set_cons_zero,List.set_cons_succ,i64_w,i32_w]
       rfl
      refine last_ (i:=23) (N:=none) #[true,true,true,true,true,true,true,true,true,true,true,true,true,true,true,true,true,true,true,true,true,true,true,true] rfl rfl (one_of HT_.out (by kernel_rfl)) (by decide) (fun K hK=>?_)
      refine skip_ (w1:=?_) (by rfl) rfl ?_ ?_
      rotate_left
      ·go_simp
       rfl
      refine hK.out _ _ ?_
      clear hK K
      refine done_ (done_of HT_.out (by kernel_rfl)) ?_
      go_wp2
      go_roundw
      case rel=>
       have HR7:=Kd.R_putn (Kd.R_drewN (Kd.R_drew HRH.out) m6) lw[q].f0 (endV (hv q) (rdOf ByteArray.empty lc lw[q].f0) lw[q].f1)
       rw [hh] at HR7
       refine ⟨q + 1,landStep lb.length (hv q) lw[q] lc,by omega,by simp,⟨by rw [landStep_length];exact HLN.out⟩,⟨?_⟩,⟨?_⟩,⟨?_⟩,⟨?_⟩,⟨?_⟩,⟨blk_far (blk_drewN (blk_drew HpH.out) m6) HNp _⟩,⟨blk_far (blk_drewN (blk_drew HkH.out) m6) HNk _⟩,⟨?_⟩⟩
       ·rw [← HLT.out,List.drop_eq_getElem_cons hlt,landTo]
       ·exact blk_far (blk_drewN (blk_drew HgH.out) m6) HN _
       ·exact blk_far (blk_drewN (blk_drew HeH.out) m6) HNe _
       ·unfold landStep
        rw [if_pos hyes,hh]
        exact HR7
       ·exact R_far0 (Kd.R_drewN (Kd.R_drew HWH.out) m6) (blk_drewN (blk_drew HCH.out) m6) (by decide) _ _
       ·exact (pw_below_drewN HbH.out (1 + m6)).setCell (p:=⟨go,lw[q].f0.toNat,none⟩) gbb _
      case measure=>
       simp only [intOf]
       omega
     ·have HQ:=Aside0.mk (fun W (hx:W.heap[pb]?=some (.cells pcs pt (0,0))∧Below base w W)=>(HH.out q W hlt hx.1 hx.2).mono (R':=fun e w'=>e=.returned (.int .i64 1)∧w'=W) (fun e w' h=>by rw [hh] at h;exact h))
      go_wp2
      have hsz:=HZ.out
      have hf2:=HZ2.out
      refine start_ (n:=24) (S:=fun w'=>w'.cell? ⟨g,0,none⟩=some (.slice (some ⟨go,0,none⟩) lb.length cb)∧w'.cell? ⟨bx,0,none⟩=some (.int .i64 lw[q].f0)∧w'.cell? ⟨bx,1,none⟩=some (.string lw[q].f1)∧w'.cell? ⟨eb,1,none⟩=some (.func (.func 113) #[] #[])∧w'.cell? ⟨go,lw[q].f0.toNat,none⟩=some (.string (rdOf ByteArray.empty lc lw[q].f0))) (ds:=[23]) #[false,false,false,false,false,false,false,false,false,false,false,false,false,false,false,false,false,false,false,false,false,false,false,false] (by kernel_rfl) rfl rfl ⟨(blk_cell HgH.out 0).trans rfl,(blk_cell HxH.out 0).trans rfl,(blk_cell HxH.out 1).trans rfl,(blk_cell HeH.out 1).trans rfl,d4⟩ (fun hHeld=>?_);refine with_tabW land5.tab land5.bits (fun HT_ HW_=>?_)
      refine pure_ (i:=0) (N:=(some 39)) (v:=?_) (a':=?_) #[true,false,false,false,false,false,false,false,false,false,false,false,false,false,false,false,false,false,false,false,false,false,false,false] rfl rfl (any_of HT_.out (by kernel_rfl)) (fun _ _ _ h=>h) (Or.inl ⟨by rfl, ?_⟩) ?_ ?_
      rotate_left
      ·intro w'
       go_simp
       with_reducible rfl
      rotate_left
      ·simp only [Act.put,List.setIfInBounds_toArray,List.set_cons_zero,List.set_cons_succ,i64_w,i32_w]
       rfl
      refine pure_ (i:=1) (N:=(some 40)) (v:=?_) (a':=?_) #[true,true,false,false,false,false,false,false,false,false,false,false,false,false,false,false,false,false,false,false,false,false,false,false] rfl rfl (any_of HT_.out (by kernel_rfl)) (fun _ _ _ h=>h) (Or.inl ⟨by rfl, ?_⟩) ?_ ?_
      rotate_left
      ·intro w'
       go_simp
       with_reducible rfl
      rotate_left
      ·simp only [Act.put,List.setIfInBounds_toArray,List.set_cons_zero,List.set_cons_succ,i64_w,i32_w]
       rfl
      refine pure_ (i:=2) (N:=(some 41)) (v:=?_) (a':=?_) #[true,true,true,false,false,false,false,false,false,false,false,false,false,false,false,false,false,false,false,false,false,false,false,false] rfl rfl (any_of HT_.out (by kernel_rfl)) (fun _ _ _ h=>h) (Or.inl ⟨by rfl, ?_⟩) ?_ ?_
      rotate_left
      ·intro w'
       go_simp
       with_reducible rfl
      rotate_left
      ·simp only [Act.put,List.setIfInBounds_toArray,List.set_cons_zero,List.set_cons_succ,i64_w,i32_w]
       rfl
      refine pure_ (i:=4) (N:=(some 43)) (v:=?_) (a':=?_) #[true,true,true,false,true,false,false,false,false,false,false,false,false,false,false,false,false,false,false,false,false,false,false,false] rfl rfl (any_of HT_.out (by kernel_rfl)) (fun _ _ _ h=>h) (Or.inl ⟨by rfl, ?_⟩) ?_ ?_
      rotate_left
      ·intro w'
       go_simp
       with_reducible rfl
      rotate_left
      ·simp only [Act.put,List.setIfInBounds_toArray,List.set_cons_zero,List.set_cons_succ,i64_w,i32_w]
       rfl
      refine pure_ (i:=6) (N:=(some 45)) (v:=?_) (a':=?_) #[true,true,true,false,true,false,true,false,false,false,false,false,false,false,false,false,false,false,false,false,false,false,false,false] rfl rfl (any_of HT_.out (by kernel_rfl)) (fun _ _ _ h=>h) (Or.inl ⟨by rfl, ?_⟩) ?_ ?_
      rotate_left
      ·intro w'
       go_simp
       with_reducible rfl
      rotate_left
      ·simp only [Act.put,List.setIfInBounds_toArray,List.set_cons_zero,List.set_cons_succ,i64_w,i32_w]
       rfl
      refine pure_ (i:=7) (N:=(some 46)) (v:=?_) (a':=?_) #[true,true,true,false,true,false,true,true,false,false,false,false,false,false,false,false,false,false,false,false,false,false,false,false] rfl rfl (any_of HT_.out (by kernel_rfl)) (fun _ _ _ h=>h) (Or.inl ⟨by rfl, ?_⟩) ?_ ?_
      rotate_left
      ·intro w'
       go_simp
       with_reducible rfl
      rotate_left
      ·simp only [Act.put,List.setIfInBounds_toArray,List.set_cons_zero,List.set_cons_succ,i64_w,i32_w]
       rfl
      refine pure_ (i:=11) (N:=(some 50)) (v:=?_) (a':=?_) #[true,true,true,false,true,false,true,true,false,false,false,true,false,false,false,false,false,false,false,false,false,false,false,false] rfl rfl (any_of HT_.out (by kernel_rfl)) (fun _ _ _ h=>h) (Or.inl ⟨by rfl, ?_⟩) ?_ ?_
      rotate_left
      ·intro w'
       go_simp
       with_reducible rfl
      rotate_left
      ·simp only [Act.put,List.setIfInBounds_toArray,List.set_cons_zero,List.set_cons_succ,i64_w,i32_w]
       rfl
      refine pure_ (i:=12) (N:=(some 51)) (v:=?_) (a':=?_) #[true,true,true,false,true,false,true,true,false,false,false,true,true,false,false,false,false,false,false,false,false,false,false,false] rfl rfl (any_of HT_.out (by kernel_rfl)) (fun _ _ _ h=>h) (Or.inl ⟨by rfl, ?_⟩) ?_ ?_
      rotate_left
      ·intro w'
       go_simp
       with_reducible rfl
      rotate_left
      ·simp only [Act.put,List.setIfInBounds_toArray,List.set_cons_zero,List.set_cons_succ,i64_w,i32_w]
       rfl
      refine pure_ (i:=13) (N:=(some 52)) (v:=?_) (a':=?_) #[true,true,true,false,true,false,true,true,false,false,false,true,true,true,false,false,false,false,false,false,false,false,false,false] rfl rfl (any_of HT_.out (by kernel_rfl)) (fun _ _ _ h=>h) (Or.inl ⟨by rfl, ?_⟩) ?_ ?_
      rotate_left
      ·intro w'
       go_simp
       with_reducible rfl
      rotate_left
      ·simp only [Act.put,List.setIfInBounds_toArray,List.set_cons_zero,List.set_cons_succ,i64_w,i32_w]
       rfl
      refine pure_ (i:=15) (N:=(some 54)) (v:=?_) (a':=?_) #[true,true,true,false,true,false,true,true,false,false,false,true,true,true,false,true,false,false,false,false,false,false,false,false] rfl rfl (any_of HT_.out (by kernel_rfl)) (fun _ _ _ h=>h) (Or.inl ⟨by rfl, ?_⟩) ?_ ?_
      rotate_left
      ·intro w'
       go_simp
       with_reducible rfl
      rotate_left
      ·simp only [Act.put,List.setIfInBounds_toArray,List.set_cons_zero,List.set_cons_succ,i64_w,i32_w]
       rfl
      refine pure_ (i:=19) (N:=(some 58)) (v:=?_) (a':=?_) #[true,true,true,false,true,false,true,true,false,false,false,true,true,true,false,true,false,false,false,true,false,false,false,false] rfl rfl (any_of HT_.out (by kernel_rfl)) (fun _ _ _ h=>h) (Or.inl ⟨by rfl, ?_⟩) ?_ ?_
      rotate_left
      ·intro w'
       go_simp
       with_reducible rfl
      rotate_left
      ·simp only [Act.put,List.setIfInBounds_toArray,List.set_cons_zero,List.set_cons_succ,i64_w,i32_w]
       rfl
      refine take_ (i:=3) (N:=(some 42)) (v:=?_) (a':=?_) #[true,true,true,true,true,false,true,true,false,false,false,true,true,true,false,true,false,false,false,true,false,false,false,false] rfl rfl (take_ofW HT_.out HW_.out (by kernel_rfl)) (fun _ _ _ h=>h) (Or.inl ⟨by rfl, ?_⟩) hHeld ?_ ?_
      rotate_left
      ·rintro w' ⟨s0,s1,s2,s3,s4⟩
       go_simp
       with_reducible rfl
      rotate_left
      ·simp only [Act.put,List.setIfInBounds_toArray,List.set_cons_zero,List.set_cons_succ,i64_w,i32_w]
       rfl
      refine take_ (i:=5) (N:=(some 44)) (v:=?_) (a':=?_) #[true,true,true,true,true,true,true,true,false,false,false,true,true,true,false,true,false,false,false,true,false,false,false,false] rfl rfl (take_ofW HT_.out HW_.out (by kernel_rfl)) (fun _ _ _ h=>h) (Or.inl ⟨by rfl, ?_⟩) hHeld ?_ ?_
      rotate_left
      ·rintro w' ⟨s0,s1,s2,s3,s4⟩
       go_simp
       with_reducible rfl
      rotate_left
      ·simp only [Act.put,List.setIfInBounds_toArray,List.set_cons_zero,List.set_cons_succ,i64_w,i32_w]
       rfl
      refine take_ (i:=14) (N:=(some 53)) (v:=?_) (a':=?_) #[true,true,true,true,true,true,true,true,false,false,false,true,true,true,true,true,false,false,false,true,false,false,false,false] rfl rfl (take_ofW HT_.out HW_.out (by kernel_rfl)) (fun _ _ _ h=>h) (Or.inl ⟨by rfl, ?_⟩) hHeld ?_ ?_
      rotate_left
      ·rintro w' ⟨s0,s1,s2,s3,s4⟩
       go_simp
       with_reducible rfl
      rotate_left
      ·simp only [Act.put,List.setIfInBounds_toArray,List.set_cons_zero,List.set_cons_succ,i64_w,i32_w]
       rfl
      refine take_ (i:=16) (N:=(some 55)) (v:=?_) (a':=?_) #[true,true,true,true,true,true,true,true,false,false,false,true,true,true,true,true,true,false,false,true,false,false,false,false] rfl rfl (take_ofW HT_.out HW_.out (by kernel_rfl)) (fun _ _ _ h=>h) (Or.inl ⟨by rfl, ?_⟩) hHeld ?_ ?_
      rotate_left
      ·rintro w' ⟨s0,s1,s2,s3,s4⟩
       go_simp
       with_reducible rfl
      rotate_left
      ·simp only [Act.put,List.setIfInBounds_toArray,List.set_cons_zero,List.set_cons_succ,i64_w,i32_w]
       rfl
      refine pure_ (i:=17) (N:=(some 56)) (v:=?_) (a':=?_) #[true,true,true,true,true,true,true,true,false,false,false,true,true,true,true,true,true,true,false,true,false,false,false,false] rfl rfl (any_of HT_.out (by kernel_rfl)) (fun _ _ _ h=>h) (Or.inl ⟨by rfl, ?_⟩) ?_ ?_
      rotate_left
      ·intro w'
       go_simp
       with_reducible rfl
      rotate_left
      ·simp only [Act.put,List.setIfInBounds_toArray,List.set_cons_zero,List.set_cons_succ,i64_w,i32_w]
       rfl
      refine take_ (i:=18) (N:=(some 57)) (v:=?_) (a':=?_) #[true,true,true,true,true,true,true,true,false,false,false,true,true,true,true,true,true,true,true,true,false,false,false,false] rfl rfl (take_ofW HT_.out HW_.out (by kernel_rfl)) (fun _ _ _ h=>h) (Or.inl ⟨by rfl, ?_⟩) hHeld ?_ ?_
      rotate_left
      ·rintro w' ⟨s0,s1,s2,s3,s4⟩
       go_simp
       with_reducible rfl
      rotate_left
      ·simp only [Act.put,List.setIfInBounds_toArray,List.set_cons_zero,List.set_cons_succ,i64_w,i32_w]
       rfl
      refine take_ (i:=20) (N:=(some 59)) (v:=?_) (a':=?_) #[true,true,true,true,true,true,true,true,false,false,false,true,true,true,true,true,true,true,true,true,true,false,false,false] rfl rfl (take_ofW HT_.out HW_.out (by kernel_rfl)) (fun _ _ _ h=>h) (Or.inl ⟨by rfl, ?_⟩) hHeld ?_ ?_
      rotate_left
      ·rintro w' ⟨s0,s1,s2,s3,s4⟩
       go_simp
       with_reducible rfl
      rotate_left
      ·simp only [Act.put,List.setIfInBounds_toArray,List.set_cons_zero,List.set_cons_succ,i64_w,i32_w]
       rfl
      refine one_ (i:=8) (N:=(some 47)) #[true,true,true,true,true,true,true,true,true,false,false,true,true,true,true,true,true,true,true,true,true,false,false,false] rfl rfl (one_of HT_.out (by kernel_rfl)) (by decide) (fun K hK=>?_)
      refine goesV_ hfF hnF hbF (#[.int .i64 q] ++ caps) (by rfl) rfl rfl rfl (by (try simp only [List.map_toArray,List.map_cons,List.map_nil]);first |done |rfl |simp) ?_
      refine (HQ.out _ ⟨blk_drew HpH.out,below_drew1 HbH.out⟩).mono ?_
      rintro e w5 ⟨rfl,rfl⟩
      refine ⟨_,rfl, ?_⟩
      refine hK.out _ _ hHeld (fun hHeld=>?_)
      clear hK K
      refine norm_ (a':=?_) ?_ ?_
      rotate_left
      ·show Act.put _ (some 47) _=_
       simp only [Act.put,List.setIfInBounds_toArray,List.set_cons_zero,List.set_cons_succ,i64_w,i32_w]
       rfl
      refine pure_ (i:=9) (N:=(some 48)) (v:=?_) (a':=?_) #[true,true,true,true,true,true,true,true,true,true,false,true,true,true,true,true,true,true,true,true,true,false,false,false] rfl rfl (any_of HT_.out (by kernel_rfl)) (fun _ _ _ h=>h) (Or.inl ⟨by rfl, ?_⟩) ?_ ?_
      rotate_left
      ·intro w'
       go_simp
       with_reducible rfl
      rotate_left
      ·simp only [Act.put,List.setIfInBounds_toArray,List.set_cons_zero,List.set_cons_succ,i64_w,i32_w]
       rfl
      refine take_ (i:=10) (N:=(some 49)) (v:=?_) (a':=?_) #[true,true,true,true,true,true,true,true,true,true,true,true,true,true,true,true,true,true,true,true,true,false,false,false] rfl rfl (take_ofW HT_.out HW_.out (by kernel_rfl)) (fun _ _ _ h=>h) (Or.inl ⟨by rfl, ?_⟩) hHeld ?_ ?_
      rotate_left
      ·rintro w' ⟨s0,s1,s2,s3,s4⟩
       go_simp
       with_reducible rfl
      rotate_left
      ·simp only [Act.put,List.setIfInBounds_toArray,List.set_cons_zero,List.set_cons_succ,i64_w,i32_w]
       rfl
      refine one_ (i:=21) (N:=(some 60)) #[true,true,true,true,true,true,true,true,true,true,true,true,true,true,true,true,true,true,true,true,true,true,false,false] rfl rfl (one_of HT_.out (by kernel_rfl)) (by decide) (fun K hK=>?_)
      refine goesV_ Try.func113 (by kernel_rfl) rfl #[.string (rdOf ByteArray.empty lc lw[q].f0),.string lw[q].f1] (by rfl) rfl rfl rfl (by (try simp only [List.map_toArray,List.map_cons,List.map_nil]);first |done |rfl |simp) ?_
      refine (end1_any _ _ _).mono ?_
      rintro e w6 ⟨rfl,m6,rfl⟩
      refine ⟨_,rfl, ?_⟩
      refine hK.out _ _ hHeld (fun hHeld=>?_)
      clear hK K
      refine norm_ (a':=?_) ?_ ?_
      rotate_left
      ·show Act.put _ (some 60) _=_
       simp only [Act.put,List.setIfInBounds_toArray,List.set_cons_zero,List.set_cons_succ,i64_w,i32_w]
       rfl
      refine pure_ (i:=22) (N:=(some 61)) (v:=?_) (a':=?_) #[true,true,true,true,true,true,true,true,true,true,true,true,true,true,true,true,true,true,true,true,true,true,true,false] rfl rfl (any_of HT_.out (by kernel_rfl)) (fun _ _ _ h=>h) (Or.inl ⟨by rfl, ?_⟩) ?_ ?_
      rotate_left
      ·intro w'
       go_simp
       with_reducible rfl
      rotate_left
      ·simp only [Act.put,List.setIfInBounds_toArray,List.set_cons_zero,List.set_cons_succ,i64_w,i32_w]
       rfl
      refine last_ (i:=23) (N:=none) #[true,true,true,true,true,true,true,true,true,true,true,true,true,true,true,true,true,true,true,true,true,true,true,true] rfl rfl (one_of HT_.out (by kernel_rfl)) (by decide) (fun K hK=>?_)
      refine skip_ (w1:=?_) (by rfl) rfl ?_ ?_
      rotate_left
      ·go_simp
       rfl
      refine hK.out _ _ ?_
      clear hK K
      refine done_ (done_of HT_.out (by kernel_rfl)) ?_
      go_wp2
      go_roundw
      case rel=>
       have HR7:=Kd.R_putn (Kd.R_drewN (Kd.R_drew HRH.out) m6) lw[q].f0 (endV (hv q) (rdOf ByteArray.empty lc lw[q].f0) lw[q].f1)
       rw [hh] at HR7
       refine ⟨q + 1,landStep lb.length (hv q) lw[q] lc,by omega,by simp,⟨by rw [landStep_length];exact HLN.out⟩,⟨?_⟩,⟨?_⟩,⟨?_⟩,⟨?_⟩,⟨?_⟩,⟨blk_far (blk_drewN (blk_drew HpH.out) m6) HNp _⟩,⟨blk_far (blk_drewN (blk_drew HkH.out) m6) HNk _⟩,⟨?_⟩⟩
       ·rw [← HLT.out,List.drop_eq_getElem_cons hlt,landTo]
       ·exact blk_far (blk_drewN (blk_drew HgH.out) m6) HN _
       ·exact blk_far (blk_drewN (blk_drew HeH.out) m6) HNe _
       ·unfold landStep
        rw [if_pos hyes,hh]
        exact HR7
       ·exact R_far0 (Kd.R_drewN (Kd.R_drew HWH.out) m6) (blk_drewN (blk_drew HCH.out) m6) (by decide) _ _
       ·exact (pw_below_drewN HbH.out (1 + m6)).setCell (p:=⟨go,lw[q].f0.toNat,none⟩) gbb _
      case measure=>
       simp only [intOf]
       omega
     ·have HQ:=Aside0.mk (fun W (hx:W.heap[pb]?=some (.cells pcs pt (0,0))∧Below base w W)=>(HH.out q W hlt hx.1 hx.2).mono (R':=fun e w'=>e=.returned (.int .i64 2)∧w'=W) (fun e w' h=>by rw [hh] at h;exact h))
      go_wp2
      have hsz:=HZ.out
      have hf2:=HZ2.out
      refine start_ (n:=24) (S:=fun w'=>w'.cell? ⟨g,0,none⟩=some (.slice (some ⟨go,0,none⟩) lb.length cb)∧w'.cell? ⟨bx,0,none⟩=some (.int .i64 lw[q].f0)∧w'.cell? ⟨bx,1,none⟩=some (.string lw[q].f1)∧w'.cell? ⟨eb,2,none⟩=some (.func (.func 114) #[] #[])∧w'.cell? ⟨go,lw[q].f0.toNat,none⟩=some (.string (rdOf ByteArray.empty lc lw[q].f0))) (ds:=[23]) #[false,false,false,false,false,false,false,false,false,false,false,false,false,false,false,false,false,false,false,false,false,false,false,false] (by kernel_rfl) rfl rfl ⟨(blk_cell HgH.out 0).trans rfl,(blk_cell HxH.out 0).trans rfl,(blk_cell HxH.out 1).trans rfl,(blk_cell HeH.out 2).trans rfl,d4⟩ (fun hHeld=>?_);refine with_tabW land5.tab land5.bits (fun HT_ HW_=>?_)
      refine pure_ (i:=0) (N:=(some 39)) (v:=?_) (a':=?_) #[true,false,false,false,false,false,false,false,false,false,false,false,false,false,false,false,false,false,false,false,false,false,false,false] rfl rfl (any_of HT_.out (by kernel_rfl)) (fun _ _ _ h=>h) (Or.inl ⟨by rfl, ?_⟩) ?_ ?_
      rotate_left
      ·intro w'
       go_simp
       with_reducible rfl
      rotate_left
      ·simp only [Act.put,List.setIfInBounds_toArray,List.set_cons_zero,List.set_cons_succ,i64_w,i32_w]
       rfl
      refine pure_ (i:=1) (N:=(some 40)) (v:=?_) (a':=?_) #[true,true,false,false,false,false,false,false,false,false,false,false,false,false,false,false,false,false,false,false,false,false,false,false] rfl rfl (any_of HT_.out (by kernel_rfl)) (fun _ _ _ h=>h) (Or.inl ⟨by rfl, ?_⟩) ?_ ?_
      rotate_left
      ·intro w'
       go_simp
       with_reducible rfl
      rotate_left
      ·simp only [Act.put,List.setIfInBounds_toArray,List.set_cons_zero,List.set_cons_succ,i64_w,i32_w]
       rfl
      refine pure_ (i:=2) (N:=(some 41)) (v:=?_) (a':=?_) #[true,true,true,false,false,false,false,false,false,false,false,false,false,false,false,false,false,false,false,false,false,false,false,false] rfl rfl (any_of HT_.out (by kernel_rfl)) (fun _ _ _ h=>h) (Or.inl ⟨by rfl, ?_⟩) ?_ ?_
      rotate_left
      ·intro w'
       go_simp
       with_reducible rfl
      rotate_left
      ·simp only [Act.put,List.setIfInBounds_toArray,List.set_cons_zero,List.set_cons_succ,i64_w,i32_w]
       rfl
      refine pure_ (i:=4) (N:=(some 43)) (v:=?_) (a':=?_) #[true,true,true,false,true,false,false,false,false,false,false,false,false,false,false,false,false,false,false,false,false,false,false,false] rfl rfl (any_of HT_.out (by kernel_rfl)) (fun _ _ _ h=>h) (Or.inl ⟨by rfl, ?_⟩) ?_ ?_
      rotate_left
      ·intro w'
       go_simp
       with_reducible rfl
      rotate_left
      ·simp only [Act.put,List.setIfInBounds_toArray,List.set_cons_zero,List.set_cons_succ,i64_w,i32_w]
       rfl
      refine pure_ (i:=6) (N:=(some 45)) (v:=?_) (a':=?_) #[true,true,true,false,true,false,true,false,false,false,false,false,false,false,false,false,false,false,false,false,false,false,false,false] rfl rfl (any_of HT_.out (by kernel_rfl)) (fun _ _ _ h=>h) (Or.inl ⟨by rfl, ?_⟩) ?_ ?_
      rotate_left
      ·intro w'
       go_simp
       with_reducible rfl
      rotate_left
      ·simp only [Act.put,List.setIfInBounds_toArray,List.set_cons_zero,List.set_cons_succ,i64_w,i32_w]
       rfl
      refine pure_ (i:=7) (N:=(some 46)) (v:=?_) (a':=?_) #[true,true,true,false,true,false,true,true,false,false,false,false,false,false,false,false,false,false,false,false,false,false,false,false] rfl rfl (any_of HT_.out (by kernel_rfl)) (fun _ _ _ h=>h) (Or.inl ⟨by rfl, ?_⟩) ?_ ?_
      rotate_left
      ·intro w'
       go_simp
       with_reducible rfl
      rotate_left
      ·simp only [Act.put,List.setIfInBounds_toArray,List.set_cons_zero,List.set_cons_succ,i64_w,i32_w]
       rfl
      refine pure_ (i:=11) (N:=(some 50)) (v:=?_) (a':=?_) #[true,true,true,false,true,false,true,true,false,false,false,true,false,false,false,false,false,false,false,false,false,false,false,false] rfl rfl (any_of HT_.out (by kernel_rfl)) (fun _ _ _ h=>h) (Or.inl ⟨by rfl, ?_⟩) ?_ ?_
      rotate_left
      ·intro w'
       go_simp
       with_reducible rfl
      rotate_left
      ·simp only [Act.put,List.setIfInBounds_toArray,List.set_cons_zero,List.set_cons_succ,i64_w,i32_w]
       rfl
      refine pure_ (i:=12) (N:=(some 51)) (v:=?_) (a':=?_) #[true,true,true,false,true,false,true,true,false,false,false,true,true,false,false,false,false,false,false,false,false,false,false,false] rfl rfl (any_of HT_.out (by kernel_rfl)) (fun _ _ _ h=>h) (Or.inl ⟨by rfl, ?_⟩) ?_ ?_
      rotate_left
      ·intro w'
       go_simp
       with_reducible rfl
      rotate_left
      ·simp only [Act.put,List.setIfInBounds_toArray,List.set_cons_zero,List.set_cons_succ,i64_w,i32_w]
       rfl
      refine pure_ (i:=13) (N:=(some 52)) (v:=?_) (a':=?_) #[true,true,true,false,true,false,true,true,false,false,false,true,true,true,false,false,false,false,false,false,false,false,false,false] rfl rfl (any_of HT_.out (by kernel_rfl)) (fun _ _ _ h=>h) (Or.inl ⟨by rfl, ?_⟩) ?_ ?_
      rotate_left
      ·intro w'
       go_simp
       with_reducible rfl
      rotate_left
      ·simp only [Act.put,List.setIfInBounds_toArray,List.set_cons_zero,List.set_cons_succ,i64_w,i32_w]
       rfl
      refine pure_ (i:=15) (N:=(some 54)) (v:=?_) (a':=?_) #[true,true,true,false,true,false,true,true,false,false,false,true,true,true,false,true,false,false,false,false,false,false,false,false] rfl rfl (any_of HT_.out (by kernel_rfl)) (fun _ _ _ h=>h) (Or.inl ⟨by rfl, ?_⟩) ?_ ?_
      rotate_left
      ·intro w'
       go_simp
       with_reducible rfl
      rotate_left
      ·simp only [Act.put,List.setIfInBounds_toArray,List.set_cons_zero,List.set_cons_succ,i64_w,i32_w]
       rfl
      refine pure_ (i:=19) (N:=(some 58)) (v:=?_) (a':=?_) #[true,true,true,false,true,false,true,true,false,false,false,true,true,true,false,true,false,false,false,true,false,false,false,false] rfl rfl (any_of HT_.out (by kernel_rfl)) (fun _ _ _ h=>h) (Or.inl ⟨by rfl, ?_⟩) ?_ ?_
      rotate_left
      ·intro w'
       go_simp
       with_reducible rfl
      rotate_left
      ·simp only [Act.put,List.setIfInBounds_toArray,List.set_cons_zero,List.set_cons_succ,i64_w,i32_w]
       rfl
      refine take_ (i:=3) (N:=(some 42)) (v:=?_) (a':=?_) #[true,true,true,true,true,false,true,true,false,false,false,true,true,true,false,true,false,false,false,true,false,false,false,false] rfl rfl (take_ofW HT_.out HW_.out (by kernel_rfl)) (fun _ _ _ h=>h) (Or.inl ⟨by rfl, ?_⟩) hHeld ?_ ?_
      rotate_left
      ·rintro w' ⟨s0,s1,s2,s3,s4⟩
       go_simp
       with_reducible rfl
      rotate_left
      ·simp only [Act.put,List.setIfInBounds_toArray,List.set_cons_zero,List.set_cons_succ,i64_w,i32_w]
       rfl
      refine take_ (i:=5) (N:=(some 44)) (v:=?_) (a':=?_) #[true,true,true,true,true,true,true,true,false,false,false,true,true,true,false,true,false,false,false,true,false,false,false,false] rfl rfl (take_ofW HT_.out HW_.out (by kernel_rfl)) (fun _ _ _ h=>h) (Or.inl ⟨by rfl, ?_⟩) hHeld ?_ ?_
      rotate_left
      ·rintro w' ⟨s0,s1,s2,s3,s4⟩
       go_simp
       with_reducible rfl
      rotate_left
      ·simp only [Act.put,List.setIfInBounds_toArray,List.set_cons_zero,List.set_cons_succ,i64_w,i32_w]
       rfl
      refine take_ (i:=14) (N:=(some 53)) (v:=?_) (a':=?_) #[true,true,true,true,true,true,true,true,false,false,false,true,true,true,true,true,false,false,false,true,false,false,false,false] rfl rfl (take_ofW HT_.out HW_.out (by kernel_rfl)) (fun _ _ _ h=>h) (Or.inl ⟨by rfl, ?_⟩) hHeld ?_ ?_
      rotate_left
      ·rintro w' ⟨s0,s1,s2,s3,s4⟩
       go_simp
       with_reducible rfl
      rotate_left
      ·simp only [Act.put,List.setIfInBounds_toArray,List.set_cons_zero,List.set_cons_succ,i64_w,i32_w]
       rfl
      refine take_ (i:=16) (N:=(some 55)) (v:=?_) (a':=?_) #[true,true,true,true,true,true,true,true,false,false,false,true,true,true,true,true,true,false,false,true,false,false,false,false] rfl rfl (take_ofW HT_.out HW_.out (by kernel_rfl)) (fun _ _ _ h=>h) (Or.inl ⟨by rfl, ?_⟩) hHeld ?_ ?_
      rotate_left
      ·rintro w' ⟨s0,s1,s2,s3,s4⟩
       go_simp
       with_reducible rfl
      rotate_left
      ·simp only [Act.put,List.setIfInBounds_toArray,List.set_cons_zero,List.set_cons_succ,i64_w,i32_w]
       rfl
      refine pure_ (i:=17) (N:=(some 56)) (v:=?_) (a':=?_) #[true,true,true,true,true,true,true,true,false,false,false,true,true,true,true,true,true,true,false,true,false,false,false,false] rfl rfl (any_of HT_.out (by kernel_rfl)) (fun _ _ _ h=>h) (Or.inl ⟨by rfl, ?_⟩) ?_ ?_
      rotate_left
      ·intro w'
       go_simp
       with_reducible rfl
      rotate_left
      ·simp only [Act.put,List.setIfInBounds_toArray,List.set_cons_zero,List.set_cons_succ,i64_w,i32_w]
       rfl
      refine take_ (i:=18) (N:=(some 57)) (v:=?_) (a':=?_) #[true,true,true,true,true,true,true,true,false,false,false,true,true,true,true,true,true,true,true,true,false,false,false,false] rfl rfl (take_ofW HT_.out HW_.out (by kernel_rfl)) (fun _ _ _ h=>h) (Or.inl ⟨by rfl, ?_⟩) hHeld ?_ ?_
      rotate_left
      ·rintro w' ⟨s0,s1,s2,s3,s4⟩
       go_simp
       with_reducible rfl
      rotate_left
      ·simp only [Act.put,List.setIfInBounds_toArray,List.set_cons_zero,List.set_cons_succ,i64_w,i32_w]
       rfl
      refine take_ (i:=20) (N:=(some 59)) (v:=?_) (a':=?_) #[true,true,true,true,true,true,true,true,false,false,false,true,true,true,true,true,true,true,true,true,true,false,false,false] rfl rfl (take_ofW HT_.out HW_.out (by kernel_rfl)) (fun _ _ _ h=>h) (Or.inl ⟨by rfl, ?_⟩) hHeld ?_ ?_
      rotate_left
      ·rintro w' ⟨s0,s1,s2,s3,s4⟩
       go_simp
       with_reducible rfl
      rotate_left
      ·simp only [Act.put,List.setIfInBounds_toArray,List.set_cons_zero,List.set_cons_succ,i64_w,i32_w]
       rfl
      refine one_ (i:=8) (N:=(some 47)) #[true,true,true,true,true,true,true,true,true,false,false,true,true,true,true,true,true,true,true,true,true,false,false,false] rfl rfl (one_of HT_.out (by kernel_rfl)) (by decide) (fun K hK=>?_)
      refine goesV_ hfF hnF hbF (#[.int .i64 q] ++ caps) (by rfl) rfl rfl rfl (by (try simp only [List.map_toArray,List.map_cons,List.map_nil]);first |done |rfl |simp) ?_
      refine (HQ.out _ ⟨blk_drew HpH.out,below_drew1 HbH.out⟩).mono ?_
      rintro e w5 ⟨rfl,rfl⟩
      refine ⟨_,rfl, ?_⟩
      refine hK.out _ _ hHeld (fun hHeld=>?_)
      clear hK K
      refine norm_ (a':=?_) ?_ ?_
      rotate_left
      ·show Act.put _ (some 47) _=_
       simp only [Act.put,List.setIfInBounds_toArray,List.set_cons_zero,List.set_cons_succ,i64_w,i32_w]
       rfl
      refine pure_ (i:=9) (N:=(some 48)) (v:=?_) (a':=?_) #[true,true,true,true,true,true,true,true,true,true,false,true,true,true,true,true,true,true,true,true,true,false,false,false] rfl rfl (any_of HT_.out (by kernel_rfl)) (fun _ _ _ h=>h) (Or.inl ⟨by rfl, ?_⟩) ?_ ?_
      rotate_left
      ·intro w'
       go_simp
       with_reducible rfl
      rotate_left
      ·simp only [Act.put,List.setIfInBounds_toArray,List.set_cons_zero,List.set_cons_succ,i64_w,i32_w]
       rfl
      refine take_ (i:=10) (N:=(some 49)) (v:=?_) (a':=?_) #[true,true,true,true,true,true,true,true,true,true,true,true,true,true,true,true,true,true,true,true,true,false,false,false] rfl rfl (take_ofW HT_.out HW_.out (by kernel_rfl)) (fun _ _ _ h=>h) (Or.inl ⟨by rfl, ?_⟩) hHeld ?_ ?_
      rotate_left
      ·rintro w' ⟨s0,s1,s2,s3,s4⟩
       go_simp
       with_reducible rfl
      rotate_left
      ·simp only [Act.put,List.setIfInBounds_toArray,List.set_cons_zero,List.set_cons_succ,i64_w,i32_w]
       rfl
      refine one_ (i:=21) (N:=(some 60)) #[true,true,true,true,true,true,true,true,true,true,true,true,true,true,true,true,true,true,true,true,true,true,false,false] rfl rfl (one_of HT_.out (by kernel_rfl)) (by decide) (fun K hK=>?_)
      refine goesV_ Try.func114 (by kernel_rfl) rfl #[.string (rdOf ByteArray.empty lc lw[q].f0),.string lw[q].f1] (by rfl) rfl rfl rfl (by (try simp only [List.map_toArray,List.map_cons,List.map_nil]);first |done |rfl |simp) ?_
      refine (end2_any _ _ hsz hf2 _).mono ?_
      rintro e w6 ⟨rfl,m6,rfl⟩
      refine ⟨_,rfl, ?_⟩
      refine hK.out _ _ hHeld (fun hHeld=>?_)
      clear hK K
      refine norm_ (a':=?_) ?_ ?_
      rotate_left
      ·show Act.put _ (some 60) _=_
       simp only [Act.put,List.setIfInBounds_toArray,List.set_cons_zero,List.set_cons_succ,i64_w,i32_w]
       rfl
      refine pure_ (i:=22) (N:=(some 61)) (v:=?_) (a':=?_) #[true,true,true,true,true,true,true,true,true,true,true,true,true,true,true,true,true,true,true,true,true,true,true,false] rfl rfl (any_of HT_.out (by kernel_rfl)) (fun _ _ _ h=>h) (Or.inl ⟨by rfl, ?_⟩) ?_ ?_
      rotate_left
      ·intro w'
       go_simp
       with_reducible rfl
      rotate_left
      ·simp only [Act.put,List.setIfInBounds_toArray,List.set_cons_zero,List.set_cons_succ,i64_w,i32_w]
       rfl
      refine last_ (i:=23) (N:=none) #[true,true,true,true,true,true,true,true,true,true,true,true,true,true,true,true,true,true,true,true,true,true,true,true] rfl rfl (one_of HT_.out (by kernel_rfl)) (by decide) (fun K hK=>?_)
      refine skip_ (w1:=?_) (by rfl) rfl ?_ ?_
      rotate_left
      ·go_simp
       rfl
      refine hK.out _ _ ?_
      clear hK K
      refine done_ (done_of HT_.out (by kernel_rfl)) ?_
      go_wp2
      go_roundw
      case rel=>
       have HR7:=Kd.R_putn (Kd.R_drewN (Kd.R_drew HRH.out) m6) lw[q].f0 (endV (hv q) (rdOf ByteArray.empty lc lw[q].f0) lw[q].f1)
       rw [hh] at HR7
       refine ⟨q + 1,landStep lb.length (hv q) lw[q] lc,by omega,by simp,⟨by rw [landStep_length];exact HLN.out⟩,⟨?_⟩,⟨?_⟩,⟨?_⟩,⟨?_⟩,⟨?_⟩,⟨blk_far (blk_drewN (blk_drew HpH.out) m6) HNp _⟩,⟨blk_far (blk_drewN (blk_drew HkH.out) m6) HNk _⟩,⟨?_⟩⟩
       ·rw [← HLT.out,List.drop_eq_getElem_cons hlt,landTo]
       ·exact blk_far (blk_drewN (blk_drew HgH.out) m6) HN _
       ·exact blk_far (blk_drewN (blk_drew HeH.out) m6) HNe _
       ·unfold landStep
        rw [if_pos hyes,hh]
        exact HR7
       ·exact R_far0 (Kd.R_drewN (Kd.R_drew HWH.out) m6) (blk_drewN (blk_drew HCH.out) m6) (by decide) _ _
       ·exact (pw_below_drewN HbH.out (1 + m6)).setCell (p:=⟨go,lw[q].f0.toNat,none⟩) gbb _
      case measure=>
       simp only [intOf]
       omega
    ·have hsb:(((rdOf ByteArray.empty lc lw[q].f0).size:Int) == 128)=false:=beq_eq_false_iff_ne.mpr hsz
     have hno:¬ landOk lb.length lw[q] lc:=fun h=>hsz h.2
     go_wp2
     go_roundw
     case rel=>
      refine ⟨q + 1,lc,by omega,by simp,HLN,⟨?_⟩,HgH,HeH,HRH,HWH,HpH,HkH,HbH⟩
      rw [← HLT.out,List.drop_eq_getElem_cons hlt,landTo,landStep,if_neg hno]
     case measure=>
      simp only [intOf]
      omega
   ·have hno:¬ landOk lb.length lw[q] lc:=fun h=>by have h_:=h.1;omega
    have LK:=Aside0.mk (fun W hW=>(LK.out W hW).mono (R':=fun e w'=>e=.returned (.int .i64 2)∧Below W.heap.size W w') (fun e w' h=>by rw [hz] at h;exact h))
    refine start_ (n:=21) (S:=fun w'=>w'.cell? ⟨g,0,none⟩=some (.slice Ab lb.length cb)∧w'.cell? ⟨g,1,none⟩=some (.slice (some ad) lw.length cw)∧w'.cell? ⟨g,2,none⟩=some (.int .i64 a)∧w'.cell? ⟨bx,0,none⟩=some (.int .i64 lw[q].f0)∧w'.cell? ⟨bx,1,none⟩=some (.string lw[q].f1)) (ds:=[]) #[false,false,false,false,false,false,false,false,false,false,false,false,false,false,false,false,false,false,false,false,false] (by kernel_rfl) rfl rfl ⟨g0,g1,g2,x0,x1⟩ (fun hHeld=>?_);refine with_tabW land4.tab land4.bits (fun HT_ HW_=>?_)
    refine pure_ (i:=0) (N:=(some 18)) (v:=?_) (a':=?_) #[true,false,false,false,false,false,false,false,false,false,false,false,false,false,false,false,false,false,false,false,false] rfl rfl (any_of HT_.out (by kernel_rfl)) (fun _ _ _ h=>h) (Or.inl ⟨by rfl, ?_⟩) ?_ ?_
    rotate_left
    ·intro w'
     go_simp
     with_reducible rfl
    rotate_left
    ·simp only [Act.put,List.setIfInBounds_toArray,List.set_cons_zero,List.set_cons_succ,i64_w,i32_w]
     rfl
    refine pure_ (i:=1) (N:=(some 19)) (v:=?_) (a':=?_) #[true,true,false,false,false,false,false,false,false,false,false,false,false,false,false,false,false,false,false,false,false] rfl rfl (any_of HT_.out (by kernel_rfl)) (fun _ _ _ h=>h) (Or.inl ⟨by rfl, ?_⟩) ?_ ?_
    rotate_left
    ·intro w'
     go_simp
     with_reducible rfl
    rotate_left
    ·simp only [Act.put,List.setIfInBounds_toArray,List.set_cons_zero,List.set_cons_succ,i64_w,i32_w]
     rfl
    refine pure_ (i:=3) (N:=(some 21)) (v:=?_) (a':=?_) #[true,true,false,true,false,false,false,false,false,false,false,false,false,false,false,false,false,false,false,false,false] rfl rfl (any_of HT_.out (by kernel_rfl)) (fun _ _ _ h=>h) (Or.inl ⟨by rfl, ?_⟩) ?_ ?_
    rotate_left
    ·intro w'
     go_simp
     with_reducible rfl
    rotate_left
    ·simp only [Act.put,List.setIfInBounds_toArray,List.set_cons_zero,List.set_cons_succ,i64_w,i32_w]
     rfl
    refine pure_ (i:=5) (N:=(some 23)) (v:=?_) (a':=?_) #[true,true,false,true,false,true,false,false,false,false,false,false,false,false,false,false,false,false,false,false,false] rfl rfl (any_of HT_.out (by kernel_rfl)) (fun _ _ _ h=>h) (Or.inl ⟨by rfl, ?_⟩) ?_ ?_
    rotate_left
    ·intro w'
     go_simp
     with_reducible rfl
    rotate_left
    ·simp only [Act.put,List.setIfInBounds_toArray,List.set_cons_zero,List.set_cons_succ,i64_w,i32_w]
     rfl
    refine take_ (i:=2) (N:=(some 20)) (v:=?_) (a':=?_) #[true,true,true,true,false,true,false,false,false,false,false,false,false,false,false,false,false,false,false,false,false] rfl rfl (take_ofW HT_.out HW_.out (by kernel_rfl)) (fun _ _ _ h=>h) (Or.inl ⟨by rfl, ?_⟩) hHeld ?_ ?_
    rotate_left
    ·rintro w' ⟨s0,s1,s2,s3,s4⟩
     go_simp
     with_reducible rfl
    rotate_left
    ·simp only [Act.put,List.setIfInBounds_toArray,List.set_cons_zero,List.set_cons_succ,i64_w,i32_w]
     rfl
    refine take_ (i:=4) (N:=(some 22)) (v:=?_) (a':=?_) #[true,true,true,true,true,true,false,false,false,false,false,false,false,false,false,false,false,false,false,false,false] rfl rfl (take_ofW HT_.out HW_.out (by kernel_rfl)) (fun _ _ _ h=>h) (Or.inl ⟨by rfl, ?_⟩) hHeld ?_ ?_
    rotate_left
    ·rintro w' ⟨s0,s1,s2,s3,s4⟩
     go_simp
     with_reducible rfl
    rotate_left
    ·simp only [Act.put,List.setIfInBounds_toArray,List.set_cons_zero,List.set_cons_succ,i64_w,i32_w]
     rfl
    refine take_ (i:=6) (N:=(some 24)) (v:=?_) (a':=?_) #[true,true,true,true,true,true,true,false,false,false,false,false,false,false,false,false,false,false,false,false,false] rfl rfl (take_ofW HT_.out HW_.out (by kernel_rfl)) (fun _ _ _ h=>h) (Or.inl ⟨by rfl, ?_⟩) hHeld ?_ ?_
    rotate_left
    ·rintro w' ⟨s0,s1,s2,s3,s4⟩
     go_simp
     with_reducible rfl
    rotate_left
    ·simp only [Act.put,List.setIfInBounds_toArray,List.set_cons_zero,List.set_cons_succ,i64_w,i32_w]
     rfl
    refine one_ (i:=7) (N:=(some 25)) #[true,true,true,true,true,true,true,true,false,false,false,false,false,false,false,false,false,false,false,false,false] rfl rfl (one_of HT_.out (by kernel_rfl)) (by decide) (fun K hK=>?_)
    refine goes_ Try.func78 (by kernel_rfl) rfl #[.agg #[.slice Ab lb.length cb,.slice (some ad) lw.length cw,.int .i64 a],.int .i64 lw[q].f0,.string lw[q].f1] (by rfl) rfl rfl (by (try simp only [List.map_toArray,List.map_cons,List.map_nil]);first |done |rfl) ?_
    with_reducible refine (LK.out _ (below_drew1 (Below.refl _ _))).mono ?_
    rintro e w4 ⟨rfl,hb4⟩
    refine ⟨_,rfl, ?_⟩
    refine hK.out _ _ ⟨pw_cell_below hb4 g0,pw_cell_below hb4 g1,pw_cell_below hb4 g2,pw_cell_below hb4 x0,pw_cell_below hb4 x1⟩ (fun hHeld=>?_)
    clear hK K
    refine norm_ (a':=?_) ?_ ?_
    rotate_left
    ·show Act.put _ (some 25) _=_
     simp only [Act.put,List.setIfInBounds_toArray,List.set_cons_zero,List.set_cons_succ,i64_w,i32_w]
     rfl
    refine pure_ (i:=8) (N:=(some 26)) (v:=?_) (a':=?_) #[true,true,true,true,true,true,true,true,true,false,false,false,false,false,false,false,false,false,false,false,false] rfl rfl (any_of HT_.out (by kernel_rfl)) (fun _ _ _ h=>h) (Or.inl ⟨by rfl, ?_⟩) ?_ ?_
    rotate_left
    ·intro w'
     go_simp
     with_reducible rfl
    rotate_left
    ·simp only [Act.put,List.setIfInBounds_toArray,List.set_cons_zero,List.set_cons_succ,i64_w,i32_w]
     rfl
    refine pure_ (i:=9) (N:=(some 27)) (v:=?_) (a':=?_) #[true,true,true,true,true,true,true,true,true,true,false,false,false,false,false,false,false,false,false,false,false] rfl rfl (any_of HT_.out (by kernel_rfl)) (fun _ _ _ h=>h) (Or.inl ⟨by rfl, ?_⟩) ?_ ?_
    rotate_left
    ·intro w'
     go_simp
     with_reducible rfl
    rotate_left
    ·simp only [Act.put,List.setIfInBounds_toArray,List.set_cons_zero,List.set_cons_succ,i64_w,i32_w]
     rfl
    refine pure_ (i:=10) (N:=(some 28)) (v:=undef) (a':=?_) #[true,true,true,true,true,true,true,true,true,true,true,false,false,false,false,false,false,false,false,false,false] rfl rfl (any_of HT_.out (by kernel_rfl)) (fun _ _ _ h=>h) (Or.inr ⟨by rfl,rfl⟩) ?_ ?_
    rotate_left
    ·simp only [Act.put,List.setIfInBounds_toArray,List.set_cons_zero,List.set_cons_succ,i64_w,i32_w]
     rfl
    refine pure_ (i:=11) (N:=(some 29)) (v:=undef) (a':=?_) #[true,true,true,true,true,true,true,true,true,true,true,true,false,false,false,false,false,false,false,false,false] rfl rfl (any_of HT_.out (by kernel_rfl)) (fun _ _ _ h=>h) (Or.inr ⟨by rfl,rfl⟩) ?_ ?_
    rotate_left
    ·simp only [Act.put,List.setIfInBounds_toArray,List.set_cons_zero,List.set_cons_succ,i64_w,i32_w]
     rfl
    refine pure_ (i:=12) (N:=(some 30)) (v:=undef) (a':=?_) #[true,true,true,true,true,true,true,true,true,true,true,true,true,false,false,false,false,false,false,false,false] rfl rfl (any_of HT_.out (by kernel_rfl)) (fun _ _ _ h=>h) (Or.inr ⟨by rfl,rfl⟩) ?_ ?_
    rotate_left
    ·simp only [Act.put,List.setIfInBounds_toArray,List.set_cons_zero,List.set_cons_succ,i64_w,i32_w]
     rfl
    refine pure_ (i:=13) (N:=(some 31)) (v:=undef) (a':=?_) #[true,true,true,true,true,true,true,true,true,true,true,true,true,true,false,false,false,false,false,false,false] rfl rfl (any_of HT_.out (by kernel_rfl)) (fun _ _ _ h=>h) (Or.inr ⟨by rfl,rfl⟩) ?_ ?_
    rotate_left
    ·simp only [Act.put,List.setIfInBounds_toArray,List.set_cons_zero,List.set_cons_succ,i64_w,i32_w]
     rfl
    refine pure_ (i:=14) (N:=(some 32)) (v:=undef) (a':=?_) #[true,true,true,true,true,true,true,true,true,true,true,true,true,true,true,false,false,false,false,false,false] rfl rfl (any_of HT_.out (by kernel_rfl)) (fun _ _ _ h=>h) (Or.inr ⟨by rfl,rfl⟩) ?_ ?_
    rotate_left
    ·simp only [Act.put,List.setIfInBounds_toArray,List.set_cons_zero,List.set_cons_succ,i64_w,i32_w]
     rfl
    refine pure_ (i:=15) (N:=(some 33)) (v:=undef) (a':=?_) #[true,true,true,true,true,true,true,true,true,true,true,true,true,true,true,true,false,false,false,false,false] rfl rfl (any_of HT_.out (by kernel_rfl)) (fun _ _ _ h=>h) (Or.inr ⟨by rfl,rfl⟩) ?_ ?_
    rotate_left
    ·simp only [Act.put,List.setIfInBounds_toArray,List.set_cons_zero,List.set_cons_succ,i64_w,i32_w]
     rfl
    refine pure_ (i:=16) (N:=(some 34)) (v:=undef) (a':=?_) #[true,true,true,true,true,true,true,true,true,true,true,true,true,true,true,true,true,false,false,false,false] rfl rfl (any_of HT_.out (by kernel_rfl)) (fun _ _ _ h=>h) (Or.inr ⟨by rfl,rfl⟩) ?_ ?_
    rotate_left
    ·simp only [Act.put,List.setIfInBounds_toArray,List.set_cons_zero,List.set_cons_succ,i64_w,i32_w]
     rfl
    refine pure_ (i:=17) (N:=(some 35)) (v:=undef) (a':=?_) #[true,true,true,true,true,true,true,true,true,true,true,true,true,true,true,true,true,true,false,false,false] rfl rfl (any_of HT_.out (by kernel_rfl)) (fun _ _ _ h=>h) (Or.inr ⟨by rfl,rfl⟩) ?_ ?_
    rotate_left
    ·simp only [Act.put,List.setIfInBounds_toArray,List.set_cons_zero,List.set_cons_succ,i64_w,i32_w]
     rfl
    refine pure_ (i:=18) (N:=(some 36)) (v:=undef) (a':=?_) #[true,true,true,true,true,true,true,true,true,true,true,true,true,true,true,true,true,true,true,false,false] rfl rfl (any_of HT_.out (by kernel_rfl)) (fun _ _ _ h=>h) (Or.inr ⟨by rfl,rfl⟩) ?_ ?_
    rotate_left
    ·simp only [Act.put,List.setIfInBounds_toArray,List.set_cons_zero,List.set_cons_succ,i64_w,i32_w]
     rfl
    refine pure_ (i:=19) (N:=(some 37)) (v:=undef) (a':=?_) #[true,true,true,true,true,true,true,true,true,true,true,true,true,true,true,true,true,true,true,true,false] rfl rfl (any_of HT_.out (by kernel_rfl)) (fun _ _ _ h=>h) (Or.inr ⟨by rfl,rfl⟩) ?_ ?_
    rotate_left
    ·simp only [Act.put,List.setIfInBounds_toArray,List.set_cons_zero,List.set_cons_succ,i64_w,i32_w]
     rfl
    refine pure_ (i:=20) (N:=(some 38)) (v:=?_) (a':=?_) #[true,true,true,true,true,true,true,true,true,true,true,true,true,true,true,true,true,true,true,true,true] rfl rfl (any_of HT_.out (by kernel_rfl)) (fun _ _ _ h=>h) (Or.inl ⟨by rfl, ?_⟩) ?_ ?_
    rotate_left
    ·intro w'
     go_simp
     with_reducible rfl
    rotate_left
    ·simp only [Act.put,List.setIfInBounds_toArray,List.set_cons_zero,List.set_cons_succ,i64_w,i32_w]
     rfl
    refine done_ (done_of HT_.out (by kernel_rfl)) ?_
    have hbw:=below_step (below_drew1 (Below.refl W3.heap.size W3)) hb4
    have HgH:=Aside0.mk (blk_below HgF.out hbw)
    have HeH:=Aside0.mk (blk_below HeF.out hbw)
    have HxH:=Aside0.mk (blk_below HxF.out hbw)
    have HRH:=Aside0.mk (Kd.R_below HRF.out hbw)
    have HWH:=Aside0.mk (Kd.R_below HWF.out hbw)
    have HbH:=Aside0.mk (below_base HbF.out hs3 hbw)
    have HpH:=Aside0.mk (blk_below HpF.out hbw)
    have HkH:=Aside0.mk (blk_below HkF.out hbw)
    go_wp2
    go_roundw
    case rel=>
     refine ⟨q + 1,lc,by omega,by simp,HLN,⟨?_⟩,HgH,HeH,HRH,HWH,HpH,HkH,HbH⟩
     rw [← HLT.out,List.drop_eq_getElem_cons hlt,landTo,landStep,if_neg hno]
    case measure=>
     simp only [intOf]
     omega
   ·have hno:¬ landOk lb.length lw[q] lc:=fun h=>by have h_:=h.1;omega
    have LK:=Aside0.mk (fun W hW=>(LK.out W hW).mono (R':=fun e w'=>e=.returned (.int .i64 3)∧Below W.heap.size W w') (fun e w' h=>by rw [hz] at h;exact h))
    refine start_ (n:=21) (S:=fun w'=>w'.cell? ⟨g,0,none⟩=some (.slice Ab lb.length cb)∧w'.cell? ⟨g,1,none⟩=some (.slice (some ad) lw.length cw)∧w'.cell? ⟨g,2,none⟩=some (.int .i64 a)∧w'.cell? ⟨bx,0,none⟩=some (.int .i64 lw[q].f0)∧w'.cell? ⟨bx,1,none⟩=some (.string lw[q].f1)) (ds:=[]) #[false,false,false,false,false,false,false,false,false,false,false,false,false,false,false,false,false,false,false,false,false] (by kernel_rfl) rfl rfl ⟨g0,g1,g2,x0,x1⟩ (fun hHeld=>?_);refine with_tabW land4.tab land4.bits (fun HT_ HW_=>?_)
    refine pure_ (i:=0) (N:=(some 18)) (v:=?_) (a':=?_) #[true,false,false,false,false,false,false,false,false,false,false,false,false,false,false,false,false,false,false,false,false] rfl rfl (any_of HT_.out (by kernel_rfl)) (fun _ _ _ h=>h) (Or.inl ⟨by rfl, ?_⟩) ?_ ?_
    rotate_left
    ·intro w'
     go_simp
     with_reducible rfl
    rotate_left
    ·simp only [Act.put,List.setIfInBounds_toArray,List.set_cons_zero,List.set_cons_succ,i64_w,i32_w]
     rfl
    refine pure_ (i:=1) (N:=(some 19)) (v:=?_) (a':=?_) #[true,true,false,false,false,false,false,false,false,false,false,false,false,false,false,false,false,false,false,false,false] rfl rfl (any_of HT_.out (by kernel_rfl)) (fun _ _ _ h=>h) (Or.inl ⟨by rfl, ?_⟩) ?_ ?_
    rotate_left
    ·intro w'
     go_simp
     with_reducible rfl
    rotate_left
    ·simp only [Act.put,List.setIfInBounds_toArray,List.set_cons_zero,List.set_cons_succ,i64_w,i32_w]
     rfl
    refine pure_ (i:=3) (N:=(some 21)) (v:=?_) (a':=?_) #[true,true,false,true,false,false,false,false,false,false,false,false,false,false,false,false,false,false,false,false,false] rfl rfl (any_of HT_.out (by kernel_rfl)) (fun _ _ _ h=>h) (Or.inl ⟨by rfl, ?_⟩) ?_ ?_
    rotate_left
    ·intro w'
     go_simp
     with_reducible rfl
    rotate_left
    ·simp only [Act.put,List.setIfInBounds_toArray,List.set_cons_zero,List.set_cons_succ,i64_w,i32_w]
     rfl
    refine pure_ (i:=5) (N:=(some 23)) (v:=?_) (a':=?_) #[true,true,false,true,false,true,false,false,false,false,false,false,false,false,false,false,false,false,false,false,false] rfl rfl (any_of HT_.out (by kernel_rfl)) (fun _ _ _ h=>h) (Or.inl ⟨by rfl, ?_⟩) ?_ ?_
    rotate_left
    ·intro w'
     go_simp
     with_reducible rfl
    rotate_left
    ·simp only [Act.put,List.setIfInBounds_toArray,List.set_cons_zero,List.set_cons_succ,i64_w,i32_w]
     rfl
    refine take_ (i:=2) (N:=(some 20)) (v:=?_) (a':=?_) #[true,true,true,true,false,true,false,false,false,false,false,false,false,false,false,false,false,false,false,false,false] rfl rfl (take_ofW HT_.out HW_.out (by kernel_rfl)) (fun _ _ _ h=>h) (Or.inl ⟨by rfl, ?_⟩) hHeld ?_ ?_
    rotate_left
    ·rintro w' ⟨s0,s1,s2,s3,s4⟩
     go_simp
     with_reducible rfl
    rotate_left
    ·simp only [Act.put,List.setIfInBounds_toArray,List.set_cons_zero,List.set_cons_succ,i64_w,i32_w]
     rfl
    refine take_ (i:=4) (N:=(some 22)) (v:=?_) (a':=?_) #[true,true,true,true,true,true,false,false,false,false,false,false,false,false,false,false,false,false,false,false,false] rfl rfl (take_ofW HT_.out HW_.out (by kernel_rfl)) (fun _ _ _ h=>h) (Or.inl ⟨by rfl, ?_⟩) hHeld ?_ ?_
    rotate_left
    ·rintro w' ⟨s0,s1,s2,s3,s4⟩
     go_simp
     with_reducible rfl
    rotate_left
    ·simp only [Act.put,List.setIfInBounds_toArray,List.set_cons_zero,List.set_cons_succ,i64_w,i32_w]
     rfl
    refine take_ (i:=6) (N:=(some 24)) (v:=?_) (a':=?_) #[true,true,true,true,true,true,true,false,false,false,false,false,false,false,false,false,false,false,false,false,false] rfl rfl (take_ofW HT_.out HW_.out (by kernel_rfl)) (fun _ _ _ h=>h) (Or.inl ⟨by rfl, ?_⟩) hHeld ?_ ?_
    rotate_left
    ·rintro w' ⟨s0,s1,s2,s3,s4⟩
     go_simp
     with_reducible rfl
    rotate_left
    ·simp only [Act.put,List.setIfInBounds_toArray,List.set_cons_zero,List.set_cons_succ,i64_w,i32_w]
     rfl
    refine one_ (i:=7) (N:=(some 25)) #[true,true,true,true,true,true,true,true,false,false,false,false,false,false,false,false,false,false,false,false,false] rfl rfl (one_of HT_.out (by kernel_rfl)) (by decide) (fun K hK=>?_)
    refine goes_ Try.func78 (by kernel_rfl) rfl #[.agg #[.slice Ab lb.length cb,.slice (some ad) lw.length cw,.int .i64 a],.int .i64 lw[q].f0,.string lw[q].f1] (by rfl) rfl rfl (by (try simp only [List.map_toArray,List.map_cons,List.map_nil]);first |done |rfl) ?_
    with_reducible refine (LK.out _ (below_drew1 (Below.refl _ _))).mono ?_
    rintro e w4 ⟨rfl,hb4⟩
    refine ⟨_,rfl, ?_⟩
    refine hK.out _ _ ⟨pw_cell_below hb4 g0,pw_cell_below hb4 g1,pw_cell_below hb4 g2,pw_cell_below hb4 x0,pw_cell_below hb4 x1⟩ (fun hHeld=>?_)
    clear hK K
    refine norm_ (a':=?_) ?_ ?_
    rotate_left
    ·show Act.put _ (some 25) _=_
     simp only [Act.put,List.setIfInBounds_toArray,List.set_cons_zero,List.set_cons_succ,i64_w,i32_w]
     rfl
    refine pure_ (i:=8) (N:=(some 26)) (v:=?_) (a':=?_) #[true,true,true,true,true,true,true,true,true,false,false,false,false,false,false,false,false,false,false,false,false] rfl rfl (any_of HT_.out (by kernel_rfl)) (fun _ _ _ h=>h) (Or.inl ⟨by rfl, ?_⟩) ?_ ?_
    rotate_left
    ·intro w'
     go_simp
     with_reducible rfl
    rotate_left
    ·simp only [Act.put,List.setIfInBounds_toArray,List.set_cons_zero,List.set_cons_succ,i64_w,i32_w]
     rfl
    refine pure_ (i:=9) (N:=(some 27)) (v:=?_) (a':=?_) #[true,true,true,true,true,true,true,true,true,true,false,false,false,false,false,false,false,false,false,false,false] rfl rfl (any_of HT_.out (by kernel_rfl)) (fun _ _ _ h=>h) (Or.inl ⟨by rfl, ?_⟩) ?_ ?_
    rotate_left
    ·intro w'
     go_simp
     with_reducible rfl
    rotate_left
    ·simp only [Act.put,List.setIfInBounds_toArray,List.set_cons_zero,List.set_cons_succ,i64_w,i32_w]
     rfl
    refine pure_ (i:=10) (N:=(some 28)) (v:=undef) (a':=?_) #[true,true,true,true,true,true,true,true,true,true,true,false,false,false,false,false,false,false,false,false,false] rfl rfl (any_of HT_.out (by kernel_rfl)) (fun _ _ _ h=>h) (Or.inr ⟨by rfl,rfl⟩) ?_ ?_
    rotate_left
    ·simp only [Act.put,List.setIfInBounds_toArray,List.set_cons_zero,List.set_cons_succ,i64_w,i32_w]
     rfl
    refine pure_ (i:=11) (N:=(some 29)) (v:=undef) (a':=?_) #[true,true,true,true,true,true,true,true,true,true,true,true,false,false,false,false,false,false,false,false,false] rfl rfl (any_of HT_.out (by kernel_rfl)) (fun _ _ _ h=>h) (Or.inr ⟨by rfl,rfl⟩) ?_ ?_
    rotate_left
    ·simp only [Act.put,List.setIfInBounds_toArray,List.set_cons_zero,List.set_cons_succ,i64_w,i32_w]
     rfl
    refine pure_ (i:=12) (N:=(some 30)) (v:=undef) (a':=?_) #[true,true,true,true,true,true,true,true,true,true,true,true,true,false,false,false,false,false,false,false,false] rfl rfl (any_of HT_.out (by kernel_rfl)) (fun _ _ _ h=>h) (Or.inr ⟨by rfl,rfl⟩) ?_ ?_
    rotate_left
    ·simp only [Act.put,List.setIfInBounds_toArray,List.set_cons_zero,List.set_cons_succ,i64_w,i32_w]
     rfl
    refine pure_ (i:=13) (N:=(some 31)) (v:=undef) (a':=?_) #[true,true,true,true,true,true,true,true,true,true,true,true,true,true,false,false,false,false,false,false,false] rfl rfl (any_of HT_.out (by kernel_rfl)) (fun _ _ _ h=>h) (Or.inr ⟨by rfl,rfl⟩) ?_ ?_
    rotate_left
    ·simp only [Act.put,List.setIfInBounds_toArray,List.set_cons_zero,List.set_cons_succ,i64_w,i32_w]
     rfl
    refine pure_ (i:=14) (N:=(some 32)) (v:=undef) (a':=?_) #[true,true,true,true,true,true,true,true,true,true,true,true,true,true,true,false,false,false,false,false,false] rfl rfl (any_of HT_.out (by kernel_rfl)) (fun _ _ _ h=>h) (Or.inr ⟨by rfl,rfl⟩) ?_ ?_
    rotate_left
    ·simp only [Act.put,List.setIfInBounds_toArray,List.set_cons_zero,List.set_cons_succ,i64_w,i32_w]
     rfl
    refine pure_ (i:=15) (N:=(some 33)) (v:=undef) (a':=?_) #[true,true,true,true,true,true,true,true,true,true,true,true,true,true,true,true,false,false,false,false,false] rfl rfl (any_of HT_.out (by kernel_rfl)) (fun _ _ _ h=>h) (Or.inr ⟨by rfl,rfl⟩) ?_ ?_
    rotate_left
    ·simp only [Act.put,List.setIfInBounds_toArray,List.set_cons_zero,List.set_cons_succ,i64_w,i32_w]
     rfl
    refine pure_ (i:=16) (N:=(some 34)) (v:=undef) (a':=?_) #[true,true,true,true,true,true,true,true,true,true,true,true,true,true,true,true,true,false,false,false,false] rfl rfl (any_of HT_.out (by kernel_rfl)) (fun _ _ _ h=>h) (Or.inr ⟨by rfl,rfl⟩) ?_ ?_
    rotate_left
    ·simp only [Act.put,List.setIfInBounds_toArray,List.set_cons_zero,List.set_cons_succ,i64_w,i32_w]
     rfl
    refine pure_ (i:=17) (N:=(some 35)) (v:=undef) (a':=?_) #[true,true,true,true,true,true,true,true,true,true,true,true,true,true,true,true,true,true,false,false,false] rfl rfl (any_of HT_.out (by kernel_rfl)) (fun _ _ _ h=>h) (Or.inr ⟨by rfl,rfl⟩) ?_ ?_
    rotate_left
    ·simp only [Act.put,List.setIfInBounds_toArray,List.set_cons_zero,List.set_cons_succ,i64_w,i32_w]
     rfl
    refine pure_ (i:=18) (N:=(some 36)) (v:=undef) (a':=?_) #[true,true,true,true,true,true,true,true,true,true,true,true,true,true,true,true,true,true,true,false,false] rfl rfl (any_of HT_.out (by kernel_rfl)) (fun _ _ _ h=>h) (Or.inr ⟨by rfl,rfl⟩) ?_ ?_
    rotate_left
    ·simp only [Act.put,List.setIfInBounds_toArray,List.set_cons_zero,List.set_cons_succ,i64_w,i32_w]
     rfl
    refine pure_ (i:=19) (N:=(some 37)) (v:=undef) (a':=?_) #[true,true,true,true,true,true,true,true,true,true,true,true,true,true,true,true,true,true,true,true,false] rfl rfl (any_of HT_.out (by kernel_rfl)) (fun _ _ _ h=>h) (Or.inr ⟨by rfl,rfl⟩) ?_ ?_
    rotate_left
    ·simp only [Act.put,List.setIfInBounds_toArray,List.set_cons_zero,List.set_cons_succ,i64_w,i32_w]
     rfl
    refine pure_ (i:=20) (N:=(some 38)) (v:=?_) (a':=?_) #[true,true,true,true,true,true,true,true,true,true,true,true,true,true,true,true,true,true,true,true,true] rfl rfl (any_of HT_.out (by kernel_rfl)) (fun _ _ _ h=>h) (Or.inl ⟨by rfl, ?_⟩) ?_ ?_
    rotate_left
    ·intro w'
     go_simp
     with_reducible rfl
    rotate_left
    ·simp only [Act.put,List.setIfInBounds_toArray,List.set_cons_zero,List.set_cons_succ,i64_w,i32_w]
     rfl
    refine done_ (done_of HT_.out (by kernel_rfl)) ?_
    have hbw:=below_step (below_drew1 (Below.refl W3.heap.size W3)) hb4
    have HgH:=Aside0.mk (blk_below HgF.out hbw)
    have HeH:=Aside0.mk (blk_below HeF.out hbw)
    have HxH:=Aside0.mk (blk_below HxF.out hbw)
    have HRH:=Aside0.mk (Kd.R_below HRF.out hbw)
    have HWH:=Aside0.mk (Kd.R_below HWF.out hbw)
    have HbH:=Aside0.mk (below_base HbF.out hs3 hbw)
    have HpH:=Aside0.mk (blk_below HpF.out hbw)
    have HkH:=Aside0.mk (blk_below HkF.out hbw)
    go_wp2
    go_roundw
    case rel=>
     refine ⟨q + 1,lc,by omega,by simp,HLN,⟨?_⟩,HgH,HeH,HRH,HWH,HpH,HkH,HbH⟩
     rw [← HLT.out,List.drop_eq_getElem_cons hlt,landTo,landStep,if_neg hno]
    case measure=>
     simp only [intOf]
     omega
  ·have hge:(lw.length:Int)≤(q:Int):=by omega
   have e1:(blk_cell HgE.out 1)=(blk_cell HgE.out 1):=rfl
   have z1:wr.cell? ⟨g,1,none⟩=some (.slice Aw lw.length cw):=(blk_cell HgE.out 1).trans rfl
   have zf:=blk_frozen HgE.out 1
   clear e1
   go_wp2
   go_end0
   refine ⟨rfl,blk_put HgE.out 1 (.slice none 0 0) rfl, ?_,blk_far HkE.out hkg _,HbE.out.setCell (p:=⟨g,1,none⟩) hbg _⟩
   rw [← HLT.out,List.drop_of_length_le (by omega),landTo]
   exact R_far0 HRE.out HgE.out (by decide) 1 _
theorem flush1_any (q:Int) (w:World):Calls Try.prog 84 #[.int .i64 q] w fun e w'=>e=.returned (.int .i64 1)∧w'=w:=by
 go_enter Try.func84,Try.ntmps84
 go_wp2
 go_ret
 exact ⟨rfl,rfl⟩
def drive_Flush.f (l0:List ByteArray) (l1:List S27) (a:Int):Option (List ByteArray × List S27 × Int × Int):=
 (drive_through.f l0 l1 a).bind fun t=>if t.2.2.2=0 then (if t.2.1.length≤140737488355328 then some (landTo t.1.length (fun _=>1) 0 t.2.1 t.1,[],t.2.2.1,t.2.2.2) else none) else some (t.1,t.2.1,t.2.2.1,t.2.2.2)
set_option maxHeartbeats 2000000 in
set_option maxRecDepth 100000 in
theorem flush_walk (A0:Option Addr) (c0:Nat) (l0:List ByteArray) (A1:Option Addr) (c1:Nat) (l1:List S27) (a:Int) (t1:List ByteArray) (t2:List S27) (t3 t4:Int) (w:World) (hr0:Kd.C Kd.string w A0 l0.length l0) (hc0:l0.length≤c0) (hr1:Kd.C k27 w A1 l1.length l1) (hc1:l1.length≤c1)
  (ht:drive_through.f l0 l1 a=some (t1,t2,t3,t4)) (hl:t2.length≤140737488355328) :
  Calls Try.prog 40 #[.agg #[.slice A0 l0.length c0,.slice A1 l1.length c1,.int .i64 a]] w fun e w'=>∃ v0_ v1_:Value,e=.returned (.tuple #[.agg #[v0_,v1_,.int .i64 t3],.int .i64 t4])∧Kd.R Kd.string 9 w' w.heap.size (fun _=>True) v0_ (if t4=0 then landTo t1.length (fun _=>1) 0 t2 t1 else t1)∧Kd.R k27 27 w' w.heap.size (fun _=>True) v1_ (if t4=0 then [] else t2)∧Below w.heap.size w w':=by
 have hu29:=Try.underlying29
 have H0:=Aside0.mk hr0
 have H1:=Aside0.mk hr1
 have HT:=Aside0.mk ht
 clear hr0 hr1 ht
 go_enter Try.func40,Try.ntmps40
 go_wp2_with (first
  | ((with_reducible refine gate_dst (N:=1) rfl ?_);refine box_event ?hg (N:=1) ?hd (cs:=#[.slice A0 l0.length c0,.slice A1 l1.length c1,.int .i64 a]) (t:=29) ?hr ?_;(case hd=>rfl);(case hg=>rfl);(case hr=>first |(go_simp;done) |(go_simp;rfl));intro b1 hb1 w1 hx1 hl1;have c10:w1.cell? ⟨b1,0,none⟩=some (.slice A0 l0.length c0):=(blk_cell hx1 0).trans rfl;have c11:w1.cell? ⟨b1,1,none⟩=some (.slice A1 l1.length c1):=(blk_cell hx1 1).trans rfl;have c12:w1.cell? ⟨b1,2,none⟩=some (.int .i64 a):=(blk_cell hx1 2).trans rfl;have HX1:=Aside0.mk hx1;have HL1:=Aside0.mk hl1;have HB1:=Aside0.mk hb1;clear hx1 hl1 hb1)
  | ((with_reducible refine gate_dst (N:=2) rfl ?_);refine box_event ?hg (N:=2) ?hd (cs:=#[.slice none 0 0,.slice none 0 0,.int .i64 0]) (t:=29) ?hr ?_;(case hd=>rfl);(case hg=>rfl);(case hr=>first |(go_simp;done) |(go_simp;rfl));intro b2 hb2 w2 hx2 hl2;have d10:=pw_cell_below hl2 c10;have d11:=pw_cell_below hl2 c11;have d12:=pw_cell_below hl2 c12;clear c10 c11 c12;have HX2:=Aside0.mk hx2;have HL2:=Aside0.mk hl2;have HB2:=Aside0.mk hb2;clear hx2 hl2 hb2))
 have hbw2:=below_step HL1.out HL2.out
 refine (drive_through.calls A0 c0 l0 A1 c1 l1 a t1 t2 t3 t4 w2 (Kd.C_below H0.out hbw2) hc0 (Kd.C_below H1.out hbw2) hc1 HT.out).mono ?_
 rintro e w3 ⟨v0,v1,rfl,ho0,ho1,hb3⟩
 obtain ⟨B0,e0,rfl⟩:=Kd.R_slice ho0
 obtain ⟨B1,e1,rfl⟩:=Kd.R_slice ho1
 have hx13:=blk_below (blk_below HX1.out HL2.out) hb3
 have hx23:=blk_below HX2.out hb3
 have n12:b1≠b2:=by rw [HB2.out];exact Nat.ne_of_lt (blk_lt HX1.out)
 have n21:b2≠b1:=n12.symm
 have g1:w.heap.size≤b1:=Nat.le_of_eq HB1.out.symm
 have g2:w.heap.size≤b2:=by rw [HB2.out];exact HL1.out.size
 have o0:=Kd.R_lower ho0 hbw2.size
 have o1:=Kd.R_lower ho1 hbw2.size
 have hB3:=below_step hbw2 hb3
 have hbk:=blk_put (blk_put (blk_put hx13 0 (.slice B0 t1.length e0) rfl) 1 (.slice B1 t2.length e1) rfl) 2 (.int .i64 t3) rfl
 have hbk2:=blk_far (blk_far (blk_far hx23 (p:=⟨b1,0,none⟩) n21 (.slice B0 t1.length e0)) (p:=⟨b1,1,none⟩) n21 (.slice B1 t2.length e1)) (p:=⟨b1,2,none⟩) n21 (.int .i64 t3)
 have hR:=R_set3 o0 hx13 (by decide) (.slice B0 t1.length e0) (.slice B1 t2.length e1) (.int .i64 t3)
 have hW:=R_set3 o1 hx13 (by decide) (.slice B0 t1.length e0) (.slice B1 t2.length e1) (.int .i64 t3)
 have hB:=below_set3 hB3 g1 (.slice B0 t1.length e0) (.slice B1 t2.length e1) (.int .i64 t3)
 have k0:=(blk_cell hx13 0).trans rfl
 have k1:=(blk_cell hx13 1).trans rfl
 have k2:=(blk_cell hx13 2).trans rfl
 have f0:=blk_frozen hx13 0
 have f1:=blk_frozen hx13 1
 have f2:=blk_frozen hx13 2
 have m0:=(blk_cell hx23 0).trans rfl
 have m1:=(blk_cell hx23 1).trans rfl
 have m2:=(blk_cell hx23 2).trans rfl
 have e0_:=blk_frozen hx23 0
 have e1_:=blk_frozen hx23 1
 have e2_:=blk_frozen hx23 2
 have HK:=Aside0.mk hbk
 have HK2:=Aside0.mk hbk2
 have HR:=Aside0.mk hR
 have HW:=Aside0.mk hW
 have HB:=Aside0.mk hB
 clear hbk hbk2 hR hW hB hx13 hx23 o0 o1 ho0 ho1 hb3 hB3 HX1 HX2 d10 d11 d12
 by_cases h4:t4=0
 ·subst h4
  go_wp2_with fail
  refine (land_any Try.func84 (by kernel_rfl) rfl #[] b1 B0 e0 t1 B1 e1 t2 t3 w.heap.size (fun _=>1) _ HK.out HR.out HW.out g1 hl b2 _ 29 HK2.out (by decide) b2 _ 29 HK2.out (by decide) n21 (fun q wr _ _ _=>flush1_any q wr) (fun _=>.inr (.inl rfl))).mono ?_
  rintro e w5 ⟨rfl,hg5,hR5,hk5,hB5⟩
  have p0:=(blk_cell hg5 0).trans rfl
  have p1:=(blk_cell hg5 1).trans rfl
  have p2:=(blk_cell hg5 2).trans rfl
  have q0:=(blk_cell hk5 0).trans rfl
  have q1:=(blk_cell hk5 1).trans rfl
  have q2:=(blk_cell hk5 2).trans rfl
  have r0:=blk_frozen hk5 0
  have r1:=blk_frozen hk5 1
  have r2:=blk_frozen hk5 2
  have HG5:=Aside0.mk hg5
  have HR5:=Aside0.mk hR5
  have HK5:=Aside0.mk hk5
  have HB5:=Aside0.mk (HB.out.trans hB5)
  clear hg5 hR5 hk5 hB5
  go_wp2
  refine bodyPost_ret (results_ct rfl _ _ b2 29 #[.slice B0 t1.length e0,.slice none 0 0,.int .i64 t3] (0,0) _ rfl (blk_put (blk_put (blk_put HK5.out 0 _ rfl) 1 _ rfl) 2 _ rfl) Try.underlying29 rfl (by kernel_rfl)) rfl ?_
  exact ⟨_,_,rfl,R_set3 HR5.out HK5.out (by decide) _ _ _,Kd.R_nil _ _ _ _ _,below_set3 HB5.out g2 _ _ _⟩
 ·have h4b:(t4 == 0)=false:=beq_eq_false_iff_ne.mpr h4
  go_wp2
  refine bodyPost_ret (results_ct rfl _ _ b2 29 #[.slice B0 t1.length e0,.slice B1 t2.length e1,.int .i64 t3] (0,0) _ rfl (blk_put (blk_put (blk_put HK2.out 0 _ rfl) 1 _ rfl) 2 _ rfl) Try.underlying29 rfl (by kernel_rfl)) rfl ?_
  exact ⟨_,_,rfl,R_set3 HR.out HK2.out (by decide) _ _ _,R_set3 HW.out HK2.out (by decide) _ _ _,below_set3 HB.out g2 _ _ _⟩
theorem drive_Flush.calls (A0_0:Option Addr) (c0_0:Nat) (l0_0:List ByteArray) (A0_1:Option Addr) (c0_1:Nat) (l0_1:List (S27)) (a0_2:Int) (r1:List ByteArray) (r2:List (S27)) (r3:Int) (r4:Int) (w:World) (hr0_0:Kd.C Kd.string w A0_0 l0_0.length l0_0) (hc0_0:l0_0.length≤c0_0) (hr0_1:Kd.C k27 w A0_1 l0_1.length l0_1) (hc0_1:l0_1.length≤c0_1) (h:drive_Flush.f l0_0 l0_1 a0_2=some (r1,r2,r3,r4)) :
  Calls Try.prog 40 #[.agg #[.slice A0_0 l0_0.length c0_0,.slice A0_1 l0_1.length c0_1,.int .i64 a0_2]] w fun e w'=>∃ v0_ v1_:Value,e=.returned (.tuple #[.agg #[v0_,v1_,.int .i64 r3],.int .i64 r4])∧Kd.R Kd.string 9 w' w.heap.size (fun _=>True) v0_ r1∧Kd.R k27 27 w' w.heap.size (fun _=>True) v1_ r2∧Below w.heap.size w w':=by
 unfold drive_Flush.f at h
 obtain ⟨⟨t1,t2,t3,t4⟩,ht,h2⟩:=Option.bind_eq_some_iff.1 h
 dsimp only at h2
 have hl:t2.length≤140737488355328:=by
  have ht2:=ht
  unfold drive_through.f drive_copied.f api_Write_111.f at ht2
  obtain ⟨⟨u1,u2,u3⟩,hu,hv⟩:=Option.bind_eq_some_iff.1 ht2
  obtain ⟨x1,hx1,hx2⟩:=Option.bind_eq_some_iff.1 hu
  obtain ⟨x2,hx3,hx4⟩:=Option.bind_eq_some_iff.1 hx2
  cases hx4
  split at hx3
  ·next hs=>
   cases hx3
   dsimp only at hv
   have:t2=l0_1:=by
    split at hv
    ·simp at hv;exact hv.2.1.symm
    ·split at hv
     ·simp at hv;exact hv.2.1.symm
     ·simp at hv;exact hv.2.1.symm
   rw [this];omega
  ·cases hx3
 refine (flush_walk A0_0 c0_0 l0_0 A0_1 c0_1 l0_1 a0_2 t1 t2 t3 t4 w hr0_0 hc0_0 hr0_1 hc0_1 ht hl).mono ?_
 rintro e w' ⟨v0,v1,rfl,ho0,ho1,hb⟩
 by_cases h4:t4=0
 ·rw [if_pos h4,if_pos hl] at h2
  cases h2
  rw [if_pos h4] at ho0 ho1
  exact ⟨_,_,rfl,ho0,ho1,hb⟩
 ·rw [if_neg h4] at h2
  cases h2
  rw [if_neg h4] at ho0 ho1
  exact ⟨_,_,rfl,ho0,ho1,hb⟩
end Go.Proofs.Ytjfmnkmgnbbfgaa.A
