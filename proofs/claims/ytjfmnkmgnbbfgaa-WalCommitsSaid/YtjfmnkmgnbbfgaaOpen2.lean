/- Several texts of this claim in one: Open, Open2. -/
import Derived.Test.YtjfmnkmgnbbfgaaA0
import Derived.OpenShut
import Derived.ChangeArms
import Derived.DataReads
set_option linter.unusedVariables false
namespace Go.Proofs.Ytjfmnkmgnbbfgaa.A
open Go.RowKit Go.Proofs.YtjfmnkmgnbbfgaaW.PrintWords Go.Proofs.YtjfmnkmgnbbfgaaW.PrintLast Go.Proofs.YtjfmnkmgnbbfgaaW.PrintMore
theorem add_add' (a:Addr) (m j:Nat):(a.add m).add j=a.add (m + j):=by
 unfold Addr.add
 by_cases hj:j=0
 ·subst hj;simp
 ·by_cases hm:m=0
  ·subst hm;simp [hj]
  ·simp [hj,hm,Nat.add_assoc]
section
variable {H:Type} {enc:TypeId × Value→H} {P:Program} {w:World} {base:Nat} {spare:Nat→Bool} {held:Bool}
def Opens {α:Type} (enc:TypeId × Value→H) (P:Program) (w:World) (base:Nat) (spare:Nat→Bool) (held:Bool) (t:TypeId) (d:Kd α):Prop:=
 ∀ fuel cs x,DataW.trod enc P w base spare held fuel t cs=some x→∃ a:α,d.K w a cs
theorem cells27:Try.prog.cellsOf 27=2:=by kernel_rfl
theorem cells29:Try.prog.cellsOf 29=3:=by kernel_rfl
theorem cells9:Try.prog.cellsOf 9=1:=by kernel_rfl
theorem cells3:Try.prog.cellsOf 3=1:=by kernel_rfl
theorem cells22:Try.prog.cellsOf 22=1:=by kernel_rfl
theorem cells23:Try.prog.cellsOf 23=1:=by kernel_rfl
theorem opens_int {t:TypeId} {k:IntKind} (ht:P.underlying t=some (.int k)):Opens enc P w base spare held t (Kd.int k):=fun fuel cs x h=>by
 obtain ⟨n,rfl,_,_⟩:=DataW.trod_int ht h
 exact ⟨n,rfl⟩
theorem opens_string {t:TypeId} (ht:P.underlying t=some .string):Opens enc P w base spare held t Kd.string:=fun fuel cs x h=>by
 obtain ⟨s,rfl,_,_⟩:=DataW.trod_string ht h
 exact ⟨s,rfl⟩
theorem opens_slice {α:Type} {d:Kd α} {t e:TypeId} (ht:P.underlying t=some (.slice e)) (hc:P.cellsOf e=d.sz) (he:Opens enc P w base spare held e d):Opens enc P w base spare held t (Kd.slice e d):=fun fuel cs x h=>by
 rcases DataW.trod_slice ht h with ⟨rfl,_⟩ |⟨a,len,cap,elems,rest,n,_,rfl,rfl,hb,hl,hm,hlen,hel,_,_⟩
 ·exact ⟨[],none,0,rfl,Nat.le_refl _,rfl,by simp,fun h0=>absurd h0 (by simp)⟩
 ·have each:∀ i:Fin len,∃ (y:α) (c:List Value),d.K w y c∧w.cells? base (a.add (i.1 * d.sz)) d.sz=some c:=by
   intro i
   have h1:=hel i.1 i.2
   rw [hc,List.getElem?_eq_getElem (by omega),Option.bind_eq_some_iff] at h1
   obtain ⟨c,h2,h3⟩:=h1
   obtain ⟨y,hy⟩:=he _ _ _ h3
   exact ⟨y,c,hy,h2⟩
  refine ⟨List.ofFn fun i:Fin len=>(each i).choose,some a,cap,by simp,by simpa using hl, ?_⟩
  refine ⟨rfl,by simp only [List.length_ofFn];simp only [maxLen] at hm;omega,fun _=>⟨a,rfl, ?_⟩⟩
  intro j p hp
  have hj:j<len:=by
   have:=(List.getElem?_eq_some_iff.1 hp).1
   simpa using this
  obtain ⟨c,h1,h2⟩:=(each ⟨j,hj⟩).choose_spec
  have hpe:p=(each ⟨j,hj⟩).choose:=by
   rw [List.getElem?_ofFn] at hp
   simp [hj] at hp
   exact hp.symm
  refine ⟨c,d.K_len h1,by rw [hpe];exact h1, ?_⟩
  intro i u hu
  have hi:i<d.sz:=by rw [← d.K_len h1];exact (List.getElem?_eq_some_iff.1 hu).1
  obtain ⟨_,_,h3⟩:=World.cells?_some h2
  have:=h3 i hi
  rw [add_add'] at this
  rw [this,hu]
set_option maxRecDepth 100000 in
theorem opens_27:Opens enc Try.prog w base spare held 27 k27:=fun fuel cs x h=>by
 obtain ⟨xs,n,rfl,rfl,hl,hx,hf⟩:=DataW.trod_struct Try.underlying27 h
 have f0:=hf 0 _ rfl
 have f1:=hf 1 _ rfl
 have hx2:xs.length=2:=hx
 rw [cells27] at hl
 match cs,hl with
 | [c0,c1],_=>
  rw [List.getElem?_eq_getElem (by omega)] at f0 f1
  obtain ⟨a0,e0⟩:=opens_int Try.underlying3 _ _ _ f0
  obtain ⟨a1,e1⟩:=opens_string Try.underlying9 _ _ _ f1
  have e0':List.take (Try.prog.cellsOf 3) (List.drop 0 [c0,c1])=[.int .i64 a0]:=e0
  rw [cells3] at e0'
  have e1':List.take (Try.prog.cellsOf 9) (List.drop 1 [c0,c1])=[.string a1]:=e1
  rw [cells9] at e1'
  cases e0'
  cases e1'
  exact ⟨⟨a0,a1⟩,k27_mk w ⟨a0,a1⟩⟩
theorem opens_22:Opens enc Try.prog w base spare held 22 (Kd.slice 9 Kd.string):=opens_slice Try.underlying22 cells9 (opens_string Try.underlying9)
theorem opens_23:Opens enc Try.prog w base spare held 23 (Kd.slice 27 k27):=opens_slice Try.underlying23 cells27 opens_27
set_option maxRecDepth 100000 in
theorem opens_29:Opens enc Try.prog w base spare held 29 k29:=fun fuel cs x h=>by
 obtain ⟨xs,n,rfl,rfl,hl,hx,hf⟩:=DataW.trod_struct Try.underlying29 h
 have f0:=hf 0 _ rfl
 have f1:=hf 1 _ rfl
 have f2:=hf 2 _ rfl
 have hx2:xs.length=3:=hx
 rw [cells29] at hl
 match cs,hl with
 | [c0,c1,c2],_=>
  rw [List.getElem?_eq_getElem (by omega)] at f0 f1 f2
  obtain ⟨a0,A0,q0,e0,l0,g0⟩:=opens_22 _ _ _ f0
  obtain ⟨a1,A1,q1,e1,l1,g1⟩:=opens_23 _ _ _ f1
  obtain ⟨a2,e2⟩:=opens_int Try.underlying3 _ _ _ f2
  have e0':[c0]=[.slice A0 a0.length q0]:=by have:=e0;simpa [cells22] using this
  have e1':[c1]=[.slice A1 a1.length q1]:=by have:=e1;simpa [cells23] using this
  have e2':List.take (Try.prog.cellsOf 3) (List.drop 2 [c0,c1,c2])=[.int .i64 a2]:=e2
  rw [cells3] at e2'
  cases e0'
  cases e1'
  cases e2'
  exact ⟨⟨a0,a1,a2⟩,k29_mk w ⟨a0,a1,a2⟩ l0 g0 l1 g1⟩
end
theorem array3 {α:Type} {xs:Array α} (h:xs.size=3):∃ a b c,xs=#[a,b,c]:=by
 match xs,h with
 | ⟨[a,b,c]⟩,_=>exact ⟨a,b,c,rfl⟩
end Go.Proofs.Ytjfmnkmgnbbfgaa.A
set_option linter.unusedVariables false
namespace Go.Proofs.Ytjfmnkmgnbbfgaa.A
open Go.RowKit Go.Proofs.YtjfmnkmgnbbfgaaW.PrintWords Go.Proofs.YtjfmnkmgnbbfgaaW.PrintLast Go.Proofs.YtjfmnkmgnbbfgaaW.PrintMore
theorem V_str {w:World} {base:Nat} {A:Option Addr} {c:Nat} {xs:List ByteArray} (hl:xs.length≤c) (h:Kd.C Kd.string w A xs.length xs):Kd.V Kd.string 9 w base (fun k_=>k_<w.heap.size) (.slice A xs.length c) xs:=Kd.V_mk hl (Kd.C_F Kd.heap_string h)
theorem V_27 {w:World} {base:Nat} {A:Option Addr} {c:Nat} {xs:List S27} (hl:xs.length≤c) (h:Kd.C k27 w A xs.length xs):Kd.V k27 27 w base (fun k_=>k_<w.heap.size) (.slice A xs.length c) xs:=Kd.V_mk hl (Kd.C_F k27_heap h)
end Go.Proofs.Ytjfmnkmgnbbfgaa.A
