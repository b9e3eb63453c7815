/- Several texts of this claim in one: Xrepeat, Ba, C0, C1. -/
import Derived.Test.YtjfmnkmgnbbfgaaA0
import Derived.Test.YtjfmnkmgnbbfgaaShelf
import Derived.Test.YtjfmnkmgnbbfgaaXget
import Derived.Test.YtjfmnkmgnbbfgaaXland
import Derived.Test.YtjfmnkmgnbbfgaaA38
namespace Go.Proofs.Ytjfmnkmgnbbfgaa.A
open Go.RowKit Go.Proofs.YtjfmnkmgnbbfgaaW.PrintWords Go.Proofs.YtjfmnkmgnbbfgaaW.PrintLast Go.Proofs.YtjfmnkmgnbbfgaaW.PrintMore
def repB (s:ByteArray) (c:Nat):ByteArray:=⟨(Lib.repeatL s.data.toList c).toArray⟩
def strings_Repeat.f (a0:ByteArray) (a1:Int):Option ByteArray:=
 if 0≤a1∧a1≤9223372036854775807∧a0.size * a1.toNat≤140737488355328 then some (repB a0 a1.toNat) else none
theorem strings_Repeat.calls (a0:ByteArray) (a1:Int) (r:ByteArray) (w:World) (h:strings_Repeat.f a0 a1=some r) :
  Calls Try.prog 75 #[.string a0,.int .i64 a1] w fun e w'=>e=.returned (.string r)∧Below w.heap.size w w':=by
 unfold strings_Repeat.f at h
 by_cases hc:0≤a1∧a1≤9223372036854775807∧a0.size * a1.toNat≤140737488355328
 ·rw [if_pos hc] at h
  obtain rfl:=Option.some.inj h
  obtain ⟨c,rfl⟩:=Int.eq_ofNat_of_zero_le hc.1
  rw [Int.toNat_natCast] at hc ⊢
  exact Try.strings_Repeat a0 c w (by omega) hc.2.2
 ·rw [if_neg hc] at h
  cases h
def joinB (l:List ByteArray) (sep:ByteArray):ByteArray:=⟨(Lib.join (l.map (·.data.toList)) sep.data.toList).toArray⟩
def strings_Join.f (l0:List ByteArray) (a1:ByteArray):Option ByteArray:=
 if l0.length≤140737488355328∧(joinB l0 a1).size≤140737488355328 then some (joinB l0 a1) else none
theorem spot_none {w:World} {a:Addr} {v:Value} (h:w.cell? a=some v):a=⟨a.block,a.off,none⟩:=by
 unfold World.cell? at h
 split at h
 ·split at h
  ·cases h
  ·rename_i hs
   cases a with
   | mk b o s=>cases s with
    | none=>rfl
    | some s=>exact absurd rfl hs
 ·cases h
theorem cells_of_C {w:World} {A0:Option Addr} {l0:List ByteArray} (hr0:Kd.C Kd.string w A0 l0.length l0) (h0:l0≠[]) :
  ∃ b o,A0=some ⟨b,o,none⟩∧b<w.heap.size∧∀ (j:Nat) x,l0[j]?=some x→w.cell? ⟨b,o + j,none⟩=some (.string x):=by
 have hlen:0<l0.length:=List.length_pos_iff.2 h0
 obtain ⟨_,_,hr⟩:=hr0
 obtain ⟨ad,rfl,hcell⟩:=hr hlen
 have hall:∀ (j:Nat) y,l0[j]?=some y→w.cell? (ad.add j)=some (.string y):=by
  intro j y hj
  obtain ⟨c,hl,hk,hu⟩:=hcell j y hj
  have hk':c=[.string y]:=hk
  subst hk'
  have:=hu 0 (.string y) rfl
  simpa [show Kd.string.sz=1 from rfl] using this
 have hz:=hall 0 l0[0] (List.getElem?_eq_getElem hlen)
 have hadd:ad.add 0=ad:=by unfold Addr.add;rw [if_pos rfl]
 rw [hadd] at hz
 have hsp:=spot_none hz
 refine ⟨ad.block,ad.off,congrArg some hsp,World.block_lt_of_cell? w ad hz,fun j y hj=>?_⟩
 have:=hall j y hj
 rw [hsp] at this
 unfold Addr.add at this
 split at this
 ·rename_i hj0
  subst hj0
  exact this
 ·exact this
theorem strings_Join.calls (A0:Option Addr) (c0:Nat) (l0:List ByteArray) (a1:ByteArray) (r:ByteArray) (w:World) (hr0:Kd.C Kd.string w A0 l0.length l0) (hc0:l0.length≤c0) (h:strings_Join.f l0 a1=some r) :
  Calls Try.prog 88 #[.slice A0 l0.length c0,.string a1] w fun e w'=>e=.returned (.string r)∧Below w.heap.size w w':=by
 unfold strings_Join.f at h
 by_cases hc:l0.length≤140737488355328∧(joinB l0 a1).size≤140737488355328
 ·rw [if_pos hc] at h
  obtain rfl:=Option.some.inj h
  cases l0 with
  | nil=>
   refine (Try.strings_Join_none A0 c0 a1 w).mono ?_
   rintro e w' ⟨rfl,rfl⟩
   exact ⟨rfl,Below.refl _ _⟩
  | cons x xs=>
   obtain ⟨b,o,rfl,hlt,hall⟩:=cells_of_C hr0 (by simp)
   refine (Try.strings_Join b o c0 (x :: xs) a1 w hall hlt hc.1 hc0 ?_).mono ?_
   ·have:=hc.2
    unfold joinB at this
    simpa [ByteArray.size] using this
   ·rintro e w' ⟨rfl,hb⟩
    exact ⟨rfl,hb⟩
 ·rw [if_neg hc] at h
  cases h
def strings_IndexByte.f (a0:ByteArray) (a1:Int):Option Int:=some (Lib.indexByte a0.data.toList a1.toNat.toUInt8)
theorem strings_IndexByte.calls (a0:ByteArray) (a1:Int) (r:Int) (w:World) (h:strings_IndexByte.f a0 a1=some r) :
  Calls Try.prog 94 #[.string a0,.int .u8 a1] w fun e w'=>e=.returned (.int .i64 r)∧Drawn0 w w':=by
 obtain rfl:=Option.some.inj h
 refine (Try.strings_IndexByte a0 a1 w).mono ?_
 rintro e w' ⟨rfl,rfl⟩
 exact ⟨rfl,Drawn0.refl _⟩
end Go.Proofs.Ytjfmnkmgnbbfgaa.A
set_option linter.unusedVariables false
set_option linter.unusedSimpArgs false
namespace Go.Proofs.Ytjfmnkmgnbbfgaa.A
open Go.RowKit Go.Proofs.YtjfmnkmgnbbfgaaW.PrintWords Go.Proofs.YtjfmnkmgnbbfgaaW.PrintLast Go.Proofs.YtjfmnkmgnbbfgaaW.PrintMore
def zeroS:ByteArray:=repB ⟨#[0]⟩ 128
theorem wrapS {i:Nat} (h:i≤140737488355328):wrap64 ((i:Int) + 1)=((i + 1:Nat):Int):=by unfold wrap64;omega
theorem rdN (l:List ByteArray) (i:Nat) (h:i<l.length):rdOf ByteArray.empty l (i:Int)=l[i]:=by
 unfold rdOf
 rw [Int.toNat_natCast,List.getD_eq_getElem?_getD,List.getElem?_eq_getElem h,Option.getD_some]
theorem rdTN (l:List S27) (i:Nat) (h:i<l.length):rd_T27 l (i:Int)=l[i]:=by
 unfold rd_T27
 rw [Int.toNat_natCast,List.getD_eq_getElem?_getD,List.getElem?_eq_getElem h,Option.getD_some]
def Valid (b:List ByteArray) (p:List S27):Prop:=b.length≤256∧(∀ s ∈ b,(s.size:Int)=128)∧∀ x ∈ p,lookV b.length x.f0 x.f1=0
theorem firstErr_zero (n:Nat) (l:List S27) (h:firstErr n l=0):∀ x ∈ l,lookV n x.f0 x.f1=0:=by
 induction l with
 | nil=>simp
 | cons x l ih=>
  unfold firstErr at h
  by_cases hx:lookV n x.f0 x.f1=0
  ·rw [if_neg (by simp [hx])] at h
   intro y hy
   rcases List.mem_cons.1 hy with rfl |hy
   ·exact hx
   ·exact ih h y hy
  ·rw [if_pos hx] at h
   exact absurd h hx
theorem check_valid (b:List ByteArray) (p:List S27) (h:checkV b p=0):Valid b p:=by
 unfold checkV at h
 by_cases h1:256<b.length
 ·rw [if_pos h1] at h;simp at h
 ·rw [if_neg h1] at h
  by_cases h2:b.any (fun b=>!decide ((b.size:Int)=128))=true
  ·rw [if_pos h2] at h;simp at h
  ·rw [if_neg h2] at h
   refine ⟨by omega, ?_,firstErr_zero _ _ h⟩
   intro s hs
   have h3:b.any (fun b=>!decide ((b.size:Int)=128))=false:=by simpa using h2
   have:=List.any_eq_false.1 h3 s hs
   simpa using this
theorem valid_check (b:List ByteArray) (p:List S27) (h:Valid b p):checkV b p=0:=by
 unfold checkV
 rw [if_neg (by have:=h.1;omega),if_neg,firstErr_none _ _ h.2.2]
 intro hc
 obtain ⟨s,hs,hn⟩:=List.any_eq_true.1 hc
 simp [h.2.1 s hs] at hn
theorem backTo_map (zs:List S27):(backTo zs zs.length).map (·.2)=zs.reverse:=by
 apply List.ext_getElem
 ·simp [backTo]
 ·intro i h1 h2
  simp only [List.length_map,backTo_length] at h1
  simp only [backTo,List.getElem_map,List.getElem_range,List.getElem_reverse]
  rw [List.getD_eq_getElem?_getD,List.getElem?_eq_getElem (by omega),Option.getD_some]
theorem getV_rev (b:List ByteArray) (p:List S27) (i:Int):getV b p i=match p.reverse.find? (fun x=>decide (x.f0=i)) with |some x=>x.f1 |none=>rdOf ByteArray.empty b i:=by
 unfold getV
 rw [← backTo_map,List.find?_map]
 have e:(fun x:Int × S27=>decide (x.2.f0=i))=((fun x:S27=>decide (x.f0=i)) ∘ fun x:Int × S27=>x.2):=rfl
 rw [e]
 cases List.find? ((fun x:S27=>decide (x.f0=i)) ∘ fun x:Int × S27=>x.2) (backTo p p.length) with
 | none=>rfl
 | some y=>rfl
theorem getV_nil (b:List ByteArray) (i:Int):getV b [] i=rdOf ByteArray.empty b i:=by rw [getV_rev];rfl
theorem getV_cons (b b':List ByteArray) (x:S27) (p:List S27) (i:Int) (h:rdOf ByteArray.empty b' i=if x.f0=i then x.f1 else rdOf ByteArray.empty b i):getV b (x :: p) i=getV b' p i:=by
 rw [getV_rev,getV_rev,List.reverse_cons,List.find?_append]
 cases List.find? (fun x=>decide (x.f0=i)) p.reverse with
 | some y=>rfl
 | none=>
  by_cases hx:x.f0=i
  ·simp [hx,h]
  ·simp [hx,h]
theorem rd_set (b:List ByteArray) (j i:Int) (v:ByteArray) (hj:0≤j) (hj2:j<b.length) (hi:0≤i):rdOf ByteArray.empty (b.set j.toNat v) i=if j=i then v else rdOf ByteArray.empty b i:=by
 unfold rdOf
 rw [List.getD_eq_getElem?_getD,List.getD_eq_getElem?_getD,List.getElem?_set]
 by_cases h:j=i
 ·subst h
  rw [if_pos rfl,if_pos (by omega),if_pos rfl,Option.getD_some]
 ·rw [if_neg h,if_neg (by omega)]
theorem rd_mem (b:List ByteArray) (i:Int) (hi:0≤i) (h:i<b.length):rdOf ByteArray.empty b i ∈ b:=by
 have:=rdN b i.toNat (by omega)
 rw [Int.toNat_of_nonneg hi] at this
 rw [this]
 exact List.getElem_mem _
theorem land_whole (p:List S27):∀ (q:Nat) (b:List ByteArray),Valid b p →
  (landTo b.length (fun _=>1) q p b).length=b.length∧(∀ s ∈ landTo b.length (fun _=>1) q p b,(s.size:Int)=128)∧∀ i:Int,0≤i→i<b.length→rdOf ByteArray.empty (landTo b.length (fun _=>1) q p b) i=getV b p i:=by
 induction p with
 | nil=>
  intro q b h
  refine ⟨rfl,h.2.1,fun i _ _=>?_⟩
  rw [getV_nil]
  rfl
 | cons x p ih=>
  intro q b h
  obtain ⟨z0,z1,z2⟩:=lookV_zero (h.2.2 x (by simp))
  have hst:landStep b.length 1 x b=b.set x.f0.toNat x.f1:=by
   unfold landStep
   rw [if_pos ⟨h.2.2 x (by simp),h.2.1 _ (rd_mem b x.f0 z0 z1)⟩]
   rfl
  have hlen:(b.set x.f0.toNat x.f1).length=b.length:=List.length_set
  have hv:Valid (b.set x.f0.toNat x.f1) p:=by
   refine ⟨by rw [hlen];exact h.1, ?_,fun y hy=>by rw [hlen];exact h.2.2 y (by simp [hy])⟩
   intro s hs
   rcases List.mem_or_eq_of_mem_set hs with hs |rfl
   ·exact h.2.1 s hs
   ·exact z2
  have:=ih (q + 1) _ hv
  rw [hlen] at this
  obtain ⟨a1,a2,a3⟩:=this
  rw [landTo,hst]
  refine ⟨a1,a2,fun i h0 h1=>?_⟩
  rw [a3 i h0 h1]
  exact (getV_cons _ _ _ _ _ (rd_set b x.f0 i x.f1 z0 z1 h0)).symm
theorem getV_snoc4 (b:List ByteArray) (p:List S27) (x:S27) (i:Int):getV b (p ++ [x]) i=if x.f0=i then x.f1 else getV b p i:=by
 rw [getV_rev,getV_rev,List.reverse_append,List.reverse_singleton,List.singleton_append,List.find?_cons]
 by_cases h:x.f0=i
 ·simp [h]
 ·simp [h]
theorem dget_many (b:List ByteArray) (p:List S27) (a i:Int) (hp:p.length≤1000):drive_Get.f b p a i=some (if i<0∨(b.length:Int)≤i then (⟨#[]⟩,2) else (getV b p i,0)):=by
 unfold drive_Get.f
 rw [if_pos (by omega)]
 by_cases h:i<0∨(b.length:Int)≤i
 ·rw [if_pos h,if_pos h]
 ·rw [if_neg h,if_neg h]
def lessV (a:Int):Int:=if a > 0 then wrap64 (a - 1) else a
def putV (b:List ByteArray) (p:List S27) (a i:Int) (data:ByteArray):List ByteArray × List S27 × Int × Int:=
 if lookV b.length i data=0 then (if a=0 then (b,p,a,17) else (b,p ++ [(⟨i,data⟩:S27)],lessV a,0)) else ([],[],0,lookV b.length i data)
theorem copied_some4 (b:List ByteArray) (p:List S27) (a:Int) (hb:b.length≤256) (hp:p.length≤1000):drive_copied.f b p a=some (b,p,a):=by
 unfold drive_copied.f slices_Clone_string_string.f api_Write_111.f
 rw [if_pos (by omega),Option.bind_some,if_pos (by omega),Option.bind_some]
theorem through_some4 (b:List ByteArray) (p:List S27) (a:Int) (hb:b.length≤256) (hp:p.length≤1000):drive_through.f b p a=some (b,p,lessV a,if a=0 then 17 else 0):=by
 unfold drive_through.f lessV
 rw [copied_some4 b p a hb hp,Option.bind_some]
 dsimp only
 by_cases h0:a=0
 ·simp [h0]
 ·by_cases h1:a > 0
  ·simp [h0,h1]
  ·simp [h0,h1]
theorem dput_many (b:List ByteArray) (p:List S27) (a i:Int) (data:ByteArray) (hb:b.length≤256) (hp:p.length≤1000) (k:Nat) (hk:1<k) :
  drive_Put.f k b p a i data=some (putV b p a i data):=by
 obtain ⟨k,rfl⟩:∃ m,k=m + 2:=⟨k - 2,by omega⟩
 unfold drive_Put.f putV
 rw [at_rounds (g:=fun k=>drive_look.f k b p a i data) (fun k=>drive_look.mono _ _ _ _ _ k) (by omega) (look_some b p a i data),Option.bind_some]
 by_cases h:lookV b.length i data=0
 ·rw [if_pos h,if_pos h,through_some4 b p a hb hp,Option.bind_some]
  dsimp only
  by_cases h0:a=0
  ·rw [if_pos h0,if_pos h0,if_neg (by decide)]
   simp [lessV,h0]
  ·rw [if_neg h0,if_neg h0,if_pos rfl,if_pos (by omega)]
 ·rw [if_neg h,if_neg h]
def flushV (b:List ByteArray) (p:List S27) (a:Int):List ByteArray × List S27 × Int × Int:=
 if a=0 then (b,p,a,17) else (landTo b.length (fun _=>1) 0 p b,[],lessV a,0)
theorem dflush_many (b:List ByteArray) (p:List S27) (a:Int) (hb:b.length≤256) (hp:p.length≤1000):drive_Flush.f b p a=some (flushV b p a):=by
 unfold drive_Flush.f flushV
 rw [through_some4 b p a hb hp,Option.bind_some]
 dsimp only
 by_cases ha:a=0
 ·simp [ha,lessV]
 ·simp only [ha,if_false,if_true]
  rw [if_pos (by omega)]
end Go.Proofs.Ytjfmnkmgnbbfgaa.A
set_option linter.unusedVariables false
set_option linter.unusedSimpArgs false
namespace Go.Proofs.Ytjfmnkmgnbbfgaa.A
open Go.RowKit Go.Proofs.YtjfmnkmgnbbfgaaW.PrintWords Go.Proofs.YtjfmnkmgnbbfgaaW.PrintLast Go.Proofs.YtjfmnkmgnbbfgaaW.PrintMore
inductive CallV where
 | put (i:Int) (s:ByteArray)
 | flush
def FnIs (w:World) (ok:Nat→Prop) (v:Value):CallV→Prop
 | .put i s=>∃ b1 b2,v=.func (.func 99) #[] #[.pointer (some ⟨b1,0,none⟩),.pointer (some ⟨b2,0,none⟩)]∧w.heap[b1]?=some (.cells #[.int .i64 i] 3 (0,0))∧w.heap[b2]?=some (.cells #[.string s] 9 (0,0))∧ok b1∧ok b2
 | .flush=>v=.func (.func 40) #[] #[]
theorem FnIs.move {w w1:World} {ok ok':Nat→Prop} {v:Value} {x:CallV} (h:FnIs w ok v x) (hm:∀ k,ok k→k<w.heap.size→w1.heap[k]?=w.heap[k]?) (ho:∀ k o,ok k→w.heap[k]?=some o→(∃ cells q,(q=3∨q=9)∧o=.cells cells q (0,0))→ok' k):FnIs w1 ok' v x:=by
 cases x with
 | flush=>exact h
 | put i s=>
  obtain ⟨b1,b2,rfl,h1,h2,o1,o2⟩:=h
  exact ⟨b1,b2,rfl,(hm b1 o1 (blk_lt h1)).trans h1,(hm b2 o2 (blk_lt h2)).trans h2,ho b1 _ o1 h1 ⟨_,3,.inl rfl,rfl⟩,ho b2 _ o2 h2 ⟨_,9,.inr rfl,rfl⟩⟩
def kcall:Kd CallV where
 sz:=1
 E:=[3,9]
 K:=fun w x cs=>∃ v,cs=[v]∧FnIs w (fun _=>True) v x
 M:=fun w base ok x cs=>∃ v,cs=[v]∧FnIs w (fun k=>ok k∧base≤k) v x
 K_len:=by
  rintro w x cs ⟨v,rfl,_⟩
  rfl
 K_one:=by
  rintro w x cs ⟨v,rfl,h⟩ u hu
  obtain rfl:=List.mem_singleton.1 hu
  cases x with
  | flush=>rw [show u=_ from h];rfl
  | put i s=>
   obtain ⟨b1,b2,rfl,_⟩:=h
   rfl
 K_below:=by
  rintro w w1 x cs hb ⟨v,rfl,h⟩
  exact ⟨v,rfl,h.move (fun k _ hk=>hb.block k hk) (fun _ _ _ _ _=>trivial)⟩
 K_of_M:=by
  rintro w base ok x cs ⟨v,rfl,h⟩
  exact ⟨v,rfl,h.move (fun _ _ _=>rfl) (fun _ _ _ _ _=>trivial)⟩
 M_mono:=by
  rintro w base ok ok' x cs hok ⟨v,rfl,h⟩
  exact ⟨v,rfl,h.move (fun _ _ _=>rfl) (fun k _ hk _ _=>⟨hok k hk.1,hk.2⟩)⟩
 M_bound:=by
  rintro w base ok x cs ⟨v,rfl,h⟩
  refine ⟨v,rfl,h.move (fun _ _ _=>rfl) (fun k o hk ho hq=>?_)⟩
  obtain ⟨cells,q,hq1,rfl⟩:=hq
  refine ⟨⟨hk.1,hk.2, ?_,q, ?_,cells,ho⟩,hk.2⟩
  ·exact (Array.getElem?_eq_some_iff.1 ho).1
  ·rcases hq1 with rfl |rfl <;> simp
 M_move:=by
  rintro w w1 base ok x cs hm ⟨v,rfl,h⟩
  exact ⟨v,rfl,h.move (fun k hk _=>hm k hk.1) (fun k _ hk _ _=>hk)⟩
 M_lower:=by
  rintro w base base' ok x cs hb ⟨v,rfl,h⟩
  exact ⟨v,rfl,h.move (fun _ _ _=>rfl) (fun k _ hk _ _=>⟨hk.1,Nat.le_trans hb hk.2⟩)⟩
set_option maxHeartbeats 1000000 in
theorem wal_put.walk (i:Int) (s:ByteArray) (w:World):Calls Try.prog 67 #[.int .i64 i,.string s] w fun e w'=>∃ v,e=.returned v∧kcall.M w' w.heap.size (fun k=>w.heap.size≤k) (.put i s) [v]∧Below w.heap.size w w':=by
 go_enter Try.func67,Try.ntmps67
 go_wp2_with (first
  | ((with_reducible refine gate_dst (N:=2) rfl ?_);refine box_event ?hg (N:=2) ?hd (cs:=#[.int .i64 i]) (t:=3) ?hr ?_;(case hd=>rfl);(case hg=>rfl);(case hr=>first |(go_simp;done) |(go_simp;rfl));intro b1 hb1 w1 hx1 hl1;have HX1:=Aside0.mk hx1;have HL1:=Aside0.mk hl1;have HB1:=Aside0.mk hb1;clear hx1 hl1 hb1)
  | ((with_reducible refine gate_dst (N:=3) rfl ?_);refine box_event ?hg (N:=3) ?hd (cs:=#[.string s]) (t:=9) ?hr ?_;(case hd=>rfl);(case hg=>rfl);(case hr=>first |(go_simp;done) |(go_simp;rfl));intro b2 hb2 w2 hx2 hl2;have HX2:=Aside0.mk hx2;have HL2:=Aside0.mk hl2;have HB2:=Aside0.mk hb2;clear hx2 hl2 hb2))
 go_ret
 have hl:=below_step HL1.out HL2.out
 have g1:w.heap.size≤b1:=Nat.le_of_eq HB1.out.symm
 have g2:w.heap.size≤b2:=by rw [HB2.out];exact HL1.out.size
 exact ⟨_,rfl,⟨_,rfl,b1,b2,rfl,blk_below HX1.out HL2.out,HX2.out,⟨g1,g1⟩,g2,g2⟩,hl⟩
end Go.Proofs.Ytjfmnkmgnbbfgaa.A
set_option linter.unusedVariables false
set_option linter.unusedSimpArgs false
namespace Go.Proofs.Ytjfmnkmgnbbfgaa.A
open Go.RowKit Go.Proofs.YtjfmnkmgnbbfgaaW.PrintWords Go.Proofs.YtjfmnkmgnbbfgaaW.PrintLast Go.Proofs.YtjfmnkmgnbbfgaaW.PrintMore
def DrOut (w w':World) (e:Ending) (r:List ByteArray × List S27 × Int × Int):Prop:=
 ∃ v0 v1:Value,e=.returned (.tuple #[.agg #[v0,v1,.int .i64 r.2.2.1],.int .i64 r.2.2.2])∧Kd.R Kd.string 9 w' w.heap.size (fun _=>True) v0 r.1∧Kd.R k27 27 w' w.heap.size (fun _=>True) v1 r.2.1∧Below w.heap.size w w'
def callV (c:CallV) (b:List ByteArray) (p:List S27) (a:Int):List ByteArray × List S27 × Int × Int:=
 match c with
 | .put i s=>putV b p a i s
 | .flush=>flushV b p a
set_option maxHeartbeats 2000000 in
set_option maxRecDepth 100000 in
theorem putc_walk (A0:Option Addr) (c0:Nat) (l0:List ByteArray) (A1:Option Addr) (c1:Nat) (l1:List S27) (a:Int) (u1 u2:Nat) (i:Int) (s:ByteArray) (w:World) (hr0:Kd.C Kd.string w A0 l0.length l0) (hc0:l0.length≤c0) (hr1:Kd.C k27 w A1 l1.length l1) (hc1:l1.length≤c1)
  (h1:w.heap[u1]?=some (.cells #[.int .i64 i] 3 (0,0))) (h2:w.heap[u2]?=some (.cells #[.string s] 9 (0,0))) (hb:l0.length≤256) (hp:l1.length≤1000) :
  Calls Try.prog 99 #[.agg #[.slice A0 l0.length c0,.slice A1 l1.length c1,.int .i64 a],.pointer (some ⟨u1,0,none⟩),.pointer (some ⟨u2,0,none⟩)] w fun e w'=>DrOut w w' e (putV l0 l1 a i s):=by
 have hu29:=Try.underlying29
 have H0:=Aside0.mk hr0
 have H1:=Aside0.mk hr1
 have HU1:=Aside0.mk h1
 have HU2:=Aside0.mk h2
 clear hr0 hr1 h1 h2
 have hT:=dput_many l0 l1 a i s hb hp 2 (by omega)
 generalize putV l0 l1 a i s=T at hT ⊢
 obtain ⟨t1,t2,t3,t4⟩:=T
 have HT:=Aside0.mk hT
 clear hT
 go_enter Try.func99,Try.ntmps99
 go_wp2_with (first
  | ((with_reducible refine gate_dst (N:=3) rfl ?_);refine box_event ?hg (N:=3) ?hd (cs:=#[.slice A0 l0.length c0,.slice A1 l1.length c1,.int .i64 a]) (t:=29) ?hr ?_;(case hd=>rfl);(case hg=>rfl);(case hr=>first |(go_simp;done) |(go_simp;rfl));intro b1 hb1 w1 hx1 hl1;have c10:w1.cell? ⟨b1,0,none⟩=some (.slice A0 l0.length c0):=(blk_cell hx1 0).trans rfl;have c11:w1.cell? ⟨b1,1,none⟩=some (.slice A1 l1.length c1):=(blk_cell hx1 1).trans rfl;have c12:w1.cell? ⟨b1,2,none⟩=some (.int .i64 a):=(blk_cell hx1 2).trans rfl;have HX1:=Aside0.mk hx1;have HL1:=Aside0.mk hl1;have HB1:=Aside0.mk hb1;clear hx1 hl1 hb1)
  | ((with_reducible refine gate_dst (N:=4) rfl ?_);refine box_event ?hg (N:=4) ?hd (cs:=#[.slice none 0 0,.slice none 0 0,.int .i64 0]) (t:=29) ?hr ?_;(case hd=>rfl);(case hg=>rfl);(case hr=>first |(go_simp;done) |(go_simp;rfl));intro b2 hb2 w2 hx2 hl2;have d10:=pw_cell_below hl2 c10;have d11:=pw_cell_below hl2 c11;have d12:=pw_cell_below hl2 c12;clear c10 c11 c12;have v1:w2.cell? ⟨u1,0,none⟩=some (.int .i64 i):=(blk_cell (blk_below HU1.out (below_step HL1.out hl2)) 0).trans rfl;have v2:w2.cell? ⟨u2,0,none⟩=some (.string s):=(blk_cell (blk_below HU2.out (below_step HL1.out hl2)) 0).trans rfl;have HX2:=Aside0.mk hx2;have HL2:=Aside0.mk hl2;have HB2:=Aside0.mk hb2;clear hx2 hl2 hb2))
 have hbw2:=below_step HL1.out HL2.out
 refine (drive_Put.calls 2 A0 c0 l0 A1 c1 l1 a i s t1 t2 t3 t4 w2 (Kd.C_below H0.out hbw2) hc0 (Kd.C_below H1.out hbw2) hc1 HT.out).mono ?_
 rintro e w3 ⟨v0,v1,rfl,ho0,ho1,hb3⟩
 obtain ⟨B0,e0,rfl⟩:=Kd.R_slice ho0
 obtain ⟨B1,e1,rfl⟩:=Kd.R_slice ho1
 have hx23:=blk_below HX2.out hb3
 have g2:w.heap.size≤b2:=by rw [HB2.out];exact HL1.out.size
 have o0:=Kd.R_lower ho0 hbw2.size
 have o1:=Kd.R_lower ho1 hbw2.size
 have hB3:=below_step hbw2 hb3
 have m0:=(blk_cell hx23 0).trans rfl
 have m1:=(blk_cell hx23 1).trans rfl
 have m2:=(blk_cell hx23 2).trans rfl
 have e0_:=blk_frozen hx23 0
 have e1_:=blk_frozen hx23 1
 have e2_:=blk_frozen hx23 2
 have HK2:=Aside0.mk hx23
 have HR:=Aside0.mk o0
 have HW:=Aside0.mk o1
 have HB:=Aside0.mk hB3
 clear hx23 o0 o1 ho0 ho1 hb3 hB3 HX1 HX2 d10 d11 d12
 go_wp2
 refine bodyPost_ret (results_ct rfl _ _ b2 29 #[.slice B0 t1.length e0,.slice B1 t2.length e1,.int .i64 t3] (0,0) _ rfl (blk_put (blk_put (blk_put HK2.out 0 _ rfl) 1 _ rfl) 2 _ rfl) Try.underlying29 rfl (by kernel_rfl)) rfl ?_
 exact ⟨_,_,rfl,R_set3 HR.out HK2.out (by decide) _ _ _,R_set3 HW.out HK2.out (by decide) _ _ _,below_set3 HB.out g2 _ _ _⟩
theorem call_walk (c:CallV) (A0:Option Addr) (c0:Nat) (l0:List ByteArray) (A1:Option Addr) (c1:Nat) (l1:List S27) (a:Int) (ok:Nat→Prop) (v:Value) (w:World) (hv:FnIs w ok v c) (hr0:Kd.C Kd.string w A0 l0.length l0) (hc0:l0.length≤c0) (hr1:Kd.C k27 w A1 l1.length l1) (hc1:l1.length≤c1)
  (hb:l0.length≤256) (hp:l1.length≤1000) :
  ∃ F fn caps, v = .func (.func F) #[] caps ∧ Try.prog.funcs[F]? = some fn ∧ (fn.name == "runtime.NumGoroutine") = false ∧ fn.body.isSome = true ∧ Calls Try.prog F (#[.agg #[.slice A0 l0.length c0, .slice A1 l1.length c1, .int .i64 a]] ++ caps) w fun e w' => DrOut w w' e (callV c l0 l1 a) := by
 cases c with
 | put i s=>
  obtain ⟨b1,b2,rfl,h1,h2,_⟩:=hv
  exact ⟨99,_,_,rfl,Try.func99,by kernel_rfl,rfl,putc_walk A0 c0 l0 A1 c1 l1 a b1 b2 i s w hr0 hc0 hr1 hc1 h1 h2 hb hp⟩
 | flush=>
  refine ⟨40,_,#[],hv,Try.func40,by kernel_rfl,rfl, ?_⟩
  have h:=dflush_many l0 l1 a hb hp
  exact drive_Flush.calls A0 c0 l0 A1 c1 l1 a _ _ _ _ w hr0 hc0 hr1 hc1 h
end Go.Proofs.Ytjfmnkmgnbbfgaa.A
