/- The document's Get, Put and Flush, in plain Lean. -/
import Derived.Test.YtjfmnkmgnbbfgaaC1
import Derived.Test.YtjfmnkmgnbbfgaaA39
import Derived.Test.YtjfmnkmgnbbfgaaA41
import Derived.Test.YtjfmnkmgnbbfgaaA44
set_option linter.unusedVariables false
set_option linter.unusedSimpArgs false
namespace Go.Proofs.Ytjfmnkmgnbbfgaa.A
open Go.RowKit Go.Proofs.YtjfmnkmgnbbfgaaW.PrintWords Go.Proofs.YtjfmnkmgnbbfgaaW.PrintLast Go.Proofs.YtjfmnkmgnbbfgaaW.PrintMore
theorem rget_l0 (b:List ByteArray) (p:List S27) (a i:Int) (hp:p.length≤1000) (d:Nat):∀ k q,q + d=p.length→d<k →
  hibernacleref15_Get.l0 k i (getV b (p.take q) i) (q:Int) b p a=some (getV b p i,0):=by
 induction d with
 | zero=>
  intro k q hq hk
  obtain ⟨k,rfl⟩:∃ m,k=m + 1:=⟨k - 1,by omega⟩
  simp only [hibernacleref15_Get.l0]
  rw [if_neg (by omega),List.take_of_length_le (by omega)]
 | succ d ih=>
  intro k q hq hk
  obtain ⟨k,rfl⟩:∃ m,k=m + 1:=⟨k - 1,by omega⟩
  have e:=ih k (q + 1) (by omega) (by omega)
  have hql:q<p.length:=by omega
  rw [← List.take_append_getElem hql,getV_snoc4] at e
  simp only [hibernacleref15_Get.l0]
  rw [if_pos (by omega),if_pos (by omega),wrapS (by omega),rdTN p q hql]
  by_cases hx:p[q].f0=i
  ·rw [if_pos hx] at e ⊢
   exact e
  ·rw [if_neg hx] at e ⊢
   exact e
theorem rget_many (b:List ByteArray) (p:List S27) (a i:Int) (hp:p.length≤1000) (k:Nat) (hk:p.length + 1<k) :
  hibernacleref15_Get.f k b p a i=some (if i<0∨(b.length:Int)≤i then (⟨#[]⟩,2) else (getV b p i,0)):=by
 obtain ⟨k,rfl⟩:∃ m,k=m + 1:=⟨k - 1,by omega⟩
 unfold hibernacleref15_Get.f
 simp only [hibernacleref15_Get.j0]
 by_cases h0:i<0
 ·simp [h0]
 ·by_cases h1:(b.length:Int)≤i
  ·simp [h0,h1]
  ·rw [if_neg h0,if_neg (by simpa using h1),if_pos (by omega),if_pos (by omega),if_neg (by simp [h0,h1])]
   have:=rget_l0 b p a i hp p.length k 0 (by omega) (by omega)
   rw [List.take_zero,getV_nil] at this
   exact this
theorem rput_many (b:List ByteArray) (p:List S27) (a i:Int) (data:ByteArray) (hp:p.length≤1000) (k:Nat) (hk:1<k) :
  hibernacleref15_Put.f k b p a i data=some (putV b p a i data):=by
 obtain ⟨k,rfl⟩:∃ m,k=m + 1:=⟨k - 1,by omega⟩
 unfold hibernacleref15_Put.f putV lookV lessV
 simp only [hibernacleref15_Put.j0,hibernacleref15_less.f]
 by_cases h0:i<0
 ·simp [h0]
 ·by_cases h1:(b.length:Int)≤i
  ·simp [h0,h1]
  ·rw [if_neg h0,if_neg (by simpa using h1),if_neg (show ¬ (i<0∨(b.length:Int)≤i) by simp [h0,h1])]
   by_cases h2:(data.size:Int)=128
   ·rw [if_pos h2,if_neg (show ¬ ((data.size:Int)≠128) by simp [h2]),if_pos rfl]
    by_cases h3:a=0
    ·rw [if_pos h3,if_pos h3]
    ·rw [if_neg h3,if_neg h3]
     simp only [Option.bind_some,List.length_nil,Nat.zero_add,List.nil_append]
     rw [if_pos (by omega),if_pos (by omega)]
     by_cases h4:a > 0
     ·rw [if_pos h4,if_pos h4]
      rfl
     ·rw [if_neg h4,if_neg h4]
      rfl
   ·rw [if_neg h2,if_pos h2,if_neg (by decide)]
theorem rflush_l0 (b:List ByteArray) (p:List S27) (a:Int) (hb:b.length≤256) (hp:p.length≤1000) (d:Nat):∀ k q,q + d=b.length→d + p.length + 2<k →
  hibernacleref15_Flush.l0 k ((List.range q).map fun j:Nat=>getV b p (j:Int)) (q:Int) b p a=some ((List.range b.length).map fun j:Nat=>getV b p (j:Int),[],lessV a,0):=by
 induction d with
 | zero=>
  intro k q hq hk
  obtain ⟨k,rfl⟩:∃ m,k=m + 1:=⟨k - 1,by omega⟩
  simp only [hibernacleref15_Flush.l0,hibernacleref15_less.f]
  rw [if_neg (by omega),show q=b.length by omega]
  unfold lessV
  by_cases h4:a > 0
  ·rw [if_pos h4,if_pos h4];rfl
  ·rw [if_neg h4,if_neg h4];rfl
 | succ d ih=>
  intro k q hq hk
  obtain ⟨k,rfl⟩:∃ m,k=m + 1:=⟨k - 1,by omega⟩
  have e:=ih k (q + 1) (by omega) (by omega)
  rw [List.range_succ,List.map_append] at e
  simp only [hibernacleref15_Flush.l0]
  rw [if_pos (by omega),rget_many b p a (q:Int) hp k (by omega),if_neg (by omega),Option.bind_some,if_pos (by simp;omega),wrapS (by omega)]
  exact e
theorem list_rd (l m:List ByteArray) (h:l.length=m.length) (hr:∀ i:Nat,i<m.length→rdOf ByteArray.empty l (i:Int)=rdOf ByteArray.empty m (i:Int)):l=m:=by
 apply List.ext_getElem h
 intro i h1 h2
 have:=hr i h2
 rw [rdN l i h1,rdN m i h2] at this
 exact this
theorem rflush_many (b:List ByteArray) (p:List S27) (a:Int) (hv:Valid b p) (hp:p.length≤1000) (k:Nat) (hk:b.length + p.length + 2<k):hibernacleref15_Flush.f k b p a=some (flushV b p a):=by
 unfold hibernacleref15_Flush.f flushV
 by_cases h0:a=0
 ·rw [if_pos h0,if_pos h0]
 ·rw [if_neg h0,if_neg h0]
  have:=rflush_l0 b p a hv.1 hp b.length k 0 (by omega) (by omega)
  rw [List.range_zero,List.map_nil] at this
  rw [show ((0:Nat):Int)=0 from rfl] at this
  rw [this]
  obtain ⟨z1,z2,z3⟩:=land_whole p 0 b hv
  congr 2
  apply list_rd
  ·simp [z1]
  ·intro i hi
   rw [z1] at hi
   rw [z3 i (by omega) (by omega),rdN _ i (by simp;omega)]
   simp
end Go.Proofs.Ytjfmnkmgnbbfgaa.A
