/- Plain: the document's bad, May, Great, Long and Home are the program's. -/
import Derived.Test.YtjfmnkmgnbbfgaaA83
import Derived.Test.YtjfmnkmgnbbfgaaD3r
import Derived.Test.YtjfmnkmgnbbfgaaA26
import Derived.Test.YtjfmnkmgnbbfgaaA59
import Derived.Test.YtjfmnkmgnbbfgaaA72
set_option linter.unusedVariables false
set_option linter.unusedSimpArgs false
namespace Go.Proofs.Ytjfmnkmgnbbfgaa.A
open Go.RowKit Go.Proofs.YtjfmnkmgnbbfgaaW.PrintWords Go.Proofs.YtjfmnkmgnbbfgaaW.PrintLast Go.Proofs.YtjfmnkmgnbbfgaaW.PrintMore
theorem rbad_some (b:List ByteArray) (p:List S27) (a:Int) (hl:p.length≤1000) (k:Nat) (hk:b.length + 2 * p.length + 3<k):hibernacleref16_bad.f k b p a=some (badV b p):=by
 unfold hibernacleref16_bad.f badV
 rw [rcheck_many b p a hl k hk,Option.bind_some]
 by_cases h:checkV b p=0
 ·rw [if_pos h,if_pos h]
  by_cases h2:b.length≤33
  ·rw [if_pos h2,if_pos (by omega)]
  ·rw [if_neg h2,if_neg (by omega)]
 ·rw [if_neg h,if_neg h]
theorem great16_l1 (b:List ByteArray) (p:List S27) (a:Int) (hp:p.length≤60) (d:Nat):∀ k i,i + d=p.length→d<k →
  ∃ v,hibernacleref16_Great.l1 k (p.length:Int) (i:Int) b p a=some v∧(v=1∨v=0):=by
 induction d with
 | zero=>
  intro k i hi hk
  obtain ⟨k,rfl⟩:∃ m,k=m + 1:=⟨k - 1,by omega⟩
  simp only [hibernacleref16_Great.l1]
  rw [if_neg (by omega)]
  exact ⟨0,rfl,.inr rfl⟩
 | succ d ih=>
  intro k i hi hk
  obtain ⟨k,rfl⟩:∃ m,k=m + 1:=⟨k - 1,by omega⟩
  simp only [hibernacleref16_Great.l1]
  rw [if_pos (by omega),if_pos (by omega),if_pos (by omega),wrapS (by omega)]
  split
  ·exact ⟨1,rfl,.inl rfl⟩
  ·exact ih k (i + 1) (by omega) (by omega)
theorem great16_l0 (b:List ByteArray) (p:List S27) (a:Int) (hb:b.length≤80) (hp:p.length≤60) (d:Nat):∀ k i,i + d=b.length→d + 62<k →
  ∃ v,hibernacleref16_Great.l0 k (b.length:Int) (i:Int) b p a=some v∧(v=1∨v=0):=by
 induction d with
 | zero=>
  intro k i hi hk
  obtain ⟨k,rfl⟩:∃ m,k=m + 1:=⟨k - 1,by omega⟩
  simp only [hibernacleref16_Great.l0]
  rw [if_neg (by omega)]
  exact great16_l1 b p a hp p.length k 0 (by omega) (by omega)
 | succ d ih=>
  intro k i hi hk
  obtain ⟨k,rfl⟩:∃ m,k=m + 1:=⟨k - 1,by omega⟩
  simp only [hibernacleref16_Great.l0]
  rw [if_pos (by omega),if_pos (by omega),if_pos (by omega),wrapS (by omega)]
  split
  ·exact ⟨1,rfl,.inl rfl⟩
  ·exact ih k (i + 1) (by omega) (by omega)
theorem great16_some (b:List ByteArray) (p:List S27) (a:Int) (k:Nat) (hk:200<k):∃ v,hibernacleref16_Great.f k b p a=some v∧(v=1∨v=0∧b.length≤80∧p.length≤60):=by
 obtain ⟨k,rfl⟩:∃ m,k=m + 1:=⟨k - 1,by omega⟩
 unfold hibernacleref16_Great.f
 by_cases h1:(b.length:Int) > 80
 ·rw [if_pos h1]
  exact ⟨1,by simp only [hibernacleref16_Great.j0,if_true],.inl rfl⟩
 ·rw [if_neg h1]
  by_cases h2:(p.length:Int) > 60
  ·rw [decide_eq_true h2]
   exact ⟨1,by simp only [hibernacleref16_Great.j0,if_true],.inl rfl⟩
  ·rw [decide_eq_false h2]
   simp only [hibernacleref16_Great.j0,Bool.false_eq_true,if_false]
   obtain ⟨v,hv,hz⟩:=great16_l0 b p a (by omega) (by omega) b.length k 0 (by omega) (by omega)
   exact ⟨v,hv,hz.imp id (fun h=>⟨h,by omega,by omega⟩)⟩
theorem rhome_l0 (b:List ByteArray) (p:List S27) (a:Int) (hb:b.length≤256) (hp:p.length≤1000) (d:Nat):∀ k i,33 + i + d=b.length→d + p.length + 2<k →
  hibernacleref16_Home.l0 k ((List.range i).map fun j:Nat=>getV b p ((33 + j:Nat):Int)) ((33 + i:Nat):Int) b p a=some (volL b p):=by
 induction d with
 | zero=>
  intro k i hi hk
  obtain ⟨k,rfl⟩:∃ m,k=m + 1:=⟨k - 1,by omega⟩
  simp only [hibernacleref16_Home.l0]
  rw [if_neg (by omega),volL,show b.length - 33=i by omega]
 | succ d ih=>
  intro k i hi hk
  obtain ⟨k,rfl⟩:∃ m,k=m + 1:=⟨k - 1,by omega⟩
  have e:=ih k (i + 1) (by omega) (by omega)
  rw [List.range_succ,List.map_append] at e
  have hd:hibernacleref15_Get.f k b p a ((33 + i:Nat):Int)=some (getV b p ((33 + i:Nat):Int),0):=by rw [rget_many b p a _ hp k (by omega),if_neg (by omega)]
  simp only [hibernacleref16_Home.l0]
  rw [if_pos (by omega),hd,Option.bind_some,if_pos (by simp;omega),wrapS (by omega)]
  exact e
theorem rhome_some (b:List ByteArray) (p:List S27) (a:Int) (hp:p.length≤1000) (k:Nat) (hk:b.length + 2 * p.length + 3<k):hibernacleref16_Home.f k b p a=some (homeL b p):=by
 unfold hibernacleref16_Home.f homeL
 rw [rbad_some b p a hp k hk,Option.bind_some,Option.bind_some]
 by_cases h:badV b p=0
 ·rw [if_pos h,if_pos h]
  obtain ⟨hv,h3⟩:=badV_zero h
  exact rhome_l0 b p a hv.1 hp (b.length - 33) k 0 (by omega) (by omega)
 ·rw [if_neg h,if_neg h]
end Go.Proofs.Ytjfmnkmgnbbfgaa.A
