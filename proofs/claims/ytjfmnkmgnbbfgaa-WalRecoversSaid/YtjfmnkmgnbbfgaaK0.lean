/- The steps of a function that keeps a drive in one box and hands another box back. -/
import Derived.Test.YtjfmnkmgnbbfgaaC3
set_option linter.unusedVariables false
set_option linter.unusedSimpArgs false
namespace Go.Proofs.Ytjfmnkmgnbbfgaa.A
open Go.RowKit Go.Proofs.YtjfmnkmgnbbfgaaW.PrintWords Go.Proofs.YtjfmnkmgnbbfgaaW.PrintLast Go.Proofs.YtjfmnkmgnbbfgaaW.PrintMore
def OkQ (w:World) (ok:Nat→Prop) (bd br k:Nat):Prop:=(ok k∨w.heap.size≤k)∧k≠bd∧k≠br
structure St (w:World) (ok:Nat→Prop) (bd br:Nat) (W:World) (v0 v1:Value) (b:List ByteArray) (p:List S27) (a:Int):Prop where
 x:W.heap[bd]?=some (.cells #[v0,v1,.int .i64 a] 29 (0,0))
 r:W.heap[br]?=some (.cells #[.slice none 0 0,.slice none 0 0,.int .i64 0] 29 (0,0))
 d:Dr W (OkQ w ok bd br) v0 v1 b p
 bl:Below w.heap.size w W
 gd:w.heap.size≤bd
 gr:w.heap.size≤br
 ne:bd≠br
section
variable {w w1 W W1:World} {ok:Nat→Prop} {bd br:Nat} {v0 v1 u0 u1:Value} {b b1:List ByteArray} {p p1:List S27} {a a1:Int}
theorem St.start (hd:Dr w ok v0 v1 b p) (hx:w1.heap[bd]?=some (.cells #[v0,v1,.int .i64 a] 29 (0,0))) (h1:Below w.heap.size w w1) (e1:bd=w.heap.size)
  (hr:W.heap[br]?=some (.cells #[.slice none 0 0,.slice none 0 0,.int .i64 0] 29 (0,0))) (h2:Below w1.heap.size w1 W) (e2:br=w1.heap.size):St w ok bd br W v0 v1 b p a:=by
 have s1:=h1.size
 have s2:=blk_lt hx
 exact ⟨blk_below hx h2,hr,(hd.bound.below (below_step h1 h2)).mono (fun k hk=>⟨.inl hk.1,by have:=hk.2;omega,by have:=hk.2;omega⟩),below_step h1 h2,by omega,by omega,by omega⟩
theorem St.below (h:St w ok bd br W v0 v1 b p a) (hb:Below W.heap.size W W1):St w ok bd br W1 v0 v1 b p a:=
 ⟨blk_below h.x hb,blk_below h.r hb,h.d.below hb,below_step h.bl hb,h.gd,h.gr,h.ne⟩
theorem St.okq (h:St w ok bd br W v0 v1 b p a) (hD:Dr W1 (fun k=>OkQ w ok bd br k∨W.heap.size≤k) u0 u1 b1 p1):Dr W1 (OkQ w ok bd br) u0 u1 b1 p1:=
 hD.mono (fun k hk=>hk.elim id (fun hk=>⟨.inr (Nat.le_trans h.bl.size hk),by have:=blk_lt h.x;omega,by have:=blk_lt h.r;omega⟩))
theorem St.put3 (h:St w ok bd br W v0 v1 b p a) (hb:Below W.heap.size W W1) (hD:Dr W1 (fun k=>OkQ w ok bd br k∨W.heap.size≤k) u0 u1 b1 p1) (a1:Int) :
  St w ok bd br (((W1.setCell ⟨bd,0,none⟩ u0).setCell ⟨bd,1,none⟩ u1).setCell ⟨bd,2,none⟩ (.int .i64 a1)) u0 u1 b1 p1 a1:=
 ⟨blk_put (blk_put (blk_put (blk_below h.x hb) 0 _ rfl) 1 _ rfl) 2 _ rfl,blk_far (blk_far (blk_far (blk_below h.r hb) h.ne.symm _) h.ne.symm _) h.ne.symm _,
  (h.okq hD).set3 (fun k hk=>hk.2.1) _ _ _,below_set3 (below_step h.bl hb) h.gd _ _ _,h.gd,h.gr,h.ne⟩
theorem St.outb (h:St w ok bd br W v0 v1 b p a) (x y z:Value):(((W.setCell ⟨br,0,none⟩ x).setCell ⟨br,1,none⟩ y).setCell ⟨br,2,none⟩ z).heap[br]?=some (.cells #[x,y,z] 29 (0,0)):=
 blk_put (blk_put (blk_put h.r 0 _ rfl) 1 _ rfl) 2 _ rfl
theorem St.out (h:St w ok bd br W v0 v1 b p a) (x y z:Value) (e:Int):DoOut w (((W.setCell ⟨br,0,none⟩ x).setCell ⟨br,1,none⟩ y).setCell ⟨br,2,none⟩ z) ok (.returned (.tuple #[.agg #[v0,v1,.int .i64 a],.int .i64 e])) (b,p,a,e):=
 ⟨v0,v1,rfl,(h.d.set3 (fun k hk=>hk.2.2) _ _ _).mono (fun k hk=>hk.1),below_set3 h.bl h.gr _ _ _⟩
theorem St.outc (h:St w ok bd br W v0 v1 b p a) (hb:Below W.heap.size W W1) (hD:Dr W1 (fun k=>OkQ w ok bd br k∨W.heap.size≤k) u0 u1 b1 p1) (x y z:Value) (a1 e:Int) :
  DoOut w (((W1.setCell ⟨br,0,none⟩ x).setCell ⟨br,1,none⟩ y).setCell ⟨br,2,none⟩ z) ok (.returned (.tuple #[.agg #[u0,u1,.int .i64 a1],.int .i64 e])) (b1,p1,a1,e):=
 ⟨u0,u1,rfl,((h.okq hD).set3 (fun k hk=>hk.2.2) _ _ _).mono (fun k hk=>hk.1),below_set3 (below_step h.bl hb) h.gr _ _ _⟩
end
theorem DoOut.of {w w':World} {ok:Nat→Prop} {e:Ending} {r1:List ByteArray} {r2:List S27} {r3 r4:Int} {base:Nat}
  (h:∃ v0 v1:Value,e=.returned (.tuple #[.agg #[v0,v1,.int .i64 r3],.int .i64 r4])∧Kd.V Kd.string 9 w' base (fun k=>(ok k∨ok k)∨w.heap.size≤k) v0 r1∧Kd.V k27 27 w' base (fun k=>(ok k∨ok k)∨w.heap.size≤k) v1 r2∧Below w.heap.size w w') :
  DoOut w w' ok e (r1,r2,r3,r4):=by
 obtain ⟨v0,v1,rfl,h0,h1,hb⟩:=h
 exact ⟨v0,v1,rfl,⟨Kd.V_mono h0 (fun k hk=>hk.imp (fun h=>h.elim id id) id),Kd.V_mono h1 (fun k hk=>hk.imp (fun h=>h.elim id id) id)⟩,hb⟩
end Go.Proofs.Ytjfmnkmgnbbfgaa.A
