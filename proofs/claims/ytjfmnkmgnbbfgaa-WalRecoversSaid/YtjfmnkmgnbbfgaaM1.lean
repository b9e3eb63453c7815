/- wal.may: why writes of a volume may not be; a set of numbers kept as map[int]bool. -/
import Derived.Test.YtjfmnkmgnbbfgaaC1
import Derived.MapKept
import Derived.Maps.Own
import Derived.Maps.OwnOps
set_option linter.unusedVariables false
set_option linter.unusedSimpArgs false
namespace Go.Proofs.Ytjfmnkmgnbbfgaa.A
open Go.RowKit Go.Proofs.YtjfmnkmgnbbfgaaW.PrintWords Go.Proofs.YtjfmnkmgnbbfgaaW.PrintLast Go.Proofs.YtjfmnkmgnbbfgaaW.PrintMore
def mayL (n:Int):List Int→List S27→Int
 | _,[]=>0
 | seen,x :: xs=>if x.f0<0∨n≤x.f0 then 2 else if x.f1.size=128 then if x.f0 ∈ seen then 8 else mayL n (seen ++ [x.f0]) xs else 3
def mayV (l:List S27) (n:Int):Int:=if 32<l.length then 6 else mayL n [] l
def SeenMap (w:World) (g:Nat) (S:List Int):Prop:=∃ es clock,w.heap[g]?=some (.map es clock)∧es.toList.map (·.key)=S.map (Value.int .i64)∧∀ x ∈ es.toList,x.val=.bool true
theorem seen_keys {es:Array MapEntry} {S:List Int} (hk:es.toList.map (·.key)=S.map (Value.int .i64)):∀ x ∈ es.toList,Go.MapKept.IsKey (.int .i64) x.key:=by
 intro x hx
 have:x.key ∈ S.map (Value.int .i64):=by rw [← hk];exact List.mem_map_of_mem hx
 obtain ⟨y,_,hy⟩:=List.mem_map.1 this
 rw [← hy];rfl
theorem seen_mem {es:Array MapEntry} {S:List Int} (hk:es.toList.map (·.key)=S.map (Value.int .i64)) (n:Int):n ∈ S↔∃ x ∈ es.toList,x.key=.int .i64 n:=by
 constructor
 ·intro h
  have:Value.int .i64 n ∈ es.toList.map (·.key):=by rw [hk];exact List.mem_map_of_mem h
  obtain ⟨x,hx,e⟩:=List.mem_map.1 this
  exact ⟨x,hx,e⟩
 ·rintro ⟨x,hx,e⟩
  have:x.key ∈ S.map (Value.int .i64):=by rw [← hk];exact List.mem_map_of_mem hx
  obtain ⟨y,hy,e2⟩:=List.mem_map.1 this
  rw [e] at e2
  cases e2
  exact hy
theorem seen_lookup {w:World} {g:Nat} {S:List Int} (h:SeenMap w g S) (n:Int):(Instr.lookup 117 (.map (some g)) (.int .i64 n) false).run Try.prog w=.ok (.bool (decide (n ∈ S))) w:=by
 obtain ⟨es,clock,hb,hk,hv⟩:=h
 have hz:(zeroValue 4).run Try.prog w=.ok (.bool false) w:=by kernel_rfl
 have hm:=Try.underlying117
 have hd:=Try.underlying3
 have hkey:Go.MapKept.IsKey (.int .i64) (.int .i64 n):=rfl
 rcases Go.MapKept.findNow_spec hkey es.toList 0 (seen_keys hk) with ⟨h1,h2⟩ |⟨j,e,h1,h2,h3⟩
 ·have hn:n ∉ S:=fun h=>by
   obtain ⟨x,hx,e⟩:=(seen_mem hk n).1 h
   exact h2 x hx e
  simp [Instr.lookup,run_underlying hm,Go.MapKept.run_getObj_map hb,Go.MapKept.run_checkKey hd hkey,Go.MapKept.run_findKey hd h1,hz,Result.andThen,hn]
 ·have hmem:e ∈ es.toList:=List.mem_of_getElem? h2
  have hn:n ∈ S:=(seen_mem hk n).2 ⟨e,hmem,h3⟩
  simp [Instr.lookup,run_underlying hm,Go.MapKept.run_getObj_map hb,Go.MapKept.run_checkKey hd hkey,Go.MapKept.run_findKey hd h1,Result.andThen,hn,hv e hmem]
theorem seen_update {w:World} {g:Nat} {S:List Int} (h:SeenMap w g S) (n:Int) (hn:n ∉ S):∃ w',(Instr.mapUpdate 117 (.map (some g)) (.int .i64 n) (.bool true)).run Try.prog w=.ok () w'∧SeenMap w' g (S ++ [n])∧(∀ B,B≤g→Below B w w')∧(∀ k,k≠g→w'.heap[k]?=w.heap[k]?):=by
 obtain ⟨es,clock,hb,hk,hv⟩:=h
 have hm:=Try.underlying117
 have hd:=Try.underlying3
 have hkey:Go.MapKept.IsKey (.int .i64) (.int .i64 n):=rfl
 rcases Go.MapKept.findNow_spec hkey es.toList 0 (seen_keys hk) with ⟨h1,h2⟩ |⟨j,e,h1,h2,h3⟩
 ·refine ⟨{ w with heap:=w.heap.setIfInBounds g (.map (es.push { key:=.int .i64 n,val:=.bool true,born:=clock }) (clock + 1)) }, ?_,⟨_,_,(Go.MapKept.heap_set hb).1, ?_, ?_⟩, ?_,(Go.MapKept.heap_set hb).2⟩
  ·simp [Instr.mapUpdate,run_underlying hm,Go.MapKept.run_getObj_map hb,Go.MapKept.run_checkKey hd hkey,Go.MapKept.run_findKey hd h1,Go.MapKept.run_setObj_map _ hb,Result.andThen]
  ·simp only [Array.toList_push,List.map_append,hk,List.map_cons,List.map_nil]
  ·intro x hx
   simp only [Array.toList_push,List.mem_append,List.mem_singleton] at hx
   rcases hx with hx |rfl
   ·exact hv x hx
   ·rfl
  ·intro B hB
   exact ⟨rfl,rfl,rfl,by simp,fun k hk=>(Go.MapKept.heap_set hb).2 k (by omega)⟩
 ·exact absurd ((seen_mem hk n).2 ⟨e,List.mem_of_getElem? h2,h3⟩) hn
section
variable {P:Program} {ops:Array Oper} {rest:List Oper} {o:Oper} {a:Act} {w:World} {Q:Exit→Act→World→Prop} {g:Nat} {S:List Int} {n:Int}
theorem wpList_seen_lookup (hg:o.guard=none) (m x:Operand) (hop:o.op=Op.lookup 117 m x false) (hm:a.eval m=.map (some g)) (hx:a.eval x=.int .i64 n) (h:SeenMap w g S) (N:Option Tmp) (hd:o.dst=N) (b:Bool) (hb:decide (n ∈ S)=b)
  (hK:wpList Try.prog ops Q rest (a.put N (.bool b)) w):wpList Try.prog ops Q (o :: rest) a w:=by
 refine wpList_plain hg fun K' hK'=>?_
 have hr:=seen_lookup h n
 rw [hb] at hr
 unfold Oper.wp
 simp [execOp,hop,hm,hx,hr,Result.andThen]
 subst hd
 exact hK' _ _ hK
theorem wpList_seen_update (hg:o.guard=none) (m x v:Operand) (hop:o.op=Op.mapUpdate 117 m x v) (hm:a.eval m=.map (some g)) (hx:a.eval x=.int .i64 n) (hv:a.eval v=.bool true) (h:SeenMap w g S) (hn:n ∉ S) (N:Option Tmp) (hd:o.dst=N)
  (hK:∀ w',SeenMap w' g (S ++ [n])→(∀ B,B≤g→Below B w w')→(∀ k,k≠g→w'.heap[k]?=w.heap[k]?)→wpList Try.prog ops Q rest (a.put N undef) w'):wpList Try.prog ops Q (o :: rest) a w:=by
 refine wpList_plain hg fun K' hK'=>?_
 obtain ⟨w',hrun,r1,r2,r3⟩:=seen_update h n hn
 unfold Oper.wp
 simp [execOp,hop,hm,hx,hv,hrun,Result.andThen]
 subst hd
 exact hK' _ _ (hK w' r1 r2 r3)
end
theorem SeenMap.lt {w:World} {g:Nat} {S:List Int} (h:SeenMap w g S):g<w.heap.size:=by
 obtain ⟨es,clock,hb,_⟩:=h
 exact (Array.getElem?_eq_some_iff.1 hb).1
theorem SeenMap.below {w w1:World} {g:Nat} {S:List Int} (h:SeenMap w g S) (hb:Below w.heap.size w w1):SeenMap w1 g S:=by
 have hl:=h.lt
 obtain ⟨es,clock,h1,h2⟩:=h
 exact ⟨es,clock,(hb.block g hl).trans h1,h2⟩
theorem SeenMap.far {w:World} {g:Nat} {S:List Int} (h:SeenMap w g S) {p:Addr} (hp:g≠p.block) (u:Value):SeenMap (w.setCell p u) g S:=by
 obtain ⟨es,clock,h1,h2⟩:=h
 exact ⟨es,clock,(Below.heap_setCell w p u g hp).trans h1,h2⟩
theorem map_take_succ (l:List S27) (j:Nat) (hj:j<l.length):(l.take (j + 1)).map (·.f0)=(l.take j).map (·.f0) ++ [l[j].f0]:=by
 rw [← List.take_append_getElem hj,List.map_append];rfl
set_option maxHeartbeats 4000000 in
set_option maxRecDepth 100000 in
theorem may_walk (A:Option Addr) (c:Nat) (l:List S27) (n:Int) (w:World) (hl:Kd.C k27 w A l.length l) (hc:l.length≤c) :
  Calls Try.prog 66 #[.slice A l.length c,.int .i64 n] w fun e w'=>e=.returned (.int .i64 (mayV l n))∧Below w.heap.size w w':=by
 have hu27:=Try.underlying27
 have hmm:=@run_makeMap Try.prog
 have HL:=Aside0.mk hl
 clear hl
 go_enter Try.func66,Try.ntmps66
 by_cases h32:32<l.length
 ·have h32b:decide ((l.length:Int) > 32)=true:=decide_eq_true (by omega)
  have h32c:(32:Int)<l.length:=by omega
  go_wp2
  go_ret
  rw [mayV,if_pos h32]
  exact ⟨rfl,Below.refl _ _⟩
 ·have h32c:¬ (32:Int)<l.length:=by omega
  go_wp2
  have hS0:SeenMap (w.alloc (.map #[] 0)) w.heap.size []:=⟨#[],0,(Go.MapKept.heap_alloc _ _).1,rfl,fun x hx=>absurd hx (by simp)⟩
  go_loopw [14] (fun i wr=>∃ j:Nat,j≤l.length∧i=.int .i64 (j:Int)∧Aside0 (mayL n ((l.take j).map (·.f0)) (l.drop j)=mayL n [] l)∧Aside0 (SeenMap wr w.heap.size ((l.take j).map (·.f0)))∧Aside0 (Below w.heap.size w wr)) (fun i _=>l.length - (intOf i).toNat)
  case atStart=>exact ⟨0,Nat.zero_le _,rfl,⟨rfl⟩,⟨hS0⟩,⟨below_alloc (Below.refl _ _) _⟩⟩
  case round=>
   clear hS0
   obtain ⟨j,hj,rfl,HV,HS,HB⟩:=hrel
   by_cases hlt:j<l.length
   ·have hjl:(j:Int)<l.length:=by omega
    have hjr:(j:Int)≤140737488355328:=by omega
    obtain ⟨ad,rfl,g0,g1⟩:=at_T27 (Kd.C_below HL.out HB.out) (j:Int) (by omega) (by omega)
    rw [show rd_T27 l (j:Int)=l[j] from rdTN l j hlt] at g0 g1
    have hV:=HV.out
    rw [List.drop_eq_getElem_cons hlt,mayL] at hV
    have hsnoc:=map_take_succ l j hlt
    obtain ⟨x,hx⟩:∃ x,x=l[j]:=⟨_,rfl⟩
    rw [← hx] at g0 g1 hV hsnoc
    simp only [Int.toNat_natCast] at g0 g1
    have HN:=Aside0.mk hsnoc
    have HV:=Aside0.mk hV
    have hlt0:=HS.out.lt
    clear hx hV hsnoc
    by_cases hneg:x.f0<0
    ·have hv:=HV.out
     rw [if_pos (.inl hneg)] at hv
     go_wp2_with (first
      | ((with_reducible refine gate_dst (N:=7) rfl ?_);refine box_event ?hg (N:=7) ?hd (cs:=#[.int .i64 0,.string ⟨#[]⟩]) (t:=27) ?hr ?_;(case hd=>rfl);(case hg=>rfl);(case hr=>first |(go_simp;done) |(go_simp;rfl));intro b7 hb7 w7 hx7 hl7;have m0:=(blk_cell hx7 0).trans rfl;have m1:=(blk_cell hx7 1).trans rfl;have g7:w.heap.size≤b7:=(by rw [hb7];exact HB.out.size);have n7:w.heap.size≠b7:=(by rw [hb7];exact Nat.ne_of_lt hlt0);have f0:=blk_frozen hx7 0;have f1:=blk_frozen hx7 1;have HS7:=Aside0.mk (HS.out.below hl7);have HB7:=Aside0.mk (below_step HB.out hl7);have HX7:=Aside0.mk hx7;clear hx7 hl7 hb7)
      | (at_lookup;refine wpList_seen_lookup (n:=x.f0) (g:=w.heap.size) (S:=(l.take j).map (·.f0)) rfl (.tmp 34) (.tmp 36) rfl rfl rfl ((HS7.out.far (p:=⟨b7,0,none⟩) n7 _).far (p:=⟨b7,1,none⟩) n7 _) (some 37) rfl false (by assumption) ?_)
      | (at_mapUpdate;refine wpList_seen_update (n:=x.f0) (g:=w.heap.size) (S:=(l.take j).map (·.f0)) rfl (.tmp 38) (.tmp 40) _ rfl rfl rfl rfl ((HS7.out.far (p:=⟨b7,0,none⟩) n7 _).far (p:=⟨b7,1,none⟩) n7 _) hin none rfl ?_;intro w9 hs9 hb9 hk9;have HS9:=Aside0.mk hs9;have HB9:=Aside0.mk (((HB7.out.setCell (p:=⟨b7,0,none⟩) g7 (.int .i64 x.f0)).setCell (p:=⟨b7,1,none⟩) g7 (.string x.f1)).trans (hb9 _ (Nat.le_refl _)));clear hs9 hb9 hk9)
      | fail)
     go_ret
     rw [mayV,if_neg h32,← hv]
     exact ⟨rfl,(HB7.out.setCell (p:=⟨b7,0,none⟩) g7 (.int .i64 x.f0)).setCell (p:=⟨b7,1,none⟩) g7 (.string x.f1)⟩
    ·by_cases hbig:n≤x.f0
     ·have hv:=HV.out
      rw [if_pos (.inr hbig)] at hv
      go_wp2_with (first
       | ((with_reducible refine gate_dst (N:=7) rfl ?_);refine box_event ?hg (N:=7) ?hd (cs:=#[.int .i64 0,.string ⟨#[]⟩]) (t:=27) ?hr ?_;(case hd=>rfl);(case hg=>rfl);(case hr=>first |(go_simp;done) |(go_simp;rfl));intro b7 hb7 w7 hx7 hl7;have m0:=(blk_cell hx7 0).trans rfl;have m1:=(blk_cell hx7 1).trans rfl;have g7:w.heap.size≤b7:=(by rw [hb7];exact HB.out.size);have n7:w.heap.size≠b7:=(by rw [hb7];exact Nat.ne_of_lt hlt0);have f0:=blk_frozen hx7 0;have f1:=blk_frozen hx7 1;have HS7:=Aside0.mk (HS.out.below hl7);have HB7:=Aside0.mk (below_step HB.out hl7);have HX7:=Aside0.mk hx7;clear hx7 hl7 hb7)
       | (at_lookup;refine wpList_seen_lookup (n:=x.f0) (g:=w.heap.size) (S:=(l.take j).map (·.f0)) rfl (.tmp 34) (.tmp 36) rfl rfl rfl ((HS7.out.far (p:=⟨b7,0,none⟩) n7 _).far (p:=⟨b7,1,none⟩) n7 _) (some 37) rfl false (by assumption) ?_)
       | (at_mapUpdate;refine wpList_seen_update (n:=x.f0) (g:=w.heap.size) (S:=(l.take j).map (·.f0)) rfl (.tmp 38) (.tmp 40) _ rfl rfl rfl rfl ((HS7.out.far (p:=⟨b7,0,none⟩) n7 _).far (p:=⟨b7,1,none⟩) n7 _) hin none rfl ?_;intro w9 hs9 hb9 hk9;have HS9:=Aside0.mk hs9;have HB9:=Aside0.mk (((HB7.out.setCell (p:=⟨b7,0,none⟩) g7 (.int .i64 x.f0)).setCell (p:=⟨b7,1,none⟩) g7 (.string x.f1)).trans (hb9 _ (Nat.le_refl _)));clear hs9 hb9 hk9)
       | fail)
      go_ret
      rw [mayV,if_neg h32,← hv]
      exact ⟨rfl,(HB7.out.setCell (p:=⟨b7,0,none⟩) g7 (.int .i64 x.f0)).setCell (p:=⟨b7,1,none⟩) g7 (.string x.f1)⟩
     ·have hv:=HV.out
      rw [if_neg (by omega)] at hv
      by_cases hsz:x.f1.size=128
      ·rw [if_pos hsz] at hv
       have hszb:((x.f1.size:Int) != 128)=false:=by rw [hsz];rfl
       by_cases hin:x.f0 ∈ (l.take j).map (·.f0)
       ·rw [if_pos hin] at hv
        have hind:decide (x.f0 ∈ (l.take j).map (·.f0))=true:=decide_eq_true hin
        go_wp2_with (first
         | ((with_reducible refine gate_dst (N:=7) rfl ?_);refine box_event ?hg (N:=7) ?hd (cs:=#[.int .i64 0,.string ⟨#[]⟩]) (t:=27) ?hr ?_;(case hd=>rfl);(case hg=>rfl);(case hr=>first |(go_simp;done) |(go_simp;rfl));intro b7 hb7 w7 hx7 hl7;have m0:=(blk_cell hx7 0).trans rfl;have m1:=(blk_cell hx7 1).trans rfl;have g7:w.heap.size≤b7:=(by rw [hb7];exact HB.out.size);have n7:w.heap.size≠b7:=(by rw [hb7];exact Nat.ne_of_lt hlt0);have f0:=blk_frozen hx7 0;have f1:=blk_frozen hx7 1;have HS7:=Aside0.mk (HS.out.below hl7);have HB7:=Aside0.mk (below_step HB.out hl7);have HX7:=Aside0.mk hx7;clear hx7 hl7 hb7)
         | (at_lookup;refine wpList_seen_lookup (n:=x.f0) (g:=w.heap.size) (S:=(l.take j).map (·.f0)) rfl (.tmp 34) (.tmp 36) rfl rfl rfl ((HS7.out.far (p:=⟨b7,0,none⟩) n7 _).far (p:=⟨b7,1,none⟩) n7 _) (some 37) rfl true hind ?_)
         | (at_mapUpdate;refine wpList_seen_update (n:=x.f0) (g:=w.heap.size) (S:=(l.take j).map (·.f0)) rfl (.tmp 38) (.tmp 40) _ rfl rfl rfl rfl ((HS7.out.far (p:=⟨b7,0,none⟩) n7 _).far (p:=⟨b7,1,none⟩) n7 _) hin none rfl ?_;intro w9 hs9 hb9 hk9;have HS9:=Aside0.mk hs9;have HB9:=Aside0.mk (((HB7.out.setCell (p:=⟨b7,0,none⟩) g7 (.int .i64 x.f0)).setCell (p:=⟨b7,1,none⟩) g7 (.string x.f1)).trans (hb9 _ (Nat.le_refl _)));clear hs9 hb9 hk9)
         | fail)
        go_ret
        rw [mayV,if_neg h32,← hv]
        exact ⟨rfl,(HB7.out.setCell (p:=⟨b7,0,none⟩) g7 (.int .i64 x.f0)).setCell (p:=⟨b7,1,none⟩) g7 (.string x.f1)⟩
       ·rw [if_neg hin] at hv
        have hind:decide (x.f0 ∈ (l.take j).map (·.f0))=false:=decide_eq_false hin
        have HVV:=Aside0.mk hv
        clear hv
        go_wp2_with (first
         | ((with_reducible refine gate_dst (N:=7) rfl ?_);refine box_event ?hg (N:=7) ?hd (cs:=#[.int .i64 0,.string ⟨#[]⟩]) (t:=27) ?hr ?_;(case hd=>rfl);(case hg=>rfl);(case hr=>first |(go_simp;done) |(go_simp;rfl));intro b7 hb7 w7 hx7 hl7;have m0:=(blk_cell hx7 0).trans rfl;have m1:=(blk_cell hx7 1).trans rfl;have g7:w.heap.size≤b7:=(by rw [hb7];exact HB.out.size);have n7:w.heap.size≠b7:=(by rw [hb7];exact Nat.ne_of_lt hlt0);have f0:=blk_frozen hx7 0;have f1:=blk_frozen hx7 1;have HS7:=Aside0.mk (HS.out.below hl7);have HB7:=Aside0.mk (below_step HB.out hl7);have HX7:=Aside0.mk hx7;clear hx7 hl7 hb7)
         | (at_lookup;refine wpList_seen_lookup (n:=x.f0) (g:=w.heap.size) (S:=(l.take j).map (·.f0)) rfl (.tmp 34) (.tmp 36) rfl rfl rfl ((HS7.out.far (p:=⟨b7,0,none⟩) n7 _).far (p:=⟨b7,1,none⟩) n7 _) (some 37) rfl false hind ?_)
         | (at_mapUpdate;refine wpList_seen_update (n:=x.f0) (g:=w.heap.size) (S:=(l.take j).map (·.f0)) rfl (.tmp 38) (.tmp 40) _ rfl rfl rfl rfl ((HS7.out.far (p:=⟨b7,0,none⟩) n7 _).far (p:=⟨b7,1,none⟩) n7 _) hin none rfl ?_;intro w9 hs9 hb9 hk9;have HS9:=Aside0.mk hs9;have HB9:=Aside0.mk (((HB7.out.setCell (p:=⟨b7,0,none⟩) g7 (.int .i64 x.f0)).setCell (p:=⟨b7,1,none⟩) g7 (.string x.f1)).trans (hb9 _ (Nat.le_refl _)));clear hs9 hb9 hk9)
         | fail)
        go_roundw
        case rel=>
         refine ⟨j + 1,by omega,by simp,⟨?_⟩,⟨?_⟩,HB9⟩
         ·rw [HN.out];exact HVV.out
         ·rw [HN.out];exact HS9.out
        case measure=>simp only [intOf];omega
      ·rw [if_neg hsz] at hv
       have hszb:((x.f1.size:Int) != 128)=true:=bne_iff_ne.mpr (by omega)
       go_wp2_with (first
        | ((with_reducible refine gate_dst (N:=7) rfl ?_);refine box_event ?hg (N:=7) ?hd (cs:=#[.int .i64 0,.string ⟨#[]⟩]) (t:=27) ?hr ?_;(case hd=>rfl);(case hg=>rfl);(case hr=>first |(go_simp;done) |(go_simp;rfl));intro b7 hb7 w7 hx7 hl7;have m0:=(blk_cell hx7 0).trans rfl;have m1:=(blk_cell hx7 1).trans rfl;have g7:w.heap.size≤b7:=(by rw [hb7];exact HB.out.size);have n7:w.heap.size≠b7:=(by rw [hb7];exact Nat.ne_of_lt hlt0);have f0:=blk_frozen hx7 0;have f1:=blk_frozen hx7 1;have HS7:=Aside0.mk (HS.out.below hl7);have HB7:=Aside0.mk (below_step HB.out hl7);have HX7:=Aside0.mk hx7;clear hx7 hl7 hb7)
        | (at_lookup;refine wpList_seen_lookup (n:=x.f0) (g:=w.heap.size) (S:=(l.take j).map (·.f0)) rfl (.tmp 34) (.tmp 36) rfl rfl rfl ((HS7.out.far (p:=⟨b7,0,none⟩) n7 _).far (p:=⟨b7,1,none⟩) n7 _) (some 37) rfl false (by assumption) ?_)
        | (at_mapUpdate;refine wpList_seen_update (n:=x.f0) (g:=w.heap.size) (S:=(l.take j).map (·.f0)) rfl (.tmp 38) (.tmp 40) _ rfl rfl rfl rfl ((HS7.out.far (p:=⟨b7,0,none⟩) n7 _).far (p:=⟨b7,1,none⟩) n7 _) hin none rfl ?_;intro w9 hs9 hb9 hk9;have HS9:=Aside0.mk hs9;have HB9:=Aside0.mk (((HB7.out.setCell (p:=⟨b7,0,none⟩) g7 (.int .i64 x.f0)).setCell (p:=⟨b7,1,none⟩) g7 (.string x.f1)).trans (hb9 _ (Nat.le_refl _)));clear hs9 hb9 hk9)
        | fail)
       go_ret
       rw [mayV,if_neg h32,← hv]
       exact ⟨rfl,(HB7.out.setCell (p:=⟨b7,0,none⟩) g7 (.int .i64 x.f0)).setCell (p:=⟨b7,1,none⟩) g7 (.string x.f1)⟩
   ·obtain rfl:j=l.length:=by omega
    have hv:=HV.out
    rw [List.drop_of_length_le (Nat.le_refl _),mayL] at hv
    go_wp2
    go_ret
    rw [mayV,if_neg h32,← hv]
    exact ⟨rfl,HB.out⟩
end Go.Proofs.Ytjfmnkmgnbbfgaa.A
