/- wal.put: the calls of a drive, as values; what such a call is worth. -/
import Derived.Test.YtjfmnkmgnbbfgaaBa
set_option linter.unusedVariables false
set_option linter.unusedSimpArgs false
namespace Go.Proofs.Ytjfmnkmgnbbfgaa.A
open Go.RowKit Go.Proofs.YtjfmnkmgnbbfgaaW.PrintWords Go.Proofs.YtjfmnkmgnbbfgaaW.PrintLast Go.Proofs.YtjfmnkmgnbbfgaaW.PrintMore
/-- a call: a put, or a flush -/
inductive CallV where
  | put (i : Int) (s : ByteArray)
  | flush
/-- its value -/
def FnIs (w : World) (ok : Nat → Prop) (v : Value) : CallV → Prop
  | .put i s => ∃ b1 b2, v = .func (.func 99) #[] #[.pointer (some ⟨b1, 0, none⟩), .pointer (some ⟨b2, 0, none⟩)] ∧ w.heap[b1]? = some (.cells #[.int .i64 i] 3 (0, 0)) ∧ w.heap[b2]? = some (.cells #[.string s] 9 (0, 0)) ∧ ok b1 ∧ ok b2
  | .flush => v = .func (.func 40) #[] #[]
theorem FnIs.move {w w1 : World} {ok ok' : Nat → Prop} {v : Value} {x : CallV} (h : FnIs w ok v x) (hm : ∀ k, ok k → k < w.heap.size → w1.heap[k]? = w.heap[k]?) (ho : ∀ k o, ok k → w.heap[k]? = some o → (∃ cells q, (q = 3 ∨ q = 9) ∧ o = .cells cells q (0, 0)) → ok' k) : FnIs w1 ok' v x := by
  cases x with
  | flush => exact h
  | put i s =>
    obtain ⟨b1, b2, rfl, h1, h2, o1, o2⟩ := h
    exact ⟨b1, b2, rfl, (hm b1 o1 (blk_lt h1)).trans h1, (hm b2 o2 (blk_lt h2)).trans h2, ho b1 _ o1 h1 ⟨_, 3, .inl rfl, rfl⟩, ho b2 _ o2 h2 ⟨_, 9, .inr rfl, rfl⟩⟩
def kcall : Kd CallV where
  sz := 1
  E := [3, 9]
  K := fun w x cs => ∃ v, cs = [v] ∧ FnIs w (fun _ => True) v x
  M := fun w base ok x cs => ∃ v, cs = [v] ∧ FnIs w (fun k => ok k ∧ base ≤ k) v x
  K_len := by
    rintro w x cs ⟨v, rfl, _⟩
    rfl
  K_one := by
    rintro w x cs ⟨v, rfl, h⟩ u hu
    obtain rfl := List.mem_singleton.1 hu
    cases x with
    | flush => rw [show u = _ from h]; rfl
    | put i s =>
      obtain ⟨b1, b2, rfl, _⟩ := h
      rfl
  K_below := by
    rintro w w1 x cs hb ⟨v, rfl, h⟩
    exact ⟨v, rfl, h.move (fun k _ hk => hb.block k hk) (fun _ _ _ _ _ => trivial)⟩
  K_of_M := by
    rintro w base ok x cs ⟨v, rfl, h⟩
    exact ⟨v, rfl, h.move (fun _ _ _ => rfl) (fun _ _ _ _ _ => trivial)⟩
  M_mono := by
    rintro w base ok ok' x cs hok ⟨v, rfl, h⟩
    exact ⟨v, rfl, h.move (fun _ _ _ => rfl) (fun k _ hk _ _ => ⟨hok k hk.1, hk.2⟩)⟩
  M_bound := by
    rintro w base ok x cs ⟨v, rfl, h⟩
    refine ⟨v, rfl, h.move (fun _ _ _ => rfl) (fun k o hk ho hq => ?_)⟩
    obtain ⟨cells, q, hq1, rfl⟩ := hq
    refine ⟨⟨hk.1, hk.2, ?_, q, ?_, cells, ho⟩, hk.2⟩
    · exact (Array.getElem?_eq_some_iff.1 ho).1
    · rcases hq1 with rfl | rfl <;> simp
  M_move := by
    rintro w w1 base ok x cs hm ⟨v, rfl, h⟩
    exact ⟨v, rfl, h.move (fun k hk _ => hm k hk.1) (fun k _ hk _ _ => hk)⟩
  M_lower := by
    rintro w base base' ok x cs hb ⟨v, rfl, h⟩
    exact ⟨v, rfl, h.move (fun _ _ _ => rfl) (fun k _ hk _ _ => ⟨hk.1, Nat.le_trans hb hk.2⟩)⟩
set_option maxHeartbeats 1000000 in
theorem wal_put.walk (i : Int) (s : ByteArray) (w : World) : Calls Try.prog 67 #[.int .i64 i, .string s] w fun e w' => ∃ v, e = .returned v ∧ kcall.M w' w.heap.size (fun k => w.heap.size ≤ k) (.put i s) [v] ∧ Below w.heap.size w w' := by
  go_enter Try.func67, Try.ntmps67
  go_wp2_with (first
    | ((with_reducible refine gate_dst (N := 2) rfl ?_); refine box_event ?hg (N := 2) ?hd (cs := #[.int .i64 i]) (t := 3) ?hr ?_; (case hd => rfl); (case hg => rfl); (case hr => first | (go_simp; done) | (go_simp; rfl)); intro b1 hb1 w1 hx1 hl1;
        have HX1 := Aside0.mk hx1; have HL1 := Aside0.mk hl1; have HB1 := Aside0.mk hb1; clear hx1 hl1 hb1)
    | ((with_reducible refine gate_dst (N := 3) rfl ?_); refine box_event ?hg (N := 3) ?hd (cs := #[.string s]) (t := 9) ?hr ?_; (case hd => rfl); (case hg => rfl); (case hr => first | (go_simp; done) | (go_simp; rfl)); intro b2 hb2 w2 hx2 hl2;
        have HX2 := Aside0.mk hx2; have HL2 := Aside0.mk hl2; have HB2 := Aside0.mk hb2; clear hx2 hl2 hb2))
  go_ret
  have hl := below_step HL1.out HL2.out
  have g1 : w.heap.size ≤ b1 := Nat.le_of_eq HB1.out.symm
  have g2 : w.heap.size ≤ b2 := by rw [HB2.out]; exact HL1.out.size
  exact ⟨_, rfl, ⟨_, rfl, b1, b2, rfl, blk_below HX1.out HL2.out, HX2.out, ⟨g1, g1⟩, g2, g2⟩, hl⟩
end Go.Proofs.Ytjfmnkmgnbbfgaa.A
