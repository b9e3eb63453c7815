/- More on arguments: the number in a drive, and a drive's rows as shared ones. -/
import Derived.Test.YtjfmnkmgnbbfgaaOpen
set_option linter.unusedVariables false
namespace Go.Proofs.Ytjfmnkmgnbbfgaa.A
open Go.RowKit Go.Proofs.YtjfmnkmgnbbfgaaW.PrintWords Go.Proofs.YtjfmnkmgnbbfgaaW.PrintLast Go.Proofs.YtjfmnkmgnbbfgaaW.PrintMore
set_option maxRecDepth 100000 in
theorem wf_29 {H : Type} {enc : TypeId × Value → H} {w : World} {base : Nat} {spare : Nat → Bool} {held : Bool} {fuel : Nat} {cs : List Value} {x : DataW H × List MemPlace} (h : DataW.trod enc Try.prog w base spare held fuel 29 cs = some x) (v0 v1 : Value) (a : Int) (hcs : cs = [v0, v1, .int .i64 a]) : (Lit.int .i64 a).wf = true := by
  subst hcs
  obtain ⟨xs, n, rfl, rfl, hl, hx, hf⟩ := DataW.trod_struct Try.underlying29 h
  have f2 := hf 2 _ rfl
  have hx2 : xs.length = 3 := hx
  rw [List.getElem?_eq_getElem (by omega)] at f2
  obtain ⟨m, e2, _, hw⟩ := DataW.trod_int Try.underlying3 f2
  have e2' : List.take (Try.prog.cellsOf 3) (List.drop 2 [v0, v1, .int .i64 a]) = [.int .i64 m] := e2
  rw [cells3] at e2'
  cases e2'
  exact hw
theorem V_str {w : World} {base : Nat} {A : Option Addr} {c : Nat} {xs : List ByteArray} (hl : xs.length ≤ c) (h : Kd.C Kd.string w A xs.length xs) : Kd.V Kd.string 9 w base (fun k_ => k_ < w.heap.size) (.slice A xs.length c) xs := Kd.V_mk hl (Kd.C_F Kd.heap_string h)
theorem V_27 {w : World} {base : Nat} {A : Option Addr} {c : Nat} {xs : List S27} (hl : xs.length ≤ c) (h : Kd.C k27 w A xs.length xs) : Kd.V k27 27 w base (fun k_ => k_ < w.heap.size) (.slice A xs.length c) xs := Kd.V_mk hl (Kd.C_F k27_heap h)
end Go.Proofs.Ytjfmnkmgnbbfgaa.A
