/- More on arguments: a list of acts. -/
import Derived.Test.YtjfmnkmgnbbfgaaOpen2
set_option linter.unusedVariables false
namespace Go.Proofs.Ytjfmnkmgnbbfgaa.A
open Go.RowKit Go.Proofs.YtjfmnkmgnbbfgaaW.PrintWords Go.Proofs.YtjfmnkmgnbbfgaaW.PrintLast Go.Proofs.YtjfmnkmgnbbfgaaW.PrintMore
section
variable {H : Type} {enc : TypeId × Value → H} {w : World} {base : Nat} {spare : Nat → Bool} {held : Bool}
theorem cells49 : Try.prog.cellsOf 49 = 4 := by kernel_rfl
theorem cells44 : Try.prog.cellsOf 44 = 1 := by kernel_rfl
set_option maxRecDepth 100000 in
theorem opens_49 : Opens enc Try.prog w base spare held 49 k49 := fun fuel cs x h => by
  obtain ⟨xs, n, rfl, rfl, hl, hx, hf⟩ := DataW.trod_struct Try.underlying49 h
  have f0 := hf 0 _ rfl
  have f1 := hf 1 _ rfl
  have f2 := hf 2 _ rfl
  have f3 := hf 3 _ rfl
  have hx2 : xs.length = 4 := hx
  rw [cells49] at hl
  match cs, hl with
  | [c0, c1, c2, c3], _ =>
    rw [List.getElem?_eq_getElem (by omega)] at f0 f1 f2 f3
    obtain ⟨a0, e0⟩ := opens_int Try.underlying3 _ _ _ f0
    obtain ⟨a1, e1⟩ := opens_int Try.underlying3 _ _ _ f1
    obtain ⟨a2, e2⟩ := opens_string Try.underlying9 _ _ _ f2
    obtain ⟨a3, A3, q3, e3, l3, g3⟩ := opens_44 _ _ _ f3
    have e0' : List.take (Try.prog.cellsOf 3) (List.drop 0 [c0, c1, c2, c3]) = [.int .i64 a0] := e0
    have e1' : List.take (Try.prog.cellsOf 3) (List.drop 1 [c0, c1, c2, c3]) = [.int .i64 a1] := e1
    have e2' : List.take (Try.prog.cellsOf 9) (List.drop 2 [c0, c1, c2, c3]) = [.string a2] := e2
    rw [cells3] at e0' e1'
    rw [cells9] at e2'
    have e3' : [c3] = [.slice A3 a3.length q3] := by have := e3; simpa [cells44] using this
    cases e0'
    cases e1'
    cases e2'
    cases e3'
    exact ⟨⟨a0, a1, a2, a3⟩, k49_mk w ⟨a0, a1, a2, a3⟩ l3 g3⟩
theorem opens_47 : Opens enc Try.prog w base spare held 47 (Kd.slice 49 k49) := opens_slice Try.underlying47 cells49 opens_49
end
end Go.Proofs.Ytjfmnkmgnbbfgaa.A
