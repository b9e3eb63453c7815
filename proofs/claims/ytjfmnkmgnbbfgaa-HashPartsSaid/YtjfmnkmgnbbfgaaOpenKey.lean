/- Arguments that are a key or a digest (32 bytes): what is handed in reads as 32 numbers from 0 to 255. -/
import Derived.Test.YtjfmnkmgnbbfgaaH9
import Derived.OpenShut
import Derived.ChangeArms
import Derived.DataReads
set_option linter.unusedVariables false
namespace Go.Proofs.Ytjfmnkmgnbbfgaa.A
open Go.RowKit Go.Proofs.YtjfmnkmgnbbfgaaW.PrintWords Go.Proofs.YtjfmnkmgnbbfgaaW.PrintLast Go.Proofs.YtjfmnkmgnbbfgaaW.PrintMore

theorem mapM_each {α β : Type} {f : α → Option β} : ∀ (l : List α) (xs : List β), l.mapM f = some xs → ∀ x ∈ l, ∃ y, f x = some y
  | [], _, _, x, hx => by cases hx
  | a :: l, xs, h, x, hx => by
    rw [List.mapM_cons] at h
    cases hfa : f a with
    | none => rw [hfa] at h; cases h
    | some b =>
      rw [hfa] at h
      cases hl : l.mapM f with
      | none => rw [hl] at h; cases h
      | some bs =>
        rcases List.mem_cons.1 hx with rfl | hx'
        · exact ⟨b, hfa⟩
        · exact mapM_each l bs hl x hx'
section
variable {H : Type} {enc : TypeId × Value → H} {w : World} {base : Nat} {spare : Nat → Bool} {held : Bool}
theorem opens_bytes {T : TypeId} (hu : Try.prog.underlying T = some (.array 32 5)) (hcs : Try.prog.cellsOf T = 32) {fuel : Nat} {ca : Array Value} {x : DataW H × List MemPlace} (hf : DataW.trod enc Try.prog w base spare held fuel T (Value.agg ca).cells.toList = some x) (hc : ca.size = Try.prog.cellsOf T) :
    ∃ s : List Int, isBytes s ∧ ca = u8s s := by
  rw [hcs] at hc
  have each : ∀ i, i < 32 → ∃ n : Int, ca[i]? = some (.int .u8 n) ∧ 0 ≤ n ∧ n < 256 := by
    intro i hi
    cases fuel with
    | zero => simp [DataW.trod] at hf
    | succ fuel =>
      have h := hf
      simp only [DataW.trod, hu] at h
      split at h
      · obtain ⟨xs, hm, hx⟩ := Option.map_eq_some_iff.1 h
        obtain ⟨y, hy⟩ := mapM_each _ _ hm i (by simp [hi])
        have hc5 : Try.prog.cellsOf 5 = 1 := by kernel_rfl
        rw [hc5, Nat.mul_one] at hy
        have hci : ((Value.agg ca).cells.toList.drop i).take 1 = [ca[i]'(by omega)] := by
          have : i < ca.toList.length := by rw [Array.length_toList]; omega
          show (ca.toList.drop i).take 1 = _
          rw [List.drop_eq_getElem_cons this]
          simp
        rw [hci] at hy
        obtain ⟨n, e1, _, e2⟩ := DataW.trod_int Try.underlying5 hy
        have hb := bounds_u8 e2
        refine ⟨n, ?_, by omega, by omega⟩
        rw [Array.getElem?_eq_getElem (by omega)]
        simp only [List.cons.injEq, and_true] at e1
        rw [e1]
      · cases h
  refine ⟨List.ofFn fun i : Fin 32 => (each i.1 i.2).choose, ⟨by simp, fun j hj => ?_⟩, ?_⟩
  · have := (each j hj).choose_spec
    unfold gi
    rw [List.getD_eq_getElem?_getD, List.getElem?_ofFn]
    simp only [hj, dif_pos, Option.getD_some]
    exact this.2
  · apply Array.ext
    · simp [u8s, hc]
    · intro j h1 h2
      have hj : j < 32 := by omega
      have := (each j hj).choose_spec.1
      have e2 : ca[j] = .int .u8 (each j hj).choose := Option.some.inj ((Array.getElem?_eq_getElem h1).symm.trans this)
      rw [e2]
      simp only [u8s, List.getElem_toArray, List.getElem_map, List.getElem_ofFn]
theorem opens_61 {fuel : Nat} {ca : Array Value} {x : DataW H × List MemPlace} (hf : DataW.trod enc Try.prog w base spare held fuel 61 (Value.agg ca).cells.toList = some x) (hc : ca.size = Try.prog.cellsOf 61) : ∃ s : List Int, isBytes s ∧ ca = u8s s := opens_bytes Try.underlying61 (by kernel_rfl) hf hc
theorem opens_57 {fuel : Nat} {ca : Array Value} {x : DataW H × List MemPlace} (hf : DataW.trod enc Try.prog w base spare held fuel 57 (Value.agg ca).cells.toList = some x) (hc : ca.size = Try.prog.cellsOf 57) : ∃ s : List Int, isBytes s ∧ ca = u8s s := opens_bytes Try.underlying57 (by kernel_rfl) hf hc
end
end Go.Proofs.Ytjfmnkmgnbbfgaa.A
