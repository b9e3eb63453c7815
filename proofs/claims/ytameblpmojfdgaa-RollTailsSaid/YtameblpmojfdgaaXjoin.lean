/- The contract of the library's strings.Join, in the form that its callers here ask: over any slice of strings that reads as a list. -/
import Derived.Test.YtameblpmojfdgaaA0
import Derived.Test.YtameblpmojfdgaaShelf
namespace Go.Proofs.Ytameblpmojfdgaa.A
open Go.RowKit Go.Proofs.YtameblpmojfdgaaW.PrintWords Go.Proofs.YtameblpmojfdgaaW.PrintLast Go.Proofs.YtameblpmojfdgaaW.PrintMore

def joinB (l : List ByteArray) (sep : ByteArray) : ByteArray := ⟨(Lib.join (l.map (·.data.toList)) sep.data.toList).toArray⟩
def strings_Join.f (l0 : List ByteArray) (a1 : ByteArray) : Option ByteArray :=
  if l0.length ≤ 140737488355328 ∧ (joinB l0 a1).size ≤ 140737488355328 then some (joinB l0 a1) else none
theorem spot_none {w : World} {a : Addr} {v : Value} (h : w.cell? a = some v) : a = ⟨a.block, a.off, none⟩ := by
  unfold World.cell? at h
  split at h
  · split at h
    · cases h
    · rename_i hs
      cases a with
      | mk b o s => cases s with
        | none => rfl
        | some s => exact absurd rfl hs
  · cases h
theorem strings_Join.calls (A0 : Option Addr) (c0 : Nat) (l0 : List ByteArray) (a1 : ByteArray) (r : ByteArray) (w : World) (hr0 : Kd.C Kd.string w A0 l0.length l0) (hc0 : l0.length ≤ c0) (h : strings_Join.f l0 a1 = some r) :
    Calls Try.prog 17 #[.slice A0 l0.length c0, .string a1] w fun e w' => e = .returned (.string r) ∧ Below w.heap.size w w' := by
  unfold strings_Join.f at h
  by_cases hc : l0.length ≤ 140737488355328 ∧ (joinB l0 a1).size ≤ 140737488355328
  · rw [if_pos hc] at h
    obtain rfl := Option.some.inj h
    cases l0 with
    | nil =>
      refine (Try.strings_Join_none A0 c0 a1 w).mono ?_
      rintro e w' ⟨rfl, rfl⟩
      exact ⟨rfl, Below.refl _ _⟩
    | cons x xs =>
      obtain ⟨_, _, hr⟩ := hr0
      obtain ⟨ad, rfl, hcell⟩ := hr (by simp)
      have hall : ∀ (j : Nat) y, (x :: xs)[j]? = some y → w.cell? (ad.add j) = some (.string y) := by
        intro j y hj
        obtain ⟨c, hl, hk, hu⟩ := hcell j y hj
        have hk' : c = [.string y] := hk
        subst hk'
        have := hu 0 (.string y) rfl
        simpa [show Kd.string.sz = 1 from rfl] using this
      have h0 := hall 0 x rfl
      have hadd : ad.add 0 = ad := by unfold Addr.add; rw [if_pos rfl]
      rw [hadd] at h0
      have hsp := spot_none h0
      have hlt := World.block_lt_of_cell? w ad h0
      rw [hsp]
      refine (Try.strings_Join ad.block ad.off c0 (x :: xs) a1 w ?_ hlt hc.1 hc0 ?_).mono ?_
      · intro j y hj
        have := hall j y hj
        rw [hsp] at this
        unfold Addr.add at this
        split at this
        · rename_i hj0
          subst hj0
          exact this
        · exact this
      · have := hc.2
        unfold joinB at this
        simpa [ByteArray.size] using this
      · rintro e w' ⟨rfl, hb⟩
        exact ⟨rfl, hb⟩
  · rw [if_neg hc] at h
    cases h
end Go.Proofs.Ytameblpmojfdgaa.A
