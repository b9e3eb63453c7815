/- The contracts of the library's strings.Repeat, strings.Join, strings.IndexByte in the form that their callers here ask. -/
import Derived.Test.YtjfmnkmgnbbfgaaA0
import Derived.Test.YtjfmnkmgnbbfgaaShelf
namespace Go.Proofs.Ytjfmnkmgnbbfgaa.A
open Go.RowKit Go.Proofs.YtjfmnkmgnbbfgaaW.PrintWords Go.Proofs.YtjfmnkmgnbbfgaaW.PrintLast Go.Proofs.YtjfmnkmgnbbfgaaW.PrintMore

def repB (s : ByteArray) (c : Nat) : ByteArray := ⟨(Lib.repeatL s.data.toList c).toArray⟩
def strings_Repeat.f (a0 : ByteArray) (a1 : Int) : Option ByteArray :=
  if 0 ≤ a1 ∧ a1 ≤ 9223372036854775807 ∧ a0.size * a1.toNat ≤ 140737488355328 then some (repB a0 a1.toNat) else none
theorem strings_Repeat.calls (a0 : ByteArray) (a1 : Int) (r : ByteArray) (w : World) (h : strings_Repeat.f a0 a1 = some r) :
    Calls Try.prog 75 #[.string a0, .int .i64 a1] w fun e w' => e = .returned (.string r) ∧ Below w.heap.size w w' := by
  unfold strings_Repeat.f at h
  by_cases hc : 0 ≤ a1 ∧ a1 ≤ 9223372036854775807 ∧ a0.size * a1.toNat ≤ 140737488355328
  · rw [if_pos hc] at h
    obtain rfl := Option.some.inj h
    obtain ⟨c, rfl⟩ := Int.eq_ofNat_of_zero_le hc.1
    rw [Int.toNat_natCast] at hc ⊢
    exact Try.strings_Repeat a0 c w (by omega) hc.2.2
  · rw [if_neg hc] at h
    cases h
def joinB (l : List ByteArray) (sep : ByteArray) : ByteArray := ⟨(Lib.join (l.map (·.data.toList)) sep.data.toList).toArray⟩
def strings_Join.f (l0 : List ByteArray) (a1 : ByteArray) : Option ByteArray :=
  if l0.length ≤ 140737488355328 ∧ (joinB l0 a1).size ≤ 140737488355328 then some (joinB l0 a1) else none
theorem spot_none {w : World} {a : Addr} {v : Value} (h : w.cell? a = some v) : a = ⟨a.block, a.off, none⟩ := by
  unfold World.cell? at h
  split at h
  · split at h
    · cases h
    · rename_i hs
      cases a with
      | mk b o s => cases s with
        | none => rfl
        | some s => exact absurd rfl hs
  · cases h
/-- the cells of a slice of strings that reads as a list -/
theorem cells_of_C {w : World} {A0 : Option Addr} {l0 : List ByteArray} (hr0 : Kd.C Kd.string w A0 l0.length l0) (h0 : l0 ≠ []) :
    ∃ b o, A0 = some ⟨b, o, none⟩ ∧ b < w.heap.size ∧ ∀ (j : Nat) x, l0[j]? = some x → w.cell? ⟨b, o + j, none⟩ = some (.string x) := by
  have hlen : 0 < l0.length := List.length_pos_iff.2 h0
  obtain ⟨_, _, hr⟩ := hr0
  obtain ⟨ad, rfl, hcell⟩ := hr hlen
  have hall : ∀ (j : Nat) y, l0[j]? = some y → w.cell? (ad.add j) = some (.string y) := by
    intro j y hj
    obtain ⟨c, hl, hk, hu⟩ := hcell j y hj
    have hk' : c = [.string y] := hk
    subst hk'
    have := hu 0 (.string y) rfl
    simpa [show Kd.string.sz = 1 from rfl] using this
  have hz := hall 0 l0[0] (List.getElem?_eq_getElem hlen)
  have hadd : ad.add 0 = ad := by unfold Addr.add; rw [if_pos rfl]
  rw [hadd] at hz
  have hsp := spot_none hz
  refine ⟨ad.block, ad.off, congrArg some hsp, World.block_lt_of_cell? w ad hz, fun j y hj => ?_⟩
  have := hall j y hj
  rw [hsp] at this
  unfold Addr.add at this
  split at this
  · rename_i hj0
    subst hj0
    exact this
  · exact this
theorem strings_Join.calls (A0 : Option Addr) (c0 : Nat) (l0 : List ByteArray) (a1 : ByteArray) (r : ByteArray) (w : World) (hr0 : Kd.C Kd.string w A0 l0.length l0) (hc0 : l0.length ≤ c0) (h : strings_Join.f l0 a1 = some r) :
    Calls Try.prog 88 #[.slice A0 l0.length c0, .string a1] w fun e w' => e = .returned (.string r) ∧ Below w.heap.size w w' := by
  unfold strings_Join.f at h
  by_cases hc : l0.length ≤ 140737488355328 ∧ (joinB l0 a1).size ≤ 140737488355328
  · rw [if_pos hc] at h
    obtain rfl := Option.some.inj h
    cases l0 with
    | nil =>
      refine (Try.strings_Join_none A0 c0 a1 w).mono ?_
      rintro e w' ⟨rfl, rfl⟩
      exact ⟨rfl, Below.refl _ _⟩
    | cons x xs =>
      obtain ⟨b, o, rfl, hlt, hall⟩ := cells_of_C hr0 (by simp)
      refine (Try.strings_Join b o c0 (x :: xs) a1 w hall hlt hc.1 hc0 ?_).mono ?_
      · have := hc.2
        unfold joinB at this
        simpa [ByteArray.size] using this
      · rintro e w' ⟨rfl, hb⟩
        exact ⟨rfl, hb⟩
  · rw [if_neg hc] at h
    cases h
def strings_IndexByte.f (a0 : ByteArray) (a1 : Int) : Option Int := some (Lib.indexByte a0.data.toList a1.toNat.toUInt8)
theorem strings_IndexByte.calls (a0 : ByteArray) (a1 : Int) (r : Int) (w : World) (h : strings_IndexByte.f a0 a1 = some r) :
    Calls Try.prog 94 #[.string a0, .int .u8 a1] w fun e w' => e = .returned (.int .i64 r) ∧ Drawn0 w w' := by
  obtain rfl := Option.some.inj h
  refine (Try.strings_IndexByte a0 a1 w).mono ?_
  rintro e w' ⟨rfl, rfl⟩
  exact ⟨rfl, Drawn0.refl _⟩
end Go.Proofs.Ytjfmnkmgnbbfgaa.A
