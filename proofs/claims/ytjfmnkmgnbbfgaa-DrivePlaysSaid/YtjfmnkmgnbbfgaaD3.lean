/- The document's Get, Put, Flush and Crash, in plain Lean. -/
import Derived.Test.YtjfmnkmgnbbfgaaD2
import Derived.Test.YtjfmnkmgnbbfgaaD3r
import Derived.Test.YtjfmnkmgnbbfgaaD1s
import Derived.Test.YtjfmnkmgnbbfgaaXland
import Derived.Test.YtjfmnkmgnbbfgaaA38
import Derived.Test.YtjfmnkmgnbbfgaaA39
import Derived.Test.YtjfmnkmgnbbfgaaA41
import Derived.Test.YtjfmnkmgnbbfgaaA42
import Derived.Test.YtjfmnkmgnbbfgaaA44
import Derived.Test.YtjfmnkmgnbbfgaaA83
set_option linter.unusedVariables false
namespace Go.Proofs.Ytjfmnkmgnbbfgaa.A
open Go.RowKit Go.Proofs.YtjfmnkmgnbbfgaaW.PrintWords Go.Proofs.YtjfmnkmgnbbfgaaW.PrintLast Go.Proofs.YtjfmnkmgnbbfgaaW.PrintMore
/-- a crash keeps the form -/
theorem land_sizes (hv : Nat → Int) (hh : ∀ q, hv q = 0 ∨ hv q = 1 ∨ hv q = 2) (p : List S27) : ∀ (q : Nat) (b : List ByteArray), Valid b p →
    (landTo b.length hv q p b).length = b.length ∧ ∀ s ∈ landTo b.length hv q p b, (s.size : Int) = 128 := by
  induction p with
  | nil =>
    intro q b h
    exact ⟨rfl, h.2.1⟩
  | cons x p ih =>
    intro q b h
    obtain ⟨z0, z1, z2⟩ := lookV_zero (h.2.2 x (by simp))
    have hst : landStep b.length (hv q) x b = b.set x.f0.toNat (endV (hv q) (rdOf ByteArray.empty b x.f0) x.f1) := by
      unfold landStep
      rw [if_pos ⟨h.2.2 x (by simp), h.2.1 _ (rd_mem b x.f0 z0 z1)⟩]
    have hs := h.2.1 _ (rd_mem b x.f0 z0 z1)
    have he : ((endV (hv q) (rdOf ByteArray.empty b x.f0) x.f1).size : Int) = 128 := by
      unfold endV
      rcases hh q with hq | hq | hq <;> rw [hq] <;> simp [ByteArray.size_append, ByteArray.size_extract] <;> omega
    have hlen : (b.set x.f0.toNat (endV (hv q) (rdOf ByteArray.empty b x.f0) x.f1)).length = b.length := List.length_set
    have hv2 : Valid (b.set x.f0.toNat (endV (hv q) (rdOf ByteArray.empty b x.f0) x.f1)) p := by
      refine ⟨by rw [hlen]; exact h.1, ?_, fun y hy => by rw [hlen]; exact h.2.2 y (by simp [hy])⟩
      intro s hs
      rcases List.mem_or_eq_of_mem_set hs with hs | rfl
      · exact h.2.1 s hs
      · exact he
    have := ih (q + 1) _ hv2
    rw [hlen] at this
    rw [landTo, hst]
    exact this
def crashV (b : List ByteArray) (p : List S27) (lp : List Int) : List ByteArray × List S27 × Int := (landTo b.length (pickV lp) 0 p b, [], -1)
theorem dcrash_many (b : List ByteArray) (p : List S27) (a : Int) (lp : List Int) (hb : b.length ≤ 256) (hp : p.length ≤ 1000) : drive_Crash.f b p a lp = some (crashV b p lp) := by
  unfold drive_Crash.f crashV
  rw [copied_some4 b p a hb hp, Option.bind_some]
  dsimp only
  rw [if_pos (by omega)]
theorem rcrash_l0 (lp : List Int) (b : List ByteArray) (p : List S27) (a : Int) (hp : p.length ≤ 1000) (d : Nat) : ∀ k q (o : List ByteArray), q + d = p.length → 2 * d < k → Valid o (p.drop q) →
    hibernacleref15_Crash.l0 k lp o (q : Int) b p a = some (landTo o.length (pickV lp) q (p.drop q) o, [], -1) := by
  induction d with
  | zero =>
    intro k q o hq hk hv
    obtain ⟨k, rfl⟩ : ∃ m, k = m + 1 := ⟨k - 1, by omega⟩
    simp only [hibernacleref15_Crash.l0]
    rw [if_neg (by omega), List.drop_of_length_le (by omega)]
    rfl
  | succ d ih =>
    intro k q o hq hk hv
    obtain ⟨k, rfl⟩ : ∃ m, k = m + 1 + 1 := ⟨k - 2, by omega⟩
    have hql : q < p.length := by omega
    rw [List.drop_eq_getElem_cons hql] at hv ⊢
    obtain ⟨z0, z1, z2⟩ := lookV_zero (hv.2.2 p[q] List.mem_cons_self)
    have hs := hv.2.1 _ (rd_mem o p[q].f0 z0 z1)
    have hst : ∀ h, landStep o.length h p[q] o = o.set p[q].f0.toNat (endV h (rdOf ByteArray.empty o p[q].f0) p[q].f1) := by
      intro h
      unfold landStep
      rw [if_pos ⟨hv.2.2 p[q] List.mem_cons_self, hs⟩]
    have hlen : ∀ h, (landStep o.length h p[q] o).length = o.length := fun h => landStep_length _ _ _ _
    have hv2 : Valid (landStep o.length (pickV lp q) p[q] o) (p.drop (q + 1)) := by
      have := land_sizes (fun _ => pickV lp q) (fun _ => pickV_is lp q) [p[q]] 0 o ⟨hv.1, hv.2.1, fun x hx => hv.2.2 x (by
        obtain rfl : x = p[q] := List.mem_singleton.1 hx
        exact List.mem_cons_self)⟩
      refine ⟨by rw [hlen]; exact hv.1, this.2, fun x hx => by rw [hlen]; exact hv.2.2 x (List.mem_cons_of_mem _ hx)⟩
    have e := ih k (q + 1) _ (by omega) (by omega) hv2
    rw [hlen] at e
    rw [landTo]
    simp only [hibernacleref15_Crash.l0]
    rw [if_pos (by omega)]
    have key : hibernacleref15_Crash.j1 (k + 1) lp o (q : Int) (pickV lp q) b p a = some (landTo o.length (pickV lp) (q + 1) (p.drop (q + 1)) (landStep o.length (pickV lp q) p[q] o), [], -1) := by
      simp only [hibernacleref15_Crash.j1]
      rw [if_pos (by omega), if_pos (by omega), rdTN p q hql, wrapS (by omega)]
      rcases pickV_is lp q with h | h | h
      · rw [h] at e ⊢
        rw [if_neg (by decide), if_neg (by decide)]
        rw [hst] at e ⊢
        have e0 : endV 0 (rdOf ByteArray.empty o p[q].f0) p[q].f1 = rdOf ByteArray.empty o p[q].f0 := rfl
        rw [e0] at e ⊢
        have e1 : o.set p[q].f0.toNat (rdOf ByteArray.empty o p[q].f0) = o := by
          have := rdN o p[q].f0.toNat (by omega)
          rw [Int.toNat_of_nonneg z0] at this
          rw [this]
          exact List.set_getElem_self _
        rw [e1] at e ⊢
        exact e
      · rw [h] at e ⊢
        rw [if_pos rfl, if_pos z0, if_pos z1, Option.bind_some, if_neg (by decide)]
        rw [hst] at e ⊢
        exact e
      · rw [h] at e ⊢
        rw [if_neg (by decide), if_pos rfl, if_pos (by decide), if_pos (by omega), if_pos z0, if_pos z1, if_pos (by omega), if_pos (by simp only [ByteArray.size_extract]; omega)]
        rw [hst] at e ⊢
        exact e
    by_cases h5 : (q : Int) < (lp.length : Int)
    · rw [if_pos h5, if_pos (by omega)]
      have : pickV lp q = Int.tmod (wrap64 (Int.tmod (rd lp q) 3 + 3)) 3 := by unfold pickV; rw [if_neg (by omega)]
      rw [← this]
      exact key
    · rw [if_neg h5]
      have : pickV lp q = 0 := by unfold pickV; rw [if_pos (by omega)]
      rw [← this]
      exact key
theorem rcrash_many (b : List ByteArray) (p : List S27) (a : Int) (lp : List Int) (hv : Valid b p) (hp : p.length ≤ 1000) (k : Nat) (hk : 2 * p.length < k) : hibernacleref15_Crash.f k b p a lp = some (crashV b p lp) := by
  unfold hibernacleref15_Crash.f crashV
  rw [Option.bind_some, if_pos (by have := hv.1; simp; omega)]
  have := rcrash_l0 lp b p a hp p.length k 0 b (by omega) hk (by simpa using hv)
  simpa using this
theorem same_many (b : List ByteArray) (p : List S27) (a : Int) (hb : b.length ≤ 1000) (hp : p.length ≤ 1000) (k : Nat) (hk : b.length + p.length + 3 < k) : hibernacleref15_Same.f k b p a b p a = some true := by
  obtain ⟨k, rfl⟩ : ∃ m, k = m + 1 := ⟨k - 1, by omega⟩
  unfold hibernacleref15_Same.f
  rw [if_pos rfl, if_pos rfl]
  simp only [hibernacleref15_Same.j0]
  rw [if_neg (by simp)]
  exact same_l0 b a a p (by omega) (by omega) b.length _ 0 (by omega) (by omega)
end Go.Proofs.Ytjfmnkmgnbbfgaa.A
