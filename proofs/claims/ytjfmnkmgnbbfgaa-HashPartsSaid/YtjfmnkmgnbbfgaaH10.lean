/- Layer 2: the document's examples hold (hibernaclelaw02.alive). -/
import Derived.Test.YtjfmnkmgnbbfgaaH8
import Derived.Test.YtjfmnkmgnbbfgaaH9
set_option linter.unusedVariables false
set_option linter.unusedSimpArgs false
namespace Go.Proofs.Ytjfmnkmgnbbfgaa.A
open Go.RowKit Go.Proofs.YtjfmnkmgnbbfgaaW.PrintWords Go.Proofs.YtjfmnkmgnbbfgaaW.PrintLast Go.Proofs.YtjfmnkmgnbbfgaaW.PrintMore

theorem al1 : hexF (digF hSum (joinS [⟨#[97]⟩, ⟨#[98, 99]⟩])) = ⟨#[53, 48, 56, 99, 53, 101, 56, 99, 51, 50, 55, 99, 49, 52, 101, 50, 101, 49, 97, 55, 50, 98, 97, 51, 52, 101, 101, 98, 52, 53, 50, 102, 51, 55, 52, 53, 56, 98, 50, 48, 57, 101, 100, 54, 51, 97, 50, 57, 52, 100, 57, 57, 57, 98, 52, 99, 56, 54, 54, 55, 53, 57, 56, 50]⟩ := by kernel_rfl
theorem al2 : hexF (digF hSum (joinS [])) = ⟨#[54, 57, 50, 49, 55, 97, 51, 48, 55, 57, 57, 48, 56, 48, 57, 52, 101, 49, 49, 49, 50, 49, 100, 48, 52, 50, 51, 53, 52, 97, 55, 99, 49, 102, 53, 53, 98, 54, 52, 56, 50, 99, 97, 49, 97, 53, 49, 101, 49, 98, 50, 53, 48, 100, 102, 100, 49, 101, 100, 48, 101, 101, 102, 57]⟩ := by kernel_rfl
theorem dig_bytes (h : List Int) (s : ByteArray) : isBytes (digF h s) := by
  refine ⟨dig_len h s, fun j hj => ?_⟩
  unfold digF
  rw [gi_fillB _ _ _ _ _ hj, if_pos hj]
  unfold outV
  omega
theorem C_nil (w : World) : Kd.C Kd.string w none 0 [] := ⟨rfl, by omega, fun h => absurd h (Nat.lt_irrefl 0)⟩
def hibernaclelaw02_alive.f : Option Bool := some true
set_option maxHeartbeats 2000000 in
set_option maxRecDepth 100000 in
theorem alive_walk (w : World) : Calls Try.prog 46 #[] w fun e w' => e = .returned (.bool true) ∧ Below w.heap.size w w' := by
  have hA1 := Aside0.mk al1
  have hA2 := Aside0.mk al2
  obtain ⟨d1, hd1⟩ : ∃ z, z = digF hSum (joinS [⟨#[97]⟩, ⟨#[98, 99]⟩]) := ⟨_, rfl⟩
  obtain ⟨d2, hd2⟩ : ∃ z, z = digF hSum (joinS []) := ⟨_, rfl⟩
  have hB1 : isBytes d1 := by rw [hd1]; exact dig_bytes _ _
  have hB2 : isBytes d2 := by rw [hd2]; exact dig_bytes _ _
  have hE1 : hexF d1 = ⟨#[53, 48, 56, 99, 53, 101, 56, 99, 51, 50, 55, 99, 49, 52, 101, 50, 101, 49, 97, 55, 50, 98, 97, 51, 52, 101, 101, 98, 52, 53, 50, 102, 51, 55, 52, 53, 56, 98, 50, 48, 57, 101, 100, 54, 51, 97, 50, 57, 52, 100, 57, 57, 57, 98, 52, 99, 56, 54, 54, 55, 53, 57, 56, 50]⟩ := by rw [hd1]; exact hA1.out
  have hE2 : hexF d2 = ⟨#[54, 57, 50, 49, 55, 97, 51, 48, 55, 57, 57, 48, 56, 48, 57, 52, 101, 49, 49, 49, 50, 49, 100, 48, 52, 50, 51, 53, 52, 97, 55, 99, 49, 102, 53, 53, 98, 54, 52, 56, 50, 99, 97, 49, 97, 53, 49, 101, 49, 98, 50, 53, 48, 100, 102, 100, 49, 101, 100, 48, 101, 101, 102, 57]⟩ := by rw [hd2]; exact hA2.out
  have HC : Kd.C Kd.string (w.alloc (.cells #[.string ⟨#[97]⟩, .string ⟨#[98, 99]⟩] 9 (0, 0))) (some ⟨w.heap.size, 0, none⟩) 2 [⟨#[97]⟩, ⟨#[98, 99]⟩] := C_lit (l := [⟨#[97]⟩, ⟨#[98, 99]⟩]) (heap_alloc_last _ _) (by simp)
  have hS1 : (joinS [⟨#[97]⟩, ⟨#[98, 99]⟩]).size ≤ 1000000 := by rw [joinS_size]; decide
  have hS2 : (joinS []).size ≤ 1000000 := by rw [joinS_size]; decide
  have HA : Calls Try.prog 47 #[.slice (some ⟨w.heap.size, 0, none⟩) 2 2] (w.alloc (.cells #[.string ⟨#[97]⟩, .string ⟨#[98, 99]⟩] 9 (0, 0))) (fun e w' => e = .returned (.agg (u8s d1)) ∧ Below (w.alloc (.cells #[.string ⟨#[97]⟩, .string ⟨#[98, 99]⟩] 9 (0, 0))).heap.size (w.alloc (.cells #[.string ⟨#[97]⟩, .string ⟨#[98, 99]⟩] 9 (0, 0))) w') := by
    rw [hd1]
    exact hash_Sum.walk (some ⟨w.heap.size, 0, none⟩) 2 [⟨#[97]⟩, ⟨#[98, 99]⟩] _ HC (Nat.le_refl _) (by simp) hS1
  have HZ := fun w' => (show Calls Try.prog 47 #[.slice none 0 0] w' (fun e w'' => e = .returned (.agg (u8s d2)) ∧ Below w'.heap.size w' w'') from by rw [hd2]; exact hash_Sum.walk none 0 [] w' (C_nil w') (Nat.le_refl _) (by simp) hS2)
  have hx1 := fun w' => hash_Hex.walk d1 hB1 w'
  have hx2 := fun w' => hash_Hex.walk d2 hB2 w'
  rw [hE1] at hx1
  rw [hE2] at hx2
  replace HA := Aside0.mk HA
  replace HZ := Aside0.mk HZ
  replace hx1 := Aside0.mk hx1
  replace hx2 := Aside0.mk hx2
  clear hE1 hE2 hd1 hd2 hA1 hA2 HC hS1 hS2 hB1 hB2
  go_enter Try.func46, Try.ntmps46
  go_wp2_with fail
  go_at_call 47
  refine HA.out.mono ?_
  rintro e w2 ⟨rfl, hb2⟩
  go_wp2_with fail
  go_at_call 52
  refine (hx1.out _).mono ?_
  rintro e w3 ⟨rfl, hb3⟩
  go_wp2_with fail
  go_at_call 47
  refine (HZ.out _).mono ?_
  rintro e w4 ⟨rfl, hb4⟩
  go_wp2_with fail
  go_at_call 52
  refine (hx2.out _).mono ?_
  rintro e w5 ⟨rfl, hb5⟩
  go_wp2_with fail
  go_ret
  have b0 : Below w.heap.size w w2 := below_then (below_alloc (Below.refl _ _) _) (below_alloc (Below.refl _ _) _).size hb2
  have b1 : Below w.heap.size w w3 := below_then b0 b0.size hb3
  have b2 : Below w.heap.size w w4 := below_then b1 b1.size hb4
  exact ⟨rfl, below_then b2 b2.size hb5⟩
end Go.Proofs.Ytjfmnkmgnbbfgaa.A
