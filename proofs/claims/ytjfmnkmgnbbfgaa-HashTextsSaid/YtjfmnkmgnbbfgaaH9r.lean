/- Layer 2: the document's text of a digest (hibernacleref02.Hex): the same as the program's. -/
import Derived.Test.YtjfmnkmgnbbfgaaH9
set_option linter.unusedVariables false
set_option linter.unusedSimpArgs false
namespace Go.Proofs.Ytjfmnkmgnbbfgaa.A
open Go.RowKit Go.Proofs.YtjfmnkmgnbbfgaaW.PrintWords Go.Proofs.YtjfmnkmgnbbfgaaW.PrintLast Go.Proofs.YtjfmnkmgnbbfgaaW.PrintMore

theorem dg_ext : ∀ k, k < 16 → dgS.extract k (k + 1) = ⟨#[hexD k]⟩ := by
  have h : (List.range 16).all (fun k => (dgS.extract k (k + 1)).data.toList == [hexD k]) = true := by kernel_rfl
  intro k hk
  have e := eq_of_beq (List.all_eq_true.1 h k (List.mem_range.2 hk))
  apply ByteArray.ext
  rw [← Array.toList_inj, e]
set_option maxHeartbeats 2000000 in
set_option maxRecDepth 100000 in
theorem ref_Hex.walk (d : List Int) (hd : isBytes d) (w : World) :
    Calls Try.prog 54 #[.agg (u8s d)] w fun e w' => e = .returned (.string (hexF d)) ∧ Below w.heap.size w w' := by
  have hl := hd.1
  have HD := Aside0.mk hd
  clear hd
  go_enter Try.func54, Try.ntmps54
  go_wp2_with fail
  have HX : Aside0 (Below w.heap.size w (w.alloc (blk8 d 57)) ∧ (w.alloc (blk8 d 57)).heap[w.heap.size]? = some (blk8 d 57)) := Aside0.mk ⟨below_alloc (Below.refl _ _) _, heap_alloc_last _ _⟩
  change Code.wp _ _ _ _ (w.alloc (blk8 d 57))
  generalize w.alloc (blk8 d 57) = W1 at HX ⊢
  obtain ⟨g, hg⟩ : ∃ z, z = w.heap.size := ⟨_, rfl⟩
  rw [← hg] at HX ⊢
  have HG := Aside0.mk hg
  clear hg
  go_loopw [4, 5] (fun vs vi wr => ∃ i : Nat, i ≤ 32 ∧ vi = .int .i64 i ∧ vs = .string ⟨(hexL d i).toArray⟩ ∧ Aside0 (Below g w wr ∧ wr.heap[g]? = some (blk8 d 57))) (fun _ vi _ => 32 - (intOf vi).toNat)
  case atStart => exact ⟨0, by omega, rfl, rfl, HX⟩
  case round =>
    obtain ⟨i, hi, rfl, rfl, HL⟩ := hrel
    clear HX
    obtain ⟨st, hst⟩ : ∃ z : ByteArray, z = ⟨(hexL d i).toArray⟩ := ⟨_, rfl⟩
    have hsz : st.size = 2 * i := by
      rw [hst]
      show (List.toArray _).size = _
      rw [List.size_toArray, hexL_len]
    rw [← hst]
    replace hst := Aside0.mk hst
    by_cases hli : i < 32
    · have x1 : (i : Int) < 32 := by omega
      have hr := HD.out.2 i hli
      have kx := cell_blk8 HL.out.2 i (by omega)
      obtain ⟨x, hx⟩ : ∃ z, z = gi d i := ⟨_, rfl⟩
      rw [← hx] at kx hr
      replace hx := Aside0.mk hx
      have r0 := hr.1
      have r1 := hr.2
      clear hr
      have t1 : x.tdiv 16 = x / 16 := Int.tdiv_eq_ediv_of_nonneg r0
      have t2 : x / 16 % 256 = x / 16 := by omega
      have t3 : (x / 16 + 1) % 256 = x / 16 + 1 := by omega
      have t4 : x.tmod 16 = x % 16 := Int.tmod_eq_emod_of_nonneg r0
      have t5 : (x % 16 + 1) % 256 = x % 16 + 1 := by omega
      have t6 : (0 : Int) ≤ x / 16 := by omega
      have t7 : x / 16 + 1 ≤ 16 := by omega
      have t8 : (0 : Int) ≤ x % 16 := by omega
      have t9 : x % 16 + 1 ≤ 16 := by omega
      have u1 : x / 16 ≤ x / 16 + 1 := by omega
      have u2 : x % 16 ≤ x % 16 + 1 := by omega
      have u3 : (0 : Int) ≤ x / 16 + 1 := by omega
      have u4 : (0 : Int) ≤ x % 16 + 1 := by omega
      have v1 : IntKind.u8.wrap (x / 16) = x / 16 := by rw [IntKind.wrap_u8']; omega
      have v2 : IntKind.u8.wrap (x / 16 + 1) = x / 16 + 1 := by rw [IntKind.wrap_u8']; omega
      have v3 : IntKind.u8.wrap (x % 16) = x % 16 := by rw [IntKind.wrap_u8']; omega
      have v4 : IntKind.u8.wrap (x % 16 + 1) = x % 16 + 1 := by rw [IntKind.wrap_u8']; omega
      have hs62 : st.size ≤ 62 := by omega
      have ex1 : (⟨#[48, 49, 50, 51, 52, 53, 54, 55, 56, 57, 97, 98, 99, 100, 101, 102]⟩ : ByteArray).extract (x / 16).toNat (x / 16 + 1).toNat = ⟨#[hexD (x / 16).toNat]⟩ := by
        rw [show (x / 16 + 1).toNat = (x / 16).toNat + 1 from by omega]
        exact dg_ext (x / 16).toNat (by omega)
      have ex2 : (⟨#[48, 49, 50, 51, 52, 53, 54, 55, 56, 57, 97, 98, 99, 100, 101, 102]⟩ : ByteArray).extract (x % 16).toNat (x % 16 + 1).toNat = ⟨#[hexD (x % 16).toNat]⟩ := by
        rw [show (x % 16 + 1).toNat = (x % 16).toNat + 1 from by omega]
        exact dg_ext (x % 16).toNat (by omega)
      have hcat1 : ¬ (9223372036854775807 < st.size + 1) := by omega
      have hcat2 : ¬ (9223372036854775807 < st.size + 1 + 1) := by omega
      replace hsz := Aside0.mk hsz
      go_wp2_with fail
      refine wp_region_still_lit (by kernel_rfl) (by kernel_rfl) ?_
      repeat still_step
      refine wpStill_nil ?_
      have eN : st ++ ⟨#[hexD (x / 16).toNat]⟩ ++ ⟨#[hexD (x % 16).toNat]⟩ = ⟨(hexL d (i + 1)).toArray⟩ := by
        rw [hst.out, hx.out, show hexL d (i + 1) = hexL d i ++ [hexD (gi d i / 16).toNat] ++ [hexD (gi d i % 16).toNat] from rfl]
        apply ByteArray.ext
        rw [ByteArray.data_append, ByteArray.data_append]
        simp
      rw [eN]
      have HL2 : Aside0 (Below g w wr.drew ∧ wr.drew.heap[g]? = some (blk8 d 57)) := Aside0.mk ⟨HL.out.1.drew, HL.out.2⟩
      change Exit.inBlock _ _ _ _ wr.drew
      generalize wr.drew = W2 at HL2 ⊢
      replace eN := Aside0.mk eN
      go_wp2_with fail
      refine ⟨⟨i + 1, by omega, rfl, rfl, HL2⟩, ?_⟩
      simp only [intOf]
      omega
    · obtain rfl : i = 32 := by omega
      clear hli hi
      go_wp2_with fail
      go_ret
      refine ⟨?_, by rw [← HG.out]; exact HL.out.1⟩
      rw [hst.out]
      rfl
end Go.Proofs.Ytjfmnkmgnbbfgaa.A
