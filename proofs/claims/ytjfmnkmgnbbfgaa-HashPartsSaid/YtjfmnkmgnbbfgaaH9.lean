/- Layer 2: a digest's text (hash.Hex, hibernacleref02.Hex), as the walks make it: the same. -/
import Derived.Test.YtjfmnkmgnbbfgaaH5
import Derived.Test.YtjfmnkmgnbbfgaaXwb
set_option linter.unusedVariables false
set_option linter.unusedSimpArgs false
namespace Go.Proofs.Ytjfmnkmgnbbfgaa.A
open Go.RowKit Go.Proofs.YtjfmnkmgnbbfgaaW.PrintWords Go.Proofs.YtjfmnkmgnbbfgaaW.PrintLast Go.Proofs.YtjfmnkmgnbbfgaaW.PrintMore

theorem u8s32 (v : List Int) (hl : v.length = 32) : u8s v = #[.int .u8 (gi v 0), .int .u8 (gi v 1), .int .u8 (gi v 2), .int .u8 (gi v 3), .int .u8 (gi v 4), .int .u8 (gi v 5), .int .u8 (gi v 6), .int .u8 (gi v 7), .int .u8 (gi v 8), .int .u8 (gi v 9), .int .u8 (gi v 10), .int .u8 (gi v 11), .int .u8 (gi v 12), .int .u8 (gi v 13), .int .u8 (gi v 14), .int .u8 (gi v 15), .int .u8 (gi v 16), .int .u8 (gi v 17), .int .u8 (gi v 18), .int .u8 (gi v 19), .int .u8 (gi v 20), .int .u8 (gi v 21), .int .u8 (gi v 22), .int .u8 (gi v 23), .int .u8 (gi v 24), .int .u8 (gi v 25), .int .u8 (gi v 26), .int .u8 (gi v 27), .int .u8 (gi v 28), .int .u8 (gi v 29), .int .u8 (gi v 30), .int .u8 (gi v 31)] := by
  match v, hl with
  | [_, _, _, _, _, _, _, _, _, _, _, _, _, _, _, _, _, _, _, _, _, _, _, _, _, _, _, _, _, _, _, _], _ => rfl
def isBytes (d : List Int) : Prop := d.length = 32 ∧ ∀ j, j < 32 → 0 ≤ gi d j ∧ gi d j < 256
theorem idx57 (v : List Int) (hl : v.length = 32) (q : Nat) (hq : q < 32) (W : World) : (Instr.index 57 (.agg (u8s v)) (.int .i64 (q : Int))).run Try.prog W = .ok (.int .u8 (gi v q)) W :=
  idx_row Try.underlying57 (by kernel_rfl) (fun W => by go_simp) _ q hq (by simp [u8s, hl]) _ (by simp [u8s, gi, List.getD_eq_getElem?_getD, List.getElem?_eq_getElem (show q < v.length by omega)]) W
def hexD (n : Nat) : UInt8 := if n < 10 then UInt8.ofNat (48 + n) else UInt8.ofNat (87 + n)
theorem dg_at : ∀ (k : Nat) (h : k < dgS.size), dgS[k] = hexD k := by
  have h : (List.range 16).all (fun k => bt dgS (k : Int) == ((hexD k).toNat : Int)) = true := by kernel_rfl
  intro k hk
  have := List.all_eq_true.1 h k (List.mem_range.2 hk)
  have e := bt_at dgS (k : Int) hk
  rw [← e] at this
  have e2 : dgS[k].toNat = (hexD k).toNat := by
    have := eq_of_beq this
    exact Int.ofNat.inj this
  exact UInt8.toNat_inj.1 e2
def hexL (d : List Int) : Nat → List UInt8
  | 0 => []
  | i + 1 => hexL d i ++ [hexD (gi d i / 16).toNat] ++ [hexD (gi d i % 16).toNat]
def hexF (d : List Int) : ByteArray := ⟨(hexL d 32).toArray⟩
theorem hexL_len (d : List Int) (i : Nat) : (hexL d i).length = 2 * i := by
  induction i with
  | zero => rfl
  | succ i ih => simp [hexL, ih]; omega
theorem and15 (x : Int) (h0 : 0 ≤ x) (h1 : x < 256) : Go.bits .and .u8 x 15 = x % 16 := by
  obtain ⟨n, rfl⟩ := Int.eq_ofNat_of_zero_le h0
  have := u8_and_nat n 15 (by omega) (by omega)
  rw [show ((15 : Nat) : Int) = 15 from rfl] at this
  rw [this, Nat.and_two_pow_sub_one_eq_mod n 4]
  omega
theorem byteCells_snoc (l : List UInt8) (u : UInt8) : Lib.byteCells (l ++ [u]) = Lib.byteCells l ++ [.int .u8 ((u.toNat : Nat) : Int)] := by simp [Lib.byteCells]
theorem write_at (B b : Nat) (l : List UInt8) (u : UInt8) (w : World) (h : Lib.IsBuilder 107 5 B b (Lib.byteCells l) w) (hlen : l.length ≤ 1000) (hBw : B ≤ w.heap.size) :
    Calls Try.prog 92 #[.pointer (some ⟨b, 0, none⟩), .int .u8 ((u.toNat : Nat) : Int)] w fun e w' => e = .returned .nilIface ∧ Lib.IsBuilder 107 5 B b (Lib.byteCells (l ++ [u])) w' ∧ Below B w w' := by
  refine (Try.Builder_WriteByte B b _ _ w h (by rw [show (Lib.byteCells l).length = l.length from by simp [Lib.byteCells]]; omega) hBw).mono ?_
  rintro e w' ⟨rfl, hb, hl⟩
  rw [byteCells_snoc]
  exact ⟨rfl, .inr hb, hl⟩
set_option maxHeartbeats 2000000 in
set_option maxRecDepth 100000 in
theorem hash_Hex.walk (d : List Int) (hd : isBytes d) (w : World) :
    Calls Try.prog 52 #[.agg (u8s d)] w fun e w' => e = .returned (.string (hexF d)) ∧ Below w.heap.size w w' := by
  have hl := hd.1
  have HD := Aside0.mk hd
  clear hd
  go_enter Try.func52, Try.ntmps52
  refine wp_seq_k fun K1 hK1 => ?_
  replace hK1 := Aside0.mk hK1
  go_wp2_with fail
  refine hK1.out _ _ ?_
  clear hK1 K1
  refine wp_seq_k fun K2 hK2 => ?_
  replace hK2 := Aside0.mk hK2
  go_wp2_with fail
  refine hK2.out _ _ ?_
  clear hK2 K2
  have hld := loadAt8 (W := (w.alloc (blk8 d 57)).alloc (.cells #[.pointer none, .slice none 0 0] 107 (0, 0))) (blk_alloc (heap_alloc_last w (blk8 d 57)) _) hl
  have HB0 : Lib.IsBuilder 107 5 w.heap.size (w.heap.size + 1) (Lib.byteCells (hexL d 0)) ((w.alloc (blk8 d 57)).alloc (.cells #[.pointer none, .slice none 0 0] 107 (0, 0))) := by
    have e := heap_alloc_last (w.alloc (blk8 d 57)) (.cells #[.pointer none, .slice none 0 0] 107 (0, 0))
    rw [sz1 rfl] at e
    exact .inl ⟨by omega, _, e, by simp [hexL, Lib.byteCells, World.ownsRow], by simp [Value.ownBlock]⟩
  have HL0 : Below w.heap.size w ((w.alloc (blk8 d 57)).alloc (.cells #[.pointer none, .slice none 0 0] 107 (0, 0))) := below_alloc (below_alloc (Below.refl _ _) _) _
  change Code.wp _ _ _ _ ((w.alloc (blk8 d 57)).alloc (.cells #[.pointer none, .slice none 0 0] 107 (0, 0)))
  generalize (w.alloc (blk8 d 57)).alloc (.cells #[.pointer none, .slice none 0 0] 107 (0, 0)) = W1 at hld HB0 HL0 ⊢
  refine wp_seq_k fun K3 hK3 => ?_
  replace hK3 := Aside0.mk hK3
  refine wp_seq_k fun K4 hK4 => ?_
  refine wp_region_lit ?_
  refine wpList_loadRow rfl rfl rfl hld ?_
  simp only [Act.put, List.setIfInBounds_toArray, List.set_cons_zero, List.set_cons_succ]
  clear hld
  replace HB0 := Aside0.mk HB0
  replace HL0 := Aside0.mk HL0
  go_wp2_with fail
  obtain ⟨B, hB⟩ : ∃ z, z = w.heap.size := ⟨_, rfl⟩
  rw [← hB] at HB0 ⊢
  have HBB := Aside0.mk hB
  clear hB
  generalize B + 1 = b at HB0 ⊢
  go_loopw [7] (fun vi wr => ∃ i : Nat, i ≤ 32 ∧ vi = .int .i64 i ∧ Aside0 (Lib.IsBuilder 107 5 B b (Lib.byteCells (hexL d i)) wr ∧ Below w.heap.size w wr)) (fun vi _ => 32 - (intOf vi).toNat)
  case atStart => exact ⟨0, by omega, rfl, Aside0.mk ⟨HB0.out, HL0.out⟩⟩
  case round =>
    obtain ⟨i, hi, rfl, HL⟩ := hrel
    clear HB0 HL0
    by_cases hli : i < 32
    · have x1 : (i : Int) < 32 := by omega
      have ix := idx57 d hl i hli
      have hr := HD.out.2 i hli
      obtain ⟨x, hx⟩ : ∃ z, z = gi d i := ⟨_, rfl⟩
      rw [← hx] at ix hr
      replace hx := Aside0.mk hx
      have r0 := hr.1
      have r1 := hr.2
      clear hr
      have y1 : x / 16 < 16 := by omega
      have y2 : 0 ≤ x / 16 := by omega
      have y3 := and15 x r0 r1
      have y4 : x % 16 < 16 := by omega
      have y5 : 0 ≤ x % 16 := by omega
      go_wp2_with fail
      go_at_call 92
      refine (write_at B b (hexL d i) _ wr HL.out.1 (by rw [hexL_len]; omega) (by rw [HBB.out]; exact HL.out.2.size)).mono ?_
      rintro e w3 ⟨rfl, hb3, hl3⟩
      have HB3 : Aside0 (Lib.IsBuilder 107 5 B b (Lib.byteCells (hexL d i ++ [hexD (gi d i / 16).toNat])) w3) := Aside0.mk (by
        rw [← hx.out, ← dg_at (x / 16).toNat (by show _ < 16; omega)]
        exact hb3)
      have HL3 : Aside0 (Below w.heap.size w w3) := Aside0.mk (HL.out.2.trans (by rw [← HBB.out]; exact hl3))
      clear hb3 hl3
      go_wp2_with fail
      go_at_call 92
      refine (write_at B b (hexL d i ++ [hexD (gi d i / 16).toNat]) _ w3 HB3.out (by rw [List.length_append, hexL_len, List.length_singleton]; omega) (by rw [HBB.out]; exact HL3.out.size)).mono ?_
      rintro e w4 ⟨rfl, hb4, hl4⟩
      have HB4 : Aside0 (Lib.IsBuilder 107 5 B b (Lib.byteCells (hexL d (i + 1))) w4 ∧ Below w.heap.size w w4) := Aside0.mk ⟨by
        have e : hexL d (i + 1) = hexL d i ++ [hexD (gi d i / 16).toNat] ++ [hexD (x % 16).toNat] := by rw [hx.out]; rfl
        rw [e, ← dg_at (x % 16).toNat (by show _ < 16; omega)]
        exact hb4, HL3.out.trans (by rw [← HBB.out]; exact hl4)⟩
      clear hb4 hl4
      go_wp2_with fail
      refine ⟨⟨i + 1, by omega, rfl, HB4⟩, ?_⟩
      simp only [intOf]
      omega
    · obtain rfl : i = 32 := by omega
      clear hli hi
      go_wp2_with fail
      refine hK3.out _ _ ?_
      go_wp2_with (go_at_call 93; refine (Try.Builder_String_any B b (hexL d 32) wr HL.out.1 (by rw [HBB.out]; exact HL.out.2.size)).mono ?_; rintro e w5 ⟨rfl, hb5⟩)
      go_ret
      exact ⟨rfl, HL.out.2.trans (by rw [← HBB.out]; exact hb5)⟩
end Go.Proofs.Ytjfmnkmgnbbfgaa.A
