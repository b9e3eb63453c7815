/- Layer 2: the document's digest of blocks (hibernacleref02.digest): the same as the program's. -/
import Derived.Test.YtjfmnkmgnbbfgaaH4t
import Derived.Test.YtjfmnkmgnbbfgaaA96
set_option linter.unusedVariables false
set_option linter.unusedSimpArgs false
namespace Go.Proofs.Ytjfmnkmgnbbfgaa.A
open Go.RowKit Go.Proofs.YtjfmnkmgnbbfgaaW.PrintWords Go.Proofs.YtjfmnkmgnbbfgaaW.PrintLast Go.Proofs.YtjfmnkmgnbbfgaaW.PrintMore

theorem bits_u32_nonneg (op : BinOp) (x y : Int) : 0 ≤ Go.bits op .u32 x y := by
  have key : ∀ z : Int, 0 ≤ IntKind.u32.wrap z := by
    intro z
    rw [IntKind.wrap_u32']
    omega
  unfold Go.bits
  split <;> exact key _
theorem take_nonneg (h : List Int) (s : ByteArray) (c : Int) (l : Bool) (j : Nat) (hj : j < 8) : 0 ≤ gi (takeF h s c l) j := by
  unfold takeF
  rw [gi_fillB _ _ _ _ _ hj, if_pos hj]
  exact bits_u32_nonneg _ _ _
theorem bits_u32_lt (op : BinOp) (x y : Int) : Go.bits op .u32 x y < 4294967296 := by
  have key : ∀ z : Int, IntKind.u32.wrap z < 4294967296 := by
    intro z
    rw [IntKind.wrap_u32']
    omega
  unfold Go.bits
  split <;> exact key _
theorem take_lt (h : List Int) (s : ByteArray) (c : Int) (l : Bool) (j : Nat) (hj : j < 8) : gi (takeF h s c l) j < 4294967296 := by
  unfold takeF
  rw [gi_fillB _ _ _ _ _ hj, if_pos hj]
  exact bits_u32_lt _ _ _
theorem step256 (g : Int) (k : Nat) (h0 : 0 ≤ g) (h1 : g < 4294967296) : (g / 256 ^ k).tdiv 256 % 4294967296 = g / 256 ^ (k + 1) := by
  have hp : (0 : Int) ≤ 256 ^ k := Int.pow_nonneg (by decide)
  have h2 : 0 ≤ g / 256 ^ k := Int.ediv_nonneg h0 hp
  have h3 : g / 256 ^ k ≤ g := Int.ediv_le_self _ h0
  rw [Int.tdiv_eq_ediv_of_nonneg h2, Int.pow_succ, ← Int.ediv_ediv_of_nonneg hp]
  omega
theorem pow256 (m : Nat) : (2 : Int) ^ (8 * m) = 256 ^ m := by
  rw [Int.pow_mul]
  rfl
theorem nulB_succ (n : Nat) : nulB n ++ ⟨#[0]⟩ = nulB (n + 1) := by
  unfold nulB repB
  apply ByteArray.ext
  rw [ByteArray.data_append]
  show (Lib.repeatL [0] n).toArray ++ #[0] = (Lib.repeatL [0] (n + 1)).toArray
  rw [Lib.repeatL_add]
  simp [Lib.repeatL]
theorem rtake_at (A : Array Value) (h : List Int) (hA : u32s h = A) (hl : h.length = 8) (s : ByteArray) (hs : 64 ≤ s.size) (z : Int) (cnt : Nat) (hz : z = cnt) (hc : cnt < 18446744073709551616) (last : Bool) (w : World) :
    Calls Try.prog 117 #[.agg A, .string s, .int .u64 z, .bool last] w fun e w' => ∃ h2, Aside0 (h2 = takeF h s (cnt : Nat) last) ∧ h2.length = 8 ∧ e = .returned (.agg (u32s h2)) ∧ Below w.heap.size w w' := by
  subst hz hA
  refine (ref_take.walk h hl s hs _ (by omega) last w).mono ?_
  rintro e w' ⟨rfl, hb⟩
  exact ⟨_, Aside0.mk rfl, take_len _ _ _ _, rfl, hb⟩
def strLen : Value → Nat
  | .string z => z.size
  | _ => 0
set_option maxHeartbeats 2000000 in
set_option maxRecDepth 100000 in
theorem ref_digest.walk (h : List Int) (hl : h.length = 8) (s : ByteArray) (hs : s.size ≤ 1000000) (w : World) :
    Calls Try.prog 90 #[.agg (u32s h), .string s] w fun e w' => e = .returned (.agg (u8s (digF h s))) ∧ Below w.heap.size w w' := by
  go_enter Try.func90, Try.ntmps90
  go_wp2_with fail
  have HT : D1 w ((w.alloc (blk h 99)).alloc (blk8 (zeros 32) 57)) w.heap.size (w.heap.size + 1) h := by
    refine ⟨below_alloc (below_alloc (Below.refl _ _) _) _, blk_alloc (heap_alloc_last _ _) _, ?_, Nat.le_refl _, by omega, by omega, hl⟩
    have := heap_alloc_last (w.alloc (blk h 99)) (blk8 (zeros 32) 57)
    rw [sz1 rfl] at this
    exact this
  replace HT := Aside0.mk HT
  change Code.wp _ _ _ _ ((w.alloc (blk h 99)).alloc (blk8 (zeros 32) 57))
  generalize (w.alloc (blk h 99)).alloc (blk8 (zeros 32) 57) = W1 at HT ⊢
  generalize w.heap.size + 1 = gr at HT ⊢
  obtain ⟨gh, hgh⟩ : ∃ z, z = w.heap.size := ⟨_, rfl⟩
  rw [← hgh] at HT ⊢
  have HG := Aside0.mk hgh
  clear hgh
  go_loopw [5] (fun vn wr => ∃ t : Nat, t ≤ lastN s ∧ vn = .int .i64 (64 * (t : Int)) ∧ Aside0 (D1 w wr gh gr (hN h s t))) (fun vn _ => 1000000 - (intOf vn).toNat)
  case atStart => exact ⟨0, by omega, rfl, HT⟩
  case round =>
    obtain ⟨t, ht, rfl, HX⟩ := hrel
    clear HT
    obtain ⟨h1, hh1⟩ : ∃ z, z = hN h s t := ⟨_, rfl⟩
    rw [← hh1] at HX
    have HH := Aside0.mk hh1
    clear hh1
    have hag := u32s8 h1 HX.out.lh
    have k0 := cell_blk HX.out.bh 0 (by rw [HX.out.lh]; decide)
    have k1 := cell_blk HX.out.bh 1 (by rw [HX.out.lh]; decide)
    have k2 := cell_blk HX.out.bh 2 (by rw [HX.out.lh]; decide)
    have k3 := cell_blk HX.out.bh 3 (by rw [HX.out.lh]; decide)
    have k4 := cell_blk HX.out.bh 4 (by rw [HX.out.lh]; decide)
    have k5 := cell_blk HX.out.bh 5 (by rw [HX.out.lh]; decide)
    have k6 := cell_blk HX.out.bh 6 (by rw [HX.out.lh]; decide)
    have k7 := cell_blk HX.out.bh 7 (by rw [HX.out.lh]; decide)
    by_cases hlast : s.size ≤ 64 * t + 64
    · have htl : t = lastN s := by unfold lastN at ht ⊢; omega
      have c1 : (s.size : Int) ≤ 64 * (t : Int) + 64 := by omega
      have c2 : 64 * (t : Int) ≤ (s.size : Int) := by unfold lastN at ht; omega
      have c3 : (0 : Int) ≤ 64 * (t : Int) := by omega
      have c4 : (64 * (t : Int)).toNat = 64 * t := by omega
      have cd : decide ((s.size : Int) ≤ 64 * (t : Int) + 64) = true := decide_eq_true c1
      replace htl := Aside0.mk htl
      go_wp2_with fail
      obtain ⟨st, hst⟩ : ∃ z, z = s.extract (64 * t) s.size := ⟨_, rfl⟩
      rw [← hst]
      have HS := Aside0.mk hst
      have HZ : Aside0 (st.size = s.size - 64 * t) := Aside0.mk (by rw [hst, ByteArray.size_extract]; omega)
      clear hst
      go_loopw [8] (fun vb wr2 => ∃ j : Nat, j ≤ 64 - st.size ∧ vb = .string (st ++ nulB j) ∧ wr2 = wr) (fun vb _ => 64 - strLen vb)
      case atStart => exact ⟨0, by omega, by rw [show nulB 0 = ByteArray.empty from rfl, ByteArray.append_empty], rfl⟩
      case round =>
        obtain ⟨j, hj, rfl, rfl⟩ := hrel
        obtain ⟨b, hb⟩ : ∃ z, z = st ++ nulB j := ⟨_, rfl⟩
        have hbs : b.size = st.size + j := by rw [hb, ByteArray.size_append, nulB_size]
        rw [← hb]
        have HBB := Aside0.mk hb
        have HBS := Aside0.mk hbs
        clear hb hbs
        by_cases hlt : b.size < 64
        · have d1 : (b.size : Int) < 64 := by omega
          have d2 : ¬ (9223372036854775807 < b.size + 1) := by omega
          have e1 : b ++ ⟨#[0]⟩ = st ++ nulB (j + 1) := by rw [HBB.out, ByteArray.append_assoc, nulB_succ]
          replace e1 := Aside0.mk e1
          go_wp2_with fail
          have hjj : j + 1 ≤ 64 - st.size := by have := HBS.out; omega
          have hms : 64 - strLen (.string (b ++ ⟨#[0]⟩)) < 64 - strLen (.string b) := by
            show 64 - (b ++ ⟨#[0]⟩).size < 64 - b.size
            rw [ByteArray.size_append]
            show 64 - (b.size + 1) < _
            omega
          exact ⟨⟨j + 1, hjj, by rw [e1.out], trivial⟩, hms⟩
        · have d1 : ¬ (b.size : Int) < 64 := by omega
          have d3 : 64 ≤ b.size := by omega
          have d4 : (0 : Int) ≤ (s.size : Int) := by omega
          rename_i K5 hK5
          replace hK5 := Aside0.mk hK5
          go_wp2_with fail
          refine hK5.out _ _ ?_
          refine wp_seq_k fun K6 hK6 => ?_
          replace hK6 := Aside0.mk hK6
          go_wp2_with fail
          go_at_call 117
          refine (rtake_at _ h1 hag HX.out.lh _ d3 _ s.size rfl (by omega) true _).mono ?_
          rintro e w4 ⟨h2, hh2, hl2, rfl, hb4⟩
          have HY := Aside0.mk (HX.out.below hb4)
          have hst := run_storeCells_w (v' := h2) HY.out.bh (by rw [HY.out.lh, hl2])
          have hsz2 : (u32s h2).size = 8 := by simp [u32s, hl2]
          have eh2 : h2 = finF h s := by
            have e1 := HZ.out
            have e2 := HBS.out
            rw [hh2.out, HH.out, HBB.out, HS.out, finF, ← htl.out]
            congr 2
            congr 1
            omega
          have HD : Aside0 (D1 w (w4.setRow gh (u32s h2)) gh gr h2) := Aside0.mk (HY.out.setRow h2 hl2)
          have HH2 := Aside0.mk eh2
          clear eh2
          go_wp2_with fail
          refine hK6.out _ _ ?_
          clear hst hsz2 HY k0 k1 k2 k3 k4 k5 k6 k7 hb4
          generalize w4.setRow gh (u32s h2) = W6 at HD ⊢
          go_wp2_with fail
          have HE : D2 w (W6.alloc (blk8 (zeros 32) 57)) gh gr W6.heap.size h2 (zeros 32) := ⟨HD.out.below (below_alloc (Below.refl _ _) _), heap_alloc_last _ _, by have := blk_lt HD.out.bh; omega, by have := blk_lt HD.out.br; omega, HD.out.B.size, rfl⟩
          replace HE := Aside0.mk HE
          change Code.wp _ _ _ _ (W6.alloc (blk8 (zeros 32) 57))
          clear HD
          generalize W6.alloc (blk8 (zeros 32) 57) = W7 at HE ⊢
          generalize W6.heap.size = gd at HE ⊢
          have hnn : ∀ j, j < 8 → 0 ≤ gi h2 j := fun j hj => by rw [hh2.out]; exact take_nonneg _ _ _ _ j hj
          replace hnn := Aside0.mk hnn
          have hlt4 : ∀ j, j < 8 → gi h2 j < 4294967296 := fun j hj => by rw [hh2.out]; exact take_lt _ _ _ _ j hj
          replace hlt4 := Aside0.mk hlt4
          rename_i K7 hK7
          replace hK7 := Aside0.mk hK7
          go_loopw [10] (fun vi wr => ∃ i : Nat, i ≤ 32 ∧ vi = .int .i64 i ∧ Aside0 (D2 w wr gh gr gd h2 (fillB 32 (zeros 32) (outV h2) i))) (fun vi _ => 32 - (intOf vi).toNat)
          case atStart => exact ⟨0, by omega, rfl, Aside0.mk (by rw [fillB_zero 32 _ _ rfl]; exact HE.out)⟩
          case round =>
            obtain ⟨i, hi, rfl, HF⟩ := hrel
            clear HE
            by_cases hli : i < 32
            · have x1 : (i : Int) < 32 := by omega
              have x2 : (i : Int) / 4 < 8 := by omega
              have x3 : (0 : Int) ≤ (i : Int) / 4 := by omega
              have x4 : ((i : Int) / 4).toNat = i / 4 := by omega
              have x5 : (0 : Int) ≤ (i : Int) := by omega
              have kx := cell_blk HF.out.t.bh (i / 4) (by rw [HF.out.t.lh]; omega)
              go_wp2_with fail
              clear kx
              go_loopw [11, 12] (fun vx vk wr2 => ∃ k : Nat, k ≤ i % 4 ∧ vx = .int .u32 (gi h2 (i / 4) / 256 ^ k) ∧ vk = .int .i64 k ∧ wr2 = wr) (fun _ vk _ => 4 - (intOf vk).toNat)
              case atStart => exact ⟨0, by omega, by simp, rfl, rfl⟩
              case round =>
                obtain ⟨k, hk, rfl, rfl, rfl⟩ := hrel
                have h0 : 0 ≤ gi h2 (i / 4) / 256 ^ k := Int.ediv_nonneg (hnn.out _ (by omega)) (by exact Int.pow_nonneg (by decide))
                obtain ⟨X, hX⟩ : ∃ z, z = gi h2 (i / 4) / 256 ^ k := ⟨_, rfl⟩
                rw [← hX] at h0 ⊢
                replace hX := Aside0.mk hX
                by_cases hlk : k < i % 4
                · have y1 : (k : Int) < (i : Int) % 4 := by omega
                  go_wp2_with fail
                  have e256 := step256 (gi h2 (i / 4)) k (hnn.out _ (by omega)) (hlt4.out _ (by omega))
                  rw [← hX.out] at e256
                  refine ⟨⟨k + 1, by omega, by rw [e256], rfl, trivial⟩, ?_⟩
                  simp only [intOf]
                  omega
                · have y1 : ¬ (k : Int) < (i : Int) % 4 := by omega
                  have f1 := frozen_blk8 HF.out.bd i
                  have g1 := cell_blk8 HF.out.bd i (by rw [fillB_length]; omega)
                  go_wp2_with fail
                  have hki : k = i % 4 := by omega
                  have eX : X % 256 = outV h2 i := by rw [hX.out, hki, outV, pow256]
                  have HG2 : Aside0 (D2 w (wr.setCell ⟨gd, i, none⟩ (.int .u8 (X % 256))) gh gr gd h2 (fillB 32 (zeros 32) (outV h2) (i + 1))) := Aside0.mk (by
                    rw [eX, ← fillB_set 32 _ _ i hli]
                    exact HF.out.set i _)
                  refine ⟨⟨i + 1, by omega, rfl, HG2⟩, ?_⟩
                  simp only [intOf]
                  omega
            · obtain rfl : i = 32 := by omega
              clear hli hi
              have hld := loadAt8 HF.out.bd HF.out.l32
              have hst := storeAt8 HF.out.t.br rfl HF.out.l32
              go_wp2_with fail
              refine hK7.out _ _ ?_
              refine wp_seq_k fun K4 hK4 => ?_
              refine wp_region_lit ?_
              refine wpList_loadRow rfl rfl rfl hld ?_
              refine wpList_storeRow rfl rfl rfl rfl rfl hst ?_
              refine wpList_nil ?_
              change K4 _ _
              refine hK4 _ _ ?_
              clear hK4 K4 hld hst
              simp only [Act.put, List.setIfInBounds_toArray, List.set_cons_zero, List.set_cons_succ]
              go_wp2_with fail
              have eD : fillB 32 (zeros 32) (outV h2) 32 = digF h s := by rw [digF, HH2.out]
              have hgr : (wr.setRow gr (u8s (fillB 32 (zeros 32) (outV h2) 32))).heap[gr]? = some (.cells (u8s (digF h s)) 57 (0, 0)) := by rw [eD]; exact setRow_heap wr gr _ _ _ _ HF.out.t.br
              refine bodyPost_ret (results_cell_row rfl _ _ gr 57 (u8s (digF h s)) (0, 0) _ rfl hgr Try.underlying57 rfl (by rw [show (u8s (digF h s)).size = 32 from by simp [u8s, digF, fillB_length]]; kernel_rfl)) rfl ?_
              exact ⟨rfl, HF.out.t.B.trans ((But.setRow wr _).below (B := w.heap.size) HF.out.t.lr HF.out.t.B.size)⟩
    · have ht1 : t + 1 ≤ lastN s := by unfold lastN at ht ⊢; omega
      have c1 : ¬ (s.size : Int) ≤ 64 * (t : Int) + 64 := by omega
      have c2 : 64 * (t : Int) + 64 ≤ (s.size : Int) := by omega
      have c3 : (0 : Int) ≤ 64 * (t : Int) := by omega
      have c4 : (64 * (t : Int)).toNat = 64 * t := by omega
      have c5 : (64 * (t : Int) + 64).toNat = 64 * t + 64 := by omega
      have c6 : 64 * (t : Int) ≤ 64 * (t : Int) + 64 := by omega
      have c7 : (0 : Int) ≤ 64 * (t : Int) + 64 := by omega
      have c8 : 64 * t + 64 ≤ s.size := by omega
      have cd : decide ((s.size : Int) ≤ 64 * (t : Int) + 64) = false := decide_eq_false c1
      go_wp2_with fail
      go_at_call 117
      refine (rtake_at _ h1 hag HX.out.lh _ (by rw [ByteArray.size_extract]; omega) _ (64 * (t + 1)) (by omega) (by omega) false _).mono ?_
      rintro e w4 ⟨h2, hh2, hl2, rfl, hb4⟩
      have HY := Aside0.mk (HX.out.below hb4)
      have hst := run_storeCells_w (v' := h2) HY.out.bh (by rw [HY.out.lh, hl2])
      have hsz2 : (u32s h2).size = 8 := by simp [u32s, hl2]
      have eh2 : h2 = hN h s (t + 1) := by rw [hh2.out, HH.out]; rfl
      have HW : Aside0 (D1 w (w4.setRow gh (u32s h2)) gh gr (hN h s (t + 1))) := Aside0.mk (by
        have := HY.out.setRow h2 hl2
        rw [← eh2]
        exact this)
      replace eh2 := Aside0.mk eh2
      go_wp2_with fail
      refine ⟨⟨t + 1, ht1, by rw [show ((t + 1 : Nat) : Int) = (t : Int) + 1 from by omega, Int.mul_add]; rfl, HW⟩, ?_⟩
      have hb1 : 64 * t + 64 < 1000000 := by omega
      simp only [intOf]
      omega
end Go.Proofs.Ytjfmnkmgnbbfgaa.A
