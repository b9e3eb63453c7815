/- Layer 2: the digest of a text (hash.Of), as the walk makes it. -/
import Derived.Test.YtjfmnkmgnbbfgaaH9
set_option linter.unusedVariables false
set_option linter.unusedSimpArgs false
namespace Go.Proofs.Ytjfmnkmgnbbfgaa.A
open Go.RowKit Go.Proofs.YtjfmnkmgnbbfgaaW.PrintWords Go.Proofs.YtjfmnkmgnbbfgaaW.PrintLast Go.Proofs.YtjfmnkmgnbbfgaaW.PrintMore

def bs (s : ByteArray) (k : Nat) : UInt8 := if h : k < s.size then s[k] else 0
def hv (u : UInt8) : Int := Lib.indexByte dgS.data.toList u
theorem hv_all : ∀ u : UInt8, hv u = -1 ∨ (0 ≤ hv u ∧ hv u < 16) := by
  have h : (List.range 256).all (fun n => hv (UInt8.ofNat n) == -1 || (decide (0 ≤ hv (UInt8.ofNat n)) && decide (hv (UInt8.ofNat n) < 16))) = true := by kernel_rfl
  intro u
  have := List.all_eq_true.1 h u.toNat (List.mem_range.2 u.toNat_lt)
  simpa using this
def okAt (s : ByteArray) (i : Nat) : Prop := 0 ≤ hv (bs s (2 * i)) ∧ 0 ≤ hv (bs s (2 * i + 1))
instance (s : ByteArray) (i : Nat) : Decidable (okAt s i) := by unfold okAt; infer_instance
def ofD (s : ByteArray) (i : Nat) : Int := 16 * hv (bs s (2 * i)) + hv (bs s (2 * i + 1))
def ofOk (s : ByteArray) : Bool := decide (s.size = 64) && (List.range 32).all fun i => decide (okAt s i)
def ofF (s : ByteArray) : List Int := if ofOk s = true then fillB 32 (zeros 32) (ofD s) 32 else zeros 32
theorem or16 (a b : Int) (ha0 : 0 ≤ a) (ha : a < 16) (hb0 : 0 ≤ b) (hb : b < 16) : Go.bits .or .i64 (a * 16) b % 256 = 16 * a + b := by
  have h : (List.range 16).all (fun x => (List.range 16).all (fun y => Go.bits .or .i64 ((x : Int) * 16) (y : Int) % 256 == 16 * (x : Int) + (y : Int))) = true := by kernel_rfl
  obtain ⟨x, rfl⟩ := Int.eq_ofNat_of_zero_le ha0
  obtain ⟨y, rfl⟩ := Int.eq_ofNat_of_zero_le hb0
  have h1 := List.all_eq_true.1 h x (List.mem_range.2 (by omega))
  have h2 := List.all_eq_true.1 h1 y (List.mem_range.2 (by omega))
  exact eq_of_beq h2
theorem hv_at (u : UInt8) (w : World) : Calls Try.prog 94 #[.string ⟨#[48, 49, 50, 51, 52, 53, 54, 55, 56, 57, 97, 98, 99, 100, 101, 102]⟩, .int .u8 ((u.toNat : Nat) : Int)] w fun e w' => e = .returned (.int .i64 (hv u)) ∧ w' = w := by
  refine (Try.strings_IndexByte dgS ((u.toNat : Nat) : Int) w).mono ?_
  rintro e w' ⟨rfl, rfl⟩
  rw [Int.toNat_natCast, show u.toNat.toUInt8 = u from by simp]
  exact ⟨rfl, rfl⟩
theorem bs_at (s : ByteArray) (k : Nat) (h : k < s.size) : s[k] = bs s k := by simp [bs, h]
theorem ofOk_false (s : ByteArray) (i : Nat) (hi : i < 32) (h : ¬ okAt s i) : ofOk s = false := by
  unfold ofOk
  rw [Bool.and_eq_false_iff]
  right
  rw [List.all_eq_false]
  exact ⟨i, List.mem_range.2 hi, by simpa using h⟩
structure O1 (w W : World) (gr gd : Nat) (d : List Int) : Prop where
  B : Below w.heap.size w W
  br : W.heap[gr]? = some (blk8 (zeros 32) 57)
  bd : W.heap[gd]? = some (blk8 d 57)
  lr : w.heap.size ≤ gr
  ld : w.heap.size ≤ gd
  n : gr ≠ gd
  l32 : d.length = 32
theorem O1.drew {w W : World} {gr gd : Nat} {d : List Int} (t : O1 w W gr gd d) : O1 w W.drew gr gd d := ⟨t.B.drew, t.br, t.bd, t.lr, t.ld, t.n, t.l32⟩
theorem O1.set {w W : World} {gr gd : Nat} {d : List Int} (t : O1 w W gr gd d) (k : Nat) (x : Int) : O1 w (W.setCell ⟨gd, k, none⟩ (.int .u8 x)) gr gd (d.set k x) :=
  ⟨t.B.setCell (p := ⟨gd, k, none⟩) t.ld _, other_blk t.br t.n k _, set_blk8 t.bd k x, t.lr, t.ld, t.n, by simpa using t.l32⟩
set_option maxHeartbeats 2000000 in
set_option maxRecDepth 100000 in
theorem hash_Of.walk (s : ByteArray) (hs : s.size ≤ 140737488351232) (w : World) :
    Calls Try.prog 53 #[.string s] w fun e w' => e = .returned (.tuple #[.agg (u8s (ofF s)), .bool (ofOk s)]) ∧ Below w.heap.size w w' := by
  have HT : O1 w ((w.alloc (blk8 (zeros 32) 57)).alloc (blk8 (zeros 32) 57)) w.heap.size (w.heap.size + 1) (zeros 32) := by
    refine ⟨below_alloc (below_alloc (Below.refl _ _) _) _, blk_alloc (heap_alloc_last _ _) _, ?_, Nat.le_refl _, by omega, by omega, rfl⟩
    have := heap_alloc_last (w.alloc (blk8 (zeros 32) 57)) (blk8 (zeros 32) 57)
    rw [sz1 rfl] at this
    exact this
  by_cases h64 : s.size = 64
  · have c1 : (s.size : Int) = 64 := by omega
    go_enter Try.func53, Try.ntmps53
    go_wp2_with fail
    replace HT := Aside0.mk HT
    change Code.wp _ _ _ _ ((w.alloc (blk8 (zeros 32) 57)).alloc (blk8 (zeros 32) 57))
    generalize (w.alloc (blk8 (zeros 32) 57)).alloc (blk8 (zeros 32) 57) = W1 at HT ⊢
    generalize w.heap.size + 1 = gd at HT ⊢
    obtain ⟨gr, hgr⟩ : ∃ z, z = w.heap.size := ⟨_, rfl⟩
    rw [← hgr] at HT ⊢
    have HG := Aside0.mk hgr
    clear hgr
    rename_i K3 hK3
    replace hK3 := Aside0.mk hK3
    go_loopw [12] (fun vi wr => ∃ i : Nat, i ≤ 32 ∧ vi = .int .i64 i ∧ Aside0 (O1 w wr gr gd (fillB 32 (zeros 32) (ofD s) i) ∧ ∀ j, j < i → okAt s j)) (fun vi _ => 32 - (intOf vi).toNat)
    case atStart => exact ⟨0, by omega, rfl, Aside0.mk ⟨by rw [fillB_zero 32 _ _ rfl]; exact HT.out, fun j hj => absurd hj (by omega)⟩⟩
    case round =>
      obtain ⟨i, hi, rfl, HL⟩ := hrel
      clear HT
      by_cases hli : i < 32
      · have x1 : (i : Int) < 32 := by omega
        have w0 : IntKind.i64.wrap (2 * (i : Int)) = 2 * (i : Int) := by rw [i64_w]; unfold wrap64; omega
        have w1 : IntKind.i64.wrap (2 * (i : Int) + 1) = 2 * (i : Int) + 1 := by rw [i64_w]; unfold wrap64; omega
        have y0 : (0 : Int) ≤ 2 * (i : Int) := by omega
        have y1 : (0 : Int) ≤ 2 * (i : Int) + 1 := by omega
        have n0 : (2 * (i : Int)).toNat = 2 * i := by omega
        have n1 : (2 * (i : Int) + 1).toNat = 2 * i + 1 := by omega
        have p0 : 2 * i < s.size := by omega
        have p1 : 2 * i + 1 < s.size := by omega
        have q0 : 2 * (i : Int) < 64 := by omega
        have q1 : 2 * (i : Int) + 1 < 64 := by omega
        go_wp2_with fail
        rename_i K4 hK4
        replace hK4 := Aside0.mk hK4
        refine wp_region_still_lit (by kernel_rfl) (by kernel_rfl) ?_
        repeat still_step
        still_call (hv_at _ _)
        repeat still_step
        still_call (hv_at _ _)
        repeat still_step
        refine wpStill_nil ?_
        change K4 _ wr.drew
        have HL2 := Aside0.mk HL.out.1.drew
        have HJ := Aside0.mk HL.out.2
        generalize wr.drew = W2 at HL2 ⊢
        obtain ⟨A, hA⟩ : ∃ z, z = hv (s[2 * i]'p0) := ⟨_, rfl⟩
        obtain ⟨B, hB⟩ : ∃ z, z = hv (s[2 * i + 1]'p1) := ⟨_, rfl⟩
        rw [← hA, ← hB]
        have rA : A = -1 ∨ (0 ≤ A ∧ A < 16) := by rw [hA]; exact hv_all _
        have rB : B = -1 ∨ (0 ≤ B ∧ B < 16) := by rw [hB]; exact hv_all _
        have kA : Aside0 (A = hv (bs s (2 * i))) := Aside0.mk (by rw [hA, bs_at])
        have kB : Aside0 (B = hv (bs s (2 * i + 1))) := Aside0.mk (by rw [hB, bs_at])
        clear hA hB HL
        refine hK4.out _ _ ?_
        by_cases a0 : A < 0
        · have e1 : decide (A < 0) = true := decide_eq_true a0
          have hno : ofOk s = false := ofOk_false s i hli (fun h => by have := h.1; rw [← kA.out] at this; omega)
          replace hno := Aside0.mk hno
          have hst := storeAt8 (v' := zeros 32) HL2.out.br rfl rfl
          go_step
          repeat (first | (refine wpList_storeRow (T := 57) (A := .agg (u8s (zeros 32))) rfl rfl rfl rfl rfl hst ?_) | go_step)
          have hr2 : (W2.setRow gr (u8s (zeros 32))).heap[gr]? = some (.cells (u8s (zeros 32)) 57 (0, 0)) := setRow_heap W2 gr _ _ _ _ HL2.out.br
          refine bodyPost_ret (results_ct rfl _ _ gr 57 (u8s (zeros 32)) (0, 0) _ rfl hr2 Try.underlying57 rfl (by kernel_rfl)) rfl ?_
          refine ⟨by rw [ofF, hno.out]; rfl, HL2.out.B.trans ((But.setRow W2 _).below (B := w.heap.size) HL2.out.lr HL2.out.B.size)⟩
        · have e1 : decide (A < 0) = false := decide_eq_false a0
          by_cases b0 : B < 0
          · have e2 : decide (B < 0) = true := decide_eq_true b0
            have hno : ofOk s = false := ofOk_false s i hli (fun h => by have := h.2; rw [← kB.out] at this; omega)
            replace hno := Aside0.mk hno
            have hst := storeAt8 (v' := zeros 32) HL2.out.br rfl rfl
            go_step
            repeat (first | (refine wpList_storeRow (T := 57) (A := .agg (u8s (zeros 32))) rfl rfl rfl rfl rfl hst ?_) | go_step)
            have hr2 : (W2.setRow gr (u8s (zeros 32))).heap[gr]? = some (.cells (u8s (zeros 32)) 57 (0, 0)) := setRow_heap W2 gr _ _ _ _ HL2.out.br
            refine bodyPost_ret (results_ct rfl _ _ gr 57 (u8s (zeros 32)) (0, 0) _ rfl hr2 Try.underlying57 rfl (by kernel_rfl)) rfl ?_
            refine ⟨by rw [ofF, hno.out]; rfl, HL2.out.B.trans ((But.setRow W2 _).below (B := w.heap.size) HL2.out.lr HL2.out.B.size)⟩
          · have e2 : decide (B < 0) = false := decide_eq_false b0
            have rA2 : 0 ≤ A ∧ A < 16 := by omega
            have rB2 : 0 ≤ B ∧ B < 16 := by omega
            have r1 := rA2.1
            have r2 := rA2.2
            have r3 := rB2.1
            have r4 := rB2.2
            have e3 := or16 A B r1 r2 r3 r4
            have hoi : okAt s i := ⟨by rw [← kA.out]; exact r1, by rw [← kB.out]; exact r3⟩
            have hod : ofD s i = 16 * A + B := by rw [ofD, kA.out, kB.out]
            have HG2 : Aside0 (O1 w (W2.setCell ⟨gd, i, none⟩ (.int .u8 (16 * A + B))) gr gd (fillB 32 (zeros 32) (ofD s) (i + 1)) ∧ ∀ j, j < i + 1 → okAt s j) := Aside0.mk ⟨by
              rw [← hod, ← fillB_set 32 _ _ i hli]
              exact HL2.out.set i _, fun j hj => by
                by_cases hji : j = i
                · rw [hji]; exact hoi
                · exact HJ.out j (by omega)⟩
            have f1 := frozen_blk8 HL2.out.bd i
            have g1 := cell_blk8 HL2.out.bd i (by rw [fillB_length]; exact hli)
            replace hod := Aside0.mk hod
            replace hoi := Aside0.mk hoi
            clear rA rB rA2 rB2
            go_wp2_with fail
            refine ⟨⟨i + 1, by omega, rfl, HG2⟩, ?_⟩
            simp only [intOf]
            omega
      · obtain rfl : i = 32 := by omega
        clear hli hi
        have hld := loadAt8 HL.out.1.bd HL.out.1.l32
        have hst := storeAt8 HL.out.1.br rfl HL.out.1.l32
        have hyes : ofOk s = true := by
          unfold ofOk
          rw [Bool.and_eq_true]
          exact ⟨decide_eq_true h64, List.all_eq_true.2 fun j hj => decide_eq_true (HL.out.2 j (List.mem_range.1 hj))⟩
        replace hyes := Aside0.mk hyes
        go_wp2_with fail
        refine hK3.out _ _ ?_
        repeat (first | (refine wpList_loadRow (T := 57) rfl rfl rfl hld ?_; simp only [Act.put, List.setIfInBounds_toArray, List.set_cons_zero, List.set_cons_succ]) | (refine wpList_storeRow (T := 57) rfl rfl rfl rfl rfl hst ?_) | go_step)
        have hr2 : (wr.setRow gr (u8s (fillB 32 (zeros 32) (ofD s) 32))).heap[gr]? = some (.cells (u8s (fillB 32 (zeros 32) (ofD s) 32)) 57 (0, 0)) := setRow_heap wr gr _ _ _ _ HL.out.1.br
        refine bodyPost_ret (results_ct rfl _ _ gr 57 (u8s (fillB 32 (zeros 32) (ofD s) 32)) (0, 0) _ rfl hr2 Try.underlying57 rfl (by rw [show (u8s (fillB 32 (zeros 32) (ofD s) 32)).size = 32 from by simp [u8s, fillB_length]]; kernel_rfl)) rfl ?_
        exact ⟨by rw [ofF, hyes.out]; rfl, HL.out.1.B.trans ((But.setRow wr _).below (B := w.heap.size) HL.out.1.lr HL.out.1.B.size)⟩
  · have c1 : ¬ (s.size : Int) = 64 := by omega
    have hno : ofOk s = false := by
      unfold ofOk
      rw [decide_eq_false h64]
      rfl
    replace hno := Aside0.mk hno
    replace HT := Aside0.mk HT
    go_enter Try.func53, Try.ntmps53
    refine wp_seq_k fun K1 hK1 => ?_
    replace hK1 := Aside0.mk hK1
    go_wp2_with fail
    refine hK1.out _ _ ?_
    clear hK1 K1
    refine wp_seq_k fun K2 hK2 => ?_
    replace hK2 := Aside0.mk hK2
    go_wp2_with fail
    refine hK2.out _ _ ?_
    clear hK2 K2
    change Code.wp _ _ _ _ ((w.alloc (blk8 (zeros 32) 57)).alloc (blk8 (zeros 32) 57))
    generalize (w.alloc (blk8 (zeros 32) 57)).alloc (blk8 (zeros 32) 57) = W2 at HT ⊢
    generalize w.heap.size + 1 = gd at HT ⊢
    obtain ⟨gr, hgr⟩ : ∃ z, z = w.heap.size := ⟨_, rfl⟩
    rw [← hgr] at HT ⊢
    replace hgr := Aside0.mk hgr
    have hst := storeAt8 (v' := zeros 32) HT.out.br rfl rfl
    repeat (first | (refine wpList_storeRow (T := 57) (A := .agg (u8s (zeros 32))) rfl rfl rfl rfl rfl hst ?_) | go_step)
    have hr2 : (W2.setRow gr (u8s (zeros 32))).heap[gr]? = some (.cells (u8s (zeros 32)) 57 (0, 0)) := setRow_heap W2 gr _ _ _ _ HT.out.br
    refine bodyPost_ret (results_ct rfl _ _ gr 57 (u8s (zeros 32)) (0, 0) _ rfl hr2 Try.underlying57 rfl (by kernel_rfl)) rfl ?_
    have hfin : Below w.heap.size w (W2.setRow gr (u8s (zeros 32))) := HT.out.B.trans ((But.setRow W2 _).below (B := w.heap.size) HT.out.lr HT.out.B.size)
    rw [← hgr.out] at hfin
    exact ⟨by rw [ofF, hno.out]; rfl, hfin⟩
end Go.Proofs.Ytjfmnkmgnbbfgaa.A
