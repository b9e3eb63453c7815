/- The statement HashOf as the walk makes it: true for every text. -/
import Derived.Test.YtjfmnkmgnbbfgaaH11
import Derived.Test.YtjfmnkmgnbbfgaaH15
set_option linter.unusedVariables false
set_option linter.unusedSimpArgs false
namespace Go.Proofs.Ytjfmnkmgnbbfgaa.A
open Go.RowKit Go.Proofs.YtjfmnkmgnbbfgaaW.PrintWords Go.Proofs.YtjfmnkmgnbbfgaaW.PrintLast Go.Proofs.YtjfmnkmgnbbfgaaW.PrintMore

theorem hexD_hv : ∀ u : UInt8, 0 ≤ hv u → hexD (hv u).toNat = u := by
  have h : (List.range 256).all (fun n => decide (hv (UInt8.ofNat n) < 0) || hexD (hv (UInt8.ofNat n)).toNat == UInt8.ofNat n) = true := by kernel_rfl
  intro u hu
  have := List.all_eq_true.1 h u.toNat (List.mem_range.2 u.toNat_lt)
  rw [show UInt8.ofNat u.toNat = u from by simp] at this
  rcases Bool.or_eq_true _ _ ▸ this with h1 | h1
  · have := of_decide_eq_true h1; omega
  · exact eq_of_beq h1
theorem ofF_bytes (s : ByteArray) : isBytes (ofF s) := by
  unfold ofF
  by_cases h : ofOk s = true
  · rw [if_pos h]
    refine ⟨fillB_length _ _ _ _, fun j hj => ?_⟩
    rw [gi_fillB _ _ _ _ _ hj, if_pos hj]
    unfold ofOk at h
    rw [Bool.and_eq_true] at h
    have h2 := of_decide_eq_true (List.all_eq_true.1 h.2 j (List.mem_range.2 hj))
    unfold okAt at h2
    unfold ofD
    have r1 := hv_all (bs s (2 * j))
    have r2 := hv_all (bs s (2 * j + 1))
    omega
  · rw [if_neg h]
    refine ⟨rfl, fun j hj => ?_⟩
    have : gi (zeros 32) j = 0 := by
      unfold gi zeros
      rw [List.getD_eq_getElem?_getD, List.getElem?_replicate, if_pos hj]
      rfl
    omega
theorem ofF_len (s : ByteArray) : (ofF s).length = 32 := (ofF_bytes s).1
theorem hex_of (s : ByteArray) (h : ofOk s = true) : hexF (ofF s) = s := by
  have h0 := h
  unfold ofOk at h0
  rw [Bool.and_eq_true] at h0
  have h64 : s.size = 64 := of_decide_eq_true h0.1
  have each : ∀ j, j < 32 → okAt s j := fun j hj => of_decide_eq_true (List.all_eq_true.1 h0.2 j (List.mem_range.2 hj))
  have hd : ∀ j, j < 32 → gi (ofF s) j = ofD s j := fun j hj => by
    unfold ofF
    rw [if_pos h, gi_fillB _ _ _ _ _ hj, if_pos hj]
  have key : ∀ i, i ≤ 32 → hexL (ofF s) i = s.data.toList.take (2 * i) := by
    intro i
    induction i with
    | zero => intro _; rfl
    | succ i ih =>
      intro hi
      have hj : i < 32 := by omega
      have o := each i hj
      unfold okAt at o
      have r1 := hv_all (bs s (2 * i))
      have r2 := hv_all (bs s (2 * i + 1))
      have e1 : (ofD s i) / 16 = hv (bs s (2 * i)) := by unfold ofD; omega
      have e2 : (ofD s i) % 16 = hv (bs s (2 * i + 1)) := by unfold ofD; omega
      unfold hexL
      rw [ih (by omega), hd i hj, e1, e2, hexD_hv _ o.1, hexD_hv _ o.2]
      have l1 : 2 * i < s.data.toList.length := by rw [Array.length_toList]; show 2 * i < s.size; omega
      have l2 : 2 * i + 1 < s.data.toList.length := by rw [Array.length_toList]; show 2 * i + 1 < s.size; omega
      rw [show 2 * (i + 1) = 2 * i + 1 + 1 from by omega, List.take_add_one, List.take_add_one, List.getElem?_eq_getElem l2, List.getElem?_eq_getElem l1]
      have b1 : bs s (2 * i) = s.data.toList[2 * i] := by
        rw [← bs_at s (2 * i) (by omega)]
        rfl
      have b2 : bs s (2 * i + 1) = s.data.toList[2 * i + 1] := by
        rw [← bs_at s (2 * i + 1) (by omega)]
        rfl
      rw [b1, b2]
      rfl
  unfold hexF
  rw [key 32 (Nat.le_refl _), List.take_of_length_le (by rw [Array.length_toList]; show s.size ≤ _; omega)]
theorem wpList_loadRowW {P : Program} {ops : Array Oper} {Q : Exit → Act → World → Prop} {o : Oper} {rest : List Oper} {a : Act} {W : World} {T : TypeId} {p : Operand} {A : Value} {g : Addr}
    (ho : o.op = .load T p) (hg : Region.wanted o (yielded ops a.tmps) = true) (hp : a.eval p = .pointer (some g)) (hr : (Instr.loadAt T (.pointer (some g))).run P W = .ok A W) (h : wpList P ops Q rest (a.put o.dst A) W) : wpList P ops Q (o :: rest) a W := by
  refine wpList_step fun K hK => event_step (v := A) (w1 := W) hg ?_ (hK _ _ h)
  unfold execOp
  simp only [ho, hp, Sem.run_bind, hr, Result.andThen_ok]
  rfl
set_option maxHeartbeats 4000000 in
set_option maxRecDepth 100000 in
theorem hibernaclelaw02_HashOf.walk (s : ByteArray) (hs : s.size ≤ 140737488351232) (w : World) :
    Calls Try.prog 16 #[.string s] w fun e w' => e = .returned (.bool true) ∧ Below w.heap.size w w' := by
  by_cases h3 : 300 < s.size
  · have c1 : (300 : Int) < (s.size : Int) := by omega
    go_enter Try.func16, Try.ntmps16
    go_wp2_with (go_at_call 46; refine (alive_walk _).mono ?_; rintro e w2 ⟨rfl, hb2⟩)
    go_ret
    exact ⟨rfl, hb2⟩
  · have c1 : ¬ (300 : Int) < (s.size : Int) := by omega
    have hl := ofF_len s
    obtain ⟨D, hD⟩ : ∃ z, z = ofF s := ⟨_, rfl⟩
    obtain ⟨k, hk⟩ : ∃ z, z = ofOk s := ⟨_, rfl⟩
    have HO : ∀ w, Calls Try.prog 53 #[.string s] w fun e w' => e = .returned (.tuple #[.agg (u8s D), .bool k]) ∧ Below w.heap.size w w' := by rw [hD, hk]; exact fun w => hash_Of.walk s hs w
    have HP : ∀ w, Calls Try.prog 55 #[.string s] w fun e w' => e = .returned (.tuple #[.agg (u8s D), .bool k]) ∧ Below w.heap.size w w' := by rw [hD, hk]; exact fun w => ref_Of.walk s hs w
    have hx : k = true → hexF D = s := by rw [hD, hk]; exact hex_of s
    have hb : isBytes D := by rw [hD]; exact ofF_bytes s
    have hdl : D.length = 32 := hb.1
    have he := fun W => eq57 D D hb hb W
    rw [decide_eq_true rfl] at he
    replace HO := Aside0.mk HO
    replace HP := Aside0.mk HP
    replace hx := Aside0.mk hx
    replace hb := Aside0.mk hb
    clear hD hk hl
    go_enter Try.func16, Try.ntmps16
    refine wp_seq_k fun K1 hK1 => ?_
    replace hK1 := Aside0.mk hK1
    go_wp2_with fail
    refine hK1.out _ _ ?_
    clear hK1 K1
    refine wp_seq_k fun K2 hK2 => ?_
    replace hK2 := Aside0.mk hK2
    go_wp2_with (go_at_call 46; refine (alive_walk _).mono ?_; rintro e w2 ⟨rfl, hb2⟩)
    refine hK2.out _ _ ?_
    clear hK2 K2
    refine wp_seq_k fun K3 hK3 => ?_
    replace hK3 := Aside0.mk hK3
    go_wp2_with fail
    refine hK3.out _ _ ?_
    clear hK3 K3
    refine wp_seq_k fun K4 hK4 => ?_
    replace hK4 := Aside0.mk hK4
    go_wp2_with fail
    go_at_call 53
    refine (HO.out w2).mono ?_
    rintro e w3 ⟨rfl, hb3⟩
    have hst := storeAt8 (v' := D) (heap_alloc_last w3 (blk8 (zeros 32) 57)) rfl hdl
    dsimp only
    repeat (first | (refine wpList_storeRow (T := 57) rfl rfl rfl rfl rfl hst ?_) | go_step)
    refine hK4.out _ _ ?_
    clear hK4 K4
    have hA : ((w3.alloc (blk8 (zeros 32) 57)).setRow w3.heap.size (u8s D)).heap[w3.heap.size]? = some (blk8 D 57) := setRow_heap _ _ _ _ _ _ (heap_alloc_last w3 (blk8 (zeros 32) 57))
    have b3 : Below w.heap.size w w3 := below_then hb2 hb2.size hb3
    have b4 : Below w.heap.size w ((w3.alloc (blk8 (zeros 32) 57)).setRow w3.heap.size (u8s D)) := (b3.alloc b3.size _).trans ((But.setRow _ _).below (B := w.heap.size) b3.size (by rw [sz1 rfl]; have := b3.size; omega))
    clear hb2 hb3 b3 hst
    change Code.wp _ _ _ _ ((w3.alloc (blk8 (zeros 32) 57)).setRow w3.heap.size (u8s D))
    generalize (w3.alloc (blk8 (zeros 32) 57)).setRow w3.heap.size (u8s D) = W4 at hA b4 ⊢
    generalize w3.heap.size = g1 at hA ⊢
    replace hA := Aside0.mk hA
    replace b4 := Aside0.mk b4
    refine wp_seq_k fun K5 hK5 => ?_
    replace hK5 := Aside0.mk hK5
    go_wp2_with fail
    go_at_call 55
    refine (HP.out W4).mono ?_
    rintro e w5 ⟨rfl, hb5⟩
    have hst := storeAt8 (v' := D) (heap_alloc_last w5 (blk8 (zeros 32) 57)) rfl hdl
    dsimp only
    repeat (first | (refine wpList_storeRow (T := 57) rfl rfl rfl rfl rfl hst ?_) | go_step)
    refine hK5.out _ _ ?_
    clear hK5 K5
    have hA5 := blk_below hA.out hb5
    have l5 := blk_lt hA5
    have hA6 : ((w5.alloc (blk8 (zeros 32) 57)).setRow w5.heap.size (u8s D)).heap[g1]? = some (blk8 D 57) := (setRow_other _ _ _ _ (by omega)).trans (blk_alloc hA5 _)
    have hC6 : ((w5.alloc (blk8 (zeros 32) 57)).setRow w5.heap.size (u8s D)).heap[w5.heap.size]? = some (blk8 D 57) := setRow_heap _ _ _ _ _ _ (heap_alloc_last w5 (blk8 (zeros 32) 57))
    have b5 : Below w.heap.size w w5 := below_then b4.out b4.out.size hb5
    have b6 : Below w.heap.size w ((w5.alloc (blk8 (zeros 32) 57)).setRow w5.heap.size (u8s D)) := (b5.alloc b5.size _).trans ((But.setRow _ _).below (B := w.heap.size) b5.size (by rw [sz1 rfl]; have := b5.size; omega))
    clear hb5 b5 hst hA5 l5
    change Code.wp _ _ _ _ ((w5.alloc (blk8 (zeros 32) 57)).setRow w5.heap.size (u8s D))
    generalize (w5.alloc (blk8 (zeros 32) 57)).setRow w5.heap.size (u8s D) = W6 at hA6 hC6 b6 ⊢
    generalize w5.heap.size = g2 at hC6 ⊢
    have hld1 := loadAt8 hA6 hdl
    have hld2 := loadAt8 hC6 hdl
    replace hA6 := Aside0.mk hA6
    replace hC6 := Aside0.mk hC6
    replace b6 := Aside0.mk b6
    cases k with
    | false =>
      repeat (first | (refine wpList_loadRowW (T := 57) rfl rfl rfl hld1 ?_; simp only [Act.put, List.setIfInBounds_toArray, List.set_cons_zero, List.set_cons_succ]) | (refine wpList_loadRowW (T := 57) rfl rfl rfl hld2 ?_; simp only [Act.put, List.setIfInBounds_toArray, List.set_cons_zero, List.set_cons_succ]) | go_step)
      go_ret
      exact ⟨by simp, b6.out⟩
    | true =>
      have hXX : ∀ w, Calls Try.prog 52 #[.agg (u8s D)] w fun e w' => e = .returned (.string s) ∧ Below w.heap.size w w' := by
        have := fun w => hash_Hex.walk D hb.out w
        rw [hx.out rfl] at this
        exact this
      repeat (first | (refine wpList_loadRowW (T := 57) rfl rfl rfl hld1 ?_; simp only [Act.put, List.setIfInBounds_toArray, List.set_cons_zero, List.set_cons_succ]) | (refine wpList_loadRowW (T := 57) rfl rfl rfl hld2 ?_; simp only [Act.put, List.setIfInBounds_toArray, List.set_cons_zero, List.set_cons_succ]) | go_step)
      go_at_call 52
      refine (hXX W6).mono ?_
      rintro e w7 ⟨rfl, hb7⟩
      dsimp only
      go_wp2_with fail
      go_ret
      exact ⟨by simp, below_then b6.out b6.out.size hb7⟩
end Go.Proofs.Ytjfmnkmgnbbfgaa.A
