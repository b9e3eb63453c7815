/- The statement HashTexts as the walk makes it: true for every two digests. -/
import Derived.Test.YtjfmnkmgnbbfgaaH16
import Derived.Test.YtjfmnkmgnbbfgaaH9r
set_option linter.unusedVariables false
set_option linter.unusedSimpArgs false
namespace Go.Proofs.Ytjfmnkmgnbbfgaa.A
open Go.RowKit Go.Proofs.YtjfmnkmgnbbfgaaW.PrintWords Go.Proofs.YtjfmnkmgnbbfgaaW.PrintLast Go.Proofs.YtjfmnkmgnbbfgaaW.PrintMore

theorem exec_load2 {P : Program} {o : Oper} {a : Act} {W : World} {T : TypeId} {p : Operand} {A : Value} {g : Addr} (ho : o.op = .load T p) (hp : a.eval p = .pointer (some g)) (hr : (Instr.loadAt T (.pointer (some g))).run P W = .ok A W) : (execOp a.eval o).run P W = .ok (.value A) W := by
  unfold execOp
  simp only [ho, hp, Sem.run_bind, hr, Result.andThen_ok]
  rfl
def htex.T : Bool × List (List Nat × List Nat) := (true, [([], []), ([0], [0]), ([], []), ([2, 1], [2]), ([1, 3, 0, 1], [1]), ([3, 4, 0, 1, 2, 3, 4], [3])])
def htex.B : List Nat := [0, 1, 0, 7, 15, 31]
theorem htex.tab : rtab .any (opsOf Try.f15 3) = htex.T := by kernel_rfl
theorem htex.bits : waitsOk htex.T.2 htex.B = true := by kernel_rfl
theorem bytes_inj {a b : ByteArray} (h : a.toList = b.toList) : a = b := by
  rw [ByteArray.toList_eq, ByteArray.toList_eq] at h
  exact ByteArray.ext (Array.toList_inj.1 h)
theorem hv_hexD : ∀ k, k < 16 → hv (hexD k) = (k : Int) := by
  have h : (List.range 16).all (fun k => hv (hexD k) == (k : Int)) = true := by kernel_rfl
  intro k hk
  exact eq_of_beq (List.all_eq_true.1 h k (List.mem_range.2 hk))
theorem hexL_get (d : List Int) (n : Nat) : ∀ i, i < n → (hexL d n)[2 * i]? = some (hexD (gi d i / 16).toNat) ∧ (hexL d n)[2 * i + 1]? = some (hexD (gi d i % 16).toNat) := by
  induction n with
  | zero => intro i hi; omega
  | succ n ih =>
    intro i hi
    have hl := hexL_len d n
    have e : hexL d (n + 1) = hexL d n ++ [hexD (gi d n / 16).toNat, hexD (gi d n % 16).toNat] := by
      rw [show hexL d (n + 1) = hexL d n ++ [hexD (gi d n / 16).toNat] ++ [hexD (gi d n % 16).toNat] from rfl, List.append_assoc]
      rfl
    rw [e]
    by_cases h : i < n
    · rw [List.getElem?_append_left (by omega), List.getElem?_append_left (by omega)]
      exact ih i h
    · obtain rfl : i = n := by omega
      constructor
      · rw [List.getElem?_append_right (by omega), hl, show 2 * i - 2 * i = 0 from by omega]
        rfl
      · rw [List.getElem?_append_right (by omega), hl, show 2 * i + 1 - 2 * i = 1 from by omega]
        rfl
theorem bs_list (L : List UInt8) (k : Nat) (hk : k < L.length) : bs ⟨L.toArray⟩ k = L[k] := by
  unfold bs
  rw [dif_pos (show k < (⟨L.toArray⟩ : ByteArray).size from by show k < L.toArray.size; rw [List.size_toArray]; exact hk)]
  rfl
theorem bs_hex (d : List Int) (i : Nat) (hi : i < 32) : bs (hexF d) (2 * i) = hexD (gi d i / 16).toNat ∧ bs (hexF d) (2 * i + 1) = hexD (gi d i % 16).toNat := by
  have hsz : (hexF d).size = 64 := by
    show (List.toArray _).size = 64
    rw [List.size_toArray, hexL_len]
  obtain ⟨h1, h2⟩ := hexL_get d 32 i hi
  have key : ∀ k (u : UInt8), k < 64 → (hexL d 32)[k]? = some u → bs (hexF d) k = u := by
    intro k u hk hu
    have hk2 : k < (hexL d 32).length := by rw [hexL_len]; omega
    rw [List.getElem?_eq_getElem hk2] at hu
    have := Option.some.inj hu
    rw [← this]
    exact bs_list (hexL d 32) k hk2
  exact ⟨key _ _ (by omega) h1, key _ _ (by omega) h2⟩
theorem of_hex (d : List Int) (hd : isBytes d) : ofOk (hexF d) = true ∧ ofF (hexF d) = d := by
  have hsz : (hexF d).size = 64 := by
    show (List.toArray _).size = 64
    rw [List.size_toArray, hexL_len]
  have each : ∀ i, i < 32 → hv (bs (hexF d) (2 * i)) = gi d i / 16 ∧ hv (bs (hexF d) (2 * i + 1)) = gi d i % 16 := by
    intro i hi
    have hr := hd.2 i hi
    rw [(bs_hex d i hi).1, (bs_hex d i hi).2, hv_hexD _ (by omega), hv_hexD _ (by omega)]
    omega
  have hok : ofOk (hexF d) = true := by
    unfold ofOk
    rw [Bool.and_eq_true]
    refine ⟨decide_eq_true hsz, List.all_eq_true.2 fun i hi => decide_eq_true ?_⟩
    have hi' := List.mem_range.1 hi
    have hr := hd.2 i hi'
    have e := each i hi'
    unfold okAt
    omega
  refine ⟨hok, ?_⟩
  unfold ofF
  rw [if_pos hok]
  apply List.ext_getElem
  · rw [fillB_length, hd.1]
  · intro j h1 h2
    have hj : j < 32 := by simpa [fillB] using h1
    have e := each j hj
    simp only [fillB, List.getElem_map, List.getElem_range, hj, if_true]
    unfold ofD
    have hg : gi d j = d[j] := by simp [gi, List.getD_eq_getElem?_getD, List.getElem?_eq_getElem h2]
    rw [e.1, e.2, ← hg]
    omega
set_option maxHeartbeats 8000000 in
set_option maxRecDepth 100000 in
theorem hibernaclelaw02_HashTexts.walk (d e : List Int) (hd : isBytes d) (he : isBytes e) (w : World) :
    Calls Try.prog 15 #[.agg (u8s d), .agg (u8s e)] w fun r w' => r = .returned (.bool true) ∧ Below w.heap.size w w' := by
  have hld := hd.1
  have hle := he.1
  obtain ⟨s, hs⟩ : ∃ z, z = hexF d := ⟨_, rfl⟩
  obtain ⟨t, ht⟩ : ∃ z, z = hexF e := ⟨_, rfl⟩
  have HXd : ∀ w, Calls Try.prog 52 #[.agg (u8s d)] w fun e w' => e = .returned (.string s) ∧ Below w.heap.size w w' := by rw [hs]; exact fun w => hash_Hex.walk d hd w
  have HXe : ∀ w, Calls Try.prog 52 #[.agg (u8s e)] w fun e w' => e = .returned (.string t) ∧ Below w.heap.size w w' := by rw [ht]; exact fun w => hash_Hex.walk e he w
  have HRd : ∀ w, Calls Try.prog 54 #[.agg (u8s d)] w fun e w' => e = .returned (.string s) ∧ Below w.heap.size w w' := by rw [hs]; exact fun w => ref_Hex.walk d hd w
  have hsz : s.size ≤ 140737488351232 := by
    rw [hs]
    show (List.toArray _).size ≤ _
    rw [List.size_toArray, hexL_len]
    omega
  have HO : ∀ w, Calls Try.prog 53 #[.string s] w fun e w' => e = .returned (.tuple #[.agg (u8s d), .bool true]) ∧ Below w.heap.size w w' := by
    have := fun w => hash_Of.walk s hsz w
    rw [hs, (of_hex d hd).1, (of_hex d hd).2, ← hs] at this
    exact this
  have hst : s = t ↔ d = e := by
    rw [hs, ht]
    refine ⟨fun h => ?_, fun h => by rw [h]⟩
    have h1 := (of_hex d hd).2
    have h2 := (of_hex e he).2
    rw [← h1, ← h2, h]
  have heq := fun W => eq57 d d hd hd W
  rw [decide_eq_true rfl] at heq
  have heqe := fun W => eq57 d e hd he W
  replace HXd := Aside0.mk HXd
  replace HXe := Aside0.mk HXe
  replace HRd := Aside0.mk HRd
  replace HO := Aside0.mk HO
  replace hst := Aside0.mk hst
  clear hd he hs ht hsz
  go_enter Try.func15, Try.ntmps15
  go_wp2_with (go_at_call 46; refine (alive_walk _).mono ?_; rintro e_ w2 ⟨rfl, hb2⟩)
  have hb2' : Below ((w.alloc (blk8 d 57)).alloc (blk8 e 57)).heap.size ((w.alloc (blk8 d 57)).alloc (blk8 e 57)) w2 := hb2
  have b0 : Below w.heap.size w ((w.alloc (blk8 d 57)).alloc (blk8 e 57)) := below_alloc (below_alloc (Below.refl _ _) _) _
  have hB : Below w.heap.size w w2.drew := (below_then b0 b0.size hb2').drew
  have hd1 : w2.drew.heap[w.heap.size]? = some (blk8 d 57) := (show w2.heap[w.heap.size]? = _ from blk_below (blk_alloc (heap_alloc_last w (blk8 d 57)) _) hb2')
  have hd2 : w2.drew.heap[w.heap.size + 1]? = some (blk8 e 57) := (show w2.heap[w.heap.size + 1]? = _ from blk_below (by
    have := heap_alloc_last (w.alloc (blk8 d 57)) (blk8 e 57)
    rw [sz1 rfl] at this
    exact this) hb2')
  clear hb2 hb2' b0
  generalize w.heap.size + 1 = g2 at hd2 ⊢
  obtain ⟨g1, hg1⟩ : ∃ z, z = w.heap.size := ⟨_, rfl⟩
  rw [← hg1] at hd1 ⊢
  replace hg1 := Aside0.mk hg1
  rename_i KK hKK
  replace hKK := Aside0.mk hKK
  refine start_ (n := 6) (S := fun w' => w'.heap[g1]? = some (blk8 d 57) ∧ w'.heap[g2]? = some (blk8 e 57)) (ds := []) #[false, false, false, false, false, false] (by kernel_rfl) rfl rfl ⟨hd1, hd2⟩ (fun hHeld => ?_); refine with_tabW htex.tab htex.bits (fun HT_ HW_ => ?_)
  generalize w2.drew = W1 at hB hd1 hd2 hHeld ⊢
  refine take_ (i := 0) (N := (some 11)) (v := .agg (u8s d)) (a' := ?_) #[true, false, false, false, false, false] rfl rfl (take_ofW HT_.out HW_.out (by kernel_rfl)) (fun _ _ _ h => h) (Or.inl ⟨by rfl, fun w' s8 => exec_load2 rfl rfl (loadAt8 s8.1 hld)⟩) hHeld ?_ ?_
  rotate_left
  · simp only [Act.put, List.setIfInBounds_toArray, List.set_cons_zero, List.set_cons_succ, i64_w, i32_w]
    rfl
  refine take_ (i := 2) (N := (some 13)) (v := .agg (u8s e)) (a' := ?_) #[true, false, true, false, false, false] rfl rfl (take_ofW HT_.out HW_.out (by kernel_rfl)) (fun _ _ _ h => h) (Or.inl ⟨by rfl, fun w' s8 => exec_load2 rfl rfl (loadAt8 s8.2 hle)⟩) hHeld ?_ ?_
  rotate_left
  · simp only [Act.put, List.setIfInBounds_toArray, List.set_cons_zero, List.set_cons_succ, i64_w, i32_w]
    rfl
  refine one_ (i := 1) (N := (some 12)) #[true, true, true, false, false, false] rfl rfl (one_of HT_.out (by kernel_rfl)) (by decide) (fun K hK => ?_)
  refine goes_ Try.func52 (by kernel_rfl) rfl #[.agg (u8s d)] (by rfl) rfl rfl (by (try simp only [List.map_toArray, List.map_cons, List.map_nil]); first | done | rfl) ?_
  refine (HXd.out W1).mono ?_
  rintro e_ V1 ⟨rfl, hc1⟩
  refine ⟨_, rfl, ?_⟩
  refine hK.out _ _ ⟨blk_below hd1 hc1, blk_below hd2 hc1⟩ (fun hHeld => ?_)
  clear hK K
  refine norm_ (a' := ?_) ?_ ?_
  rotate_left
  · show Act.put _ (some 12) _ = _
    simp only [Act.put, List.setIfInBounds_toArray, List.set_cons_zero, List.set_cons_succ, i64_w, i32_w]
    rfl
  refine one_ (i := 3) (N := (some 14)) #[true, true, true, true, false, false] rfl rfl (one_of HT_.out (by kernel_rfl)) (by decide) (fun K hK => ?_)
  refine goes_ Try.func52 (by kernel_rfl) rfl #[.agg (u8s e)] (by rfl) rfl rfl (by (try simp only [List.map_toArray, List.map_cons, List.map_nil]); first | done | rfl) ?_
  refine (HXe.out V1).mono ?_
  rintro e_ V2 ⟨rfl, hc2⟩
  refine ⟨_, rfl, ?_⟩
  refine hK.out _ _ ⟨blk_below (blk_below hd1 hc1) hc2, blk_below (blk_below hd2 hc1) hc2⟩ (fun hHeld => ?_)
  clear hK K
  refine norm_ (a' := ?_) ?_ ?_
  rotate_left
  · show Act.put _ (some 14) _ = _
    simp only [Act.put, List.setIfInBounds_toArray, List.set_cons_zero, List.set_cons_succ, i64_w, i32_w]
    rfl
  refine pure_ (i := 4) (N := (some 5)) (v := ?_) (a' := ?_) #[true, true, true, true, true, false] rfl rfl (any_of HT_.out (by kernel_rfl)) (fun _ _ _ h => h) (Or.inl ⟨by rfl, ?_⟩) ?_ ?_
  rotate_left
  · intro w'
    go_simp
    with_reducible rfl
  rotate_left
  · simp only [Act.put, List.setIfInBounds_toArray, List.set_cons_zero, List.set_cons_succ, i64_w, i32_w]
    rfl
  refine pure_ (i := 5) (N := (some 6)) (v := ?_) (a' := ?_) #[true, true, true, true, true, true] rfl rfl (any_of HT_.out (by kernel_rfl)) (fun _ _ _ h => h) (Or.inl ⟨by rfl, ?_⟩) ?_ ?_
  rotate_left
  · intro w'
    go_simp
    with_reducible rfl
  rotate_left
  · simp only [Act.put, List.setIfInBounds_toArray, List.set_cons_zero, List.set_cons_succ, i64_w, i32_w]
    rfl
  refine done_ (done_of HT_.out (by kernel_rfl)) ?_
  change KK _ _
  have hB2 : Below w.heap.size w V2 := below_then (below_then hB hB.size hc1) (below_then hB hB.size hc1).size hc2
  have hd1' := blk_below (blk_below hd1 hc1) hc2
  have hd2' := blk_below (blk_below hd2 hc1) hc2
  clear hd1 hd2 hc1 hc2 hB
  refine hKK.out _ _ ?_
  clear hKK KK
  refine wp_seq_k fun K4 hK4 => ?_
  replace hK4 := Aside0.mk hK4
  go_wp2_with fail
  go_at_call 53
  refine (HO.out V2).mono ?_
  rintro e_ w3 ⟨rfl, hb3⟩
  have hst3 := storeAt8 (v' := d) (heap_alloc_last w3 (blk8 (zeros 32) 57)) rfl hld
  dsimp only
  repeat (first | (refine wpList_storeRow (T := 57) rfl rfl rfl rfl rfl hst3 ?_) | go_step)
  refine hK4.out _ _ ?_
  clear hK4 K4
  have k1 := blk_below hd1' hb3
  have k2 := blk_below hd2' hb3
  have l1 := blk_lt k1
  have l2 := blk_lt k2
  have m1 : ((w3.alloc (blk8 (zeros 32) 57)).setRow w3.heap.size (u8s d)).heap[g1]? = some (blk8 d 57) := (setRow_other _ _ _ _ (by omega)).trans (blk_alloc k1 _)
  have m2 : ((w3.alloc (blk8 (zeros 32) 57)).setRow w3.heap.size (u8s d)).heap[g2]? = some (blk8 e 57) := (setRow_other _ _ _ _ (by omega)).trans (blk_alloc k2 _)
  have m3 : ((w3.alloc (blk8 (zeros 32) 57)).setRow w3.heap.size (u8s d)).heap[w3.heap.size]? = some (blk8 d 57) := setRow_heap _ _ _ _ _ _ (heap_alloc_last w3 (blk8 (zeros 32) 57))
  have b3 : Below w.heap.size w w3 := below_then hB2 hB2.size hb3
  have b4 : Below w.heap.size w ((w3.alloc (blk8 (zeros 32) 57)).setRow w3.heap.size (u8s d)) := (b3.alloc b3.size _).trans ((But.setRow _ _).below (B := w.heap.size) b3.size (by rw [sz1 rfl]; have := b3.size; omega))
  clear hb3 b3 hst3 k1 k2 l1 l2 hd1' hd2' hB2
  change Code.wp _ _ _ _ ((w3.alloc (blk8 (zeros 32) 57)).setRow w3.heap.size (u8s d))
  generalize (w3.alloc (blk8 (zeros 32) 57)).setRow w3.heap.size (u8s d) = W4 at m1 m2 m3 b4 ⊢
  generalize w3.heap.size = g3 at m3 ⊢
  have ld1 := loadAt8 m1 hld
  replace b4 := Aside0.mk b4
  replace m1 := Aside0.mk m1
  replace m2 := Aside0.mk m2
  replace m3 := Aside0.mk m3
  repeat (first | (refine wpList_loadRowW (T := 57) rfl rfl rfl ld1 ?_; simp only [Act.put, List.setIfInBounds_toArray, List.set_cons_zero, List.set_cons_succ]) | go_step)
  go_at_call 54
  refine (HRd.out W4).mono ?_
  rintro e_ w5 ⟨rfl, hb5⟩
  clear ld1
  have ld1 := loadAt8 (blk_below m1.out hb5) hld
  have ld2 := loadAt8 (blk_below m2.out hb5) hle
  have ld3 := loadAt8 (blk_below m3.out hb5) hld
  have b6 : Aside0 (Below w.heap.size w w5) := Aside0.mk (below_then b4.out b4.out.size hb5)
  clear hb5
  dsimp only
  by_cases hde : d = e
  · have hse : s = t := hst.out.2 hde
    rw [decide_eq_true hde] at heqe
    subst hde
    subst hse
    repeat (first | (refine wpList_loadRowW (T := 57) rfl rfl rfl ld1 ?_; simp only [Act.put, List.setIfInBounds_toArray, List.set_cons_zero, List.set_cons_succ]) | (refine wpList_loadRowW (T := 57) rfl rfl rfl ld2 ?_; simp only [Act.put, List.setIfInBounds_toArray, List.set_cons_zero, List.set_cons_succ]) | (refine wpList_loadRowW (T := 57) rfl rfl rfl ld3 ?_; simp only [Act.put, List.setIfInBounds_toArray, List.set_cons_zero, List.set_cons_succ]) | go_step)
    go_ret
    exact ⟨by simp, b6.out⟩
  · have hse : ¬ s = t := fun h => hde (hst.out.1 h)
    have hse2 : ¬ s.toList = t.toList := fun h => hse (bytes_inj h)
    rw [decide_eq_false hde] at heqe
    repeat (first | (refine wpList_loadRowW (T := 57) rfl rfl rfl ld1 ?_; simp only [Act.put, List.setIfInBounds_toArray, List.set_cons_zero, List.set_cons_succ]) | (refine wpList_loadRowW (T := 57) rfl rfl rfl ld2 ?_; simp only [Act.put, List.setIfInBounds_toArray, List.set_cons_zero, List.set_cons_succ]) | (refine wpList_loadRowW (T := 57) rfl rfl rfl ld3 ?_; simp only [Act.put, List.setIfInBounds_toArray, List.set_cons_zero, List.set_cons_succ]) | go_step)
    go_ret
    exact ⟨by simp [hse2], b6.out⟩
end Go.Proofs.Ytjfmnkmgnbbfgaa.A
