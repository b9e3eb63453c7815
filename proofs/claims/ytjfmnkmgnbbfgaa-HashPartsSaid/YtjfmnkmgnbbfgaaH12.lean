/- The statement HashKeyed as the walk makes it: true for every key and text. -/
import Derived.Test.YtjfmnkmgnbbfgaaH11
set_option linter.unusedVariables false
set_option linter.unusedSimpArgs false
namespace Go.Proofs.Ytjfmnkmgnbbfgaa.A
open Go.RowKit Go.Proofs.YtjfmnkmgnbbfgaaW.PrintWords Go.Proofs.YtjfmnkmgnbbfgaaW.PrintLast Go.Proofs.YtjfmnkmgnbbfgaaW.PrintMore

theorem exec_load {P : Program} {o : Oper} {a : Act} {W : World} {T : TypeId} {p : Operand} {A : Value} {g : Addr} (ho : o.op = .load T p) (hp : a.eval p = .pointer (some g)) (hr : (Instr.loadAt T (.pointer (some g))).run P W = .ok A W) : (execOp a.eval o).run P W = .ok (.value A) W := by
  unfold execOp
  simp only [ho, hp, Sem.run_bind, hr, Result.andThen_ok]
  rfl
theorem loadAt61 {W : World} {g : Nat} {v : List Int} (h : W.heap[g]? = some (blk8 v 61)) (hl : v.length = 32) : (Instr.loadAt 61 (.pointer (some ⟨g, 0, none⟩))).run Try.prog W = .ok (.agg (u8s v)) W := by
  simp only [Instr.loadAt, Instr.sureAddr, Sem.run_bind, Sem.run_pure, Result.andThen]
  exact run_loadVar_row _ g 61 61 (u8s v) (0, 0) _ h Try.underlying61 rfl (by rw [show (u8s v).size = 32 from by simp [u8s, hl]]; kernel_rfl)
def keyF (key : List Int) (s : ByteArray) : List Int := digF hKey (keyS key ++ nulB 32 ++ s)
theorem key1_at (key : List Int) (hk : key.length = 32) (s : ByteArray) (hs : s.size ≤ 900000) (W : World) (g : Nat) (hg : W.heap[g]? = some (.cells #[.string s] 9 (0, 0))) :
    Calls Try.prog 49 #[.agg (u8s key), .slice (some ⟨g, 0, none⟩) 1 1] W fun e w' => e = .returned (.agg (u8s (keyF key s))) ∧ Below W.heap.size W w' := by
  have hC : Kd.C Kd.string W (some ⟨g, 0, none⟩) 1 [s] := C_lit (l := [s]) hg (by simp)
  refine (hash_Keyed.walk key hk _ 1 [s] _ hC (Nat.le_refl _) (by simp) (by rw [joinS_one]; exact hs)).mono ?_
  rintro e w' ⟨rfl, hb⟩
  rw [joinS_one]
  exact ⟨rfl, hb⟩
theorem rkey1_at (key : List Int) (hk : key.length = 32) (s : ByteArray) (hs : s.size ≤ 900000) (W : World) (g : Nat) (hg : W.heap[g]? = some (.cells #[.string s] 9 (0, 0))) :
    Calls Try.prog 50 #[.agg (u8s key), .slice (some ⟨g, 0, none⟩) 1 1] W fun e w' => e = .returned (.agg (u8s (keyF key s))) ∧ Below W.heap.size W w' := by
  have hC : Kd.C Kd.string W (some ⟨g, 0, none⟩) 1 [s] := C_lit (l := [s]) hg (by simp)
  refine (ref_Keyed.walk key hk _ 1 [s] _ hC (Nat.le_refl _) (by simp) (by rw [joinS_one]; exact hs)).mono ?_
  rintro e w' ⟨rfl, hb⟩
  rw [joinS_one]
  exact ⟨rfl, hb⟩
def hkey.T : Bool × List (List Nat × List Nat) := (true, [([], []), ([0], [0]), ([1], [1]), ([2], [2]), ([3], [3]), ([3], [3]), ([5, 3], [3, 5]), ([4, 6, 3, 3], [3, 4, 6]), ([3], [3]), ([3], [3]), ([9, 3], [3, 9]), ([8, 10, 7, 3], [3, 8, 10]), ([7, 11, 3], [3, 7, 11]), ([3, 12], [3, 12]), ([13, 11, 0, 1, 2, 3, 4, 5, 6, 7, 8, 9, 10, 11, 12, 13], [13])])
def hkey.B : List Nat := [0, 1, 3, 7, 15, 15, 47, 127, 15, 15, 527, 2047, 4095, 8191, 16383]
theorem hkey.tab : rtab .any (opsOf Try.f10 3) = hkey.T := by kernel_rfl
theorem hkey.bits : waitsOk hkey.T.2 hkey.B = true := by kernel_rfl
set_option maxHeartbeats 4000000 in
set_option maxRecDepth 100000 in
theorem hibernaclelaw02_HashKeyed.walk (key : List Int) (hk : key.length = 32) (s : ByteArray) (hs : s.size ≤ 140737488351232) (w : World) :
    Calls Try.prog 10 #[.agg (u8s key), .string s] w fun e w' => e = .returned (.bool true) ∧ Below w.heap.size w w' := by
  by_cases h7 : 700 < s.size
  · have c1 : (700 : Int) < (s.size : Int) := by omega
    have cd : decide ((700 : Int) < (s.size : Int)) = true := decide_eq_true c1
    go_enter Try.func10, Try.ntmps10
    go_wp2_with (go_at_call 46; refine (alive_walk _).mono ?_; rintro e w2 ⟨rfl, hb2⟩)
    have hb2' : Below (w.alloc (blk8 key 61)).heap.size (w.alloc (blk8 key 61)) w2 := hb2
    have hB : Below w.heap.size w w2.drew := (below_then (below_alloc (Below.refl _ _) _) (below_alloc (Below.refl _ _) _).size hb2').drew
    have hkd : w2.drew.heap[w.heap.size]? = some (blk8 key 61) := (show w2.heap[w.heap.size]? = some (blk8 key 61) from blk_below (heap_alloc_last w (blk8 key 61)) hb2')
    clear hb2 hb2'
    obtain ⟨gk, hgk⟩ : ∃ z, z = w.heap.size := ⟨_, rfl⟩
    rw [← hgk] at hkd ⊢
    replace hgk := Aside0.mk hgk
    rename_i KK hKK
    replace hKK := Aside0.mk hKK
    refine start_ (n := 15) (S := fun w' => w'.heap[gk]? = some (blk8 key 61)) (ds := []) #[false, false, false, false, false, false, false, false, false, false, false, false, false, false, false] (by kernel_rfl) rfl rfl hkd (fun hHeld => ?_); refine with_tabW hkey.tab hkey.bits (fun HT_ HW_ => ?_)
    refine pure_ (i := 0) (N := (some 7)) (v := ?_) (a' := ?_) #[true, false, false, false, false, false, false, false, false, false, false, false, false, false, false] rfl rfl (any_of HT_.out (by kernel_rfl)) (fun _ _ _ h => h) (Or.inl ⟨by rfl, ?_⟩) ?_ ?_
    rotate_left
    · intro w'
      go_simp
      with_reducible rfl
    rotate_left
    · simp only [Act.put, List.setIfInBounds_toArray, List.set_cons_zero, List.set_cons_succ, i64_w, i32_w]
      rfl
    refine pure_ (i := 1) (N := (some 8)) (v := ?_) (a' := ?_) #[true, true, false, false, false, false, false, false, false, false, false, false, false, false, false] rfl rfl (any_of HT_.out (by kernel_rfl)) (fun _ _ _ h => h) (Or.inl ⟨by rfl, ?_⟩) ?_ ?_
    rotate_left
    · intro w'
      go_simp
      with_reducible rfl
    rotate_left
    · simp only [Act.put, List.setIfInBounds_toArray, List.set_cons_zero, List.set_cons_succ, i64_w, i32_w]
      rfl
    refine pure_ (i := 2) (N := (some 9)) (v := ?_) (a' := ?_) #[true, true, true, false, false, false, false, false, false, false, false, false, false, false, false] rfl rfl (any_of HT_.out (by kernel_rfl)) (fun _ _ _ h => h) (Or.inl ⟨by rfl, ?_⟩) ?_ ?_
    rotate_left
    · intro w'
      go_simp
      with_reducible rfl
    rotate_left
    · simp only [Act.put, List.setIfInBounds_toArray, List.set_cons_zero, List.set_cons_succ, i64_w, i32_w]
      rfl
    refine pure_ (i := 3) (N := (some 10)) (v := ?_) (a' := ?_) #[true, true, true, true, false, false, false, false, false, false, false, false, false, false, false] rfl rfl (any_of HT_.out (by kernel_rfl)) (fun _ _ _ h => h) (Or.inl ⟨by rfl, ?_⟩) ?_ ?_
    rotate_left
    · intro w'
      go_simp
      with_reducible rfl
    rotate_left
    · simp only [Act.put, List.setIfInBounds_toArray, List.set_cons_zero, List.set_cons_succ, i64_w, i32_w]
      rfl
    refine pure_ (i := 4) (N := (some 11)) (v := undef) (a' := ?_) #[true, true, true, true, true, false, false, false, false, false, false, false, false, false, false] rfl rfl (any_of HT_.out (by kernel_rfl)) (fun _ _ _ h => h) (Or.inr ⟨by rfl, rfl⟩) ?_ ?_
    rotate_left
    · simp only [Act.put, List.setIfInBounds_toArray, List.set_cons_zero, List.set_cons_succ, i64_w, i32_w]
      rfl
    refine pure_ (i := 5) (N := (some 12)) (v := undef) (a' := ?_) #[true, true, true, true, true, true, false, false, false, false, false, false, false, false, false] rfl rfl (any_of HT_.out (by kernel_rfl)) (fun _ _ _ h => h) (Or.inr ⟨by rfl, rfl⟩) ?_ ?_
    rotate_left
    · simp only [Act.put, List.setIfInBounds_toArray, List.set_cons_zero, List.set_cons_succ, i64_w, i32_w]
      rfl
    refine pure_ (i := 6) (N := (some 13)) (v := undef) (a' := ?_) #[true, true, true, true, true, true, true, false, false, false, false, false, false, false, false] rfl rfl (any_of HT_.out (by kernel_rfl)) (fun _ _ _ h => h) (Or.inr ⟨by rfl, rfl⟩) ?_ ?_
    rotate_left
    · simp only [Act.put, List.setIfInBounds_toArray, List.set_cons_zero, List.set_cons_succ, i64_w, i32_w]
      rfl
    refine pure_ (i := 7) (N := (some 14)) (v := undef) (a' := ?_) #[true, true, true, true, true, true, true, true, false, false, false, false, false, false, false] rfl rfl (any_of HT_.out (by kernel_rfl)) (fun _ _ _ h => h) (Or.inr ⟨by rfl, rfl⟩) ?_ ?_
    rotate_left
    · simp only [Act.put, List.setIfInBounds_toArray, List.set_cons_zero, List.set_cons_succ, i64_w, i32_w]
      rfl
    refine pure_ (i := 8) (N := (some 15)) (v := undef) (a' := ?_) #[true, true, true, true, true, true, true, true, true, false, false, false, false, false, false] rfl rfl (any_of HT_.out (by kernel_rfl)) (fun _ _ _ h => h) (Or.inr ⟨by rfl, rfl⟩) ?_ ?_
    rotate_left
    · simp only [Act.put, List.setIfInBounds_toArray, List.set_cons_zero, List.set_cons_succ, i64_w, i32_w]
      rfl
    refine pure_ (i := 9) (N := (some 16)) (v := undef) (a' := ?_) #[true, true, true, true, true, true, true, true, true, true, false, false, false, false, false] rfl rfl (any_of HT_.out (by kernel_rfl)) (fun _ _ _ h => h) (Or.inr ⟨by rfl, rfl⟩) ?_ ?_
    rotate_left
    · simp only [Act.put, List.setIfInBounds_toArray, List.set_cons_zero, List.set_cons_succ, i64_w, i32_w]
      rfl
    refine pure_ (i := 10) (N := (some 17)) (v := undef) (a' := ?_) #[true, true, true, true, true, true, true, true, true, true, true, false, false, false, false] rfl rfl (any_of HT_.out (by kernel_rfl)) (fun _ _ _ h => h) (Or.inr ⟨by rfl, rfl⟩) ?_ ?_
    rotate_left
    · simp only [Act.put, List.setIfInBounds_toArray, List.set_cons_zero, List.set_cons_succ, i64_w, i32_w]
      rfl
    refine pure_ (i := 11) (N := (some 18)) (v := undef) (a' := ?_) #[true, true, true, true, true, true, true, true, true, true, true, true, false, false, false] rfl rfl (any_of HT_.out (by kernel_rfl)) (fun _ _ _ h => h) (Or.inr ⟨by rfl, rfl⟩) ?_ ?_
    rotate_left
    · simp only [Act.put, List.setIfInBounds_toArray, List.set_cons_zero, List.set_cons_succ, i64_w, i32_w]
      rfl
    refine pure_ (i := 12) (N := (some 19)) (v := undef) (a' := ?_) #[true, true, true, true, true, true, true, true, true, true, true, true, true, false, false] rfl rfl (any_of HT_.out (by kernel_rfl)) (fun _ _ _ h => h) (Or.inr ⟨by rfl, rfl⟩) ?_ ?_
    rotate_left
    · simp only [Act.put, List.setIfInBounds_toArray, List.set_cons_zero, List.set_cons_succ, i64_w, i32_w]
      rfl
    refine pure_ (i := 13) (N := (some 20)) (v := ?_) (a' := ?_) #[true, true, true, true, true, true, true, true, true, true, true, true, true, true, false] rfl rfl (any_of HT_.out (by kernel_rfl)) (fun _ _ _ h => h) (Or.inl ⟨by rfl, ?_⟩) ?_ ?_
    rotate_left
    · intro w'
      go_simp
      with_reducible rfl
    rotate_left
    · simp only [Act.put, List.setIfInBounds_toArray, List.set_cons_zero, List.set_cons_succ, i64_w, i32_w]
      rfl
    refine pure_ (i := 14) (N := (some 4)) (v := ?_) (a' := ?_) #[true, true, true, true, true, true, true, true, true, true, true, true, true, true, true] rfl rfl (any_of HT_.out (by kernel_rfl)) (fun _ _ _ h => h) (Or.inl ⟨by rfl, ?_⟩) ?_ ?_
    rotate_left
    · intro w'
      go_simp
      with_reducible rfl
    rotate_left
    · simp only [Act.put, List.setIfInBounds_toArray, List.set_cons_zero, List.set_cons_succ, i64_w, i32_w]
      rfl
    refine done_ (done_of HT_.out (by kernel_rfl)) ?_
    change KK _ _
    refine hKK.out _ _ ?_
    go_wp2_with fail
    go_ret
    exact ⟨by simp, hB⟩
  · have c1 : ¬ (700 : Int) < (s.size : Int) := by omega
    have cd : decide ((700 : Int) < (s.size : Int)) = false := decide_eq_false c1
    have hs9 : s.size ≤ 900000 := by omega
    have he := fun W => eq57 (keyF key s) (keyF key s) (dig_bytes _ _) (dig_bytes _ _) W
    rw [decide_eq_true rfl] at he
    go_enter Try.func10, Try.ntmps10
    go_wp2_with (go_at_call 46; refine (alive_walk _).mono ?_; rintro e w2 ⟨rfl, hb2⟩)
    have hb2' : Below (w.alloc (blk8 key 61)).heap.size (w.alloc (blk8 key 61)) w2 := hb2
    have hB : Below w.heap.size w w2.drew := (below_then (below_alloc (Below.refl _ _) _) (below_alloc (Below.refl _ _) _).size hb2').drew
    have hkd : w2.drew.heap[w.heap.size]? = some (blk8 key 61) := (show w2.heap[w.heap.size]? = some (blk8 key 61) from blk_below (heap_alloc_last w (blk8 key 61)) hb2')
    clear hb2 hb2'
    obtain ⟨gk, hgk⟩ : ∃ z, z = w.heap.size := ⟨_, rfl⟩
    rw [← hgk] at hkd ⊢
    replace hgk := Aside0.mk hgk
    rename_i KK hKK
    replace hKK := Aside0.mk hKK
    refine start_ (n := 15) (S := fun w' => w'.heap[gk]? = some (blk8 key 61)) (ds := []) #[false, false, false, false, false, false, false, false, false, false, false, false, false, false, false] (by kernel_rfl) rfl rfl hkd (fun hHeld => ?_); refine with_tabW hkey.tab hkey.bits (fun HT_ HW_ => ?_)
    generalize w2.drew = W1 at hB hkd hHeld ⊢
    refine pure_ (i := 0) (N := (some 7)) (v := ?_) (a' := ?_) #[true, false, false, false, false, false, false, false, false, false, false, false, false, false, false] rfl rfl (any_of HT_.out (by kernel_rfl)) (fun _ _ _ h => h) (Or.inl ⟨by rfl, ?_⟩) ?_ ?_
    rotate_left
    · intro w'
      go_simp
      with_reducible rfl
    rotate_left
    · simp only [Act.put, List.setIfInBounds_toArray, List.set_cons_zero, List.set_cons_succ, i64_w, i32_w]
      rfl
    refine pure_ (i := 1) (N := (some 8)) (v := ?_) (a' := ?_) #[true, true, false, false, false, false, false, false, false, false, false, false, false, false, false] rfl rfl (any_of HT_.out (by kernel_rfl)) (fun _ _ _ h => h) (Or.inl ⟨by rfl, ?_⟩) ?_ ?_
    rotate_left
    · intro w'
      go_simp
      with_reducible rfl
    rotate_left
    · simp only [Act.put, List.setIfInBounds_toArray, List.set_cons_zero, List.set_cons_succ, i64_w, i32_w]
      rfl
    refine pure_ (i := 2) (N := (some 9)) (v := ?_) (a' := ?_) #[true, true, true, false, false, false, false, false, false, false, false, false, false, false, false] rfl rfl (any_of HT_.out (by kernel_rfl)) (fun _ _ _ h => h) (Or.inl ⟨by rfl, ?_⟩) ?_ ?_
    rotate_left
    · intro w'
      go_simp
      with_reducible rfl
    rotate_left
    · simp only [Act.put, List.setIfInBounds_toArray, List.set_cons_zero, List.set_cons_succ, i64_w, i32_w]
      rfl
    refine pure_ (i := 3) (N := (some 10)) (v := ?_) (a' := ?_) #[true, true, true, true, false, false, false, false, false, false, false, false, false, false, false] rfl rfl (any_of HT_.out (by kernel_rfl)) (fun _ _ _ h => h) (Or.inl ⟨by rfl, ?_⟩) ?_ ?_
    rotate_left
    · intro w'
      go_simp
      with_reducible rfl
    rotate_left
    · simp only [Act.put, List.setIfInBounds_toArray, List.set_cons_zero, List.set_cons_succ, i64_w, i32_w]
      rfl
    refine pure_ (i := 5) (N := (some 12)) (v := ?_) (a' := ?_) #[true, true, true, true, false, true, false, false, false, false, false, false, false, false, false] rfl rfl (any_of HT_.out (by kernel_rfl)) (fun _ _ _ h => h) (Or.inl ⟨by rfl, ?_⟩) ?_ ?_
    rotate_left
    · intro w'
      go_simp
      with_reducible rfl
    rotate_left
    · simp only [Act.put, List.setIfInBounds_toArray, List.set_cons_zero, List.set_cons_succ, i64_w, i32_w]
      rfl
    refine pure_ (i := 9) (N := (some 16)) (v := ?_) (a' := ?_) #[true, true, true, true, false, true, false, false, false, true, false, false, false, false, false] rfl rfl (any_of HT_.out (by kernel_rfl)) (fun _ _ _ h => h) (Or.inl ⟨by rfl, ?_⟩) ?_ ?_
    rotate_left
    · intro w'
      go_simp
      with_reducible rfl
    rotate_left
    · simp only [Act.put, List.setIfInBounds_toArray, List.set_cons_zero, List.set_cons_succ, i64_w, i32_w]
      rfl
    refine take_ (i := 4) (N := (some 11)) (v := .agg (u8s key)) (a' := ?_) #[true, true, true, true, true, true, false, false, false, true, false, false, false, false, false] rfl rfl (take_ofW HT_.out HW_.out (by kernel_rfl)) (fun _ _ _ h => h) (Or.inl ⟨by rfl, fun w' s8 => exec_load rfl rfl (loadAt61 s8 hk)⟩) hHeld ?_ ?_
    rotate_left
    · simp only [Act.put, List.setIfInBounds_toArray, List.set_cons_zero, List.set_cons_succ, i64_w, i32_w]
      rfl
    refine take_ (i := 8) (N := (some 15)) (v := .agg (u8s key)) (a' := ?_) #[true, true, true, true, true, true, false, false, true, true, false, false, false, false, false] rfl rfl (take_ofW HT_.out HW_.out (by kernel_rfl)) (fun _ _ _ h => h) (Or.inl ⟨by rfl, fun w' s8 => exec_load rfl rfl (loadAt61 s8 hk)⟩) hHeld ?_ ?_
    rotate_left
    · simp only [Act.put, List.setIfInBounds_toArray, List.set_cons_zero, List.set_cons_succ, i64_w, i32_w]
      rfl
    refine two_ (i := 6) (j := 10) (Ni := (some 13)) (Nj := (some 17)) #[true, true, true, true, true, true, true, false, true, true, false, false, false, false, false] #[true, true, true, true, true, true, false, false, true, true, true, false, false, false, false] rfl rfl rfl rfl (two_of HT_.out (by kernel_rfl)) (by decide) (by decide) (fun K hK => ?_) (fun K hK => ?_)
    · refine value_ (w1 := W1.alloc (.cells #[.string s] 9 (0, 0))) (v := .slice (some ⟨W1.heap.size, 0, none⟩) 1 1) (by rfl) rfl ?_ ?_
      · first | (go_simp; done) | (go_simp; rfl)
      have hBV1 : Below w.heap.size w (W1.alloc (.cells #[.string s] 9 (0, 0))) := below_alloc hB _
      have hkV1 : (W1.alloc (.cells #[.string s] 9 (0, 0))).heap[gk]? = some (blk8 key 61) := blk_alloc hkd _
      have hs6V1 : (W1.alloc (.cells #[.string s] 9 (0, 0))).heap[W1.heap.size]? = some (.cells #[.string s] 9 (0, 0)) := heap_alloc_last _ _
      refine hK.out _ _ hkV1 (fun hHeld => ?_)
      clear hK K
      generalize W1.alloc (.cells #[.string s] 9 (0, 0)) = V1 at hBV1 hkV1 hs6V1 hHeld ⊢
      generalize W1.heap.size = gV1 at hs6V1 ⊢
      refine norm_ (a' := ?_) ?_ ?_
      rotate_left
      · show Act.put _ (some 13) _ = _
        simp only [Act.put, List.setIfInBounds_toArray, List.set_cons_zero, List.set_cons_succ, i64_w, i32_w]
        rfl
      refine two_ (i := 7) (j := 10) (Ni := (some 14)) (Nj := (some 17)) #[true, true, true, true, true, true, true, true, true, true, false, false, false, false, false] #[true, true, true, true, true, true, true, false, true, true, true, false, false, false, false] rfl rfl rfl rfl (two_of HT_.out (by kernel_rfl)) (by decide) (by decide) (fun K hK => ?_) (fun K hK => ?_)
      · refine goes_ Try.func49 (by kernel_rfl) rfl #[.agg (u8s key), .slice (some ⟨gV1, 0, none⟩) 1 1] (by rfl) rfl rfl (by (try simp only [List.map_toArray, List.map_cons, List.map_nil]); first | done | rfl) ?_
        refine (key1_at key hk s hs9 V1 gV1 hs6V1).mono ?_
        rintro e V2 ⟨rfl, hcV2⟩
        have hBV2 : Below w.heap.size w V2 := below_then hBV1 hBV1.size hcV2
        have hkV2 : V2.heap[gk]? = some (blk8 key 61) := blk_below hkV1 hcV2
        have hs6V2 : V2.heap[gV1]? = some (.cells #[.string s] 9 (0, 0)) := blk_below hs6V1 hcV2
        refine ⟨_, rfl, ?_⟩
        refine hK.out _ _ hkV2 (fun hHeld => ?_)
        clear hK K hcV2
        refine norm_ (a' := ?_) ?_ ?_
        rotate_left
        · show Act.put _ (some 14) _ = _
          simp only [Act.put, List.setIfInBounds_toArray, List.set_cons_zero, List.set_cons_succ, i64_w, i32_w]
          rfl
        refine one_ (i := 10) (N := (some 17)) #[true, true, true, true, true, true, true, true, true, true, true, false, false, false, false] rfl rfl (one_of HT_.out (by kernel_rfl)) (by decide) (fun K hK => ?_)
        refine value_ (w1 := V2.alloc (.cells #[.string s] 9 (0, 0))) (v := .slice (some ⟨V2.heap.size, 0, none⟩) 1 1) (by rfl) rfl ?_ ?_
        · first | (go_simp; done) | (go_simp; rfl)
        have hBV3 : Below w.heap.size w (V2.alloc (.cells #[.string s] 9 (0, 0))) := below_alloc hBV2 _
        have hkV3 : (V2.alloc (.cells #[.string s] 9 (0, 0))).heap[gk]? = some (blk8 key 61) := blk_alloc hkV2 _
        have hs10V3 : (V2.alloc (.cells #[.string s] 9 (0, 0))).heap[V2.heap.size]? = some (.cells #[.string s] 9 (0, 0)) := heap_alloc_last _ _
        have hs6V3 : (V2.alloc (.cells #[.string s] 9 (0, 0))).heap[gV1]? = some (.cells #[.string s] 9 (0, 0)) := blk_alloc hs6V2 _
        refine hK.out _ _ hkV3 (fun hHeld => ?_)
        clear hK K
        generalize V2.alloc (.cells #[.string s] 9 (0, 0)) = V3 at hBV3 hkV3 hs10V3 hs6V3 hHeld ⊢
        generalize V2.heap.size = gV3 at hs10V3 ⊢
        refine norm_ (a' := ?_) ?_ ?_
        rotate_left
        · show Act.put _ (some 17) _ = _
          simp only [Act.put, List.setIfInBounds_toArray, List.set_cons_zero, List.set_cons_succ, i64_w, i32_w]
          rfl
        refine one_ (i := 11) (N := (some 18)) #[true, true, true, true, true, true, true, true, true, true, true, true, false, false, false] rfl rfl (one_of HT_.out (by kernel_rfl)) (by decide) (fun K hK => ?_)
        refine goes_ Try.func50 (by kernel_rfl) rfl #[.agg (u8s key), .slice (some ⟨gV3, 0, none⟩) 1 1] (by rfl) rfl rfl (by (try simp only [List.map_toArray, List.map_cons, List.map_nil]); first | done | rfl) ?_
        refine (rkey1_at key hk s hs9 V3 gV3 hs10V3).mono ?_
        rintro e V4 ⟨rfl, hcV4⟩
        have hBV4 : Below w.heap.size w V4 := below_then hBV3 hBV3.size hcV4
        have hkV4 : V4.heap[gk]? = some (blk8 key 61) := blk_below hkV3 hcV4
        have hs6V4 : V4.heap[gV1]? = some (.cells #[.string s] 9 (0, 0)) := blk_below hs6V3 hcV4
        have hs10V4 : V4.heap[gV3]? = some (.cells #[.string s] 9 (0, 0)) := blk_below hs10V3 hcV4
        refine ⟨_, rfl, ?_⟩
        refine hK.out _ _ hkV4 (fun hHeld => ?_)
        clear hK K hcV4
        refine norm_ (a' := ?_) ?_ ?_
        rotate_left
        · show Act.put _ (some 18) _ = _
          simp only [Act.put, List.setIfInBounds_toArray, List.set_cons_zero, List.set_cons_succ, i64_w, i32_w]
          rfl
        refine pure_ (i := 12) (N := (some 19)) (v := ?_) (a' := ?_) #[true, true, true, true, true, true, true, true, true, true, true, true, true, false, false] rfl rfl (any_of HT_.out (by kernel_rfl)) (fun _ _ _ h => h) (Or.inl ⟨by rfl, ?_⟩) ?_ ?_
        rotate_left
        · intro w'
          go_simp
          with_reducible rfl
        rotate_left
        · simp only [Act.put, List.setIfInBounds_toArray, List.set_cons_zero, List.set_cons_succ, i64_w, i32_w]
          rfl
        refine pure_ (i := 13) (N := (some 20)) (v := ?_) (a' := ?_) #[true, true, true, true, true, true, true, true, true, true, true, true, true, true, false] rfl rfl (any_of HT_.out (by kernel_rfl)) (fun _ _ _ h => h) (Or.inl ⟨by rfl, ?_⟩) ?_ ?_
        rotate_left
        · intro w'
          go_simp
          with_reducible rfl
        rotate_left
        · simp only [Act.put, List.setIfInBounds_toArray, List.set_cons_zero, List.set_cons_succ, i64_w, i32_w]
          rfl
        refine pure_ (i := 14) (N := (some 4)) (v := ?_) (a' := ?_) #[true, true, true, true, true, true, true, true, true, true, true, true, true, true, true] rfl rfl (any_of HT_.out (by kernel_rfl)) (fun _ _ _ h => h) (Or.inl ⟨by rfl, ?_⟩) ?_ ?_
        rotate_left
        · intro w'
          go_simp
          with_reducible rfl
        rotate_left
        · simp only [Act.put, List.setIfInBounds_toArray, List.set_cons_zero, List.set_cons_succ, i64_w, i32_w]
          rfl
        refine done_ (done_of HT_.out (by kernel_rfl)) ?_
        change KK _ _
        refine hKK.out _ _ ?_
        go_wp2_with fail
        go_ret
        exact ⟨by simp, hBV4⟩
      · refine value_ (w1 := V1.alloc (.cells #[.string s] 9 (0, 0))) (v := .slice (some ⟨V1.heap.size, 0, none⟩) 1 1) (by rfl) rfl ?_ ?_
        · first | (go_simp; done) | (go_simp; rfl)
        have hBV5 : Below w.heap.size w (V1.alloc (.cells #[.string s] 9 (0, 0))) := below_alloc hBV1 _
        have hkV5 : (V1.alloc (.cells #[.string s] 9 (0, 0))).heap[gk]? = some (blk8 key 61) := blk_alloc hkV1 _
        have hs10V5 : (V1.alloc (.cells #[.string s] 9 (0, 0))).heap[V1.heap.size]? = some (.cells #[.string s] 9 (0, 0)) := heap_alloc_last _ _
        have hs6V5 : (V1.alloc (.cells #[.string s] 9 (0, 0))).heap[gV1]? = some (.cells #[.string s] 9 (0, 0)) := blk_alloc hs6V1 _
        refine hK.out _ _ hkV5 (fun hHeld => ?_)
        clear hK K
        generalize V1.alloc (.cells #[.string s] 9 (0, 0)) = V5 at hBV5 hkV5 hs10V5 hs6V5 hHeld ⊢
        generalize V1.heap.size = gV5 at hs10V5 ⊢
        refine norm_ (a' := ?_) ?_ ?_
        rotate_left
        · show Act.put _ (some 17) _ = _
          simp only [Act.put, List.setIfInBounds_toArray, List.set_cons_zero, List.set_cons_succ, i64_w, i32_w]
          rfl
        refine one_ (i := 7) (N := (some 14)) #[true, true, true, true, true, true, true, true, true, true, true, false, false, false, false] rfl rfl (one_of HT_.out (by kernel_rfl)) (by decide) (fun K hK => ?_)
        refine goes_ Try.func49 (by kernel_rfl) rfl #[.agg (u8s key), .slice (some ⟨gV1, 0, none⟩) 1 1] (by rfl) rfl rfl (by (try simp only [List.map_toArray, List.map_cons, List.map_nil]); first | done | rfl) ?_
        refine (key1_at key hk s hs9 V5 gV1 hs6V5).mono ?_
        rintro e V6 ⟨rfl, hcV6⟩
        have hBV6 : Below w.heap.size w V6 := below_then hBV5 hBV5.size hcV6
        have hkV6 : V6.heap[gk]? = some (blk8 key 61) := blk_below hkV5 hcV6
        have hs6V6 : V6.heap[gV1]? = some (.cells #[.string s] 9 (0, 0)) := blk_below hs6V5 hcV6
        have hs10V6 : V6.heap[gV5]? = some (.cells #[.string s] 9 (0, 0)) := blk_below hs10V5 hcV6
        refine ⟨_, rfl, ?_⟩
        refine hK.out _ _ hkV6 (fun hHeld => ?_)
        clear hK K hcV6
        refine norm_ (a' := ?_) ?_ ?_
        rotate_left
        · show Act.put _ (some 14) _ = _
          simp only [Act.put, List.setIfInBounds_toArray, List.set_cons_zero, List.set_cons_succ, i64_w, i32_w]
          rfl
        refine one_ (i := 11) (N := (some 18)) #[true, true, true, true, true, true, true, true, true, true, true, true, false, false, false] rfl rfl (one_of HT_.out (by kernel_rfl)) (by decide) (fun K hK => ?_)
        refine goes_ Try.func50 (by kernel_rfl) rfl #[.agg (u8s key), .slice (some ⟨gV5, 0, none⟩) 1 1] (by rfl) rfl rfl (by (try simp only [List.map_toArray, List.map_cons, List.map_nil]); first | done | rfl) ?_
        refine (rkey1_at key hk s hs9 V6 gV5 hs10V6).mono ?_
        rintro e V7 ⟨rfl, hcV7⟩
        have hBV7 : Below w.heap.size w V7 := below_then hBV6 hBV6.size hcV7
        have hkV7 : V7.heap[gk]? = some (blk8 key 61) := blk_below hkV6 hcV7
        have hs6V7 : V7.heap[gV1]? = some (.cells #[.string s] 9 (0, 0)) := blk_below hs6V6 hcV7
        have hs10V7 : V7.heap[gV5]? = some (.cells #[.string s] 9 (0, 0)) := blk_below hs10V6 hcV7
        refine ⟨_, rfl, ?_⟩
        refine hK.out _ _ hkV7 (fun hHeld => ?_)
        clear hK K hcV7
        refine norm_ (a' := ?_) ?_ ?_
        rotate_left
        · show Act.put _ (some 18) _ = _
          simp only [Act.put, List.setIfInBounds_toArray, List.set_cons_zero, List.set_cons_succ, i64_w, i32_w]
          rfl
        refine pure_ (i := 12) (N := (some 19)) (v := ?_) (a' := ?_) #[true, true, true, true, true, true, true, true, true, true, true, true, true, false, false] rfl rfl (any_of HT_.out (by kernel_rfl)) (fun _ _ _ h => h) (Or.inl ⟨by rfl, ?_⟩) ?_ ?_
        rotate_left
        · intro w'
          go_simp
          with_reducible rfl
        rotate_left
        · simp only [Act.put, List.setIfInBounds_toArray, List.set_cons_zero, List.set_cons_succ, i64_w, i32_w]
          rfl
        refine pure_ (i := 13) (N := (some 20)) (v := ?_) (a' := ?_) #[true, true, true, true, true, true, true, true, true, true, true, true, true, true, false] rfl rfl (any_of HT_.out (by kernel_rfl)) (fun _ _ _ h => h) (Or.inl ⟨by rfl, ?_⟩) ?_ ?_
        rotate_left
        · intro w'
          go_simp
          with_reducible rfl
        rotate_left
        · simp only [Act.put, List.setIfInBounds_toArray, List.set_cons_zero, List.set_cons_succ, i64_w, i32_w]
          rfl
        refine pure_ (i := 14) (N := (some 4)) (v := ?_) (a' := ?_) #[true, true, true, true, true, true, true, true, true, true, true, true, true, true, true] rfl rfl (any_of HT_.out (by kernel_rfl)) (fun _ _ _ h => h) (Or.inl ⟨by rfl, ?_⟩) ?_ ?_
        rotate_left
        · intro w'
          go_simp
          with_reducible rfl
        rotate_left
        · simp only [Act.put, List.setIfInBounds_toArray, List.set_cons_zero, List.set_cons_succ, i64_w, i32_w]
          rfl
        refine done_ (done_of HT_.out (by kernel_rfl)) ?_
        change KK _ _
        refine hKK.out _ _ ?_
        go_wp2_with fail
        go_ret
        exact ⟨by simp, hBV7⟩
    · refine value_ (w1 := W1.alloc (.cells #[.string s] 9 (0, 0))) (v := .slice (some ⟨W1.heap.size, 0, none⟩) 1 1) (by rfl) rfl ?_ ?_
      · first | (go_simp; done) | (go_simp; rfl)
      have hBV8 : Below w.heap.size w (W1.alloc (.cells #[.string s] 9 (0, 0))) := below_alloc hB _
      have hkV8 : (W1.alloc (.cells #[.string s] 9 (0, 0))).heap[gk]? = some (blk8 key 61) := blk_alloc hkd _
      have hs10V8 : (W1.alloc (.cells #[.string s] 9 (0, 0))).heap[W1.heap.size]? = some (.cells #[.string s] 9 (0, 0)) := heap_alloc_last _ _
      refine hK.out _ _ hkV8 (fun hHeld => ?_)
      clear hK K
      generalize W1.alloc (.cells #[.string s] 9 (0, 0)) = V8 at hBV8 hkV8 hs10V8 hHeld ⊢
      generalize W1.heap.size = gV8 at hs10V8 ⊢
      refine norm_ (a' := ?_) ?_ ?_
      rotate_left
      · show Act.put _ (some 17) _ = _
        simp only [Act.put, List.setIfInBounds_toArray, List.set_cons_zero, List.set_cons_succ, i64_w, i32_w]
        rfl
      refine one_ (i := 6) (N := (some 13)) #[true, true, true, true, true, true, true, false, true, true, true, false, false, false, false] rfl rfl (one_of HT_.out (by kernel_rfl)) (by decide) (fun K hK => ?_)
      refine value_ (w1 := V8.alloc (.cells #[.string s] 9 (0, 0))) (v := .slice (some ⟨V8.heap.size, 0, none⟩) 1 1) (by rfl) rfl ?_ ?_
      · first | (go_simp; done) | (go_simp; rfl)
      have hBV9 : Below w.heap.size w (V8.alloc (.cells #[.string s] 9 (0, 0))) := below_alloc hBV8 _
      have hkV9 : (V8.alloc (.cells #[.string s] 9 (0, 0))).heap[gk]? = some (blk8 key 61) := blk_alloc hkV8 _
      have hs6V9 : (V8.alloc (.cells #[.string s] 9 (0, 0))).heap[V8.heap.size]? = some (.cells #[.string s] 9 (0, 0)) := heap_alloc_last _ _
      have hs10V9 : (V8.alloc (.cells #[.string s] 9 (0, 0))).heap[gV8]? = some (.cells #[.string s] 9 (0, 0)) := blk_alloc hs10V8 _
      refine hK.out _ _ hkV9 (fun hHeld => ?_)
      clear hK K
      generalize V8.alloc (.cells #[.string s] 9 (0, 0)) = V9 at hBV9 hkV9 hs6V9 hs10V9 hHeld ⊢
      generalize V8.heap.size = gV9 at hs6V9 ⊢
      refine norm_ (a' := ?_) ?_ ?_
      rotate_left
      · show Act.put _ (some 13) _ = _
        simp only [Act.put, List.setIfInBounds_toArray, List.set_cons_zero, List.set_cons_succ, i64_w, i32_w]
        rfl
      refine one_ (i := 7) (N := (some 14)) #[true, true, true, true, true, true, true, true, true, true, true, false, false, false, false] rfl rfl (one_of HT_.out (by kernel_rfl)) (by decide) (fun K hK => ?_)
      refine goes_ Try.func49 (by kernel_rfl) rfl #[.agg (u8s key), .slice (some ⟨gV9, 0, none⟩) 1 1] (by rfl) rfl rfl (by (try simp only [List.map_toArray, List.map_cons, List.map_nil]); first | done | rfl) ?_
      refine (key1_at key hk s hs9 V9 gV9 hs6V9).mono ?_
      rintro e V10 ⟨rfl, hcV10⟩
      have hBV10 : Below w.heap.size w V10 := below_then hBV9 hBV9.size hcV10
      have hkV10 : V10.heap[gk]? = some (blk8 key 61) := blk_below hkV9 hcV10
      have hs10V10 : V10.heap[gV8]? = some (.cells #[.string s] 9 (0, 0)) := blk_below hs10V9 hcV10
      have hs6V10 : V10.heap[gV9]? = some (.cells #[.string s] 9 (0, 0)) := blk_below hs6V9 hcV10
      refine ⟨_, rfl, ?_⟩
      refine hK.out _ _ hkV10 (fun hHeld => ?_)
      clear hK K hcV10
      refine norm_ (a' := ?_) ?_ ?_
      rotate_left
      · show Act.put _ (some 14) _ = _
        simp only [Act.put, List.setIfInBounds_toArray, List.set_cons_zero, List.set_cons_succ, i64_w, i32_w]
        rfl
      refine one_ (i := 11) (N := (some 18)) #[true, true, true, true, true, true, true, true, true, true, true, true, false, false, false] rfl rfl (one_of HT_.out (by kernel_rfl)) (by decide) (fun K hK => ?_)
      refine goes_ Try.func50 (by kernel_rfl) rfl #[.agg (u8s key), .slice (some ⟨gV8, 0, none⟩) 1 1] (by rfl) rfl rfl (by (try simp only [List.map_toArray, List.map_cons, List.map_nil]); first | done | rfl) ?_
      refine (rkey1_at key hk s hs9 V10 gV8 hs10V10).mono ?_
      rintro e V11 ⟨rfl, hcV11⟩
      have hBV11 : Below w.heap.size w V11 := below_then hBV10 hBV10.size hcV11
      have hkV11 : V11.heap[gk]? = some (blk8 key 61) := blk_below hkV10 hcV11
      have hs10V11 : V11.heap[gV8]? = some (.cells #[.string s] 9 (0, 0)) := blk_below hs10V10 hcV11
      have hs6V11 : V11.heap[gV9]? = some (.cells #[.string s] 9 (0, 0)) := blk_below hs6V10 hcV11
      refine ⟨_, rfl, ?_⟩
      refine hK.out _ _ hkV11 (fun hHeld => ?_)
      clear hK K hcV11
      refine norm_ (a' := ?_) ?_ ?_
      rotate_left
      · show Act.put _ (some 18) _ = _
        simp only [Act.put, List.setIfInBounds_toArray, List.set_cons_zero, List.set_cons_succ, i64_w, i32_w]
        rfl
      refine pure_ (i := 12) (N := (some 19)) (v := ?_) (a' := ?_) #[true, true, true, true, true, true, true, true, true, true, true, true, true, false, false] rfl rfl (any_of HT_.out (by kernel_rfl)) (fun _ _ _ h => h) (Or.inl ⟨by rfl, ?_⟩) ?_ ?_
      rotate_left
      · intro w'
        go_simp
        with_reducible rfl
      rotate_left
      · simp only [Act.put, List.setIfInBounds_toArray, List.set_cons_zero, List.set_cons_succ, i64_w, i32_w]
        rfl
      refine pure_ (i := 13) (N := (some 20)) (v := ?_) (a' := ?_) #[true, true, true, true, true, true, true, true, true, true, true, true, true, true, false] rfl rfl (any_of HT_.out (by kernel_rfl)) (fun _ _ _ h => h) (Or.inl ⟨by rfl, ?_⟩) ?_ ?_
      rotate_left
      · intro w'
        go_simp
        with_reducible rfl
      rotate_left
      · simp only [Act.put, List.setIfInBounds_toArray, List.set_cons_zero, List.set_cons_succ, i64_w, i32_w]
        rfl
      refine pure_ (i := 14) (N := (some 4)) (v := ?_) (a' := ?_) #[true, true, true, true, true, true, true, true, true, true, true, true, true, true, true] rfl rfl (any_of HT_.out (by kernel_rfl)) (fun _ _ _ h => h) (Or.inl ⟨by rfl, ?_⟩) ?_ ?_
      rotate_left
      · intro w'
        go_simp
        with_reducible rfl
      rotate_left
      · simp only [Act.put, List.setIfInBounds_toArray, List.set_cons_zero, List.set_cons_succ, i64_w, i32_w]
        rfl
      refine done_ (done_of HT_.out (by kernel_rfl)) ?_
      change KK _ _
      refine hKK.out _ _ ?_
      go_wp2_with fail
      go_ret
      exact ⟨by simp, hBV11⟩

end Go.Proofs.Ytjfmnkmgnbbfgaa.A
