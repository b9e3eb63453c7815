/- The statement HashFilled as the walk makes it: true for every text, number and key. -/
import Derived.Test.YtjfmnkmgnbbfgaaH12
set_option linter.unusedVariables false
set_option linter.unusedSimpArgs false
namespace Go.Proofs.Ytjfmnkmgnbbfgaa.A
open Go.RowKit Go.Proofs.YtjfmnkmgnbbfgaaW.PrintWords Go.Proofs.YtjfmnkmgnbbfgaaW.PrintLast Go.Proofs.YtjfmnkmgnbbfgaaW.PrintMore

theorem sum2_at (s : ByteArray) (hs : s.size ≤ 900000) (W : World) (g : Nat) (hg : W.heap[g]? = some (.cells #[.string s] 9 (0, 0))) :
    Calls Try.prog 47 #[.slice (some ⟨g, 0, none⟩) 1 1] W fun e w' => e = .returned (.agg (u8s (digF hSum s))) ∧ Below W.heap.size W w' := by
  have hC : Kd.C Kd.string W (some ⟨g, 0, none⟩) 1 [s] := C_lit (l := [s]) hg (by simp)
  refine (hash_Sum.walk _ 1 [s] _ hC (Nat.le_refl _) (by simp) (by rw [joinS_one]; omega)).mono ?_
  rintro e w' ⟨rfl, hb⟩
  rw [joinS_one]
  exact ⟨rfl, hb⟩
theorem one2_at (s : ByteArray) (hs : s.size ≤ 900000) (W : World) : Calls Try.prog 48 #[.string s] W fun e w' => e = .returned (.agg (u8s (digF hSum s))) ∧ Below W.heap.size W w' := ref_One.walk s (by omega) W
def hfil.T : Bool × List (List Nat × List Nat) := (true, [([], []), ([0], [0]), ([1], [1]), ([], []), ([3, 2], [3]), ([2, 4], [2, 4]), ([5, 4], [5]), ([6], [6]), ([7, 6], [6, 7]), ([8, 6, 6], [6, 8]), ([6], [6]), ([10, 9, 6], [6, 10]), ([9, 11, 6], [6, 9, 11]), ([6, 12], [6, 12]), ([13, 11], [13]), ([14], [14]), ([14], [14]), ([16, 14], [14, 16]), ([15, 17, 14, 14], [14, 15, 17]), ([14], [14]), ([14], [14]), ([20, 14], [14, 20]), ([19, 21, 18, 14], [14, 19, 21]), ([18, 22, 14], [14, 18, 22]), ([14, 23], [14, 23]), ([24, 22], [24]), ([25], [25]), ([25], [25]), ([27, 25], [25, 27]), ([26, 28, 25, 25], [25, 26, 28]), ([25], [25]), ([25], [25]), ([31, 25], [25, 31]), ([30, 32, 29, 25], [25, 30, 32]), ([29, 33, 25], [25, 29, 33]), ([25, 34], [25, 34]), ([35, 33, 0, 1, 2, 3, 4, 5, 6, 7, 8, 9, 10, 11, 12, 13, 14, 15, 16, 17, 18, 19, 20, 21, 22, 23, 24, 25, 26, 27, 28, 29, 30, 31, 32, 33, 34, 35], [35])])
def hfil.B : List Nat := [0, 1, 3, 0, 15, 31, 63, 127, 255, 511, 127, 2047, 4095, 8191, 16383, 32767, 32767, 98303, 262143, 32767, 32767, 1081343, 4194303, 8388607, 16777215, 33554431, 67108863, 67108863, 201326591, 536870911, 67108863, 67108863, 2214592511, 8589934591, 17179869183, 34359738367, 68719476735]
theorem hfil.tab : rtab .any (opsOf Try.f12 10) = hfil.T := by kernel_rfl
theorem hfil.bits : waitsOk hfil.T.2 hfil.B = true := by kernel_rfl
set_option maxHeartbeats 8000000 in
set_option maxRecDepth 100000 in
theorem hibernaclelaw02_HashFilled.walk (s : ByteArray) (hs : s.size ≤ 140737488351232) (a1 : Int) (ha0 : 0 ≤ a1) (ha1 : a1 ≤ 255) (key : List Int) (hk : key.length = 32) (w : World) :
    Calls Try.prog 12 #[.string s, .int .u8 a1, .agg (u8s key)] w fun e w' => e = .returned (.bool true) ∧ Below w.heap.size w w' := by
  obtain ⟨n, hn⟩ : ∃ z, z = 64 * (a1 % 4) := ⟨_, rfl⟩
  have hn0 : 0 ≤ n := by omega
  have hn1 : n ≤ 192 := by omega
  go_enter Try.func12, Try.ntmps12
  go_wp2_with (go_at_call 46; refine (alive_walk _).mono ?_; rintro e w2 ⟨rfl, hb2⟩)
  rw [← hn]
  have hb2' : Below (w.alloc (blk8 key 61)).heap.size (w.alloc (blk8 key 61)) w2 := hb2
  have hB : Below w.heap.size w w2 := below_then (below_alloc (Below.refl _ _) _) (below_alloc (Below.refl _ _) _).size hb2'
  have hkd : w2.heap[w.heap.size]? = some (blk8 key 61) := blk_below (heap_alloc_last w (blk8 key 61)) hb2'
  clear hb2 hb2' hn ha0 ha1
  obtain ⟨gk, hgk⟩ : ∃ z, z = w.heap.size := ⟨_, rfl⟩
  rw [← hgk] at hkd ⊢
  replace hgk := Aside0.mk hgk
  replace hB := Aside0.mk hB
  replace hkd := Aside0.mk hkd
  go_loopw [8] (fun vt wr => ∃ t : ByteArray, t.size ≤ max s.size 300 ∧ vt = .string t ∧ wr = w2) (fun vt _ => 300 - strLen vt)
  case atStart => exact ⟨s, by omega, rfl, rfl⟩
  case round =>
    obtain ⟨t, ht, rfl, rfl⟩ := hrel
    have cw : IntKind.i64.wrap (n + 1) = n + 1 := by rw [i64_w]; unfold wrap64; omega
    by_cases hc : (t.size : Int) < n + 1 ∧ t.size < 300
    · have d1 := hc.1
      have d2 : (t.size : Int) < 300 := by omega
      have d3 : ¬ (9223372036854775807 < t.size + 1) := by omega
      have e1 : decide ((t.size : Int) < n + 1) = true := decide_eq_true d1
      have e2 : decide ((t.size : Int) < 300) = true := decide_eq_true d2
      go_wp2_with fail
      have hms : 300 - strLen (.string (t ++ ⟨#[0]⟩)) < 300 - strLen (.string t) := by
        show 300 - (t ++ ⟨#[0]⟩).size < 300 - t.size
        rw [ByteArray.size_append]
        show 300 - (t.size + 1) < _
        omega
      refine ⟨⟨t ++ ⟨#[0]⟩, ?_, rfl, trivial⟩, hms⟩
      rw [ByteArray.size_append]
      show t.size + 1 ≤ _
      omega
    · have d1 : ¬ (t.size : Int) < n + 1 := by omega
      have e1 : decide ((t.size : Int) < n + 1) = false := decide_eq_false d1
      have d2 : n + 1 ≤ (t.size : Int) := by omega
      by_cases h4 : 400 < t.size
      · have d4 : (400 : Int) < (t.size : Int) := by omega
        go_wp2_with fail
        go_ret
        exact ⟨rfl, hB.out⟩
      · have d4 : ¬ (400 : Int) < (t.size : Int) := by omega
        have hmx : max ((t.size : Int) - 1) 0 = (t.size : Int) - 1 := by omega
        have d5 : (0 : Int) ≤ (t.size : Int) - 1 := by omega
        have d6 : (t.size : Int) - 1 ≤ (t.size : Int) := by omega
        have d7 : ((t.size : Int) - 1).toNat = t.size - 1 := by omega
        have cw2 : IntKind.i64.wrap ((t.size : Int) - 1) = (t.size : Int) - 1 := by rw [i64_w]; unfold wrap64; omega
        go_wp2_with fail
        obtain ⟨u, hu⟩ : ∃ z, z = t.extract 0 (t.size - 1) := ⟨_, rfl⟩
        rw [← hu]
        have ht9 : t.size ≤ 900000 := by omega
        have hu9 : u.size ≤ 900000 := by rw [hu, ByteArray.size_extract]; omega
        have he1 := fun W => eq57 (digF hSum t) (digF hSum t) (dig_bytes _ _) (dig_bytes _ _) W
        have he2 := fun W => eq57 (digF hSum u) (digF hSum u) (dig_bytes _ _) (dig_bytes _ _) W
        have he3 := fun W => eq57 (keyF key t) (keyF key t) (dig_bytes _ _) (dig_bytes _ _) W
        have he4 := fun W => eq57 (keyF key u) (keyF key u) (dig_bytes _ _) (dig_bytes _ _) W
        rw [decide_eq_true rfl] at he1 he2 he3 he4
        clear hu
        replace hB : Below w.heap.size w wr.drew := hB.out.drew
        replace hkd : wr.drew.heap[gk]? = some (blk8 key 61) := hkd.out
        rename_i KK hKK
        replace hKK := Aside0.mk hKK
        refine start_ (n := 37) (S := fun w' => w'.heap[gk]? = some (blk8 key 61)) (ds := []) #[false, false, false, false, false, false, false, false, false, false, false, false, false, false, false, false, false, false, false, false, false, false, false, false, false, false, false, false, false, false, false, false, false, false, false, false, false] (by kernel_rfl) rfl rfl hkd (fun hHeld => ?_); refine with_tabW hfil.tab hfil.bits (fun HT_ HW_ => ?_)
        generalize wr.drew = W1 at hB hkd hHeld ⊢
        refine pure_ (i := 0) (N := (some 38)) (v := ?_) (a' := ?_) #[true, false, false, false, false, false, false, false, false, false, false, false, false, false, false, false, false, false, false, false, false, false, false, false, false, false, false, false, false, false, false, false, false, false, false, false, false] rfl rfl (any_of HT_.out (by kernel_rfl)) (fun _ _ _ h => h) (Or.inl ⟨by rfl, ?_⟩) ?_ ?_
        rotate_left
        · intro w'
          go_simp
          with_reducible rfl
        rotate_left
        · simp only [Act.put, List.setIfInBounds_toArray, List.set_cons_zero, List.set_cons_succ, i64_w, i32_w]
          rfl
        refine pure_ (i := 3) (N := (some 41)) (v := ?_) (a' := ?_) #[true, false, false, true, false, false, false, false, false, false, false, false, false, false, false, false, false, false, false, false, false, false, false, false, false, false, false, false, false, false, false, false, false, false, false, false, false] rfl rfl (any_of HT_.out (by kernel_rfl)) (fun _ _ _ h => h) (Or.inl ⟨by rfl, ?_⟩) ?_ ?_
        rotate_left
        · intro w'
          go_simp
          with_reducible rfl
        rotate_left
        · simp only [Act.put, List.setIfInBounds_toArray, List.set_cons_zero, List.set_cons_succ, i64_w, i32_w]
          rfl
        refine one_ (i := 1) (N := (some 39)) #[true, true, false, true, false, false, false, false, false, false, false, false, false, false, false, false, false, false, false, false, false, false, false, false, false, false, false, false, false, false, false, false, false, false, false, false, false] rfl rfl (one_of HT_.out (by kernel_rfl)) (by decide) (fun K hK => ?_)
        refine value_ (w1 := W1.alloc (.cells #[.string t] 9 (0, 0))) (v := .slice (some ⟨W1.heap.size, 0, none⟩) 1 1) (by rfl) rfl ?_ ?_
        · first | (go_simp; done) | (go_simp; rfl)
        have hBV1 : Below w.heap.size w (W1.alloc (.cells #[.string t] 9 (0, 0))) := below_alloc hB _
        have hkV1 : (W1.alloc (.cells #[.string t] 9 (0, 0))).heap[gk]? = some (blk8 key 61) := blk_alloc hkd _
        have hs1V1 : (W1.alloc (.cells #[.string t] 9 (0, 0))).heap[W1.heap.size]? = some (.cells #[.string t] 9 (0, 0)) := heap_alloc_last _ _
        refine hK.out _ _ hkV1 (fun hHeld => ?_)
        clear hK K
        generalize W1.alloc (.cells #[.string t] 9 (0, 0)) = V1 at hBV1 hkV1 hs1V1 hHeld ⊢
        generalize W1.heap.size = gV1 at hs1V1 ⊢
        refine norm_ (a' := ?_) ?_ ?_
        rotate_left
        · show Act.put _ (some 39) _ = _
          simp only [Act.put, List.setIfInBounds_toArray, List.set_cons_zero, List.set_cons_succ, i64_w, i32_w]
          rfl
        refine one_ (i := 2) (N := (some 40)) #[true, true, true, true, false, false, false, false, false, false, false, false, false, false, false, false, false, false, false, false, false, false, false, false, false, false, false, false, false, false, false, false, false, false, false, false, false] rfl rfl (one_of HT_.out (by kernel_rfl)) (by decide) (fun K hK => ?_)
        refine goes_ Try.func47 (by kernel_rfl) rfl #[.slice (some ⟨gV1, 0, none⟩) 1 1] (by rfl) rfl rfl (by (try simp only [List.map_toArray, List.map_cons, List.map_nil]); first | done | rfl) ?_
        refine (sum2_at t ht9 V1 gV1 hs1V1).mono ?_
        rintro e V2 ⟨rfl, hcV2⟩
        have hBV2 : Below w.heap.size w V2 := below_then hBV1 hBV1.size hcV2
        have hkV2 : V2.heap[gk]? = some (blk8 key 61) := blk_below hkV1 hcV2
        have hs1V2 : V2.heap[gV1]? = some (.cells #[.string t] 9 (0, 0)) := blk_below hs1V1 hcV2
        refine ⟨_, rfl, ?_⟩
        refine hK.out _ _ hkV2 (fun hHeld => ?_)
        clear hK K hcV2
        refine norm_ (a' := ?_) ?_ ?_
        rotate_left
        · show Act.put _ (some 40) _ = _
          simp only [Act.put, List.setIfInBounds_toArray, List.set_cons_zero, List.set_cons_succ, i64_w, i32_w]
          rfl
        refine one_ (i := 4) (N := (some 42)) #[true, true, true, true, true, false, false, false, false, false, false, false, false, false, false, false, false, false, false, false, false, false, false, false, false, false, false, false, false, false, false, false, false, false, false, false, false] rfl rfl (one_of HT_.out (by kernel_rfl)) (by decide) (fun K hK => ?_)
        refine goes_ Try.func48 (by kernel_rfl) rfl #[.string t] (by rfl) rfl rfl (by (try simp only [List.map_toArray, List.map_cons, List.map_nil]); first | done | rfl) ?_
        refine (one2_at t ht9 V2).mono ?_
        rintro e V3 ⟨rfl, hcV3⟩
        have hBV3 : Below w.heap.size w V3 := below_then hBV2 hBV2.size hcV3
        have hkV3 : V3.heap[gk]? = some (blk8 key 61) := blk_below hkV2 hcV3
        have hs1V3 : V3.heap[gV1]? = some (.cells #[.string t] 9 (0, 0)) := blk_below hs1V2 hcV3
        refine ⟨_, rfl, ?_⟩
        refine hK.out _ _ hkV3 (fun hHeld => ?_)
        clear hK K hcV3
        refine norm_ (a' := ?_) ?_ ?_
        rotate_left
        · show Act.put _ (some 42) _ = _
          simp only [Act.put, List.setIfInBounds_toArray, List.set_cons_zero, List.set_cons_succ, i64_w, i32_w]
          rfl
        refine pure_ (i := 5) (N := (some 43)) (v := ?_) (a' := ?_) #[true, true, true, true, true, true, false, false, false, false, false, false, false, false, false, false, false, false, false, false, false, false, false, false, false, false, false, false, false, false, false, false, false, false, false, false, false] rfl rfl (any_of HT_.out (by kernel_rfl)) (fun _ _ _ h => h) (Or.inl ⟨by rfl, ?_⟩) ?_ ?_
        rotate_left
        · intro w'
          go_simp
          with_reducible rfl
        rotate_left
        · simp only [Act.put, List.setIfInBounds_toArray, List.set_cons_zero, List.set_cons_succ, i64_w, i32_w]
          rfl
        refine pure_ (i := 6) (N := (some 44)) (v := ?_) (a' := ?_) #[true, true, true, true, true, true, true, false, false, false, false, false, false, false, false, false, false, false, false, false, false, false, false, false, false, false, false, false, false, false, false, false, false, false, false, false, false] rfl rfl (any_of HT_.out (by kernel_rfl)) (fun _ _ _ h => h) (Or.inl ⟨by rfl, ?_⟩) ?_ ?_
        rotate_left
        · intro w'
          go_simp
          with_reducible rfl
        rotate_left
        · simp only [Act.put, List.setIfInBounds_toArray, List.set_cons_zero, List.set_cons_succ, i64_w, i32_w]
          rfl
        refine pure_ (i := 7) (N := (some 45)) (v := ?_) (a' := ?_) #[true, true, true, true, true, true, true, true, false, false, false, false, false, false, false, false, false, false, false, false, false, false, false, false, false, false, false, false, false, false, false, false, false, false, false, false, false] rfl rfl (any_of HT_.out (by kernel_rfl)) (fun _ _ _ h => h) (Or.inl ⟨by rfl, ?_⟩) ?_ ?_
        rotate_left
        · intro w'
          go_simp
          with_reducible rfl
        rotate_left
        · simp only [Act.put, List.setIfInBounds_toArray, List.set_cons_zero, List.set_cons_succ, i64_w, i32_w]
          rfl
        refine pure_ (i := 10) (N := (some 48)) (v := ?_) (a' := ?_) #[true, true, true, true, true, true, true, true, false, false, true, false, false, false, false, false, false, false, false, false, false, false, false, false, false, false, false, false, false, false, false, false, false, false, false, false, false] rfl rfl (any_of HT_.out (by kernel_rfl)) (fun _ _ _ h => h) (Or.inl ⟨by rfl, ?_⟩) ?_ ?_
        rotate_left
        · intro w'
          go_simp
          with_reducible rfl
        rotate_left
        · simp only [Act.put, List.setIfInBounds_toArray, List.set_cons_zero, List.set_cons_succ, i64_w, i32_w]
          rfl
        refine one_ (i := 8) (N := (some 46)) #[true, true, true, true, true, true, true, true, true, false, true, false, false, false, false, false, false, false, false, false, false, false, false, false, false, false, false, false, false, false, false, false, false, false, false, false, false] rfl rfl (one_of HT_.out (by kernel_rfl)) (by decide) (fun K hK => ?_)
        refine value_ (w1 := V3.alloc (.cells #[.string u] 9 (0, 0))) (v := .slice (some ⟨V3.heap.size, 0, none⟩) 1 1) (by rfl) rfl ?_ ?_
        · first | (go_simp; done) | (go_simp; rfl)
        have hBV4 : Below w.heap.size w (V3.alloc (.cells #[.string u] 9 (0, 0))) := below_alloc hBV3 _
        have hkV4 : (V3.alloc (.cells #[.string u] 9 (0, 0))).heap[gk]? = some (blk8 key 61) := blk_alloc hkV3 _
        have hs8V4 : (V3.alloc (.cells #[.string u] 9 (0, 0))).heap[V3.heap.size]? = some (.cells #[.string u] 9 (0, 0)) := heap_alloc_last _ _
        have hs1V4 : (V3.alloc (.cells #[.string u] 9 (0, 0))).heap[gV1]? = some (.cells #[.string t] 9 (0, 0)) := blk_alloc hs1V3 _
        refine hK.out _ _ hkV4 (fun hHeld => ?_)
        clear hK K
        generalize V3.alloc (.cells #[.string u] 9 (0, 0)) = V4 at hBV4 hkV4 hs8V4 hs1V4 hHeld ⊢
        generalize V3.heap.size = gV4 at hs8V4 ⊢
        refine norm_ (a' := ?_) ?_ ?_
        rotate_left
        · show Act.put _ (some 46) _ = _
          simp only [Act.put, List.setIfInBounds_toArray, List.set_cons_zero, List.set_cons_succ, i64_w, i32_w]
          rfl
        refine one_ (i := 9) (N := (some 47)) #[true, true, true, true, true, true, true, true, true, true, true, false, false, false, false, false, false, false, false, false, false, false, false, false, false, false, false, false, false, false, false, false, false, false, false, false, false] rfl rfl (one_of HT_.out (by kernel_rfl)) (by decide) (fun K hK => ?_)
        refine goes_ Try.func47 (by kernel_rfl) rfl #[.slice (some ⟨gV4, 0, none⟩) 1 1] (by rfl) rfl rfl (by (try simp only [List.map_toArray, List.map_cons, List.map_nil]); first | done | rfl) ?_
        refine (sum2_at u hu9 V4 gV4 hs8V4).mono ?_
        rintro e V5 ⟨rfl, hcV5⟩
        have hBV5 : Below w.heap.size w V5 := below_then hBV4 hBV4.size hcV5
        have hkV5 : V5.heap[gk]? = some (blk8 key 61) := blk_below hkV4 hcV5
        have hs1V5 : V5.heap[gV1]? = some (.cells #[.string t] 9 (0, 0)) := blk_below hs1V4 hcV5
        have hs8V5 : V5.heap[gV4]? = some (.cells #[.string u] 9 (0, 0)) := blk_below hs8V4 hcV5
        refine ⟨_, rfl, ?_⟩
        refine hK.out _ _ hkV5 (fun hHeld => ?_)
        clear hK K hcV5
        refine norm_ (a' := ?_) ?_ ?_
        rotate_left
        · show Act.put _ (some 47) _ = _
          simp only [Act.put, List.setIfInBounds_toArray, List.set_cons_zero, List.set_cons_succ, i64_w, i32_w]
          rfl
        refine one_ (i := 11) (N := (some 49)) #[true, true, true, true, true, true, true, true, true, true, true, true, false, false, false, false, false, false, false, false, false, false, false, false, false, false, false, false, false, false, false, false, false, false, false, false, false] rfl rfl (one_of HT_.out (by kernel_rfl)) (by decide) (fun K hK => ?_)
        refine goes_ Try.func48 (by kernel_rfl) rfl #[.string u] (by rfl) rfl rfl (by (try simp only [List.map_toArray, List.map_cons, List.map_nil]); first | done | rfl) ?_
        refine (one2_at u hu9 V5).mono ?_
        rintro e V6 ⟨rfl, hcV6⟩
        have hBV6 : Below w.heap.size w V6 := below_then hBV5 hBV5.size hcV6
        have hkV6 : V6.heap[gk]? = some (blk8 key 61) := blk_below hkV5 hcV6
        have hs1V6 : V6.heap[gV1]? = some (.cells #[.string t] 9 (0, 0)) := blk_below hs1V5 hcV6
        have hs8V6 : V6.heap[gV4]? = some (.cells #[.string u] 9 (0, 0)) := blk_below hs8V5 hcV6
        refine ⟨_, rfl, ?_⟩
        refine hK.out _ _ hkV6 (fun hHeld => ?_)
        clear hK K hcV6
        refine norm_ (a' := ?_) ?_ ?_
        rotate_left
        · show Act.put _ (some 49) _ = _
          simp only [Act.put, List.setIfInBounds_toArray, List.set_cons_zero, List.set_cons_succ, i64_w, i32_w]
          rfl
        refine pure_ (i := 12) (N := (some 50)) (v := ?_) (a' := ?_) #[true, true, true, true, true, true, true, true, true, true, true, true, true, false, false, false, false, false, false, false, false, false, false, false, false, false, false, false, false, false, false, false, false, false, false, false, false] rfl rfl (any_of HT_.out (by kernel_rfl)) (fun _ _ _ h => h) (Or.inl ⟨by rfl, ?_⟩) ?_ ?_
        rotate_left
        · intro w'
          go_simp
          with_reducible rfl
        rotate_left
        · simp only [Act.put, List.setIfInBounds_toArray, List.set_cons_zero, List.set_cons_succ, i64_w, i32_w]
          rfl
        refine pure_ (i := 13) (N := (some 51)) (v := ?_) (a' := ?_) #[true, true, true, true, true, true, true, true, true, true, true, true, true, true, false, false, false, false, false, false, false, false, false, false, false, false, false, false, false, false, false, false, false, false, false, false, false] rfl rfl (any_of HT_.out (by kernel_rfl)) (fun _ _ _ h => h) (Or.inl ⟨by rfl, ?_⟩) ?_ ?_
        rotate_left
        · intro w'
          go_simp
          with_reducible rfl
        rotate_left
        · simp only [Act.put, List.setIfInBounds_toArray, List.set_cons_zero, List.set_cons_succ, i64_w, i32_w]
          rfl
        refine pure_ (i := 14) (N := (some 52)) (v := ?_) (a' := ?_) #[true, true, true, true, true, true, true, true, true, true, true, true, true, true, true, false, false, false, false, false, false, false, false, false, false, false, false, false, false, false, false, false, false, false, false, false, false] rfl rfl (any_of HT_.out (by kernel_rfl)) (fun _ _ _ h => h) (Or.inl ⟨by rfl, ?_⟩) ?_ ?_
        rotate_left
        · intro w'
          go_simp
          with_reducible rfl
        rotate_left
        · simp only [Act.put, List.setIfInBounds_toArray, List.set_cons_zero, List.set_cons_succ, i64_w, i32_w]
          rfl
        refine pure_ (i := 16) (N := (some 54)) (v := ?_) (a' := ?_) #[true, true, true, true, true, true, true, true, true, true, true, true, true, true, true, false, true, false, false, false, false, false, false, false, false, false, false, false, false, false, false, false, false, false, false, false, false] rfl rfl (any_of HT_.out (by kernel_rfl)) (fun _ _ _ h => h) (Or.inl ⟨by rfl, ?_⟩) ?_ ?_
        rotate_left
        · intro w'
          go_simp
          with_reducible rfl
        rotate_left
        · simp only [Act.put, List.setIfInBounds_toArray, List.set_cons_zero, List.set_cons_succ, i64_w, i32_w]
          rfl
        refine pure_ (i := 20) (N := (some 58)) (v := ?_) (a' := ?_) #[true, true, true, true, true, true, true, true, true, true, true, true, true, true, true, false, true, false, false, false, true, false, false, false, false, false, false, false, false, false, false, false, false, false, false, false, false] rfl rfl (any_of HT_.out (by kernel_rfl)) (fun _ _ _ h => h) (Or.inl ⟨by rfl, ?_⟩) ?_ ?_
        rotate_left
        · intro w'
          go_simp
          with_reducible rfl
        rotate_left
        · simp only [Act.put, List.setIfInBounds_toArray, List.set_cons_zero, List.set_cons_succ, i64_w, i32_w]
          rfl
        refine take_ (i := 15) (N := (some 53)) (v := .agg (u8s key)) (a' := ?_) #[true, true, true, true, true, true, true, true, true, true, true, true, true, true, true, true, true, false, false, false, true, false, false, false, false, false, false, false, false, false, false, false, false, false, false, false, false] rfl rfl (take_ofW HT_.out HW_.out (by kernel_rfl)) (fun _ _ _ h => h) (Or.inl ⟨by rfl, fun w' s8 => exec_load rfl rfl (loadAt61 s8 hk)⟩) hHeld ?_ ?_
        rotate_left
        · simp only [Act.put, List.setIfInBounds_toArray, List.set_cons_zero, List.set_cons_succ, i64_w, i32_w]
          rfl
        refine take_ (i := 19) (N := (some 57)) (v := .agg (u8s key)) (a' := ?_) #[true, true, true, true, true, true, true, true, true, true, true, true, true, true, true, true, true, false, false, true, true, false, false, false, false, false, false, false, false, false, false, false, false, false, false, false, false] rfl rfl (take_ofW HT_.out HW_.out (by kernel_rfl)) (fun _ _ _ h => h) (Or.inl ⟨by rfl, fun w' s8 => exec_load rfl rfl (loadAt61 s8 hk)⟩) hHeld ?_ ?_
        rotate_left
        · simp only [Act.put, List.setIfInBounds_toArray, List.set_cons_zero, List.set_cons_succ, i64_w, i32_w]
          rfl
        refine two_ (i := 17) (j := 21) (Ni := (some 55)) (Nj := (some 59)) #[true, true, true, true, true, true, true, true, true, true, true, true, true, true, true, true, true, true, false, true, true, false, false, false, false, false, false, false, false, false, false, false, false, false, false, false, false] #[true, true, true, true, true, true, true, true, true, true, true, true, true, true, true, true, true, false, false, true, true, true, false, false, false, false, false, false, false, false, false, false, false, false, false, false, false] rfl rfl rfl rfl (two_of HT_.out (by kernel_rfl)) (by decide) (by decide) (fun K hK => ?_) (fun K hK => ?_)
        · refine value_ (w1 := V6.alloc (.cells #[.string t] 9 (0, 0))) (v := .slice (some ⟨V6.heap.size, 0, none⟩) 1 1) (by rfl) rfl ?_ ?_
          · first | (go_simp; done) | (go_simp; rfl)
          have hBV7 : Below w.heap.size w (V6.alloc (.cells #[.string t] 9 (0, 0))) := below_alloc hBV6 _
          have hkV7 : (V6.alloc (.cells #[.string t] 9 (0, 0))).heap[gk]? = some (blk8 key 61) := blk_alloc hkV6 _
          have hs17V7 : (V6.alloc (.cells #[.string t] 9 (0, 0))).heap[V6.heap.size]? = some (.cells #[.string t] 9 (0, 0)) := heap_alloc_last _ _
          have hs1V7 : (V6.alloc (.cells #[.string t] 9 (0, 0))).heap[gV1]? = some (.cells #[.string t] 9 (0, 0)) := blk_alloc hs1V6 _
          have hs8V7 : (V6.alloc (.cells #[.string t] 9 (0, 0))).heap[gV4]? = some (.cells #[.string u] 9 (0, 0)) := blk_alloc hs8V6 _
          refine hK.out _ _ hkV7 (fun hHeld => ?_)
          clear hK K
          generalize V6.alloc (.cells #[.string t] 9 (0, 0)) = V7 at hBV7 hkV7 hs17V7 hs1V7 hs8V7 hHeld ⊢
          generalize V6.heap.size = gV7 at hs17V7 ⊢
          refine norm_ (a' := ?_) ?_ ?_
          rotate_left
          · show Act.put _ (some 55) _ = _
            simp only [Act.put, List.setIfInBounds_toArray, List.set_cons_zero, List.set_cons_succ, i64_w, i32_w]
            rfl
          refine two_ (i := 18) (j := 21) (Ni := (some 56)) (Nj := (some 59)) #[true, true, true, true, true, true, true, true, true, true, true, true, true, true, true, true, true, true, true, true, true, false, false, false, false, false, false, false, false, false, false, false, false, false, false, false, false] #[true, true, true, true, true, true, true, true, true, true, true, true, true, true, true, true, true, true, false, true, true, true, false, false, false, false, false, false, false, false, false, false, false, false, false, false, false] rfl rfl rfl rfl (two_of HT_.out (by kernel_rfl)) (by decide) (by decide) (fun K hK => ?_) (fun K hK => ?_)
          · refine goes_ Try.func49 (by kernel_rfl) rfl #[.agg (u8s key), .slice (some ⟨gV7, 0, none⟩) 1 1] (by rfl) rfl rfl (by (try simp only [List.map_toArray, List.map_cons, List.map_nil]); first | done | rfl) ?_
            refine (key1_at key hk t ht9 V7 gV7 hs17V7).mono ?_
            rintro e V8 ⟨rfl, hcV8⟩
            have hBV8 : Below w.heap.size w V8 := below_then hBV7 hBV7.size hcV8
            have hkV8 : V8.heap[gk]? = some (blk8 key 61) := blk_below hkV7 hcV8
            have hs1V8 : V8.heap[gV1]? = some (.cells #[.string t] 9 (0, 0)) := blk_below hs1V7 hcV8
            have hs8V8 : V8.heap[gV4]? = some (.cells #[.string u] 9 (0, 0)) := blk_below hs8V7 hcV8
            have hs17V8 : V8.heap[gV7]? = some (.cells #[.string t] 9 (0, 0)) := blk_below hs17V7 hcV8
            refine ⟨_, rfl, ?_⟩
            refine hK.out _ _ hkV8 (fun hHeld => ?_)
            clear hK K hcV8
            refine norm_ (a' := ?_) ?_ ?_
            rotate_left
            · show Act.put _ (some 56) _ = _
              simp only [Act.put, List.setIfInBounds_toArray, List.set_cons_zero, List.set_cons_succ, i64_w, i32_w]
              rfl
            refine one_ (i := 21) (N := (some 59)) #[true, true, true, true, true, true, true, true, true, true, true, true, true, true, true, true, true, true, true, true, true, true, false, false, false, false, false, false, false, false, false, false, false, false, false, false, false] rfl rfl (one_of HT_.out (by kernel_rfl)) (by decide) (fun K hK => ?_)
            refine value_ (w1 := V8.alloc (.cells #[.string t] 9 (0, 0))) (v := .slice (some ⟨V8.heap.size, 0, none⟩) 1 1) (by rfl) rfl ?_ ?_
            · first | (go_simp; done) | (go_simp; rfl)
            have hBV9 : Below w.heap.size w (V8.alloc (.cells #[.string t] 9 (0, 0))) := below_alloc hBV8 _
            have hkV9 : (V8.alloc (.cells #[.string t] 9 (0, 0))).heap[gk]? = some (blk8 key 61) := blk_alloc hkV8 _
            have hs21V9 : (V8.alloc (.cells #[.string t] 9 (0, 0))).heap[V8.heap.size]? = some (.cells #[.string t] 9 (0, 0)) := heap_alloc_last _ _
            have hs1V9 : (V8.alloc (.cells #[.string t] 9 (0, 0))).heap[gV1]? = some (.cells #[.string t] 9 (0, 0)) := blk_alloc hs1V8 _
            have hs8V9 : (V8.alloc (.cells #[.string t] 9 (0, 0))).heap[gV4]? = some (.cells #[.string u] 9 (0, 0)) := blk_alloc hs8V8 _
            have hs17V9 : (V8.alloc (.cells #[.string t] 9 (0, 0))).heap[gV7]? = some (.cells #[.string t] 9 (0, 0)) := blk_alloc hs17V8 _
            refine hK.out _ _ hkV9 (fun hHeld => ?_)
            clear hK K
            generalize V8.alloc (.cells #[.string t] 9 (0, 0)) = V9 at hBV9 hkV9 hs21V9 hs1V9 hs8V9 hs17V9 hHeld ⊢
            generalize V8.heap.size = gV9 at hs21V9 ⊢
            refine norm_ (a' := ?_) ?_ ?_
            rotate_left
            · show Act.put _ (some 59) _ = _
              simp only [Act.put, List.setIfInBounds_toArray, List.set_cons_zero, List.set_cons_succ, i64_w, i32_w]
              rfl
            refine one_ (i := 22) (N := (some 60)) #[true, true, true, true, true, true, true, true, true, true, true, true, true, true, true, true, true, true, true, true, true, true, true, false, false, false, false, false, false, false, false, false, false, false, false, false, false] rfl rfl (one_of HT_.out (by kernel_rfl)) (by decide) (fun K hK => ?_)
            refine goes_ Try.func50 (by kernel_rfl) rfl #[.agg (u8s key), .slice (some ⟨gV9, 0, none⟩) 1 1] (by rfl) rfl rfl (by (try simp only [List.map_toArray, List.map_cons, List.map_nil]); first | done | rfl) ?_
            refine (rkey1_at key hk t ht9 V9 gV9 hs21V9).mono ?_
            rintro e V10 ⟨rfl, hcV10⟩
            have hBV10 : Below w.heap.size w V10 := below_then hBV9 hBV9.size hcV10
            have hkV10 : V10.heap[gk]? = some (blk8 key 61) := blk_below hkV9 hcV10
            have hs1V10 : V10.heap[gV1]? = some (.cells #[.string t] 9 (0, 0)) := blk_below hs1V9 hcV10
            have hs8V10 : V10.heap[gV4]? = some (.cells #[.string u] 9 (0, 0)) := blk_below hs8V9 hcV10
            have hs17V10 : V10.heap[gV7]? = some (.cells #[.string t] 9 (0, 0)) := blk_below hs17V9 hcV10
            have hs21V10 : V10.heap[gV9]? = some (.cells #[.string t] 9 (0, 0)) := blk_below hs21V9 hcV10
            refine ⟨_, rfl, ?_⟩
            refine hK.out _ _ hkV10 (fun hHeld => ?_)
            clear hK K hcV10
            refine norm_ (a' := ?_) ?_ ?_
            rotate_left
            · show Act.put _ (some 60) _ = _
              simp only [Act.put, List.setIfInBounds_toArray, List.set_cons_zero, List.set_cons_succ, i64_w, i32_w]
              rfl
            refine pure_ (i := 23) (N := (some 61)) (v := ?_) (a' := ?_) #[true, true, true, true, true, true, true, true, true, true, true, true, true, true, true, true, true, true, true, true, true, true, true, true, false, false, false, false, false, false, false, false, false, false, false, false, false] rfl rfl (any_of HT_.out (by kernel_rfl)) (fun _ _ _ h => h) (Or.inl ⟨by rfl, ?_⟩) ?_ ?_
            rotate_left
            · intro w'
              go_simp
              with_reducible rfl
            rotate_left
            · simp only [Act.put, List.setIfInBounds_toArray, List.set_cons_zero, List.set_cons_succ, i64_w, i32_w]
              rfl
            refine pure_ (i := 24) (N := (some 62)) (v := ?_) (a' := ?_) #[true, true, true, true, true, true, true, true, true, true, true, true, true, true, true, true, true, true, true, true, true, true, true, true, true, false, false, false, false, false, false, false, false, false, false, false, false] rfl rfl (any_of HT_.out (by kernel_rfl)) (fun _ _ _ h => h) (Or.inl ⟨by rfl, ?_⟩) ?_ ?_
            rotate_left
            · intro w'
              go_simp
              with_reducible rfl
            rotate_left
            · simp only [Act.put, List.setIfInBounds_toArray, List.set_cons_zero, List.set_cons_succ, i64_w, i32_w]
              rfl
            refine pure_ (i := 25) (N := (some 63)) (v := ?_) (a' := ?_) #[true, true, true, true, true, true, true, true, true, true, true, true, true, true, true, true, true, true, true, true, true, true, true, true, true, true, false, false, false, false, false, false, false, false, false, false, false] rfl rfl (any_of HT_.out (by kernel_rfl)) (fun _ _ _ h => h) (Or.inl ⟨by rfl, ?_⟩) ?_ ?_
            rotate_left
            · intro w'
              go_simp
              with_reducible rfl
            rotate_left
            · simp only [Act.put, List.setIfInBounds_toArray, List.set_cons_zero, List.set_cons_succ, i64_w, i32_w]
              rfl
            refine pure_ (i := 27) (N := (some 65)) (v := ?_) (a' := ?_) #[true, true, true, true, true, true, true, true, true, true, true, true, true, true, true, true, true, true, true, true, true, true, true, true, true, true, false, true, false, false, false, false, false, false, false, false, false] rfl rfl (any_of HT_.out (by kernel_rfl)) (fun _ _ _ h => h) (Or.inl ⟨by rfl, ?_⟩) ?_ ?_
            rotate_left
            · intro w'
              go_simp
              with_reducible rfl
            rotate_left
            · simp only [Act.put, List.setIfInBounds_toArray, List.set_cons_zero, List.set_cons_succ, i64_w, i32_w]
              rfl
            refine pure_ (i := 31) (N := (some 69)) (v := ?_) (a' := ?_) #[true, true, true, true, true, true, true, true, true, true, true, true, true, true, true, true, true, true, true, true, true, true, true, true, true, true, false, true, false, false, false, true, false, false, false, false, false] rfl rfl (any_of HT_.out (by kernel_rfl)) (fun _ _ _ h => h) (Or.inl ⟨by rfl, ?_⟩) ?_ ?_
            rotate_left
            · intro w'
              go_simp
              with_reducible rfl
            rotate_left
            · simp only [Act.put, List.setIfInBounds_toArray, List.set_cons_zero, List.set_cons_succ, i64_w, i32_w]
              rfl
            refine take_ (i := 26) (N := (some 64)) (v := .agg (u8s key)) (a' := ?_) #[true, true, true, true, true, true, true, true, true, true, true, true, true, true, true, true, true, true, true, true, true, true, true, true, true, true, true, true, false, false, false, true, false, false, false, false, false] rfl rfl (take_ofW HT_.out HW_.out (by kernel_rfl)) (fun _ _ _ h => h) (Or.inl ⟨by rfl, fun w' s8 => exec_load rfl rfl (loadAt61 s8 hk)⟩) hHeld ?_ ?_
            rotate_left
            · simp only [Act.put, List.setIfInBounds_toArray, List.set_cons_zero, List.set_cons_succ, i64_w, i32_w]
              rfl
            refine take_ (i := 30) (N := (some 68)) (v := .agg (u8s key)) (a' := ?_) #[true, true, true, true, true, true, true, true, true, true, true, true, true, true, true, true, true, true, true, true, true, true, true, true, true, true, true, true, false, false, true, true, false, false, false, false, false] rfl rfl (take_ofW HT_.out HW_.out (by kernel_rfl)) (fun _ _ _ h => h) (Or.inl ⟨by rfl, fun w' s8 => exec_load rfl rfl (loadAt61 s8 hk)⟩) hHeld ?_ ?_
            rotate_left
            · simp only [Act.put, List.setIfInBounds_toArray, List.set_cons_zero, List.set_cons_succ, i64_w, i32_w]
              rfl
            refine two_ (i := 28) (j := 32) (Ni := (some 66)) (Nj := (some 70)) #[true, true, true, true, true, true, true, true, true, true, true, true, true, true, true, true, true, true, true, true, true, true, true, true, true, true, true, true, true, false, true, true, false, false, false, false, false] #[true, true, true, true, true, true, true, true, true, true, true, true, true, true, true, true, true, true, true, true, true, true, true, true, true, true, true, true, false, false, true, true, true, false, false, false, false] rfl rfl rfl rfl (two_of HT_.out (by kernel_rfl)) (by decide) (by decide) (fun K hK => ?_) (fun K hK => ?_)
            · refine value_ (w1 := V10.alloc (.cells #[.string u] 9 (0, 0))) (v := .slice (some ⟨V10.heap.size, 0, none⟩) 1 1) (by rfl) rfl ?_ ?_
              · first | (go_simp; done) | (go_simp; rfl)
              have hBV11 : Below w.heap.size w (V10.alloc (.cells #[.string u] 9 (0, 0))) := below_alloc hBV10 _
              have hkV11 : (V10.alloc (.cells #[.string u] 9 (0, 0))).heap[gk]? = some (blk8 key 61) := blk_alloc hkV10 _
              have hs28V11 : (V10.alloc (.cells #[.string u] 9 (0, 0))).heap[V10.heap.size]? = some (.cells #[.string u] 9 (0, 0)) := heap_alloc_last _ _
              have hs1V11 : (V10.alloc (.cells #[.string u] 9 (0, 0))).heap[gV1]? = some (.cells #[.string t] 9 (0, 0)) := blk_alloc hs1V10 _
              have hs8V11 : (V10.alloc (.cells #[.string u] 9 (0, 0))).heap[gV4]? = some (.cells #[.string u] 9 (0, 0)) := blk_alloc hs8V10 _
              have hs17V11 : (V10.alloc (.cells #[.string u] 9 (0, 0))).heap[gV7]? = some (.cells #[.string t] 9 (0, 0)) := blk_alloc hs17V10 _
              have hs21V11 : (V10.alloc (.cells #[.string u] 9 (0, 0))).heap[gV9]? = some (.cells #[.string t] 9 (0, 0)) := blk_alloc hs21V10 _
              refine hK.out _ _ hkV11 (fun hHeld => ?_)
              clear hK K
              generalize V10.alloc (.cells #[.string u] 9 (0, 0)) = V11 at hBV11 hkV11 hs28V11 hs1V11 hs8V11 hs17V11 hs21V11 hHeld ⊢
              generalize V10.heap.size = gV11 at hs28V11 ⊢
              refine norm_ (a' := ?_) ?_ ?_
              rotate_left
              · show Act.put _ (some 66) _ = _
                simp only [Act.put, List.setIfInBounds_toArray, List.set_cons_zero, List.set_cons_succ, i64_w, i32_w]
                rfl
              refine two_ (i := 29) (j := 32) (Ni := (some 67)) (Nj := (some 70)) #[true, true, true, true, true, true, true, true, true, true, true, true, true, true, true, true, true, true, true, true, true, true, true, true, true, true, true, true, true, true, true, true, false, false, false, false, false] #[true, true, true, true, true, true, true, true, true, true, true, true, true, true, true, true, true, true, true, true, true, true, true, true, true, true, true, true, true, false, true, true, true, false, false, false, false] rfl rfl rfl rfl (two_of HT_.out (by kernel_rfl)) (by decide) (by decide) (fun K hK => ?_) (fun K hK => ?_)
              · refine goes_ Try.func49 (by kernel_rfl) rfl #[.agg (u8s key), .slice (some ⟨gV11, 0, none⟩) 1 1] (by rfl) rfl rfl (by (try simp only [List.map_toArray, List.map_cons, List.map_nil]); first | done | rfl) ?_
                refine (key1_at key hk u hu9 V11 gV11 hs28V11).mono ?_
                rintro e V12 ⟨rfl, hcV12⟩
                have hBV12 : Below w.heap.size w V12 := below_then hBV11 hBV11.size hcV12
                have hkV12 : V12.heap[gk]? = some (blk8 key 61) := blk_below hkV11 hcV12
                have hs1V12 : V12.heap[gV1]? = some (.cells #[.string t] 9 (0, 0)) := blk_below hs1V11 hcV12
                have hs8V12 : V12.heap[gV4]? = some (.cells #[.string u] 9 (0, 0)) := blk_below hs8V11 hcV12
                have hs17V12 : V12.heap[gV7]? = some (.cells #[.string t] 9 (0, 0)) := blk_below hs17V11 hcV12
                have hs21V12 : V12.heap[gV9]? = some (.cells #[.string t] 9 (0, 0)) := blk_below hs21V11 hcV12
                have hs28V12 : V12.heap[gV11]? = some (.cells #[.string u] 9 (0, 0)) := blk_below hs28V11 hcV12
                refine ⟨_, rfl, ?_⟩
                refine hK.out _ _ hkV12 (fun hHeld => ?_)
                clear hK K hcV12
                refine norm_ (a' := ?_) ?_ ?_
                rotate_left
                · show Act.put _ (some 67) _ = _
                  simp only [Act.put, List.setIfInBounds_toArray, List.set_cons_zero, List.set_cons_succ, i64_w, i32_w]
                  rfl
                refine one_ (i := 32) (N := (some 70)) #[true, true, true, true, true, true, true, true, true, true, true, true, true, true, true, true, true, true, true, true, true, true, true, true, true, true, true, true, true, true, true, true, true, false, false, false, false] rfl rfl (one_of HT_.out (by kernel_rfl)) (by decide) (fun K hK => ?_)
                refine value_ (w1 := V12.alloc (.cells #[.string u] 9 (0, 0))) (v := .slice (some ⟨V12.heap.size, 0, none⟩) 1 1) (by rfl) rfl ?_ ?_
                · first | (go_simp; done) | (go_simp; rfl)
                have hBV13 : Below w.heap.size w (V12.alloc (.cells #[.string u] 9 (0, 0))) := below_alloc hBV12 _
                have hkV13 : (V12.alloc (.cells #[.string u] 9 (0, 0))).heap[gk]? = some (blk8 key 61) := blk_alloc hkV12 _
                have hs32V13 : (V12.alloc (.cells #[.string u] 9 (0, 0))).heap[V12.heap.size]? = some (.cells #[.string u] 9 (0, 0)) := heap_alloc_last _ _
                have hs1V13 : (V12.alloc (.cells #[.string u] 9 (0, 0))).heap[gV1]? = some (.cells #[.string t] 9 (0, 0)) := blk_alloc hs1V12 _
                have hs8V13 : (V12.alloc (.cells #[.string u] 9 (0, 0))).heap[gV4]? = some (.cells #[.string u] 9 (0, 0)) := blk_alloc hs8V12 _
                have hs17V13 : (V12.alloc (.cells #[.string u] 9 (0, 0))).heap[gV7]? = some (.cells #[.string t] 9 (0, 0)) := blk_alloc hs17V12 _
                have hs21V13 : (V12.alloc (.cells #[.string u] 9 (0, 0))).heap[gV9]? = some (.cells #[.string t] 9 (0, 0)) := blk_alloc hs21V12 _
                have hs28V13 : (V12.alloc (.cells #[.string u] 9 (0, 0))).heap[gV11]? = some (.cells #[.string u] 9 (0, 0)) := blk_alloc hs28V12 _
                refine hK.out _ _ hkV13 (fun hHeld => ?_)
                clear hK K
                generalize V12.alloc (.cells #[.string u] 9 (0, 0)) = V13 at hBV13 hkV13 hs32V13 hs1V13 hs8V13 hs17V13 hs21V13 hs28V13 hHeld ⊢
                generalize V12.heap.size = gV13 at hs32V13 ⊢
                refine norm_ (a' := ?_) ?_ ?_
                rotate_left
                · show Act.put _ (some 70) _ = _
                  simp only [Act.put, List.setIfInBounds_toArray, List.set_cons_zero, List.set_cons_succ, i64_w, i32_w]
                  rfl
                refine one_ (i := 33) (N := (some 71)) #[true, true, true, true, true, true, true, true, true, true, true, true, true, true, true, true, true, true, true, true, true, true, true, true, true, true, true, true, true, true, true, true, true, true, false, false, false] rfl rfl (one_of HT_.out (by kernel_rfl)) (by decide) (fun K hK => ?_)
                refine goes_ Try.func50 (by kernel_rfl) rfl #[.agg (u8s key), .slice (some ⟨gV13, 0, none⟩) 1 1] (by rfl) rfl rfl (by (try simp only [List.map_toArray, List.map_cons, List.map_nil]); first | done | rfl) ?_
                refine (rkey1_at key hk u hu9 V13 gV13 hs32V13).mono ?_
                rintro e V14 ⟨rfl, hcV14⟩
                have hBV14 : Below w.heap.size w V14 := below_then hBV13 hBV13.size hcV14
                have hkV14 : V14.heap[gk]? = some (blk8 key 61) := blk_below hkV13 hcV14
                have hs1V14 : V14.heap[gV1]? = some (.cells #[.string t] 9 (0, 0)) := blk_below hs1V13 hcV14
                have hs8V14 : V14.heap[gV4]? = some (.cells #[.string u] 9 (0, 0)) := blk_below hs8V13 hcV14
                have hs17V14 : V14.heap[gV7]? = some (.cells #[.string t] 9 (0, 0)) := blk_below hs17V13 hcV14
                have hs21V14 : V14.heap[gV9]? = some (.cells #[.string t] 9 (0, 0)) := blk_below hs21V13 hcV14
                have hs28V14 : V14.heap[gV11]? = some (.cells #[.string u] 9 (0, 0)) := blk_below hs28V13 hcV14
                have hs32V14 : V14.heap[gV13]? = some (.cells #[.string u] 9 (0, 0)) := blk_below hs32V13 hcV14
                refine ⟨_, rfl, ?_⟩
                refine hK.out _ _ hkV14 (fun hHeld => ?_)
                clear hK K hcV14
                refine norm_ (a' := ?_) ?_ ?_
                rotate_left
                · show Act.put _ (some 71) _ = _
                  simp only [Act.put, List.setIfInBounds_toArray, List.set_cons_zero, List.set_cons_succ, i64_w, i32_w]
                  rfl
                refine pure_ (i := 34) (N := (some 72)) (v := ?_) (a' := ?_) #[true, true, true, true, true, true, true, true, true, true, true, true, true, true, true, true, true, true, true, true, true, true, true, true, true, true, true, true, true, true, true, true, true, true, true, false, false] rfl rfl (any_of HT_.out (by kernel_rfl)) (fun _ _ _ h => h) (Or.inl ⟨by rfl, ?_⟩) ?_ ?_
                rotate_left
                · intro w'
                  go_simp
                  with_reducible rfl
                rotate_left
                · simp only [Act.put, List.setIfInBounds_toArray, List.set_cons_zero, List.set_cons_succ, i64_w, i32_w]
                  rfl
                refine pure_ (i := 35) (N := (some 73)) (v := ?_) (a' := ?_) #[true, true, true, true, true, true, true, true, true, true, true, true, true, true, true, true, true, true, true, true, true, true, true, true, true, true, true, true, true, true, true, true, true, true, true, true, false] rfl rfl (any_of HT_.out (by kernel_rfl)) (fun _ _ _ h => h) (Or.inl ⟨by rfl, ?_⟩) ?_ ?_
                rotate_left
                · intro w'
                  go_simp
                  with_reducible rfl
                rotate_left
                · simp only [Act.put, List.setIfInBounds_toArray, List.set_cons_zero, List.set_cons_succ, i64_w, i32_w]
                  rfl
                refine pure_ (i := 36) (N := (some 6)) (v := ?_) (a' := ?_) #[true, true, true, true, true, true, true, true, true, true, true, true, true, true, true, true, true, true, true, true, true, true, true, true, true, true, true, true, true, true, true, true, true, true, true, true, true] rfl rfl (any_of HT_.out (by kernel_rfl)) (fun _ _ _ h => h) (Or.inl ⟨by rfl, ?_⟩) ?_ ?_
                rotate_left
                · intro w'
                  go_simp
                  with_reducible rfl
                rotate_left
                · simp only [Act.put, List.setIfInBounds_toArray, List.set_cons_zero, List.set_cons_succ, i64_w, i32_w]
                  rfl
                refine done_ (done_of HT_.out (by kernel_rfl)) ?_
                change KK _ _
                refine hKK.out _ _ ?_
                go_wp2_with fail
                go_ret
                exact ⟨by simp, hBV14⟩
              · refine value_ (w1 := V11.alloc (.cells #[.string u] 9 (0, 0))) (v := .slice (some ⟨V11.heap.size, 0, none⟩) 1 1) (by rfl) rfl ?_ ?_
                · first | (go_simp; done) | (go_simp; rfl)
                have hBV15 : Below w.heap.size w (V11.alloc (.cells #[.string u] 9 (0, 0))) := below_alloc hBV11 _
                have hkV15 : (V11.alloc (.cells #[.string u] 9 (0, 0))).heap[gk]? = some (blk8 key 61) := blk_alloc hkV11 _
                have hs32V15 : (V11.alloc (.cells #[.string u] 9 (0, 0))).heap[V11.heap.size]? = some (.cells #[.string u] 9 (0, 0)) := heap_alloc_last _ _
                have hs1V15 : (V11.alloc (.cells #[.string u] 9 (0, 0))).heap[gV1]? = some (.cells #[.string t] 9 (0, 0)) := blk_alloc hs1V11 _
                have hs8V15 : (V11.alloc (.cells #[.string u] 9 (0, 0))).heap[gV4]? = some (.cells #[.string u] 9 (0, 0)) := blk_alloc hs8V11 _
                have hs17V15 : (V11.alloc (.cells #[.string u] 9 (0, 0))).heap[gV7]? = some (.cells #[.string t] 9 (0, 0)) := blk_alloc hs17V11 _
                have hs21V15 : (V11.alloc (.cells #[.string u] 9 (0, 0))).heap[gV9]? = some (.cells #[.string t] 9 (0, 0)) := blk_alloc hs21V11 _
                have hs28V15 : (V11.alloc (.cells #[.string u] 9 (0, 0))).heap[gV11]? = some (.cells #[.string u] 9 (0, 0)) := blk_alloc hs28V11 _
                refine hK.out _ _ hkV15 (fun hHeld => ?_)
                clear hK K
                generalize V11.alloc (.cells #[.string u] 9 (0, 0)) = V15 at hBV15 hkV15 hs32V15 hs1V15 hs8V15 hs17V15 hs21V15 hs28V15 hHeld ⊢
                generalize V11.heap.size = gV15 at hs32V15 ⊢
                refine norm_ (a' := ?_) ?_ ?_
                rotate_left
                · show Act.put _ (some 70) _ = _
                  simp only [Act.put, List.setIfInBounds_toArray, List.set_cons_zero, List.set_cons_succ, i64_w, i32_w]
                  rfl
                refine one_ (i := 29) (N := (some 67)) #[true, true, true, true, true, true, true, true, true, true, true, true, true, true, true, true, true, true, true, true, true, true, true, true, true, true, true, true, true, true, true, true, true, false, false, false, false] rfl rfl (one_of HT_.out (by kernel_rfl)) (by decide) (fun K hK => ?_)
                refine goes_ Try.func49 (by kernel_rfl) rfl #[.agg (u8s key), .slice (some ⟨gV11, 0, none⟩) 1 1] (by rfl) rfl rfl (by (try simp only [List.map_toArray, List.map_cons, List.map_nil]); first | done | rfl) ?_
                refine (key1_at key hk u hu9 V15 gV11 hs28V15).mono ?_
                rintro e V16 ⟨rfl, hcV16⟩
                have hBV16 : Below w.heap.size w V16 := below_then hBV15 hBV15.size hcV16
                have hkV16 : V16.heap[gk]? = some (blk8 key 61) := blk_below hkV15 hcV16
                have hs1V16 : V16.heap[gV1]? = some (.cells #[.string t] 9 (0, 0)) := blk_below hs1V15 hcV16
                have hs8V16 : V16.heap[gV4]? = some (.cells #[.string u] 9 (0, 0)) := blk_below hs8V15 hcV16
                have hs17V16 : V16.heap[gV7]? = some (.cells #[.string t] 9 (0, 0)) := blk_below hs17V15 hcV16
                have hs21V16 : V16.heap[gV9]? = some (.cells #[.string t] 9 (0, 0)) := blk_below hs21V15 hcV16
                have hs28V16 : V16.heap[gV11]? = some (.cells #[.string u] 9 (0, 0)) := blk_below hs28V15 hcV16
                have hs32V16 : V16.heap[gV15]? = some (.cells #[.string u] 9 (0, 0)) := blk_below hs32V15 hcV16
                refine ⟨_, rfl, ?_⟩
                refine hK.out _ _ hkV16 (fun hHeld => ?_)
                clear hK K hcV16
                refine norm_ (a' := ?_) ?_ ?_
                rotate_left
                · show Act.put _ (some 67) _ = _
                  simp only [Act.put, List.setIfInBounds_toArray, List.set_cons_zero, List.set_cons_succ, i64_w, i32_w]
                  rfl
                refine one_ (i := 33) (N := (some 71)) #[true, true, true, true, true, true, true, true, true, true, true, true, true, true, true, true, true, true, true, true, true, true, true, true, true, true, true, true, true, true, true, true, true, true, false, false, false] rfl rfl (one_of HT_.out (by kernel_rfl)) (by decide) (fun K hK => ?_)
                refine goes_ Try.func50 (by kernel_rfl) rfl #[.agg (u8s key), .slice (some ⟨gV15, 0, none⟩) 1 1] (by rfl) rfl rfl (by (try simp only [List.map_toArray, List.map_cons, List.map_nil]); first | done | rfl) ?_
                refine (rkey1_at key hk u hu9 V16 gV15 hs32V16).mono ?_
                rintro e V17 ⟨rfl, hcV17⟩
                have hBV17 : Below w.heap.size w V17 := below_then hBV16 hBV16.size hcV17
                have hkV17 : V17.heap[gk]? = some (blk8 key 61) := blk_below hkV16 hcV17
                have hs1V17 : V17.heap[gV1]? = some (.cells #[.string t] 9 (0, 0)) := blk_below hs1V16 hcV17
                have hs8V17 : V17.heap[gV4]? = some (.cells #[.string u] 9 (0, 0)) := blk_below hs8V16 hcV17
                have hs17V17 : V17.heap[gV7]? = some (.cells #[.string t] 9 (0, 0)) := blk_below hs17V16 hcV17
                have hs21V17 : V17.heap[gV9]? = some (.cells #[.string t] 9 (0, 0)) := blk_below hs21V16 hcV17
                have hs28V17 : V17.heap[gV11]? = some (.cells #[.string u] 9 (0, 0)) := blk_below hs28V16 hcV17
                have hs32V17 : V17.heap[gV15]? = some (.cells #[.string u] 9 (0, 0)) := blk_below hs32V16 hcV17
                refine ⟨_, rfl, ?_⟩
                refine hK.out _ _ hkV17 (fun hHeld => ?_)
                clear hK K hcV17
                refine norm_ (a' := ?_) ?_ ?_
                rotate_left
                · show Act.put _ (some 71) _ = _
                  simp only [Act.put, List.setIfInBounds_toArray, List.set_cons_zero, List.set_cons_succ, i64_w, i32_w]
                  rfl
                refine pure_ (i := 34) (N := (some 72)) (v := ?_) (a' := ?_) #[true, true, true, true, true, true, true, true, true, true, true, true, true, true, true, true, true, true, true, true, true, true, true, true, true, true, true, true, true, true, true, true, true, true, true, false, false] rfl rfl (any_of HT_.out (by kernel_rfl)) (fun _ _ _ h => h) (Or.inl ⟨by rfl, ?_⟩) ?_ ?_
                rotate_left
                · intro w'
                  go_simp
                  with_reducible rfl
                rotate_left
                · simp only [Act.put, List.setIfInBounds_toArray, List.set_cons_zero, List.set_cons_succ, i64_w, i32_w]
                  rfl
                refine pure_ (i := 35) (N := (some 73)) (v := ?_) (a' := ?_) #[true, true, true, true, true, true, true, true, true, true, true, true, true, true, true, true, true, true, true, true, true, true, true, true, true, true, true, true, true, true, true, true, true, true, true, true, false] rfl rfl (any_of HT_.out (by kernel_rfl)) (fun _ _ _ h => h) (Or.inl ⟨by rfl, ?_⟩) ?_ ?_
                rotate_left
                · intro w'
                  go_simp
                  with_reducible rfl
                rotate_left
                · simp only [Act.put, List.setIfInBounds_toArray, List.set_cons_zero, List.set_cons_succ, i64_w, i32_w]
                  rfl
                refine pure_ (i := 36) (N := (some 6)) (v := ?_) (a' := ?_) #[true, true, true, true, true, true, true, true, true, true, true, true, true, true, true, true, true, true, true, true, true, true, true, true, true, true, true, true, true, true, true, true, true, true, true, true, true] rfl rfl (any_of HT_.out (by kernel_rfl)) (fun _ _ _ h => h) (Or.inl ⟨by rfl, ?_⟩) ?_ ?_
                rotate_left
                · intro w'
                  go_simp
                  with_reducible rfl
                rotate_left
                · simp only [Act.put, List.setIfInBounds_toArray, List.set_cons_zero, List.set_cons_succ, i64_w, i32_w]
                  rfl
                refine done_ (done_of HT_.out (by kernel_rfl)) ?_
                change KK _ _
                refine hKK.out _ _ ?_
                go_wp2_with fail
                go_ret
                exact ⟨by simp, hBV17⟩
            · refine value_ (w1 := V10.alloc (.cells #[.string u] 9 (0, 0))) (v := .slice (some ⟨V10.heap.size, 0, none⟩) 1 1) (by rfl) rfl ?_ ?_
              · first | (go_simp; done) | (go_simp; rfl)
              have hBV18 : Below w.heap.size w (V10.alloc (.cells #[.string u] 9 (0, 0))) := below_alloc hBV10 _
              have hkV18 : (V10.alloc (.cells #[.string u] 9 (0, 0))).heap[gk]? = some (blk8 key 61) := blk_alloc hkV10 _
              have hs32V18 : (V10.alloc (.cells #[.string u] 9 (0, 0))).heap[V10.heap.size]? = some (.cells #[.string u] 9 (0, 0)) := heap_alloc_last _ _
              have hs1V18 : (V10.alloc (.cells #[.string u] 9 (0, 0))).heap[gV1]? = some (.cells #[.string t] 9 (0, 0)) := blk_alloc hs1V10 _
              have hs8V18 : (V10.alloc (.cells #[.string u] 9 (0, 0))).heap[gV4]? = some (.cells #[.string u] 9 (0, 0)) := blk_alloc hs8V10 _
              have hs17V18 : (V10.alloc (.cells #[.string u] 9 (0, 0))).heap[gV7]? = some (.cells #[.string t] 9 (0, 0)) := blk_alloc hs17V10 _
              have hs21V18 : (V10.alloc (.cells #[.string u] 9 (0, 0))).heap[gV9]? = some (.cells #[.string t] 9 (0, 0)) := blk_alloc hs21V10 _
              refine hK.out _ _ hkV18 (fun hHeld => ?_)
              clear hK K
              generalize V10.alloc (.cells #[.string u] 9 (0, 0)) = V18 at hBV18 hkV18 hs32V18 hs1V18 hs8V18 hs17V18 hs21V18 hHeld ⊢
              generalize V10.heap.size = gV18 at hs32V18 ⊢
              refine norm_ (a' := ?_) ?_ ?_
              rotate_left
              · show Act.put _ (some 70) _ = _
                simp only [Act.put, List.setIfInBounds_toArray, List.set_cons_zero, List.set_cons_succ, i64_w, i32_w]
                rfl
              refine one_ (i := 28) (N := (some 66)) #[true, true, true, true, true, true, true, true, true, true, true, true, true, true, true, true, true, true, true, true, true, true, true, true, true, true, true, true, true, false, true, true, true, false, false, false, false] rfl rfl (one_of HT_.out (by kernel_rfl)) (by decide) (fun K hK => ?_)
              refine value_ (w1 := V18.alloc (.cells #[.string u] 9 (0, 0))) (v := .slice (some ⟨V18.heap.size, 0, none⟩) 1 1) (by rfl) rfl ?_ ?_
              · first | (go_simp; done) | (go_simp; rfl)
              have hBV19 : Below w.heap.size w (V18.alloc (.cells #[.string u] 9 (0, 0))) := below_alloc hBV18 _
              have hkV19 : (V18.alloc (.cells #[.string u] 9 (0, 0))).heap[gk]? = some (blk8 key 61) := blk_alloc hkV18 _
              have hs28V19 : (V18.alloc (.cells #[.string u] 9 (0, 0))).heap[V18.heap.size]? = some (.cells #[.string u] 9 (0, 0)) := heap_alloc_last _ _
              have hs1V19 : (V18.alloc (.cells #[.string u] 9 (0, 0))).heap[gV1]? = some (.cells #[.string t] 9 (0, 0)) := blk_alloc hs1V18 _
              have hs8V19 : (V18.alloc (.cells #[.string u] 9 (0, 0))).heap[gV4]? = some (.cells #[.string u] 9 (0, 0)) := blk_alloc hs8V18 _
              have hs17V19 : (V18.alloc (.cells #[.string u] 9 (0, 0))).heap[gV7]? = some (.cells #[.string t] 9 (0, 0)) := blk_alloc hs17V18 _
              have hs21V19 : (V18.alloc (.cells #[.string u] 9 (0, 0))).heap[gV9]? = some (.cells #[.string t] 9 (0, 0)) := blk_alloc hs21V18 _
              have hs32V19 : (V18.alloc (.cells #[.string u] 9 (0, 0))).heap[gV18]? = some (.cells #[.string u] 9 (0, 0)) := blk_alloc hs32V18 _
              refine hK.out _ _ hkV19 (fun hHeld => ?_)
              clear hK K
              generalize V18.alloc (.cells #[.string u] 9 (0, 0)) = V19 at hBV19 hkV19 hs28V19 hs1V19 hs8V19 hs17V19 hs21V19 hs32V19 hHeld ⊢
              generalize V18.heap.size = gV19 at hs28V19 ⊢
              refine norm_ (a' := ?_) ?_ ?_
              rotate_left
              · show Act.put _ (some 66) _ = _
                simp only [Act.put, List.setIfInBounds_toArray, List.set_cons_zero, List.set_cons_succ, i64_w, i32_w]
                rfl
              refine one_ (i := 29) (N := (some 67)) #[true, true, true, true, true, true, true, true, true, true, true, true, true, true, true, true, true, true, true, true, true, true, true, true, true, true, true, true, true, true, true, true, true, false, false, false, false] rfl rfl (one_of HT_.out (by kernel_rfl)) (by decide) (fun K hK => ?_)
              refine goes_ Try.func49 (by kernel_rfl) rfl #[.agg (u8s key), .slice (some ⟨gV19, 0, none⟩) 1 1] (by rfl) rfl rfl (by (try simp only [List.map_toArray, List.map_cons, List.map_nil]); first | done | rfl) ?_
              refine (key1_at key hk u hu9 V19 gV19 hs28V19).mono ?_
              rintro e V20 ⟨rfl, hcV20⟩
              have hBV20 : Below w.heap.size w V20 := below_then hBV19 hBV19.size hcV20
              have hkV20 : V20.heap[gk]? = some (blk8 key 61) := blk_below hkV19 hcV20
              have hs1V20 : V20.heap[gV1]? = some (.cells #[.string t] 9 (0, 0)) := blk_below hs1V19 hcV20
              have hs8V20 : V20.heap[gV4]? = some (.cells #[.string u] 9 (0, 0)) := blk_below hs8V19 hcV20
              have hs17V20 : V20.heap[gV7]? = some (.cells #[.string t] 9 (0, 0)) := blk_below hs17V19 hcV20
              have hs21V20 : V20.heap[gV9]? = some (.cells #[.string t] 9 (0, 0)) := blk_below hs21V19 hcV20
              have hs32V20 : V20.heap[gV18]? = some (.cells #[.string u] 9 (0, 0)) := blk_below hs32V19 hcV20
              have hs28V20 : V20.heap[gV19]? = some (.cells #[.string u] 9 (0, 0)) := blk_below hs28V19 hcV20
              refine ⟨_, rfl, ?_⟩
              refine hK.out _ _ hkV20 (fun hHeld => ?_)
              clear hK K hcV20
              refine norm_ (a' := ?_) ?_ ?_
              rotate_left
              · show Act.put _ (some 67) _ = _
                simp only [Act.put, List.setIfInBounds_toArray, List.set_cons_zero, List.set_cons_succ, i64_w, i32_w]
                rfl
              refine one_ (i := 33) (N := (some 71)) #[true, true, true, true, true, true, true, true, true, true, true, true, true, true, true, true, true, true, true, true, true, true, true, true, true, true, true, true, true, true, true, true, true, true, false, false, false] rfl rfl (one_of HT_.out (by kernel_rfl)) (by decide) (fun K hK => ?_)
              refine goes_ Try.func50 (by kernel_rfl) rfl #[.agg (u8s key), .slice (some ⟨gV18, 0, none⟩) 1 1] (by rfl) rfl rfl (by (try simp only [List.map_toArray, List.map_cons, List.map_nil]); first | done | rfl) ?_
              refine (rkey1_at key hk u hu9 V20 gV18 hs32V20).mono ?_
              rintro e V21 ⟨rfl, hcV21⟩
              have hBV21 : Below w.heap.size w V21 := below_then hBV20 hBV20.size hcV21
              have hkV21 : V21.heap[gk]? = some (blk8 key 61) := blk_below hkV20 hcV21
              have hs1V21 : V21.heap[gV1]? = some (.cells #[.string t] 9 (0, 0)) := blk_below hs1V20 hcV21
              have hs8V21 : V21.heap[gV4]? = some (.cells #[.string u] 9 (0, 0)) := blk_below hs8V20 hcV21
              have hs17V21 : V21.heap[gV7]? = some (.cells #[.string t] 9 (0, 0)) := blk_below hs17V20 hcV21
              have hs21V21 : V21.heap[gV9]? = some (.cells #[.string t] 9 (0, 0)) := blk_below hs21V20 hcV21
              have hs32V21 : V21.heap[gV18]? = some (.cells #[.string u] 9 (0, 0)) := blk_below hs32V20 hcV21
              have hs28V21 : V21.heap[gV19]? = some (.cells #[.string u] 9 (0, 0)) := blk_below hs28V20 hcV21
              refine ⟨_, rfl, ?_⟩
              refine hK.out _ _ hkV21 (fun hHeld => ?_)
              clear hK K hcV21
              refine norm_ (a' := ?_) ?_ ?_
              rotate_left
              · show Act.put _ (some 71) _ = _
                simp only [Act.put, List.setIfInBounds_toArray, List.set_cons_zero, List.set_cons_succ, i64_w, i32_w]
                rfl
              refine pure_ (i := 34) (N := (some 72)) (v := ?_) (a' := ?_) #[true, true, true, true, true, true, true, true, true, true, true, true, true, true, true, true, true, true, true, true, true, true, true, true, true, true, true, true, true, true, true, true, true, true, true, false, false] rfl rfl (any_of HT_.out (by kernel_rfl)) (fun _ _ _ h => h) (Or.inl ⟨by rfl, ?_⟩) ?_ ?_
              rotate_left
              · intro w'
                go_simp
                with_reducible rfl
              rotate_left
              · simp only [Act.put, List.setIfInBounds_toArray, List.set_cons_zero, List.set_cons_succ, i64_w, i32_w]
                rfl
              refine pure_ (i := 35) (N := (some 73)) (v := ?_) (a' := ?_) #[true, true, true, true, true, true, true, true, true, true, true, true, true, true, true, true, true, true, true, true, true, true, true, true, true, true, true, true, true, true, true, true, true, true, true, true, false] rfl rfl (any_of HT_.out (by kernel_rfl)) (fun _ _ _ h => h) (Or.inl ⟨by rfl, ?_⟩) ?_ ?_
              rotate_left
              · intro w'
                go_simp
                with_reducible rfl
              rotate_left
              · simp only [Act.put, List.setIfInBounds_toArray, List.set_cons_zero, List.set_cons_succ, i64_w, i32_w]
                rfl
              refine pure_ (i := 36) (N := (some 6)) (v := ?_) (a' := ?_) #[true, true, true, true, true, true, true, true, true, true, true, true, true, true, true, true, true, true, true, true, true, true, true, true, true, true, true, true, true, true, true, true, true, true, true, true, true] rfl rfl (any_of HT_.out (by kernel_rfl)) (fun _ _ _ h => h) (Or.inl ⟨by rfl, ?_⟩) ?_ ?_
              rotate_left
              · intro w'
                go_simp
                with_reducible rfl
              rotate_left
              · simp only [Act.put, List.setIfInBounds_toArray, List.set_cons_zero, List.set_cons_succ, i64_w, i32_w]
                rfl
              refine done_ (done_of HT_.out (by kernel_rfl)) ?_
              change KK _ _
              refine hKK.out _ _ ?_
              go_wp2_with fail
              go_ret
              exact ⟨by simp, hBV21⟩
          · refine value_ (w1 := V7.alloc (.cells #[.string t] 9 (0, 0))) (v := .slice (some ⟨V7.heap.size, 0, none⟩) 1 1) (by rfl) rfl ?_ ?_
            · first | (go_simp; done) | (go_simp; rfl)
            have hBV22 : Below w.heap.size w (V7.alloc (.cells #[.string t] 9 (0, 0))) := below_alloc hBV7 _
            have hkV22 : (V7.alloc (.cells #[.string t] 9 (0, 0))).heap[gk]? = some (blk8 key 61) := blk_alloc hkV7 _
            have hs21V22 : (V7.alloc (.cells #[.string t] 9 (0, 0))).heap[V7.heap.size]? = some (.cells #[.string t] 9 (0, 0)) := heap_alloc_last _ _
            have hs1V22 : (V7.alloc (.cells #[.string t] 9 (0, 0))).heap[gV1]? = some (.cells #[.string t] 9 (0, 0)) := blk_alloc hs1V7 _
            have hs8V22 : (V7.alloc (.cells #[.string t] 9 (0, 0))).heap[gV4]? = some (.cells #[.string u] 9 (0, 0)) := blk_alloc hs8V7 _
            have hs17V22 : (V7.alloc (.cells #[.string t] 9 (0, 0))).heap[gV7]? = some (.cells #[.string t] 9 (0, 0)) := blk_alloc hs17V7 _
            refine hK.out _ _ hkV22 (fun hHeld => ?_)
            clear hK K
            generalize V7.alloc (.cells #[.string t] 9 (0, 0)) = V22 at hBV22 hkV22 hs21V22 hs1V22 hs8V22 hs17V22 hHeld ⊢
            generalize V7.heap.size = gV22 at hs21V22 ⊢
            refine norm_ (a' := ?_) ?_ ?_
            rotate_left
            · show Act.put _ (some 59) _ = _
              simp only [Act.put, List.setIfInBounds_toArray, List.set_cons_zero, List.set_cons_succ, i64_w, i32_w]
              rfl
            refine one_ (i := 18) (N := (some 56)) #[true, true, true, true, true, true, true, true, true, true, true, true, true, true, true, true, true, true, true, true, true, true, false, false, false, false, false, false, false, false, false, false, false, false, false, false, false] rfl rfl (one_of HT_.out (by kernel_rfl)) (by decide) (fun K hK => ?_)
            refine goes_ Try.func49 (by kernel_rfl) rfl #[.agg (u8s key), .slice (some ⟨gV7, 0, none⟩) 1 1] (by rfl) rfl rfl (by (try simp only [List.map_toArray, List.map_cons, List.map_nil]); first | done | rfl) ?_
            refine (key1_at key hk t ht9 V22 gV7 hs17V22).mono ?_
            rintro e V23 ⟨rfl, hcV23⟩
            have hBV23 : Below w.heap.size w V23 := below_then hBV22 hBV22.size hcV23
            have hkV23 : V23.heap[gk]? = some (blk8 key 61) := blk_below hkV22 hcV23
            have hs1V23 : V23.heap[gV1]? = some (.cells #[.string t] 9 (0, 0)) := blk_below hs1V22 hcV23
            have hs8V23 : V23.heap[gV4]? = some (.cells #[.string u] 9 (0, 0)) := blk_below hs8V22 hcV23
            have hs17V23 : V23.heap[gV7]? = some (.cells #[.string t] 9 (0, 0)) := blk_below hs17V22 hcV23
            have hs21V23 : V23.heap[gV22]? = some (.cells #[.string t] 9 (0, 0)) := blk_below hs21V22 hcV23
            refine ⟨_, rfl, ?_⟩
            refine hK.out _ _ hkV23 (fun hHeld => ?_)
            clear hK K hcV23
            refine norm_ (a' := ?_) ?_ ?_
            rotate_left
            · show Act.put _ (some 56) _ = _
              simp only [Act.put, List.setIfInBounds_toArray, List.set_cons_zero, List.set_cons_succ, i64_w, i32_w]
              rfl
            refine one_ (i := 22) (N := (some 60)) #[true, true, true, true, true, true, true, true, true, true, true, true, true, true, true, true, true, true, true, true, true, true, true, false, false, false, false, false, false, false, false, false, false, false, false, false, false] rfl rfl (one_of HT_.out (by kernel_rfl)) (by decide) (fun K hK => ?_)
            refine goes_ Try.func50 (by kernel_rfl) rfl #[.agg (u8s key), .slice (some ⟨gV22, 0, none⟩) 1 1] (by rfl) rfl rfl (by (try simp only [List.map_toArray, List.map_cons, List.map_nil]); first | done | rfl) ?_
            refine (rkey1_at key hk t ht9 V23 gV22 hs21V23).mono ?_
            rintro e V24 ⟨rfl, hcV24⟩
            have hBV24 : Below w.heap.size w V24 := below_then hBV23 hBV23.size hcV24
            have hkV24 : V24.heap[gk]? = some (blk8 key 61) := blk_below hkV23 hcV24
            have hs1V24 : V24.heap[gV1]? = some (.cells #[.string t] 9 (0, 0)) := blk_below hs1V23 hcV24
            have hs8V24 : V24.heap[gV4]? = some (.cells #[.string u] 9 (0, 0)) := blk_below hs8V23 hcV24
            have hs17V24 : V24.heap[gV7]? = some (.cells #[.string t] 9 (0, 0)) := blk_below hs17V23 hcV24
            have hs21V24 : V24.heap[gV22]? = some (.cells #[.string t] 9 (0, 0)) := blk_below hs21V23 hcV24
            refine ⟨_, rfl, ?_⟩
            refine hK.out _ _ hkV24 (fun hHeld => ?_)
            clear hK K hcV24
            refine norm_ (a' := ?_) ?_ ?_
            rotate_left
            · show Act.put _ (some 60) _ = _
              simp only [Act.put, List.setIfInBounds_toArray, List.set_cons_zero, List.set_cons_succ, i64_w, i32_w]
              rfl
            refine pure_ (i := 23) (N := (some 61)) (v := ?_) (a' := ?_) #[true, true, true, true, true, true, true, true, true, true, true, true, true, true, true, true, true, true, true, true, true, true, true, true, false, false, false, false, false, false, false, false, false, false, false, false, false] rfl rfl (any_of HT_.out (by kernel_rfl)) (fun _ _ _ h => h) (Or.inl ⟨by rfl, ?_⟩) ?_ ?_
            rotate_left
            · intro w'
              go_simp
              with_reducible rfl
            rotate_left
            · simp only [Act.put, List.setIfInBounds_toArray, List.set_cons_zero, List.set_cons_succ, i64_w, i32_w]
              rfl
            refine pure_ (i := 24) (N := (some 62)) (v := ?_) (a' := ?_) #[true, true, true, true, true, true, true, true, true, true, true, true, true, true, true, true, true, true, true, true, true, true, true, true, true, false, false, false, false, false, false, false, false, false, false, false, false] rfl rfl (any_of HT_.out (by kernel_rfl)) (fun _ _ _ h => h) (Or.inl ⟨by rfl, ?_⟩) ?_ ?_
            rotate_left
            · intro w'
              go_simp
              with_reducible rfl
            rotate_left
            · simp only [Act.put, List.setIfInBounds_toArray, List.set_cons_zero, List.set_cons_succ, i64_w, i32_w]
              rfl
            refine pure_ (i := 25) (N := (some 63)) (v := ?_) (a' := ?_) #[true, true, true, true, true, true, true, true, true, true, true, true, true, true, true, true, true, true, true, true, true, true, true, true, true, true, false, false, false, false, false, false, false, false, false, false, false] rfl rfl (any_of HT_.out (by kernel_rfl)) (fun _ _ _ h => h) (Or.inl ⟨by rfl, ?_⟩) ?_ ?_
            rotate_left
            · intro w'
              go_simp
              with_reducible rfl
            rotate_left
            · simp only [Act.put, List.setIfInBounds_toArray, List.set_cons_zero, List.set_cons_succ, i64_w, i32_w]
              rfl
            refine pure_ (i := 27) (N := (some 65)) (v := ?_) (a' := ?_) #[true, true, true, true, true, true, true, true, true, true, true, true, true, true, true, true, true, true, true, true, true, true, true, true, true, true, false, true, false, false, false, false, false, false, false, false, false] rfl rfl (any_of HT_.out (by kernel_rfl)) (fun _ _ _ h => h) (Or.inl ⟨by rfl, ?_⟩) ?_ ?_
            rotate_left
            · intro w'
              go_simp
              with_reducible rfl
            rotate_left
            · simp only [Act.put, List.setIfInBounds_toArray, List.set_cons_zero, List.set_cons_succ, i64_w, i32_w]
              rfl
            refine pure_ (i := 31) (N := (some 69)) (v := ?_) (a' := ?_) #[true, true, true, true, true, true, true, true, true, true, true, true, true, true, true, true, true, true, true, true, true, true, true, true, true, true, false, true, false, false, false, true, false, false, false, false, false] rfl rfl (any_of HT_.out (by kernel_rfl)) (fun _ _ _ h => h) (Or.inl ⟨by rfl, ?_⟩) ?_ ?_
            rotate_left
            · intro w'
              go_simp
              with_reducible rfl
            rotate_left
            · simp only [Act.put, List.setIfInBounds_toArray, List.set_cons_zero, List.set_cons_succ, i64_w, i32_w]
              rfl
            refine take_ (i := 26) (N := (some 64)) (v := .agg (u8s key)) (a' := ?_) #[true, true, true, true, true, true, true, true, true, true, true, true, true, true, true, true, true, true, true, true, true, true, true, true, true, true, true, true, false, false, false, true, false, false, false, false, false] rfl rfl (take_ofW HT_.out HW_.out (by kernel_rfl)) (fun _ _ _ h => h) (Or.inl ⟨by rfl, fun w' s8 => exec_load rfl rfl (loadAt61 s8 hk)⟩) hHeld ?_ ?_
            rotate_left
            · simp only [Act.put, List.setIfInBounds_toArray, List.set_cons_zero, List.set_cons_succ, i64_w, i32_w]
              rfl
            refine take_ (i := 30) (N := (some 68)) (v := .agg (u8s key)) (a' := ?_) #[true, true, true, true, true, true, true, true, true, true, true, true, true, true, true, true, true, true, true, true, true, true, true, true, true, true, true, true, false, false, true, true, false, false, false, false, false] rfl rfl (take_ofW HT_.out HW_.out (by kernel_rfl)) (fun _ _ _ h => h) (Or.inl ⟨by rfl, fun w' s8 => exec_load rfl rfl (loadAt61 s8 hk)⟩) hHeld ?_ ?_
            rotate_left
            · simp only [Act.put, List.setIfInBounds_toArray, List.set_cons_zero, List.set_cons_succ, i64_w, i32_w]
              rfl
            refine two_ (i := 28) (j := 32) (Ni := (some 66)) (Nj := (some 70)) #[true, true, true, true, true, true, true, true, true, true, true, true, true, true, true, true, true, true, true, true, true, true, true, true, true, true, true, true, true, false, true, true, false, false, false, false, false] #[true, true, true, true, true, true, true, true, true, true, true, true, true, true, true, true, true, true, true, true, true, true, true, true, true, true, true, true, false, false, true, true, true, false, false, false, false] rfl rfl rfl rfl (two_of HT_.out (by kernel_rfl)) (by decide) (by decide) (fun K hK => ?_) (fun K hK => ?_)
            · refine value_ (w1 := V24.alloc (.cells #[.string u] 9 (0, 0))) (v := .slice (some ⟨V24.heap.size, 0, none⟩) 1 1) (by rfl) rfl ?_ ?_
              · first | (go_simp; done) | (go_simp; rfl)
              have hBV25 : Below w.heap.size w (V24.alloc (.cells #[.string u] 9 (0, 0))) := below_alloc hBV24 _
              have hkV25 : (V24.alloc (.cells #[.string u] 9 (0, 0))).heap[gk]? = some (blk8 key 61) := blk_alloc hkV24 _
              have hs28V25 : (V24.alloc (.cells #[.string u] 9 (0, 0))).heap[V24.heap.size]? = some (.cells #[.string u] 9 (0, 0)) := heap_alloc_last _ _
              have hs1V25 : (V24.alloc (.cells #[.string u] 9 (0, 0))).heap[gV1]? = some (.cells #[.string t] 9 (0, 0)) := blk_alloc hs1V24 _
              have hs8V25 : (V24.alloc (.cells #[.string u] 9 (0, 0))).heap[gV4]? = some (.cells #[.string u] 9 (0, 0)) := blk_alloc hs8V24 _
              have hs17V25 : (V24.alloc (.cells #[.string u] 9 (0, 0))).heap[gV7]? = some (.cells #[.string t] 9 (0, 0)) := blk_alloc hs17V24 _
              have hs21V25 : (V24.alloc (.cells #[.string u] 9 (0, 0))).heap[gV22]? = some (.cells #[.string t] 9 (0, 0)) := blk_alloc hs21V24 _
              refine hK.out _ _ hkV25 (fun hHeld => ?_)
              clear hK K
              generalize V24.alloc (.cells #[.string u] 9 (0, 0)) = V25 at hBV25 hkV25 hs28V25 hs1V25 hs8V25 hs17V25 hs21V25 hHeld ⊢
              generalize V24.heap.size = gV25 at hs28V25 ⊢
              refine norm_ (a' := ?_) ?_ ?_
              rotate_left
              · show Act.put _ (some 66) _ = _
                simp only [Act.put, List.setIfInBounds_toArray, List.set_cons_zero, List.set_cons_succ, i64_w, i32_w]
                rfl
              refine two_ (i := 29) (j := 32) (Ni := (some 67)) (Nj := (some 70)) #[true, true, true, true, true, true, true, true, true, true, true, true, true, true, true, true, true, true, true, true, true, true, true, true, true, true, true, true, true, true, true, true, false, false, false, false, false] #[true, true, true, true, true, true, true, true, true, true, true, true, true, true, true, true, true, true, true, true, true, true, true, true, true, true, true, true, true, false, true, true, true, false, false, false, false] rfl rfl rfl rfl (two_of HT_.out (by kernel_rfl)) (by decide) (by decide) (fun K hK => ?_) (fun K hK => ?_)
              · refine goes_ Try.func49 (by kernel_rfl) rfl #[.agg (u8s key), .slice (some ⟨gV25, 0, none⟩) 1 1] (by rfl) rfl rfl (by (try simp only [List.map_toArray, List.map_cons, List.map_nil]); first | done | rfl) ?_
                refine (key1_at key hk u hu9 V25 gV25 hs28V25).mono ?_
                rintro e V26 ⟨rfl, hcV26⟩
                have hBV26 : Below w.heap.size w V26 := below_then hBV25 hBV25.size hcV26
                have hkV26 : V26.heap[gk]? = some (blk8 key 61) := blk_below hkV25 hcV26
                have hs1V26 : V26.heap[gV1]? = some (.cells #[.string t] 9 (0, 0)) := blk_below hs1V25 hcV26
                have hs8V26 : V26.heap[gV4]? = some (.cells #[.string u] 9 (0, 0)) := blk_below hs8V25 hcV26
                have hs17V26 : V26.heap[gV7]? = some (.cells #[.string t] 9 (0, 0)) := blk_below hs17V25 hcV26
                have hs21V26 : V26.heap[gV22]? = some (.cells #[.string t] 9 (0, 0)) := blk_below hs21V25 hcV26
                have hs28V26 : V26.heap[gV25]? = some (.cells #[.string u] 9 (0, 0)) := blk_below hs28V25 hcV26
                refine ⟨_, rfl, ?_⟩
                refine hK.out _ _ hkV26 (fun hHeld => ?_)
                clear hK K hcV26
                refine norm_ (a' := ?_) ?_ ?_
                rotate_left
                · show Act.put _ (some 67) _ = _
                  simp only [Act.put, List.setIfInBounds_toArray, List.set_cons_zero, List.set_cons_succ, i64_w, i32_w]
                  rfl
                refine one_ (i := 32) (N := (some 70)) #[true, true, true, true, true, true, true, true, true, true, true, true, true, true, true, true, true, true, true, true, true, true, true, true, true, true, true, true, true, true, true, true, true, false, false, false, false] rfl rfl (one_of HT_.out (by kernel_rfl)) (by decide) (fun K hK => ?_)
                refine value_ (w1 := V26.alloc (.cells #[.string u] 9 (0, 0))) (v := .slice (some ⟨V26.heap.size, 0, none⟩) 1 1) (by rfl) rfl ?_ ?_
                · first | (go_simp; done) | (go_simp; rfl)
                have hBV27 : Below w.heap.size w (V26.alloc (.cells #[.string u] 9 (0, 0))) := below_alloc hBV26 _
                have hkV27 : (V26.alloc (.cells #[.string u] 9 (0, 0))).heap[gk]? = some (blk8 key 61) := blk_alloc hkV26 _
                have hs32V27 : (V26.alloc (.cells #[.string u] 9 (0, 0))).heap[V26.heap.size]? = some (.cells #[.string u] 9 (0, 0)) := heap_alloc_last _ _
                have hs1V27 : (V26.alloc (.cells #[.string u] 9 (0, 0))).heap[gV1]? = some (.cells #[.string t] 9 (0, 0)) := blk_alloc hs1V26 _
                have hs8V27 : (V26.alloc (.cells #[.string u] 9 (0, 0))).heap[gV4]? = some (.cells #[.string u] 9 (0, 0)) := blk_alloc hs8V26 _
                have hs17V27 : (V26.alloc (.cells #[.string u] 9 (0, 0))).heap[gV7]? = some (.cells #[.string t] 9 (0, 0)) := blk_alloc hs17V26 _
                have hs21V27 : (V26.alloc (.cells #[.string u] 9 (0, 0))).heap[gV22]? = some (.cells #[.string t] 9 (0, 0)) := blk_alloc hs21V26 _
                have hs28V27 : (V26.alloc (.cells #[.string u] 9 (0, 0))).heap[gV25]? = some (.cells #[.string u] 9 (0, 0)) := blk_alloc hs28V26 _
                refine hK.out _ _ hkV27 (fun hHeld => ?_)
                clear hK K
                generalize V26.alloc (.cells #[.string u] 9 (0, 0)) = V27 at hBV27 hkV27 hs32V27 hs1V27 hs8V27 hs17V27 hs21V27 hs28V27 hHeld ⊢
                generalize V26.heap.size = gV27 at hs32V27 ⊢
                refine norm_ (a' := ?_) ?_ ?_
                rotate_left
                · show Act.put _ (some 70) _ = _
                  simp only [Act.put, List.setIfInBounds_toArray, List.set_cons_zero, List.set_cons_succ, i64_w, i32_w]
                  rfl
                refine one_ (i := 33) (N := (some 71)) #[true, true, true, true, true, true, true, true, true, true, true, true, true, true, true, true, true, true, true, true, true, true, true, true, true, true, true, true, true, true, true, true, true, true, false, false, false] rfl rfl (one_of HT_.out (by kernel_rfl)) (by decide) (fun K hK => ?_)
                refine goes_ Try.func50 (by kernel_rfl) rfl #[.agg (u8s key), .slice (some ⟨gV27, 0, none⟩) 1 1] (by rfl) rfl rfl (by (try simp only [List.map_toArray, List.map_cons, List.map_nil]); first | done | rfl) ?_
                refine (rkey1_at key hk u hu9 V27 gV27 hs32V27).mono ?_
                rintro e V28 ⟨rfl, hcV28⟩
                have hBV28 : Below w.heap.size w V28 := below_then hBV27 hBV27.size hcV28
                have hkV28 : V28.heap[gk]? = some (blk8 key 61) := blk_below hkV27 hcV28
                have hs1V28 : V28.heap[gV1]? = some (.cells #[.string t] 9 (0, 0)) := blk_below hs1V27 hcV28
                have hs8V28 : V28.heap[gV4]? = some (.cells #[.string u] 9 (0, 0)) := blk_below hs8V27 hcV28
                have hs17V28 : V28.heap[gV7]? = some (.cells #[.string t] 9 (0, 0)) := blk_below hs17V27 hcV28
                have hs21V28 : V28.heap[gV22]? = some (.cells #[.string t] 9 (0, 0)) := blk_below hs21V27 hcV28
                have hs28V28 : V28.heap[gV25]? = some (.cells #[.string u] 9 (0, 0)) := blk_below hs28V27 hcV28
                have hs32V28 : V28.heap[gV27]? = some (.cells #[.string u] 9 (0, 0)) := blk_below hs32V27 hcV28
                refine ⟨_, rfl, ?_⟩
                refine hK.out _ _ hkV28 (fun hHeld => ?_)
                clear hK K hcV28
                refine norm_ (a' := ?_) ?_ ?_
                rotate_left
                · show Act.put _ (some 71) _ = _
                  simp only [Act.put, List.setIfInBounds_toArray, List.set_cons_zero, List.set_cons_succ, i64_w, i32_w]
                  rfl
                refine pure_ (i := 34) (N := (some 72)) (v := ?_) (a' := ?_) #[true, true, true, true, true, true, true, true, true, true, true, true, true, true, true, true, true, true, true, true, true, true, true, true, true, true, true, true, true, true, true, true, true, true, true, false, false] rfl rfl (any_of HT_.out (by kernel_rfl)) (fun _ _ _ h => h) (Or.inl ⟨by rfl, ?_⟩) ?_ ?_
                rotate_left
                · intro w'
                  go_simp
                  with_reducible rfl
                rotate_left
                · simp only [Act.put, List.setIfInBounds_toArray, List.set_cons_zero, List.set_cons_succ, i64_w, i32_w]
                  rfl
                refine pure_ (i := 35) (N := (some 73)) (v := ?_) (a' := ?_) #[true, true, true, true, true, true, true, true, true, true, true, true, true, true, true, true, true, true, true, true, true, true, true, true, true, true, true, true, true, true, true, true, true, true, true, true, false] rfl rfl (any_of HT_.out (by kernel_rfl)) (fun _ _ _ h => h) (Or.inl ⟨by rfl, ?_⟩) ?_ ?_
                rotate_left
                · intro w'
                  go_simp
                  with_reducible rfl
                rotate_left
                · simp only [Act.put, List.setIfInBounds_toArray, List.set_cons_zero, List.set_cons_succ, i64_w, i32_w]
                  rfl
                refine pure_ (i := 36) (N := (some 6)) (v := ?_) (a' := ?_) #[true, true, true, true, true, true, true, true, true, true, true, true, true, true, true, true, true, true, true, true, true, true, true, true, true, true, true, true, true, true, true, true, true, true, true, true, true] rfl rfl (any_of HT_.out (by kernel_rfl)) (fun _ _ _ h => h) (Or.inl ⟨by rfl, ?_⟩) ?_ ?_
                rotate_left
                · intro w'
                  go_simp
                  with_reducible rfl
                rotate_left
                · simp only [Act.put, List.setIfInBounds_toArray, List.set_cons_zero, List.set_cons_succ, i64_w, i32_w]
                  rfl
                refine done_ (done_of HT_.out (by kernel_rfl)) ?_
                change KK _ _
                refine hKK.out _ _ ?_
                go_wp2_with fail
                go_ret
                exact ⟨by simp, hBV28⟩
              · refine value_ (w1 := V25.alloc (.cells #[.string u] 9 (0, 0))) (v := .slice (some ⟨V25.heap.size, 0, none⟩) 1 1) (by rfl) rfl ?_ ?_
                · first | (go_simp; done) | (go_simp; rfl)
                have hBV29 : Below w.heap.size w (V25.alloc (.cells #[.string u] 9 (0, 0))) := below_alloc hBV25 _
                have hkV29 : (V25.alloc (.cells #[.string u] 9 (0, 0))).heap[gk]? = some (blk8 key 61) := blk_alloc hkV25 _
                have hs32V29 : (V25.alloc (.cells #[.string u] 9 (0, 0))).heap[V25.heap.size]? = some (.cells #[.string u] 9 (0, 0)) := heap_alloc_last _ _
                have hs1V29 : (V25.alloc (.cells #[.string u] 9 (0, 0))).heap[gV1]? = some (.cells #[.string t] 9 (0, 0)) := blk_alloc hs1V25 _
                have hs8V29 : (V25.alloc (.cells #[.string u] 9 (0, 0))).heap[gV4]? = some (.cells #[.string u] 9 (0, 0)) := blk_alloc hs8V25 _
                have hs17V29 : (V25.alloc (.cells #[.string u] 9 (0, 0))).heap[gV7]? = some (.cells #[.string t] 9 (0, 0)) := blk_alloc hs17V25 _
                have hs21V29 : (V25.alloc (.cells #[.string u] 9 (0, 0))).heap[gV22]? = some (.cells #[.string t] 9 (0, 0)) := blk_alloc hs21V25 _
                have hs28V29 : (V25.alloc (.cells #[.string u] 9 (0, 0))).heap[gV25]? = some (.cells #[.string u] 9 (0, 0)) := blk_alloc hs28V25 _
                refine hK.out _ _ hkV29 (fun hHeld => ?_)
                clear hK K
                generalize V25.alloc (.cells #[.string u] 9 (0, 0)) = V29 at hBV29 hkV29 hs32V29 hs1V29 hs8V29 hs17V29 hs21V29 hs28V29 hHeld ⊢
                generalize V25.heap.size = gV29 at hs32V29 ⊢
                refine norm_ (a' := ?_) ?_ ?_
                rotate_left
                · show Act.put _ (some 70) _ = _
                  simp only [Act.put, List.setIfInBounds_toArray, List.set_cons_zero, List.set_cons_succ, i64_w, i32_w]
                  rfl
                refine one_ (i := 29) (N := (some 67)) #[true, true, true, true, true, true, true, true, true, true, true, true, true, true, true, true, true, true, true, true, true, true, true, true, true, true, true, true, true, true, true, true, true, false, false, false, false] rfl rfl (one_of HT_.out (by kernel_rfl)) (by decide) (fun K hK => ?_)
                refine goes_ Try.func49 (by kernel_rfl) rfl #[.agg (u8s key), .slice (some ⟨gV25, 0, none⟩) 1 1] (by rfl) rfl rfl (by (try simp only [List.map_toArray, List.map_cons, List.map_nil]); first | done | rfl) ?_
                refine (key1_at key hk u hu9 V29 gV25 hs28V29).mono ?_
                rintro e V30 ⟨rfl, hcV30⟩
                have hBV30 : Below w.heap.size w V30 := below_then hBV29 hBV29.size hcV30
                have hkV30 : V30.heap[gk]? = some (blk8 key 61) := blk_below hkV29 hcV30
                have hs1V30 : V30.heap[gV1]? = some (.cells #[.string t] 9 (0, 0)) := blk_below hs1V29 hcV30
                have hs8V30 : V30.heap[gV4]? = some (.cells #[.string u] 9 (0, 0)) := blk_below hs8V29 hcV30
                have hs17V30 : V30.heap[gV7]? = some (.cells #[.string t] 9 (0, 0)) := blk_below hs17V29 hcV30
                have hs21V30 : V30.heap[gV22]? = some (.cells #[.string t] 9 (0, 0)) := blk_below hs21V29 hcV30
                have hs28V30 : V30.heap[gV25]? = some (.cells #[.string u] 9 (0, 0)) := blk_below hs28V29 hcV30
                have hs32V30 : V30.heap[gV29]? = some (.cells #[.string u] 9 (0, 0)) := blk_below hs32V29 hcV30
                refine ⟨_, rfl, ?_⟩
                refine hK.out _ _ hkV30 (fun hHeld => ?_)
                clear hK K hcV30
                refine norm_ (a' := ?_) ?_ ?_
                rotate_left
                · show Act.put _ (some 67) _ = _
                  simp only [Act.put, List.setIfInBounds_toArray, List.set_cons_zero, List.set_cons_succ, i64_w, i32_w]
                  rfl
                refine one_ (i := 33) (N := (some 71)) #[true, true, true, true, true, true, true, true, true, true, true, true, true, true, true, true, true, true, true, true, true, true, true, true, true, true, true, true, true, true, true, true, true, true, false, false, false] rfl rfl (one_of HT_.out (by kernel_rfl)) (by decide) (fun K hK => ?_)
                refine goes_ Try.func50 (by kernel_rfl) rfl #[.agg (u8s key), .slice (some ⟨gV29, 0, none⟩) 1 1] (by rfl) rfl rfl (by (try simp only [List.map_toArray, List.map_cons, List.map_nil]); first | done | rfl) ?_
                refine (rkey1_at key hk u hu9 V30 gV29 hs32V30).mono ?_
                rintro e V31 ⟨rfl, hcV31⟩
                have hBV31 : Below w.heap.size w V31 := below_then hBV30 hBV30.size hcV31
                have hkV31 : V31.heap[gk]? = some (blk8 key 61) := blk_below hkV30 hcV31
                have hs1V31 : V31.heap[gV1]? = some (.cells #[.string t] 9 (0, 0)) := blk_below hs1V30 hcV31
                have hs8V31 : V31.heap[gV4]? = some (.cells #[.string u] 9 (0, 0)) := blk_below hs8V30 hcV31
                have hs17V31 : V31.heap[gV7]? = some (.cells #[.string t] 9 (0, 0)) := blk_below hs17V30 hcV31
                have hs21V31 : V31.heap[gV22]? = some (.cells #[.string t] 9 (0, 0)) := blk_below hs21V30 hcV31
                have hs28V31 : V31.heap[gV25]? = some (.cells #[.string u] 9 (0, 0)) := blk_below hs28V30 hcV31
                have hs32V31 : V31.heap[gV29]? = some (.cells #[.string u] 9 (0, 0)) := blk_below hs32V30 hcV31
                refine ⟨_, rfl, ?_⟩
                refine hK.out _ _ hkV31 (fun hHeld => ?_)
                clear hK K hcV31
                refine norm_ (a' := ?_) ?_ ?_
                rotate_left
                · show Act.put _ (some 71) _ = _
                  simp only [Act.put, List.setIfInBounds_toArray, List.set_cons_zero, List.set_cons_succ, i64_w, i32_w]
                  rfl
                refine pure_ (i := 34) (N := (some 72)) (v := ?_) (a' := ?_) #[true, true, true, true, true, true, true, true, true, true, true, true, true, true, true, true, true, true, true, true, true, true, true, true, true, true, true, true, true, true, true, true, true, true, true, false, false] rfl rfl (any_of HT_.out (by kernel_rfl)) (fun _ _ _ h => h) (Or.inl ⟨by rfl, ?_⟩) ?_ ?_
                rotate_left
                · intro w'
                  go_simp
                  with_reducible rfl
                rotate_left
                · simp only [Act.put, List.setIfInBounds_toArray, List.set_cons_zero, List.set_cons_succ, i64_w, i32_w]
                  rfl
                refine pure_ (i := 35) (N := (some 73)) (v := ?_) (a' := ?_) #[true, true, true, true, true, true, true, true, true, true, true, true, true, true, true, true, true, true, true, true, true, true, true, true, true, true, true, true, true, true, true, true, true, true, true, true, false] rfl rfl (any_of HT_.out (by kernel_rfl)) (fun _ _ _ h => h) (Or.inl ⟨by rfl, ?_⟩) ?_ ?_
                rotate_left
                · intro w'
                  go_simp
                  with_reducible rfl
                rotate_left
                · simp only [Act.put, List.setIfInBounds_toArray, List.set_cons_zero, List.set_cons_succ, i64_w, i32_w]
                  rfl
                refine pure_ (i := 36) (N := (some 6)) (v := ?_) (a' := ?_) #[true, true, true, true, true, true, true, true, true, true, true, true, true, true, true, true, true, true, true, true, true, true, true, true, true, true, true, true, true, true, true, true, true, true, true, true, true] rfl rfl (any_of HT_.out (by kernel_rfl)) (fun _ _ _ h => h) (Or.inl ⟨by rfl, ?_⟩) ?_ ?_
                rotate_left
                · intro w'
                  go_simp
                  with_reducible rfl
                rotate_left
                · simp only [Act.put, List.setIfInBounds_toArray, List.set_cons_zero, List.set_cons_succ, i64_w, i32_w]
                  rfl
                refine done_ (done_of HT_.out (by kernel_rfl)) ?_
                change KK _ _
                refine hKK.out _ _ ?_
                go_wp2_with fail
                go_ret
                exact ⟨by simp, hBV31⟩
            · refine value_ (w1 := V24.alloc (.cells #[.string u] 9 (0, 0))) (v := .slice (some ⟨V24.heap.size, 0, none⟩) 1 1) (by rfl) rfl ?_ ?_
              · first | (go_simp; done) | (go_simp; rfl)
              have hBV32 : Below w.heap.size w (V24.alloc (.cells #[.string u] 9 (0, 0))) := below_alloc hBV24 _
              have hkV32 : (V24.alloc (.cells #[.string u] 9 (0, 0))).heap[gk]? = some (blk8 key 61) := blk_alloc hkV24 _
              have hs32V32 : (V24.alloc (.cells #[.string u] 9 (0, 0))).heap[V24.heap.size]? = some (.cells #[.string u] 9 (0, 0)) := heap_alloc_last _ _
              have hs1V32 : (V24.alloc (.cells #[.string u] 9 (0, 0))).heap[gV1]? = some (.cells #[.string t] 9 (0, 0)) := blk_alloc hs1V24 _
              have hs8V32 : (V24.alloc (.cells #[.string u] 9 (0, 0))).heap[gV4]? = some (.cells #[.string u] 9 (0, 0)) := blk_alloc hs8V24 _
              have hs17V32 : (V24.alloc (.cells #[.string u] 9 (0, 0))).heap[gV7]? = some (.cells #[.string t] 9 (0, 0)) := blk_alloc hs17V24 _
              have hs21V32 : (V24.alloc (.cells #[.string u] 9 (0, 0))).heap[gV22]? = some (.cells #[.string t] 9 (0, 0)) := blk_alloc hs21V24 _
              refine hK.out _ _ hkV32 (fun hHeld => ?_)
              clear hK K
              generalize V24.alloc (.cells #[.string u] 9 (0, 0)) = V32 at hBV32 hkV32 hs32V32 hs1V32 hs8V32 hs17V32 hs21V32 hHeld ⊢
              generalize V24.heap.size = gV32 at hs32V32 ⊢
              refine norm_ (a' := ?_) ?_ ?_
              rotate_left
              · show Act.put _ (some 70) _ = _
                simp only [Act.put, List.setIfInBounds_toArray, List.set_cons_zero, List.set_cons_succ, i64_w, i32_w]
                rfl
              refine one_ (i := 28) (N := (some 66)) #[true, true, true, true, true, true, true, true, true, true, true, true, true, true, true, true, true, true, true, true, true, true, true, true, true, true, true, true, true, false, true, true, true, false, false, false, false] rfl rfl (one_of HT_.out (by kernel_rfl)) (by decide) (fun K hK => ?_)
              refine value_ (w1 := V32.alloc (.cells #[.string u] 9 (0, 0))) (v := .slice (some ⟨V32.heap.size, 0, none⟩) 1 1) (by rfl) rfl ?_ ?_
              · first | (go_simp; done) | (go_simp; rfl)
              have hBV33 : Below w.heap.size w (V32.alloc (.cells #[.string u] 9 (0, 0))) := below_alloc hBV32 _
              have hkV33 : (V32.alloc (.cells #[.string u] 9 (0, 0))).heap[gk]? = some (blk8 key 61) := blk_alloc hkV32 _
              have hs28V33 : (V32.alloc (.cells #[.string u] 9 (0, 0))).heap[V32.heap.size]? = some (.cells #[.string u] 9 (0, 0)) := heap_alloc_last _ _
              have hs1V33 : (V32.alloc (.cells #[.string u] 9 (0, 0))).heap[gV1]? = some (.cells #[.string t] 9 (0, 0)) := blk_alloc hs1V32 _
              have hs8V33 : (V32.alloc (.cells #[.string u] 9 (0, 0))).heap[gV4]? = some (.cells #[.string u] 9 (0, 0)) := blk_alloc hs8V32 _
              have hs17V33 : (V32.alloc (.cells #[.string u] 9 (0, 0))).heap[gV7]? = some (.cells #[.string t] 9 (0, 0)) := blk_alloc hs17V32 _
              have hs21V33 : (V32.alloc (.cells #[.string u] 9 (0, 0))).heap[gV22]? = some (.cells #[.string t] 9 (0, 0)) := blk_alloc hs21V32 _
              have hs32V33 : (V32.alloc (.cells #[.string u] 9 (0, 0))).heap[gV32]? = some (.cells #[.string u] 9 (0, 0)) := blk_alloc hs32V32 _
              refine hK.out _ _ hkV33 (fun hHeld => ?_)
              clear hK K
              generalize V32.alloc (.cells #[.string u] 9 (0, 0)) = V33 at hBV33 hkV33 hs28V33 hs1V33 hs8V33 hs17V33 hs21V33 hs32V33 hHeld ⊢
              generalize V32.heap.size = gV33 at hs28V33 ⊢
              refine norm_ (a' := ?_) ?_ ?_
              rotate_left
              · show Act.put _ (some 66) _ = _
                simp only [Act.put, List.setIfInBounds_toArray, List.set_cons_zero, List.set_cons_succ, i64_w, i32_w]
                rfl
              refine one_ (i := 29) (N := (some 67)) #[true, true, true, true, true, true, true, true, true, true, true, true, true, true, true, true, true, true, true, true, true, true, true, true, true, true, true, true, true, true, true, true, true, false, false, false, false] rfl rfl (one_of HT_.out (by kernel_rfl)) (by decide) (fun K hK => ?_)
              refine goes_ Try.func49 (by kernel_rfl) rfl #[.agg (u8s key), .slice (some ⟨gV33, 0, none⟩) 1 1] (by rfl) rfl rfl (by (try simp only [List.map_toArray, List.map_cons, List.map_nil]); first | done | rfl) ?_
              refine (key1_at key hk u hu9 V33 gV33 hs28V33).mono ?_
              rintro e V34 ⟨rfl, hcV34⟩
              have hBV34 : Below w.heap.size w V34 := below_then hBV33 hBV33.size hcV34
              have hkV34 : V34.heap[gk]? = some (blk8 key 61) := blk_below hkV33 hcV34
              have hs1V34 : V34.heap[gV1]? = some (.cells #[.string t] 9 (0, 0)) := blk_below hs1V33 hcV34
              have hs8V34 : V34.heap[gV4]? = some (.cells #[.string u] 9 (0, 0)) := blk_below hs8V33 hcV34
              have hs17V34 : V34.heap[gV7]? = some (.cells #[.string t] 9 (0, 0)) := blk_below hs17V33 hcV34
              have hs21V34 : V34.heap[gV22]? = some (.cells #[.string t] 9 (0, 0)) := blk_below hs21V33 hcV34
              have hs32V34 : V34.heap[gV32]? = some (.cells #[.string u] 9 (0, 0)) := blk_below hs32V33 hcV34
              have hs28V34 : V34.heap[gV33]? = some (.cells #[.string u] 9 (0, 0)) := blk_below hs28V33 hcV34
              refine ⟨_, rfl, ?_⟩
              refine hK.out _ _ hkV34 (fun hHeld => ?_)
              clear hK K hcV34
              refine norm_ (a' := ?_) ?_ ?_
              rotate_left
              · show Act.put _ (some 67) _ = _
                simp only [Act.put, List.setIfInBounds_toArray, List.set_cons_zero, List.set_cons_succ, i64_w, i32_w]
                rfl
              refine one_ (i := 33) (N := (some 71)) #[true, true, true, true, true, true, true, true, true, true, true, true, true, true, true, true, true, true, true, true, true, true, true, true, true, true, true, true, true, true, true, true, true, true, false, false, false] rfl rfl (one_of HT_.out (by kernel_rfl)) (by decide) (fun K hK => ?_)
              refine goes_ Try.func50 (by kernel_rfl) rfl #[.agg (u8s key), .slice (some ⟨gV32, 0, none⟩) 1 1] (by rfl) rfl rfl (by (try simp only [List.map_toArray, List.map_cons, List.map_nil]); first | done | rfl) ?_
              refine (rkey1_at key hk u hu9 V34 gV32 hs32V34).mono ?_
              rintro e V35 ⟨rfl, hcV35⟩
              have hBV35 : Below w.heap.size w V35 := below_then hBV34 hBV34.size hcV35
              have hkV35 : V35.heap[gk]? = some (blk8 key 61) := blk_below hkV34 hcV35
              have hs1V35 : V35.heap[gV1]? = some (.cells #[.string t] 9 (0, 0)) := blk_below hs1V34 hcV35
              have hs8V35 : V35.heap[gV4]? = some (.cells #[.string u] 9 (0, 0)) := blk_below hs8V34 hcV35
              have hs17V35 : V35.heap[gV7]? = some (.cells #[.string t] 9 (0, 0)) := blk_below hs17V34 hcV35
              have hs21V35 : V35.heap[gV22]? = some (.cells #[.string t] 9 (0, 0)) := blk_below hs21V34 hcV35
              have hs32V35 : V35.heap[gV32]? = some (.cells #[.string u] 9 (0, 0)) := blk_below hs32V34 hcV35
              have hs28V35 : V35.heap[gV33]? = some (.cells #[.string u] 9 (0, 0)) := blk_below hs28V34 hcV35
              refine ⟨_, rfl, ?_⟩
              refine hK.out _ _ hkV35 (fun hHeld => ?_)
              clear hK K hcV35
              refine norm_ (a' := ?_) ?_ ?_
              rotate_left
              · show Act.put _ (some 71) _ = _
                simp only [Act.put, List.setIfInBounds_toArray, List.set_cons_zero, List.set_cons_succ, i64_w, i32_w]
                rfl
              refine pure_ (i := 34) (N := (some 72)) (v := ?_) (a' := ?_) #[true, true, true, true, true, true, true, true, true, true, true, true, true, true, true, true, true, true, true, true, true, true, true, true, true, true, true, true, true, true, true, true, true, true, true, false, false] rfl rfl (any_of HT_.out (by kernel_rfl)) (fun _ _ _ h => h) (Or.inl ⟨by rfl, ?_⟩) ?_ ?_
              rotate_left
              · intro w'
                go_simp
                with_reducible rfl
              rotate_left
              · simp only [Act.put, List.setIfInBounds_toArray, List.set_cons_zero, List.set_cons_succ, i64_w, i32_w]
                rfl
              refine pure_ (i := 35) (N := (some 73)) (v := ?_) (a' := ?_) #[true, true, true, true, true, true, true, true, true, true, true, true, true, true, true, true, true, true, true, true, true, true, true, true, true, true, true, true, true, true, true, true, true, true, true, true, false] rfl rfl (any_of HT_.out (by kernel_rfl)) (fun _ _ _ h => h) (Or.inl ⟨by rfl, ?_⟩) ?_ ?_
              rotate_left
              · intro w'
                go_simp
                with_reducible rfl
              rotate_left
              · simp only [Act.put, List.setIfInBounds_toArray, List.set_cons_zero, List.set_cons_succ, i64_w, i32_w]
                rfl
              refine pure_ (i := 36) (N := (some 6)) (v := ?_) (a' := ?_) #[true, true, true, true, true, true, true, true, true, true, true, true, true, true, true, true, true, true, true, true, true, true, true, true, true, true, true, true, true, true, true, true, true, true, true, true, true] rfl rfl (any_of HT_.out (by kernel_rfl)) (fun _ _ _ h => h) (Or.inl ⟨by rfl, ?_⟩) ?_ ?_
              rotate_left
              · intro w'
                go_simp
                with_reducible rfl
              rotate_left
              · simp only [Act.put, List.setIfInBounds_toArray, List.set_cons_zero, List.set_cons_succ, i64_w, i32_w]
                rfl
              refine done_ (done_of HT_.out (by kernel_rfl)) ?_
              change KK _ _
              refine hKK.out _ _ ?_
              go_wp2_with fail
              go_ret
              exact ⟨by simp, hBV35⟩
        · refine value_ (w1 := V6.alloc (.cells #[.string t] 9 (0, 0))) (v := .slice (some ⟨V6.heap.size, 0, none⟩) 1 1) (by rfl) rfl ?_ ?_
          · first | (go_simp; done) | (go_simp; rfl)
          have hBV36 : Below w.heap.size w (V6.alloc (.cells #[.string t] 9 (0, 0))) := below_alloc hBV6 _
          have hkV36 : (V6.alloc (.cells #[.string t] 9 (0, 0))).heap[gk]? = some (blk8 key 61) := blk_alloc hkV6 _
          have hs21V36 : (V6.alloc (.cells #[.string t] 9 (0, 0))).heap[V6.heap.size]? = some (.cells #[.string t] 9 (0, 0)) := heap_alloc_last _ _
          have hs1V36 : (V6.alloc (.cells #[.string t] 9 (0, 0))).heap[gV1]? = some (.cells #[.string t] 9 (0, 0)) := blk_alloc hs1V6 _
          have hs8V36 : (V6.alloc (.cells #[.string t] 9 (0, 0))).heap[gV4]? = some (.cells #[.string u] 9 (0, 0)) := blk_alloc hs8V6 _
          refine hK.out _ _ hkV36 (fun hHeld => ?_)
          clear hK K
          generalize V6.alloc (.cells #[.string t] 9 (0, 0)) = V36 at hBV36 hkV36 hs21V36 hs1V36 hs8V36 hHeld ⊢
          generalize V6.heap.size = gV36 at hs21V36 ⊢
          refine norm_ (a' := ?_) ?_ ?_
          rotate_left
          · show Act.put _ (some 59) _ = _
            simp only [Act.put, List.setIfInBounds_toArray, List.set_cons_zero, List.set_cons_succ, i64_w, i32_w]
            rfl
          refine one_ (i := 17) (N := (some 55)) #[true, true, true, true, true, true, true, true, true, true, true, true, true, true, true, true, true, true, false, true, true, true, false, false, false, false, false, false, false, false, false, false, false, false, false, false, false] rfl rfl (one_of HT_.out (by kernel_rfl)) (by decide) (fun K hK => ?_)
          refine value_ (w1 := V36.alloc (.cells #[.string t] 9 (0, 0))) (v := .slice (some ⟨V36.heap.size, 0, none⟩) 1 1) (by rfl) rfl ?_ ?_
          · first | (go_simp; done) | (go_simp; rfl)
          have hBV37 : Below w.heap.size w (V36.alloc (.cells #[.string t] 9 (0, 0))) := below_alloc hBV36 _
          have hkV37 : (V36.alloc (.cells #[.string t] 9 (0, 0))).heap[gk]? = some (blk8 key 61) := blk_alloc hkV36 _
          have hs17V37 : (V36.alloc (.cells #[.string t] 9 (0, 0))).heap[V36.heap.size]? = some (.cells #[.string t] 9 (0, 0)) := heap_alloc_last _ _
          have hs1V37 : (V36.alloc (.cells #[.string t] 9 (0, 0))).heap[gV1]? = some (.cells #[.string t] 9 (0, 0)) := blk_alloc hs1V36 _
          have hs8V37 : (V36.alloc (.cells #[.string t] 9 (0, 0))).heap[gV4]? = some (.cells #[.string u] 9 (0, 0)) := blk_alloc hs8V36 _
          have hs21V37 : (V36.alloc (.cells #[.string t] 9 (0, 0))).heap[gV36]? = some (.cells #[.string t] 9 (0, 0)) := blk_alloc hs21V36 _
          refine hK.out _ _ hkV37 (fun hHeld => ?_)
          clear hK K
          generalize V36.alloc (.cells #[.string t] 9 (0, 0)) = V37 at hBV37 hkV37 hs17V37 hs1V37 hs8V37 hs21V37 hHeld ⊢
          generalize V36.heap.size = gV37 at hs17V37 ⊢
          refine norm_ (a' := ?_) ?_ ?_
          rotate_left
          · show Act.put _ (some 55) _ = _
            simp only [Act.put, List.setIfInBounds_toArray, List.set_cons_zero, List.set_cons_succ, i64_w, i32_w]
            rfl
          refine one_ (i := 18) (N := (some 56)) #[true, true, true, true, true, true, true, true, true, true, true, true, true, true, true, true, true, true, true, true, true, true, false, false, false, false, false, false, false, false, false, false, false, false, false, false, false] rfl rfl (one_of HT_.out (by kernel_rfl)) (by decide) (fun K hK => ?_)
          refine goes_ Try.func49 (by kernel_rfl) rfl #[.agg (u8s key), .slice (some ⟨gV37, 0, none⟩) 1 1] (by rfl) rfl rfl (by (try simp only [List.map_toArray, List.map_cons, List.map_nil]); first | done | rfl) ?_
          refine (key1_at key hk t ht9 V37 gV37 hs17V37).mono ?_
          rintro e V38 ⟨rfl, hcV38⟩
          have hBV38 : Below w.heap.size w V38 := below_then hBV37 hBV37.size hcV38
          have hkV38 : V38.heap[gk]? = some (blk8 key 61) := blk_below hkV37 hcV38
          have hs1V38 : V38.heap[gV1]? = some (.cells #[.string t] 9 (0, 0)) := blk_below hs1V37 hcV38
          have hs8V38 : V38.heap[gV4]? = some (.cells #[.string u] 9 (0, 0)) := blk_below hs8V37 hcV38
          have hs21V38 : V38.heap[gV36]? = some (.cells #[.string t] 9 (0, 0)) := blk_below hs21V37 hcV38
          have hs17V38 : V38.heap[gV37]? = some (.cells #[.string t] 9 (0, 0)) := blk_below hs17V37 hcV38
          refine ⟨_, rfl, ?_⟩
          refine hK.out _ _ hkV38 (fun hHeld => ?_)
          clear hK K hcV38
          refine norm_ (a' := ?_) ?_ ?_
          rotate_left
          · show Act.put _ (some 56) _ = _
            simp only [Act.put, List.setIfInBounds_toArray, List.set_cons_zero, List.set_cons_succ, i64_w, i32_w]
            rfl
          refine one_ (i := 22) (N := (some 60)) #[true, true, true, true, true, true, true, true, true, true, true, true, true, true, true, true, true, true, true, true, true, true, true, false, false, false, false, false, false, false, false, false, false, false, false, false, false] rfl rfl (one_of HT_.out (by kernel_rfl)) (by decide) (fun K hK => ?_)
          refine goes_ Try.func50 (by kernel_rfl) rfl #[.agg (u8s key), .slice (some ⟨gV36, 0, none⟩) 1 1] (by rfl) rfl rfl (by (try simp only [List.map_toArray, List.map_cons, List.map_nil]); first | done | rfl) ?_
          refine (rkey1_at key hk t ht9 V38 gV36 hs21V38).mono ?_
          rintro e V39 ⟨rfl, hcV39⟩
          have hBV39 : Below w.heap.size w V39 := below_then hBV38 hBV38.size hcV39
          have hkV39 : V39.heap[gk]? = some (blk8 key 61) := blk_below hkV38 hcV39
          have hs1V39 : V39.heap[gV1]? = some (.cells #[.string t] 9 (0, 0)) := blk_below hs1V38 hcV39
          have hs8V39 : V39.heap[gV4]? = some (.cells #[.string u] 9 (0, 0)) := blk_below hs8V38 hcV39
          have hs21V39 : V39.heap[gV36]? = some (.cells #[.string t] 9 (0, 0)) := blk_below hs21V38 hcV39
          have hs17V39 : V39.heap[gV37]? = some (.cells #[.string t] 9 (0, 0)) := blk_below hs17V38 hcV39
          refine ⟨_, rfl, ?_⟩
          refine hK.out _ _ hkV39 (fun hHeld => ?_)
          clear hK K hcV39
          refine norm_ (a' := ?_) ?_ ?_
          rotate_left
          · show Act.put _ (some 60) _ = _
            simp only [Act.put, List.setIfInBounds_toArray, List.set_cons_zero, List.set_cons_succ, i64_w, i32_w]
            rfl
          refine pure_ (i := 23) (N := (some 61)) (v := ?_) (a' := ?_) #[true, true, true, true, true, true, true, true, true, true, true, true, true, true, true, true, true, true, true, true, true, true, true, true, false, false, false, false, false, false, false, false, false, false, false, false, false] rfl rfl (any_of HT_.out (by kernel_rfl)) (fun _ _ _ h => h) (Or.inl ⟨by rfl, ?_⟩) ?_ ?_
          rotate_left
          · intro w'
            go_simp
            with_reducible rfl
          rotate_left
          · simp only [Act.put, List.setIfInBounds_toArray, List.set_cons_zero, List.set_cons_succ, i64_w, i32_w]
            rfl
          refine pure_ (i := 24) (N := (some 62)) (v := ?_) (a' := ?_) #[true, true, true, true, true, true, true, true, true, true, true, true, true, true, true, true, true, true, true, true, true, true, true, true, true, false, false, false, false, false, false, false, false, false, false, false, false] rfl rfl (any_of HT_.out (by kernel_rfl)) (fun _ _ _ h => h) (Or.inl ⟨by rfl, ?_⟩) ?_ ?_
          rotate_left
          · intro w'
            go_simp
            with_reducible rfl
          rotate_left
          · simp only [Act.put, List.setIfInBounds_toArray, List.set_cons_zero, List.set_cons_succ, i64_w, i32_w]
            rfl
          refine pure_ (i := 25) (N := (some 63)) (v := ?_) (a' := ?_) #[true, true, true, true, true, true, true, true, true, true, true, true, true, true, true, true, true, true, true, true, true, true, true, true, true, true, false, false, false, false, false, false, false, false, false, false, false] rfl rfl (any_of HT_.out (by kernel_rfl)) (fun _ _ _ h => h) (Or.inl ⟨by rfl, ?_⟩) ?_ ?_
          rotate_left
          · intro w'
            go_simp
            with_reducible rfl
          rotate_left
          · simp only [Act.put, List.setIfInBounds_toArray, List.set_cons_zero, List.set_cons_succ, i64_w, i32_w]
            rfl
          refine pure_ (i := 27) (N := (some 65)) (v := ?_) (a' := ?_) #[true, true, true, true, true, true, true, true, true, true, true, true, true, true, true, true, true, true, true, true, true, true, true, true, true, true, false, true, false, false, false, false, false, false, false, false, false] rfl rfl (any_of HT_.out (by kernel_rfl)) (fun _ _ _ h => h) (Or.inl ⟨by rfl, ?_⟩) ?_ ?_
          rotate_left
          · intro w'
            go_simp
            with_reducible rfl
          rotate_left
          · simp only [Act.put, List.setIfInBounds_toArray, List.set_cons_zero, List.set_cons_succ, i64_w, i32_w]
            rfl
          refine pure_ (i := 31) (N := (some 69)) (v := ?_) (a' := ?_) #[true, true, true, true, true, true, true, true, true, true, true, true, true, true, true, true, true, true, true, true, true, true, true, true, true, true, false, true, false, false, false, true, false, false, false, false, false] rfl rfl (any_of HT_.out (by kernel_rfl)) (fun _ _ _ h => h) (Or.inl ⟨by rfl, ?_⟩) ?_ ?_
          rotate_left
          · intro w'
            go_simp
            with_reducible rfl
          rotate_left
          · simp only [Act.put, List.setIfInBounds_toArray, List.set_cons_zero, List.set_cons_succ, i64_w, i32_w]
            rfl
          refine take_ (i := 26) (N := (some 64)) (v := .agg (u8s key)) (a' := ?_) #[true, true, true, true, true, true, true, true, true, true, true, true, true, true, true, true, true, true, true, true, true, true, true, true, true, true, true, true, false, false, false, true, false, false, false, false, false] rfl rfl (take_ofW HT_.out HW_.out (by kernel_rfl)) (fun _ _ _ h => h) (Or.inl ⟨by rfl, fun w' s8 => exec_load rfl rfl (loadAt61 s8 hk)⟩) hHeld ?_ ?_
          rotate_left
          · simp only [Act.put, List.setIfInBounds_toArray, List.set_cons_zero, List.set_cons_succ, i64_w, i32_w]
            rfl
          refine take_ (i := 30) (N := (some 68)) (v := .agg (u8s key)) (a' := ?_) #[true, true, true, true, true, true, true, true, true, true, true, true, true, true, true, true, true, true, true, true, true, true, true, true, true, true, true, true, false, false, true, true, false, false, false, false, false] rfl rfl (take_ofW HT_.out HW_.out (by kernel_rfl)) (fun _ _ _ h => h) (Or.inl ⟨by rfl, fun w' s8 => exec_load rfl rfl (loadAt61 s8 hk)⟩) hHeld ?_ ?_
          rotate_left
          · simp only [Act.put, List.setIfInBounds_toArray, List.set_cons_zero, List.set_cons_succ, i64_w, i32_w]
            rfl
          refine two_ (i := 28) (j := 32) (Ni := (some 66)) (Nj := (some 70)) #[true, true, true, true, true, true, true, true, true, true, true, true, true, true, true, true, true, true, true, true, true, true, true, true, true, true, true, true, true, false, true, true, false, false, false, false, false] #[true, true, true, true, true, true, true, true, true, true, true, true, true, true, true, true, true, true, true, true, true, true, true, true, true, true, true, true, false, false, true, true, true, false, false, false, false] rfl rfl rfl rfl (two_of HT_.out (by kernel_rfl)) (by decide) (by decide) (fun K hK => ?_) (fun K hK => ?_)
          · refine value_ (w1 := V39.alloc (.cells #[.string u] 9 (0, 0))) (v := .slice (some ⟨V39.heap.size, 0, none⟩) 1 1) (by rfl) rfl ?_ ?_
            · first | (go_simp; done) | (go_simp; rfl)
            have hBV40 : Below w.heap.size w (V39.alloc (.cells #[.string u] 9 (0, 0))) := below_alloc hBV39 _
            have hkV40 : (V39.alloc (.cells #[.string u] 9 (0, 0))).heap[gk]? = some (blk8 key 61) := blk_alloc hkV39 _
            have hs28V40 : (V39.alloc (.cells #[.string u] 9 (0, 0))).heap[V39.heap.size]? = some (.cells #[.string u] 9 (0, 0)) := heap_alloc_last _ _
            have hs1V40 : (V39.alloc (.cells #[.string u] 9 (0, 0))).heap[gV1]? = some (.cells #[.string t] 9 (0, 0)) := blk_alloc hs1V39 _
            have hs8V40 : (V39.alloc (.cells #[.string u] 9 (0, 0))).heap[gV4]? = some (.cells #[.string u] 9 (0, 0)) := blk_alloc hs8V39 _
            have hs21V40 : (V39.alloc (.cells #[.string u] 9 (0, 0))).heap[gV36]? = some (.cells #[.string t] 9 (0, 0)) := blk_alloc hs21V39 _
            have hs17V40 : (V39.alloc (.cells #[.string u] 9 (0, 0))).heap[gV37]? = some (.cells #[.string t] 9 (0, 0)) := blk_alloc hs17V39 _
            refine hK.out _ _ hkV40 (fun hHeld => ?_)
            clear hK K
            generalize V39.alloc (.cells #[.string u] 9 (0, 0)) = V40 at hBV40 hkV40 hs28V40 hs1V40 hs8V40 hs21V40 hs17V40 hHeld ⊢
            generalize V39.heap.size = gV40 at hs28V40 ⊢
            refine norm_ (a' := ?_) ?_ ?_
            rotate_left
            · show Act.put _ (some 66) _ = _
              simp only [Act.put, List.setIfInBounds_toArray, List.set_cons_zero, List.set_cons_succ, i64_w, i32_w]
              rfl
            refine two_ (i := 29) (j := 32) (Ni := (some 67)) (Nj := (some 70)) #[true, true, true, true, true, true, true, true, true, true, true, true, true, true, true, true, true, true, true, true, true, true, true, true, true, true, true, true, true, true, true, true, false, false, false, false, false] #[true, true, true, true, true, true, true, true, true, true, true, true, true, true, true, true, true, true, true, true, true, true, true, true, true, true, true, true, true, false, true, true, true, false, false, false, false] rfl rfl rfl rfl (two_of HT_.out (by kernel_rfl)) (by decide) (by decide) (fun K hK => ?_) (fun K hK => ?_)
            · refine goes_ Try.func49 (by kernel_rfl) rfl #[.agg (u8s key), .slice (some ⟨gV40, 0, none⟩) 1 1] (by rfl) rfl rfl (by (try simp only [List.map_toArray, List.map_cons, List.map_nil]); first | done | rfl) ?_
              refine (key1_at key hk u hu9 V40 gV40 hs28V40).mono ?_
              rintro e V41 ⟨rfl, hcV41⟩
              have hBV41 : Below w.heap.size w V41 := below_then hBV40 hBV40.size hcV41
              have hkV41 : V41.heap[gk]? = some (blk8 key 61) := blk_below hkV40 hcV41
              have hs1V41 : V41.heap[gV1]? = some (.cells #[.string t] 9 (0, 0)) := blk_below hs1V40 hcV41
              have hs8V41 : V41.heap[gV4]? = some (.cells #[.string u] 9 (0, 0)) := blk_below hs8V40 hcV41
              have hs21V41 : V41.heap[gV36]? = some (.cells #[.string t] 9 (0, 0)) := blk_below hs21V40 hcV41
              have hs17V41 : V41.heap[gV37]? = some (.cells #[.string t] 9 (0, 0)) := blk_below hs17V40 hcV41
              have hs28V41 : V41.heap[gV40]? = some (.cells #[.string u] 9 (0, 0)) := blk_below hs28V40 hcV41
              refine ⟨_, rfl, ?_⟩
              refine hK.out _ _ hkV41 (fun hHeld => ?_)
              clear hK K hcV41
              refine norm_ (a' := ?_) ?_ ?_
              rotate_left
              · show Act.put _ (some 67) _ = _
                simp only [Act.put, List.setIfInBounds_toArray, List.set_cons_zero, List.set_cons_succ, i64_w, i32_w]
                rfl
              refine one_ (i := 32) (N := (some 70)) #[true, true, true, true, true, true, true, true, true, true, true, true, true, true, true, true, true, true, true, true, true, true, true, true, true, true, true, true, true, true, true, true, true, false, false, false, false] rfl rfl (one_of HT_.out (by kernel_rfl)) (by decide) (fun K hK => ?_)
              refine value_ (w1 := V41.alloc (.cells #[.string u] 9 (0, 0))) (v := .slice (some ⟨V41.heap.size, 0, none⟩) 1 1) (by rfl) rfl ?_ ?_
              · first | (go_simp; done) | (go_simp; rfl)
              have hBV42 : Below w.heap.size w (V41.alloc (.cells #[.string u] 9 (0, 0))) := below_alloc hBV41 _
              have hkV42 : (V41.alloc (.cells #[.string u] 9 (0, 0))).heap[gk]? = some (blk8 key 61) := blk_alloc hkV41 _
              have hs32V42 : (V41.alloc (.cells #[.string u] 9 (0, 0))).heap[V41.heap.size]? = some (.cells #[.string u] 9 (0, 0)) := heap_alloc_last _ _
              have hs1V42 : (V41.alloc (.cells #[.string u] 9 (0, 0))).heap[gV1]? = some (.cells #[.string t] 9 (0, 0)) := blk_alloc hs1V41 _
              have hs8V42 : (V41.alloc (.cells #[.string u] 9 (0, 0))).heap[gV4]? = some (.cells #[.string u] 9 (0, 0)) := blk_alloc hs8V41 _
              have hs21V42 : (V41.alloc (.cells #[.string u] 9 (0, 0))).heap[gV36]? = some (.cells #[.string t] 9 (0, 0)) := blk_alloc hs21V41 _
              have hs17V42 : (V41.alloc (.cells #[.string u] 9 (0, 0))).heap[gV37]? = some (.cells #[.string t] 9 (0, 0)) := blk_alloc hs17V41 _
              have hs28V42 : (V41.alloc (.cells #[.string u] 9 (0, 0))).heap[gV40]? = some (.cells #[.string u] 9 (0, 0)) := blk_alloc hs28V41 _
              refine hK.out _ _ hkV42 (fun hHeld => ?_)
              clear hK K
              generalize V41.alloc (.cells #[.string u] 9 (0, 0)) = V42 at hBV42 hkV42 hs32V42 hs1V42 hs8V42 hs21V42 hs17V42 hs28V42 hHeld ⊢
              generalize V41.heap.size = gV42 at hs32V42 ⊢
              refine norm_ (a' := ?_) ?_ ?_
              rotate_left
              · show Act.put _ (some 70) _ = _
                simp only [Act.put, List.setIfInBounds_toArray, List.set_cons_zero, List.set_cons_succ, i64_w, i32_w]
                rfl
              refine one_ (i := 33) (N := (some 71)) #[true, true, true, true, true, true, true, true, true, true, true, true, true, true, true, true, true, true, true, true, true, true, true, true, true, true, true, true, true, true, true, true, true, true, false, false, false] rfl rfl (one_of HT_.out (by kernel_rfl)) (by decide) (fun K hK => ?_)
              refine goes_ Try.func50 (by kernel_rfl) rfl #[.agg (u8s key), .slice (some ⟨gV42, 0, none⟩) 1 1] (by rfl) rfl rfl (by (try simp only [List.map_toArray, List.map_cons, List.map_nil]); first | done | rfl) ?_
              refine (rkey1_at key hk u hu9 V42 gV42 hs32V42).mono ?_
              rintro e V43 ⟨rfl, hcV43⟩
              have hBV43 : Below w.heap.size w V43 := below_then hBV42 hBV42.size hcV43
              have hkV43 : V43.heap[gk]? = some (blk8 key 61) := blk_below hkV42 hcV43
              have hs1V43 : V43.heap[gV1]? = some (.cells #[.string t] 9 (0, 0)) := blk_below hs1V42 hcV43
              have hs8V43 : V43.heap[gV4]? = some (.cells #[.string u] 9 (0, 0)) := blk_below hs8V42 hcV43
              have hs21V43 : V43.heap[gV36]? = some (.cells #[.string t] 9 (0, 0)) := blk_below hs21V42 hcV43
              have hs17V43 : V43.heap[gV37]? = some (.cells #[.string t] 9 (0, 0)) := blk_below hs17V42 hcV43
              have hs28V43 : V43.heap[gV40]? = some (.cells #[.string u] 9 (0, 0)) := blk_below hs28V42 hcV43
              have hs32V43 : V43.heap[gV42]? = some (.cells #[.string u] 9 (0, 0)) := blk_below hs32V42 hcV43
              refine ⟨_, rfl, ?_⟩
              refine hK.out _ _ hkV43 (fun hHeld => ?_)
              clear hK K hcV43
              refine norm_ (a' := ?_) ?_ ?_
              rotate_left
              · show Act.put _ (some 71) _ = _
                simp only [Act.put, List.setIfInBounds_toArray, List.set_cons_zero, List.set_cons_succ, i64_w, i32_w]
                rfl
              refine pure_ (i := 34) (N := (some 72)) (v := ?_) (a' := ?_) #[true, true, true, true, true, true, true, true, true, true, true, true, true, true, true, true, true, true, true, true, true, true, true, true, true, true, true, true, true, true, true, true, true, true, true, false, false] rfl rfl (any_of HT_.out (by kernel_rfl)) (fun _ _ _ h => h) (Or.inl ⟨by rfl, ?_⟩) ?_ ?_
              rotate_left
              · intro w'
                go_simp
                with_reducible rfl
              rotate_left
              · simp only [Act.put, List.setIfInBounds_toArray, List.set_cons_zero, List.set_cons_succ, i64_w, i32_w]
                rfl
              refine pure_ (i := 35) (N := (some 73)) (v := ?_) (a' := ?_) #[true, true, true, true, true, true, true, true, true, true, true, true, true, true, true, true, true, true, true, true, true, true, true, true, true, true, true, true, true, true, true, true, true, true, true, true, false] rfl rfl (any_of HT_.out (by kernel_rfl)) (fun _ _ _ h => h) (Or.inl ⟨by rfl, ?_⟩) ?_ ?_
              rotate_left
              · intro w'
                go_simp
                with_reducible rfl
              rotate_left
              · simp only [Act.put, List.setIfInBounds_toArray, List.set_cons_zero, List.set_cons_succ, i64_w, i32_w]
                rfl
              refine pure_ (i := 36) (N := (some 6)) (v := ?_) (a' := ?_) #[true, true, true, true, true, true, true, true, true, true, true, true, true, true, true, true, true, true, true, true, true, true, true, true, true, true, true, true, true, true, true, true, true, true, true, true, true] rfl rfl (any_of HT_.out (by kernel_rfl)) (fun _ _ _ h => h) (Or.inl ⟨by rfl, ?_⟩) ?_ ?_
              rotate_left
              · intro w'
                go_simp
                with_reducible rfl
              rotate_left
              · simp only [Act.put, List.setIfInBounds_toArray, List.set_cons_zero, List.set_cons_succ, i64_w, i32_w]
                rfl
              refine done_ (done_of HT_.out (by kernel_rfl)) ?_
              change KK _ _
              refine hKK.out _ _ ?_
              go_wp2_with fail
              go_ret
              exact ⟨by simp, hBV43⟩
            · refine value_ (w1 := V40.alloc (.cells #[.string u] 9 (0, 0))) (v := .slice (some ⟨V40.heap.size, 0, none⟩) 1 1) (by rfl) rfl ?_ ?_
              · first | (go_simp; done) | (go_simp; rfl)
              have hBV44 : Below w.heap.size w (V40.alloc (.cells #[.string u] 9 (0, 0))) := below_alloc hBV40 _
              have hkV44 : (V40.alloc (.cells #[.string u] 9 (0, 0))).heap[gk]? = some (blk8 key 61) := blk_alloc hkV40 _
              have hs32V44 : (V40.alloc (.cells #[.string u] 9 (0, 0))).heap[V40.heap.size]? = some (.cells #[.string u] 9 (0, 0)) := heap_alloc_last _ _
              have hs1V44 : (V40.alloc (.cells #[.string u] 9 (0, 0))).heap[gV1]? = some (.cells #[.string t] 9 (0, 0)) := blk_alloc hs1V40 _
              have hs8V44 : (V40.alloc (.cells #[.string u] 9 (0, 0))).heap[gV4]? = some (.cells #[.string u] 9 (0, 0)) := blk_alloc hs8V40 _
              have hs21V44 : (V40.alloc (.cells #[.string u] 9 (0, 0))).heap[gV36]? = some (.cells #[.string t] 9 (0, 0)) := blk_alloc hs21V40 _
              have hs17V44 : (V40.alloc (.cells #[.string u] 9 (0, 0))).heap[gV37]? = some (.cells #[.string t] 9 (0, 0)) := blk_alloc hs17V40 _
              have hs28V44 : (V40.alloc (.cells #[.string u] 9 (0, 0))).heap[gV40]? = some (.cells #[.string u] 9 (0, 0)) := blk_alloc hs28V40 _
              refine hK.out _ _ hkV44 (fun hHeld => ?_)
              clear hK K
              generalize V40.alloc (.cells #[.string u] 9 (0, 0)) = V44 at hBV44 hkV44 hs32V44 hs1V44 hs8V44 hs21V44 hs17V44 hs28V44 hHeld ⊢
              generalize V40.heap.size = gV44 at hs32V44 ⊢
              refine norm_ (a' := ?_) ?_ ?_
              rotate_left
              · show Act.put _ (some 70) _ = _
                simp only [Act.put, List.setIfInBounds_toArray, List.set_cons_zero, List.set_cons_succ, i64_w, i32_w]
                rfl
              refine one_ (i := 29) (N := (some 67)) #[true, true, true, true, true, true, true, true, true, true, true, true, true, true, true, true, true, true, true, true, true, true, true, true, true, true, true, true, true, true, true, true, true, false, false, false, false] rfl rfl (one_of HT_.out (by kernel_rfl)) (by decide) (fun K hK => ?_)
              refine goes_ Try.func49 (by kernel_rfl) rfl #[.agg (u8s key), .slice (some ⟨gV40, 0, none⟩) 1 1] (by rfl) rfl rfl (by (try simp only [List.map_toArray, List.map_cons, List.map_nil]); first | done | rfl) ?_
              refine (key1_at key hk u hu9 V44 gV40 hs28V44).mono ?_
              rintro e V45 ⟨rfl, hcV45⟩
              have hBV45 : Below w.heap.size w V45 := below_then hBV44 hBV44.size hcV45
              have hkV45 : V45.heap[gk]? = some (blk8 key 61) := blk_below hkV44 hcV45
              have hs1V45 : V45.heap[gV1]? = some (.cells #[.string t] 9 (0, 0)) := blk_below hs1V44 hcV45
              have hs8V45 : V45.heap[gV4]? = some (.cells #[.string u] 9 (0, 0)) := blk_below hs8V44 hcV45
              have hs21V45 : V45.heap[gV36]? = some (.cells #[.string t] 9 (0, 0)) := blk_below hs21V44 hcV45
              have hs17V45 : V45.heap[gV37]? = some (.cells #[.string t] 9 (0, 0)) := blk_below hs17V44 hcV45
              have hs28V45 : V45.heap[gV40]? = some (.cells #[.string u] 9 (0, 0)) := blk_below hs28V44 hcV45
              have hs32V45 : V45.heap[gV44]? = some (.cells #[.string u] 9 (0, 0)) := blk_below hs32V44 hcV45
              refine ⟨_, rfl, ?_⟩
              refine hK.out _ _ hkV45 (fun hHeld => ?_)
              clear hK K hcV45
              refine norm_ (a' := ?_) ?_ ?_
              rotate_left
              · show Act.put _ (some 67) _ = _
                simp only [Act.put, List.setIfInBounds_toArray, List.set_cons_zero, List.set_cons_succ, i64_w, i32_w]
                rfl
              refine one_ (i := 33) (N := (some 71)) #[true, true, true, true, true, true, true, true, true, true, true, true, true, true, true, true, true, true, true, true, true, true, true, true, true, true, true, true, true, true, true, true, true, true, false, false, false] rfl rfl (one_of HT_.out (by kernel_rfl)) (by decide) (fun K hK => ?_)
              refine goes_ Try.func50 (by kernel_rfl) rfl #[.agg (u8s key), .slice (some ⟨gV44, 0, none⟩) 1 1] (by rfl) rfl rfl (by (try simp only [List.map_toArray, List.map_cons, List.map_nil]); first | done | rfl) ?_
              refine (rkey1_at key hk u hu9 V45 gV44 hs32V45).mono ?_
              rintro e V46 ⟨rfl, hcV46⟩
              have hBV46 : Below w.heap.size w V46 := below_then hBV45 hBV45.size hcV46
              have hkV46 : V46.heap[gk]? = some (blk8 key 61) := blk_below hkV45 hcV46
              have hs1V46 : V46.heap[gV1]? = some (.cells #[.string t] 9 (0, 0)) := blk_below hs1V45 hcV46
              have hs8V46 : V46.heap[gV4]? = some (.cells #[.string u] 9 (0, 0)) := blk_below hs8V45 hcV46
              have hs21V46 : V46.heap[gV36]? = some (.cells #[.string t] 9 (0, 0)) := blk_below hs21V45 hcV46
              have hs17V46 : V46.heap[gV37]? = some (.cells #[.string t] 9 (0, 0)) := blk_below hs17V45 hcV46
              have hs28V46 : V46.heap[gV40]? = some (.cells #[.string u] 9 (0, 0)) := blk_below hs28V45 hcV46
              have hs32V46 : V46.heap[gV44]? = some (.cells #[.string u] 9 (0, 0)) := blk_below hs32V45 hcV46
              refine ⟨_, rfl, ?_⟩
              refine hK.out _ _ hkV46 (fun hHeld => ?_)
              clear hK K hcV46
              refine norm_ (a' := ?_) ?_ ?_
              rotate_left
              · show Act.put _ (some 71) _ = _
                simp only [Act.put, List.setIfInBounds_toArray, List.set_cons_zero, List.set_cons_succ, i64_w, i32_w]
                rfl
              refine pure_ (i := 34) (N := (some 72)) (v := ?_) (a' := ?_) #[true, true, true, true, true, true, true, true, true, true, true, true, true, true, true, true, true, true, true, true, true, true, true, true, true, true, true, true, true, true, true, true, true, true, true, false, false] rfl rfl (any_of HT_.out (by kernel_rfl)) (fun _ _ _ h => h) (Or.inl ⟨by rfl, ?_⟩) ?_ ?_
              rotate_left
              · intro w'
                go_simp
                with_reducible rfl
              rotate_left
              · simp only [Act.put, List.setIfInBounds_toArray, List.set_cons_zero, List.set_cons_succ, i64_w, i32_w]
                rfl
              refine pure_ (i := 35) (N := (some 73)) (v := ?_) (a' := ?_) #[true, true, true, true, true, true, true, true, true, true, true, true, true, true, true, true, true, true, true, true, true, true, true, true, true, true, true, true, true, true, true, true, true, true, true, true, false] rfl rfl (any_of HT_.out (by kernel_rfl)) (fun _ _ _ h => h) (Or.inl ⟨by rfl, ?_⟩) ?_ ?_
              rotate_left
              · intro w'
                go_simp
                with_reducible rfl
              rotate_left
              · simp only [Act.put, List.setIfInBounds_toArray, List.set_cons_zero, List.set_cons_succ, i64_w, i32_w]
                rfl
              refine pure_ (i := 36) (N := (some 6)) (v := ?_) (a' := ?_) #[true, true, true, true, true, true, true, true, true, true, true, true, true, true, true, true, true, true, true, true, true, true, true, true, true, true, true, true, true, true, true, true, true, true, true, true, true] rfl rfl (any_of HT_.out (by kernel_rfl)) (fun _ _ _ h => h) (Or.inl ⟨by rfl, ?_⟩) ?_ ?_
              rotate_left
              · intro w'
                go_simp
                with_reducible rfl
              rotate_left
              · simp only [Act.put, List.setIfInBounds_toArray, List.set_cons_zero, List.set_cons_succ, i64_w, i32_w]
                rfl
              refine done_ (done_of HT_.out (by kernel_rfl)) ?_
              change KK _ _
              refine hKK.out _ _ ?_
              go_wp2_with fail
              go_ret
              exact ⟨by simp, hBV46⟩
          · refine value_ (w1 := V39.alloc (.cells #[.string u] 9 (0, 0))) (v := .slice (some ⟨V39.heap.size, 0, none⟩) 1 1) (by rfl) rfl ?_ ?_
            · first | (go_simp; done) | (go_simp; rfl)
            have hBV47 : Below w.heap.size w (V39.alloc (.cells #[.string u] 9 (0, 0))) := below_alloc hBV39 _
            have hkV47 : (V39.alloc (.cells #[.string u] 9 (0, 0))).heap[gk]? = some (blk8 key 61) := blk_alloc hkV39 _
            have hs32V47 : (V39.alloc (.cells #[.string u] 9 (0, 0))).heap[V39.heap.size]? = some (.cells #[.string u] 9 (0, 0)) := heap_alloc_last _ _
            have hs1V47 : (V39.alloc (.cells #[.string u] 9 (0, 0))).heap[gV1]? = some (.cells #[.string t] 9 (0, 0)) := blk_alloc hs1V39 _
            have hs8V47 : (V39.alloc (.cells #[.string u] 9 (0, 0))).heap[gV4]? = some (.cells #[.string u] 9 (0, 0)) := blk_alloc hs8V39 _
            have hs21V47 : (V39.alloc (.cells #[.string u] 9 (0, 0))).heap[gV36]? = some (.cells #[.string t] 9 (0, 0)) := blk_alloc hs21V39 _
            have hs17V47 : (V39.alloc (.cells #[.string u] 9 (0, 0))).heap[gV37]? = some (.cells #[.string t] 9 (0, 0)) := blk_alloc hs17V39 _
            refine hK.out _ _ hkV47 (fun hHeld => ?_)
            clear hK K
            generalize V39.alloc (.cells #[.string u] 9 (0, 0)) = V47 at hBV47 hkV47 hs32V47 hs1V47 hs8V47 hs21V47 hs17V47 hHeld ⊢
            generalize V39.heap.size = gV47 at hs32V47 ⊢
            refine norm_ (a' := ?_) ?_ ?_
            rotate_left
            · show Act.put _ (some 70) _ = _
              simp only [Act.put, List.setIfInBounds_toArray, List.set_cons_zero, List.set_cons_succ, i64_w, i32_w]
              rfl
            refine one_ (i := 28) (N := (some 66)) #[true, true, true, true, true, true, true, true, true, true, true, true, true, true, true, true, true, true, true, true, true, true, true, true, true, true, true, true, true, false, true, true, true, false, false, false, false] rfl rfl (one_of HT_.out (by kernel_rfl)) (by decide) (fun K hK => ?_)
            refine value_ (w1 := V47.alloc (.cells #[.string u] 9 (0, 0))) (v := .slice (some ⟨V47.heap.size, 0, none⟩) 1 1) (by rfl) rfl ?_ ?_
            · first | (go_simp; done) | (go_simp; rfl)
            have hBV48 : Below w.heap.size w (V47.alloc (.cells #[.string u] 9 (0, 0))) := below_alloc hBV47 _
            have hkV48 : (V47.alloc (.cells #[.string u] 9 (0, 0))).heap[gk]? = some (blk8 key 61) := blk_alloc hkV47 _
            have hs28V48 : (V47.alloc (.cells #[.string u] 9 (0, 0))).heap[V47.heap.size]? = some (.cells #[.string u] 9 (0, 0)) := heap_alloc_last _ _
            have hs1V48 : (V47.alloc (.cells #[.string u] 9 (0, 0))).heap[gV1]? = some (.cells #[.string t] 9 (0, 0)) := blk_alloc hs1V47 _
            have hs8V48 : (V47.alloc (.cells #[.string u] 9 (0, 0))).heap[gV4]? = some (.cells #[.string u] 9 (0, 0)) := blk_alloc hs8V47 _
            have hs21V48 : (V47.alloc (.cells #[.string u] 9 (0, 0))).heap[gV36]? = some (.cells #[.string t] 9 (0, 0)) := blk_alloc hs21V47 _
            have hs17V48 : (V47.alloc (.cells #[.string u] 9 (0, 0))).heap[gV37]? = some (.cells #[.string t] 9 (0, 0)) := blk_alloc hs17V47 _
            have hs32V48 : (V47.alloc (.cells #[.string u] 9 (0, 0))).heap[gV47]? = some (.cells #[.string u] 9 (0, 0)) := blk_alloc hs32V47 _
            refine hK.out _ _ hkV48 (fun hHeld => ?_)
            clear hK K
            generalize V47.alloc (.cells #[.string u] 9 (0, 0)) = V48 at hBV48 hkV48 hs28V48 hs1V48 hs8V48 hs21V48 hs17V48 hs32V48 hHeld ⊢
            generalize V47.heap.size = gV48 at hs28V48 ⊢
            refine norm_ (a' := ?_) ?_ ?_
            rotate_left
            · show Act.put _ (some 66) _ = _
              simp only [Act.put, List.setIfInBounds_toArray, List.set_cons_zero, List.set_cons_succ, i64_w, i32_w]
              rfl
            refine one_ (i := 29) (N := (some 67)) #[true, true, true, true, true, true, true, true, true, true, true, true, true, true, true, true, true, true, true, true, true, true, true, true, true, true, true, true, true, true, true, true, true, false, false, false, false] rfl rfl (one_of HT_.out (by kernel_rfl)) (by decide) (fun K hK => ?_)
            refine goes_ Try.func49 (by kernel_rfl) rfl #[.agg (u8s key), .slice (some ⟨gV48, 0, none⟩) 1 1] (by rfl) rfl rfl (by (try simp only [List.map_toArray, List.map_cons, List.map_nil]); first | done | rfl) ?_
            refine (key1_at key hk u hu9 V48 gV48 hs28V48).mono ?_
            rintro e V49 ⟨rfl, hcV49⟩
            have hBV49 : Below w.heap.size w V49 := below_then hBV48 hBV48.size hcV49
            have hkV49 : V49.heap[gk]? = some (blk8 key 61) := blk_below hkV48 hcV49
            have hs1V49 : V49.heap[gV1]? = some (.cells #[.string t] 9 (0, 0)) := blk_below hs1V48 hcV49
            have hs8V49 : V49.heap[gV4]? = some (.cells #[.string u] 9 (0, 0)) := blk_below hs8V48 hcV49
            have hs21V49 : V49.heap[gV36]? = some (.cells #[.string t] 9 (0, 0)) := blk_below hs21V48 hcV49
            have hs17V49 : V49.heap[gV37]? = some (.cells #[.string t] 9 (0, 0)) := blk_below hs17V48 hcV49
            have hs32V49 : V49.heap[gV47]? = some (.cells #[.string u] 9 (0, 0)) := blk_below hs32V48 hcV49
            have hs28V49 : V49.heap[gV48]? = some (.cells #[.string u] 9 (0, 0)) := blk_below hs28V48 hcV49
            refine ⟨_, rfl, ?_⟩
            refine hK.out _ _ hkV49 (fun hHeld => ?_)
            clear hK K hcV49
            refine norm_ (a' := ?_) ?_ ?_
            rotate_left
            · show Act.put _ (some 67) _ = _
              simp only [Act.put, List.setIfInBounds_toArray, List.set_cons_zero, List.set_cons_succ, i64_w, i32_w]
              rfl
            refine one_ (i := 33) (N := (some 71)) #[true, true, true, true, true, true, true, true, true, true, true, true, true, true, true, true, true, true, true, true, true, true, true, true, true, true, true, true, true, true, true, true, true, true, false, false, false] rfl rfl (one_of HT_.out (by kernel_rfl)) (by decide) (fun K hK => ?_)
            refine goes_ Try.func50 (by kernel_rfl) rfl #[.agg (u8s key), .slice (some ⟨gV47, 0, none⟩) 1 1] (by rfl) rfl rfl (by (try simp only [List.map_toArray, List.map_cons, List.map_nil]); first | done | rfl) ?_
            refine (rkey1_at key hk u hu9 V49 gV47 hs32V49).mono ?_
            rintro e V50 ⟨rfl, hcV50⟩
            have hBV50 : Below w.heap.size w V50 := below_then hBV49 hBV49.size hcV50
            have hkV50 : V50.heap[gk]? = some (blk8 key 61) := blk_below hkV49 hcV50
            have hs1V50 : V50.heap[gV1]? = some (.cells #[.string t] 9 (0, 0)) := blk_below hs1V49 hcV50
            have hs8V50 : V50.heap[gV4]? = some (.cells #[.string u] 9 (0, 0)) := blk_below hs8V49 hcV50
            have hs21V50 : V50.heap[gV36]? = some (.cells #[.string t] 9 (0, 0)) := blk_below hs21V49 hcV50
            have hs17V50 : V50.heap[gV37]? = some (.cells #[.string t] 9 (0, 0)) := blk_below hs17V49 hcV50
            have hs32V50 : V50.heap[gV47]? = some (.cells #[.string u] 9 (0, 0)) := blk_below hs32V49 hcV50
            have hs28V50 : V50.heap[gV48]? = some (.cells #[.string u] 9 (0, 0)) := blk_below hs28V49 hcV50
            refine ⟨_, rfl, ?_⟩
            refine hK.out _ _ hkV50 (fun hHeld => ?_)
            clear hK K hcV50
            refine norm_ (a' := ?_) ?_ ?_
            rotate_left
            · show Act.put _ (some 71) _ = _
              simp only [Act.put, List.setIfInBounds_toArray, List.set_cons_zero, List.set_cons_succ, i64_w, i32_w]
              rfl
            refine pure_ (i := 34) (N := (some 72)) (v := ?_) (a' := ?_) #[true, true, true, true, true, true, true, true, true, true, true, true, true, true, true, true, true, true, true, true, true, true, true, true, true, true, true, true, true, true, true, true, true, true, true, false, false] rfl rfl (any_of HT_.out (by kernel_rfl)) (fun _ _ _ h => h) (Or.inl ⟨by rfl, ?_⟩) ?_ ?_
            rotate_left
            · intro w'
              go_simp
              with_reducible rfl
            rotate_left
            · simp only [Act.put, List.setIfInBounds_toArray, List.set_cons_zero, List.set_cons_succ, i64_w, i32_w]
              rfl
            refine pure_ (i := 35) (N := (some 73)) (v := ?_) (a' := ?_) #[true, true, true, true, true, true, true, true, true, true, true, true, true, true, true, true, true, true, true, true, true, true, true, true, true, true, true, true, true, true, true, true, true, true, true, true, false] rfl rfl (any_of HT_.out (by kernel_rfl)) (fun _ _ _ h => h) (Or.inl ⟨by rfl, ?_⟩) ?_ ?_
            rotate_left
            · intro w'
              go_simp
              with_reducible rfl
            rotate_left
            · simp only [Act.put, List.setIfInBounds_toArray, List.set_cons_zero, List.set_cons_succ, i64_w, i32_w]
              rfl
            refine pure_ (i := 36) (N := (some 6)) (v := ?_) (a' := ?_) #[true, true, true, true, true, true, true, true, true, true, true, true, true, true, true, true, true, true, true, true, true, true, true, true, true, true, true, true, true, true, true, true, true, true, true, true, true] rfl rfl (any_of HT_.out (by kernel_rfl)) (fun _ _ _ h => h) (Or.inl ⟨by rfl, ?_⟩) ?_ ?_
            rotate_left
            · intro w'
              go_simp
              with_reducible rfl
            rotate_left
            · simp only [Act.put, List.setIfInBounds_toArray, List.set_cons_zero, List.set_cons_succ, i64_w, i32_w]
              rfl
            refine done_ (done_of HT_.out (by kernel_rfl)) ?_
            change KK _ _
            refine hKK.out _ _ ?_
            go_wp2_with fail
            go_ret
            exact ⟨by simp, hBV50⟩
end Go.Proofs.Ytjfmnkmgnbbfgaa.A
