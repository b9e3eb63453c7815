/- Several texts of this claim in one: H6k, A91. -/
import Derived.Test.YtjfmnkmgnbbfgaaA96
import Derived.Test.YtjfmnkmgnbbfgaaA0
/- Layer 2: the digest of parts under a key (hash.Keyed), as the walk makes it. -/
set_option linter.unusedVariables false
set_option linter.unusedSimpArgs false
namespace Go.Proofs.Ytjfmnkmgnbbfgaa.A
open Go.RowKit Go.Proofs.YtjfmnkmgnbbfgaaW.PrintWords Go.Proofs.YtjfmnkmgnbbfgaaW.PrintLast Go.Proofs.YtjfmnkmgnbbfgaaW.PrintMore
def keyr.T : Bool × List (List Nat × List Nat) := (true, [([], []), ([], []), ([1], [1]), ([], []), ([2, 3], [2, 3]), ([], []), ([5, 3], [5]), ([4, 6], [4, 6]), ([0, 7, 6], [0, 7]), ([8, 8, 0, 1, 2, 3, 4, 5, 6, 7, 8], [8])])
def keyr.B : List Nat := [0, 0, 2, 0, 14, 0, 40, 126, 255, 511]
theorem keyr.tab : rtab .any (opsOf Try.f49 3) = keyr.T := by kernel_rfl
theorem keyr.bits : waitsOk keyr.T.2 keyr.B = true := by kernel_rfl
def keyS (key : List Int) : ByteArray := strOfNums key
theorem keyS_size (key : List Int) (hk : key.length = 32) : (keyS key).size = 32 := by
  unfold keyS strOfNums
  show (List.toArray _).size = 32
  simp [hk]
theorem conv_key {W : World} {g : Nat} {key : List Int} {T : TypeId} (h : W.heap[g]? = some (blk8 key T)) {n : Nat} (hk : key.length = n) :
    (Go.convert 77 9 (.slice (some ⟨g, 0, none⟩) n n)).run Try.prog W = .ok (.string (keyS key)) W :=
  run_convert_bytes_arg W 77 5 Try.underlying77 Try.underlying5 g 0 n n key hk (fun i hi => by
    have := cell_blk8 h i (by omega)
    rw [Nat.zero_add, this]
    rfl) 9 Try.underlying9
set_option maxHeartbeats 2000000 in
set_option maxRecDepth 100000 in
theorem hash_Keyed.walk (key : List Int) (hk : key.length = 32) (A0 : Option Addr) (c0 : Nat) (l0 : List ByteArray) (w : World) (hr0 : Kd.C Kd.string w A0 l0.length l0) (hc0 : l0.length ≤ c0) (hl : l0.length ≤ 140737488355328) (hs : (joinS l0).size ≤ 900000) :
    Calls Try.prog 49 #[.agg (u8s key), .slice A0 l0.length c0] w fun e w' => e = .returned (.agg (u8s (digF hKey (keyS key ++ nulB 32 ++ joinS l0)))) ∧ Below w.heap.size w w' := by
  have HR := Aside0.mk hr0
  clear hr0
  go_enter Try.func49, Try.ntmps49
  go_wp2_with (go_at_call 86; refine (show Calls Try.prog 86 #[] _ (fun e w' => e = .returned (.agg #[.int .u32 1779033703, .int .u32 3144134277, .int .u32 1013904242, .int .u32 2773480762, .int .u32 1359893119, .int .u32 2600822924, .int .u32 528734635, .int .u32 1541459225]) ∧ Below _ _ w') from hash_eight.walk _).mono ?_; rintro e w4 ⟨rfl, hb4⟩)
  have q0 := hb4.size
  rw [sz1 (sz1 rfl _)] at q0
  have b0 : Below w.heap.size w ((w.alloc (blk8 key 61)).alloc (blk8 (zeros 32) 57)) := below_alloc (below_alloc (Below.refl _ _) _) _
  have b1 : Below w.heap.size w w4 := below_then b0 b0.size hb4
  have xr : ((w.alloc (blk8 key 61)).alloc (blk8 (zeros 32) 57)).heap[w.heap.size + 1]? = some (blk8 (zeros 32) 57) := by
    have := heap_alloc_last (w.alloc (blk8 key 61)) (blk8 (zeros 32) 57)
    rw [sz1 rfl] at this
    exact this
  have HX : D1 w (w4.alloc (blk hKey 99)) w4.heap.size (w.heap.size + 1) hKey :=
    ⟨b1.alloc (by omega) _, heap_alloc_last _ _, blk_alloc (blk_below xr hb4) _, by omega, by omega, by omega, rfl⟩
  have HK : (w4.alloc (blk hKey 99)).heap[w.heap.size]? = some (blk8 key 61) := blk_alloc (blk_below (blk_alloc (heap_alloc_last w (blk8 key 61)) (blk8 (zeros 32) 57)) hb4) _
  have HC : Kd.C Kd.string (w4.alloc (blk hKey 99)) A0 l0.length l0 := Kd.C_below HR.out (below_alloc b1 _)
  replace HX := Aside0.mk HX
  replace HC := Aside0.mk HC
  clear hb4 q0 b0 b1 xr
  change Code.wp _ _ _ _ (w4.alloc (blk hKey 99))
  generalize w4.alloc (blk hKey 99) = W1 at HX HC HK ⊢
  generalize w4.heap.size = gh at HX ⊢
  generalize w.heap.size + 1 = gr at HX ⊢
  obtain ⟨gk, hgr⟩ : ∃ z, z = w.heap.size := ⟨_, rfl⟩
  rw [← hgr] at HK ⊢
  have HG := Aside0.mk hgr
  clear hgr
  obtain ⟨h1, hh1⟩ : ∃ z, z = hKey := ⟨_, rfl⟩
  rw [← hh1] at HX
  have HH := Aside0.mk hh1
  clear hh1
  have hag := u32s8 h1 HX.out.lh
  have k0 := cell_blk HX.out.bh 0 (by rw [HX.out.lh]; decide)
  have k1 := cell_blk HX.out.bh 1 (by rw [HX.out.lh]; decide)
  have k2 := cell_blk HX.out.bh 2 (by rw [HX.out.lh]; decide)
  have k3 := cell_blk HX.out.bh 3 (by rw [HX.out.lh]; decide)
  have k4 := cell_blk HX.out.bh 4 (by rw [HX.out.lh]; decide)
  have k5 := cell_blk HX.out.bh 5 (by rw [HX.out.lh]; decide)
  have k6 := cell_blk HX.out.bh 6 (by rw [HX.out.lh]; decide)
  have k7 := cell_blk HX.out.bh 7 (by rw [HX.out.lh]; decide)
  have HKd : W1.drew.heap[gk]? = some (blk8 key 61) := HK
  have HKS := Aside0.mk (keyS_size key hk)
  have HN := Aside0.mk (nulB_size 32)
  rename_i KK hKK
  replace hKK := Aside0.mk hKK
  refine start_ (n := 10) (S := fun w' => w'.cell? ⟨gh, 0, none⟩ = some (.int .u32 (gi h1 0)) ∧ w'.cell? ⟨gh, 1, none⟩ = some (.int .u32 (gi h1 1)) ∧ w'.cell? ⟨gh, 2, none⟩ = some (.int .u32 (gi h1 2)) ∧ w'.cell? ⟨gh, 3, none⟩ = some (.int .u32 (gi h1 3)) ∧ w'.cell? ⟨gh, 4, none⟩ = some (.int .u32 (gi h1 4)) ∧ w'.cell? ⟨gh, 5, none⟩ = some (.int .u32 (gi h1 5)) ∧ w'.cell? ⟨gh, 6, none⟩ = some (.int .u32 (gi h1 6)) ∧ w'.cell? ⟨gh, 7, none⟩ = some (.int .u32 (gi h1 7)) ∧ w'.heap[gk]? = some (blk8 key 61)) (ds := [9]) #[false, false, false, false, false, false, false, false, false, false] (by kernel_rfl) rfl rfl ⟨k0, k1, k2, k3, k4, k5, k6, k7, HKd⟩ (fun hHeld => ?_); refine with_tabW keyr.tab keyr.bits (fun HT_ HW_ => ?_)
  refine pure_ (i := 1) (N := (some 12)) (v := ?_) (a' := ?_) #[false, true, false, false, false, false, false, false, false, false] rfl rfl (any_of HT_.out (by kernel_rfl)) (fun _ _ _ h => h) (Or.inl ⟨by rfl, ?_⟩) ?_ ?_
  rotate_left
  · intro w'
    go_simp
    with_reducible rfl
  rotate_left
  · simp only [Act.put, List.setIfInBounds_toArray, List.set_cons_zero, List.set_cons_succ, i64_w, i32_w]
    rfl
  refine pure_ (i := 5) (N := (some 16)) (v := ?_) (a' := ?_) #[false, true, false, false, false, true, false, false, false, false] rfl rfl (any_of HT_.out (by kernel_rfl)) (fun _ _ _ h => h) (Or.inl ⟨by rfl, ?_⟩) ?_ ?_
  rotate_left
  · intro w'
    go_simp
    with_reducible rfl
  rotate_left
  · simp only [Act.put, List.setIfInBounds_toArray, List.set_cons_zero, List.set_cons_succ, i64_w, i32_w]
    rfl
  refine take_ (i := 0) (N := (some 11)) (v := ?_) (a' := ?_) #[true, true, false, false, false, true, false, false, false, false] rfl rfl (take_ofW HT_.out HW_.out (by kernel_rfl)) (fun _ _ _ h => h) (Or.inl ⟨by rfl, ?_⟩) hHeld ?_ ?_
  rotate_left
  · rintro w' ⟨s0, s1, s2, s3, s4, s5, s6, s7, s8⟩
    go_simp
    with_reducible rfl
  rotate_left
  · simp only [Act.put, List.setIfInBounds_toArray, List.set_cons_zero, List.set_cons_succ, i64_w, i32_w]
    rfl
  refine take_ (i := 2) (N := (some 13)) (v := ?_) (a' := ?_) #[true, true, true, false, false, true, false, false, false, false] rfl rfl (take_ofW HT_.out HW_.out (by kernel_rfl)) (fun _ _ _ h => h) (Or.inl ⟨by rfl, ?_⟩) hHeld ?_ ?_
  rotate_left
  · rintro w' ⟨s0, s1, s2, s3, s4, s5, s6, s7, s8⟩
    have hcv := conv_key s8 hk
    go_simp
    with_reducible rfl
  rotate_left
  · simp only [Act.put, List.setIfInBounds_toArray, List.set_cons_zero, List.set_cons_succ, i64_w, i32_w]
    rfl
  refine one_ (i := 3) (N := (some 14)) #[true, true, true, true, false, true, false, false, false, false] rfl rfl (one_of HT_.out (by kernel_rfl)) (by decide) (fun K hK => ?_)
  refine goes_ Try.func75 (by kernel_rfl) rfl #[.string ⟨#[0]⟩, .int .i64 32] (by rfl) rfl rfl (by (try simp only [List.map_toArray, List.map_cons, List.map_nil]); first | done | rfl) ?_
  refine (rep_at 32 32 (by omega) (by omega) _).mono ?_
  rintro e w3 ⟨rfl, hb3⟩
  have HX3 := Aside0.mk (HX.out.drew.below hb3)
  refine ⟨_, rfl, ?_⟩
  refine hK.out _ _ ⟨pw_cell_below hb3 k0, pw_cell_below hb3 k1, pw_cell_below hb3 k2, pw_cell_below hb3 k3, pw_cell_below hb3 k4, pw_cell_below hb3 k5, pw_cell_below hb3 k6, pw_cell_below hb3 k7, blk_below HKd hb3⟩ (fun hHeld => ?_)
  clear hK K
  refine norm_ (a' := ?_) ?_ ?_
  rotate_left
  · show Act.put _ (some 14) _ = _
    simp only [Act.put, List.setIfInBounds_toArray, List.set_cons_zero, List.set_cons_succ, i64_w, i32_w]
    rfl
  have hcat : ¬ (9223372036854775807 < (keyS key).size + (nulB 32).size) := by rw [HKS.out, HN.out]; omega
  refine pure_ (i := 4) (N := (some 15)) (v := ?_) (a' := ?_) #[true, true, true, true, true, true, false, false, false, false] rfl rfl (any_of HT_.out (by kernel_rfl)) (fun _ _ _ h => h) (Or.inl ⟨by rfl, ?_⟩) ?_ ?_
  rotate_left
  · intro w'
    go_simp
    with_reducible rfl
  rotate_left
  · simp only [Act.put, List.setIfInBounds_toArray, List.set_cons_zero, List.set_cons_succ, i64_w, i32_w]
    rfl
  refine one_ (i := 6) (N := (some 17)) #[true, true, true, true, true, true, true, false, false, false] rfl rfl (one_of HT_.out (by kernel_rfl)) (by decide) (fun K hK => ?_)
  refine goes_ Try.func88 (by kernel_rfl) rfl #[.slice A0 l0.length c0, .string ⟨#[]⟩] (by rfl) rfl rfl (by (try simp only [List.map_toArray, List.map_cons, List.map_nil]); first | done | rfl) ?_
  refine (join_at A0 c0 l0 _ (Kd.C_below (Kd.C_below HC.out (below_drew (Below.refl _ _))) hb3) hc0 hl (by omega)).mono ?_
  rintro e w5 ⟨s5, hs5, rfl, hb5⟩
  have HX5 := Aside0.mk (HX3.out.below hb5)
  refine ⟨_, rfl, ?_⟩
  refine hK.out _ _ ⟨pw_cell_below hb5 (pw_cell_below hb3 k0), pw_cell_below hb5 (pw_cell_below hb3 k1), pw_cell_below hb5 (pw_cell_below hb3 k2), pw_cell_below hb5 (pw_cell_below hb3 k3), pw_cell_below hb5 (pw_cell_below hb3 k4), pw_cell_below hb5 (pw_cell_below hb3 k5), pw_cell_below hb5 (pw_cell_below hb3 k6), pw_cell_below hb5 (pw_cell_below hb3 k7), blk_below (blk_below HKd hb3) hb5⟩ (fun hHeld => ?_)
  clear hK K
  refine norm_ (a' := ?_) ?_ ?_
  rotate_left
  · show Act.put _ (some 17) _ = _
    simp only [Act.put, List.setIfInBounds_toArray, List.set_cons_zero, List.set_cons_succ, i64_w, i32_w]
    rfl
  have hcat2 : ¬ (9223372036854775807 < (keyS key).size + (nulB 32).size + s5.size) := by rw [HKS.out, HN.out, hs5.out]; omega
  have hcat3 : ¬ (9223372036854775807 < (keyS key ++ nulB 32).size + s5.size) := by rw [ByteArray.size_append]; exact hcat2
  refine pure_ (i := 7) (N := (some 18)) (v := ?_) (a' := ?_) #[true, true, true, true, true, true, true, true, false, false] rfl rfl (any_of HT_.out (by kernel_rfl)) (fun _ _ _ h => h) (Or.inl ⟨by rfl, ?_⟩) ?_ ?_
  rotate_left
  · intro w'
    go_simp
    with_reducible rfl
  rotate_left
  · simp only [Act.put, List.setIfInBounds_toArray, List.set_cons_zero, List.set_cons_succ, i64_w, i32_w]
    rfl
  refine one_ (i := 8) (N := (some 19)) #[true, true, true, true, true, true, true, true, true, false] rfl rfl (one_of HT_.out (by kernel_rfl)) (by decide) (fun K hK => ?_)
  refine goes_ Try.func87 (by kernel_rfl) rfl #[.agg #[.int .u32 (gi h1 0), .int .u32 (gi h1 1), .int .u32 (gi h1 2), .int .u32 (gi h1 3), .int .u32 (gi h1 4), .int .u32 (gi h1 5), .int .u32 (gi h1 6), .int .u32 (gi h1 7)], .string (keyS key ++ nulB 32 ++ s5)] (by rfl) rfl rfl (by (try simp only [List.map_toArray, List.map_cons, List.map_nil]); first | done | rfl) ?_
  refine (dig_at _ h1 hag HX.out.lh _ (by rw [ByteArray.size_append, ByteArray.size_append, HKS.out, HN.out, hs5.out]; omega) _).mono ?_
  rintro e w6 ⟨d, hd, hdl, rfl, hb6⟩
  have HX6 := Aside0.mk (HX5.out.below hb6)
  refine ⟨_, rfl, ?_⟩
  refine hK.out _ _ ⟨pw_cell_below hb6 (pw_cell_below hb5 (pw_cell_below hb3 k0)), pw_cell_below hb6 (pw_cell_below hb5 (pw_cell_below hb3 k1)), pw_cell_below hb6 (pw_cell_below hb5 (pw_cell_below hb3 k2)), pw_cell_below hb6 (pw_cell_below hb5 (pw_cell_below hb3 k3)), pw_cell_below hb6 (pw_cell_below hb5 (pw_cell_below hb3 k4)), pw_cell_below hb6 (pw_cell_below hb5 (pw_cell_below hb3 k5)), pw_cell_below hb6 (pw_cell_below hb5 (pw_cell_below hb3 k6)), pw_cell_below hb6 (pw_cell_below hb5 (pw_cell_below hb3 k7)), blk_below (blk_below (blk_below HKd hb3) hb5) hb6⟩ (fun hHeld => ?_)
  clear hK K
  refine norm_ (a' := ?_) ?_ ?_
  rotate_left
  · show Act.put _ (some 19) _ = _
    simp only [Act.put, List.setIfInBounds_toArray, List.set_cons_zero, List.set_cons_succ, i64_w, i32_w]
    rfl
  have hst := run_storeCells_b (v' := d) HX6.out.br (by rw [hdl]; rfl)
  have hsz2 : (u8s d).size = 32 := by simp [u8s, hdl]
  refine last_ (i := 9) (N := none) #[true, true, true, true, true, true, true, true, true, true] rfl rfl (one_of HT_.out (by kernel_rfl)) (by decide) (fun K hK => ?_)
  refine skip_ (w1 := ?_) (by rfl) rfl ?_ ?_
  rotate_left
  · go_simp
    rfl
  refine hK.out _ _ ?_
  clear hK K
  refine done_ (done_of HT_.out (by kernel_rfl)) ?_
  change KK _ _
  refine hKK.out _ _ ?_
  go_wp2_with fail
  have hgrr : (w6.setRow gr (u8s d)).heap[gr]? = some (.cells (u8s d) 57 (0, 0)) := setRow_heap w6 gr _ _ _ _ HX6.out.br
  refine bodyPost_ret (results_cell_row rfl _ _ gr 57 (u8s d) (0, 0) _ rfl hgrr Try.underlying57 rfl (by rw [show (u8s d).size = 32 from by simp [u8s, hdl]]; kernel_rfl)) rfl ?_
  have eD : d = digF hKey (keyS key ++ nulB 32 ++ joinS l0) := by rw [hd.out, HH.out, hs5.out]
  exact ⟨by rw [eD], HX6.out.B.trans ((But.setRow w6 _).below (B := w.heap.size) HX6.out.lr HX6.out.B.size)⟩
end Go.Proofs.Ytjfmnkmgnbbfgaa.A
-- Made by drv.py (ours) by way of the kit's print; Lean checks it.
namespace Go.Proofs.Ytjfmnkmgnbbfgaa.A
open Go.RowKit Go.Proofs.YtjfmnkmgnbbfgaaW.PrintWords Go.Proofs.YtjfmnkmgnbbfgaaW.PrintLast Go.Proofs.YtjfmnkmgnbbfgaaW.PrintMore
attribute [local go_sem] max2_int min2_int max_two min_two max_three min_three max_four min_four   -- for this text's walks alone
set_option linter.unusedVariables false
set_option linter.unusedSimpArgs false

/-! ### hibernacleref02_joined: function 91 -/
def hibernacleref02_joined.l0 : Nat → List ByteArray → ByteArray → Int → Option (ByteArray)
  | 0, _, _, _ => none
  | k + 1, x0, x3, x4 => if x4 < (x0.length : Int) then (if 0 ≤ x4 then (if x3.size + (rdOf ByteArray.empty x0 x4).size ≤ 9223372036854775807 then (hibernacleref02_joined.l0 k x0 (x3 ++ (rdOf ByteArray.empty x0 x4)) (wrap64 (x4 + 1))) else (none)) else (none)) else (some x3)
def hibernacleref02_joined.f (k : Nat) (l0 : List ByteArray) : Option (ByteArray) := hibernacleref02_joined.l0 k l0 (⟨#[]⟩ : ByteArray) 0
theorem hibernacleref02_joined.mono_l : ∀ k, (∀ y0 y1 y2, LeO (hibernacleref02_joined.l0 k y0 y1 y2) (hibernacleref02_joined.l0 (k + 1) y0 y1 y2))
  | 0 => fun _ _ _ r h => by simp [hibernacleref02_joined.l0] at h
  | k + 1 => by
    have ih0 := hibernacleref02_joined.mono_l k
    · intro y0 y1 y2
      unfold hibernacleref02_joined.l0
      repeat' first
      | (with_reducible exact ih0 _ _ _)
      | (with_reducible exact LeO.refl _)
      | (with_reducible exact LeO.none _)
      | (with_reducible refine LeO.ite ?_ ?_)
      | (with_reducible refine LeO.bind ?_ (fun _ => ?_))
      | exact ih0 _ _ _
      | exact LeO.none _
      | refine LeO.ite ?_ ?_
      | refine LeO.bind ?_ (fun _ => ?_)
theorem hibernacleref02_joined.mono : ∀ a0 k, LeO (hibernacleref02_joined.f k a0) (hibernacleref02_joined.f (k + 1) a0) := by
  intro a0 k
  have ih0 := hibernacleref02_joined.mono_l k
  unfold hibernacleref02_joined.f
  repeat' first
      | (with_reducible exact ih0 _ _ _)
      | (with_reducible exact LeO.refl _)
      | (with_reducible exact LeO.none _)
      | (with_reducible refine LeO.ite ?_ ?_)
      | (with_reducible refine LeO.bind ?_ (fun _ => ?_))
      | exact ih0 _ _ _
      | exact LeO.none _
      | refine LeO.ite ?_ ?_
      | refine LeO.bind ?_ (fun _ => ?_)
set_option maxHeartbeats 8000000 in
set_option maxRecDepth 100000 in
theorem hibernacleref02_joined.calls (k : Nat) (A0 : Option Addr) (c0 : Nat) (l0 : List ByteArray) (r : ByteArray) (w : World) (hr0 : Kd.C Kd.string w A0 l0.length l0) (hc0 : l0.length ≤ c0) (h : hibernacleref02_joined.f k l0 = some r) :
    Calls Try.prog 91 #[.slice A0 l0.length c0] w fun e w' => e = .returned (.string r) ∧ Drawn0 w w' := by
  have HR0 := Aside0.mk hr0
  have HC0 := Aside0.mk hc0
  clear hr0 hc0
  have H : (hibernacleref02_joined.l0 k l0 (⟨#[]⟩ : ByteArray) 0) = some r := h
  clear h
  have H' := Aside0.mk H
  clear H
  go_enter Try.func91, Try.ntmps91
  go_wp2
  go_loopg [3, 4] k (fun kq v3 v4 w' => ∃ (x3_1 : ByteArray) (x4_1 : Int), v3 = .string x3_1 ∧ v4 = .int .i64 x4_1 ∧ Aside0 (hibernacleref02_joined.l0 kq l0 x3_1 x4_1 = some r) ∧ Aside0 (kq ≤ k) ∧ Drawn0 w w')
  case atStart => exact ⟨((⟨#[]⟩ : ByteArray)), (0), (by first | rfl | (simp; done) | (simp [*]; done)), (by first | rfl | (simp; done) | (simp [*]; done)), H', ⟨Nat.le_refl _⟩, by repeat (first | exact Drawn0.refl _ | apply Drawn0.step)⟩
  case round =>
    clear H'
    obtain ⟨x3_1, x4_1, rfl, rfl, HA, HK1, ⟨m1, rfl⟩⟩ := hrel
    cases gk with
    | zero => exact absurd HA.out (by simp [hibernacleref02_joined.l0])
    | succ k1 =>
      have H := HA.out
      clear HA
      simp only [hibernacleref02_joined.l0] at H
      by_cases c2 : x4_1 < (l0.length : Int)
      · rw [if_pos c2] at H
        have c2b0 : decide (x4_1 < (l0.length : Int)) = true := decide_eq_true c2
        clear c2
        by_cases c3 : 0 ≤ x4_1
        · rw [if_pos c3] at H
          have c3b0 : decide (0 ≤ x4_1) = true := decide_eq_true c3
          clear c3
          by_cases c4 : x3_1.size + (rdOf ByteArray.empty l0 x4_1).size ≤ 9223372036854775807
          · rw [if_pos c4] at H
            have c4b0 := eq_true c4
            have c4b1 : decide (x3_1.size + (rdOf ByteArray.empty l0 x4_1).size ≤ 9223372036854775807) = true := decide_eq_true c4
            try have c4b2 : (9223372036854775807 < x3_1.size + (rdOf ByteArray.empty l0 x4_1).size) = False := eq_false (Nat.not_lt.2 c4)
            have H' := Aside0.mk H
            clear H
            have p261 : 0 ≤ (x4_1 : Int) := of_decide_eq_true (by first | (with_reducible assumption) | assumption)
            have q261 : x4_1 < (l0.length : Int) := of_decide_eq_true (by first | (with_reducible assumption) | assumption)
            obtain ⟨ad261, e261, hx261_0⟩ := Kd.at_string HR0.out x4_1 p261 q261
            cases e261
            replace p261 := eq_true p261
            replace q261 := eq_true q261
            go_wp2
            go_roundg k1
            case measure => have := HK1.out; omega
            case rel => exact ⟨(x3_1 ++ (rdOf ByteArray.empty l0 x4_1)), (wrap64 (x4_1 + 1)), (by first | rfl | (simp; done) | (simp [*]; done)), (by first | rfl | (simp; done) | (simp [*]; done)), H', ⟨by have := HK1.out; omega⟩, by repeat (first | exact Drawn0.refl _ | apply Drawn0.step)⟩
          · rw [if_neg c4] at H
            exact absurd H (by simp)
        · rw [if_neg c3] at H
          exact absurd H (by simp)
      · rw [if_neg c2] at H
        have c2b0 : decide (x4_1 < (l0.length : Int)) = false := decide_eq_false c2
        clear c2
        obtain rfl := Option.some.inj H
        go_wp2
        go_ret
        exact ⟨by first | rfl | (simp; done) | (simp [*]; done), by repeat (first | exact Drawn0.refl _ | apply Drawn0.step)⟩

end Go.Proofs.Ytjfmnkmgnbbfgaa.A
