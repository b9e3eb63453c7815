/- Layer 2: the document's digests of parts (hibernacleref02.Sum, One, Keyed): the same as the program's. -/
import Derived.Test.YtjfmnkmgnbbfgaaA96
import Derived.Test.YtjfmnkmgnbbfgaaH7
import Derived.Test.YtjfmnkmgnbbfgaaA91
set_option linter.unusedVariables false
set_option linter.unusedSimpArgs false
namespace Go.Proofs.Ytjfmnkmgnbbfgaa.A
open Go.RowKit Go.Proofs.YtjfmnkmgnbbfgaaW.PrintWords Go.Proofs.YtjfmnkmgnbbfgaaW.PrintLast Go.Proofs.YtjfmnkmgnbbfgaaW.PrintMore

theorem rd_at (l : List ByteArray) (i : Nat) (h : i < l.length) : rdOf ByteArray.empty l (i : Int) = l[i] := by
  unfold rdOf
  rw [Int.toNat_natCast, List.getD_eq_getElem?_getD, List.getElem?_eq_getElem h, Option.getD_some]
theorem joined_l0 (l : List ByteArray) (hn : l.length ≤ 140737488355328) (d : Nat) : ∀ (i : Nat) (x : ByteArray), l.length - i = d → i ≤ l.length → x.size + ((l.drop i).map (·.size)).sum ≤ 1000000 →
    hibernacleref02_joined.l0 (d + 1) l x (i : Int) = some ⟨(x.data.toList ++ ((l.drop i).map (·.data.toList)).flatten).toArray⟩ := by
  induction d with
  | zero =>
    intro i x h1 h2 h3
    have hi : i = l.length := by omega
    subst hi
    unfold hibernacleref02_joined.l0
    rw [if_neg (by omega), List.drop_length]
    simp
  | succ d ih =>
    intro i x h1 h2 h3
    have hlt : i < l.length := by omega
    rw [List.drop_eq_getElem_cons hlt, List.map_cons, List.sum_cons] at h3
    unfold hibernacleref02_joined.l0
    rw [if_pos (by omega), if_pos (by omega), rd_at l i hlt, if_pos (by omega), show wrap64 ((i : Int) + 1) = ((i + 1 : Nat) : Int) from by unfold wrap64; omega]
    rw [ih (i + 1) (x ++ l[i]) (by omega) (by omega) (by rw [ByteArray.size_append]; omega)]
    rw [List.drop_eq_getElem_cons hlt, List.map_cons, List.flatten_cons]
    simp
theorem joined_f (l : List ByteArray) (hn : l.length ≤ 140737488355328) (hs : (joinS l).size ≤ 1000000) : hibernacleref02_joined.f (l.length + 1) l = some (joinS l) := by
  unfold hibernacleref02_joined.f
  have := joined_l0 l hn l.length 0 ⟨#[]⟩ (by omega) (by omega) (by rw [List.drop_zero, ← joinS_size]; show 0 + _ ≤ _; omega)
  rw [show ((0 : Nat) : Int) = 0 from rfl] at this
  rw [this, List.drop_zero]
  congr 1
  apply ByteArray.ext
  rw [← Array.toList_inj, joinS_flat]
  simp
theorem rjoin_at (A0 : Option Addr) (c0 : Nat) (l0 : List ByteArray) (w : World) (hr0 : Kd.C Kd.string w A0 l0.length l0) (hc0 : l0.length ≤ c0) (hl : l0.length ≤ 140737488355328) (hs : (joinS l0).size ≤ 1000000) :
    Calls Try.prog 91 #[.slice A0 l0.length c0] w fun e w' => ∃ s, Aside0 (s = joinS l0) ∧ e = .returned (.string s) ∧ Below w.heap.size w w' := by
  refine (hibernacleref02_joined.calls (l0.length + 1) A0 c0 l0 (joinS l0) w hr0 hc0 (joined_f l0 hl hs)).mono ?_
  rintro e w' ⟨rfl, hb⟩
  exact ⟨_, Aside0.mk rfl, rfl, hb.below⟩
theorem rdig_at (A : Array Value) (h : List Int) (hA : u32s h = A) (hl : h.length = 8) (s : ByteArray) (hs : s.size ≤ 1000000) (w : World) :
    Calls Try.prog 90 #[.agg A, .string s] w fun e w' => ∃ d, Aside0 (d = digF h s) ∧ d.length = 32 ∧ e = .returned (.agg (u8s d)) ∧ Below w.heap.size w w' := by
  subst hA
  refine (ref_digest.walk h hl s hs w).mono ?_
  rintro e w' ⟨rfl, hb⟩
  exact ⟨_, Aside0.mk rfl, dig_len _ _, rfl, hb⟩
def rsumr.T : Bool × List (List Nat × List Nat) := (true, [([], []), ([], []), ([1], [1]), ([0, 2, 2], [0, 2]), ([3, 3, 0, 1, 2, 3], [3])])
def rsumr.B : List Nat := [0, 0, 2, 7, 15]
theorem rsumr.tab : rtab .any (opsOf Try.f60 3) = rsumr.T := by kernel_rfl
theorem rsumr.bits : waitsOk rsumr.T.2 rsumr.B = true := by kernel_rfl
def rkeyr.T : Bool × List (List Nat × List Nat) := (true, [([], []), ([], []), ([1], [1]), ([], []), ([3], [3]), ([2, 4], [2, 4]), ([0, 5, 4], [0, 5]), ([6, 6, 0, 1, 2, 3, 4, 5, 6], [6])])
def rkeyr.B : List Nat := [0, 0, 2, 0, 8, 30, 63, 127]
theorem rkeyr.tab : rtab .any (opsOf Try.f50 8) = rkeyr.T := by kernel_rfl
theorem rkeyr.bits : waitsOk rkeyr.T.2 rkeyr.B = true := by kernel_rfl
set_option maxHeartbeats 2000000 in
set_option maxRecDepth 100000 in
theorem ref_Sum.walk (A0 : Option Addr) (c0 : Nat) (l0 : List ByteArray) (w : World) (hr0 : Kd.C Kd.string w A0 l0.length l0) (hc0 : l0.length ≤ c0) (hl : l0.length ≤ 140737488355328) (hs : (joinS l0).size ≤ 1000000) :
    Calls Try.prog 60 #[.slice A0 l0.length c0] w fun e w' => e = .returned (.agg (u8s (digF hSum (joinS l0)))) ∧ Below w.heap.size w w' := by
  have HR := Aside0.mk hr0
  clear hr0
  go_enter Try.func60, Try.ntmps60
  go_wp2_with (go_at_call 89; refine (show Calls Try.prog 89 #[] _ (fun e w' => e = .returned (.agg #[.int .u32 1779033703, .int .u32 3144134277, .int .u32 1013904242, .int .u32 2773480762, .int .u32 1359893119, .int .u32 2600822924, .int .u32 528734635, .int .u32 1541459225]) ∧ Below _ _ w') from ref_eight.walk _).mono ?_; rintro e w4 ⟨rfl, hb4⟩)
  have q0 := hb4.size
  rw [sz1 rfl] at q0
  have HX : D1 w (w4.alloc (blk hSum 99)) w4.heap.size w.heap.size hSum :=
    ⟨(below_then (below_alloc (Below.refl _ _) _) (by rw [sz1 rfl]; omega) hb4).alloc (by omega) _, heap_alloc_last _ _, blk_alloc (blk_below (heap_alloc_last w (blk8 (zeros 32) 57)) hb4) _, by omega, Nat.le_refl _, by omega, rfl⟩
  have HC : Kd.C Kd.string (w4.alloc (blk hSum 99)) A0 l0.length l0 := Kd.C_below HR.out (below_alloc (below_then (below_alloc (Below.refl _ _) _) (by rw [sz1 rfl]; omega) hb4) _)
  replace HX := Aside0.mk HX
  replace HC := Aside0.mk HC
  clear hb4 q0
  change Code.wp _ _ _ _ (w4.alloc (blk hSum 99))
  generalize w4.alloc (blk hSum 99) = W1 at HX HC ⊢
  generalize w4.heap.size = gh at HX ⊢
  obtain ⟨gr, hgr⟩ : ∃ z, z = w.heap.size := ⟨_, rfl⟩
  rw [← hgr] at HX ⊢
  have HG := Aside0.mk hgr
  clear hgr
  obtain ⟨h1, hh1⟩ : ∃ z, z = hSum := ⟨_, rfl⟩
  rw [← hh1] at HX
  have HH := Aside0.mk hh1
  clear hh1
  have hag := u32s8 h1 HX.out.lh
  have k0 := cell_blk HX.out.bh 0 (by rw [HX.out.lh]; decide)
  have k1 := cell_blk HX.out.bh 1 (by rw [HX.out.lh]; decide)
  have k2 := cell_blk HX.out.bh 2 (by rw [HX.out.lh]; decide)
  have k3 := cell_blk HX.out.bh 3 (by rw [HX.out.lh]; decide)
  have k4 := cell_blk HX.out.bh 4 (by rw [HX.out.lh]; decide)
  have k5 := cell_blk HX.out.bh 5 (by rw [HX.out.lh]; decide)
  have k6 := cell_blk HX.out.bh 6 (by rw [HX.out.lh]; decide)
  have k7 := cell_blk HX.out.bh 7 (by rw [HX.out.lh]; decide)
  rename_i KK hKK
  replace hKK := Aside0.mk hKK
  refine start_ (n := 5) (S := fun w' => w'.cell? ⟨gh, 0, none⟩ = some (.int .u32 (gi h1 0)) ∧ w'.cell? ⟨gh, 1, none⟩ = some (.int .u32 (gi h1 1)) ∧ w'.cell? ⟨gh, 2, none⟩ = some (.int .u32 (gi h1 2)) ∧ w'.cell? ⟨gh, 3, none⟩ = some (.int .u32 (gi h1 3)) ∧ w'.cell? ⟨gh, 4, none⟩ = some (.int .u32 (gi h1 4)) ∧ w'.cell? ⟨gh, 5, none⟩ = some (.int .u32 (gi h1 5)) ∧ w'.cell? ⟨gh, 6, none⟩ = some (.int .u32 (gi h1 6)) ∧ w'.cell? ⟨gh, 7, none⟩ = some (.int .u32 (gi h1 7))) (ds := [4]) #[false, false, false, false, false] (by kernel_rfl) rfl rfl ⟨k0, k1, k2, k3, k4, k5, k6, k7⟩ (fun hHeld => ?_); refine with_tabW rsumr.tab rsumr.bits (fun HT_ HW_ => ?_)
  refine pure_ (i := 1) (N := (some 10)) (v := ?_) (a' := ?_) #[false, true, false, false, false] rfl rfl (any_of HT_.out (by kernel_rfl)) (fun _ _ _ h => h) (Or.inl ⟨by rfl, ?_⟩) ?_ ?_
  rotate_left
  · intro w'
    go_simp
    with_reducible rfl
  rotate_left
  · simp only [Act.put, List.setIfInBounds_toArray, List.set_cons_zero, List.set_cons_succ, i64_w, i32_w]
    rfl
  refine take_ (i := 0) (N := (some 9)) (v := ?_) (a' := ?_) #[true, true, false, false, false] rfl rfl (take_ofW HT_.out HW_.out (by kernel_rfl)) (fun _ _ _ h => h) (Or.inl ⟨by rfl, ?_⟩) hHeld ?_ ?_
  rotate_left
  · rintro w' ⟨s0, s1, s2, s3, s4, s5, s6, s7⟩
    go_simp
    with_reducible rfl
  rotate_left
  · simp only [Act.put, List.setIfInBounds_toArray, List.set_cons_zero, List.set_cons_succ, i64_w, i32_w]
    rfl
  refine one_ (i := 2) (N := (some 11)) #[true, true, true, false, false] rfl rfl (one_of HT_.out (by kernel_rfl)) (by decide) (fun K hK => ?_)
  refine goes_ Try.func91 (by kernel_rfl) rfl #[.slice A0 l0.length c0] (by rfl) rfl rfl (by (try simp only [List.map_toArray, List.map_cons, List.map_nil]); first | done | rfl) ?_
  refine (rjoin_at A0 c0 l0 _ (Kd.C_below HC.out (below_drew (Below.refl _ _))) hc0 hl hs).mono ?_
  rintro e w5 ⟨s5, hs5, rfl, hb5⟩
  have HX5 := Aside0.mk (HX.out.drew.below hb5)
  refine ⟨_, rfl, ?_⟩
  refine hK.out _ _ ⟨pw_cell_below hb5 k0, pw_cell_below hb5 k1, pw_cell_below hb5 k2, pw_cell_below hb5 k3, pw_cell_below hb5 k4, pw_cell_below hb5 k5, pw_cell_below hb5 k6, pw_cell_below hb5 k7⟩ (fun hHeld => ?_)
  clear hK K
  refine norm_ (a' := ?_) ?_ ?_
  rotate_left
  · show Act.put _ (some 11) _ = _
    simp only [Act.put, List.setIfInBounds_toArray, List.set_cons_zero, List.set_cons_succ, i64_w, i32_w]
    rfl
  refine one_ (i := 3) (N := (some 12)) #[true, true, true, true, false] rfl rfl (one_of HT_.out (by kernel_rfl)) (by decide) (fun K hK => ?_)
  refine goes_ Try.func90 (by kernel_rfl) rfl #[.agg #[.int .u32 (gi h1 0), .int .u32 (gi h1 1), .int .u32 (gi h1 2), .int .u32 (gi h1 3), .int .u32 (gi h1 4), .int .u32 (gi h1 5), .int .u32 (gi h1 6), .int .u32 (gi h1 7)], .string s5] (by rfl) rfl rfl (by (try simp only [List.map_toArray, List.map_cons, List.map_nil]); first | done | rfl) ?_
  refine (rdig_at _ h1 hag HX.out.lh s5 (by rw [hs5.out]; exact hs) _).mono ?_
  rintro e w6 ⟨d, hd, hdl, rfl, hb6⟩
  have HX6 := Aside0.mk (HX5.out.below hb6)
  refine ⟨_, rfl, ?_⟩
  refine hK.out _ _ ⟨pw_cell_below hb6 (pw_cell_below hb5 k0), pw_cell_below hb6 (pw_cell_below hb5 k1), pw_cell_below hb6 (pw_cell_below hb5 k2), pw_cell_below hb6 (pw_cell_below hb5 k3), pw_cell_below hb6 (pw_cell_below hb5 k4), pw_cell_below hb6 (pw_cell_below hb5 k5), pw_cell_below hb6 (pw_cell_below hb5 k6), pw_cell_below hb6 (pw_cell_below hb5 k7)⟩ (fun hHeld => ?_)
  clear hK K
  refine norm_ (a' := ?_) ?_ ?_
  rotate_left
  · show Act.put _ (some 12) _ = _
    simp only [Act.put, List.setIfInBounds_toArray, List.set_cons_zero, List.set_cons_succ, i64_w, i32_w]
    rfl
  have hst := run_storeCells_b (v' := d) HX6.out.br (by rw [hdl]; rfl)
  have hsz2 : (u8s d).size = 32 := by simp [u8s, hdl]
  refine last_ (i := 4) (N := none) #[true, true, true, true, true] rfl rfl (one_of HT_.out (by kernel_rfl)) (by decide) (fun K hK => ?_)
  refine skip_ (w1 := ?_) (by rfl) rfl ?_ ?_
  rotate_left
  · go_simp
    rfl
  refine hK.out _ _ ?_
  clear hK K
  refine done_ (done_of HT_.out (by kernel_rfl)) ?_
  change KK _ _
  refine hKK.out _ _ ?_
  go_wp2_with fail
  have hgrr : (w6.setRow gr (u8s d)).heap[gr]? = some (.cells (u8s d) 57 (0, 0)) := setRow_heap w6 gr _ _ _ _ HX6.out.br
  refine bodyPost_ret (results_cell_row rfl _ _ gr 57 (u8s d) (0, 0) _ rfl hgrr Try.underlying57 rfl (by rw [show (u8s d).size = 32 from by simp [u8s, hdl]]; kernel_rfl)) rfl ?_
  have eD : d = digF hSum (joinS l0) := by rw [hd.out, HH.out, hs5.out]
  exact ⟨by rw [eD], HX6.out.B.trans ((But.setRow w6 _).below (B := w.heap.size) HX6.out.lr HX6.out.B.size)⟩
set_option maxRecDepth 100000 in
theorem ref_One.walk (s : ByteArray) (hs : s.size ≤ 1000000) (w : World) :
    Calls Try.prog 48 #[.string s] w fun e w' => e = .returned (.agg (u8s (digF hSum s))) ∧ Below w.heap.size w w' := by
  go_enter Try.func48, Try.ntmps48
  go_wp2_with fail
  have hC : Kd.C Kd.string ((w.alloc (blk8 (zeros 32) 57)).alloc (.cells #[.string s] 9 (0, 0))) (some ⟨w.heap.size + 1, 0, none⟩) 1 [s] := by
    have e := heap_alloc_last (w.alloc (blk8 (zeros 32) 57)) (.cells #[.string s] 9 (0, 0))
    rw [sz1 rfl] at e
    exact C_lit (l := [s]) e (by simp)
  go_at_call 60
  refine (ref_Sum.walk _ 1 [s] _ hC (Nat.le_refl _) (by simp) (by rw [joinS_one]; exact hs)).mono ?_
  rintro e w4 ⟨rfl, hb4⟩
  rw [joinS_one]
  obtain ⟨d, hd⟩ : ∃ z, z = digF hSum s := ⟨_, rfl⟩
  have hdl : d.length = 32 := by rw [hd]; exact dig_len _ _
  rw [← hd]
  replace hd := Aside0.mk hd
  have q0 := hb4.size
  have hb5 : Below ((w.alloc (blk8 (zeros 32) 57)).alloc (.cells #[.string s] 9 (0, 0))).heap.size ((w.alloc (blk8 (zeros 32) 57)).alloc (.cells #[.string s] 9 (0, 0))) w4 := hb4
  have hr : w4.heap[w.heap.size]? = some (blk8 (zeros 32) 57) := blk_below (blk_alloc (heap_alloc_last w (blk8 (zeros 32) 57)) _) hb5
  have hst := run_storeCells_b (v' := d) hr (by rw [hdl]; rfl)
  have hsz2 : (u8s d).size = 32 := by simp [u8s, hdl]
  have b0 : Below w.heap.size w ((w.alloc (blk8 (zeros 32) 57)).alloc (.cells #[.string s] 9 (0, 0))) := below_alloc (below_alloc (Below.refl _ _) _) _
  have b1 : Below w.heap.size w w4 := below_then b0 b0.size hb5
  go_wp2_with fail
  have hgrr : (w4.setRow w.heap.size (u8s d)).heap[w.heap.size]? = some (.cells (u8s d) 57 (0, 0)) := setRow_heap w4 _ _ _ _ _ hr
  refine bodyPost_ret (results_cell_row rfl _ _ w.heap.size 57 (u8s d) (0, 0) _ rfl hgrr Try.underlying57 rfl (by rw [hsz2]; kernel_rfl)) rfl ?_
  exact ⟨by rw [hd.out], b1.trans ((But.setRow w4 _).below (B := w.heap.size) (Nat.le_refl _) b1.size)⟩
theorem key64 (key : List Int) (hk : key.length = 32) : keyS (fillB 64 (zeros 64) (gi key) 32) = keyS key ++ nulB 32 := by
  have e : fillB 64 (zeros 64) (gi key) 32 = key ++ zeros 32 := by
    match key, hk with
    | [_, _, _, _, _, _, _, _, _, _, _, _, _, _, _, _, _, _, _, _, _, _, _, _, _, _, _, _, _, _, _, _], _ => rfl
  rw [e]
  unfold keyS strOfNums
  apply ByteArray.ext
  rw [ByteArray.data_append]
  show (List.map _ (key ++ zeros 32)).toArray = (List.map _ key).toArray ++ (Lib.repeatL [0] 32).toArray
  rw [List.map_append, ← List.append_toArray]
  rfl
set_option maxHeartbeats 2000000 in
set_option maxRecDepth 100000 in
theorem ref_Keyed.walk (key : List Int) (hk : key.length = 32) (A0 : Option Addr) (c0 : Nat) (l0 : List ByteArray) (w : World) (hr0 : Kd.C Kd.string w A0 l0.length l0) (hc0 : l0.length ≤ c0) (hl : l0.length ≤ 140737488355328) (hs : (joinS l0).size ≤ 900000) :
    Calls Try.prog 50 #[.agg (u8s key), .slice A0 l0.length c0] w fun e w' => e = .returned (.agg (u8s (digF hKey (keyS key ++ nulB 32 ++ joinS l0)))) ∧ Below w.heap.size w w' := by
  have HR := Aside0.mk hr0
  clear hr0
  go_enter Try.func50, Try.ntmps50
  go_wp2_with (go_at_call 89; refine (show Calls Try.prog 89 #[] _ (fun e w' => e = .returned (.agg #[.int .u32 1779033703, .int .u32 3144134277, .int .u32 1013904242, .int .u32 2773480762, .int .u32 1359893119, .int .u32 2600822924, .int .u32 528734635, .int .u32 1541459225]) ∧ Below _ _ w') from ref_eight.walk _).mono ?_; rintro e w4 ⟨rfl, hb4⟩)
  have q0 := hb4.size
  rw [sz1 (sz1 rfl _)] at q0
  have b0 : Below w.heap.size w ((w.alloc (blk8 key 61)).alloc (blk8 (zeros 32) 57)) := below_alloc (below_alloc (Below.refl _ _) _) _
  have b1 : Below w.heap.size w w4 := below_then b0 b0.size hb4
  have xr : ((w.alloc (blk8 key 61)).alloc (blk8 (zeros 32) 57)).heap[w.heap.size + 1]? = some (blk8 (zeros 32) 57) := by
    have := heap_alloc_last (w.alloc (blk8 key 61)) (blk8 (zeros 32) 57)
    rw [sz1 rfl] at this
    exact this
  have hkk : ivF.set 0 (xor32 (xor32 1779033703 16842784) 8192) = hKey := by kernel_rfl
  have hbk : (w4.alloc (blk hKey 99)).alloc (blk8 (zeros 64) 103) = (w4.alloc (blk (ivF.set 0 (xor32 (xor32 1779033703 16842784) 8192)) 99)).alloc (blk8 (zeros 64) 103) := by rw [hkk]
  have HX : D1 w ((w4.alloc (blk hKey 99)).alloc (blk8 (zeros 64) 103)) w4.heap.size (w.heap.size + 1) hKey :=
    ⟨below_alloc (below_alloc b1 _) _, blk_alloc (heap_alloc_last _ _) _, blk_alloc (blk_alloc (blk_below xr hb4) _) _, by omega, by omega, by omega, rfl⟩
  have HK : ((w4.alloc (blk hKey 99)).alloc (blk8 (zeros 64) 103)).heap[w.heap.size]? = some (blk8 key 61) := blk_alloc (blk_alloc (blk_below (blk_alloc (heap_alloc_last w (blk8 key 61)) (blk8 (zeros 32) 57)) hb4) _) _
  have HBk : ((w4.alloc (blk hKey 99)).alloc (blk8 (zeros 64) 103)).heap[w4.heap.size + 1]? = some (blk8 (zeros 64) 103) := by
    have := heap_alloc_last (w4.alloc (blk hKey 99)) (blk8 (zeros 64) 103)
    rw [sz1 rfl] at this
    exact this
  have HC : Kd.C Kd.string ((w4.alloc (blk hKey 99)).alloc (blk8 (zeros 64) 103)) A0 l0.length l0 := Kd.C_below HR.out (below_alloc (below_alloc b1 _) _)
  have n1 : w4.heap.size + 1 ≠ w4.heap.size := by omega
  have n2 : w4.heap.size + 1 ≠ w.heap.size + 1 := by omega
  have n3 : w4.heap.size + 1 ≠ w.heap.size := by omega
  have n4 : w.heap.size ≤ w4.heap.size + 1 := by omega
  replace HX := Aside0.mk HX
  replace HC := Aside0.mk HC
  replace HK := Aside0.mk HK
  replace HBk := Aside0.mk HBk
  clear hb4 q0 b0 b1 xr
  change Code.wp _ _ _ _ ((w4.alloc (blk (ivF.set 0 (xor32 (xor32 1779033703 16842784) 8192)) 99)).alloc (blk8 (zeros 64) 103))
  rw [← hbk]
  clear hbk hkk
  generalize (w4.alloc (blk hKey 99)).alloc (blk8 (zeros 64) 103) = W1 at HX HC HK HBk ⊢
  generalize w4.heap.size + 1 = gb at HBk n1 n2 n3 n4 ⊢
  generalize w4.heap.size = gh at HX n1 ⊢
  generalize w.heap.size + 1 = gr at HX n2 ⊢
  obtain ⟨gk, hgr⟩ : ∃ z, z = w.heap.size := ⟨_, rfl⟩
  rw [← hgr] at HK n3 n4 ⊢
  have HG := Aside0.mk hgr
  clear hgr
  replace n1 := Aside0.mk n1
  replace n2 := Aside0.mk n2
  replace n3 := Aside0.mk n3
  replace n4 := Aside0.mk n4
  obtain ⟨h1, hh1⟩ : ∃ z, z = hKey := ⟨_, rfl⟩
  rw [← hh1] at HX
  have HH := Aside0.mk hh1
  clear hh1
  have hag := u32s8 h1 HX.out.lh
  go_loopw [7] (fun vi wr => ∃ i : Nat, i ≤ 32 ∧ vi = .int .i64 i ∧ Aside0 (D1 w wr gh gr h1 ∧ Kd.C Kd.string wr A0 l0.length l0 ∧ wr.heap[gk]? = some (blk8 key 61) ∧ wr.heap[gb]? = some (blk8 (fillB 64 (zeros 64) (gi key) i) 103))) (fun vi _ => 32 - (intOf vi).toNat)
  case atStart => exact ⟨0, by omega, rfl, Aside0.mk ⟨HX.out, HC.out, HK.out, by rw [fillB_zero 64 _ _ rfl]; exact HBk.out⟩⟩
  case round =>
    obtain ⟨i, hi, rfl, HL⟩ := hrel
    clear HX HC HK HBk
    by_cases hli : i < 32
    · have x1 : (i : Int) < 32 := by omega
      have x2 : (i : Int) < 64 := by omega
      have g0 := cell_blk8 HL.out.2.2.1 i (by omega)
      have f1 := frozen_blk8 HL.out.2.2.2 i
      have g1 := cell_blk8 HL.out.2.2.2 i (by rw [fillB_length]; omega)
      have HL2 : Aside0 (D1 w (wr.setCell ⟨gb, i, none⟩ (.int .u8 (gi key i))) gh gr h1 ∧ Kd.C Kd.string (wr.setCell ⟨gb, i, none⟩ (.int .u8 (gi key i))) A0 l0.length l0 ∧ (wr.setCell ⟨gb, i, none⟩ (.int .u8 (gi key i))).heap[gk]? = some (blk8 key 61) ∧ (wr.setCell ⟨gb, i, none⟩ (.int .u8 (gi key i))).heap[gb]? = some (blk8 (fillB 64 (zeros 64) (gi key) (i + 1)) 103)) := Aside0.mk (by
        have t := HL.out.1
        have hbl : Below w.heap.size w (wr.setCell ⟨gb, i, none⟩ (.int .u8 (gi key i))) := t.B.setCell (p := ⟨gb, i, none⟩) (by rw [← HG.out]; exact n4.out) _
        refine ⟨⟨hbl, other_blk t.bh n1.out.symm i _, other_blk t.br n2.out.symm i _, t.le, t.lr, t.n, t.lh⟩, Kd.C_below HR.out hbl, other_blk HL.out.2.2.1 n3.out.symm i _, ?_⟩
        rw [← fillB_set 64 _ _ i (by omega)]
        exact set_blk8 HL.out.2.2.2 i _)
      go_wp2_with fail
      refine ⟨⟨i + 1, by omega, rfl, HL2⟩, ?_⟩
      simp only [intOf]
      omega
    · obtain rfl : i = 32 := by omega
      clear hli hi
      have HX : Aside0 (D1 w wr gh gr h1) := Aside0.mk HL.out.1
      have HC : Aside0 (Kd.C Kd.string wr A0 l0.length l0) := Aside0.mk HL.out.2.1
      obtain ⟨k64, hk64⟩ : ∃ z, z = fillB 64 (zeros 64) (gi key) 32 := ⟨_, rfl⟩
      have HK0 := HL.out.2.2.2
      rw [← hk64] at HK0
      have hkl : k64.length = 64 := by rw [hk64]; exact fillB_length _ _ _ _
      replace hk64 := Aside0.mk hk64
      have HKd : wr.drew.heap[gb]? = some (blk8 k64 103) := HK0
      have HKS : Aside0 ((keyS k64).size = 64) := Aside0.mk (by rw [hk64.out, key64 key hk, ByteArray.size_append, keyS_size key hk, nulB_size])
      clear HL HK0
      have k0 := cell_blk HX.out.bh 0 (by rw [HX.out.lh]; decide)
      have k1 := cell_blk HX.out.bh 1 (by rw [HX.out.lh]; decide)
      have k2 := cell_blk HX.out.bh 2 (by rw [HX.out.lh]; decide)
      have k3 := cell_blk HX.out.bh 3 (by rw [HX.out.lh]; decide)
      have k4 := cell_blk HX.out.bh 4 (by rw [HX.out.lh]; decide)
      have k5 := cell_blk HX.out.bh 5 (by rw [HX.out.lh]; decide)
      have k6 := cell_blk HX.out.bh 6 (by rw [HX.out.lh]; decide)
      have k7 := cell_blk HX.out.bh 7 (by rw [HX.out.lh]; decide)
      go_wp2_with fail
      rename_i KK hKK
      replace hKK := Aside0.mk hKK
      refine start_ (n := 8) (S := fun w' => w'.cell? ⟨gh, 0, none⟩ = some (.int .u32 (gi h1 0)) ∧ w'.cell? ⟨gh, 1, none⟩ = some (.int .u32 (gi h1 1)) ∧ w'.cell? ⟨gh, 2, none⟩ = some (.int .u32 (gi h1 2)) ∧ w'.cell? ⟨gh, 3, none⟩ = some (.int .u32 (gi h1 3)) ∧ w'.cell? ⟨gh, 4, none⟩ = some (.int .u32 (gi h1 4)) ∧ w'.cell? ⟨gh, 5, none⟩ = some (.int .u32 (gi h1 5)) ∧ w'.cell? ⟨gh, 6, none⟩ = some (.int .u32 (gi h1 6)) ∧ w'.cell? ⟨gh, 7, none⟩ = some (.int .u32 (gi h1 7)) ∧ w'.heap[gb]? = some (blk8 k64 103)) (ds := [7]) #[false, false, false, false, false, false, false, false] (by kernel_rfl) rfl rfl ⟨k0, k1, k2, k3, k4, k5, k6, k7, HKd⟩ (fun hHeld => ?_); refine with_tabW rkeyr.tab rkeyr.bits (fun HT_ HW_ => ?_)
      refine pure_ (i := 1) (N := (some 24)) (v := ?_) (a' := ?_) #[false, true, false, false, false, false, false, false] rfl rfl (any_of HT_.out (by kernel_rfl)) (fun _ _ _ h => h) (Or.inl ⟨by rfl, ?_⟩) ?_ ?_
      rotate_left
      · intro w'
        go_simp
        with_reducible rfl
      rotate_left
      · simp only [Act.put, List.setIfInBounds_toArray, List.set_cons_zero, List.set_cons_succ, i64_w, i32_w]
        rfl
      refine pure_ (i := 3) (N := (some 26)) (v := ?_) (a' := ?_) #[false, true, false, true, false, false, false, false] rfl rfl (any_of HT_.out (by kernel_rfl)) (fun _ _ _ h => h) (Or.inl ⟨by rfl, ?_⟩) ?_ ?_
      rotate_left
      · intro w'
        go_simp
        with_reducible rfl
      rotate_left
      · simp only [Act.put, List.setIfInBounds_toArray, List.set_cons_zero, List.set_cons_succ, i64_w, i32_w]
        rfl
      refine take_ (i := 0) (N := (some 23)) (v := ?_) (a' := ?_) #[true, true, false, true, false, false, false, false] rfl rfl (take_ofW HT_.out HW_.out (by kernel_rfl)) (fun _ _ _ h => h) (Or.inl ⟨by rfl, ?_⟩) hHeld ?_ ?_
      rotate_left
      · rintro w' ⟨s0, s1, s2, s3, s4, s5, s6, s7, s8⟩
        go_simp
        with_reducible rfl
      rotate_left
      · simp only [Act.put, List.setIfInBounds_toArray, List.set_cons_zero, List.set_cons_succ, i64_w, i32_w]
        rfl
      refine take_ (i := 2) (N := (some 25)) (v := ?_) (a' := ?_) #[true, true, true, true, false, false, false, false] rfl rfl (take_ofW HT_.out HW_.out (by kernel_rfl)) (fun _ _ _ h => h) (Or.inl ⟨by rfl, ?_⟩) hHeld ?_ ?_
      rotate_left
      · rintro w' ⟨s0, s1, s2, s3, s4, s5, s6, s7, s8⟩
        have hcv := conv_key s8 hkl
        go_simp
        with_reducible rfl
      rotate_left
      · simp only [Act.put, List.setIfInBounds_toArray, List.set_cons_zero, List.set_cons_succ, i64_w, i32_w]
        rfl
      refine one_ (i := 4) (N := (some 27)) #[true, true, true, true, true, false, false, false] rfl rfl (one_of HT_.out (by kernel_rfl)) (by decide) (fun K hK => ?_)
      refine goes_ Try.func91 (by kernel_rfl) rfl #[.slice A0 l0.length c0] (by rfl) rfl rfl (by (try simp only [List.map_toArray, List.map_cons, List.map_nil]); first | done | rfl) ?_
      refine (rjoin_at A0 c0 l0 _ (Kd.C_below HC.out (below_drew (Below.refl _ _))) hc0 hl (by omega)).mono ?_
      rintro e w5 ⟨s5, hs5, rfl, hb5⟩
      have HX5 := Aside0.mk (HX.out.drew.below hb5)
      refine ⟨_, rfl, ?_⟩
      refine hK.out _ _ ⟨pw_cell_below hb5 k0, pw_cell_below hb5 k1, pw_cell_below hb5 k2, pw_cell_below hb5 k3, pw_cell_below hb5 k4, pw_cell_below hb5 k5, pw_cell_below hb5 k6, pw_cell_below hb5 k7, blk_below HKd hb5⟩ (fun hHeld => ?_)
      clear hK K
      refine norm_ (a' := ?_) ?_ ?_
      rotate_left
      · show Act.put _ (some 27) _ = _
        simp only [Act.put, List.setIfInBounds_toArray, List.set_cons_zero, List.set_cons_succ, i64_w, i32_w]
        rfl
      have hcat2 : ¬ (9223372036854775807 < (keyS k64).size + s5.size) := by rw [HKS.out, hs5.out]; omega
      refine pure_ (i := 5) (N := (some 28)) (v := ?_) (a' := ?_) #[true, true, true, true, true, true, false, false] rfl rfl (any_of HT_.out (by kernel_rfl)) (fun _ _ _ h => h) (Or.inl ⟨by rfl, ?_⟩) ?_ ?_
      rotate_left
      · intro w'
        go_simp
        with_reducible rfl
      rotate_left
      · simp only [Act.put, List.setIfInBounds_toArray, List.set_cons_zero, List.set_cons_succ, i64_w, i32_w]
        rfl
      refine one_ (i := 6) (N := (some 29)) #[true, true, true, true, true, true, true, false] rfl rfl (one_of HT_.out (by kernel_rfl)) (by decide) (fun K hK => ?_)
      refine goes_ Try.func90 (by kernel_rfl) rfl #[.agg #[.int .u32 (gi h1 0), .int .u32 (gi h1 1), .int .u32 (gi h1 2), .int .u32 (gi h1 3), .int .u32 (gi h1 4), .int .u32 (gi h1 5), .int .u32 (gi h1 6), .int .u32 (gi h1 7)], .string (keyS k64 ++ s5)] (by rfl) rfl rfl (by (try simp only [List.map_toArray, List.map_cons, List.map_nil]); first | done | rfl) ?_
      refine (rdig_at _ h1 hag HX.out.lh _ (by rw [ByteArray.size_append, HKS.out, hs5.out]; omega) _).mono ?_
      rintro e w6 ⟨d, hd, hdl, rfl, hb6⟩
      have HX6 := Aside0.mk (HX5.out.below hb6)
      refine ⟨_, rfl, ?_⟩
      refine hK.out _ _ ⟨pw_cell_below hb6 (pw_cell_below hb5 k0), pw_cell_below hb6 (pw_cell_below hb5 k1), pw_cell_below hb6 (pw_cell_below hb5 k2), pw_cell_below hb6 (pw_cell_below hb5 k3), pw_cell_below hb6 (pw_cell_below hb5 k4), pw_cell_below hb6 (pw_cell_below hb5 k5), pw_cell_below hb6 (pw_cell_below hb5 k6), pw_cell_below hb6 (pw_cell_below hb5 k7), blk_below (blk_below HKd hb5) hb6⟩ (fun hHeld => ?_)
      clear hK K
      refine norm_ (a' := ?_) ?_ ?_
      rotate_left
      · show Act.put _ (some 29) _ = _
        simp only [Act.put, List.setIfInBounds_toArray, List.set_cons_zero, List.set_cons_succ, i64_w, i32_w]
        rfl
      have hst := run_storeCells_b (v' := d) HX6.out.br (by rw [hdl]; rfl)
      have hsz2 : (u8s d).size = 32 := by simp [u8s, hdl]
      refine last_ (i := 7) (N := none) #[true, true, true, true, true, true, true, true] rfl rfl (one_of HT_.out (by kernel_rfl)) (by decide) (fun K hK => ?_)
      refine skip_ (w1 := ?_) (by rfl) rfl ?_ ?_
      rotate_left
      · go_simp
        rfl
      refine hK.out _ _ ?_
      clear hK K
      refine done_ (done_of HT_.out (by kernel_rfl)) ?_
      change KK _ _
      refine hKK.out _ _ ?_
      go_wp2_with fail
      have hgrr : (w6.setRow gr (u8s d)).heap[gr]? = some (.cells (u8s d) 57 (0, 0)) := setRow_heap w6 gr _ _ _ _ HX6.out.br
      refine bodyPost_ret (results_cell_row rfl _ _ gr 57 (u8s d) (0, 0) _ rfl hgrr Try.underlying57 rfl (by rw [show (u8s d).size = 32 from by simp [u8s, hdl]]; kernel_rfl)) rfl ?_
      have eD : d = digF hKey (keyS key ++ nulB 32 ++ joinS l0) := by rw [hd.out, HH.out, hs5.out, hk64.out, key64 key hk]
      exact ⟨by rw [eD], HX6.out.B.trans ((But.setRow w6 _).below (B := w.heap.size) HX6.out.lr HX6.out.B.size)⟩
end Go.Proofs.Ytjfmnkmgnbbfgaa.A
