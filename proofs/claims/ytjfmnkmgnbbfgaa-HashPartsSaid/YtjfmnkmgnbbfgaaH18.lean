/- The statement HashParts as the walk makes it: true for every key, parts and place. -/
import Derived.Test.YtjfmnkmgnbbfgaaH13
import Derived.Test.YtjfmnkmgnbbfgaaA51
import Derived.Test.YtjfmnkmgnbbfgaaXcheck
set_option linter.unusedVariables false
set_option linter.unusedSimpArgs false
namespace Go.Proofs.Ytjfmnkmgnbbfgaa.A
open Go.RowKit Go.Proofs.YtjfmnkmgnbbfgaaW.PrintWords Go.Proofs.YtjfmnkmgnbbfgaaW.PrintLast Go.Proofs.YtjfmnkmgnbbfgaaW.PrintMore

def hpar.T : Bool × List (List Nat × List Nat) := (true, [([], []), ([0], [0]), ([], []), ([2], [2]), ([3, 1], [3]), ([1, 4], [1, 4]), ([5, 4], [5]), ([6], [6]), ([6], [6]), ([7, 8, 6, 6], [6, 7, 8]), ([6], [6]), ([6], [6]), ([11, 6], [6, 11]), ([10, 12, 9, 6], [6, 10, 12]), ([9, 13, 6], [6, 9, 13]), ([6, 14], [6, 14]), ([15, 13], [15]), ([16], [16]), ([16], [16]), ([17, 18, 16], [16, 17, 18]), ([16], [16]), ([16], [16]), ([20, 21, 16], [16, 20, 21]), ([19, 22, 16], [16, 19, 22]), ([23, 16, 16], [16, 23]), ([16], [16]), ([25, 16], [16, 25]), ([26, 24, 16], [16, 26]), ([24, 27, 16], [16, 24, 27]), ([16, 28], [16, 28]), ([29, 27], [29]), ([30], [30]), ([30], [30]), ([30], [30]), ([32, 33, 30], [30, 32, 33]), ([30], [30]), ([30], [30]), ([35, 36, 30], [30, 35, 36]), ([34, 37, 30], [30, 34, 37]), ([31, 38, 30, 30], [30, 31, 38]), ([30], [30]), ([30], [30]), ([41, 30], [30, 41]), ([40, 42, 39, 30], [30, 40, 42]), ([39, 43, 30], [30, 39, 43]), ([30, 44], [30, 44]), ([45, 43, 0, 1, 2, 3, 4, 5, 6, 7, 8, 9, 10, 11, 12, 13, 14, 15, 16, 17, 18, 19, 20, 21, 22, 23, 24, 25, 26, 27, 28, 29, 30, 31, 32, 33, 34, 35, 36, 37, 38, 39, 40, 41, 42, 43, 44, 45], [45])])
def hpar.B : List Nat := [0, 1, 0, 4, 15, 31, 63, 127, 127, 511, 127, 127, 2175, 8191, 16383, 32767, 65535, 131071, 131071, 524287, 131071, 131071, 3276799, 8388607, 16777215, 131071, 33685503, 134217727, 268435455, 536870911, 1073741823, 2147483647, 2147483647, 2147483647, 15032385535, 2147483647, 2147483647, 105226698751, 272730423295, 549755813887, 2147483647, 2147483647, 2201170739199, 8796093022207, 17592186044415, 35184372088831, 70368744177663]
theorem hpar.tab : rtab .any (opsOf Try.f11 11) = hpar.T := by kernel_rfl
theorem hpar.bits : waitsOk hpar.T.2 hpar.B = true := by kernel_rfl
theorem long_l0 (l : List ByteArray) (hn : l.length ≤ 30) (d : Nat) : ∀ (i : Nat) (x : Nat), l.length - i = d → i ≤ l.length → x ≤ 2000 * i →
    hibernaclelaw02_long.l0 (d + 1) l (x : Int) (i : Int) = some (decide (((x + ((l.drop i).map fun s => min s.size 2000).sum : Nat) : Int) > 700)) := by
  induction d with
  | zero =>
    intro i x h1 h2 h3
    have hi : i = l.length := by omega
    subst hi
    unfold hibernaclelaw02_long.l0
    rw [if_neg (by omega), List.drop_length]
    simp
  | succ d ih =>
    intro i x h1 h2 h3
    have hlt : i < l.length := by omega
    unfold hibernaclelaw02_long.l0
    rw [if_pos (by omega), if_pos (by omega), rd_at l i hlt, show wrap64 ((i : Int) + 1) = ((i + 1 : Nat) : Int) from by unfold wrap64; omega]
    have e : wrap64 ((x : Int) + mn ((l[i].size : Nat) : Int) 2000) = ((x + min l[i].size 2000 : Nat) : Int) := by unfold mn wrap64; split <;> omega
    rw [e, ih (i + 1) (x + min l[i].size 2000) (by omega) (by omega) (by omega)]
    rw [List.drop_eq_getElem_cons hlt, List.map_cons, List.sum_cons, Nat.add_assoc]
theorem sum_min (l : List ByteArray) : (l.map fun s => min s.size 2000).sum ≤ 700 → (l.map (·.size)).sum = (l.map fun s => min s.size 2000).sum := by
  induction l with
  | nil => intro _; rfl
  | cons x l ih =>
    intro h
    rw [List.map_cons, List.sum_cons] at h
    rw [List.map_cons, List.sum_cons, List.map_cons, List.sum_cons, ih (by omega)]
    omega
theorem long_f (l : List ByteArray) : ∃ k r, hibernaclelaw02_long.f k l = some r ∧ (r = false → l.length ≤ 30 ∧ (joinS l).size ≤ 700) := by
  by_cases h : l.length ≤ 30
  · refine ⟨l.length + 1, decide (((0 + ((l.drop 0).map fun s => min s.size 2000).sum : Nat) : Int) > 700), ?_, ?_⟩
    · unfold hibernaclelaw02_long.f
      rw [if_neg (by omega)]
      have := long_l0 l h l.length 0 0 (by omega) (by omega) (by omega)
      exact this
    · intro hr
      have := of_decide_eq_false hr
      rw [List.drop_zero, Nat.zero_add] at this
      refine ⟨h, ?_⟩
      rw [joinS_size, sum_min l (by omega)]
      omega
  · exact ⟨0, true, by unfold hibernaclelaw02_long.f; rw [if_pos (by omega)], fun h => by cases h⟩
theorem joinS_append (a b : List ByteArray) : joinS (a ++ b) = joinS a ++ joinS b := by
  apply ByteArray.ext
  rw [ByteArray.data_append, ← Array.toList_inj, Array.toList_append, joinS_flat, joinS_flat, joinS_flat, List.map_append, List.flatten_append]
theorem joinS_take (l : List ByteArray) (i : Nat) (h : i < l.length) : joinS (l.take (i + 1)) = joinS (l.take i) ++ l[i] := by
  rw [List.take_add_one, List.getElem?_eq_getElem h]
  show joinS (l.take i ++ [l[i]]) = _
  rw [joinS_append, joinS_one]
theorem joinS_le (l : List ByteArray) (i : Nat) : (joinS (l.take i)).size ≤ (joinS l).size := by
  rw [joinS_size, joinS_size]
  conv => rhs; rw [← List.take_append_drop i l, List.map_append, List.sum_append]
  omega
theorem joinS_two (s : ByteArray) (n : Nat) (h : n ≤ s.size) : joinS [s.extract 0 n, s.extract n s.size] = s := by
  rw [show [s.extract 0 n, s.extract n s.size] = [s.extract 0 n] ++ [s.extract n s.size] from rfl, joinS_append, joinS_one, joinS_one, ByteArray.extract_append_extract]
  simp [Nat.max_eq_right h]
theorem joinS_three (s : ByteArray) (n : Nat) (h : n ≤ s.size) : joinS [s.extract 0 n, ⟨#[]⟩, s.extract n s.size] = s := by
  rw [show [s.extract 0 n, ⟨#[]⟩, s.extract n s.size] = [s.extract 0 n] ++ ([⟨#[]⟩] ++ [s.extract n s.size]) from rfl, joinS_append, joinS_append, joinS_one, joinS_one, joinS_one]
  have e : (⟨#[]⟩ : ByteArray) ++ s.extract n s.size = s.extract n s.size := by
    apply ByteArray.ext
    rw [ByteArray.data_append]
    simp
  rw [e, ByteArray.extract_append_extract]
  simp [Nat.max_eq_right h]
theorem sumP_at (A0 : Option Addr) (c0 : Nat) (l0 : List ByteArray) (t : ByteArray) (ht : t = joinS l0) (hc0 : l0.length ≤ c0) (hl : l0.length ≤ 140737488355328) (hs : (joinS l0).size ≤ 900000) (w W : World) (hr : Kd.C Kd.string w A0 l0.length l0) (hB : Below w.heap.size w W) :
    Calls Try.prog 47 #[.slice A0 l0.length c0] W fun e w' => e = .returned (.agg (u8s (digF hSum t))) ∧ Below W.heap.size W w' := by
  subst ht
  exact hash_Sum.walk A0 c0 l0 W (Kd.C_below hr hB) hc0 hl (by omega)
theorem keyP_at (key : List Int) (hk : key.length = 32) (A0 : Option Addr) (c0 : Nat) (l0 : List ByteArray) (t : ByteArray) (ht : t = joinS l0) (hc0 : l0.length ≤ c0) (hl : l0.length ≤ 140737488355328) (hs : (joinS l0).size ≤ 900000) (w W : World) (hr : Kd.C Kd.string w A0 l0.length l0) (hB : Below w.heap.size w W) :
    Calls Try.prog 49 #[.agg (u8s key), .slice A0 l0.length c0] W fun e w' => e = .returned (.agg (u8s (keyF key t))) ∧ Below W.heap.size W w' := by
  subst ht
  exact hash_Keyed.walk key hk A0 c0 l0 W (Kd.C_below hr hB) hc0 hl hs
theorem sum2p_at (p q t : ByteArray) (hpq : joinS [p, q] = t) (hs : t.size ≤ 900000) (W : World) (g : Nat) (hg : W.heap[g]? = some (.cells #[.string p, .string q] 9 (0, 0))) :
    Calls Try.prog 47 #[.slice (some ⟨g, 0, none⟩) 2 2] W fun e w' => e = .returned (.agg (u8s (digF hSum t))) ∧ Below W.heap.size W w' := by
  subst hpq
  exact hash_Sum.walk _ 2 [p, q] W (C_lit (l := [p, q]) hg (by simp)) (Nat.le_refl _) (by simp) (by omega)
theorem key3_at (key : List Int) (hk : key.length = 32) (p q t : ByteArray) (hpq : joinS [p, ⟨#[]⟩, q] = t) (hs : t.size ≤ 900000) (W : World) (g : Nat) (hg : W.heap[g]? = some (.cells #[.string p, .string ⟨#[]⟩, .string q] 9 (0, 0))) :
    Calls Try.prog 49 #[.agg (u8s key), .slice (some ⟨g, 0, none⟩) 3 3] W fun e w' => e = .returned (.agg (u8s (keyF key t))) ∧ Below W.heap.size W w' := by
  subst hpq
  exact hash_Keyed.walk key hk _ 3 [p, ⟨#[]⟩, q] W (C_lit (l := [p, ⟨#[]⟩, q]) hg (by simp)) (Nat.le_refl _) (by simp) hs
theorem cut_any {P : Program} {md : Region.Mode} {ops : Array Oper} {Q : Exit → Act → World → Prop} {S : World → Prop} {ds : List Nat} {n : Nat} {l : Array Bool} {a : Act} {w : World} (n2 : Nat) (l2 : Array Bool) (R : Act → World → Prop)
    (h2 : ∀ a w, R a w → wpAnyLast P md ops Q S ds n2 l2 a w) (h1 : (∀ a w, R a w → wpAnyLast P md ops Q S ds n2 l2 a w) → wpAnyLast P md ops Q S ds n l a w) : wpAnyLast P md ops Q S ds n l a w := h1 h2
set_option maxHeartbeats 8000000 in
set_option maxRecDepth 100000 in
theorem hibernaclelaw02_HashParts.walk (key : List Int) (hk : key.length = 32) (A0 : Option Addr) (c0 : Nat) (l0 : List ByteArray) (a2 : Int) (ha0 : 0 ≤ a2) (ha1 : a2 ≤ 65535) (w : World) (hr0 : Kd.C Kd.string w A0 l0.length l0) (hc0 : l0.length ≤ c0) :
    Calls Try.prog 11 #[.agg (u8s key), .slice A0 l0.length c0, .int .u16 a2] w fun e w' => e = .returned (.bool true) ∧ Below w.heap.size w w' := by
  obtain ⟨k, r, hf, hr⟩ := long_f l0
  have HR := Aside0.mk hr0
  clear hr0
  go_enter Try.func11, Try.ntmps11
  go_wp2_with (go_at_call 46; refine (alive_walk _).mono ?_; rintro e w2 ⟨rfl, hb2⟩)
  go_at_call 51
  have hb2' : Below (w.alloc (blk8 key 61)).heap.size (w.alloc (blk8 key 61)) w2 := hb2
  have b2 : Below w.heap.size w w2 := below_then (below_alloc (Below.refl _ _) _) (below_alloc (Below.refl _ _) _).size hb2'
  have k2 : w2.heap[w.heap.size]? = some (blk8 key 61) := blk_below (heap_alloc_last w (blk8 key 61)) hb2'
  clear hb2 hb2'
  refine (hibernaclelaw02_long.calls k A0 c0 l0 r w2 (Kd.C_below HR.out b2) hc0 hf).mono ?_
  rintro e w3 ⟨rfl, hb3⟩
  have b3 : Below w.heap.size w w3 := below_then b2 b2.size hb3
  have k3 := blk_below k2 hb3
  have hC3 := Kd.C_below HR.out b3
  clear hb3 k2 b2 hf
  obtain ⟨gk, hgk⟩ : ∃ z, z = w.heap.size := ⟨_, rfl⟩
  rw [← hgk] at k3 ⊢
  replace hgk := Aside0.mk hgk
  cases r with
  | true =>
    go_wp2_with fail
    go_ret
    exact ⟨rfl, b3⟩
  | false =>
    obtain ⟨hl30, hs700⟩ := hr rfl
    clear hr
    replace b3 := Aside0.mk b3
    replace k3 := Aside0.mk k3
    replace hC3 := Aside0.mk hC3
    go_wp2_with fail
    go_loopw [7, 8] (fun vt vi wr => ∃ i : Nat, i ≤ l0.length ∧ vi = .int .i64 i ∧ vt = .string (joinS (l0.take i)) ∧ wr = w3) (fun _ vi _ => 30 - (intOf vi).toNat)
    case atStart => exact ⟨0, by omega, rfl, rfl, rfl⟩
    case round =>
      obtain ⟨i, hi, rfl, rfl, rfl⟩ := hrel
      obtain ⟨t, ht⟩ : ∃ z, z = joinS (l0.take i) := ⟨_, rfl⟩
      have hts : t.size ≤ 700 := by rw [ht]; exact Nat.le_trans (joinS_le l0 i) hs700
      rw [← ht]
      replace ht := Aside0.mk ht
      by_cases hlt : i < l0.length
      · obtain ⟨ad, rfl, hcell⟩ := at_str hC3.out i hlt
        have c1 : (i : Int) < (l0.length : Int) := by omega
        have hnx : t ++ l0[i] = joinS (l0.take (i + 1)) := by rw [ht.out, joinS_take l0 i hlt]
        have hns : (t ++ l0[i]).size ≤ 700 := by rw [hnx]; exact Nat.le_trans (joinS_le l0 (i + 1)) hs700
        rw [ByteArray.size_append] at hns
        have hcat : ¬ (9223372036854775807 < t.size + l0[i].size) := by omega
        replace hnx := Aside0.mk hnx
        go_wp2_with fail
        refine ⟨⟨i + 1, by omega, rfl, by rw [hnx.out], trivial⟩, ?_⟩
        simp only [intOf]
        omega
      · obtain rfl : i = l0.length := by omega
        have ht2 : t = joinS l0 := by rw [ht.out, List.take_length]
        have c1 : ¬ (l0.length : Int) < (l0.length : Int) := by omega
        clear hlt hi
        have m0 := Int.emod_nonneg a2 (show (t.size : Int) + 1 ≠ 0 by omega)
        have m1 := Int.emod_lt_of_pos a2 (show (0 : Int) < (t.size : Int) + 1 by omega)
        obtain ⟨n, hn⟩ : ∃ n : Nat, (n : Int) = a2 % ((t.size : Int) + 1) := ⟨(a2 % ((t.size : Int) + 1)).toNat, by omega⟩
        have hnt : n ≤ t.size := by omega
        clear m0 m1
        replace ht2 := Aside0.mk ht2
        clear ht
        have e1 : IntKind.i64.wrap ((t.size : Int) + 1) = (t.size : Int) + 1 := by rw [i64_w]; unfold wrap64; omega
        have e2 : a2.tmod ((t.size : Int) + 1) = (n : Int) := by rw [hn, Int.tmod_eq_emod_of_nonneg ha0]
        have e3 : (t.size : Int) + 1 ≠ 0 := by omega
        have e4 : a2 % ((t.size : Int) + 1) = (n : Int) := hn.symm
        replace hn := Aside0.mk hn
        go_wp2_with fail
        clear e1 e2 e3 e4 hn c1
        obtain ⟨p, hp⟩ : ∃ z, z = t.extract 0 n := ⟨_, rfl⟩
        obtain ⟨q, hq⟩ : ∃ z, z = t.extract n t.size := ⟨_, rfl⟩
        have hpq : joinS [p, q] = t := by rw [hp, hq]; exact joinS_two t n hnt
        have hp3q : joinS [p, ⟨#[]⟩, q] = t := by rw [hp, hq]; exact joinS_three t n hnt
        have ht9 : t.size ≤ 900000 := by omega
        have hni : (n : Int) ≤ (t.size : Int) := by omega
        have hx1 : t.extract 0 n = p := hp.symm
        have hx2 : t.extract n t.size = q := hq.symm
        have he1 := fun W => eq57 (digF hSum t) (digF hSum t) (dig_bytes _ _) (dig_bytes _ _) W
        have he3 := fun W => eq57 (keyF key t) (keyF key t) (dig_bytes _ _) (dig_bytes _ _) W
        rw [decide_eq_true rfl] at he1 he3
        have hB : Below w.heap.size w wr.drew := b3.out.drew
        have hkd : wr.drew.heap[gk]? = some (blk8 key 61) := k3.out
        have hlj : (joinS l0).size ≤ 900000 := by omega
        have hl31 : l0.length ≤ 140737488355328 := by omega
        clear hp hq hs700 hl30
        replace hpq := Aside0.mk hpq
        replace hp3q := Aside0.mk hp3q
        rename_i KK hKK
        replace hKK := Aside0.mk hKK
        refine start_ (n := 47) (S := fun w' => w'.heap[gk]? = some (blk8 key 61)) (ds := []) #[false, false, false, false, false, false, false, false, false, false, false, false, false, false, false, false, false, false, false, false, false, false, false, false, false, false, false, false, false, false, false, false, false, false, false, false, false, false, false, false, false, false, false, false, false, false, false] (by kernel_rfl) rfl rfl hkd (fun hHeld => ?_); refine with_tabW hpar.tab hpar.bits (fun HT_ HW_ => ?_)
        generalize wr.drew = W1 at hB hkd hHeld ⊢
        refine cut_any 30 #[true, true, true, true, true, true, true, true, true, true, true, true, true, true, true, true, true, false, false, false, false, false, false, false, false, false, false, false, false, false, false, false, false, false, false, false, false, false, false, false, false, false, false, false, false, false, false] (fun a_ W_ => ∃ g35 g44 : Nat, a_ = { tmps := #[Value.agg (u8s key), Value.slice A0 l0.length c0, Value.int IntKind.u16 a2, Value.pointer (some ⟨gk, 0, none⟩), undef, undef, Value.bool false, Value.string t, Value.int IntKind.i64 (l0.length : Int), Value.int IntKind.i64 (n : Int), Value.bool true, Value.bool false, Value.slice A0 l0.length c0, Value.bool false, Value.int IntKind.i64 (l0.length : Int), Value.slice A0 l0.length c0, Value.int IntKind.i64 (l0.length : Int), Value.bool false, u18, u19, u20, u21, u22, u23, u24, u25, Value.int IntKind.u16 a2, Value.int IntKind.i64 a2, Value.string t, Value.int IntKind.i64 (t.size : Int), Value.int IntKind.i64 ((t.size : Int) + 1), Value.int IntKind.i64 (n : Int), Value.slice A0 l0.length c0, Value.agg (u8s (digF hSum t)), Value.string t, Value.slice (some ⟨g35, 0, none⟩) 1 1, Value.agg (u8s (digF hSum t)), Value.bool true, Value.bool true, Value.agg (u8s key), Value.slice A0 l0.length c0, Value.agg (u8s (keyF key t)), Value.agg (u8s key), Value.string t, Value.slice (some ⟨g44, 0, none⟩) 1 1, Value.agg (u8s (keyF key t)), Value.bool true, Value.bool true, Value.bool true, undef, undef, undef, undef, undef, undef, undef, undef, undef, undef, undef, undef, undef, undef, undef, undef, undef, undef, undef, undef, undef, undef, undef, undef, undef, undef, undef, undef, undef], defers := [] } ∧ Below w.heap.size w W_ ∧ W_.heap[gk]? = some (blk8 key 61)) ?_ ?_
        · clear hB hkd hHeld
          rintro _ Wt ⟨g35, g44, rfl, hBt, hkt⟩
          have hHeld : (fun w' : World => w'.heap[gk]? = some (blk8 key 61)) Wt := hkt
          refine pure_ (i := 17) (N := (some 49)) (v := ?_) (a' := ?_) #[true, true, true, true, true, true, true, true, true, true, true, true, true, true, true, true, true, true, false, false, false, false, false, false, false, false, false, false, false, false, false, false, false, false, false, false, false, false, false, false, false, false, false, false, false, false, false] rfl rfl (any_of HT_.out (by kernel_rfl)) (fun _ _ _ h => h) (Or.inl ⟨by rfl, ?_⟩) ?_ ?_
          rotate_left
          · intro w'
            go_simp
            with_reducible rfl
          rotate_left
          · simp only [Act.put, List.setIfInBounds_toArray, List.set_cons_zero, List.set_cons_succ, i64_w, i32_w]
            rfl
          refine pure_ (i := 18) (N := (some 50)) (v := ?_) (a' := ?_) #[true, true, true, true, true, true, true, true, true, true, true, true, true, true, true, true, true, true, true, false, false, false, false, false, false, false, false, false, false, false, false, false, false, false, false, false, false, false, false, false, false, false, false, false, false, false, false] rfl rfl (any_of HT_.out (by kernel_rfl)) (fun _ _ _ h => h) (Or.inl ⟨by rfl, ?_⟩) ?_ ?_
          rotate_left
          · intro w'
            go_simp
            with_reducible rfl
          rotate_left
          · simp only [Act.put, List.setIfInBounds_toArray, List.set_cons_zero, List.set_cons_succ, i64_w, i32_w]
            rfl
          refine pure_ (i := 19) (N := (some 51)) (v := ?_) (a' := ?_) #[true, true, true, true, true, true, true, true, true, true, true, true, true, true, true, true, true, true, true, true, false, false, false, false, false, false, false, false, false, false, false, false, false, false, false, false, false, false, false, false, false, false, false, false, false, false, false] rfl rfl (any_of HT_.out (by kernel_rfl)) (fun _ _ _ h => h) (Or.inl ⟨by rfl, ?_⟩) ?_ ?_
          rotate_left
          · intro w'
            go_simp
            with_reducible rfl
          rotate_left
          · simp only [Act.put, List.setIfInBounds_toArray, List.set_cons_zero, List.set_cons_succ, i64_w, i32_w]
            rfl
          refine pure_ (i := 20) (N := (some 52)) (v := ?_) (a' := ?_) #[true, true, true, true, true, true, true, true, true, true, true, true, true, true, true, true, true, true, true, true, true, false, false, false, false, false, false, false, false, false, false, false, false, false, false, false, false, false, false, false, false, false, false, false, false, false, false] rfl rfl (any_of HT_.out (by kernel_rfl)) (fun _ _ _ h => h) (Or.inl ⟨by rfl, ?_⟩) ?_ ?_
          rotate_left
          · intro w'
            go_simp
            with_reducible rfl
          rotate_left
          · simp only [Act.put, List.setIfInBounds_toArray, List.set_cons_zero, List.set_cons_succ, i64_w, i32_w]
            rfl
          refine pure_ (i := 21) (N := (some 53)) (v := ?_) (a' := ?_) #[true, true, true, true, true, true, true, true, true, true, true, true, true, true, true, true, true, true, true, true, true, true, false, false, false, false, false, false, false, false, false, false, false, false, false, false, false, false, false, false, false, false, false, false, false, false, false] rfl rfl (any_of HT_.out (by kernel_rfl)) (fun _ _ _ h => h) (Or.inl ⟨by rfl, ?_⟩) ?_ ?_
          rotate_left
          · intro w'
            go_simp
            with_reducible rfl
          rotate_left
          · simp only [Act.put, List.setIfInBounds_toArray, List.set_cons_zero, List.set_cons_succ, i64_w, i32_w]
            rfl
          refine pure_ (i := 22) (N := (some 54)) (v := ?_) (a' := ?_) #[true, true, true, true, true, true, true, true, true, true, true, true, true, true, true, true, true, true, true, true, true, true, true, false, false, false, false, false, false, false, false, false, false, false, false, false, false, false, false, false, false, false, false, false, false, false, false] rfl rfl (any_of HT_.out (by kernel_rfl)) (fun _ _ _ h => h) (Or.inl ⟨by rfl, ?_⟩) ?_ ?_
          rotate_left
          · intro w'
            go_simp
            with_reducible rfl
          rotate_left
          · simp only [Act.put, List.setIfInBounds_toArray, List.set_cons_zero, List.set_cons_succ, i64_w, i32_w]
            rfl
          refine pure_ (i := 25) (N := (some 57)) (v := ?_) (a' := ?_) #[true, true, true, true, true, true, true, true, true, true, true, true, true, true, true, true, true, true, true, true, true, true, true, false, false, true, false, false, false, false, false, false, false, false, false, false, false, false, false, false, false, false, false, false, false, false, false] rfl rfl (any_of HT_.out (by kernel_rfl)) (fun _ _ _ h => h) (Or.inl ⟨by rfl, ?_⟩) ?_ ?_
          rotate_left
          · intro w'
            go_simp
            with_reducible rfl
          rotate_left
          · simp only [Act.put, List.setIfInBounds_toArray, List.set_cons_zero, List.set_cons_succ, i64_w, i32_w]
            rfl
          refine two_ (i := 23) (j := 26) (Ni := (some 55)) (Nj := (some 58)) #[true, true, true, true, true, true, true, true, true, true, true, true, true, true, true, true, true, true, true, true, true, true, true, true, false, true, false, false, false, false, false, false, false, false, false, false, false, false, false, false, false, false, false, false, false, false, false] #[true, true, true, true, true, true, true, true, true, true, true, true, true, true, true, true, true, true, true, true, true, true, true, false, false, true, true, false, false, false, false, false, false, false, false, false, false, false, false, false, false, false, false, false, false, false, false] rfl rfl rfl rfl (two_of HT_.out (by kernel_rfl)) (by decide) (by decide) (fun K hK => ?_) (fun K hK => ?_)
          · refine value_ (w1 := Wt.alloc (.cells #[.string p, .string q] 9 (0, 0))) (v := .slice (some ⟨Wt.heap.size, 0, none⟩) 2 2) (by rfl) rfl ?_ ?_
            · first | (go_simp; done) | (go_simp; rfl)
            have hBV1 : Below w.heap.size w (Wt.alloc (.cells #[.string p, .string q] 9 (0, 0))) := below_alloc hBt _
            have hkV1 : (Wt.alloc (.cells #[.string p, .string q] 9 (0, 0))).heap[gk]? = some (blk8 key 61) := blk_alloc hkt _
            have hs23V1 : (Wt.alloc (.cells #[.string p, .string q] 9 (0, 0))).heap[Wt.heap.size]? = some (.cells #[.string p, .string q] 9 (0, 0)) := heap_alloc_last _ _
            refine hK.out _ _ hkV1 (fun hHeld => ?_)
            clear hK K
            generalize Wt.alloc (.cells #[.string p, .string q] 9 (0, 0)) = V1 at hBV1 hkV1 hs23V1 hHeld ⊢
            generalize Wt.heap.size = gV1 at hs23V1 ⊢
            refine norm_ (a' := ?_) ?_ ?_
            rotate_left
            · show Act.put _ (some 55) _ = _
              simp only [Act.put, List.setIfInBounds_toArray, List.set_cons_zero, List.set_cons_succ, i64_w, i32_w]
              rfl
            refine two_ (i := 24) (j := 26) (Ni := (some 56)) (Nj := (some 58)) #[true, true, true, true, true, true, true, true, true, true, true, true, true, true, true, true, true, true, true, true, true, true, true, true, true, true, false, false, false, false, false, false, false, false, false, false, false, false, false, false, false, false, false, false, false, false, false] #[true, true, true, true, true, true, true, true, true, true, true, true, true, true, true, true, true, true, true, true, true, true, true, true, false, true, true, false, false, false, false, false, false, false, false, false, false, false, false, false, false, false, false, false, false, false, false] rfl rfl rfl rfl (two_of HT_.out (by kernel_rfl)) (by decide) (by decide) (fun K hK => ?_) (fun K hK => ?_)
            · refine goes_ Try.func47 (by kernel_rfl) rfl #[.slice (some ⟨gV1, 0, none⟩) 2 2] (by rfl) rfl rfl (by (try simp only [List.map_toArray, List.map_cons, List.map_nil]); first | done | rfl) ?_
              refine (sum2p_at p q t hpq.out ht9 V1 gV1 hs23V1).mono ?_
              rintro e V2 ⟨rfl, hcV2⟩
              have hBV2 : Below w.heap.size w V2 := below_then hBV1 hBV1.size hcV2
              have hkV2 : V2.heap[gk]? = some (blk8 key 61) := blk_below hkV1 hcV2
              have hs23V2 : V2.heap[gV1]? = some (.cells #[.string p, .string q] 9 (0, 0)) := blk_below hs23V1 hcV2
              refine ⟨_, rfl, ?_⟩
              refine hK.out _ _ hkV2 (fun hHeld => ?_)
              clear hK K hcV2
              refine norm_ (a' := ?_) ?_ ?_
              rotate_left
              · show Act.put _ (some 56) _ = _
                simp only [Act.put, List.setIfInBounds_toArray, List.set_cons_zero, List.set_cons_succ, i64_w, i32_w]
                rfl
              refine one_ (i := 26) (N := (some 58)) #[true, true, true, true, true, true, true, true, true, true, true, true, true, true, true, true, true, true, true, true, true, true, true, true, true, true, true, false, false, false, false, false, false, false, false, false, false, false, false, false, false, false, false, false, false, false, false] rfl rfl (one_of HT_.out (by kernel_rfl)) (by decide) (fun K hK => ?_)
              refine value_ (w1 := V2.alloc (.cells #[.string t] 9 (0, 0))) (v := .slice (some ⟨V2.heap.size, 0, none⟩) 1 1) (by rfl) rfl ?_ ?_
              · first | (go_simp; done) | (go_simp; rfl)
              have hBV3 : Below w.heap.size w (V2.alloc (.cells #[.string t] 9 (0, 0))) := below_alloc hBV2 _
              have hkV3 : (V2.alloc (.cells #[.string t] 9 (0, 0))).heap[gk]? = some (blk8 key 61) := blk_alloc hkV2 _
              have hs26V3 : (V2.alloc (.cells #[.string t] 9 (0, 0))).heap[V2.heap.size]? = some (.cells #[.string t] 9 (0, 0)) := heap_alloc_last _ _
              have hs23V3 : (V2.alloc (.cells #[.string t] 9 (0, 0))).heap[gV1]? = some (.cells #[.string p, .string q] 9 (0, 0)) := blk_alloc hs23V2 _
              refine hK.out _ _ hkV3 (fun hHeld => ?_)
              clear hK K
              generalize V2.alloc (.cells #[.string t] 9 (0, 0)) = V3 at hBV3 hkV3 hs26V3 hs23V3 hHeld ⊢
              generalize V2.heap.size = gV3 at hs26V3 ⊢
              refine norm_ (a' := ?_) ?_ ?_
              rotate_left
              · show Act.put _ (some 58) _ = _
                simp only [Act.put, List.setIfInBounds_toArray, List.set_cons_zero, List.set_cons_succ, i64_w, i32_w]
                rfl
              refine one_ (i := 27) (N := (some 59)) #[true, true, true, true, true, true, true, true, true, true, true, true, true, true, true, true, true, true, true, true, true, true, true, true, true, true, true, true, false, false, false, false, false, false, false, false, false, false, false, false, false, false, false, false, false, false, false] rfl rfl (one_of HT_.out (by kernel_rfl)) (by decide) (fun K hK => ?_)
              refine goes_ Try.func47 (by kernel_rfl) rfl #[.slice (some ⟨gV3, 0, none⟩) 1 1] (by rfl) rfl rfl (by (try simp only [List.map_toArray, List.map_cons, List.map_nil]); first | done | rfl) ?_
              refine (sum2_at t ht9 V3 gV3 hs26V3).mono ?_
              rintro e V4 ⟨rfl, hcV4⟩
              have hBV4 : Below w.heap.size w V4 := below_then hBV3 hBV3.size hcV4
              have hkV4 : V4.heap[gk]? = some (blk8 key 61) := blk_below hkV3 hcV4
              have hs23V4 : V4.heap[gV1]? = some (.cells #[.string p, .string q] 9 (0, 0)) := blk_below hs23V3 hcV4
              have hs26V4 : V4.heap[gV3]? = some (.cells #[.string t] 9 (0, 0)) := blk_below hs26V3 hcV4
              refine ⟨_, rfl, ?_⟩
              refine hK.out _ _ hkV4 (fun hHeld => ?_)
              clear hK K hcV4
              refine norm_ (a' := ?_) ?_ ?_
              rotate_left
              · show Act.put _ (some 59) _ = _
                simp only [Act.put, List.setIfInBounds_toArray, List.set_cons_zero, List.set_cons_succ, i64_w, i32_w]
                rfl
              refine pure_ (i := 28) (N := (some 60)) (v := ?_) (a' := ?_) #[true, true, true, true, true, true, true, true, true, true, true, true, true, true, true, true, true, true, true, true, true, true, true, true, true, true, true, true, true, false, false, false, false, false, false, false, false, false, false, false, false, false, false, false, false, false, false] rfl rfl (any_of HT_.out (by kernel_rfl)) (fun _ _ _ h => h) (Or.inl ⟨by rfl, ?_⟩) ?_ ?_
              rotate_left
              · intro w'
                go_simp
                with_reducible rfl
              rotate_left
              · simp only [Act.put, List.setIfInBounds_toArray, List.set_cons_zero, List.set_cons_succ, i64_w, i32_w]
                rfl
              refine pure_ (i := 29) (N := (some 61)) (v := ?_) (a' := ?_) #[true, true, true, true, true, true, true, true, true, true, true, true, true, true, true, true, true, true, true, true, true, true, true, true, true, true, true, true, true, true, false, false, false, false, false, false, false, false, false, false, false, false, false, false, false, false, false] rfl rfl (any_of HT_.out (by kernel_rfl)) (fun _ _ _ h => h) (Or.inl ⟨by rfl, ?_⟩) ?_ ?_
              rotate_left
              · intro w'
                go_simp
                with_reducible rfl
              rotate_left
              · simp only [Act.put, List.setIfInBounds_toArray, List.set_cons_zero, List.set_cons_succ, i64_w, i32_w]
                rfl
              refine pure_ (i := 30) (N := (some 62)) (v := ?_) (a' := ?_) #[true, true, true, true, true, true, true, true, true, true, true, true, true, true, true, true, true, true, true, true, true, true, true, true, true, true, true, true, true, true, true, false, false, false, false, false, false, false, false, false, false, false, false, false, false, false, false] rfl rfl (any_of HT_.out (by kernel_rfl)) (fun _ _ _ h => h) (Or.inl ⟨by rfl, ?_⟩) ?_ ?_
              rotate_left
              · intro w'
                go_simp
                with_reducible rfl
              rotate_left
              · simp only [Act.put, List.setIfInBounds_toArray, List.set_cons_zero, List.set_cons_succ, i64_w, i32_w]
                rfl
              refine pure_ (i := 32) (N := (some 64)) (v := ?_) (a' := ?_) #[true, true, true, true, true, true, true, true, true, true, true, true, true, true, true, true, true, true, true, true, true, true, true, true, true, true, true, true, true, true, true, false, true, false, false, false, false, false, false, false, false, false, false, false, false, false, false] rfl rfl (any_of HT_.out (by kernel_rfl)) (fun _ _ _ h => h) (Or.inl ⟨by rfl, ?_⟩) ?_ ?_
              rotate_left
              · intro w'
                go_simp
                with_reducible rfl
              rotate_left
              · simp only [Act.put, List.setIfInBounds_toArray, List.set_cons_zero, List.set_cons_succ, i64_w, i32_w]
                rfl
              refine pure_ (i := 33) (N := (some 65)) (v := ?_) (a' := ?_) #[true, true, true, true, true, true, true, true, true, true, true, true, true, true, true, true, true, true, true, true, true, true, true, true, true, true, true, true, true, true, true, false, true, true, false, false, false, false, false, false, false, false, false, false, false, false, false] rfl rfl (any_of HT_.out (by kernel_rfl)) (fun _ _ _ h => h) (Or.inl ⟨by rfl, ?_⟩) ?_ ?_
              rotate_left
              · intro w'
                go_simp
                with_reducible rfl
              rotate_left
              · simp only [Act.put, List.setIfInBounds_toArray, List.set_cons_zero, List.set_cons_succ, i64_w, i32_w]
                rfl
              refine pure_ (i := 34) (N := (some 66)) (v := ?_) (a' := ?_) #[true, true, true, true, true, true, true, true, true, true, true, true, true, true, true, true, true, true, true, true, true, true, true, true, true, true, true, true, true, true, true, false, true, true, true, false, false, false, false, false, false, false, false, false, false, false, false] rfl rfl (any_of HT_.out (by kernel_rfl)) (fun _ _ _ h => h) (Or.inl ⟨by rfl, ?_⟩) ?_ ?_
              rotate_left
              · intro w'
                go_simp
                with_reducible rfl
              rotate_left
              · simp only [Act.put, List.setIfInBounds_toArray, List.set_cons_zero, List.set_cons_succ, i64_w, i32_w]
                rfl
              refine pure_ (i := 35) (N := (some 67)) (v := ?_) (a' := ?_) #[true, true, true, true, true, true, true, true, true, true, true, true, true, true, true, true, true, true, true, true, true, true, true, true, true, true, true, true, true, true, true, false, true, true, true, true, false, false, false, false, false, false, false, false, false, false, false] rfl rfl (any_of HT_.out (by kernel_rfl)) (fun _ _ _ h => h) (Or.inl ⟨by rfl, ?_⟩) ?_ ?_
              rotate_left
              · intro w'
                go_simp
                with_reducible rfl
              rotate_left
              · simp only [Act.put, List.setIfInBounds_toArray, List.set_cons_zero, List.set_cons_succ, i64_w, i32_w]
                rfl
              refine pure_ (i := 36) (N := (some 68)) (v := ?_) (a' := ?_) #[true, true, true, true, true, true, true, true, true, true, true, true, true, true, true, true, true, true, true, true, true, true, true, true, true, true, true, true, true, true, true, false, true, true, true, true, true, false, false, false, false, false, false, false, false, false, false] rfl rfl (any_of HT_.out (by kernel_rfl)) (fun _ _ _ h => h) (Or.inl ⟨by rfl, ?_⟩) ?_ ?_
              rotate_left
              · intro w'
                go_simp
                with_reducible rfl
              rotate_left
              · simp only [Act.put, List.setIfInBounds_toArray, List.set_cons_zero, List.set_cons_succ, i64_w, i32_w]
                rfl
              refine pure_ (i := 37) (N := (some 69)) (v := ?_) (a' := ?_) #[true, true, true, true, true, true, true, true, true, true, true, true, true, true, true, true, true, true, true, true, true, true, true, true, true, true, true, true, true, true, true, false, true, true, true, true, true, true, false, false, false, false, false, false, false, false, false] rfl rfl (any_of HT_.out (by kernel_rfl)) (fun _ _ _ h => h) (Or.inl ⟨by rfl, ?_⟩) ?_ ?_
              rotate_left
              · intro w'
                go_simp
                with_reducible rfl
              rotate_left
              · simp only [Act.put, List.setIfInBounds_toArray, List.set_cons_zero, List.set_cons_succ, i64_w, i32_w]
                rfl
              refine pure_ (i := 41) (N := (some 73)) (v := ?_) (a' := ?_) #[true, true, true, true, true, true, true, true, true, true, true, true, true, true, true, true, true, true, true, true, true, true, true, true, true, true, true, true, true, true, true, false, true, true, true, true, true, true, false, false, false, true, false, false, false, false, false] rfl rfl (any_of HT_.out (by kernel_rfl)) (fun _ _ _ h => h) (Or.inl ⟨by rfl, ?_⟩) ?_ ?_
              rotate_left
              · intro w'
                go_simp
                with_reducible rfl
              rotate_left
              · simp only [Act.put, List.setIfInBounds_toArray, List.set_cons_zero, List.set_cons_succ, i64_w, i32_w]
                rfl
              refine take_ (i := 31) (N := (some 63)) (v := .agg (u8s key)) (a' := ?_) #[true, true, true, true, true, true, true, true, true, true, true, true, true, true, true, true, true, true, true, true, true, true, true, true, true, true, true, true, true, true, true, true, true, true, true, true, true, true, false, false, false, true, false, false, false, false, false] rfl rfl (take_ofW HT_.out HW_.out (by kernel_rfl)) (fun _ _ _ h => h) (Or.inl ⟨by rfl, fun w' s8 => exec_load rfl rfl (loadAt61 s8 hk)⟩) hHeld ?_ ?_
              rotate_left
              · simp only [Act.put, List.setIfInBounds_toArray, List.set_cons_zero, List.set_cons_succ, i64_w, i32_w]
                rfl
              refine take_ (i := 40) (N := (some 72)) (v := .agg (u8s key)) (a' := ?_) #[true, true, true, true, true, true, true, true, true, true, true, true, true, true, true, true, true, true, true, true, true, true, true, true, true, true, true, true, true, true, true, true, true, true, true, true, true, true, false, false, true, true, false, false, false, false, false] rfl rfl (take_ofW HT_.out HW_.out (by kernel_rfl)) (fun _ _ _ h => h) (Or.inl ⟨by rfl, fun w' s8 => exec_load rfl rfl (loadAt61 s8 hk)⟩) hHeld ?_ ?_
              rotate_left
              · simp only [Act.put, List.setIfInBounds_toArray, List.set_cons_zero, List.set_cons_succ, i64_w, i32_w]
                rfl
              refine two_ (i := 38) (j := 42) (Ni := (some 70)) (Nj := (some 74)) #[true, true, true, true, true, true, true, true, true, true, true, true, true, true, true, true, true, true, true, true, true, true, true, true, true, true, true, true, true, true, true, true, true, true, true, true, true, true, true, false, true, true, false, false, false, false, false] #[true, true, true, true, true, true, true, true, true, true, true, true, true, true, true, true, true, true, true, true, true, true, true, true, true, true, true, true, true, true, true, true, true, true, true, true, true, true, false, false, true, true, true, false, false, false, false] rfl rfl rfl rfl (two_of HT_.out (by kernel_rfl)) (by decide) (by decide) (fun K hK => ?_) (fun K hK => ?_)
              · refine value_ (w1 := V4.alloc (.cells #[.string p, .string ⟨#[]⟩, .string q] 9 (0, 0))) (v := .slice (some ⟨V4.heap.size, 0, none⟩) 3 3) (by rfl) rfl ?_ ?_
                · first | (go_simp; done) | (go_simp; rfl)
                have hBV5 : Below w.heap.size w (V4.alloc (.cells #[.string p, .string ⟨#[]⟩, .string q] 9 (0, 0))) := below_alloc hBV4 _
                have hkV5 : (V4.alloc (.cells #[.string p, .string ⟨#[]⟩, .string q] 9 (0, 0))).heap[gk]? = some (blk8 key 61) := blk_alloc hkV4 _
                have hs38V5 : (V4.alloc (.cells #[.string p, .string ⟨#[]⟩, .string q] 9 (0, 0))).heap[V4.heap.size]? = some (.cells #[.string p, .string ⟨#[]⟩, .string q] 9 (0, 0)) := heap_alloc_last _ _
                have hs23V5 : (V4.alloc (.cells #[.string p, .string ⟨#[]⟩, .string q] 9 (0, 0))).heap[gV1]? = some (.cells #[.string p, .string q] 9 (0, 0)) := blk_alloc hs23V4 _
                have hs26V5 : (V4.alloc (.cells #[.string p, .string ⟨#[]⟩, .string q] 9 (0, 0))).heap[gV3]? = some (.cells #[.string t] 9 (0, 0)) := blk_alloc hs26V4 _
                refine hK.out _ _ hkV5 (fun hHeld => ?_)
                clear hK K
                generalize V4.alloc (.cells #[.string p, .string ⟨#[]⟩, .string q] 9 (0, 0)) = V5 at hBV5 hkV5 hs38V5 hs23V5 hs26V5 hHeld ⊢
                generalize V4.heap.size = gV5 at hs38V5 ⊢
                refine norm_ (a' := ?_) ?_ ?_
                rotate_left
                · show Act.put _ (some 70) _ = _
                  simp only [Act.put, List.setIfInBounds_toArray, List.set_cons_zero, List.set_cons_succ, i64_w, i32_w]
                  rfl
                refine two_ (i := 39) (j := 42) (Ni := (some 71)) (Nj := (some 74)) #[true, true, true, true, true, true, true, true, true, true, true, true, true, true, true, true, true, true, true, true, true, true, true, true, true, true, true, true, true, true, true, true, true, true, true, true, true, true, true, true, true, true, false, false, false, false, false] #[true, true, true, true, true, true, true, true, true, true, true, true, true, true, true, true, true, true, true, true, true, true, true, true, true, true, true, true, true, true, true, true, true, true, true, true, true, true, true, false, true, true, true, false, false, false, false] rfl rfl rfl rfl (two_of HT_.out (by kernel_rfl)) (by decide) (by decide) (fun K hK => ?_) (fun K hK => ?_)
                · refine goes_ Try.func49 (by kernel_rfl) rfl #[.agg (u8s key), .slice (some ⟨gV5, 0, none⟩) 3 3] (by rfl) rfl rfl (by (try simp only [List.map_toArray, List.map_cons, List.map_nil]); first | done | rfl) ?_
                  refine (key3_at key hk p q t hp3q.out ht9 V5 gV5 hs38V5).mono ?_
                  rintro e V6 ⟨rfl, hcV6⟩
                  have hBV6 : Below w.heap.size w V6 := below_then hBV5 hBV5.size hcV6
                  have hkV6 : V6.heap[gk]? = some (blk8 key 61) := blk_below hkV5 hcV6
                  have hs23V6 : V6.heap[gV1]? = some (.cells #[.string p, .string q] 9 (0, 0)) := blk_below hs23V5 hcV6
                  have hs26V6 : V6.heap[gV3]? = some (.cells #[.string t] 9 (0, 0)) := blk_below hs26V5 hcV6
                  have hs38V6 : V6.heap[gV5]? = some (.cells #[.string p, .string ⟨#[]⟩, .string q] 9 (0, 0)) := blk_below hs38V5 hcV6
                  refine ⟨_, rfl, ?_⟩
                  refine hK.out _ _ hkV6 (fun hHeld => ?_)
                  clear hK K hcV6
                  refine norm_ (a' := ?_) ?_ ?_
                  rotate_left
                  · show Act.put _ (some 71) _ = _
                    simp only [Act.put, List.setIfInBounds_toArray, List.set_cons_zero, List.set_cons_succ, i64_w, i32_w]
                    rfl
                  refine one_ (i := 42) (N := (some 74)) #[true, true, true, true, true, true, true, true, true, true, true, true, true, true, true, true, true, true, true, true, true, true, true, true, true, true, true, true, true, true, true, true, true, true, true, true, true, true, true, true, true, true, true, false, false, false, false] rfl rfl (one_of HT_.out (by kernel_rfl)) (by decide) (fun K hK => ?_)
                  refine value_ (w1 := V6.alloc (.cells #[.string t] 9 (0, 0))) (v := .slice (some ⟨V6.heap.size, 0, none⟩) 1 1) (by rfl) rfl ?_ ?_
                  · first | (go_simp; done) | (go_simp; rfl)
                  have hBV7 : Below w.heap.size w (V6.alloc (.cells #[.string t] 9 (0, 0))) := below_alloc hBV6 _
                  have hkV7 : (V6.alloc (.cells #[.string t] 9 (0, 0))).heap[gk]? = some (blk8 key 61) := blk_alloc hkV6 _
                  have hs42V7 : (V6.alloc (.cells #[.string t] 9 (0, 0))).heap[V6.heap.size]? = some (.cells #[.string t] 9 (0, 0)) := heap_alloc_last _ _
                  have hs23V7 : (V6.alloc (.cells #[.string t] 9 (0, 0))).heap[gV1]? = some (.cells #[.string p, .string q] 9 (0, 0)) := blk_alloc hs23V6 _
                  have hs26V7 : (V6.alloc (.cells #[.string t] 9 (0, 0))).heap[gV3]? = some (.cells #[.string t] 9 (0, 0)) := blk_alloc hs26V6 _
                  have hs38V7 : (V6.alloc (.cells #[.string t] 9 (0, 0))).heap[gV5]? = some (.cells #[.string p, .string ⟨#[]⟩, .string q] 9 (0, 0)) := blk_alloc hs38V6 _
                  refine hK.out _ _ hkV7 (fun hHeld => ?_)
                  clear hK K
                  generalize V6.alloc (.cells #[.string t] 9 (0, 0)) = V7 at hBV7 hkV7 hs42V7 hs23V7 hs26V7 hs38V7 hHeld ⊢
                  generalize V6.heap.size = gV7 at hs42V7 ⊢
                  refine norm_ (a' := ?_) ?_ ?_
                  rotate_left
                  · show Act.put _ (some 74) _ = _
                    simp only [Act.put, List.setIfInBounds_toArray, List.set_cons_zero, List.set_cons_succ, i64_w, i32_w]
                    rfl
                  refine one_ (i := 43) (N := (some 75)) #[true, true, true, true, true, true, true, true, true, true, true, true, true, true, true, true, true, true, true, true, true, true, true, true, true, true, true, true, true, true, true, true, true, true, true, true, true, true, true, true, true, true, true, true, false, false, false] rfl rfl (one_of HT_.out (by kernel_rfl)) (by decide) (fun K hK => ?_)
                  refine goes_ Try.func49 (by kernel_rfl) rfl #[.agg (u8s key), .slice (some ⟨gV7, 0, none⟩) 1 1] (by rfl) rfl rfl (by (try simp only [List.map_toArray, List.map_cons, List.map_nil]); first | done | rfl) ?_
                  refine (key1_at key hk t ht9 V7 gV7 hs42V7).mono ?_
                  rintro e V8 ⟨rfl, hcV8⟩
                  have hBV8 : Below w.heap.size w V8 := below_then hBV7 hBV7.size hcV8
                  have hkV8 : V8.heap[gk]? = some (blk8 key 61) := blk_below hkV7 hcV8
                  have hs23V8 : V8.heap[gV1]? = some (.cells #[.string p, .string q] 9 (0, 0)) := blk_below hs23V7 hcV8
                  have hs26V8 : V8.heap[gV3]? = some (.cells #[.string t] 9 (0, 0)) := blk_below hs26V7 hcV8
                  have hs38V8 : V8.heap[gV5]? = some (.cells #[.string p, .string ⟨#[]⟩, .string q] 9 (0, 0)) := blk_below hs38V7 hcV8
                  have hs42V8 : V8.heap[gV7]? = some (.cells #[.string t] 9 (0, 0)) := blk_below hs42V7 hcV8
                  refine ⟨_, rfl, ?_⟩
                  refine hK.out _ _ hkV8 (fun hHeld => ?_)
                  clear hK K hcV8
                  refine norm_ (a' := ?_) ?_ ?_
                  rotate_left
                  · show Act.put _ (some 75) _ = _
                    simp only [Act.put, List.setIfInBounds_toArray, List.set_cons_zero, List.set_cons_succ, i64_w, i32_w]
                    rfl
                  refine pure_ (i := 44) (N := (some 76)) (v := ?_) (a' := ?_) #[true, true, true, true, true, true, true, true, true, true, true, true, true, true, true, true, true, true, true, true, true, true, true, true, true, true, true, true, true, true, true, true, true, true, true, true, true, true, true, true, true, true, true, true, true, false, false] rfl rfl (any_of HT_.out (by kernel_rfl)) (fun _ _ _ h => h) (Or.inl ⟨by rfl, ?_⟩) ?_ ?_
                  rotate_left
                  · intro w'
                    go_simp
                    with_reducible rfl
                  rotate_left
                  · simp only [Act.put, List.setIfInBounds_toArray, List.set_cons_zero, List.set_cons_succ, i64_w, i32_w]
                    rfl
                  refine pure_ (i := 45) (N := (some 77)) (v := ?_) (a' := ?_) #[true, true, true, true, true, true, true, true, true, true, true, true, true, true, true, true, true, true, true, true, true, true, true, true, true, true, true, true, true, true, true, true, true, true, true, true, true, true, true, true, true, true, true, true, true, true, false] rfl rfl (any_of HT_.out (by kernel_rfl)) (fun _ _ _ h => h) (Or.inl ⟨by rfl, ?_⟩) ?_ ?_
                  rotate_left
                  · intro w'
                    go_simp
                    with_reducible rfl
                  rotate_left
                  · simp only [Act.put, List.setIfInBounds_toArray, List.set_cons_zero, List.set_cons_succ, i64_w, i32_w]
                    rfl
                  refine pure_ (i := 46) (N := (some 6)) (v := ?_) (a' := ?_) #[true, true, true, true, true, true, true, true, true, true, true, true, true, true, true, true, true, true, true, true, true, true, true, true, true, true, true, true, true, true, true, true, true, true, true, true, true, true, true, true, true, true, true, true, true, true, true] rfl rfl (any_of HT_.out (by kernel_rfl)) (fun _ _ _ h => h) (Or.inl ⟨by rfl, ?_⟩) ?_ ?_
                  rotate_left
                  · intro w'
                    go_simp
                    with_reducible rfl
                  rotate_left
                  · simp only [Act.put, List.setIfInBounds_toArray, List.set_cons_zero, List.set_cons_succ, i64_w, i32_w]
                    rfl
                  refine done_ (done_of HT_.out (by kernel_rfl)) ?_
                  change KK _ _
                  refine hKK.out _ _ ?_
                  go_wp2_with fail
                  go_ret
                  exact ⟨by simp, hBV8⟩
                · refine value_ (w1 := V5.alloc (.cells #[.string t] 9 (0, 0))) (v := .slice (some ⟨V5.heap.size, 0, none⟩) 1 1) (by rfl) rfl ?_ ?_
                  · first | (go_simp; done) | (go_simp; rfl)
                  have hBV9 : Below w.heap.size w (V5.alloc (.cells #[.string t] 9 (0, 0))) := below_alloc hBV5 _
                  have hkV9 : (V5.alloc (.cells #[.string t] 9 (0, 0))).heap[gk]? = some (blk8 key 61) := blk_alloc hkV5 _
                  have hs42V9 : (V5.alloc (.cells #[.string t] 9 (0, 0))).heap[V5.heap.size]? = some (.cells #[.string t] 9 (0, 0)) := heap_alloc_last _ _
                  have hs23V9 : (V5.alloc (.cells #[.string t] 9 (0, 0))).heap[gV1]? = some (.cells #[.string p, .string q] 9 (0, 0)) := blk_alloc hs23V5 _
                  have hs26V9 : (V5.alloc (.cells #[.string t] 9 (0, 0))).heap[gV3]? = some (.cells #[.string t] 9 (0, 0)) := blk_alloc hs26V5 _
                  have hs38V9 : (V5.alloc (.cells #[.string t] 9 (0, 0))).heap[gV5]? = some (.cells #[.string p, .string ⟨#[]⟩, .string q] 9 (0, 0)) := blk_alloc hs38V5 _
                  refine hK.out _ _ hkV9 (fun hHeld => ?_)
                  clear hK K
                  generalize V5.alloc (.cells #[.string t] 9 (0, 0)) = V9 at hBV9 hkV9 hs42V9 hs23V9 hs26V9 hs38V9 hHeld ⊢
                  generalize V5.heap.size = gV9 at hs42V9 ⊢
                  refine norm_ (a' := ?_) ?_ ?_
                  rotate_left
                  · show Act.put _ (some 74) _ = _
                    simp only [Act.put, List.setIfInBounds_toArray, List.set_cons_zero, List.set_cons_succ, i64_w, i32_w]
                    rfl
                  refine one_ (i := 39) (N := (some 71)) #[true, true, true, true, true, true, true, true, true, true, true, true, true, true, true, true, true, true, true, true, true, true, true, true, true, true, true, true, true, true, true, true, true, true, true, true, true, true, true, true, true, true, true, false, false, false, false] rfl rfl (one_of HT_.out (by kernel_rfl)) (by decide) (fun K hK => ?_)
                  refine goes_ Try.func49 (by kernel_rfl) rfl #[.agg (u8s key), .slice (some ⟨gV5, 0, none⟩) 3 3] (by rfl) rfl rfl (by (try simp only [List.map_toArray, List.map_cons, List.map_nil]); first | done | rfl) ?_
                  refine (key3_at key hk p q t hp3q.out ht9 V9 gV5 hs38V9).mono ?_
                  rintro e V10 ⟨rfl, hcV10⟩
                  have hBV10 : Below w.heap.size w V10 := below_then hBV9 hBV9.size hcV10
                  have hkV10 : V10.heap[gk]? = some (blk8 key 61) := blk_below hkV9 hcV10
                  have hs23V10 : V10.heap[gV1]? = some (.cells #[.string p, .string q] 9 (0, 0)) := blk_below hs23V9 hcV10
                  have hs26V10 : V10.heap[gV3]? = some (.cells #[.string t] 9 (0, 0)) := blk_below hs26V9 hcV10
                  have hs38V10 : V10.heap[gV5]? = some (.cells #[.string p, .string ⟨#[]⟩, .string q] 9 (0, 0)) := blk_below hs38V9 hcV10
                  have hs42V10 : V10.heap[gV9]? = some (.cells #[.string t] 9 (0, 0)) := blk_below hs42V9 hcV10
                  refine ⟨_, rfl, ?_⟩
                  refine hK.out _ _ hkV10 (fun hHeld => ?_)
                  clear hK K hcV10
                  refine norm_ (a' := ?_) ?_ ?_
                  rotate_left
                  · show Act.put _ (some 71) _ = _
                    simp only [Act.put, List.setIfInBounds_toArray, List.set_cons_zero, List.set_cons_succ, i64_w, i32_w]
                    rfl
                  refine one_ (i := 43) (N := (some 75)) #[true, true, true, true, true, true, true, true, true, true, true, true, true, true, true, true, true, true, true, true, true, true, true, true, true, true, true, true, true, true, true, true, true, true, true, true, true, true, true, true, true, true, true, true, false, false, false] rfl rfl (one_of HT_.out (by kernel_rfl)) (by decide) (fun K hK => ?_)
                  refine goes_ Try.func49 (by kernel_rfl) rfl #[.agg (u8s key), .slice (some ⟨gV9, 0, none⟩) 1 1] (by rfl) rfl rfl (by (try simp only [List.map_toArray, List.map_cons, List.map_nil]); first | done | rfl) ?_
                  refine (key1_at key hk t ht9 V10 gV9 hs42V10).mono ?_
                  rintro e V11 ⟨rfl, hcV11⟩
                  have hBV11 : Below w.heap.size w V11 := below_then hBV10 hBV10.size hcV11
                  have hkV11 : V11.heap[gk]? = some (blk8 key 61) := blk_below hkV10 hcV11
                  have hs23V11 : V11.heap[gV1]? = some (.cells #[.string p, .string q] 9 (0, 0)) := blk_below hs23V10 hcV11
                  have hs26V11 : V11.heap[gV3]? = some (.cells #[.string t] 9 (0, 0)) := blk_below hs26V10 hcV11
                  have hs38V11 : V11.heap[gV5]? = some (.cells #[.string p, .string ⟨#[]⟩, .string q] 9 (0, 0)) := blk_below hs38V10 hcV11
                  have hs42V11 : V11.heap[gV9]? = some (.cells #[.string t] 9 (0, 0)) := blk_below hs42V10 hcV11
                  refine ⟨_, rfl, ?_⟩
                  refine hK.out _ _ hkV11 (fun hHeld => ?_)
                  clear hK K hcV11
                  refine norm_ (a' := ?_) ?_ ?_
                  rotate_left
                  · show Act.put _ (some 75) _ = _
                    simp only [Act.put, List.setIfInBounds_toArray, List.set_cons_zero, List.set_cons_succ, i64_w, i32_w]
                    rfl
                  refine pure_ (i := 44) (N := (some 76)) (v := ?_) (a' := ?_) #[true, true, true, true, true, true, true, true, true, true, true, true, true, true, true, true, true, true, true, true, true, true, true, true, true, true, true, true, true, true, true, true, true, true, true, true, true, true, true, true, true, true, true, true, true, false, false] rfl rfl (any_of HT_.out (by kernel_rfl)) (fun _ _ _ h => h) (Or.inl ⟨by rfl, ?_⟩) ?_ ?_
                  rotate_left
                  · intro w'
                    go_simp
                    with_reducible rfl
                  rotate_left
                  · simp only [Act.put, List.setIfInBounds_toArray, List.set_cons_zero, List.set_cons_succ, i64_w, i32_w]
                    rfl
                  refine pure_ (i := 45) (N := (some 77)) (v := ?_) (a' := ?_) #[true, true, true, true, true, true, true, true, true, true, true, true, true, true, true, true, true, true, true, true, true, true, true, true, true, true, true, true, true, true, true, true, true, true, true, true, true, true, true, true, true, true, true, true, true, true, false] rfl rfl (any_of HT_.out (by kernel_rfl)) (fun _ _ _ h => h) (Or.inl ⟨by rfl, ?_⟩) ?_ ?_
                  rotate_left
                  · intro w'
                    go_simp
                    with_reducible rfl
                  rotate_left
                  · simp only [Act.put, List.setIfInBounds_toArray, List.set_cons_zero, List.set_cons_succ, i64_w, i32_w]
                    rfl
                  refine pure_ (i := 46) (N := (some 6)) (v := ?_) (a' := ?_) #[true, true, true, true, true, true, true, true, true, true, true, true, true, true, true, true, true, true, true, true, true, true, true, true, true, true, true, true, true, true, true, true, true, true, true, true, true, true, true, true, true, true, true, true, true, true, true] rfl rfl (any_of HT_.out (by kernel_rfl)) (fun _ _ _ h => h) (Or.inl ⟨by rfl, ?_⟩) ?_ ?_
                  rotate_left
                  · intro w'
                    go_simp
                    with_reducible rfl
                  rotate_left
                  · simp only [Act.put, List.setIfInBounds_toArray, List.set_cons_zero, List.set_cons_succ, i64_w, i32_w]
                    rfl
                  refine done_ (done_of HT_.out (by kernel_rfl)) ?_
                  change KK _ _
                  refine hKK.out _ _ ?_
                  go_wp2_with fail
                  go_ret
                  exact ⟨by simp, hBV11⟩
              · refine value_ (w1 := V4.alloc (.cells #[.string t] 9 (0, 0))) (v := .slice (some ⟨V4.heap.size, 0, none⟩) 1 1) (by rfl) rfl ?_ ?_
                · first | (go_simp; done) | (go_simp; rfl)
                have hBV12 : Below w.heap.size w (V4.alloc (.cells #[.string t] 9 (0, 0))) := below_alloc hBV4 _
                have hkV12 : (V4.alloc (.cells #[.string t] 9 (0, 0))).heap[gk]? = some (blk8 key 61) := blk_alloc hkV4 _
                have hs42V12 : (V4.alloc (.cells #[.string t] 9 (0, 0))).heap[V4.heap.size]? = some (.cells #[.string t] 9 (0, 0)) := heap_alloc_last _ _
                have hs23V12 : (V4.alloc (.cells #[.string t] 9 (0, 0))).heap[gV1]? = some (.cells #[.string p, .string q] 9 (0, 0)) := blk_alloc hs23V4 _
                have hs26V12 : (V4.alloc (.cells #[.string t] 9 (0, 0))).heap[gV3]? = some (.cells #[.string t] 9 (0, 0)) := blk_alloc hs26V4 _
                refine hK.out _ _ hkV12 (fun hHeld => ?_)
                clear hK K
                generalize V4.alloc (.cells #[.string t] 9 (0, 0)) = V12 at hBV12 hkV12 hs42V12 hs23V12 hs26V12 hHeld ⊢
                generalize V4.heap.size = gV12 at hs42V12 ⊢
                refine norm_ (a' := ?_) ?_ ?_
                rotate_left
                · show Act.put _ (some 74) _ = _
                  simp only [Act.put, List.setIfInBounds_toArray, List.set_cons_zero, List.set_cons_succ, i64_w, i32_w]
                  rfl
                refine one_ (i := 38) (N := (some 70)) #[true, true, true, true, true, true, true, true, true, true, true, true, true, true, true, true, true, true, true, true, true, true, true, true, true, true, true, true, true, true, true, true, true, true, true, true, true, true, true, false, true, true, true, false, false, false, false] rfl rfl (one_of HT_.out (by kernel_rfl)) (by decide) (fun K hK => ?_)
                refine value_ (w1 := V12.alloc (.cells #[.string p, .string ⟨#[]⟩, .string q] 9 (0, 0))) (v := .slice (some ⟨V12.heap.size, 0, none⟩) 3 3) (by rfl) rfl ?_ ?_
                · first | (go_simp; done) | (go_simp; rfl)
                have hBV13 : Below w.heap.size w (V12.alloc (.cells #[.string p, .string ⟨#[]⟩, .string q] 9 (0, 0))) := below_alloc hBV12 _
                have hkV13 : (V12.alloc (.cells #[.string p, .string ⟨#[]⟩, .string q] 9 (0, 0))).heap[gk]? = some (blk8 key 61) := blk_alloc hkV12 _
                have hs38V13 : (V12.alloc (.cells #[.string p, .string ⟨#[]⟩, .string q] 9 (0, 0))).heap[V12.heap.size]? = some (.cells #[.string p, .string ⟨#[]⟩, .string q] 9 (0, 0)) := heap_alloc_last _ _
                have hs23V13 : (V12.alloc (.cells #[.string p, .string ⟨#[]⟩, .string q] 9 (0, 0))).heap[gV1]? = some (.cells #[.string p, .string q] 9 (0, 0)) := blk_alloc hs23V12 _
                have hs26V13 : (V12.alloc (.cells #[.string p, .string ⟨#[]⟩, .string q] 9 (0, 0))).heap[gV3]? = some (.cells #[.string t] 9 (0, 0)) := blk_alloc hs26V12 _
                have hs42V13 : (V12.alloc (.cells #[.string p, .string ⟨#[]⟩, .string q] 9 (0, 0))).heap[gV12]? = some (.cells #[.string t] 9 (0, 0)) := blk_alloc hs42V12 _
                refine hK.out _ _ hkV13 (fun hHeld => ?_)
                clear hK K
                generalize V12.alloc (.cells #[.string p, .string ⟨#[]⟩, .string q] 9 (0, 0)) = V13 at hBV13 hkV13 hs38V13 hs23V13 hs26V13 hs42V13 hHeld ⊢
                generalize V12.heap.size = gV13 at hs38V13 ⊢
                refine norm_ (a' := ?_) ?_ ?_
                rotate_left
                · show Act.put _ (some 70) _ = _
                  simp only [Act.put, List.setIfInBounds_toArray, List.set_cons_zero, List.set_cons_succ, i64_w, i32_w]
                  rfl
                refine one_ (i := 39) (N := (some 71)) #[true, true, true, true, true, true, true, true, true, true, true, true, true, true, true, true, true, true, true, true, true, true, true, true, true, true, true, true, true, true, true, true, true, true, true, true, true, true, true, true, true, true, true, false, false, false, false] rfl rfl (one_of HT_.out (by kernel_rfl)) (by decide) (fun K hK => ?_)
                refine goes_ Try.func49 (by kernel_rfl) rfl #[.agg (u8s key), .slice (some ⟨gV13, 0, none⟩) 3 3] (by rfl) rfl rfl (by (try simp only [List.map_toArray, List.map_cons, List.map_nil]); first | done | rfl) ?_
                refine (key3_at key hk p q t hp3q.out ht9 V13 gV13 hs38V13).mono ?_
                rintro e V14 ⟨rfl, hcV14⟩
                have hBV14 : Below w.heap.size w V14 := below_then hBV13 hBV13.size hcV14
                have hkV14 : V14.heap[gk]? = some (blk8 key 61) := blk_below hkV13 hcV14
                have hs23V14 : V14.heap[gV1]? = some (.cells #[.string p, .string q] 9 (0, 0)) := blk_below hs23V13 hcV14
                have hs26V14 : V14.heap[gV3]? = some (.cells #[.string t] 9 (0, 0)) := blk_below hs26V13 hcV14
                have hs42V14 : V14.heap[gV12]? = some (.cells #[.string t] 9 (0, 0)) := blk_below hs42V13 hcV14
                have hs38V14 : V14.heap[gV13]? = some (.cells #[.string p, .string ⟨#[]⟩, .string q] 9 (0, 0)) := blk_below hs38V13 hcV14
                refine ⟨_, rfl, ?_⟩
                refine hK.out _ _ hkV14 (fun hHeld => ?_)
                clear hK K hcV14
                refine norm_ (a' := ?_) ?_ ?_
                rotate_left
                · show Act.put _ (some 71) _ = _
                  simp only [Act.put, List.setIfInBounds_toArray, List.set_cons_zero, List.set_cons_succ, i64_w, i32_w]
                  rfl
                refine one_ (i := 43) (N := (some 75)) #[true, true, true, true, true, true, true, true, true, true, true, true, true, true, true, true, true, true, true, true, true, true, true, true, true, true, true, true, true, true, true, true, true, true, true, true, true, true, true, true, true, true, true, true, false, false, false] rfl rfl (one_of HT_.out (by kernel_rfl)) (by decide) (fun K hK => ?_)
                refine goes_ Try.func49 (by kernel_rfl) rfl #[.agg (u8s key), .slice (some ⟨gV12, 0, none⟩) 1 1] (by rfl) rfl rfl (by (try simp only [List.map_toArray, List.map_cons, List.map_nil]); first | done | rfl) ?_
                refine (key1_at key hk t ht9 V14 gV12 hs42V14).mono ?_
                rintro e V15 ⟨rfl, hcV15⟩
                have hBV15 : Below w.heap.size w V15 := below_then hBV14 hBV14.size hcV15
                have hkV15 : V15.heap[gk]? = some (blk8 key 61) := blk_below hkV14 hcV15
                have hs23V15 : V15.heap[gV1]? = some (.cells #[.string p, .string q] 9 (0, 0)) := blk_below hs23V14 hcV15
                have hs26V15 : V15.heap[gV3]? = some (.cells #[.string t] 9 (0, 0)) := blk_below hs26V14 hcV15
                have hs42V15 : V15.heap[gV12]? = some (.cells #[.string t] 9 (0, 0)) := blk_below hs42V14 hcV15
                have hs38V15 : V15.heap[gV13]? = some (.cells #[.string p, .string ⟨#[]⟩, .string q] 9 (0, 0)) := blk_below hs38V14 hcV15
                refine ⟨_, rfl, ?_⟩
                refine hK.out _ _ hkV15 (fun hHeld => ?_)
                clear hK K hcV15
                refine norm_ (a' := ?_) ?_ ?_
                rotate_left
                · show Act.put _ (some 75) _ = _
                  simp only [Act.put, List.setIfInBounds_toArray, List.set_cons_zero, List.set_cons_succ, i64_w, i32_w]
                  rfl
                refine pure_ (i := 44) (N := (some 76)) (v := ?_) (a' := ?_) #[true, true, true, true, true, true, true, true, true, true, true, true, true, true, true, true, true, true, true, true, true, true, true, true, true, true, true, true, true, true, true, true, true, true, true, true, true, true, true, true, true, true, true, true, true, false, false] rfl rfl (any_of HT_.out (by kernel_rfl)) (fun _ _ _ h => h) (Or.inl ⟨by rfl, ?_⟩) ?_ ?_
                rotate_left
                · intro w'
                  go_simp
                  with_reducible rfl
                rotate_left
                · simp only [Act.put, List.setIfInBounds_toArray, List.set_cons_zero, List.set_cons_succ, i64_w, i32_w]
                  rfl
                refine pure_ (i := 45) (N := (some 77)) (v := ?_) (a' := ?_) #[true, true, true, true, true, true, true, true, true, true, true, true, true, true, true, true, true, true, true, true, true, true, true, true, true, true, true, true, true, true, true, true, true, true, true, true, true, true, true, true, true, true, true, true, true, true, false] rfl rfl (any_of HT_.out (by kernel_rfl)) (fun _ _ _ h => h) (Or.inl ⟨by rfl, ?_⟩) ?_ ?_
                rotate_left
                · intro w'
                  go_simp
                  with_reducible rfl
                rotate_left
                · simp only [Act.put, List.setIfInBounds_toArray, List.set_cons_zero, List.set_cons_succ, i64_w, i32_w]
                  rfl
                refine pure_ (i := 46) (N := (some 6)) (v := ?_) (a' := ?_) #[true, true, true, true, true, true, true, true, true, true, true, true, true, true, true, true, true, true, true, true, true, true, true, true, true, true, true, true, true, true, true, true, true, true, true, true, true, true, true, true, true, true, true, true, true, true, true] rfl rfl (any_of HT_.out (by kernel_rfl)) (fun _ _ _ h => h) (Or.inl ⟨by rfl, ?_⟩) ?_ ?_
                rotate_left
                · intro w'
                  go_simp
                  with_reducible rfl
                rotate_left
                · simp only [Act.put, List.setIfInBounds_toArray, List.set_cons_zero, List.set_cons_succ, i64_w, i32_w]
                  rfl
                refine done_ (done_of HT_.out (by kernel_rfl)) ?_
                change KK _ _
                refine hKK.out _ _ ?_
                go_wp2_with fail
                go_ret
                exact ⟨by simp, hBV15⟩
            · refine value_ (w1 := V1.alloc (.cells #[.string t] 9 (0, 0))) (v := .slice (some ⟨V1.heap.size, 0, none⟩) 1 1) (by rfl) rfl ?_ ?_
              · first | (go_simp; done) | (go_simp; rfl)
              have hBV16 : Below w.heap.size w (V1.alloc (.cells #[.string t] 9 (0, 0))) := below_alloc hBV1 _
              have hkV16 : (V1.alloc (.cells #[.string t] 9 (0, 0))).heap[gk]? = some (blk8 key 61) := blk_alloc hkV1 _
              have hs26V16 : (V1.alloc (.cells #[.string t] 9 (0, 0))).heap[V1.heap.size]? = some (.cells #[.string t] 9 (0, 0)) := heap_alloc_last _ _
              have hs23V16 : (V1.alloc (.cells #[.string t] 9 (0, 0))).heap[gV1]? = some (.cells #[.string p, .string q] 9 (0, 0)) := blk_alloc hs23V1 _
              refine hK.out _ _ hkV16 (fun hHeld => ?_)
              clear hK K
              generalize V1.alloc (.cells #[.string t] 9 (0, 0)) = V16 at hBV16 hkV16 hs26V16 hs23V16 hHeld ⊢
              generalize V1.heap.size = gV16 at hs26V16 ⊢
              refine norm_ (a' := ?_) ?_ ?_
              rotate_left
              · show Act.put _ (some 58) _ = _
                simp only [Act.put, List.setIfInBounds_toArray, List.set_cons_zero, List.set_cons_succ, i64_w, i32_w]
                rfl
              refine one_ (i := 24) (N := (some 56)) #[true, true, true, true, true, true, true, true, true, true, true, true, true, true, true, true, true, true, true, true, true, true, true, true, true, true, true, false, false, false, false, false, false, false, false, false, false, false, false, false, false, false, false, false, false, false, false] rfl rfl (one_of HT_.out (by kernel_rfl)) (by decide) (fun K hK => ?_)
              refine goes_ Try.func47 (by kernel_rfl) rfl #[.slice (some ⟨gV1, 0, none⟩) 2 2] (by rfl) rfl rfl (by (try simp only [List.map_toArray, List.map_cons, List.map_nil]); first | done | rfl) ?_
              refine (sum2p_at p q t hpq.out ht9 V16 gV1 hs23V16).mono ?_
              rintro e V17 ⟨rfl, hcV17⟩
              have hBV17 : Below w.heap.size w V17 := below_then hBV16 hBV16.size hcV17
              have hkV17 : V17.heap[gk]? = some (blk8 key 61) := blk_below hkV16 hcV17
              have hs23V17 : V17.heap[gV1]? = some (.cells #[.string p, .string q] 9 (0, 0)) := blk_below hs23V16 hcV17
              have hs26V17 : V17.heap[gV16]? = some (.cells #[.string t] 9 (0, 0)) := blk_below hs26V16 hcV17
              refine ⟨_, rfl, ?_⟩
              refine hK.out _ _ hkV17 (fun hHeld => ?_)
              clear hK K hcV17
              refine norm_ (a' := ?_) ?_ ?_
              rotate_left
              · show Act.put _ (some 56) _ = _
                simp only [Act.put, List.setIfInBounds_toArray, List.set_cons_zero, List.set_cons_succ, i64_w, i32_w]
                rfl
              refine one_ (i := 27) (N := (some 59)) #[true, true, true, true, true, true, true, true, true, true, true, true, true, true, true, true, true, true, true, true, true, true, true, true, true, true, true, true, false, false, false, false, false, false, false, false, false, false, false, false, false, false, false, false, false, false, false] rfl rfl (one_of HT_.out (by kernel_rfl)) (by decide) (fun K hK => ?_)
              refine goes_ Try.func47 (by kernel_rfl) rfl #[.slice (some ⟨gV16, 0, none⟩) 1 1] (by rfl) rfl rfl (by (try simp only [List.map_toArray, List.map_cons, List.map_nil]); first | done | rfl) ?_
              refine (sum2_at t ht9 V17 gV16 hs26V17).mono ?_
              rintro e V18 ⟨rfl, hcV18⟩
              have hBV18 : Below w.heap.size w V18 := below_then hBV17 hBV17.size hcV18
              have hkV18 : V18.heap[gk]? = some (blk8 key 61) := blk_below hkV17 hcV18
              have hs23V18 : V18.heap[gV1]? = some (.cells #[.string p, .string q] 9 (0, 0)) := blk_below hs23V17 hcV18
              have hs26V18 : V18.heap[gV16]? = some (.cells #[.string t] 9 (0, 0)) := blk_below hs26V17 hcV18
              refine ⟨_, rfl, ?_⟩
              refine hK.out _ _ hkV18 (fun hHeld => ?_)
              clear hK K hcV18
              refine norm_ (a' := ?_) ?_ ?_
              rotate_left
              · show Act.put _ (some 59) _ = _
                simp only [Act.put, List.setIfInBounds_toArray, List.set_cons_zero, List.set_cons_succ, i64_w, i32_w]
                rfl
              refine pure_ (i := 28) (N := (some 60)) (v := ?_) (a' := ?_) #[true, true, true, true, true, true, true, true, true, true, true, true, true, true, true, true, true, true, true, true, true, true, true, true, true, true, true, true, true, false, false, false, false, false, false, false, false, false, false, false, false, false, false, false, false, false, false] rfl rfl (any_of HT_.out (by kernel_rfl)) (fun _ _ _ h => h) (Or.inl ⟨by rfl, ?_⟩) ?_ ?_
              rotate_left
              · intro w'
                go_simp
                with_reducible rfl
              rotate_left
              · simp only [Act.put, List.setIfInBounds_toArray, List.set_cons_zero, List.set_cons_succ, i64_w, i32_w]
                rfl
              refine pure_ (i := 29) (N := (some 61)) (v := ?_) (a' := ?_) #[true, true, true, true, true, true, true, true, true, true, true, true, true, true, true, true, true, true, true, true, true, true, true, true, true, true, true, true, true, true, false, false, false, false, false, false, false, false, false, false, false, false, false, false, false, false, false] rfl rfl (any_of HT_.out (by kernel_rfl)) (fun _ _ _ h => h) (Or.inl ⟨by rfl, ?_⟩) ?_ ?_
              rotate_left
              · intro w'
                go_simp
                with_reducible rfl
              rotate_left
              · simp only [Act.put, List.setIfInBounds_toArray, List.set_cons_zero, List.set_cons_succ, i64_w, i32_w]
                rfl
              refine pure_ (i := 30) (N := (some 62)) (v := ?_) (a' := ?_) #[true, true, true, true, true, true, true, true, true, true, true, true, true, true, true, true, true, true, true, true, true, true, true, true, true, true, true, true, true, true, true, false, false, false, false, false, false, false, false, false, false, false, false, false, false, false, false] rfl rfl (any_of HT_.out (by kernel_rfl)) (fun _ _ _ h => h) (Or.inl ⟨by rfl, ?_⟩) ?_ ?_
              rotate_left
              · intro w'
                go_simp
                with_reducible rfl
              rotate_left
              · simp only [Act.put, List.setIfInBounds_toArray, List.set_cons_zero, List.set_cons_succ, i64_w, i32_w]
                rfl
              refine pure_ (i := 32) (N := (some 64)) (v := ?_) (a' := ?_) #[true, true, true, true, true, true, true, true, true, true, true, true, true, true, true, true, true, true, true, true, true, true, true, true, true, true, true, true, true, true, true, false, true, false, false, false, false, false, false, false, false, false, false, false, false, false, false] rfl rfl (any_of HT_.out (by kernel_rfl)) (fun _ _ _ h => h) (Or.inl ⟨by rfl, ?_⟩) ?_ ?_
              rotate_left
              · intro w'
                go_simp
                with_reducible rfl
              rotate_left
              · simp only [Act.put, List.setIfInBounds_toArray, List.set_cons_zero, List.set_cons_succ, i64_w, i32_w]
                rfl
              refine pure_ (i := 33) (N := (some 65)) (v := ?_) (a' := ?_) #[true, true, true, true, true, true, true, true, true, true, true, true, true, true, true, true, true, true, true, true, true, true, true, true, true, true, true, true, true, true, true, false, true, true, false, false, false, false, false, false, false, false, false, false, false, false, false] rfl rfl (any_of HT_.out (by kernel_rfl)) (fun _ _ _ h => h) (Or.inl ⟨by rfl, ?_⟩) ?_ ?_
              rotate_left
              · intro w'
                go_simp
                with_reducible rfl
              rotate_left
              · simp only [Act.put, List.setIfInBounds_toArray, List.set_cons_zero, List.set_cons_succ, i64_w, i32_w]
                rfl
              refine pure_ (i := 34) (N := (some 66)) (v := ?_) (a' := ?_) #[true, true, true, true, true, true, true, true, true, true, true, true, true, true, true, true, true, true, true, true, true, true, true, true, true, true, true, true, true, true, true, false, true, true, true, false, false, false, false, false, false, false, false, false, false, false, false] rfl rfl (any_of HT_.out (by kernel_rfl)) (fun _ _ _ h => h) (Or.inl ⟨by rfl, ?_⟩) ?_ ?_
              rotate_left
              · intro w'
                go_simp
                with_reducible rfl
              rotate_left
              · simp only [Act.put, List.setIfInBounds_toArray, List.set_cons_zero, List.set_cons_succ, i64_w, i32_w]
                rfl
              refine pure_ (i := 35) (N := (some 67)) (v := ?_) (a' := ?_) #[true, true, true, true, true, true, true, true, true, true, true, true, true, true, true, true, true, true, true, true, true, true, true, true, true, true, true, true, true, true, true, false, true, true, true, true, false, false, false, false, false, false, false, false, false, false, false] rfl rfl (any_of HT_.out (by kernel_rfl)) (fun _ _ _ h => h) (Or.inl ⟨by rfl, ?_⟩) ?_ ?_
              rotate_left
              · intro w'
                go_simp
                with_reducible rfl
              rotate_left
              · simp only [Act.put, List.setIfInBounds_toArray, List.set_cons_zero, List.set_cons_succ, i64_w, i32_w]
                rfl
              refine pure_ (i := 36) (N := (some 68)) (v := ?_) (a' := ?_) #[true, true, true, true, true, true, true, true, true, true, true, true, true, true, true, true, true, true, true, true, true, true, true, true, true, true, true, true, true, true, true, false, true, true, true, true, true, false, false, false, false, false, false, false, false, false, false] rfl rfl (any_of HT_.out (by kernel_rfl)) (fun _ _ _ h => h) (Or.inl ⟨by rfl, ?_⟩) ?_ ?_
              rotate_left
              · intro w'
                go_simp
                with_reducible rfl
              rotate_left
              · simp only [Act.put, List.setIfInBounds_toArray, List.set_cons_zero, List.set_cons_succ, i64_w, i32_w]
                rfl
              refine pure_ (i := 37) (N := (some 69)) (v := ?_) (a' := ?_) #[true, true, true, true, true, true, true, true, true, true, true, true, true, true, true, true, true, true, true, true, true, true, true, true, true, true, true, true, true, true, true, false, true, true, true, true, true, true, false, false, false, false, false, false, false, false, false] rfl rfl (any_of HT_.out (by kernel_rfl)) (fun _ _ _ h => h) (Or.inl ⟨by rfl, ?_⟩) ?_ ?_
              rotate_left
              · intro w'
                go_simp
                with_reducible rfl
              rotate_left
              · simp only [Act.put, List.setIfInBounds_toArray, List.set_cons_zero, List.set_cons_succ, i64_w, i32_w]
                rfl
              refine pure_ (i := 41) (N := (some 73)) (v := ?_) (a' := ?_) #[true, true, true, true, true, true, true, true, true, true, true, true, true, true, true, true, true, true, true, true, true, true, true, true, true, true, true, true, true, true, true, false, true, true, true, true, true, true, false, false, false, true, false, false, false, false, false] rfl rfl (any_of HT_.out (by kernel_rfl)) (fun _ _ _ h => h) (Or.inl ⟨by rfl, ?_⟩) ?_ ?_
              rotate_left
              · intro w'
                go_simp
                with_reducible rfl
              rotate_left
              · simp only [Act.put, List.setIfInBounds_toArray, List.set_cons_zero, List.set_cons_succ, i64_w, i32_w]
                rfl
              refine take_ (i := 31) (N := (some 63)) (v := .agg (u8s key)) (a' := ?_) #[true, true, true, true, true, true, true, true, true, true, true, true, true, true, true, true, true, true, true, true, true, true, true, true, true, true, true, true, true, true, true, true, true, true, true, true, true, true, false, false, false, true, false, false, false, false, false] rfl rfl (take_ofW HT_.out HW_.out (by kernel_rfl)) (fun _ _ _ h => h) (Or.inl ⟨by rfl, fun w' s8 => exec_load rfl rfl (loadAt61 s8 hk)⟩) hHeld ?_ ?_
              rotate_left
              · simp only [Act.put, List.setIfInBounds_toArray, List.set_cons_zero, List.set_cons_succ, i64_w, i32_w]
                rfl
              refine take_ (i := 40) (N := (some 72)) (v := .agg (u8s key)) (a' := ?_) #[true, true, true, true, true, true, true, true, true, true, true, true, true, true, true, true, true, true, true, true, true, true, true, true, true, true, true, true, true, true, true, true, true, true, true, true, true, true, false, false, true, true, false, false, false, false, false] rfl rfl (take_ofW HT_.out HW_.out (by kernel_rfl)) (fun _ _ _ h => h) (Or.inl ⟨by rfl, fun w' s8 => exec_load rfl rfl (loadAt61 s8 hk)⟩) hHeld ?_ ?_
              rotate_left
              · simp only [Act.put, List.setIfInBounds_toArray, List.set_cons_zero, List.set_cons_succ, i64_w, i32_w]
                rfl
              refine two_ (i := 38) (j := 42) (Ni := (some 70)) (Nj := (some 74)) #[true, true, true, true, true, true, true, true, true, true, true, true, true, true, true, true, true, true, true, true, true, true, true, true, true, true, true, true, true, true, true, true, true, true, true, true, true, true, true, false, true, true, false, false, false, false, false] #[true, true, true, true, true, true, true, true, true, true, true, true, true, true, true, true, true, true, true, true, true, true, true, true, true, true, true, true, true, true, true, true, true, true, true, true, true, true, false, false, true, true, true, false, false, false, false] rfl rfl rfl rfl (two_of HT_.out (by kernel_rfl)) (by decide) (by decide) (fun K hK => ?_) (fun K hK => ?_)
              · refine value_ (w1 := V18.alloc (.cells #[.string p, .string ⟨#[]⟩, .string q] 9 (0, 0))) (v := .slice (some ⟨V18.heap.size, 0, none⟩) 3 3) (by rfl) rfl ?_ ?_
                · first | (go_simp; done) | (go_simp; rfl)
                have hBV19 : Below w.heap.size w (V18.alloc (.cells #[.string p, .string ⟨#[]⟩, .string q] 9 (0, 0))) := below_alloc hBV18 _
                have hkV19 : (V18.alloc (.cells #[.string p, .string ⟨#[]⟩, .string q] 9 (0, 0))).heap[gk]? = some (blk8 key 61) := blk_alloc hkV18 _
                have hs38V19 : (V18.alloc (.cells #[.string p, .string ⟨#[]⟩, .string q] 9 (0, 0))).heap[V18.heap.size]? = some (.cells #[.string p, .string ⟨#[]⟩, .string q] 9 (0, 0)) := heap_alloc_last _ _
                have hs23V19 : (V18.alloc (.cells #[.string p, .string ⟨#[]⟩, .string q] 9 (0, 0))).heap[gV1]? = some (.cells #[.string p, .string q] 9 (0, 0)) := blk_alloc hs23V18 _
                have hs26V19 : (V18.alloc (.cells #[.string p, .string ⟨#[]⟩, .string q] 9 (0, 0))).heap[gV16]? = some (.cells #[.string t] 9 (0, 0)) := blk_alloc hs26V18 _
                refine hK.out _ _ hkV19 (fun hHeld => ?_)
                clear hK K
                generalize V18.alloc (.cells #[.string p, .string ⟨#[]⟩, .string q] 9 (0, 0)) = V19 at hBV19 hkV19 hs38V19 hs23V19 hs26V19 hHeld ⊢
                generalize V18.heap.size = gV19 at hs38V19 ⊢
                refine norm_ (a' := ?_) ?_ ?_
                rotate_left
                · show Act.put _ (some 70) _ = _
                  simp only [Act.put, List.setIfInBounds_toArray, List.set_cons_zero, List.set_cons_succ, i64_w, i32_w]
                  rfl
                refine two_ (i := 39) (j := 42) (Ni := (some 71)) (Nj := (some 74)) #[true, true, true, true, true, true, true, true, true, true, true, true, true, true, true, true, true, true, true, true, true, true, true, true, true, true, true, true, true, true, true, true, true, true, true, true, true, true, true, true, true, true, false, false, false, false, false] #[true, true, true, true, true, true, true, true, true, true, true, true, true, true, true, true, true, true, true, true, true, true, true, true, true, true, true, true, true, true, true, true, true, true, true, true, true, true, true, false, true, true, true, false, false, false, false] rfl rfl rfl rfl (two_of HT_.out (by kernel_rfl)) (by decide) (by decide) (fun K hK => ?_) (fun K hK => ?_)
                · refine goes_ Try.func49 (by kernel_rfl) rfl #[.agg (u8s key), .slice (some ⟨gV19, 0, none⟩) 3 3] (by rfl) rfl rfl (by (try simp only [List.map_toArray, List.map_cons, List.map_nil]); first | done | rfl) ?_
                  refine (key3_at key hk p q t hp3q.out ht9 V19 gV19 hs38V19).mono ?_
                  rintro e V20 ⟨rfl, hcV20⟩
                  have hBV20 : Below w.heap.size w V20 := below_then hBV19 hBV19.size hcV20
                  have hkV20 : V20.heap[gk]? = some (blk8 key 61) := blk_below hkV19 hcV20
                  have hs23V20 : V20.heap[gV1]? = some (.cells #[.string p, .string q] 9 (0, 0)) := blk_below hs23V19 hcV20
                  have hs26V20 : V20.heap[gV16]? = some (.cells #[.string t] 9 (0, 0)) := blk_below hs26V19 hcV20
                  have hs38V20 : V20.heap[gV19]? = some (.cells #[.string p, .string ⟨#[]⟩, .string q] 9 (0, 0)) := blk_below hs38V19 hcV20
                  refine ⟨_, rfl, ?_⟩
                  refine hK.out _ _ hkV20 (fun hHeld => ?_)
                  clear hK K hcV20
                  refine norm_ (a' := ?_) ?_ ?_
                  rotate_left
                  · show Act.put _ (some 71) _ = _
                    simp only [Act.put, List.setIfInBounds_toArray, List.set_cons_zero, List.set_cons_succ, i64_w, i32_w]
                    rfl
                  refine one_ (i := 42) (N := (some 74)) #[true, true, true, true, true, true, true, true, true, true, true, true, true, true, true, true, true, true, true, true, true, true, true, true, true, true, true, true, true, true, true, true, true, true, true, true, true, true, true, true, true, true, true, false, false, false, false] rfl rfl (one_of HT_.out (by kernel_rfl)) (by decide) (fun K hK => ?_)
                  refine value_ (w1 := V20.alloc (.cells #[.string t] 9 (0, 0))) (v := .slice (some ⟨V20.heap.size, 0, none⟩) 1 1) (by rfl) rfl ?_ ?_
                  · first | (go_simp; done) | (go_simp; rfl)
                  have hBV21 : Below w.heap.size w (V20.alloc (.cells #[.string t] 9 (0, 0))) := below_alloc hBV20 _
                  have hkV21 : (V20.alloc (.cells #[.string t] 9 (0, 0))).heap[gk]? = some (blk8 key 61) := blk_alloc hkV20 _
                  have hs42V21 : (V20.alloc (.cells #[.string t] 9 (0, 0))).heap[V20.heap.size]? = some (.cells #[.string t] 9 (0, 0)) := heap_alloc_last _ _
                  have hs23V21 : (V20.alloc (.cells #[.string t] 9 (0, 0))).heap[gV1]? = some (.cells #[.string p, .string q] 9 (0, 0)) := blk_alloc hs23V20 _
                  have hs26V21 : (V20.alloc (.cells #[.string t] 9 (0, 0))).heap[gV16]? = some (.cells #[.string t] 9 (0, 0)) := blk_alloc hs26V20 _
                  have hs38V21 : (V20.alloc (.cells #[.string t] 9 (0, 0))).heap[gV19]? = some (.cells #[.string p, .string ⟨#[]⟩, .string q] 9 (0, 0)) := blk_alloc hs38V20 _
                  refine hK.out _ _ hkV21 (fun hHeld => ?_)
                  clear hK K
                  generalize V20.alloc (.cells #[.string t] 9 (0, 0)) = V21 at hBV21 hkV21 hs42V21 hs23V21 hs26V21 hs38V21 hHeld ⊢
                  generalize V20.heap.size = gV21 at hs42V21 ⊢
                  refine norm_ (a' := ?_) ?_ ?_
                  rotate_left
                  · show Act.put _ (some 74) _ = _
                    simp only [Act.put, List.setIfInBounds_toArray, List.set_cons_zero, List.set_cons_succ, i64_w, i32_w]
                    rfl
                  refine one_ (i := 43) (N := (some 75)) #[true, true, true, true, true, true, true, true, true, true, true, true, true, true, true, true, true, true, true, true, true, true, true, true, true, true, true, true, true, true, true, true, true, true, true, true, true, true, true, true, true, true, true, true, false, false, false] rfl rfl (one_of HT_.out (by kernel_rfl)) (by decide) (fun K hK => ?_)
                  refine goes_ Try.func49 (by kernel_rfl) rfl #[.agg (u8s key), .slice (some ⟨gV21, 0, none⟩) 1 1] (by rfl) rfl rfl (by (try simp only [List.map_toArray, List.map_cons, List.map_nil]); first | done | rfl) ?_
                  refine (key1_at key hk t ht9 V21 gV21 hs42V21).mono ?_
                  rintro e V22 ⟨rfl, hcV22⟩
                  have hBV22 : Below w.heap.size w V22 := below_then hBV21 hBV21.size hcV22
                  have hkV22 : V22.heap[gk]? = some (blk8 key 61) := blk_below hkV21 hcV22
                  have hs23V22 : V22.heap[gV1]? = some (.cells #[.string p, .string q] 9 (0, 0)) := blk_below hs23V21 hcV22
                  have hs26V22 : V22.heap[gV16]? = some (.cells #[.string t] 9 (0, 0)) := blk_below hs26V21 hcV22
                  have hs38V22 : V22.heap[gV19]? = some (.cells #[.string p, .string ⟨#[]⟩, .string q] 9 (0, 0)) := blk_below hs38V21 hcV22
                  have hs42V22 : V22.heap[gV21]? = some (.cells #[.string t] 9 (0, 0)) := blk_below hs42V21 hcV22
                  refine ⟨_, rfl, ?_⟩
                  refine hK.out _ _ hkV22 (fun hHeld => ?_)
                  clear hK K hcV22
                  refine norm_ (a' := ?_) ?_ ?_
                  rotate_left
                  · show Act.put _ (some 75) _ = _
                    simp only [Act.put, List.setIfInBounds_toArray, List.set_cons_zero, List.set_cons_succ, i64_w, i32_w]
                    rfl
                  refine pure_ (i := 44) (N := (some 76)) (v := ?_) (a' := ?_) #[true, true, true, true, true, true, true, true, true, true, true, true, true, true, true, true, true, true, true, true, true, true, true, true, true, true, true, true, true, true, true, true, true, true, true, true, true, true, true, true, true, true, true, true, true, false, false] rfl rfl (any_of HT_.out (by kernel_rfl)) (fun _ _ _ h => h) (Or.inl ⟨by rfl, ?_⟩) ?_ ?_
                  rotate_left
                  · intro w'
                    go_simp
                    with_reducible rfl
                  rotate_left
                  · simp only [Act.put, List.setIfInBounds_toArray, List.set_cons_zero, List.set_cons_succ, i64_w, i32_w]
                    rfl
                  refine pure_ (i := 45) (N := (some 77)) (v := ?_) (a' := ?_) #[true, true, true, true, true, true, true, true, true, true, true, true, true, true, true, true, true, true, true, true, true, true, true, true, true, true, true, true, true, true, true, true, true, true, true, true, true, true, true, true, true, true, true, true, true, true, false] rfl rfl (any_of HT_.out (by kernel_rfl)) (fun _ _ _ h => h) (Or.inl ⟨by rfl, ?_⟩) ?_ ?_
                  rotate_left
                  · intro w'
                    go_simp
                    with_reducible rfl
                  rotate_left
                  · simp only [Act.put, List.setIfInBounds_toArray, List.set_cons_zero, List.set_cons_succ, i64_w, i32_w]
                    rfl
                  refine pure_ (i := 46) (N := (some 6)) (v := ?_) (a' := ?_) #[true, true, true, true, true, true, true, true, true, true, true, true, true, true, true, true, true, true, true, true, true, true, true, true, true, true, true, true, true, true, true, true, true, true, true, true, true, true, true, true, true, true, true, true, true, true, true] rfl rfl (any_of HT_.out (by kernel_rfl)) (fun _ _ _ h => h) (Or.inl ⟨by rfl, ?_⟩) ?_ ?_
                  rotate_left
                  · intro w'
                    go_simp
                    with_reducible rfl
                  rotate_left
                  · simp only [Act.put, List.setIfInBounds_toArray, List.set_cons_zero, List.set_cons_succ, i64_w, i32_w]
                    rfl
                  refine done_ (done_of HT_.out (by kernel_rfl)) ?_
                  change KK _ _
                  refine hKK.out _ _ ?_
                  go_wp2_with fail
                  go_ret
                  exact ⟨by simp, hBV22⟩
                · refine value_ (w1 := V19.alloc (.cells #[.string t] 9 (0, 0))) (v := .slice (some ⟨V19.heap.size, 0, none⟩) 1 1) (by rfl) rfl ?_ ?_
                  · first | (go_simp; done) | (go_simp; rfl)
                  have hBV23 : Below w.heap.size w (V19.alloc (.cells #[.string t] 9 (0, 0))) := below_alloc hBV19 _
                  have hkV23 : (V19.alloc (.cells #[.string t] 9 (0, 0))).heap[gk]? = some (blk8 key 61) := blk_alloc hkV19 _
                  have hs42V23 : (V19.alloc (.cells #[.string t] 9 (0, 0))).heap[V19.heap.size]? = some (.cells #[.string t] 9 (0, 0)) := heap_alloc_last _ _
                  have hs23V23 : (V19.alloc (.cells #[.string t] 9 (0, 0))).heap[gV1]? = some (.cells #[.string p, .string q] 9 (0, 0)) := blk_alloc hs23V19 _
                  have hs26V23 : (V19.alloc (.cells #[.string t] 9 (0, 0))).heap[gV16]? = some (.cells #[.string t] 9 (0, 0)) := blk_alloc hs26V19 _
                  have hs38V23 : (V19.alloc (.cells #[.string t] 9 (0, 0))).heap[gV19]? = some (.cells #[.string p, .string ⟨#[]⟩, .string q] 9 (0, 0)) := blk_alloc hs38V19 _
                  refine hK.out _ _ hkV23 (fun hHeld => ?_)
                  clear hK K
                  generalize V19.alloc (.cells #[.string t] 9 (0, 0)) = V23 at hBV23 hkV23 hs42V23 hs23V23 hs26V23 hs38V23 hHeld ⊢
                  generalize V19.heap.size = gV23 at hs42V23 ⊢
                  refine norm_ (a' := ?_) ?_ ?_
                  rotate_left
                  · show Act.put _ (some 74) _ = _
                    simp only [Act.put, List.setIfInBounds_toArray, List.set_cons_zero, List.set_cons_succ, i64_w, i32_w]
                    rfl
                  refine one_ (i := 39) (N := (some 71)) #[true, true, true, true, true, true, true, true, true, true, true, true, true, true, true, true, true, true, true, true, true, true, true, true, true, true, true, true, true, true, true, true, true, true, true, true, true, true, true, true, true, true, true, false, false, false, false] rfl rfl (one_of HT_.out (by kernel_rfl)) (by decide) (fun K hK => ?_)
                  refine goes_ Try.func49 (by kernel_rfl) rfl #[.agg (u8s key), .slice (some ⟨gV19, 0, none⟩) 3 3] (by rfl) rfl rfl (by (try simp only [List.map_toArray, List.map_cons, List.map_nil]); first | done | rfl) ?_
                  refine (key3_at key hk p q t hp3q.out ht9 V23 gV19 hs38V23).mono ?_
                  rintro e V24 ⟨rfl, hcV24⟩
                  have hBV24 : Below w.heap.size w V24 := below_then hBV23 hBV23.size hcV24
                  have hkV24 : V24.heap[gk]? = some (blk8 key 61) := blk_below hkV23 hcV24
                  have hs23V24 : V24.heap[gV1]? = some (.cells #[.string p, .string q] 9 (0, 0)) := blk_below hs23V23 hcV24
                  have hs26V24 : V24.heap[gV16]? = some (.cells #[.string t] 9 (0, 0)) := blk_below hs26V23 hcV24
                  have hs38V24 : V24.heap[gV19]? = some (.cells #[.string p, .string ⟨#[]⟩, .string q] 9 (0, 0)) := blk_below hs38V23 hcV24
                  have hs42V24 : V24.heap[gV23]? = some (.cells #[.string t] 9 (0, 0)) := blk_below hs42V23 hcV24
                  refine ⟨_, rfl, ?_⟩
                  refine hK.out _ _ hkV24 (fun hHeld => ?_)
                  clear hK K hcV24
                  refine norm_ (a' := ?_) ?_ ?_
                  rotate_left
                  · show Act.put _ (some 71) _ = _
                    simp only [Act.put, List.setIfInBounds_toArray, List.set_cons_zero, List.set_cons_succ, i64_w, i32_w]
                    rfl
                  refine one_ (i := 43) (N := (some 75)) #[true, true, true, true, true, true, true, true, true, true, true, true, true, true, true, true, true, true, true, true, true, true, true, true, true, true, true, true, true, true, true, true, true, true, true, true, true, true, true, true, true, true, true, true, false, false, false] rfl rfl (one_of HT_.out (by kernel_rfl)) (by decide) (fun K hK => ?_)
                  refine goes_ Try.func49 (by kernel_rfl) rfl #[.agg (u8s key), .slice (some ⟨gV23, 0, none⟩) 1 1] (by rfl) rfl rfl (by (try simp only [List.map_toArray, List.map_cons, List.map_nil]); first | done | rfl) ?_
                  refine (key1_at key hk t ht9 V24 gV23 hs42V24).mono ?_
                  rintro e V25 ⟨rfl, hcV25⟩
                  have hBV25 : Below w.heap.size w V25 := below_then hBV24 hBV24.size hcV25
                  have hkV25 : V25.heap[gk]? = some (blk8 key 61) := blk_below hkV24 hcV25
                  have hs23V25 : V25.heap[gV1]? = some (.cells #[.string p, .string q] 9 (0, 0)) := blk_below hs23V24 hcV25
                  have hs26V25 : V25.heap[gV16]? = some (.cells #[.string t] 9 (0, 0)) := blk_below hs26V24 hcV25
                  have hs38V25 : V25.heap[gV19]? = some (.cells #[.string p, .string ⟨#[]⟩, .string q] 9 (0, 0)) := blk_below hs38V24 hcV25
                  have hs42V25 : V25.heap[gV23]? = some (.cells #[.string t] 9 (0, 0)) := blk_below hs42V24 hcV25
                  refine ⟨_, rfl, ?_⟩
                  refine hK.out _ _ hkV25 (fun hHeld => ?_)
                  clear hK K hcV25
                  refine norm_ (a' := ?_) ?_ ?_
                  rotate_left
                  · show Act.put _ (some 75) _ = _
                    simp only [Act.put, List.setIfInBounds_toArray, List.set_cons_zero, List.set_cons_succ, i64_w, i32_w]
                    rfl
                  refine pure_ (i := 44) (N := (some 76)) (v := ?_) (a' := ?_) #[true, true, true, true, true, true, true, true, true, true, true, true, true, true, true, true, true, true, true, true, true, true, true, true, true, true, true, true, true, true, true, true, true, true, true, true, true, true, true, true, true, true, true, true, true, false, false] rfl rfl (any_of HT_.out (by kernel_rfl)) (fun _ _ _ h => h) (Or.inl ⟨by rfl, ?_⟩) ?_ ?_
                  rotate_left
                  · intro w'
                    go_simp
                    with_reducible rfl
                  rotate_left
                  · simp only [Act.put, List.setIfInBounds_toArray, List.set_cons_zero, List.set_cons_succ, i64_w, i32_w]
                    rfl
                  refine pure_ (i := 45) (N := (some 77)) (v := ?_) (a' := ?_) #[true, true, true, true, true, true, true, true, true, true, true, true, true, true, true, true, true, true, true, true, true, true, true, true, true, true, true, true, true, true, true, true, true, true, true, true, true, true, true, true, true, true, true, true, true, true, false] rfl rfl (any_of HT_.out (by kernel_rfl)) (fun _ _ _ h => h) (Or.inl ⟨by rfl, ?_⟩) ?_ ?_
                  rotate_left
                  · intro w'
                    go_simp
                    with_reducible rfl
                  rotate_left
                  · simp only [Act.put, List.setIfInBounds_toArray, List.set_cons_zero, List.set_cons_succ, i64_w, i32_w]
                    rfl
                  refine pure_ (i := 46) (N := (some 6)) (v := ?_) (a' := ?_) #[true, true, true, true, true, true, true, true, true, true, true, true, true, true, true, true, true, true, true, true, true, true, true, true, true, true, true, true, true, true, true, true, true, true, true, true, true, true, true, true, true, true, true, true, true, true, true] rfl rfl (any_of HT_.out (by kernel_rfl)) (fun _ _ _ h => h) (Or.inl ⟨by rfl, ?_⟩) ?_ ?_
                  rotate_left
                  · intro w'
                    go_simp
                    with_reducible rfl
                  rotate_left
                  · simp only [Act.put, List.setIfInBounds_toArray, List.set_cons_zero, List.set_cons_succ, i64_w, i32_w]
                    rfl
                  refine done_ (done_of HT_.out (by kernel_rfl)) ?_
                  change KK _ _
                  refine hKK.out _ _ ?_
                  go_wp2_with fail
                  go_ret
                  exact ⟨by simp, hBV25⟩
              · refine value_ (w1 := V18.alloc (.cells #[.string t] 9 (0, 0))) (v := .slice (some ⟨V18.heap.size, 0, none⟩) 1 1) (by rfl) rfl ?_ ?_
                · first | (go_simp; done) | (go_simp; rfl)
                have hBV26 : Below w.heap.size w (V18.alloc (.cells #[.string t] 9 (0, 0))) := below_alloc hBV18 _
                have hkV26 : (V18.alloc (.cells #[.string t] 9 (0, 0))).heap[gk]? = some (blk8 key 61) := blk_alloc hkV18 _
                have hs42V26 : (V18.alloc (.cells #[.string t] 9 (0, 0))).heap[V18.heap.size]? = some (.cells #[.string t] 9 (0, 0)) := heap_alloc_last _ _
                have hs23V26 : (V18.alloc (.cells #[.string t] 9 (0, 0))).heap[gV1]? = some (.cells #[.string p, .string q] 9 (0, 0)) := blk_alloc hs23V18 _
                have hs26V26 : (V18.alloc (.cells #[.string t] 9 (0, 0))).heap[gV16]? = some (.cells #[.string t] 9 (0, 0)) := blk_alloc hs26V18 _
                refine hK.out _ _ hkV26 (fun hHeld => ?_)
                clear hK K
                generalize V18.alloc (.cells #[.string t] 9 (0, 0)) = V26 at hBV26 hkV26 hs42V26 hs23V26 hs26V26 hHeld ⊢
                generalize V18.heap.size = gV26 at hs42V26 ⊢
                refine norm_ (a' := ?_) ?_ ?_
                rotate_left
                · show Act.put _ (some 74) _ = _
                  simp only [Act.put, List.setIfInBounds_toArray, List.set_cons_zero, List.set_cons_succ, i64_w, i32_w]
                  rfl
                refine one_ (i := 38) (N := (some 70)) #[true, true, true, true, true, true, true, true, true, true, true, true, true, true, true, true, true, true, true, true, true, true, true, true, true, true, true, true, true, true, true, true, true, true, true, true, true, true, true, false, true, true, true, false, false, false, false] rfl rfl (one_of HT_.out (by kernel_rfl)) (by decide) (fun K hK => ?_)
                refine value_ (w1 := V26.alloc (.cells #[.string p, .string ⟨#[]⟩, .string q] 9 (0, 0))) (v := .slice (some ⟨V26.heap.size, 0, none⟩) 3 3) (by rfl) rfl ?_ ?_
                · first | (go_simp; done) | (go_simp; rfl)
                have hBV27 : Below w.heap.size w (V26.alloc (.cells #[.string p, .string ⟨#[]⟩, .string q] 9 (0, 0))) := below_alloc hBV26 _
                have hkV27 : (V26.alloc (.cells #[.string p, .string ⟨#[]⟩, .string q] 9 (0, 0))).heap[gk]? = some (blk8 key 61) := blk_alloc hkV26 _
                have hs38V27 : (V26.alloc (.cells #[.string p, .string ⟨#[]⟩, .string q] 9 (0, 0))).heap[V26.heap.size]? = some (.cells #[.string p, .string ⟨#[]⟩, .string q] 9 (0, 0)) := heap_alloc_last _ _
                have hs23V27 : (V26.alloc (.cells #[.string p, .string ⟨#[]⟩, .string q] 9 (0, 0))).heap[gV1]? = some (.cells #[.string p, .string q] 9 (0, 0)) := blk_alloc hs23V26 _
                have hs26V27 : (V26.alloc (.cells #[.string p, .string ⟨#[]⟩, .string q] 9 (0, 0))).heap[gV16]? = some (.cells #[.string t] 9 (0, 0)) := blk_alloc hs26V26 _
                have hs42V27 : (V26.alloc (.cells #[.string p, .string ⟨#[]⟩, .string q] 9 (0, 0))).heap[gV26]? = some (.cells #[.string t] 9 (0, 0)) := blk_alloc hs42V26 _
                refine hK.out _ _ hkV27 (fun hHeld => ?_)
                clear hK K
                generalize V26.alloc (.cells #[.string p, .string ⟨#[]⟩, .string q] 9 (0, 0)) = V27 at hBV27 hkV27 hs38V27 hs23V27 hs26V27 hs42V27 hHeld ⊢
                generalize V26.heap.size = gV27 at hs38V27 ⊢
                refine norm_ (a' := ?_) ?_ ?_
                rotate_left
                · show Act.put _ (some 70) _ = _
                  simp only [Act.put, List.setIfInBounds_toArray, List.set_cons_zero, List.set_cons_succ, i64_w, i32_w]
                  rfl
                refine one_ (i := 39) (N := (some 71)) #[true, true, true, true, true, true, true, true, true, true, true, true, true, true, true, true, true, true, true, true, true, true, true, true, true, true, true, true, true, true, true, true, true, true, true, true, true, true, true, true, true, true, true, false, false, false, false] rfl rfl (one_of HT_.out (by kernel_rfl)) (by decide) (fun K hK => ?_)
                refine goes_ Try.func49 (by kernel_rfl) rfl #[.agg (u8s key), .slice (some ⟨gV27, 0, none⟩) 3 3] (by rfl) rfl rfl (by (try simp only [List.map_toArray, List.map_cons, List.map_nil]); first | done | rfl) ?_
                refine (key3_at key hk p q t hp3q.out ht9 V27 gV27 hs38V27).mono ?_
                rintro e V28 ⟨rfl, hcV28⟩
                have hBV28 : Below w.heap.size w V28 := below_then hBV27 hBV27.size hcV28
                have hkV28 : V28.heap[gk]? = some (blk8 key 61) := blk_below hkV27 hcV28
                have hs23V28 : V28.heap[gV1]? = some (.cells #[.string p, .string q] 9 (0, 0)) := blk_below hs23V27 hcV28
                have hs26V28 : V28.heap[gV16]? = some (.cells #[.string t] 9 (0, 0)) := blk_below hs26V27 hcV28
                have hs42V28 : V28.heap[gV26]? = some (.cells #[.string t] 9 (0, 0)) := blk_below hs42V27 hcV28
                have hs38V28 : V28.heap[gV27]? = some (.cells #[.string p, .string ⟨#[]⟩, .string q] 9 (0, 0)) := blk_below hs38V27 hcV28
                refine ⟨_, rfl, ?_⟩
                refine hK.out _ _ hkV28 (fun hHeld => ?_)
                clear hK K hcV28
                refine norm_ (a' := ?_) ?_ ?_
                rotate_left
                · show Act.put _ (some 71) _ = _
                  simp only [Act.put, List.setIfInBounds_toArray, List.set_cons_zero, List.set_cons_succ, i64_w, i32_w]
                  rfl
                refine one_ (i := 43) (N := (some 75)) #[true, true, true, true, true, true, true, true, true, true, true, true, true, true, true, true, true, true, true, true, true, true, true, true, true, true, true, true, true, true, true, true, true, true, true, true, true, true, true, true, true, true, true, true, false, false, false] rfl rfl (one_of HT_.out (by kernel_rfl)) (by decide) (fun K hK => ?_)
                refine goes_ Try.func49 (by kernel_rfl) rfl #[.agg (u8s key), .slice (some ⟨gV26, 0, none⟩) 1 1] (by rfl) rfl rfl (by (try simp only [List.map_toArray, List.map_cons, List.map_nil]); first | done | rfl) ?_
                refine (key1_at key hk t ht9 V28 gV26 hs42V28).mono ?_
                rintro e V29 ⟨rfl, hcV29⟩
                have hBV29 : Below w.heap.size w V29 := below_then hBV28 hBV28.size hcV29
                have hkV29 : V29.heap[gk]? = some (blk8 key 61) := blk_below hkV28 hcV29
                have hs23V29 : V29.heap[gV1]? = some (.cells #[.string p, .string q] 9 (0, 0)) := blk_below hs23V28 hcV29
                have hs26V29 : V29.heap[gV16]? = some (.cells #[.string t] 9 (0, 0)) := blk_below hs26V28 hcV29
                have hs42V29 : V29.heap[gV26]? = some (.cells #[.string t] 9 (0, 0)) := blk_below hs42V28 hcV29
                have hs38V29 : V29.heap[gV27]? = some (.cells #[.string p, .string ⟨#[]⟩, .string q] 9 (0, 0)) := blk_below hs38V28 hcV29
                refine ⟨_, rfl, ?_⟩
                refine hK.out _ _ hkV29 (fun hHeld => ?_)
                clear hK K hcV29
                refine norm_ (a' := ?_) ?_ ?_
                rotate_left
                · show Act.put _ (some 75) _ = _
                  simp only [Act.put, List.setIfInBounds_toArray, List.set_cons_zero, List.set_cons_succ, i64_w, i32_w]
                  rfl
                refine pure_ (i := 44) (N := (some 76)) (v := ?_) (a' := ?_) #[true, true, true, true, true, true, true, true, true, true, true, true, true, true, true, true, true, true, true, true, true, true, true, true, true, true, true, true, true, true, true, true, true, true, true, true, true, true, true, true, true, true, true, true, true, false, false] rfl rfl (any_of HT_.out (by kernel_rfl)) (fun _ _ _ h => h) (Or.inl ⟨by rfl, ?_⟩) ?_ ?_
                rotate_left
                · intro w'
                  go_simp
                  with_reducible rfl
                rotate_left
                · simp only [Act.put, List.setIfInBounds_toArray, List.set_cons_zero, List.set_cons_succ, i64_w, i32_w]
                  rfl
                refine pure_ (i := 45) (N := (some 77)) (v := ?_) (a' := ?_) #[true, true, true, true, true, true, true, true, true, true, true, true, true, true, true, true, true, true, true, true, true, true, true, true, true, true, true, true, true, true, true, true, true, true, true, true, true, true, true, true, true, true, true, true, true, true, false] rfl rfl (any_of HT_.out (by kernel_rfl)) (fun _ _ _ h => h) (Or.inl ⟨by rfl, ?_⟩) ?_ ?_
                rotate_left
                · intro w'
                  go_simp
                  with_reducible rfl
                rotate_left
                · simp only [Act.put, List.setIfInBounds_toArray, List.set_cons_zero, List.set_cons_succ, i64_w, i32_w]
                  rfl
                refine pure_ (i := 46) (N := (some 6)) (v := ?_) (a' := ?_) #[true, true, true, true, true, true, true, true, true, true, true, true, true, true, true, true, true, true, true, true, true, true, true, true, true, true, true, true, true, true, true, true, true, true, true, true, true, true, true, true, true, true, true, true, true, true, true] rfl rfl (any_of HT_.out (by kernel_rfl)) (fun _ _ _ h => h) (Or.inl ⟨by rfl, ?_⟩) ?_ ?_
                rotate_left
                · intro w'
                  go_simp
                  with_reducible rfl
                rotate_left
                · simp only [Act.put, List.setIfInBounds_toArray, List.set_cons_zero, List.set_cons_succ, i64_w, i32_w]
                  rfl
                refine done_ (done_of HT_.out (by kernel_rfl)) ?_
                change KK _ _
                refine hKK.out _ _ ?_
                go_wp2_with fail
                go_ret
                exact ⟨by simp, hBV29⟩
          · refine value_ (w1 := Wt.alloc (.cells #[.string t] 9 (0, 0))) (v := .slice (some ⟨Wt.heap.size, 0, none⟩) 1 1) (by rfl) rfl ?_ ?_
            · first | (go_simp; done) | (go_simp; rfl)
            have hBV30 : Below w.heap.size w (Wt.alloc (.cells #[.string t] 9 (0, 0))) := below_alloc hBt _
            have hkV30 : (Wt.alloc (.cells #[.string t] 9 (0, 0))).heap[gk]? = some (blk8 key 61) := blk_alloc hkt _
            have hs26V30 : (Wt.alloc (.cells #[.string t] 9 (0, 0))).heap[Wt.heap.size]? = some (.cells #[.string t] 9 (0, 0)) := heap_alloc_last _ _
            refine hK.out _ _ hkV30 (fun hHeld => ?_)
            clear hK K
            generalize Wt.alloc (.cells #[.string t] 9 (0, 0)) = V30 at hBV30 hkV30 hs26V30 hHeld ⊢
            generalize Wt.heap.size = gV30 at hs26V30 ⊢
            refine norm_ (a' := ?_) ?_ ?_
            rotate_left
            · show Act.put _ (some 58) _ = _
              simp only [Act.put, List.setIfInBounds_toArray, List.set_cons_zero, List.set_cons_succ, i64_w, i32_w]
              rfl
            refine one_ (i := 23) (N := (some 55)) #[true, true, true, true, true, true, true, true, true, true, true, true, true, true, true, true, true, true, true, true, true, true, true, true, false, true, true, false, false, false, false, false, false, false, false, false, false, false, false, false, false, false, false, false, false, false, false] rfl rfl (one_of HT_.out (by kernel_rfl)) (by decide) (fun K hK => ?_)
            refine value_ (w1 := V30.alloc (.cells #[.string p, .string q] 9 (0, 0))) (v := .slice (some ⟨V30.heap.size, 0, none⟩) 2 2) (by rfl) rfl ?_ ?_
            · first | (go_simp; done) | (go_simp; rfl)
            have hBV31 : Below w.heap.size w (V30.alloc (.cells #[.string p, .string q] 9 (0, 0))) := below_alloc hBV30 _
            have hkV31 : (V30.alloc (.cells #[.string p, .string q] 9 (0, 0))).heap[gk]? = some (blk8 key 61) := blk_alloc hkV30 _
            have hs23V31 : (V30.alloc (.cells #[.string p, .string q] 9 (0, 0))).heap[V30.heap.size]? = some (.cells #[.string p, .string q] 9 (0, 0)) := heap_alloc_last _ _
            have hs26V31 : (V30.alloc (.cells #[.string p, .string q] 9 (0, 0))).heap[gV30]? = some (.cells #[.string t] 9 (0, 0)) := blk_alloc hs26V30 _
            refine hK.out _ _ hkV31 (fun hHeld => ?_)
            clear hK K
            generalize V30.alloc (.cells #[.string p, .string q] 9 (0, 0)) = V31 at hBV31 hkV31 hs23V31 hs26V31 hHeld ⊢
            generalize V30.heap.size = gV31 at hs23V31 ⊢
            refine norm_ (a' := ?_) ?_ ?_
            rotate_left
            · show Act.put _ (some 55) _ = _
              simp only [Act.put, List.setIfInBounds_toArray, List.set_cons_zero, List.set_cons_succ, i64_w, i32_w]
              rfl
            refine one_ (i := 24) (N := (some 56)) #[true, true, true, true, true, true, true, true, true, true, true, true, true, true, true, true, true, true, true, true, true, true, true, true, true, true, true, false, false, false, false, false, false, false, false, false, false, false, false, false, false, false, false, false, false, false, false] rfl rfl (one_of HT_.out (by kernel_rfl)) (by decide) (fun K hK => ?_)
            refine goes_ Try.func47 (by kernel_rfl) rfl #[.slice (some ⟨gV31, 0, none⟩) 2 2] (by rfl) rfl rfl (by (try simp only [List.map_toArray, List.map_cons, List.map_nil]); first | done | rfl) ?_
            refine (sum2p_at p q t hpq.out ht9 V31 gV31 hs23V31).mono ?_
            rintro e V32 ⟨rfl, hcV32⟩
            have hBV32 : Below w.heap.size w V32 := below_then hBV31 hBV31.size hcV32
            have hkV32 : V32.heap[gk]? = some (blk8 key 61) := blk_below hkV31 hcV32
            have hs26V32 : V32.heap[gV30]? = some (.cells #[.string t] 9 (0, 0)) := blk_below hs26V31 hcV32
            have hs23V32 : V32.heap[gV31]? = some (.cells #[.string p, .string q] 9 (0, 0)) := blk_below hs23V31 hcV32
            refine ⟨_, rfl, ?_⟩
            refine hK.out _ _ hkV32 (fun hHeld => ?_)
            clear hK K hcV32
            refine norm_ (a' := ?_) ?_ ?_
            rotate_left
            · show Act.put _ (some 56) _ = _
              simp only [Act.put, List.setIfInBounds_toArray, List.set_cons_zero, List.set_cons_succ, i64_w, i32_w]
              rfl
            refine one_ (i := 27) (N := (some 59)) #[true, true, true, true, true, true, true, true, true, true, true, true, true, true, true, true, true, true, true, true, true, true, true, true, true, true, true, true, false, false, false, false, false, false, false, false, false, false, false, false, false, false, false, false, false, false, false] rfl rfl (one_of HT_.out (by kernel_rfl)) (by decide) (fun K hK => ?_)
            refine goes_ Try.func47 (by kernel_rfl) rfl #[.slice (some ⟨gV30, 0, none⟩) 1 1] (by rfl) rfl rfl (by (try simp only [List.map_toArray, List.map_cons, List.map_nil]); first | done | rfl) ?_
            refine (sum2_at t ht9 V32 gV30 hs26V32).mono ?_
            rintro e V33 ⟨rfl, hcV33⟩
            have hBV33 : Below w.heap.size w V33 := below_then hBV32 hBV32.size hcV33
            have hkV33 : V33.heap[gk]? = some (blk8 key 61) := blk_below hkV32 hcV33
            have hs26V33 : V33.heap[gV30]? = some (.cells #[.string t] 9 (0, 0)) := blk_below hs26V32 hcV33
            have hs23V33 : V33.heap[gV31]? = some (.cells #[.string p, .string q] 9 (0, 0)) := blk_below hs23V32 hcV33
            refine ⟨_, rfl, ?_⟩
            refine hK.out _ _ hkV33 (fun hHeld => ?_)
            clear hK K hcV33
            refine norm_ (a' := ?_) ?_ ?_
            rotate_left
            · show Act.put _ (some 59) _ = _
              simp only [Act.put, List.setIfInBounds_toArray, List.set_cons_zero, List.set_cons_succ, i64_w, i32_w]
              rfl
            refine pure_ (i := 28) (N := (some 60)) (v := ?_) (a' := ?_) #[true, true, true, true, true, true, true, true, true, true, true, true, true, true, true, true, true, true, true, true, true, true, true, true, true, true, true, true, true, false, false, false, false, false, false, false, false, false, false, false, false, false, false, false, false, false, false] rfl rfl (any_of HT_.out (by kernel_rfl)) (fun _ _ _ h => h) (Or.inl ⟨by rfl, ?_⟩) ?_ ?_
            rotate_left
            · intro w'
              go_simp
              with_reducible rfl
            rotate_left
            · simp only [Act.put, List.setIfInBounds_toArray, List.set_cons_zero, List.set_cons_succ, i64_w, i32_w]
              rfl
            refine pure_ (i := 29) (N := (some 61)) (v := ?_) (a' := ?_) #[true, true, true, true, true, true, true, true, true, true, true, true, true, true, true, true, true, true, true, true, true, true, true, true, true, true, true, true, true, true, false, false, false, false, false, false, false, false, false, false, false, false, false, false, false, false, false] rfl rfl (any_of HT_.out (by kernel_rfl)) (fun _ _ _ h => h) (Or.inl ⟨by rfl, ?_⟩) ?_ ?_
            rotate_left
            · intro w'
              go_simp
              with_reducible rfl
            rotate_left
            · simp only [Act.put, List.setIfInBounds_toArray, List.set_cons_zero, List.set_cons_succ, i64_w, i32_w]
              rfl
            refine pure_ (i := 30) (N := (some 62)) (v := ?_) (a' := ?_) #[true, true, true, true, true, true, true, true, true, true, true, true, true, true, true, true, true, true, true, true, true, true, true, true, true, true, true, true, true, true, true, false, false, false, false, false, false, false, false, false, false, false, false, false, false, false, false] rfl rfl (any_of HT_.out (by kernel_rfl)) (fun _ _ _ h => h) (Or.inl ⟨by rfl, ?_⟩) ?_ ?_
            rotate_left
            · intro w'
              go_simp
              with_reducible rfl
            rotate_left
            · simp only [Act.put, List.setIfInBounds_toArray, List.set_cons_zero, List.set_cons_succ, i64_w, i32_w]
              rfl
            refine pure_ (i := 32) (N := (some 64)) (v := ?_) (a' := ?_) #[true, true, true, true, true, true, true, true, true, true, true, true, true, true, true, true, true, true, true, true, true, true, true, true, true, true, true, true, true, true, true, false, true, false, false, false, false, false, false, false, false, false, false, false, false, false, false] rfl rfl (any_of HT_.out (by kernel_rfl)) (fun _ _ _ h => h) (Or.inl ⟨by rfl, ?_⟩) ?_ ?_
            rotate_left
            · intro w'
              go_simp
              with_reducible rfl
            rotate_left
            · simp only [Act.put, List.setIfInBounds_toArray, List.set_cons_zero, List.set_cons_succ, i64_w, i32_w]
              rfl
            refine pure_ (i := 33) (N := (some 65)) (v := ?_) (a' := ?_) #[true, true, true, true, true, true, true, true, true, true, true, true, true, true, true, true, true, true, true, true, true, true, true, true, true, true, true, true, true, true, true, false, true, true, false, false, false, false, false, false, false, false, false, false, false, false, false] rfl rfl (any_of HT_.out (by kernel_rfl)) (fun _ _ _ h => h) (Or.inl ⟨by rfl, ?_⟩) ?_ ?_
            rotate_left
            · intro w'
              go_simp
              with_reducible rfl
            rotate_left
            · simp only [Act.put, List.setIfInBounds_toArray, List.set_cons_zero, List.set_cons_succ, i64_w, i32_w]
              rfl
            refine pure_ (i := 34) (N := (some 66)) (v := ?_) (a' := ?_) #[true, true, true, true, true, true, true, true, true, true, true, true, true, true, true, true, true, true, true, true, true, true, true, true, true, true, true, true, true, true, true, false, true, true, true, false, false, false, false, false, false, false, false, false, false, false, false] rfl rfl (any_of HT_.out (by kernel_rfl)) (fun _ _ _ h => h) (Or.inl ⟨by rfl, ?_⟩) ?_ ?_
            rotate_left
            · intro w'
              go_simp
              with_reducible rfl
            rotate_left
            · simp only [Act.put, List.setIfInBounds_toArray, List.set_cons_zero, List.set_cons_succ, i64_w, i32_w]
              rfl
            refine pure_ (i := 35) (N := (some 67)) (v := ?_) (a' := ?_) #[true, true, true, true, true, true, true, true, true, true, true, true, true, true, true, true, true, true, true, true, true, true, true, true, true, true, true, true, true, true, true, false, true, true, true, true, false, false, false, false, false, false, false, false, false, false, false] rfl rfl (any_of HT_.out (by kernel_rfl)) (fun _ _ _ h => h) (Or.inl ⟨by rfl, ?_⟩) ?_ ?_
            rotate_left
            · intro w'
              go_simp
              with_reducible rfl
            rotate_left
            · simp only [Act.put, List.setIfInBounds_toArray, List.set_cons_zero, List.set_cons_succ, i64_w, i32_w]
              rfl
            refine pure_ (i := 36) (N := (some 68)) (v := ?_) (a' := ?_) #[true, true, true, true, true, true, true, true, true, true, true, true, true, true, true, true, true, true, true, true, true, true, true, true, true, true, true, true, true, true, true, false, true, true, true, true, true, false, false, false, false, false, false, false, false, false, false] rfl rfl (any_of HT_.out (by kernel_rfl)) (fun _ _ _ h => h) (Or.inl ⟨by rfl, ?_⟩) ?_ ?_
            rotate_left
            · intro w'
              go_simp
              with_reducible rfl
            rotate_left
            · simp only [Act.put, List.setIfInBounds_toArray, List.set_cons_zero, List.set_cons_succ, i64_w, i32_w]
              rfl
            refine pure_ (i := 37) (N := (some 69)) (v := ?_) (a' := ?_) #[true, true, true, true, true, true, true, true, true, true, true, true, true, true, true, true, true, true, true, true, true, true, true, true, true, true, true, true, true, true, true, false, true, true, true, true, true, true, false, false, false, false, false, false, false, false, false] rfl rfl (any_of HT_.out (by kernel_rfl)) (fun _ _ _ h => h) (Or.inl ⟨by rfl, ?_⟩) ?_ ?_
            rotate_left
            · intro w'
              go_simp
              with_reducible rfl
            rotate_left
            · simp only [Act.put, List.setIfInBounds_toArray, List.set_cons_zero, List.set_cons_succ, i64_w, i32_w]
              rfl
            refine pure_ (i := 41) (N := (some 73)) (v := ?_) (a' := ?_) #[true, true, true, true, true, true, true, true, true, true, true, true, true, true, true, true, true, true, true, true, true, true, true, true, true, true, true, true, true, true, true, false, true, true, true, true, true, true, false, false, false, true, false, false, false, false, false] rfl rfl (any_of HT_.out (by kernel_rfl)) (fun _ _ _ h => h) (Or.inl ⟨by rfl, ?_⟩) ?_ ?_
            rotate_left
            · intro w'
              go_simp
              with_reducible rfl
            rotate_left
            · simp only [Act.put, List.setIfInBounds_toArray, List.set_cons_zero, List.set_cons_succ, i64_w, i32_w]
              rfl
            refine take_ (i := 31) (N := (some 63)) (v := .agg (u8s key)) (a' := ?_) #[true, true, true, true, true, true, true, true, true, true, true, true, true, true, true, true, true, true, true, true, true, true, true, true, true, true, true, true, true, true, true, true, true, true, true, true, true, true, false, false, false, true, false, false, false, false, false] rfl rfl (take_ofW HT_.out HW_.out (by kernel_rfl)) (fun _ _ _ h => h) (Or.inl ⟨by rfl, fun w' s8 => exec_load rfl rfl (loadAt61 s8 hk)⟩) hHeld ?_ ?_
            rotate_left
            · simp only [Act.put, List.setIfInBounds_toArray, List.set_cons_zero, List.set_cons_succ, i64_w, i32_w]
              rfl
            refine take_ (i := 40) (N := (some 72)) (v := .agg (u8s key)) (a' := ?_) #[true, true, true, true, true, true, true, true, true, true, true, true, true, true, true, true, true, true, true, true, true, true, true, true, true, true, true, true, true, true, true, true, true, true, true, true, true, true, false, false, true, true, false, false, false, false, false] rfl rfl (take_ofW HT_.out HW_.out (by kernel_rfl)) (fun _ _ _ h => h) (Or.inl ⟨by rfl, fun w' s8 => exec_load rfl rfl (loadAt61 s8 hk)⟩) hHeld ?_ ?_
            rotate_left
            · simp only [Act.put, List.setIfInBounds_toArray, List.set_cons_zero, List.set_cons_succ, i64_w, i32_w]
              rfl
            refine two_ (i := 38) (j := 42) (Ni := (some 70)) (Nj := (some 74)) #[true, true, true, true, true, true, true, true, true, true, true, true, true, true, true, true, true, true, true, true, true, true, true, true, true, true, true, true, true, true, true, true, true, true, true, true, true, true, true, false, true, true, false, false, false, false, false] #[true, true, true, true, true, true, true, true, true, true, true, true, true, true, true, true, true, true, true, true, true, true, true, true, true, true, true, true, true, true, true, true, true, true, true, true, true, true, false, false, true, true, true, false, false, false, false] rfl rfl rfl rfl (two_of HT_.out (by kernel_rfl)) (by decide) (by decide) (fun K hK => ?_) (fun K hK => ?_)
            · refine value_ (w1 := V33.alloc (.cells #[.string p, .string ⟨#[]⟩, .string q] 9 (0, 0))) (v := .slice (some ⟨V33.heap.size, 0, none⟩) 3 3) (by rfl) rfl ?_ ?_
              · first | (go_simp; done) | (go_simp; rfl)
              have hBV34 : Below w.heap.size w (V33.alloc (.cells #[.string p, .string ⟨#[]⟩, .string q] 9 (0, 0))) := below_alloc hBV33 _
              have hkV34 : (V33.alloc (.cells #[.string p, .string ⟨#[]⟩, .string q] 9 (0, 0))).heap[gk]? = some (blk8 key 61) := blk_alloc hkV33 _
              have hs38V34 : (V33.alloc (.cells #[.string p, .string ⟨#[]⟩, .string q] 9 (0, 0))).heap[V33.heap.size]? = some (.cells #[.string p, .string ⟨#[]⟩, .string q] 9 (0, 0)) := heap_alloc_last _ _
              have hs26V34 : (V33.alloc (.cells #[.string p, .string ⟨#[]⟩, .string q] 9 (0, 0))).heap[gV30]? = some (.cells #[.string t] 9 (0, 0)) := blk_alloc hs26V33 _
              have hs23V34 : (V33.alloc (.cells #[.string p, .string ⟨#[]⟩, .string q] 9 (0, 0))).heap[gV31]? = some (.cells #[.string p, .string q] 9 (0, 0)) := blk_alloc hs23V33 _
              refine hK.out _ _ hkV34 (fun hHeld => ?_)
              clear hK K
              generalize V33.alloc (.cells #[.string p, .string ⟨#[]⟩, .string q] 9 (0, 0)) = V34 at hBV34 hkV34 hs38V34 hs26V34 hs23V34 hHeld ⊢
              generalize V33.heap.size = gV34 at hs38V34 ⊢
              refine norm_ (a' := ?_) ?_ ?_
              rotate_left
              · show Act.put _ (some 70) _ = _
                simp only [Act.put, List.setIfInBounds_toArray, List.set_cons_zero, List.set_cons_succ, i64_w, i32_w]
                rfl
              refine two_ (i := 39) (j := 42) (Ni := (some 71)) (Nj := (some 74)) #[true, true, true, true, true, true, true, true, true, true, true, true, true, true, true, true, true, true, true, true, true, true, true, true, true, true, true, true, true, true, true, true, true, true, true, true, true, true, true, true, true, true, false, false, false, false, false] #[true, true, true, true, true, true, true, true, true, true, true, true, true, true, true, true, true, true, true, true, true, true, true, true, true, true, true, true, true, true, true, true, true, true, true, true, true, true, true, false, true, true, true, false, false, false, false] rfl rfl rfl rfl (two_of HT_.out (by kernel_rfl)) (by decide) (by decide) (fun K hK => ?_) (fun K hK => ?_)
              · refine goes_ Try.func49 (by kernel_rfl) rfl #[.agg (u8s key), .slice (some ⟨gV34, 0, none⟩) 3 3] (by rfl) rfl rfl (by (try simp only [List.map_toArray, List.map_cons, List.map_nil]); first | done | rfl) ?_
                refine (key3_at key hk p q t hp3q.out ht9 V34 gV34 hs38V34).mono ?_
                rintro e V35 ⟨rfl, hcV35⟩
                have hBV35 : Below w.heap.size w V35 := below_then hBV34 hBV34.size hcV35
                have hkV35 : V35.heap[gk]? = some (blk8 key 61) := blk_below hkV34 hcV35
                have hs26V35 : V35.heap[gV30]? = some (.cells #[.string t] 9 (0, 0)) := blk_below hs26V34 hcV35
                have hs23V35 : V35.heap[gV31]? = some (.cells #[.string p, .string q] 9 (0, 0)) := blk_below hs23V34 hcV35
                have hs38V35 : V35.heap[gV34]? = some (.cells #[.string p, .string ⟨#[]⟩, .string q] 9 (0, 0)) := blk_below hs38V34 hcV35
                refine ⟨_, rfl, ?_⟩
                refine hK.out _ _ hkV35 (fun hHeld => ?_)
                clear hK K hcV35
                refine norm_ (a' := ?_) ?_ ?_
                rotate_left
                · show Act.put _ (some 71) _ = _
                  simp only [Act.put, List.setIfInBounds_toArray, List.set_cons_zero, List.set_cons_succ, i64_w, i32_w]
                  rfl
                refine one_ (i := 42) (N := (some 74)) #[true, true, true, true, true, true, true, true, true, true, true, true, true, true, true, true, true, true, true, true, true, true, true, true, true, true, true, true, true, true, true, true, true, true, true, true, true, true, true, true, true, true, true, false, false, false, false] rfl rfl (one_of HT_.out (by kernel_rfl)) (by decide) (fun K hK => ?_)
                refine value_ (w1 := V35.alloc (.cells #[.string t] 9 (0, 0))) (v := .slice (some ⟨V35.heap.size, 0, none⟩) 1 1) (by rfl) rfl ?_ ?_
                · first | (go_simp; done) | (go_simp; rfl)
                have hBV36 : Below w.heap.size w (V35.alloc (.cells #[.string t] 9 (0, 0))) := below_alloc hBV35 _
                have hkV36 : (V35.alloc (.cells #[.string t] 9 (0, 0))).heap[gk]? = some (blk8 key 61) := blk_alloc hkV35 _
                have hs42V36 : (V35.alloc (.cells #[.string t] 9 (0, 0))).heap[V35.heap.size]? = some (.cells #[.string t] 9 (0, 0)) := heap_alloc_last _ _
                have hs26V36 : (V35.alloc (.cells #[.string t] 9 (0, 0))).heap[gV30]? = some (.cells #[.string t] 9 (0, 0)) := blk_alloc hs26V35 _
                have hs23V36 : (V35.alloc (.cells #[.string t] 9 (0, 0))).heap[gV31]? = some (.cells #[.string p, .string q] 9 (0, 0)) := blk_alloc hs23V35 _
                have hs38V36 : (V35.alloc (.cells #[.string t] 9 (0, 0))).heap[gV34]? = some (.cells #[.string p, .string ⟨#[]⟩, .string q] 9 (0, 0)) := blk_alloc hs38V35 _
                refine hK.out _ _ hkV36 (fun hHeld => ?_)
                clear hK K
                generalize V35.alloc (.cells #[.string t] 9 (0, 0)) = V36 at hBV36 hkV36 hs42V36 hs26V36 hs23V36 hs38V36 hHeld ⊢
                generalize V35.heap.size = gV36 at hs42V36 ⊢
                refine norm_ (a' := ?_) ?_ ?_
                rotate_left
                · show Act.put _ (some 74) _ = _
                  simp only [Act.put, List.setIfInBounds_toArray, List.set_cons_zero, List.set_cons_succ, i64_w, i32_w]
                  rfl
                refine one_ (i := 43) (N := (some 75)) #[true, true, true, true, true, true, true, true, true, true, true, true, true, true, true, true, true, true, true, true, true, true, true, true, true, true, true, true, true, true, true, true, true, true, true, true, true, true, true, true, true, true, true, true, false, false, false] rfl rfl (one_of HT_.out (by kernel_rfl)) (by decide) (fun K hK => ?_)
                refine goes_ Try.func49 (by kernel_rfl) rfl #[.agg (u8s key), .slice (some ⟨gV36, 0, none⟩) 1 1] (by rfl) rfl rfl (by (try simp only [List.map_toArray, List.map_cons, List.map_nil]); first | done | rfl) ?_
                refine (key1_at key hk t ht9 V36 gV36 hs42V36).mono ?_
                rintro e V37 ⟨rfl, hcV37⟩
                have hBV37 : Below w.heap.size w V37 := below_then hBV36 hBV36.size hcV37
                have hkV37 : V37.heap[gk]? = some (blk8 key 61) := blk_below hkV36 hcV37
                have hs26V37 : V37.heap[gV30]? = some (.cells #[.string t] 9 (0, 0)) := blk_below hs26V36 hcV37
                have hs23V37 : V37.heap[gV31]? = some (.cells #[.string p, .string q] 9 (0, 0)) := blk_below hs23V36 hcV37
                have hs38V37 : V37.heap[gV34]? = some (.cells #[.string p, .string ⟨#[]⟩, .string q] 9 (0, 0)) := blk_below hs38V36 hcV37
                have hs42V37 : V37.heap[gV36]? = some (.cells #[.string t] 9 (0, 0)) := blk_below hs42V36 hcV37
                refine ⟨_, rfl, ?_⟩
                refine hK.out _ _ hkV37 (fun hHeld => ?_)
                clear hK K hcV37
                refine norm_ (a' := ?_) ?_ ?_
                rotate_left
                · show Act.put _ (some 75) _ = _
                  simp only [Act.put, List.setIfInBounds_toArray, List.set_cons_zero, List.set_cons_succ, i64_w, i32_w]
                  rfl
                refine pure_ (i := 44) (N := (some 76)) (v := ?_) (a' := ?_) #[true, true, true, true, true, true, true, true, true, true, true, true, true, true, true, true, true, true, true, true, true, true, true, true, true, true, true, true, true, true, true, true, true, true, true, true, true, true, true, true, true, true, true, true, true, false, false] rfl rfl (any_of HT_.out (by kernel_rfl)) (fun _ _ _ h => h) (Or.inl ⟨by rfl, ?_⟩) ?_ ?_
                rotate_left
                · intro w'
                  go_simp
                  with_reducible rfl
                rotate_left
                · simp only [Act.put, List.setIfInBounds_toArray, List.set_cons_zero, List.set_cons_succ, i64_w, i32_w]
                  rfl
                refine pure_ (i := 45) (N := (some 77)) (v := ?_) (a' := ?_) #[true, true, true, true, true, true, true, true, true, true, true, true, true, true, true, true, true, true, true, true, true, true, true, true, true, true, true, true, true, true, true, true, true, true, true, true, true, true, true, true, true, true, true, true, true, true, false] rfl rfl (any_of HT_.out (by kernel_rfl)) (fun _ _ _ h => h) (Or.inl ⟨by rfl, ?_⟩) ?_ ?_
                rotate_left
                · intro w'
                  go_simp
                  with_reducible rfl
                rotate_left
                · simp only [Act.put, List.setIfInBounds_toArray, List.set_cons_zero, List.set_cons_succ, i64_w, i32_w]
                  rfl
                refine pure_ (i := 46) (N := (some 6)) (v := ?_) (a' := ?_) #[true, true, true, true, true, true, true, true, true, true, true, true, true, true, true, true, true, true, true, true, true, true, true, true, true, true, true, true, true, true, true, true, true, true, true, true, true, true, true, true, true, true, true, true, true, true, true] rfl rfl (any_of HT_.out (by kernel_rfl)) (fun _ _ _ h => h) (Or.inl ⟨by rfl, ?_⟩) ?_ ?_
                rotate_left
                · intro w'
                  go_simp
                  with_reducible rfl
                rotate_left
                · simp only [Act.put, List.setIfInBounds_toArray, List.set_cons_zero, List.set_cons_succ, i64_w, i32_w]
                  rfl
                refine done_ (done_of HT_.out (by kernel_rfl)) ?_
                change KK _ _
                refine hKK.out _ _ ?_
                go_wp2_with fail
                go_ret
                exact ⟨by simp, hBV37⟩
              · refine value_ (w1 := V34.alloc (.cells #[.string t] 9 (0, 0))) (v := .slice (some ⟨V34.heap.size, 0, none⟩) 1 1) (by rfl) rfl ?_ ?_
                · first | (go_simp; done) | (go_simp; rfl)
                have hBV38 : Below w.heap.size w (V34.alloc (.cells #[.string t] 9 (0, 0))) := below_alloc hBV34 _
                have hkV38 : (V34.alloc (.cells #[.string t] 9 (0, 0))).heap[gk]? = some (blk8 key 61) := blk_alloc hkV34 _
                have hs42V38 : (V34.alloc (.cells #[.string t] 9 (0, 0))).heap[V34.heap.size]? = some (.cells #[.string t] 9 (0, 0)) := heap_alloc_last _ _
                have hs26V38 : (V34.alloc (.cells #[.string t] 9 (0, 0))).heap[gV30]? = some (.cells #[.string t] 9 (0, 0)) := blk_alloc hs26V34 _
                have hs23V38 : (V34.alloc (.cells #[.string t] 9 (0, 0))).heap[gV31]? = some (.cells #[.string p, .string q] 9 (0, 0)) := blk_alloc hs23V34 _
                have hs38V38 : (V34.alloc (.cells #[.string t] 9 (0, 0))).heap[gV34]? = some (.cells #[.string p, .string ⟨#[]⟩, .string q] 9 (0, 0)) := blk_alloc hs38V34 _
                refine hK.out _ _ hkV38 (fun hHeld => ?_)
                clear hK K
                generalize V34.alloc (.cells #[.string t] 9 (0, 0)) = V38 at hBV38 hkV38 hs42V38 hs26V38 hs23V38 hs38V38 hHeld ⊢
                generalize V34.heap.size = gV38 at hs42V38 ⊢
                refine norm_ (a' := ?_) ?_ ?_
                rotate_left
                · show Act.put _ (some 74) _ = _
                  simp only [Act.put, List.setIfInBounds_toArray, List.set_cons_zero, List.set_cons_succ, i64_w, i32_w]
                  rfl
                refine one_ (i := 39) (N := (some 71)) #[true, true, true, true, true, true, true, true, true, true, true, true, true, true, true, true, true, true, true, true, true, true, true, true, true, true, true, true, true, true, true, true, true, true, true, true, true, true, true, true, true, true, true, false, false, false, false] rfl rfl (one_of HT_.out (by kernel_rfl)) (by decide) (fun K hK => ?_)
                refine goes_ Try.func49 (by kernel_rfl) rfl #[.agg (u8s key), .slice (some ⟨gV34, 0, none⟩) 3 3] (by rfl) rfl rfl (by (try simp only [List.map_toArray, List.map_cons, List.map_nil]); first | done | rfl) ?_
                refine (key3_at key hk p q t hp3q.out ht9 V38 gV34 hs38V38).mono ?_
                rintro e V39 ⟨rfl, hcV39⟩
                have hBV39 : Below w.heap.size w V39 := below_then hBV38 hBV38.size hcV39
                have hkV39 : V39.heap[gk]? = some (blk8 key 61) := blk_below hkV38 hcV39
                have hs26V39 : V39.heap[gV30]? = some (.cells #[.string t] 9 (0, 0)) := blk_below hs26V38 hcV39
                have hs23V39 : V39.heap[gV31]? = some (.cells #[.string p, .string q] 9 (0, 0)) := blk_below hs23V38 hcV39
                have hs38V39 : V39.heap[gV34]? = some (.cells #[.string p, .string ⟨#[]⟩, .string q] 9 (0, 0)) := blk_below hs38V38 hcV39
                have hs42V39 : V39.heap[gV38]? = some (.cells #[.string t] 9 (0, 0)) := blk_below hs42V38 hcV39
                refine ⟨_, rfl, ?_⟩
                refine hK.out _ _ hkV39 (fun hHeld => ?_)
                clear hK K hcV39
                refine norm_ (a' := ?_) ?_ ?_
                rotate_left
                · show Act.put _ (some 71) _ = _
                  simp only [Act.put, List.setIfInBounds_toArray, List.set_cons_zero, List.set_cons_succ, i64_w, i32_w]
                  rfl
                refine one_ (i := 43) (N := (some 75)) #[true, true, true, true, true, true, true, true, true, true, true, true, true, true, true, true, true, true, true, true, true, true, true, true, true, true, true, true, true, true, true, true, true, true, true, true, true, true, true, true, true, true, true, true, false, false, false] rfl rfl (one_of HT_.out (by kernel_rfl)) (by decide) (fun K hK => ?_)
                refine goes_ Try.func49 (by kernel_rfl) rfl #[.agg (u8s key), .slice (some ⟨gV38, 0, none⟩) 1 1] (by rfl) rfl rfl (by (try simp only [List.map_toArray, List.map_cons, List.map_nil]); first | done | rfl) ?_
                refine (key1_at key hk t ht9 V39 gV38 hs42V39).mono ?_
                rintro e V40 ⟨rfl, hcV40⟩
                have hBV40 : Below w.heap.size w V40 := below_then hBV39 hBV39.size hcV40
                have hkV40 : V40.heap[gk]? = some (blk8 key 61) := blk_below hkV39 hcV40
                have hs26V40 : V40.heap[gV30]? = some (.cells #[.string t] 9 (0, 0)) := blk_below hs26V39 hcV40
                have hs23V40 : V40.heap[gV31]? = some (.cells #[.string p, .string q] 9 (0, 0)) := blk_below hs23V39 hcV40
                have hs38V40 : V40.heap[gV34]? = some (.cells #[.string p, .string ⟨#[]⟩, .string q] 9 (0, 0)) := blk_below hs38V39 hcV40
                have hs42V40 : V40.heap[gV38]? = some (.cells #[.string t] 9 (0, 0)) := blk_below hs42V39 hcV40
                refine ⟨_, rfl, ?_⟩
                refine hK.out _ _ hkV40 (fun hHeld => ?_)
                clear hK K hcV40
                refine norm_ (a' := ?_) ?_ ?_
                rotate_left
                · show Act.put _ (some 75) _ = _
                  simp only [Act.put, List.setIfInBounds_toArray, List.set_cons_zero, List.set_cons_succ, i64_w, i32_w]
                  rfl
                refine pure_ (i := 44) (N := (some 76)) (v := ?_) (a' := ?_) #[true, true, true, true, true, true, true, true, true, true, true, true, true, true, true, true, true, true, true, true, true, true, true, true, true, true, true, true, true, true, true, true, true, true, true, true, true, true, true, true, true, true, true, true, true, false, false] rfl rfl (any_of HT_.out (by kernel_rfl)) (fun _ _ _ h => h) (Or.inl ⟨by rfl, ?_⟩) ?_ ?_
                rotate_left
                · intro w'
                  go_simp
                  with_reducible rfl
                rotate_left
                · simp only [Act.put, List.setIfInBounds_toArray, List.set_cons_zero, List.set_cons_succ, i64_w, i32_w]
                  rfl
                refine pure_ (i := 45) (N := (some 77)) (v := ?_) (a' := ?_) #[true, true, true, true, true, true, true, true, true, true, true, true, true, true, true, true, true, true, true, true, true, true, true, true, true, true, true, true, true, true, true, true, true, true, true, true, true, true, true, true, true, true, true, true, true, true, false] rfl rfl (any_of HT_.out (by kernel_rfl)) (fun _ _ _ h => h) (Or.inl ⟨by rfl, ?_⟩) ?_ ?_
                rotate_left
                · intro w'
                  go_simp
                  with_reducible rfl
                rotate_left
                · simp only [Act.put, List.setIfInBounds_toArray, List.set_cons_zero, List.set_cons_succ, i64_w, i32_w]
                  rfl
                refine pure_ (i := 46) (N := (some 6)) (v := ?_) (a' := ?_) #[true, true, true, true, true, true, true, true, true, true, true, true, true, true, true, true, true, true, true, true, true, true, true, true, true, true, true, true, true, true, true, true, true, true, true, true, true, true, true, true, true, true, true, true, true, true, true] rfl rfl (any_of HT_.out (by kernel_rfl)) (fun _ _ _ h => h) (Or.inl ⟨by rfl, ?_⟩) ?_ ?_
                rotate_left
                · intro w'
                  go_simp
                  with_reducible rfl
                rotate_left
                · simp only [Act.put, List.setIfInBounds_toArray, List.set_cons_zero, List.set_cons_succ, i64_w, i32_w]
                  rfl
                refine done_ (done_of HT_.out (by kernel_rfl)) ?_
                change KK _ _
                refine hKK.out _ _ ?_
                go_wp2_with fail
                go_ret
                exact ⟨by simp, hBV40⟩
            · refine value_ (w1 := V33.alloc (.cells #[.string t] 9 (0, 0))) (v := .slice (some ⟨V33.heap.size, 0, none⟩) 1 1) (by rfl) rfl ?_ ?_
              · first | (go_simp; done) | (go_simp; rfl)
              have hBV41 : Below w.heap.size w (V33.alloc (.cells #[.string t] 9 (0, 0))) := below_alloc hBV33 _
              have hkV41 : (V33.alloc (.cells #[.string t] 9 (0, 0))).heap[gk]? = some (blk8 key 61) := blk_alloc hkV33 _
              have hs42V41 : (V33.alloc (.cells #[.string t] 9 (0, 0))).heap[V33.heap.size]? = some (.cells #[.string t] 9 (0, 0)) := heap_alloc_last _ _
              have hs26V41 : (V33.alloc (.cells #[.string t] 9 (0, 0))).heap[gV30]? = some (.cells #[.string t] 9 (0, 0)) := blk_alloc hs26V33 _
              have hs23V41 : (V33.alloc (.cells #[.string t] 9 (0, 0))).heap[gV31]? = some (.cells #[.string p, .string q] 9 (0, 0)) := blk_alloc hs23V33 _
              refine hK.out _ _ hkV41 (fun hHeld => ?_)
              clear hK K
              generalize V33.alloc (.cells #[.string t] 9 (0, 0)) = V41 at hBV41 hkV41 hs42V41 hs26V41 hs23V41 hHeld ⊢
              generalize V33.heap.size = gV41 at hs42V41 ⊢
              refine norm_ (a' := ?_) ?_ ?_
              rotate_left
              · show Act.put _ (some 74) _ = _
                simp only [Act.put, List.setIfInBounds_toArray, List.set_cons_zero, List.set_cons_succ, i64_w, i32_w]
                rfl
              refine one_ (i := 38) (N := (some 70)) #[true, true, true, true, true, true, true, true, true, true, true, true, true, true, true, true, true, true, true, true, true, true, true, true, true, true, true, true, true, true, true, true, true, true, true, true, true, true, true, false, true, true, true, false, false, false, false] rfl rfl (one_of HT_.out (by kernel_rfl)) (by decide) (fun K hK => ?_)
              refine value_ (w1 := V41.alloc (.cells #[.string p, .string ⟨#[]⟩, .string q] 9 (0, 0))) (v := .slice (some ⟨V41.heap.size, 0, none⟩) 3 3) (by rfl) rfl ?_ ?_
              · first | (go_simp; done) | (go_simp; rfl)
              have hBV42 : Below w.heap.size w (V41.alloc (.cells #[.string p, .string ⟨#[]⟩, .string q] 9 (0, 0))) := below_alloc hBV41 _
              have hkV42 : (V41.alloc (.cells #[.string p, .string ⟨#[]⟩, .string q] 9 (0, 0))).heap[gk]? = some (blk8 key 61) := blk_alloc hkV41 _
              have hs38V42 : (V41.alloc (.cells #[.string p, .string ⟨#[]⟩, .string q] 9 (0, 0))).heap[V41.heap.size]? = some (.cells #[.string p, .string ⟨#[]⟩, .string q] 9 (0, 0)) := heap_alloc_last _ _
              have hs26V42 : (V41.alloc (.cells #[.string p, .string ⟨#[]⟩, .string q] 9 (0, 0))).heap[gV30]? = some (.cells #[.string t] 9 (0, 0)) := blk_alloc hs26V41 _
              have hs23V42 : (V41.alloc (.cells #[.string p, .string ⟨#[]⟩, .string q] 9 (0, 0))).heap[gV31]? = some (.cells #[.string p, .string q] 9 (0, 0)) := blk_alloc hs23V41 _
              have hs42V42 : (V41.alloc (.cells #[.string p, .string ⟨#[]⟩, .string q] 9 (0, 0))).heap[gV41]? = some (.cells #[.string t] 9 (0, 0)) := blk_alloc hs42V41 _
              refine hK.out _ _ hkV42 (fun hHeld => ?_)
              clear hK K
              generalize V41.alloc (.cells #[.string p, .string ⟨#[]⟩, .string q] 9 (0, 0)) = V42 at hBV42 hkV42 hs38V42 hs26V42 hs23V42 hs42V42 hHeld ⊢
              generalize V41.heap.size = gV42 at hs38V42 ⊢
              refine norm_ (a' := ?_) ?_ ?_
              rotate_left
              · show Act.put _ (some 70) _ = _
                simp only [Act.put, List.setIfInBounds_toArray, List.set_cons_zero, List.set_cons_succ, i64_w, i32_w]
                rfl
              refine one_ (i := 39) (N := (some 71)) #[true, true, true, true, true, true, true, true, true, true, true, true, true, true, true, true, true, true, true, true, true, true, true, true, true, true, true, true, true, true, true, true, true, true, true, true, true, true, true, true, true, true, true, false, false, false, false] rfl rfl (one_of HT_.out (by kernel_rfl)) (by decide) (fun K hK => ?_)
              refine goes_ Try.func49 (by kernel_rfl) rfl #[.agg (u8s key), .slice (some ⟨gV42, 0, none⟩) 3 3] (by rfl) rfl rfl (by (try simp only [List.map_toArray, List.map_cons, List.map_nil]); first | done | rfl) ?_
              refine (key3_at key hk p q t hp3q.out ht9 V42 gV42 hs38V42).mono ?_
              rintro e V43 ⟨rfl, hcV43⟩
              have hBV43 : Below w.heap.size w V43 := below_then hBV42 hBV42.size hcV43
              have hkV43 : V43.heap[gk]? = some (blk8 key 61) := blk_below hkV42 hcV43
              have hs26V43 : V43.heap[gV30]? = some (.cells #[.string t] 9 (0, 0)) := blk_below hs26V42 hcV43
              have hs23V43 : V43.heap[gV31]? = some (.cells #[.string p, .string q] 9 (0, 0)) := blk_below hs23V42 hcV43
              have hs42V43 : V43.heap[gV41]? = some (.cells #[.string t] 9 (0, 0)) := blk_below hs42V42 hcV43
              have hs38V43 : V43.heap[gV42]? = some (.cells #[.string p, .string ⟨#[]⟩, .string q] 9 (0, 0)) := blk_below hs38V42 hcV43
              refine ⟨_, rfl, ?_⟩
              refine hK.out _ _ hkV43 (fun hHeld => ?_)
              clear hK K hcV43
              refine norm_ (a' := ?_) ?_ ?_
              rotate_left
              · show Act.put _ (some 71) _ = _
                simp only [Act.put, List.setIfInBounds_toArray, List.set_cons_zero, List.set_cons_succ, i64_w, i32_w]
                rfl
              refine one_ (i := 43) (N := (some 75)) #[true, true, true, true, true, true, true, true, true, true, true, true, true, true, true, true, true, true, true, true, true, true, true, true, true, true, true, true, true, true, true, true, true, true, true, true, true, true, true, true, true, true, true, true, false, false, false] rfl rfl (one_of HT_.out (by kernel_rfl)) (by decide) (fun K hK => ?_)
              refine goes_ Try.func49 (by kernel_rfl) rfl #[.agg (u8s key), .slice (some ⟨gV41, 0, none⟩) 1 1] (by rfl) rfl rfl (by (try simp only [List.map_toArray, List.map_cons, List.map_nil]); first | done | rfl) ?_
              refine (key1_at key hk t ht9 V43 gV41 hs42V43).mono ?_
              rintro e V44 ⟨rfl, hcV44⟩
              have hBV44 : Below w.heap.size w V44 := below_then hBV43 hBV43.size hcV44
              have hkV44 : V44.heap[gk]? = some (blk8 key 61) := blk_below hkV43 hcV44
              have hs26V44 : V44.heap[gV30]? = some (.cells #[.string t] 9 (0, 0)) := blk_below hs26V43 hcV44
              have hs23V44 : V44.heap[gV31]? = some (.cells #[.string p, .string q] 9 (0, 0)) := blk_below hs23V43 hcV44
              have hs42V44 : V44.heap[gV41]? = some (.cells #[.string t] 9 (0, 0)) := blk_below hs42V43 hcV44
              have hs38V44 : V44.heap[gV42]? = some (.cells #[.string p, .string ⟨#[]⟩, .string q] 9 (0, 0)) := blk_below hs38V43 hcV44
              refine ⟨_, rfl, ?_⟩
              refine hK.out _ _ hkV44 (fun hHeld => ?_)
              clear hK K hcV44
              refine norm_ (a' := ?_) ?_ ?_
              rotate_left
              · show Act.put _ (some 75) _ = _
                simp only [Act.put, List.setIfInBounds_toArray, List.set_cons_zero, List.set_cons_succ, i64_w, i32_w]
                rfl
              refine pure_ (i := 44) (N := (some 76)) (v := ?_) (a' := ?_) #[true, true, true, true, true, true, true, true, true, true, true, true, true, true, true, true, true, true, true, true, true, true, true, true, true, true, true, true, true, true, true, true, true, true, true, true, true, true, true, true, true, true, true, true, true, false, false] rfl rfl (any_of HT_.out (by kernel_rfl)) (fun _ _ _ h => h) (Or.inl ⟨by rfl, ?_⟩) ?_ ?_
              rotate_left
              · intro w'
                go_simp
                with_reducible rfl
              rotate_left
              · simp only [Act.put, List.setIfInBounds_toArray, List.set_cons_zero, List.set_cons_succ, i64_w, i32_w]
                rfl
              refine pure_ (i := 45) (N := (some 77)) (v := ?_) (a' := ?_) #[true, true, true, true, true, true, true, true, true, true, true, true, true, true, true, true, true, true, true, true, true, true, true, true, true, true, true, true, true, true, true, true, true, true, true, true, true, true, true, true, true, true, true, true, true, true, false] rfl rfl (any_of HT_.out (by kernel_rfl)) (fun _ _ _ h => h) (Or.inl ⟨by rfl, ?_⟩) ?_ ?_
              rotate_left
              · intro w'
                go_simp
                with_reducible rfl
              rotate_left
              · simp only [Act.put, List.setIfInBounds_toArray, List.set_cons_zero, List.set_cons_succ, i64_w, i32_w]
                rfl
              refine pure_ (i := 46) (N := (some 6)) (v := ?_) (a' := ?_) #[true, true, true, true, true, true, true, true, true, true, true, true, true, true, true, true, true, true, true, true, true, true, true, true, true, true, true, true, true, true, true, true, true, true, true, true, true, true, true, true, true, true, true, true, true, true, true] rfl rfl (any_of HT_.out (by kernel_rfl)) (fun _ _ _ h => h) (Or.inl ⟨by rfl, ?_⟩) ?_ ?_
              rotate_left
              · intro w'
                go_simp
                with_reducible rfl
              rotate_left
              · simp only [Act.put, List.setIfInBounds_toArray, List.set_cons_zero, List.set_cons_succ, i64_w, i32_w]
                rfl
              refine done_ (done_of HT_.out (by kernel_rfl)) ?_
              change KK _ _
              refine hKK.out _ _ ?_
              go_wp2_with fail
              go_ret
              exact ⟨by simp, hBV44⟩
        intro hcut
        refine pure_ (i := 0) (N := (some 32)) (v := ?_) (a' := ?_) #[true, false, false, false, false, false, false, false, false, false, false, false, false, false, false, false, false, false, false, false, false, false, false, false, false, false, false, false, false, false, false, false, false, false, false, false, false, false, false, false, false, false, false, false, false, false, false] rfl rfl (any_of HT_.out (by kernel_rfl)) (fun _ _ _ h => h) (Or.inl ⟨by rfl, ?_⟩) ?_ ?_
        rotate_left
        · intro w'
          go_simp
          with_reducible rfl
        rotate_left
        · simp only [Act.put, List.setIfInBounds_toArray, List.set_cons_zero, List.set_cons_succ, i64_w, i32_w]
          rfl
        refine pure_ (i := 2) (N := (some 34)) (v := ?_) (a' := ?_) #[true, false, true, false, false, false, false, false, false, false, false, false, false, false, false, false, false, false, false, false, false, false, false, false, false, false, false, false, false, false, false, false, false, false, false, false, false, false, false, false, false, false, false, false, false, false, false] rfl rfl (any_of HT_.out (by kernel_rfl)) (fun _ _ _ h => h) (Or.inl ⟨by rfl, ?_⟩) ?_ ?_
        rotate_left
        · intro w'
          go_simp
          with_reducible rfl
        rotate_left
        · simp only [Act.put, List.setIfInBounds_toArray, List.set_cons_zero, List.set_cons_succ, i64_w, i32_w]
          rfl
        refine two_ (i := 1) (j := 3) (Ni := (some 33)) (Nj := (some 35)) #[true, true, true, false, false, false, false, false, false, false, false, false, false, false, false, false, false, false, false, false, false, false, false, false, false, false, false, false, false, false, false, false, false, false, false, false, false, false, false, false, false, false, false, false, false, false, false] #[true, false, true, true, false, false, false, false, false, false, false, false, false, false, false, false, false, false, false, false, false, false, false, false, false, false, false, false, false, false, false, false, false, false, false, false, false, false, false, false, false, false, false, false, false, false, false] rfl rfl rfl rfl (two_of HT_.out (by kernel_rfl)) (by decide) (by decide) (fun K hK => ?_) (fun K hK => ?_)
        · refine goes_ Try.func47 (by kernel_rfl) rfl #[.slice A0 l0.length c0] (by rfl) rfl rfl (by (try simp only [List.map_toArray, List.map_cons, List.map_nil]); first | done | rfl) ?_
          refine (sumP_at A0 c0 l0 t ht2.out hc0 hl31 hlj w W1 HR.out hB).mono ?_
          rintro e V45 ⟨rfl, hcV45⟩
          have hBV45 : Below w.heap.size w V45 := below_then hB hB.size hcV45
          have hkV45 : V45.heap[gk]? = some (blk8 key 61) := blk_below hkd hcV45
          refine ⟨_, rfl, ?_⟩
          refine hK.out _ _ hkV45 (fun hHeld => ?_)
          clear hK K hcV45
          refine norm_ (a' := ?_) ?_ ?_
          rotate_left
          · show Act.put _ (some 33) _ = _
            simp only [Act.put, List.setIfInBounds_toArray, List.set_cons_zero, List.set_cons_succ, i64_w, i32_w]
            rfl
          refine one_ (i := 3) (N := (some 35)) #[true, true, true, true, false, false, false, false, false, false, false, false, false, false, false, false, false, false, false, false, false, false, false, false, false, false, false, false, false, false, false, false, false, false, false, false, false, false, false, false, false, false, false, false, false, false, false] rfl rfl (one_of HT_.out (by kernel_rfl)) (by decide) (fun K hK => ?_)
          refine value_ (w1 := V45.alloc (.cells #[.string t] 9 (0, 0))) (v := .slice (some ⟨V45.heap.size, 0, none⟩) 1 1) (by rfl) rfl ?_ ?_
          · first | (go_simp; done) | (go_simp; rfl)
          have hBV46 : Below w.heap.size w (V45.alloc (.cells #[.string t] 9 (0, 0))) := below_alloc hBV45 _
          have hkV46 : (V45.alloc (.cells #[.string t] 9 (0, 0))).heap[gk]? = some (blk8 key 61) := blk_alloc hkV45 _
          have hs3V46 : (V45.alloc (.cells #[.string t] 9 (0, 0))).heap[V45.heap.size]? = some (.cells #[.string t] 9 (0, 0)) := heap_alloc_last _ _
          refine hK.out _ _ hkV46 (fun hHeld => ?_)
          clear hK K
          generalize V45.alloc (.cells #[.string t] 9 (0, 0)) = V46 at hBV46 hkV46 hs3V46 hHeld ⊢
          generalize V45.heap.size = gV46 at hs3V46 ⊢
          refine norm_ (a' := ?_) ?_ ?_
          rotate_left
          · show Act.put _ (some 35) _ = _
            simp only [Act.put, List.setIfInBounds_toArray, List.set_cons_zero, List.set_cons_succ, i64_w, i32_w]
            rfl
          refine one_ (i := 4) (N := (some 36)) #[true, true, true, true, true, false, false, false, false, false, false, false, false, false, false, false, false, false, false, false, false, false, false, false, false, false, false, false, false, false, false, false, false, false, false, false, false, false, false, false, false, false, false, false, false, false, false] rfl rfl (one_of HT_.out (by kernel_rfl)) (by decide) (fun K hK => ?_)
          refine goes_ Try.func47 (by kernel_rfl) rfl #[.slice (some ⟨gV46, 0, none⟩) 1 1] (by rfl) rfl rfl (by (try simp only [List.map_toArray, List.map_cons, List.map_nil]); first | done | rfl) ?_
          refine (sum2_at t ht9 V46 gV46 hs3V46).mono ?_
          rintro e V47 ⟨rfl, hcV47⟩
          have hBV47 : Below w.heap.size w V47 := below_then hBV46 hBV46.size hcV47
          have hkV47 : V47.heap[gk]? = some (blk8 key 61) := blk_below hkV46 hcV47
          have hs3V47 : V47.heap[gV46]? = some (.cells #[.string t] 9 (0, 0)) := blk_below hs3V46 hcV47
          refine ⟨_, rfl, ?_⟩
          refine hK.out _ _ hkV47 (fun hHeld => ?_)
          clear hK K hcV47
          refine norm_ (a' := ?_) ?_ ?_
          rotate_left
          · show Act.put _ (some 36) _ = _
            simp only [Act.put, List.setIfInBounds_toArray, List.set_cons_zero, List.set_cons_succ, i64_w, i32_w]
            rfl
          refine pure_ (i := 5) (N := (some 37)) (v := ?_) (a' := ?_) #[true, true, true, true, true, true, false, false, false, false, false, false, false, false, false, false, false, false, false, false, false, false, false, false, false, false, false, false, false, false, false, false, false, false, false, false, false, false, false, false, false, false, false, false, false, false, false] rfl rfl (any_of HT_.out (by kernel_rfl)) (fun _ _ _ h => h) (Or.inl ⟨by rfl, ?_⟩) ?_ ?_
          rotate_left
          · intro w'
            go_simp
            with_reducible rfl
          rotate_left
          · simp only [Act.put, List.setIfInBounds_toArray, List.set_cons_zero, List.set_cons_succ, i64_w, i32_w]
            rfl
          refine pure_ (i := 6) (N := (some 38)) (v := ?_) (a' := ?_) #[true, true, true, true, true, true, true, false, false, false, false, false, false, false, false, false, false, false, false, false, false, false, false, false, false, false, false, false, false, false, false, false, false, false, false, false, false, false, false, false, false, false, false, false, false, false, false] rfl rfl (any_of HT_.out (by kernel_rfl)) (fun _ _ _ h => h) (Or.inl ⟨by rfl, ?_⟩) ?_ ?_
          rotate_left
          · intro w'
            go_simp
            with_reducible rfl
          rotate_left
          · simp only [Act.put, List.setIfInBounds_toArray, List.set_cons_zero, List.set_cons_succ, i64_w, i32_w]
            rfl
          refine pure_ (i := 8) (N := (some 40)) (v := ?_) (a' := ?_) #[true, true, true, true, true, true, true, false, true, false, false, false, false, false, false, false, false, false, false, false, false, false, false, false, false, false, false, false, false, false, false, false, false, false, false, false, false, false, false, false, false, false, false, false, false, false, false] rfl rfl (any_of HT_.out (by kernel_rfl)) (fun _ _ _ h => h) (Or.inl ⟨by rfl, ?_⟩) ?_ ?_
          rotate_left
          · intro w'
            go_simp
            with_reducible rfl
          rotate_left
          · simp only [Act.put, List.setIfInBounds_toArray, List.set_cons_zero, List.set_cons_succ, i64_w, i32_w]
            rfl
          refine pure_ (i := 11) (N := (some 43)) (v := ?_) (a' := ?_) #[true, true, true, true, true, true, true, false, true, false, false, true, false, false, false, false, false, false, false, false, false, false, false, false, false, false, false, false, false, false, false, false, false, false, false, false, false, false, false, false, false, false, false, false, false, false, false] rfl rfl (any_of HT_.out (by kernel_rfl)) (fun _ _ _ h => h) (Or.inl ⟨by rfl, ?_⟩) ?_ ?_
          rotate_left
          · intro w'
            go_simp
            with_reducible rfl
          rotate_left
          · simp only [Act.put, List.setIfInBounds_toArray, List.set_cons_zero, List.set_cons_succ, i64_w, i32_w]
            rfl
          refine take_ (i := 7) (N := (some 39)) (v := .agg (u8s key)) (a' := ?_) #[true, true, true, true, true, true, true, true, true, false, false, true, false, false, false, false, false, false, false, false, false, false, false, false, false, false, false, false, false, false, false, false, false, false, false, false, false, false, false, false, false, false, false, false, false, false, false] rfl rfl (take_ofW HT_.out HW_.out (by kernel_rfl)) (fun _ _ _ h => h) (Or.inl ⟨by rfl, fun w' s8 => exec_load rfl rfl (loadAt61 s8 hk)⟩) hHeld ?_ ?_
          rotate_left
          · simp only [Act.put, List.setIfInBounds_toArray, List.set_cons_zero, List.set_cons_succ, i64_w, i32_w]
            rfl
          refine take_ (i := 10) (N := (some 42)) (v := .agg (u8s key)) (a' := ?_) #[true, true, true, true, true, true, true, true, true, false, true, true, false, false, false, false, false, false, false, false, false, false, false, false, false, false, false, false, false, false, false, false, false, false, false, false, false, false, false, false, false, false, false, false, false, false, false] rfl rfl (take_ofW HT_.out HW_.out (by kernel_rfl)) (fun _ _ _ h => h) (Or.inl ⟨by rfl, fun w' s8 => exec_load rfl rfl (loadAt61 s8 hk)⟩) hHeld ?_ ?_
          rotate_left
          · simp only [Act.put, List.setIfInBounds_toArray, List.set_cons_zero, List.set_cons_succ, i64_w, i32_w]
            rfl
          refine two_ (i := 9) (j := 12) (Ni := (some 41)) (Nj := (some 44)) #[true, true, true, true, true, true, true, true, true, true, true, true, false, false, false, false, false, false, false, false, false, false, false, false, false, false, false, false, false, false, false, false, false, false, false, false, false, false, false, false, false, false, false, false, false, false, false] #[true, true, true, true, true, true, true, true, true, false, true, true, true, false, false, false, false, false, false, false, false, false, false, false, false, false, false, false, false, false, false, false, false, false, false, false, false, false, false, false, false, false, false, false, false, false, false] rfl rfl rfl rfl (two_of HT_.out (by kernel_rfl)) (by decide) (by decide) (fun K hK => ?_) (fun K hK => ?_)
          · refine goes_ Try.func49 (by kernel_rfl) rfl #[.agg (u8s key), .slice A0 l0.length c0] (by rfl) rfl rfl (by (try simp only [List.map_toArray, List.map_cons, List.map_nil]); first | done | rfl) ?_
            refine (keyP_at key hk A0 c0 l0 t ht2.out hc0 hl31 hlj w V47 HR.out hBV47).mono ?_
            rintro e V48 ⟨rfl, hcV48⟩
            have hBV48 : Below w.heap.size w V48 := below_then hBV47 hBV47.size hcV48
            have hkV48 : V48.heap[gk]? = some (blk8 key 61) := blk_below hkV47 hcV48
            have hs3V48 : V48.heap[gV46]? = some (.cells #[.string t] 9 (0, 0)) := blk_below hs3V47 hcV48
            refine ⟨_, rfl, ?_⟩
            refine hK.out _ _ hkV48 (fun hHeld => ?_)
            clear hK K hcV48
            refine norm_ (a' := ?_) ?_ ?_
            rotate_left
            · show Act.put _ (some 41) _ = _
              simp only [Act.put, List.setIfInBounds_toArray, List.set_cons_zero, List.set_cons_succ, i64_w, i32_w]
              rfl
            refine one_ (i := 12) (N := (some 44)) #[true, true, true, true, true, true, true, true, true, true, true, true, true, false, false, false, false, false, false, false, false, false, false, false, false, false, false, false, false, false, false, false, false, false, false, false, false, false, false, false, false, false, false, false, false, false, false] rfl rfl (one_of HT_.out (by kernel_rfl)) (by decide) (fun K hK => ?_)
            refine value_ (w1 := V48.alloc (.cells #[.string t] 9 (0, 0))) (v := .slice (some ⟨V48.heap.size, 0, none⟩) 1 1) (by rfl) rfl ?_ ?_
            · first | (go_simp; done) | (go_simp; rfl)
            have hBV49 : Below w.heap.size w (V48.alloc (.cells #[.string t] 9 (0, 0))) := below_alloc hBV48 _
            have hkV49 : (V48.alloc (.cells #[.string t] 9 (0, 0))).heap[gk]? = some (blk8 key 61) := blk_alloc hkV48 _
            have hs12V49 : (V48.alloc (.cells #[.string t] 9 (0, 0))).heap[V48.heap.size]? = some (.cells #[.string t] 9 (0, 0)) := heap_alloc_last _ _
            have hs3V49 : (V48.alloc (.cells #[.string t] 9 (0, 0))).heap[gV46]? = some (.cells #[.string t] 9 (0, 0)) := blk_alloc hs3V48 _
            refine hK.out _ _ hkV49 (fun hHeld => ?_)
            clear hK K
            generalize V48.alloc (.cells #[.string t] 9 (0, 0)) = V49 at hBV49 hkV49 hs12V49 hs3V49 hHeld ⊢
            generalize V48.heap.size = gV49 at hs12V49 ⊢
            refine norm_ (a' := ?_) ?_ ?_
            rotate_left
            · show Act.put _ (some 44) _ = _
              simp only [Act.put, List.setIfInBounds_toArray, List.set_cons_zero, List.set_cons_succ, i64_w, i32_w]
              rfl
            refine one_ (i := 13) (N := (some 45)) #[true, true, true, true, true, true, true, true, true, true, true, true, true, true, false, false, false, false, false, false, false, false, false, false, false, false, false, false, false, false, false, false, false, false, false, false, false, false, false, false, false, false, false, false, false, false, false] rfl rfl (one_of HT_.out (by kernel_rfl)) (by decide) (fun K hK => ?_)
            refine goes_ Try.func49 (by kernel_rfl) rfl #[.agg (u8s key), .slice (some ⟨gV49, 0, none⟩) 1 1] (by rfl) rfl rfl (by (try simp only [List.map_toArray, List.map_cons, List.map_nil]); first | done | rfl) ?_
            refine (key1_at key hk t ht9 V49 gV49 hs12V49).mono ?_
            rintro e V50 ⟨rfl, hcV50⟩
            have hBV50 : Below w.heap.size w V50 := below_then hBV49 hBV49.size hcV50
            have hkV50 : V50.heap[gk]? = some (blk8 key 61) := blk_below hkV49 hcV50
            have hs3V50 : V50.heap[gV46]? = some (.cells #[.string t] 9 (0, 0)) := blk_below hs3V49 hcV50
            have hs12V50 : V50.heap[gV49]? = some (.cells #[.string t] 9 (0, 0)) := blk_below hs12V49 hcV50
            refine ⟨_, rfl, ?_⟩
            refine hK.out _ _ hkV50 (fun hHeld => ?_)
            clear hK K hcV50
            refine norm_ (a' := ?_) ?_ ?_
            rotate_left
            · show Act.put _ (some 45) _ = _
              simp only [Act.put, List.setIfInBounds_toArray, List.set_cons_zero, List.set_cons_succ, i64_w, i32_w]
              rfl
            refine pure_ (i := 14) (N := (some 46)) (v := ?_) (a' := ?_) #[true, true, true, true, true, true, true, true, true, true, true, true, true, true, true, false, false, false, false, false, false, false, false, false, false, false, false, false, false, false, false, false, false, false, false, false, false, false, false, false, false, false, false, false, false, false, false] rfl rfl (any_of HT_.out (by kernel_rfl)) (fun _ _ _ h => h) (Or.inl ⟨by rfl, ?_⟩) ?_ ?_
            rotate_left
            · intro w'
              go_simp
              with_reducible rfl
            rotate_left
            · simp only [Act.put, List.setIfInBounds_toArray, List.set_cons_zero, List.set_cons_succ, i64_w, i32_w]
              rfl
            refine pure_ (i := 15) (N := (some 47)) (v := ?_) (a' := ?_) #[true, true, true, true, true, true, true, true, true, true, true, true, true, true, true, true, false, false, false, false, false, false, false, false, false, false, false, false, false, false, false, false, false, false, false, false, false, false, false, false, false, false, false, false, false, false, false] rfl rfl (any_of HT_.out (by kernel_rfl)) (fun _ _ _ h => h) (Or.inl ⟨by rfl, ?_⟩) ?_ ?_
            rotate_left
            · intro w'
              go_simp
              with_reducible rfl
            rotate_left
            · simp only [Act.put, List.setIfInBounds_toArray, List.set_cons_zero, List.set_cons_succ, i64_w, i32_w]
              rfl
            refine pure_ (i := 16) (N := (some 48)) (v := ?_) (a' := ?_) #[true, true, true, true, true, true, true, true, true, true, true, true, true, true, true, true, true, false, false, false, false, false, false, false, false, false, false, false, false, false, false, false, false, false, false, false, false, false, false, false, false, false, false, false, false, false, false] rfl rfl (any_of HT_.out (by kernel_rfl)) (fun _ _ _ h => h) (Or.inl ⟨by rfl, ?_⟩) ?_ ?_
            rotate_left
            · intro w'
              go_simp
              with_reducible rfl
            rotate_left
            · simp only [Act.put, List.setIfInBounds_toArray, List.set_cons_zero, List.set_cons_succ, i64_w, i32_w]
              rfl
            exact hcut _ _ ⟨gV46, gV49, rfl, hBV50, hkV50⟩
          · refine value_ (w1 := V47.alloc (.cells #[.string t] 9 (0, 0))) (v := .slice (some ⟨V47.heap.size, 0, none⟩) 1 1) (by rfl) rfl ?_ ?_
            · first | (go_simp; done) | (go_simp; rfl)
            have hBV51 : Below w.heap.size w (V47.alloc (.cells #[.string t] 9 (0, 0))) := below_alloc hBV47 _
            have hkV51 : (V47.alloc (.cells #[.string t] 9 (0, 0))).heap[gk]? = some (blk8 key 61) := blk_alloc hkV47 _
            have hs12V51 : (V47.alloc (.cells #[.string t] 9 (0, 0))).heap[V47.heap.size]? = some (.cells #[.string t] 9 (0, 0)) := heap_alloc_last _ _
            have hs3V51 : (V47.alloc (.cells #[.string t] 9 (0, 0))).heap[gV46]? = some (.cells #[.string t] 9 (0, 0)) := blk_alloc hs3V47 _
            refine hK.out _ _ hkV51 (fun hHeld => ?_)
            clear hK K
            generalize V47.alloc (.cells #[.string t] 9 (0, 0)) = V51 at hBV51 hkV51 hs12V51 hs3V51 hHeld ⊢
            generalize V47.heap.size = gV51 at hs12V51 ⊢
            refine norm_ (a' := ?_) ?_ ?_
            rotate_left
            · show Act.put _ (some 44) _ = _
              simp only [Act.put, List.setIfInBounds_toArray, List.set_cons_zero, List.set_cons_succ, i64_w, i32_w]
              rfl
            refine one_ (i := 9) (N := (some 41)) #[true, true, true, true, true, true, true, true, true, true, true, true, true, false, false, false, false, false, false, false, false, false, false, false, false, false, false, false, false, false, false, false, false, false, false, false, false, false, false, false, false, false, false, false, false, false, false] rfl rfl (one_of HT_.out (by kernel_rfl)) (by decide) (fun K hK => ?_)
            refine goes_ Try.func49 (by kernel_rfl) rfl #[.agg (u8s key), .slice A0 l0.length c0] (by rfl) rfl rfl (by (try simp only [List.map_toArray, List.map_cons, List.map_nil]); first | done | rfl) ?_
            refine (keyP_at key hk A0 c0 l0 t ht2.out hc0 hl31 hlj w V51 HR.out hBV51).mono ?_
            rintro e V52 ⟨rfl, hcV52⟩
            have hBV52 : Below w.heap.size w V52 := below_then hBV51 hBV51.size hcV52
            have hkV52 : V52.heap[gk]? = some (blk8 key 61) := blk_below hkV51 hcV52
            have hs3V52 : V52.heap[gV46]? = some (.cells #[.string t] 9 (0, 0)) := blk_below hs3V51 hcV52
            have hs12V52 : V52.heap[gV51]? = some (.cells #[.string t] 9 (0, 0)) := blk_below hs12V51 hcV52
            refine ⟨_, rfl, ?_⟩
            refine hK.out _ _ hkV52 (fun hHeld => ?_)
            clear hK K hcV52
            refine norm_ (a' := ?_) ?_ ?_
            rotate_left
            · show Act.put _ (some 41) _ = _
              simp only [Act.put, List.setIfInBounds_toArray, List.set_cons_zero, List.set_cons_succ, i64_w, i32_w]
              rfl
            refine one_ (i := 13) (N := (some 45)) #[true, true, true, true, true, true, true, true, true, true, true, true, true, true, false, false, false, false, false, false, false, false, false, false, false, false, false, false, false, false, false, false, false, false, false, false, false, false, false, false, false, false, false, false, false, false, false] rfl rfl (one_of HT_.out (by kernel_rfl)) (by decide) (fun K hK => ?_)
            refine goes_ Try.func49 (by kernel_rfl) rfl #[.agg (u8s key), .slice (some ⟨gV51, 0, none⟩) 1 1] (by rfl) rfl rfl (by (try simp only [List.map_toArray, List.map_cons, List.map_nil]); first | done | rfl) ?_
            refine (key1_at key hk t ht9 V52 gV51 hs12V52).mono ?_
            rintro e V53 ⟨rfl, hcV53⟩
            have hBV53 : Below w.heap.size w V53 := below_then hBV52 hBV52.size hcV53
            have hkV53 : V53.heap[gk]? = some (blk8 key 61) := blk_below hkV52 hcV53
            have hs3V53 : V53.heap[gV46]? = some (.cells #[.string t] 9 (0, 0)) := blk_below hs3V52 hcV53
            have hs12V53 : V53.heap[gV51]? = some (.cells #[.string t] 9 (0, 0)) := blk_below hs12V52 hcV53
            refine ⟨_, rfl, ?_⟩
            refine hK.out _ _ hkV53 (fun hHeld => ?_)
            clear hK K hcV53
            refine norm_ (a' := ?_) ?_ ?_
            rotate_left
            · show Act.put _ (some 45) _ = _
              simp only [Act.put, List.setIfInBounds_toArray, List.set_cons_zero, List.set_cons_succ, i64_w, i32_w]
              rfl
            refine pure_ (i := 14) (N := (some 46)) (v := ?_) (a' := ?_) #[true, true, true, true, true, true, true, true, true, true, true, true, true, true, true, false, false, false, false, false, false, false, false, false, false, false, false, false, false, false, false, false, false, false, false, false, false, false, false, false, false, false, false, false, false, false, false] rfl rfl (any_of HT_.out (by kernel_rfl)) (fun _ _ _ h => h) (Or.inl ⟨by rfl, ?_⟩) ?_ ?_
            rotate_left
            · intro w'
              go_simp
              with_reducible rfl
            rotate_left
            · simp only [Act.put, List.setIfInBounds_toArray, List.set_cons_zero, List.set_cons_succ, i64_w, i32_w]
              rfl
            refine pure_ (i := 15) (N := (some 47)) (v := ?_) (a' := ?_) #[true, true, true, true, true, true, true, true, true, true, true, true, true, true, true, true, false, false, false, false, false, false, false, false, false, false, false, false, false, false, false, false, false, false, false, false, false, false, false, false, false, false, false, false, false, false, false] rfl rfl (any_of HT_.out (by kernel_rfl)) (fun _ _ _ h => h) (Or.inl ⟨by rfl, ?_⟩) ?_ ?_
            rotate_left
            · intro w'
              go_simp
              with_reducible rfl
            rotate_left
            · simp only [Act.put, List.setIfInBounds_toArray, List.set_cons_zero, List.set_cons_succ, i64_w, i32_w]
              rfl
            refine pure_ (i := 16) (N := (some 48)) (v := ?_) (a' := ?_) #[true, true, true, true, true, true, true, true, true, true, true, true, true, true, true, true, true, false, false, false, false, false, false, false, false, false, false, false, false, false, false, false, false, false, false, false, false, false, false, false, false, false, false, false, false, false, false] rfl rfl (any_of HT_.out (by kernel_rfl)) (fun _ _ _ h => h) (Or.inl ⟨by rfl, ?_⟩) ?_ ?_
            rotate_left
            · intro w'
              go_simp
              with_reducible rfl
            rotate_left
            · simp only [Act.put, List.setIfInBounds_toArray, List.set_cons_zero, List.set_cons_succ, i64_w, i32_w]
              rfl
            exact hcut _ _ ⟨gV46, gV51, rfl, hBV53, hkV53⟩
        · refine value_ (w1 := W1.alloc (.cells #[.string t] 9 (0, 0))) (v := .slice (some ⟨W1.heap.size, 0, none⟩) 1 1) (by rfl) rfl ?_ ?_
          · first | (go_simp; done) | (go_simp; rfl)
          have hBV54 : Below w.heap.size w (W1.alloc (.cells #[.string t] 9 (0, 0))) := below_alloc hB _
          have hkV54 : (W1.alloc (.cells #[.string t] 9 (0, 0))).heap[gk]? = some (blk8 key 61) := blk_alloc hkd _
          have hs3V54 : (W1.alloc (.cells #[.string t] 9 (0, 0))).heap[W1.heap.size]? = some (.cells #[.string t] 9 (0, 0)) := heap_alloc_last _ _
          refine hK.out _ _ hkV54 (fun hHeld => ?_)
          clear hK K
          generalize W1.alloc (.cells #[.string t] 9 (0, 0)) = V54 at hBV54 hkV54 hs3V54 hHeld ⊢
          generalize W1.heap.size = gV54 at hs3V54 ⊢
          refine norm_ (a' := ?_) ?_ ?_
          rotate_left
          · show Act.put _ (some 35) _ = _
            simp only [Act.put, List.setIfInBounds_toArray, List.set_cons_zero, List.set_cons_succ, i64_w, i32_w]
            rfl
          refine one_ (i := 1) (N := (some 33)) #[true, true, true, true, false, false, false, false, false, false, false, false, false, false, false, false, false, false, false, false, false, false, false, false, false, false, false, false, false, false, false, false, false, false, false, false, false, false, false, false, false, false, false, false, false, false, false] rfl rfl (one_of HT_.out (by kernel_rfl)) (by decide) (fun K hK => ?_)
          refine goes_ Try.func47 (by kernel_rfl) rfl #[.slice A0 l0.length c0] (by rfl) rfl rfl (by (try simp only [List.map_toArray, List.map_cons, List.map_nil]); first | done | rfl) ?_
          refine (sumP_at A0 c0 l0 t ht2.out hc0 hl31 hlj w V54 HR.out hBV54).mono ?_
          rintro e V55 ⟨rfl, hcV55⟩
          have hBV55 : Below w.heap.size w V55 := below_then hBV54 hBV54.size hcV55
          have hkV55 : V55.heap[gk]? = some (blk8 key 61) := blk_below hkV54 hcV55
          have hs3V55 : V55.heap[gV54]? = some (.cells #[.string t] 9 (0, 0)) := blk_below hs3V54 hcV55
          refine ⟨_, rfl, ?_⟩
          refine hK.out _ _ hkV55 (fun hHeld => ?_)
          clear hK K hcV55
          refine norm_ (a' := ?_) ?_ ?_
          rotate_left
          · show Act.put _ (some 33) _ = _
            simp only [Act.put, List.setIfInBounds_toArray, List.set_cons_zero, List.set_cons_succ, i64_w, i32_w]
            rfl
          refine one_ (i := 4) (N := (some 36)) #[true, true, true, true, true, false, false, false, false, false, false, false, false, false, false, false, false, false, false, false, false, false, false, false, false, false, false, false, false, false, false, false, false, false, false, false, false, false, false, false, false, false, false, false, false, false, false] rfl rfl (one_of HT_.out (by kernel_rfl)) (by decide) (fun K hK => ?_)
          refine goes_ Try.func47 (by kernel_rfl) rfl #[.slice (some ⟨gV54, 0, none⟩) 1 1] (by rfl) rfl rfl (by (try simp only [List.map_toArray, List.map_cons, List.map_nil]); first | done | rfl) ?_
          refine (sum2_at t ht9 V55 gV54 hs3V55).mono ?_
          rintro e V56 ⟨rfl, hcV56⟩
          have hBV56 : Below w.heap.size w V56 := below_then hBV55 hBV55.size hcV56
          have hkV56 : V56.heap[gk]? = some (blk8 key 61) := blk_below hkV55 hcV56
          have hs3V56 : V56.heap[gV54]? = some (.cells #[.string t] 9 (0, 0)) := blk_below hs3V55 hcV56
          refine ⟨_, rfl, ?_⟩
          refine hK.out _ _ hkV56 (fun hHeld => ?_)
          clear hK K hcV56
          refine norm_ (a' := ?_) ?_ ?_
          rotate_left
          · show Act.put _ (some 36) _ = _
            simp only [Act.put, List.setIfInBounds_toArray, List.set_cons_zero, List.set_cons_succ, i64_w, i32_w]
            rfl
          refine pure_ (i := 5) (N := (some 37)) (v := ?_) (a' := ?_) #[true, true, true, true, true, true, false, false, false, false, false, false, false, false, false, false, false, false, false, false, false, false, false, false, false, false, false, false, false, false, false, false, false, false, false, false, false, false, false, false, false, false, false, false, false, false, false] rfl rfl (any_of HT_.out (by kernel_rfl)) (fun _ _ _ h => h) (Or.inl ⟨by rfl, ?_⟩) ?_ ?_
          rotate_left
          · intro w'
            go_simp
            with_reducible rfl
          rotate_left
          · simp only [Act.put, List.setIfInBounds_toArray, List.set_cons_zero, List.set_cons_succ, i64_w, i32_w]
            rfl
          refine pure_ (i := 6) (N := (some 38)) (v := ?_) (a' := ?_) #[true, true, true, true, true, true, true, false, false, false, false, false, false, false, false, false, false, false, false, false, false, false, false, false, false, false, false, false, false, false, false, false, false, false, false, false, false, false, false, false, false, false, false, false, false, false, false] rfl rfl (any_of HT_.out (by kernel_rfl)) (fun _ _ _ h => h) (Or.inl ⟨by rfl, ?_⟩) ?_ ?_
          rotate_left
          · intro w'
            go_simp
            with_reducible rfl
          rotate_left
          · simp only [Act.put, List.setIfInBounds_toArray, List.set_cons_zero, List.set_cons_succ, i64_w, i32_w]
            rfl
          refine pure_ (i := 8) (N := (some 40)) (v := ?_) (a' := ?_) #[true, true, true, true, true, true, true, false, true, false, false, false, false, false, false, false, false, false, false, false, false, false, false, false, false, false, false, false, false, false, false, false, false, false, false, false, false, false, false, false, false, false, false, false, false, false, false] rfl rfl (any_of HT_.out (by kernel_rfl)) (fun _ _ _ h => h) (Or.inl ⟨by rfl, ?_⟩) ?_ ?_
          rotate_left
          · intro w'
            go_simp
            with_reducible rfl
          rotate_left
          · simp only [Act.put, List.setIfInBounds_toArray, List.set_cons_zero, List.set_cons_succ, i64_w, i32_w]
            rfl
          refine pure_ (i := 11) (N := (some 43)) (v := ?_) (a' := ?_) #[true, true, true, true, true, true, true, false, true, false, false, true, false, false, false, false, false, false, false, false, false, false, false, false, false, false, false, false, false, false, false, false, false, false, false, false, false, false, false, false, false, false, false, false, false, false, false] rfl rfl (any_of HT_.out (by kernel_rfl)) (fun _ _ _ h => h) (Or.inl ⟨by rfl, ?_⟩) ?_ ?_
          rotate_left
          · intro w'
            go_simp
            with_reducible rfl
          rotate_left
          · simp only [Act.put, List.setIfInBounds_toArray, List.set_cons_zero, List.set_cons_succ, i64_w, i32_w]
            rfl
          refine take_ (i := 7) (N := (some 39)) (v := .agg (u8s key)) (a' := ?_) #[true, true, true, true, true, true, true, true, true, false, false, true, false, false, false, false, false, false, false, false, false, false, false, false, false, false, false, false, false, false, false, false, false, false, false, false, false, false, false, false, false, false, false, false, false, false, false] rfl rfl (take_ofW HT_.out HW_.out (by kernel_rfl)) (fun _ _ _ h => h) (Or.inl ⟨by rfl, fun w' s8 => exec_load rfl rfl (loadAt61 s8 hk)⟩) hHeld ?_ ?_
          rotate_left
          · simp only [Act.put, List.setIfInBounds_toArray, List.set_cons_zero, List.set_cons_succ, i64_w, i32_w]
            rfl
          refine take_ (i := 10) (N := (some 42)) (v := .agg (u8s key)) (a' := ?_) #[true, true, true, true, true, true, true, true, true, false, true, true, false, false, false, false, false, false, false, false, false, false, false, false, false, false, false, false, false, false, false, false, false, false, false, false, false, false, false, false, false, false, false, false, false, false, false] rfl rfl (take_ofW HT_.out HW_.out (by kernel_rfl)) (fun _ _ _ h => h) (Or.inl ⟨by rfl, fun w' s8 => exec_load rfl rfl (loadAt61 s8 hk)⟩) hHeld ?_ ?_
          rotate_left
          · simp only [Act.put, List.setIfInBounds_toArray, List.set_cons_zero, List.set_cons_succ, i64_w, i32_w]
            rfl
          refine two_ (i := 9) (j := 12) (Ni := (some 41)) (Nj := (some 44)) #[true, true, true, true, true, true, true, true, true, true, true, true, false, false, false, false, false, false, false, false, false, false, false, false, false, false, false, false, false, false, false, false, false, false, false, false, false, false, false, false, false, false, false, false, false, false, false] #[true, true, true, true, true, true, true, true, true, false, true, true, true, false, false, false, false, false, false, false, false, false, false, false, false, false, false, false, false, false, false, false, false, false, false, false, false, false, false, false, false, false, false, false, false, false, false] rfl rfl rfl rfl (two_of HT_.out (by kernel_rfl)) (by decide) (by decide) (fun K hK => ?_) (fun K hK => ?_)
          · refine goes_ Try.func49 (by kernel_rfl) rfl #[.agg (u8s key), .slice A0 l0.length c0] (by rfl) rfl rfl (by (try simp only [List.map_toArray, List.map_cons, List.map_nil]); first | done | rfl) ?_
            refine (keyP_at key hk A0 c0 l0 t ht2.out hc0 hl31 hlj w V56 HR.out hBV56).mono ?_
            rintro e V57 ⟨rfl, hcV57⟩
            have hBV57 : Below w.heap.size w V57 := below_then hBV56 hBV56.size hcV57
            have hkV57 : V57.heap[gk]? = some (blk8 key 61) := blk_below hkV56 hcV57
            have hs3V57 : V57.heap[gV54]? = some (.cells #[.string t] 9 (0, 0)) := blk_below hs3V56 hcV57
            refine ⟨_, rfl, ?_⟩
            refine hK.out _ _ hkV57 (fun hHeld => ?_)
            clear hK K hcV57
            refine norm_ (a' := ?_) ?_ ?_
            rotate_left
            · show Act.put _ (some 41) _ = _
              simp only [Act.put, List.setIfInBounds_toArray, List.set_cons_zero, List.set_cons_succ, i64_w, i32_w]
              rfl
            refine one_ (i := 12) (N := (some 44)) #[true, true, true, true, true, true, true, true, true, true, true, true, true, false, false, false, false, false, false, false, false, false, false, false, false, false, false, false, false, false, false, false, false, false, false, false, false, false, false, false, false, false, false, false, false, false, false] rfl rfl (one_of HT_.out (by kernel_rfl)) (by decide) (fun K hK => ?_)
            refine value_ (w1 := V57.alloc (.cells #[.string t] 9 (0, 0))) (v := .slice (some ⟨V57.heap.size, 0, none⟩) 1 1) (by rfl) rfl ?_ ?_
            · first | (go_simp; done) | (go_simp; rfl)
            have hBV58 : Below w.heap.size w (V57.alloc (.cells #[.string t] 9 (0, 0))) := below_alloc hBV57 _
            have hkV58 : (V57.alloc (.cells #[.string t] 9 (0, 0))).heap[gk]? = some (blk8 key 61) := blk_alloc hkV57 _
            have hs12V58 : (V57.alloc (.cells #[.string t] 9 (0, 0))).heap[V57.heap.size]? = some (.cells #[.string t] 9 (0, 0)) := heap_alloc_last _ _
            have hs3V58 : (V57.alloc (.cells #[.string t] 9 (0, 0))).heap[gV54]? = some (.cells #[.string t] 9 (0, 0)) := blk_alloc hs3V57 _
            refine hK.out _ _ hkV58 (fun hHeld => ?_)
            clear hK K
            generalize V57.alloc (.cells #[.string t] 9 (0, 0)) = V58 at hBV58 hkV58 hs12V58 hs3V58 hHeld ⊢
            generalize V57.heap.size = gV58 at hs12V58 ⊢
            refine norm_ (a' := ?_) ?_ ?_
            rotate_left
            · show Act.put _ (some 44) _ = _
              simp only [Act.put, List.setIfInBounds_toArray, List.set_cons_zero, List.set_cons_succ, i64_w, i32_w]
              rfl
            refine one_ (i := 13) (N := (some 45)) #[true, true, true, true, true, true, true, true, true, true, true, true, true, true, false, false, false, false, false, false, false, false, false, false, false, false, false, false, false, false, false, false, false, false, false, false, false, false, false, false, false, false, false, false, false, false, false] rfl rfl (one_of HT_.out (by kernel_rfl)) (by decide) (fun K hK => ?_)
            refine goes_ Try.func49 (by kernel_rfl) rfl #[.agg (u8s key), .slice (some ⟨gV58, 0, none⟩) 1 1] (by rfl) rfl rfl (by (try simp only [List.map_toArray, List.map_cons, List.map_nil]); first | done | rfl) ?_
            refine (key1_at key hk t ht9 V58 gV58 hs12V58).mono ?_
            rintro e V59 ⟨rfl, hcV59⟩
            have hBV59 : Below w.heap.size w V59 := below_then hBV58 hBV58.size hcV59
            have hkV59 : V59.heap[gk]? = some (blk8 key 61) := blk_below hkV58 hcV59
            have hs3V59 : V59.heap[gV54]? = some (.cells #[.string t] 9 (0, 0)) := blk_below hs3V58 hcV59
            have hs12V59 : V59.heap[gV58]? = some (.cells #[.string t] 9 (0, 0)) := blk_below hs12V58 hcV59
            refine ⟨_, rfl, ?_⟩
            refine hK.out _ _ hkV59 (fun hHeld => ?_)
            clear hK K hcV59
            refine norm_ (a' := ?_) ?_ ?_
            rotate_left
            · show Act.put _ (some 45) _ = _
              simp only [Act.put, List.setIfInBounds_toArray, List.set_cons_zero, List.set_cons_succ, i64_w, i32_w]
              rfl
            refine pure_ (i := 14) (N := (some 46)) (v := ?_) (a' := ?_) #[true, true, true, true, true, true, true, true, true, true, true, true, true, true, true, false, false, false, false, false, false, false, false, false, false, false, false, false, false, false, false, false, false, false, false, false, false, false, false, false, false, false, false, false, false, false, false] rfl rfl (any_of HT_.out (by kernel_rfl)) (fun _ _ _ h => h) (Or.inl ⟨by rfl, ?_⟩) ?_ ?_
            rotate_left
            · intro w'
              go_simp
              with_reducible rfl
            rotate_left
            · simp only [Act.put, List.setIfInBounds_toArray, List.set_cons_zero, List.set_cons_succ, i64_w, i32_w]
              rfl
            refine pure_ (i := 15) (N := (some 47)) (v := ?_) (a' := ?_) #[true, true, true, true, true, true, true, true, true, true, true, true, true, true, true, true, false, false, false, false, false, false, false, false, false, false, false, false, false, false, false, false, false, false, false, false, false, false, false, false, false, false, false, false, false, false, false] rfl rfl (any_of HT_.out (by kernel_rfl)) (fun _ _ _ h => h) (Or.inl ⟨by rfl, ?_⟩) ?_ ?_
            rotate_left
            · intro w'
              go_simp
              with_reducible rfl
            rotate_left
            · simp only [Act.put, List.setIfInBounds_toArray, List.set_cons_zero, List.set_cons_succ, i64_w, i32_w]
              rfl
            refine pure_ (i := 16) (N := (some 48)) (v := ?_) (a' := ?_) #[true, true, true, true, true, true, true, true, true, true, true, true, true, true, true, true, true, false, false, false, false, false, false, false, false, false, false, false, false, false, false, false, false, false, false, false, false, false, false, false, false, false, false, false, false, false, false] rfl rfl (any_of HT_.out (by kernel_rfl)) (fun _ _ _ h => h) (Or.inl ⟨by rfl, ?_⟩) ?_ ?_
            rotate_left
            · intro w'
              go_simp
              with_reducible rfl
            rotate_left
            · simp only [Act.put, List.setIfInBounds_toArray, List.set_cons_zero, List.set_cons_succ, i64_w, i32_w]
              rfl
            exact hcut _ _ ⟨gV54, gV58, rfl, hBV59, hkV59⟩
          · refine value_ (w1 := V56.alloc (.cells #[.string t] 9 (0, 0))) (v := .slice (some ⟨V56.heap.size, 0, none⟩) 1 1) (by rfl) rfl ?_ ?_
            · first | (go_simp; done) | (go_simp; rfl)
            have hBV60 : Below w.heap.size w (V56.alloc (.cells #[.string t] 9 (0, 0))) := below_alloc hBV56 _
            have hkV60 : (V56.alloc (.cells #[.string t] 9 (0, 0))).heap[gk]? = some (blk8 key 61) := blk_alloc hkV56 _
            have hs12V60 : (V56.alloc (.cells #[.string t] 9 (0, 0))).heap[V56.heap.size]? = some (.cells #[.string t] 9 (0, 0)) := heap_alloc_last _ _
            have hs3V60 : (V56.alloc (.cells #[.string t] 9 (0, 0))).heap[gV54]? = some (.cells #[.string t] 9 (0, 0)) := blk_alloc hs3V56 _
            refine hK.out _ _ hkV60 (fun hHeld => ?_)
            clear hK K
            generalize V56.alloc (.cells #[.string t] 9 (0, 0)) = V60 at hBV60 hkV60 hs12V60 hs3V60 hHeld ⊢
            generalize V56.heap.size = gV60 at hs12V60 ⊢
            refine norm_ (a' := ?_) ?_ ?_
            rotate_left
            · show Act.put _ (some 44) _ = _
              simp only [Act.put, List.setIfInBounds_toArray, List.set_cons_zero, List.set_cons_succ, i64_w, i32_w]
              rfl
            refine one_ (i := 9) (N := (some 41)) #[true, true, true, true, true, true, true, true, true, true, true, true, true, false, false, false, false, false, false, false, false, false, false, false, false, false, false, false, false, false, false, false, false, false, false, false, false, false, false, false, false, false, false, false, false, false, false] rfl rfl (one_of HT_.out (by kernel_rfl)) (by decide) (fun K hK => ?_)
            refine goes_ Try.func49 (by kernel_rfl) rfl #[.agg (u8s key), .slice A0 l0.length c0] (by rfl) rfl rfl (by (try simp only [List.map_toArray, List.map_cons, List.map_nil]); first | done | rfl) ?_
            refine (keyP_at key hk A0 c0 l0 t ht2.out hc0 hl31 hlj w V60 HR.out hBV60).mono ?_
            rintro e V61 ⟨rfl, hcV61⟩
            have hBV61 : Below w.heap.size w V61 := below_then hBV60 hBV60.size hcV61
            have hkV61 : V61.heap[gk]? = some (blk8 key 61) := blk_below hkV60 hcV61
            have hs3V61 : V61.heap[gV54]? = some (.cells #[.string t] 9 (0, 0)) := blk_below hs3V60 hcV61
            have hs12V61 : V61.heap[gV60]? = some (.cells #[.string t] 9 (0, 0)) := blk_below hs12V60 hcV61
            refine ⟨_, rfl, ?_⟩
            refine hK.out _ _ hkV61 (fun hHeld => ?_)
            clear hK K hcV61
            refine norm_ (a' := ?_) ?_ ?_
            rotate_left
            · show Act.put _ (some 41) _ = _
              simp only [Act.put, List.setIfInBounds_toArray, List.set_cons_zero, List.set_cons_succ, i64_w, i32_w]
              rfl
            refine one_ (i := 13) (N := (some 45)) #[true, true, true, true, true, true, true, true, true, true, true, true, true, true, false, false, false, false, false, false, false, false, false, false, false, false, false, false, false, false, false, false, false, false, false, false, false, false, false, false, false, false, false, false, false, false, false] rfl rfl (one_of HT_.out (by kernel_rfl)) (by decide) (fun K hK => ?_)
            refine goes_ Try.func49 (by kernel_rfl) rfl #[.agg (u8s key), .slice (some ⟨gV60, 0, none⟩) 1 1] (by rfl) rfl rfl (by (try simp only [List.map_toArray, List.map_cons, List.map_nil]); first | done | rfl) ?_
            refine (key1_at key hk t ht9 V61 gV60 hs12V61).mono ?_
            rintro e V62 ⟨rfl, hcV62⟩
            have hBV62 : Below w.heap.size w V62 := below_then hBV61 hBV61.size hcV62
            have hkV62 : V62.heap[gk]? = some (blk8 key 61) := blk_below hkV61 hcV62
            have hs3V62 : V62.heap[gV54]? = some (.cells #[.string t] 9 (0, 0)) := blk_below hs3V61 hcV62
            have hs12V62 : V62.heap[gV60]? = some (.cells #[.string t] 9 (0, 0)) := blk_below hs12V61 hcV62
            refine ⟨_, rfl, ?_⟩
            refine hK.out _ _ hkV62 (fun hHeld => ?_)
            clear hK K hcV62
            refine norm_ (a' := ?_) ?_ ?_
            rotate_left
            · show Act.put _ (some 45) _ = _
              simp only [Act.put, List.setIfInBounds_toArray, List.set_cons_zero, List.set_cons_succ, i64_w, i32_w]
              rfl
            refine pure_ (i := 14) (N := (some 46)) (v := ?_) (a' := ?_) #[true, true, true, true, true, true, true, true, true, true, true, true, true, true, true, false, false, false, false, false, false, false, false, false, false, false, false, false, false, false, false, false, false, false, false, false, false, false, false, false, false, false, false, false, false, false, false] rfl rfl (any_of HT_.out (by kernel_rfl)) (fun _ _ _ h => h) (Or.inl ⟨by rfl, ?_⟩) ?_ ?_
            rotate_left
            · intro w'
              go_simp
              with_reducible rfl
            rotate_left
            · simp only [Act.put, List.setIfInBounds_toArray, List.set_cons_zero, List.set_cons_succ, i64_w, i32_w]
              rfl
            refine pure_ (i := 15) (N := (some 47)) (v := ?_) (a' := ?_) #[true, true, true, true, true, true, true, true, true, true, true, true, true, true, true, true, false, false, false, false, false, false, false, false, false, false, false, false, false, false, false, false, false, false, false, false, false, false, false, false, false, false, false, false, false, false, false] rfl rfl (any_of HT_.out (by kernel_rfl)) (fun _ _ _ h => h) (Or.inl ⟨by rfl, ?_⟩) ?_ ?_
            rotate_left
            · intro w'
              go_simp
              with_reducible rfl
            rotate_left
            · simp only [Act.put, List.setIfInBounds_toArray, List.set_cons_zero, List.set_cons_succ, i64_w, i32_w]
              rfl
            refine pure_ (i := 16) (N := (some 48)) (v := ?_) (a' := ?_) #[true, true, true, true, true, true, true, true, true, true, true, true, true, true, true, true, true, false, false, false, false, false, false, false, false, false, false, false, false, false, false, false, false, false, false, false, false, false, false, false, false, false, false, false, false, false, false] rfl rfl (any_of HT_.out (by kernel_rfl)) (fun _ _ _ h => h) (Or.inl ⟨by rfl, ?_⟩) ?_ ?_
            rotate_left
            · intro w'
              go_simp
              with_reducible rfl
            rotate_left
            · simp only [Act.put, List.setIfInBounds_toArray, List.set_cons_zero, List.set_cons_succ, i64_w, i32_w]
              rfl
            exact hcut _ _ ⟨gV54, gV60, rfl, hBV62, hkV62⟩
end Go.Proofs.Ytjfmnkmgnbbfgaa.A
