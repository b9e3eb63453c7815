/- The walk of the law RollTails: for every two fronts, tail and cuts it returns true; old memory stays. -/
import Derived.Test.YtameblpmojfdgaaR6
import Derived.Test.YtameblpmojfdgaaR4
import Derived.Maps.OwnOps
namespace Go.Proofs.Ytameblpmojfdgaa.A
open Go.RowKit Go.Proofs.YtameblpmojfdgaaW.PrintWords Go.Proofs.YtameblpmojfdgaaW.PrintLast Go.Proofs.YtameblpmojfdgaaW.PrintMore
open Go.Maps

theorem mlaw : Keyed Try.prog 3 := int_keyed Try.underlying3
theorem mzero (w : World) : (zeroValue 3).run Try.prog w = .ok (.int .i64 0) w := by kernel_rfl
def Tru (w : World) (e : Ending) (w' : World) : Prop := e = .returned (.bool true) ∧ Below w.heap.size w w'

set_option maxHeartbeats 1000000 in
set_option maxRecDepth 100000 in
theorem tails_big (f0 f1 t : ByteArray) (c0 c1 c2 c3 : Int) (w : World) (h0 : f0.size ≤ 140737488351232) (h1 : f1.size ≤ 140737488351232) (h2 : t.size ≤ 140737488351232) (hb : 5000 < f0.size + f1.size + t.size) :
    Calls Try.prog 4 #[.agg #[.string f0, .string f1], .string t, .agg #[.int .i64 c0, .int .i64 c1, .int .i64 c2, .int .u32 c3]] w (Tru w) := by
  have hu34 := Try.underlying34
  have hu24 := Try.underlying24
  obtain ⟨k, hk⟩ := alive_ev.rounds
  have HK := Lib.hid hk
  clear hk
  go_enter Try.func4, Try.ntmps4
  go_wp2_with fail
  refine (hibernaclelaw09_rollAlive.calls k true _ HK.out).mono ?_
  rintro e w1 ⟨rfl, hb1⟩
  have g0 : w1.cell? ⟨w.heap.size, 0, none⟩ = some (.string f0) := pw_cell_below hb1 (by go_simp)
  have g1 : w1.cell? ⟨w.heap.size, 1, none⟩ = some (.string f1) := pw_cell_below hb1 (by go_simp)
  have HB : Below w.heap.size w w1 := below_step (below_alloc (below_alloc (Below.refl _ _) _) _) hb1
  clear hb1
  go_wp2
  go_ret
  exact ⟨rfl, HB⟩

set_option maxHeartbeats 1000000 in
set_option maxRecDepth 100000 in
theorem tails_no (f0 f1 t : ByteArray) (c0 c1 c2 c3 : Int) (w : World) (hb : f0.size + f1.size + t.size ≤ 5000) (hc : ¬ (1 ≤ c0 ∧ c0 ≤ 64 ∧ c0 ≤ c1 ∧ c1 ≤ c2 ∧ c2 ≤ 65536)) :
    Calls Try.prog 4 #[.agg #[.string f0, .string f1], .string t, .agg #[.int .i64 c0, .int .i64 c1, .int .i64 c2, .int .u32 c3]] w (Tru w) := by
  have hu34 := Try.underlying34
  have hu24 := Try.underlying24
  obtain ⟨k, hk⟩ := alive_ev.rounds
  have HK := Lib.hid hk
  clear hk
  obtain ⟨k1, hk1⟩ := (roll_Cut_no (c3 := c3) (f0 ++ t) hc).rounds
  obtain ⟨k2, hk2⟩ := (roll_Cut_no (c3 := c3) (f1 ++ t) hc).rounds
  have HK1 := Lib.hid hk1
  have HK2 := Lib.hid hk2
  clear hk1 hk2 hc
  go_enter Try.func4, Try.ntmps4
  go_wp2_with fail
  refine (hibernaclelaw09_rollAlive.calls k true _ HK.out).mono ?_
  rintro e w1 ⟨rfl, hb1⟩
  have g0 : w1.cell? ⟨w.heap.size, 0, none⟩ = some (.string f0) := pw_cell_below hb1 (by go_simp)
  have g1 : w1.cell? ⟨w.heap.size, 1, none⟩ = some (.string f1) := pw_cell_below hb1 (by go_simp)
  have q0 : w1.cell? ⟨w.heap.size + 1, 0, none⟩ = some (.int .i64 c0) := pw_cell_below hb1 (by go_simp)
  have q1 : w1.cell? ⟨w.heap.size + 1, 1, none⟩ = some (.int .i64 c1) := pw_cell_below hb1 (by go_simp)
  have q2 : w1.cell? ⟨w.heap.size + 1, 2, none⟩ = some (.int .i64 c2) := pw_cell_below hb1 (by go_simp)
  have q3 : w1.cell? ⟨w.heap.size + 1, 3, none⟩ = some (.int .u32 c3) := pw_cell_below hb1 (by go_simp)
  have HB : Below w.heap.size w w1 := below_step (below_alloc (below_alloc (Below.refl _ _) _) _) hb1
  clear hb1
  go_wp2_with fail
  refine (roll_Cut.calls k1 (f0 ++ t) c0 c1 c2 c3 [] 2 _ HK1.out).mono ?_
  rintro e w2 ⟨v2, rfl, ho2, hb2⟩
  have g1' : w2.cell? ⟨w.heap.size, 1, none⟩ = some (.string f1) := pw_cell_below hb2 g1
  have q0' : w2.cell? ⟨w.heap.size + 1, 0, none⟩ = some (.int .i64 c0) := pw_cell_below hb2 q0
  have q1' : w2.cell? ⟨w.heap.size + 1, 1, none⟩ = some (.int .i64 c1) := pw_cell_below hb2 q1
  have q2' : w2.cell? ⟨w.heap.size + 1, 2, none⟩ = some (.int .i64 c2) := pw_cell_below hb2 q2
  have q3' : w2.cell? ⟨w.heap.size + 1, 3, none⟩ = some (.int .u32 c3) := pw_cell_below hb2 q3
  have HB2 : Below w.heap.size w w2 := below_step HB hb2
  clear hb2 g0 g1 q0 q1 q2 q3 ho2
  go_wp2_with fail
  refine (roll_Cut.calls k2 (f1 ++ t) c0 c1 c2 c3 [] 2 _ HK2.out).mono ?_
  rintro e w3 ⟨v3, rfl, ho3, hb3⟩
  have HB3 : Below w.heap.size w w3 := below_step HB2 hb3
  clear hb3 ho3 g1' q0' q1' q2' q3'
  go_wp2
  go_ret
  exact ⟨rfl, HB3⟩

set_option maxHeartbeats 4000000 in
set_option maxRecDepth 100000 in
theorem tails_ok (F0 F1 T : List UInt8) (c0 c1 c2 c3 : Int) (w : World) (hb : F0.length + F1.length + T.length ≤ 5000) (hc : 1 ≤ c0 ∧ c0 ≤ 64 ∧ c0 ≤ c1 ∧ c1 ≤ c2 ∧ c2 ≤ 65536)
    (f0 f1 t : ByteArray) (e0 : f0 = B F0) (e1 : f1 = B F1) (et : t = B T) :
    Calls Try.prog 4 #[.agg #[.string f0, .string f1], .string t, .agg #[.int .i64 c0, .int .i64 c1, .int .i64 c2, .int .u32 c3]] w (Tru w) := by
  have hu34 := Try.underlying34
  have hu24 := Try.underlying24
  have hmm := @run_makeMap Try.prog
  obtain ⟨k, hk⟩ := alive_ev.rounds
  have HK := Lib.hid hk
  clear hk
  have app : ∀ X Y : List UInt8, B X ++ B Y = B (X ++ Y) := by
    intro X Y
    rw [← B_eta (B X ++ B Y), ByteArray.data_append, Array.toList_append, B_list, B_list]
  have s0 : f0.size = F0.length := by rw [e0, B_size]
  have s1 : f1.size = F1.length := by rw [e1, B_size]
  have s2 : t.size = T.length := by rw [et, B_size]
  have hbs : f0.size + f1.size + t.size ≤ 5000 := by omega
  obtain ⟨k1, hk1⟩ := (roll_Cut_ok (c3 := c3) (F0 ++ T) hc (by rw [List.length_append]; omega)).rounds
  obtain ⟨k2, hk2⟩ := (roll_Cut_ok (c3 := c3) (F1 ++ T) hc (by rw [List.length_append]; omega)).rounds
  rw [← app, ← e0, ← et] at hk1
  rw [← app, ← e1, ← et] at hk2
  have HT : ∀ i k, i ≤ (ch c0.toNat c1.toNat c2 c3 (F0 ++ T)).length → k ≤ (ch c0.toNat c1.toNat c2 c3 (F1 ++ T)).length → tot (ch c0.toNat c1.toNat c2 c3 (F0 ++ T)) i = tot (ch c0.toNat c1.toNat c2 c3 (F1 ++ T)) k → tot (ch c0.toNat c1.toNat c2 c3 (F1 ++ T)) k ≤ t.size → (ch c0.toNat c1.toNat c2 c3 (F0 ++ T)).drop i = (ch c0.toNat c1.toNat c2 c3 (F1 ++ T)).drop k :=
    fun i k hi hk he hle => tails_same (by omega) F0 F1 T i k hi hk he (by omega)
  have lX := ch_len (c0 := c0.toNat) (c1 := c1.toNat) (c2 := c2) (c3 := c3) (by omega) (F0 ++ T)
  have lY := ch_len (c0 := c0.toNat) (c1 := c1.toNat) (c2 := c2) (c3 := c3) (by omega) (F1 ++ T)
  have tX : ∀ i, tot (ch c0.toNat c1.toNat c2 c3 (F0 ++ T)) i ≤ 5000 := fun i => by have := tot_le (ch c0.toNat c1.toNat c2 c3 (F0 ++ T)) i; rw [ch_join (by omega), List.length_append] at this; omega
  have tY : ∀ i, tot (ch c0.toNat c1.toNat c2 c3 (F1 ++ T)) i ≤ 5000 := fun i => by have := tot_le (ch c0.toNat c1.toNat c2 c3 (F1 ++ T)) i; rw [ch_join (by omega), List.length_append] at this; omega
  rw [List.length_append] at lX lY
  generalize ch c0.toNat c1.toNat c2 c3 (F0 ++ T) = X at *
  generalize ch c0.toNat c1.toNat c2 c3 (F1 ++ T) = Y at *
  have lX' : X.length ≤ 5000 := by omega
  have lY' : Y.length ≤ 5000 := by omega
  have HK1 := Lib.hid hk1
  have HK2 := Lib.hid hk2
  have HHT := Lib.hid HT
  have HtX := Lib.hid tX
  have HtY := Lib.hid tY
  clear hk1 hk2 hc e0 e1 et app s0 s1 s2 HT lX lY tX tY hb
  go_enter Try.func4, Try.ntmps4
  go_wp2_with fail
  refine (hibernaclelaw09_rollAlive.calls k true _ HK.out).mono ?_
  rintro e w1 ⟨rfl, hb1⟩
  have g0 : w1.cell? ⟨w.heap.size, 0, none⟩ = some (.string f0) := pw_cell_below hb1 (by go_simp)
  have g1 : w1.cell? ⟨w.heap.size, 1, none⟩ = some (.string f1) := pw_cell_below hb1 (by go_simp)
  have q0 : w1.cell? ⟨w.heap.size + 1, 0, none⟩ = some (.int .i64 c0) := pw_cell_below hb1 (by go_simp)
  have q1 : w1.cell? ⟨w.heap.size + 1, 1, none⟩ = some (.int .i64 c1) := pw_cell_below hb1 (by go_simp)
  have q2 : w1.cell? ⟨w.heap.size + 1, 2, none⟩ = some (.int .i64 c2) := pw_cell_below hb1 (by go_simp)
  have q3 : w1.cell? ⟨w.heap.size + 1, 3, none⟩ = some (.int .u32 c3) := pw_cell_below hb1 (by go_simp)
  have HB : Below w.heap.size w w1 := below_step (below_alloc (below_alloc (Below.refl _ _) _) _) hb1
  clear hb1
  go_wp2_with fail
  refine (roll_Cut.calls k1 (f0 ++ t) c0 c1 c2 c3 (X.map B) 0 _ HK1.out).mono ?_
  rintro e w2 ⟨v2, rfl, ho2, hb2⟩
  obtain ⟨A2, d2, rfl, hd2, hC2⟩ := Kd.R_reads ho2
  rw [List.length_map] at hd2 hC2 ⊢
  have g1' : w2.cell? ⟨w.heap.size, 1, none⟩ = some (.string f1) := pw_cell_below hb2 g1
  have q0' : w2.cell? ⟨w.heap.size + 1, 0, none⟩ = some (.int .i64 c0) := pw_cell_below hb2 q0
  have q1' : w2.cell? ⟨w.heap.size + 1, 1, none⟩ = some (.int .i64 c1) := pw_cell_below hb2 q1
  have q2' : w2.cell? ⟨w.heap.size + 1, 2, none⟩ = some (.int .i64 c2) := pw_cell_below hb2 q2
  have q3' : w2.cell? ⟨w.heap.size + 1, 3, none⟩ = some (.int .u32 c3) := pw_cell_below hb2 q3
  have HB2 : Below w.heap.size w w2 := below_step HB hb2
  clear hb2 g0 g1 q0 q1 q2 q3 ho2
  go_wp2_with fail
  refine (roll_Cut.calls k2 (f1 ++ t) c0 c1 c2 c3 (Y.map B) 0 _ HK2.out).mono ?_
  rintro e w3 ⟨v3, rfl, ho3, hb3⟩
  obtain ⟨A3, d3, rfl, hd3, hC3⟩ := Kd.R_reads ho3
  rw [List.length_map] at hd3 hC3 ⊢
  have hC2' := Kd.C_below hC2 hb3
  have HB3 : Below w.heap.size w w3 := below_step HB2 hb3
  have HC2 := Lib.hid hC2'
  have HC3 := Lib.hid hC3
  clear hb3 ho3 g1' q0' q1' q2' q3' hC2 hC2' hC3
  go_wp2
  obtain ⟨b, hb⟩ : ∃ b, b = w3.heap.size := ⟨_, rfl⟩
  have hown0 : (w3.alloc (.map #[] 0)).ownsMap Try.prog 3 (plainElem (H := Unit) Try.prog 3) w3.heap.size 0 (.map []) := World.ownsMap_made _ _ _ _
  go_loopw [12, 13] (fun n i wr => ∃ (q m : Nat) (z : Int) (D : DataW Unit), q ≤ X.length ∧ m ≤ 5000 - q ∧ Hid (z = (q : Int) - 1) ∧ i = .int .i64 z ∧ n = .int .i64 (tot X q : Nat) ∧ wr.ownsMap Try.prog 3 (plainElem (H := Unit) Try.prog 3) w3.heap.size m D ∧ MapOk X D ∧ Below w3.heap.size w3 wr) (fun _ i _ => ((intOf i) + 1).toNat)
  case atStart => exact ⟨X.length, 0, (X.length : Int) - 1, .map [], Nat.le_refl _, by omega, Lib.hid rfl, rfl, by rw [tot_end]; rfl, hown0, mapOk_empty X, below_alloc (Below.refl _ _) _⟩
  case round =>
    clear hown0
    obtain ⟨q, m, z, D, hq, hm, HZ, rfl, rfl, hown, hmo, hbw⟩ := hrel
    cases q with
    | zero =>
      obtain rfl : z = -1 := by have := HZ.out; omega
      clear HZ
      have HMO := Lib.hid hmo
      clear hmo
      go_wp2
      go_loopw [12, 14] (fun n kk wr2 => ∃ (q : Nat) (z : Int), q ≤ Y.length ∧ Hid (z = (q : Int) - 1) ∧ kk = .int .i64 z ∧ n = .int .i64 (tot Y q : Nat) ∧ wr2.ownsMap Try.prog 3 (plainElem (H := Unit) Try.prog 3) w3.heap.size m D ∧ Below w3.heap.size w3 wr2) (fun _ kk _ => ((intOf kk) + 1).toNat)
      case atStart => exact ⟨Y.length, (Y.length : Int) - 1, Nat.le_refl _, Lib.hid rfl, rfl, by rw [tot_end]; rfl, hown, hbw⟩
      case round =>
        clear hown hbw
        obtain ⟨q, z, hq, HZ, rfl, rfl, hown, hbw⟩ := hrel
        cases q with
        | zero =>
          obtain rfl : z = -1 := by have := HZ.out; omega
          clear HZ
          go_wp2
          go_ret
          exact ⟨rfl, HB3.trans (hbw.mono HB3.size)⟩
        | succ p =>
          obtain rfl : z = (p : Int) := by have := HZ.out; omega
          clear HZ
          have hp : p < Y.length := by omega
          have hc := Kd.C_below HC3.out hbw
          obtain ⟨ad, rfl, hx⟩ := Kd.at_string (n := Y.length) (xs := Y.map B) hc (p : Int) (by omega) (by omega)
          rw [rd_B Y p hp, Int.toNat_natCast] at hx
          obtain ⟨s, hs⟩ : ∃ s, s = B Y[p] := ⟨_, rfl⟩
          rw [← hs] at hx
          have ht : (tot Y (p + 1) : Nat) + s.size = tot Y p := by rw [hs, B_size, tot_step Y p hp]; omega
          have ht5 := HtY.out p
          have HS := Lib.hid hs
          obtain ⟨N1, hN1⟩ : ∃ N1, N1 = tot Y (p + 1) := ⟨_, rfl⟩
          obtain ⟨N0, hN0⟩ : ∃ N0, N0 = tot Y p := ⟨_, rfl⟩
          rw [← hN1, ← hN0] at ht
          rw [← hN0] at ht5
          rw [← hN1]
          have HN0 := Lib.hid hN0
          have HN1 := Lib.hid hN1
          have HTT := Lib.hid ht
          have bN1 : N1 ≤ 5000 := by omega
          have bs : s.size ≤ 5000 := by omega
          clear hs hN1 hN0 ht
          have HC := Lib.hid hc
          clear hc
          by_cases hgt : t.size < N1 + s.size
          · have hgt' : (t.size : Int) < (N1 : Int) + s.size := by omega
            go_wp2
            go_ret
            exact ⟨rfl, HB3.trans (hbw.mono HB3.size)⟩
          · have hgt' : ¬ ((t.size : Int) < (N1 : Int) + s.size) := by omega
            by_cases hhas : Maps.has D (.int .i64 ((N1 : Int) + s.size)) = true
            · go_wp2_with (at_lookup; refine wpList_lookup_own_ok_int _ rfl _ _ 35 rfl 3 3 .i64 mlaw Try.underlying35 Try.underlying3 (mzero _) w3.heap.size m D rfl hown _ _ rfl (keyOf_int_mk Try.underlying3 (WalkArith.wf_i64 (by omega))) ?_; intro c hat hwc)
              obtain ⟨i, rfl, hi, hni⟩ := HMO.out _ c hhas hat
              have hd : X.drop i = Y.drop p := HHT.out i p (by omega) (by omega) (by have h1 := HTT.out; have h2 := HN0.out; omega) (by have h1 := HTT.out; have h2 := HN0.out; omega)
              obtain ⟨i0, hi0, _, hsz0, _⟩ := info_parts info9
              have hcut1 := cut_from (P := Try.prog) 26 9 .i64 Try.underlying26 hi0 1 hsz0 A2 X.length d2 (i : Int) (by omega) (by omega)
              have hcut2 := cut_from (P := Try.prog) 26 9 .i64 Try.underlying26 hi0 1 hsz0 (some ad) Y.length d3 (p : Int) (by omega) (by omega)
              have hC4 := Kd.C_drop (k := Kd.string) (m := i) (c := d2) (xs := X.map B) (by rw [List.length_map]; exact Kd.C_below HC2.out hbw) (by rw [List.length_map]; omega) (by rw [List.length_map]; exact hd2)
              have hC5 := Kd.C_drop (k := Kd.string) (m := p) (c := d3) (xs := Y.map B) (by rw [List.length_map]; exact HC.out) (by rw [List.length_map]; omega) (by rw [List.length_map]; exact hd3)
              have hl4 : ((X.map B).drop i).length = X.length - i := by rw [List.length_drop, List.length_map]
              have hl5 : ((Y.map B).drop p).length = Y.length - p := by rw [List.length_drop, List.length_map]
              have hsame := same_ev ((X.map B).drop i) ((Y.map B).drop p) (by omega)
              rw [show (X.map B).drop i = (Y.map B).drop p by rw [← List.map_drop, ← List.map_drop, hd], decide_eq_true rfl] at hsame
              rw [show (X.map B).drop i = (Y.map B).drop p by rw [← List.map_drop, ← List.map_drop, hd]] at hC4 hl4
              obtain ⟨ks, hks⟩ := hsame.rounds
              rw [Int.toNat_natCast, ← hl4] at hcut1
              rw [Int.toNat_natCast, ← hl5] at hcut2
              obtain ⟨A4, hA4⟩ : ∃ A4, A4 = (if d2 = i then A2 else A2.map (·.add (i * 1))) := ⟨_, rfl⟩
              obtain ⟨A5, hA5⟩ : ∃ A5, A5 = (if d3 = p then some ad else (some ad : Option Addr).map (·.add (p * 1))) := ⟨_, rfl⟩
              rw [← hA4] at hcut1
              rw [← hA5] at hcut2
              have hC4' : Kd.C Kd.string wr A4 ((Y.map B).drop p).length ((Y.map B).drop p) := by rw [hA4]; exact hC4
              have hC5' : Kd.C Kd.string wr A5 ((Y.map B).drop p).length ((Y.map B).drop p) := by rw [hA5]; exact hC5
              have hd4 : ((Y.map B).drop p).length ≤ d2 - i := by rw [hl4]; omega
              have hd5 : ((Y.map B).drop p).length ≤ d3 - p := by rw [hl5]; omega
              obtain ⟨d4, hd4e⟩ : ∃ d4, d4 = d2 - i := ⟨_, rfl⟩
              obtain ⟨d5, hd5e⟩ : ∃ d5, d5 = d3 - p := ⟨_, rfl⟩
              rw [← hd4e] at hcut1 hd4
              rw [← hd5e] at hcut2 hd5
              generalize (Y.map B).drop p = L4 at hcut1 hcut2 hC4' hC5' hd4 hd5 hks
              have HKS := Lib.hid hks
              have HC4 := Lib.hid hC4'
              have HC5 := Lib.hid hC5'
              clear hks hC4 hC5 hC4' hC5' hA4 hA5 hd4e hd5e hl4 hl5 hd hni hat hwc hsame hx
              have hS : ∀ n, Calls Try.prog 12 #[.slice A4 L4.length d4, .slice A5 L4.length d5] (wr.drewN n) fun e w'' => e = .returned (.bool true) ∧ ∃ m, w'' = wr.drewN m := fun n =>
                Calls.quiet_of ((hibernacleref01_Same.calls ks A4 d4 L4 A5 d5 L4 true (wr.drewN n) (Kd.C_drewN HC4.out n) hd4 (Kd.C_drewN HC5.out n) hd5 HKS.out).mono (by rintro e w' ⟨rfl, ⟨mq, rfl⟩⟩; exact ⟨rfl, mq, rfl⟩))
              have HSS := Lib.hid hS
              clear hS
              go_quiet ((go_at_call 12; exact HSS.out _))
              go_wp2
              go_roundw
              case rel => exact ⟨p, (p : Int) - 1, by omega, Lib.hid rfl, rfl, by have h1 := HTT.out; have h2 := HN0.out; rw [← h2, ← h1]; go_num, hown, pw_below_drewN hbw nq⟩
              case measure => first | (simp [intOf]; done) | (simp [intOf]; omega)
            · have hhas' : Maps.has D (.int .i64 ((N1 : Int) + s.size)) = false := by simpa using hhas
              clear hhas
              go_wp2_with (at_lookup; refine wpList_lookup_own_ok_int _ rfl _ _ 35 rfl 3 3 .i64 mlaw Try.underlying35 Try.underlying3 (mzero _) w3.heap.size m D rfl hown _ _ rfl (keyOf_int_mk Try.underlying3 (WalkArith.wf_i64 (by omega))) ?_; intro c hat hwc)
              go_quiet (fail)
              go_wp2
              go_roundw
              case rel => exact ⟨p, (p : Int) - 1, by omega, Lib.hid rfl, rfl, by have h1 := HTT.out; have h2 := HN0.out; rw [← h2, ← h1]; go_num, hown, pw_below_drewN hbw nq⟩
              case measure => first | (simp [intOf]; done) | (simp [intOf]; omega)
    | succ p =>
      obtain rfl : z = (p : Int) := by have := HZ.out; omega
      clear HZ
      have hp : p < X.length := by omega
      have hc := Kd.C_below HC2.out hbw
      obtain ⟨ad, rfl, hx⟩ := Kd.at_string (n := X.length) (xs := X.map B) hc (p : Int) (by omega) (by omega)
      rw [rd_B X p hp, Int.toNat_natCast] at hx
      obtain ⟨s, hs⟩ : ∃ s, s = B X[p] := ⟨_, rfl⟩
      rw [← hs] at hx
      have ht : (tot X (p + 1) : Nat) + s.size = tot X p := by rw [hs, B_size, tot_step X p hp]; omega
      have ht5 := HtX.out p
      have HMO := Lib.hid hmo
      have HS := Lib.hid hs
      obtain ⟨N1, hN1⟩ : ∃ N1, N1 = tot X (p + 1) := ⟨_, rfl⟩
      obtain ⟨N0, hN0⟩ : ∃ N0, N0 = tot X p := ⟨_, rfl⟩
      rw [← hN1, ← hN0] at ht
      rw [← hN0] at ht5
      rw [← hN1]
      have HN0 := Lib.hid hN0
      have HN1 := Lib.hid hN1
      have HTT := Lib.hid ht
      have bN1 : N1 ≤ 5000 := by omega
      have bs : s.size ≤ 5000 := by omega
      clear hs hmo hN1 hN0 ht hc
      go_wp2_with (at_mapUpdate; refine wpList_mapUpdate_own _ rfl _ _ _ 35 rfl 3 3 mlaw Try.underlying35 _ w3.heap.size m _ rfl hown (by unfold maxLen; omega) _ _ _ rfl rfl (keyOf_int_mk Try.underlying3 (WalkArith.wf_i64 (by omega))) _ [] (plainElem_int Try.underlying3 (WalkArith.wf_i64 (by omega))) ?_; intro w4 hown4 hgrow4)
      go_roundw
      case rel =>
        refine ⟨p, m + 1, (p : Int) - 1, _, by omega, by omega, Lib.hid rfl, rfl, ?_, hown4, ?_, hbw.grown hgrow4 hbw.size (fun j hj => by cases hj; exact Nat.le_refl _)⟩
        · have h1 := HTT.out
          have h2 := HN0.out
          rw [← h2, ← h1]
          go_num
        · have h1 := HTT.out
          have h2 := HN0.out
          have := mapOk_put HMO.out hown.isMap p hp
          rw [← h2, ← h1] at this
          exact this
      case measure => first | (simp [intOf]; done) | (simp [intOf]; omega)
/-- the law: what is alike is cut alike -/
theorem RollTails.calls (f0 f1 t : ByteArray) (c0 c1 c2 c3 : Int) (w : World) (h0 : f0.size ≤ 140737488351232) (h1 : f1.size ≤ 140737488351232) (h2 : t.size ≤ 140737488351232) :
    Calls Try.prog 4 #[.agg #[.string f0, .string f1], .string t, .agg #[.int .i64 c0, .int .i64 c1, .int .i64 c2, .int .u32 c3]] w (Tru w) := by
  by_cases hb : 5000 < f0.size + f1.size + t.size
  · exact tails_big f0 f1 t c0 c1 c2 c3 w h0 h1 h2 hb
  · by_cases hc : 1 ≤ c0 ∧ c0 ≤ 64 ∧ c0 ≤ c1 ∧ c1 ≤ c2 ∧ c2 ≤ 65536
    · exact tails_ok f0.data.toList f1.data.toList t.data.toList c0 c1 c2 c3 w (by rw [a_len, a_len, a_len]; omega) hc f0 f1 t (B_eta f0).symm (B_eta f1).symm (B_eta t).symm
    · exact tails_no f0 f1 t c0 c1 c2 c3 w (by omega) hc
end Go.Proofs.Ytameblpmojfdgaa.A
