/- Plain: the drive of a volume, the volume of a drive, and that two alike are told alike. -/
import Derived.Test.YtjfmnkmgnbbfgaaC4
import Derived.Test.YtjfmnkmgnbbfgaaA22
import Derived.Test.YtjfmnkmgnbbfgaaA24
import Derived.Test.YtjfmnkmgnbbfgaaAeq27
import Derived.Test.YtjfmnkmgnbbfgaaA29
set_option linter.unusedVariables false
set_option linter.unusedSimpArgs false
namespace Go.Proofs.Ytjfmnkmgnbbfgaa.A
open Go.RowKit Go.Proofs.YtjfmnkmgnbbfgaaW.PrintWords Go.Proofs.YtjfmnkmgnbbfgaaW.PrintLast Go.Proofs.YtjfmnkmgnbbfgaaW.PrintMore
def whole (v : List ByteArray) : Bool := v.all fun s => decide ((s.size : Int) = 128)
def formV (v : List ByteArray) : List ByteArray × List S27 × Int × Int :=
  if v.length < 1 ∨ 223 < v.length then ([], [], 0, 2) else if whole v then (List.replicate 33 zeroS ++ v, [], -1, 0) else ([], [], 0, 3)
theorem take_snocB (v : List ByteArray) (i : Nat) (hi : i < v.length) : v.take (i + 1) = v.take i ++ [v[i]] := (List.take_append_getElem hi).symm
theorem form_l1 (v : List ByteArray) (hn : v.length ≤ 223) (d : Nat) : ∀ k i, i + d = v.length → d < k →
    wal_Format.l1 k v (v.length : Int) (i : Int) (List.replicate 33 zeroS ++ v.take i) (-1) = some (if whole (v.drop i) then (List.replicate 33 zeroS ++ v, [], -1, 0) else ([], [], 0, 3)) := by
  induction d with
  | zero =>
    intro k i hi hk
    obtain ⟨k, rfl⟩ : ∃ m, k = m + 1 := ⟨k - 1, by omega⟩
    simp only [wal_Format.l1]
    rw [if_neg (by omega), List.take_of_length_le (by omega), List.drop_of_length_le (by omega)]
    rfl
  | succ d ih =>
    intro k i hi hk
    obtain ⟨k, rfl⟩ : ∃ m, k = m + 1 := ⟨k - 1, by omega⟩
    have hlt : i < v.length := by omega
    simp only [wal_Format.l1]
    rw [if_pos (by omega), if_pos (by omega), if_pos (by omega), rdN v i hlt, List.drop_eq_getElem_cons hlt]
    by_cases h : (v[i].size : Int) = 128
    · rw [if_pos h, if_pos (by simp; omega), List.append_assoc, ← take_snocB v i hlt, wrapS (by omega), ih k (i + 1) (by omega) (by omega)]
      simp only [whole, List.all_cons, decide_eq_true h, Bool.true_and]
      rfl
    · rw [if_neg h]
      simp only [whole, List.all_cons, decide_eq_false h, Bool.false_and, Bool.false_eq_true, if_false]
theorem form_l0 (v : List ByteArray) (hn : v.length ≤ 223) (d : Nat) : ∀ k i, i + d = 33 → v.length + d + 1 < k →
    wal_Format.l0 k v (i : Int) (List.replicate i zeroS) (-1) = some (if whole v then (List.replicate 33 zeroS ++ v, [], -1, 0) else ([], [], 0, 3)) := by
  induction d with
  | zero =>
    intro k i hi hk
    obtain ⟨k, rfl⟩ : ∃ m, k = m + 1 := ⟨k - 1, by omega⟩
    obtain rfl : i = 33 := by omega
    simp only [wal_Format.l0]
    rw [if_neg (by omega)]
    have := form_l1 v hn v.length k 0 (by omega) (by omega)
    rw [List.take_zero, List.append_nil, List.drop_zero] at this
    exact this
  | succ d ih =>
    intro k i hi hk
    obtain ⟨k, rfl⟩ : ∃ m, k = m + 1 := ⟨k - 1, by omega⟩
    have hz : wal_zeros.f 128 = some zeroS := wzeros 128 (by omega)
    simp only [wal_Format.l0]
    rw [if_pos (by omega), hz, Option.bind_some, if_pos (by simp; omega), wrapS (by omega), ← List.replicate_succ']
    exact ih k (i + 1) (by omega) (by omega)
theorem form_some (v : List ByteArray) (k : Nat) (hk : v.length + 40 < k) : wal_Format.f k v = some (formV v) := by
  obtain ⟨k, rfl⟩ : ∃ m, k = m + 1 := ⟨k - 1, by omega⟩
  unfold wal_Format.f formV
  by_cases h1 : v.length < 1
  · rw [if_pos (by omega), if_pos (.inl h1)]
    simp only [wal_Format.j0, if_true]
  · rw [if_neg (by omega)]
    by_cases h2 : 223 < v.length
    · rw [if_pos (.inr h2), decide_eq_true (by omega)]
      simp only [wal_Format.j0, if_true]
    · rw [if_neg (by omega), decide_eq_false (by omega)]
      simp only [wal_Format.j0, Bool.false_eq_true, if_false]
      exact form_l0 v (by omega) 33 k 0 (by omega) (by omega)
/-- the volume of a drive -/
def volL (b : List ByteArray) (p : List S27) : List ByteArray := (List.range (b.length - 33)).map fun j : Nat => getV b p ((33 + j : Nat) : Int)
def homeL (b : List ByteArray) (p : List S27) : List ByteArray := if badV b p = 0 then volL b p else []
theorem home_l0 (b : List ByteArray) (p : List S27) (a : Int) (hb : b.length ≤ 256) (hp : p.length ≤ 1000) (d : Nat) : ∀ k i, 33 + i + d = b.length → d < k →
    wal_Home.l0 k ((List.range i).map fun j : Nat => getV b p ((33 + j : Nat) : Int)) ((33 + i : Nat) : Int) b p a = some (volL b p) := by
  induction d with
  | zero =>
    intro k i hi hk
    obtain ⟨k, rfl⟩ : ∃ m, k = m + 1 := ⟨k - 1, by omega⟩
    simp only [wal_Home.l0]
    rw [if_neg (by omega), volL, show b.length - 33 = i by omega]
  | succ d ih =>
    intro k i hi hk
    obtain ⟨k, rfl⟩ : ∃ m, k = m + 1 := ⟨k - 1, by omega⟩
    have e := ih k (i + 1) (by omega) (by omega)
    rw [List.range_succ, List.map_append] at e
    have hd : drive_Get.f b p a ((33 + i : Nat) : Int) = some (getV b p ((33 + i : Nat) : Int), 0) := by rw [dget_many b p a _ hp, if_neg (by omega)]
    simp only [wal_Home.l0]
    rw [if_pos (by omega), hd, Option.bind_some, if_pos (by simp; omega), wrapS (by omega)]
    exact e
theorem home_some (b : List ByteArray) (p : List S27) (a : Int) (hp : p.length ≤ 1000) (k : Nat) (hk : 300 < k) : wal_Home.f k b p a = some (homeL b p) := by
  unfold wal_Home.f homeL
  rw [bad_some b p a (by omega), Option.bind_some]
  by_cases h : badV b p = 0
  · rw [if_pos h, if_pos h]
    obtain ⟨hv, h3⟩ := badV_zero h
    have h256 := hv.1
    exact home_l0 b p a hv.1 hp (b.length - 33) k 0 (by omega) (by omega)
  · rw [if_neg h, if_neg h]
theorem sameb_l0 (l : List ByteArray) (hl : l.length ≤ 1000000) (d : Nat) : ∀ k i, i + d = l.length → d < k → hibernacleref16_SameBlocks.l0 k l l (l.length : Int) (i : Int) = some true := by
  induction d with
  | zero =>
    intro k i hi hk
    obtain ⟨k, rfl⟩ : ∃ m, k = m + 1 := ⟨k - 1, by omega⟩
    simp only [hibernacleref16_SameBlocks.l0]
    rw [if_neg (by omega)]
  | succ d ih =>
    intro k i hi hk
    obtain ⟨k, rfl⟩ : ∃ m, k = m + 1 := ⟨k - 1, by omega⟩
    simp only [hibernacleref16_SameBlocks.l0]
    rw [if_pos (by omega), if_pos (by omega), if_pos (by omega), if_pos (by omega), if_pos trivial, wrapS (by omega)]
    exact ih k (i + 1) (by omega) (by omega)
theorem sameb (l : List ByteArray) (hl : l.length ≤ 1000000) (k : Nat) (hk : l.length < k) : hibernacleref16_SameBlocks.f k l l = some true := by
  unfold hibernacleref16_SameBlocks.f
  rw [if_pos rfl]
  exact sameb_l0 l hl l.length k 0 (by omega) hk
theorem samed_l0 (b : List ByteArray) (l : List S27) (a : Int) (hl : l.length ≤ 1000000) (d : Nat) : ∀ k i, i + d = l.length → d < k → hibernacleref16_SameDrive.l0 k (l.length : Int) (i : Int) b l a b l a = some true := by
  induction d with
  | zero =>
    intro k i hi hk
    obtain ⟨k, rfl⟩ : ∃ m, k = m + 1 := ⟨k - 1, by omega⟩
    simp only [hibernacleref16_SameDrive.l0]
    rw [if_neg (by omega)]
  | succ d ih =>
    intro k i hi hk
    obtain ⟨k, rfl⟩ : ∃ m, k = m + 1 := ⟨k - 1, by omega⟩
    simp only [hibernacleref16_SameDrive.l0]
    rw [if_pos (by omega), if_pos (by omega), if_pos (by omega), if_pos (by omega), if_neg (by simp), wrapS (by omega)]
    exact ih k (i + 1) (by omega) (by omega)
theorem samed (b : List ByteArray) (l : List S27) (a : Int) (hb : b.length ≤ 1000000) (hl : l.length ≤ 1000000) (k : Nat) (hk : b.length + l.length + 2 < k) : hibernacleref16_SameDrive.f k b l a b l a = some true := by
  obtain ⟨k, rfl⟩ : ∃ m, k = m + 1 := ⟨k - 1, by omega⟩
  unfold hibernacleref16_SameDrive.f
  rw [if_pos rfl, if_pos rfl, sameb b hb (k + 1) (by omega), Option.bind_some]
  simp only [hibernacleref16_SameDrive.j0, Bool.not_true, Bool.false_eq_true, if_false]
  exact samed_l0 b l a hl l.length k 0 (by omega) (by omega)
end Go.Proofs.Ytjfmnkmgnbbfgaa.A
