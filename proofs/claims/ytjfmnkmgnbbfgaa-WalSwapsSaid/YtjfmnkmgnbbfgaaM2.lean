/- The words of a journal's head: two-byte numbers, noughts, the front, the head; and that num.Put, zeros and their like in the document give them. -/
import Derived.Test.YtjfmnkmgnbbfgaaM1
import Derived.Test.YtjfmnkmgnbbfgaaA96
import Derived.Test.YtjfmnkmgnbbfgaaA98
import Derived.Test.YtjfmnkmgnbbfgaaA100
set_option linter.unusedVariables false
set_option linter.unusedSimpArgs false
namespace Go.Proofs.Ytjfmnkmgnbbfgaa.A
open Go.RowKit Go.Proofs.YtjfmnkmgnbbfgaaW.PrintWords Go.Proofs.YtjfmnkmgnbbfgaaW.PrintLast Go.Proofs.YtjfmnkmgnbbfgaaW.PrintMore
def le2 (x : Int) : ByteArray := strOfNums [x % 256, (x / 256) % 256]
theorem le2_size (x : Int) : (le2 x).size = 2 := by simp [le2, strOfNums_size]
theorem strOfNums_app (a b : List Int) : strOfNums (a ++ b) = strOfNums a ++ strOfNums b := by
  apply ByteArray.ext
  simp [strOfNums, ByteArray.data_append]
theorem nilB_app (a : ByteArray) : (⟨#[]⟩ : ByteArray) ++ a = a := by
  apply ByteArray.ext
  simp [ByteArray.data_append]
theorem put2 (x : Int) (h0 : 0 ≤ x) (h1 : x < 65536) (k : Nat) (hk : 2 < k) : num_Put.f k x 2 = some (le2 x) := by
  obtain ⟨k, rfl⟩ : ∃ j, k = j + 3 := ⟨k - 3, by omega⟩
  have e0 : mn (mx 2 0) 8 = 2 := by decide
  unfold num_Put.f
  rw [e0]
  have e1 : wrap64 0 = 0 := by unfold wrap64; omega
  have e2 : wrap64 1 = 1 := by unfold wrap64; omega
  have e3 : wrap64 8 = 8 := by unfold wrap64; omega
  have e4 : wrap64 2 = 2 := by unfold wrap64; omega
  have s0 : shr .u64 x 0 = x := by simp [shr]
  have s1 : shr .u64 x 8 = x / 256 := by
    show x / 2 ^ min (8 : Int).toNat 64 = _
    show x / ((2 : Int) ^ 8) = _
    rfl
  simp [num_Put.l0, e1, e2, e3, e4, s0, s1, le2, List.replicate]
theorem rput2 (x : Int) (h0 : 0 ≤ x) (h1 : x < 65536) (k : Nat) (hk : 2 < k) : hibernacleref01_Put.f k x 2 = some (le2 x) := by
  obtain ⟨k, rfl⟩ : ∃ j, k = j + 3 := ⟨k - 3, by omega⟩
  have e2 : wrap64 (0 + 1) = 1 := by unfold wrap64; omega
  have e4 : wrap64 (1 + 1) = 2 := by unfold wrap64; omega
  have t0 : Int.tmod x 256 % 256 = x % 256 := by rw [Int.tmod_eq_emod_of_nonneg h0]; omega
  have d0 : Int.tdiv x 256 = x / 256 := Int.tdiv_eq_ediv_of_nonneg h0
  have w0 : IntKind.u64.wrap (x / 256) = x / 256 := by
    have hb : IntKind.u64.bits = 64 := rfl
    have hs : IntKind.u64.signed = false := rfl
    unfold IntKind.wrap
    simp only [hb, hs, Bool.false_and, Bool.false_eq_true, if_false]
    omega
  have t1 : Int.tmod (x / 256) 256 % 256 = (x / 256) % 256 := by rw [Int.tmod_eq_emod_of_nonneg (by omega)]; omega
  unfold hibernacleref01_Put.f
  simp only [hibernacleref01_Put.l0, e2, e4, t0, d0, w0, t1]
  have z1 : (⟨#[]⟩ : ByteArray).size + (strOfNums [x % 256]).size ≤ 9223372036854775807 := by rw [strOfNums_size]; simp [ByteArray.size]
  have z2 : ((⟨#[]⟩ : ByteArray) ++ strOfNums [x % 256]).size + (strOfNums [x / 256 % 256]).size ≤ 9223372036854775807 := by rw [nilB_app, strOfNums_size, strOfNums_size]; simp
  simp only [Option.bind_some, if_pos z1, if_pos z2, show ((0 : Int) < 2) = True from by decide, show ((0 : Int) < 8) = True from by decide, show ((1 : Int) < 2) = True from by decide, show ((1 : Int) < 8) = True from by decide, show ((2 : Int) < 2) = False from by decide, if_true, if_false]
  rw [nilB_app, le2, ← strOfNums_app]
  rfl
/-- so many noughts -/
def zeroB (n : Nat) : ByteArray := repB ⟨#[0]⟩ n
theorem repL_succ (s : List UInt8) (n : Nat) : Lib.repeatL s (n + 1) = s ++ Lib.repeatL s n := rfl
theorem repL_snoc (s : List UInt8) (n : Nat) : Lib.repeatL s (n + 1) = Lib.repeatL s n ++ s := by
  induction n with
  | zero => simp [Lib.repeatL]
  | succ n ih => rw [repL_succ, ih, ← List.append_assoc, ← repL_succ, ih]
theorem repL_one (n : Nat) : Lib.repeatL [(0 : UInt8)] n = List.replicate n 0 := by
  induction n with
  | zero => rfl
  | succ n ih => rw [repL_succ, ih]; rfl
theorem zeroB_size (n : Nat) : (zeroB n).size = n := by
  show (Lib.repeatL [(0 : UInt8)] n).toArray.size = n
  rw [repL_one]; simp
theorem zeroB_succ (n : Nat) : zeroB (n + 1) = zeroB n ++ ⟨#[0]⟩ := by
  apply ByteArray.ext
  rw [ByteArray.data_append]
  show (Lib.repeatL [(0 : UInt8)] (n + 1)).toArray = (Lib.repeatL [(0 : UInt8)] n).toArray ++ #[0]
  rw [repL_snoc]; simp
theorem zeroS_B : zeroS = zeroB 128 := rfl
theorem wzeros (n : Nat) (hn : n ≤ 1000) : wal_zeros.f (n : Int) = some (zeroB n) := by
  have h : strings_Repeat.f (⟨#[0]⟩ : ByteArray) (n : Int) = some (zeroB n) := by
    unfold strings_Repeat.f
    have h1 : (⟨#[0]⟩ : ByteArray).size = 1 := rfl
    rw [if_pos ⟨by omega, by omega, by rw [h1]; omega⟩]
    rfl
  rw [wal_zeros.f, h]; rfl
theorem rzeros_l0 (n : Nat) (hn : n ≤ 1000) (d : Nat) : ∀ k i, i + d = n → d < k → hibernacleref16_zeros.l0 k (n : Int) (zeroB i) (i : Int) = some (zeroB n) := by
  induction d with
  | zero =>
    intro k i hi hk
    obtain ⟨k, rfl⟩ : ∃ j, k = j + 1 := ⟨k - 1, by omega⟩
    obtain rfl : i = n := by omega
    unfold hibernacleref16_zeros.l0
    rw [if_neg (by omega)]
  | succ d ih =>
    intro k i hi hk
    obtain ⟨k, rfl⟩ : ∃ j, k = j + 1 := ⟨k - 1, by omega⟩
    unfold hibernacleref16_zeros.l0
    rw [if_pos (by omega), if_pos (by rw [zeroB_size]; omega), ← zeroB_succ, wrapS (by omega)]
    exact ih k (i + 1) (by omega) (by omega)
theorem rzeros (n : Nat) (hn : n ≤ 1000) (k : Nat) (hk : n < k) : hibernacleref16_zeros.f k (n : Int) = some (zeroB n) := rzeros_l0 n hn n k 0 (by omega) hk
/-- the front with the places in it -/
def frontL (l : List S27) (acc : ByteArray) : ByteArray := l.foldl (fun a x => a ++ le2 x.f0) acc
def markB : ByteArray := ⟨#[104, 105, 98, 106]⟩
def frontV (l : List S27) : ByteArray := frontL l (markB ++ le2 l.length)
def frontZ (l : List S27) : ByteArray := frontV l ++ zeroB (70 - (frontV l).size)
def sumV (l : List S27) : ByteArray := strOfNums (digF hSum (joinS (frontZ l :: l.map (·.f1))))
def headV (l : List S27) : ByteArray := frontZ l ++ sumV l ++ zeroB 26
theorem frontL_size (l : List S27) : ∀ acc, (frontL l acc).size = acc.size + 2 * l.length := by
  induction l with
  | nil => intro acc; rfl
  | cons x l ih =>
    intro acc
    show (frontL l (acc ++ le2 x.f0)).size = _
    rw [ih, ByteArray.size_append, le2_size, List.length_cons]; omega
theorem frontV_size (l : List S27) : (frontV l).size = 6 + 2 * l.length := by
  rw [frontV, frontL_size, ByteArray.size_append, le2_size]
  rfl
theorem frontZ_size (l : List S27) (h : l.length ≤ 32) : (frontZ l).size = 70 := by
  rw [frontZ, ByteArray.size_append, zeroB_size, frontV_size]; omega
theorem frontL_snoc (l : List S27) (j : Nat) (hj : j < l.length) (acc : ByteArray) : frontL (l.take (j + 1)) acc = frontL (l.take j) acc ++ le2 l[j].f0 := by
  rw [← List.take_append_getElem hj, frontL, List.foldl_append]
  rfl
theorem sumV_size (l : List S27) : (sumV l).size = 32 := by
  rw [sumV, strOfNums_size]
  simp [digF, fillB_length]
theorem headV_size (l : List S27) (h : l.length ≤ 32) : (headV l).size = 128 := by
  rw [headV, ByteArray.size_append, ByteArray.size_append, zeroB_size, frontZ_size l h, sumV_size]
/-- writes whose head may be told -/
def Fit (l : List S27) : Prop := l.length ≤ 32 ∧ (∀ x ∈ l, 0 ≤ x.f0 ∧ x.f0 < 65536) ∧ ∀ x ∈ l, x.f1.size = 128
theorem fit_mayL (n : Int) (hn : n ≤ 65536) (l : List S27) : ∀ S, mayL n S l = 0 → (∀ x ∈ l, 0 ≤ x.f0 ∧ x.f0 < n) ∧ ∀ x ∈ l, x.f1.size = 128 := by
  induction l with
  | nil => intro S h; simp
  | cons x l ih =>
    intro S h
    rw [mayL] at h
    split at h
    · cases h
    · split at h
      · split at h
        · cases h
        · obtain ⟨h1, h2⟩ := ih _ h
          refine ⟨fun y hy => ?_, fun y hy => ?_⟩
          · rcases List.mem_cons.1 hy with rfl | hy
            · omega
            · exact h1 y hy
          · rcases List.mem_cons.1 hy with rfl | hy
            · assumption
            · exact h2 y hy
      · cases h
theorem fit_may (n : Int) (hn : n ≤ 65536) (l : List S27) (h : mayV l n = 0) : Fit l := by
  unfold mayV at h
  split at h
  · cases h
  · obtain ⟨h1, h2⟩ := fit_mayL n hn l [] h
    exact ⟨by omega, fun x hx => ⟨(h1 x hx).1, by have := (h1 x hx).2; omega⟩, h2⟩
end Go.Proofs.Ytjfmnkmgnbbfgaa.A
