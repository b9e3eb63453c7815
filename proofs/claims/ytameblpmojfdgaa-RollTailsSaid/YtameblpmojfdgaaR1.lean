/- Plain lemmas on sums of windows: the sum of a text by its bytes, and how it goes on by one byte. No program. -/
import Derived.Test.YtameblpmojfdgaaWWords
namespace Go.Proofs.Ytameblpmojfdgaa.A
open Go.RowKit Go.Proofs.YtameblpmojfdgaaW.PrintWords

def stepS (n : Int) (b : UInt8) : Int := (n * 69069 + b.toNat + 1) % 4294967296
def sumL (n : Int) (l : List UInt8) : Int := l.foldl stepS n
def sumB (s : ByteArray) : Int := sumL 0 s.data.toList
def powN : Nat → Int
  | 0 => 1
  | n + 1 => (powN n * 69069) % 4294967296

theorem emodr (a b : Int) (h : ∃ c, a = b + 4294967296 * c) : a % 4294967296 = b % 4294967296 := by
  obtain ⟨c, rfl⟩ := h
  omega
theorem emodx (a : Int) : ∃ c, a % 4294967296 = a + 4294967296 * c := ⟨-(a / 4294967296), by omega⟩

theorem stepS_range (n : Int) (b : UInt8) : 0 ≤ stepS n b ∧ stepS n b < 4294967296 := by unfold stepS; omega
theorem sumL_range (l : List UInt8) : ∀ n, 0 ≤ n → n < 4294967296 → 0 ≤ sumL n l ∧ sumL n l < 4294967296 := by
  induction l with
  | nil => intro n h0 h1; exact ⟨h0, h1⟩
  | cons b l ih =>
    intro n h0 h1
    have := stepS_range n b
    exact ih (stepS n b) this.1 this.2
theorem sumB_range (s : ByteArray) : 0 ≤ sumB s ∧ sumB s < 4294967296 := sumL_range _ 0 (by omega) (by omega)
theorem powN_range (n : Nat) : 0 ≤ powN n ∧ powN n < 4294967296 := by
  cases n with
  | zero => exact ⟨by decide, by decide⟩
  | succ n => unfold powN; omega
theorem sumL_snoc (n : Int) (l : List UInt8) (b : UInt8) : sumL n (l ++ [b]) = stepS (sumL n l) b := by
  unfold sumL; rw [List.foldl_append]; rfl
theorem sumL_cons (n : Int) (b : UInt8) (l : List UInt8) : sumL n (b :: l) = sumL (stepS n b) l := rfl
theorem powN_eq (n : Nat) : ∃ c, powN n = (69069 : Int) ^ n + 4294967296 * c := by
  induction n with
  | zero => exact ⟨0, by decide⟩
  | succ n ih =>
    obtain ⟨c, hc⟩ := ih
    obtain ⟨d, hd⟩ := emodx (powN n * 69069)
    refine ⟨d + c * 69069, ?_⟩
    show (powN n * 69069) % 4294967296 = _
    rw [hd, hc, Int.pow_succ]
    generalize (69069 : Int) ^ n = P
    grind
/-- what a start brings, many bytes later -/
theorem sumL_start (l : List UInt8) : ∀ n : Int, ∃ c, sumL n l = n * (69069 : Int) ^ l.length + sumL 0 l + 4294967296 * c := by
  induction l with
  | nil => intro n; exact ⟨0, by simp [sumL]⟩
  | cons b l ih =>
    intro n
    obtain ⟨c1, h1⟩ := ih (stepS n b)
    obtain ⟨c2, h2⟩ := ih (stepS 0 b)
    obtain ⟨d1, e1⟩ := emodx (n * 69069 + b.toNat + 1)
    obtain ⟨d2, e2⟩ := emodx (0 * 69069 + b.toNat + 1)
    rw [sumL_cons, sumL_cons, h1, h2]
    refine ⟨d1 * (69069 : Int) ^ l.length + c1 - d2 * (69069 : Int) ^ l.length - c2, ?_⟩
    unfold stepS
    rw [e1, e2, List.length_cons, Int.pow_succ]
    generalize (69069 : Int) ^ l.length = P
    generalize sumL 0 l = S
    generalize ((b.toNat : Nat) : Int) = B
    grind
/-- a window's sum, one byte further on: without the byte that leaves it, and with the one that comes -/
theorem roll_next (x y : UInt8) (l : List UInt8) :
    sumL 0 (l ++ [y]) = (sumL 0 (x :: l) * 69069 + y.toNat + 1 - powN (l.length + 1) * (x.toNat + 1)) % 4294967296 := by
  rw [sumL_snoc, sumL_cons]
  obtain ⟨c, hc⟩ := sumL_start l (stepS 0 x)
  obtain ⟨d, hd⟩ := powN_eq (l.length + 1)
  obtain ⟨q, hq⟩ := emodx (0 * 69069 + x.toNat + 1)
  rw [hc, hd]
  unfold stepS
  rw [hq, Int.pow_succ]
  apply emodr
  generalize (69069 : Int) ^ l.length = P
  generalize sumL 0 l = S
  generalize ((x.toNat : Nat) : Int) = X
  generalize ((y.toNat : Nat) : Int) = Y
  exact ⟨-((q * P + c) * 69069 - d * (X + 1)), by grind⟩

/-- the sum of the window that ends at i -/
def rollN (L : List UInt8) (win i : Nat) : Int := sumL 0 ((L.drop (i - win)).take win)
theorem rollN_next (L : List UInt8) (win i j : Nat) (hw : 1 ≤ win) (hj : win + j = i) (h : i < L.length) :
    rollN L win (i + 1) = (rollN L win i * 69069 + (L[i]'h).toNat + 1 - powN win * ((L[j]'(by omega)).toNat + 1)) % 4294967296 := by
  obtain ⟨m, rfl⟩ : ∃ m, win = m + 1 := ⟨win - 1, by omega⟩
  have hj' : j < L.length := by omega
  have e1 : (L.drop (i - (m + 1))).take (m + 1) = L[j] :: (L.drop (j + 1)).take m := by
    have : i - (m + 1) = j := by omega
    rw [this, List.drop_eq_getElem_cons hj', List.take_succ_cons]
  have e2 : (L.drop (i + 1 - (m + 1))).take (m + 1) = (L.drop (j + 1)).take m ++ [L[i]] := by
    have : i + 1 - (m + 1) = j + 1 := by omega
    rw [this, List.take_succ_eq_append_getElem (by rw [List.length_drop]; omega)]
    congr 2
    rw [List.getElem_drop]
    congr 1
    omega
  unfold rollN
  rw [e1, e2, roll_next L[j] L[i]]
  have : ((L.drop (j + 1)).take m).length = m := by rw [List.length_take, List.length_drop]; omega
  rw [this]
theorem rollN_range (L : List UInt8) (win i : Nat) : 0 ≤ rollN L win i ∧ rollN L win i < 4294967296 := sumL_range _ 0 (by omega) (by omega)
theorem toList_extract (s : ByteArray) (a b : Nat) : (s.extract a b).data.toList = (s.data.toList.drop a).take (b - a) := by
  rw [ByteArray.data_extract, Array.toList_extract]
theorem sumB_window (s : ByteArray) (a b win : Nat) (h : a + win = b) : sumB (s.extract a b) = rollN s.data.toList win b := by
  unfold sumB rollN
  rw [toList_extract]
  have e1 : b - a = win := by omega
  have e2 : b - win = a := by omega
  rw [e1, e2]
/-- the place where the first chunk ends -/
def firstI (L : List UInt8) (win : Nat) (mx mask : Int) : Nat → Nat → Nat
  | 0, i => i
  | f + 1, i => if Go.bits .and .u32 (rollN L win i) mask = mask then i else if (i : Int) = mx then i else if i = L.length then i else firstI L win mx mask f (i + 1)
def roll_first.f (a0 : ByteArray) (c0 c1 c2 c3 : Int) : Option Int :=
  if 1 ≤ c0 ∧ c0 ≤ c1 ∧ a0.size ≤ 140737488351232 then
    (if (a0.size : Int) ≤ c1 then some (a0.size : Int) else some (firstI a0.data.toList c0.toNat c2 c3 (a0.size - c1.toNat) c1.toNat : Int))
  else none
end Go.Proofs.Ytameblpmojfdgaa.A
