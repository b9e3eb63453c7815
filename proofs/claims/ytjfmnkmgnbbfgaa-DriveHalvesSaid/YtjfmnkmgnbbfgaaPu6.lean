/- The plain law of DriveHalves. -/
import Derived.Test.YtjfmnkmgnbbfgaaA6
import Derived.Test.YtjfmnkmgnbbfgaaD2
set_option linter.unusedVariables false
namespace Go.Proofs.Ytjfmnkmgnbbfgaa.A
open Go.RowKit Go.Proofs.YtjfmnkmgnbbfgaaW.PrintWords Go.Proofs.YtjfmnkmgnbbfgaaW.PrintLast Go.Proofs.YtjfmnkmgnbbfgaaW.PrintMore
theorem half_first (x y : ByteArray) (hx : x.size = 128) : (x.extract 0 64 ++ y.extract 64 y.size).extract 0 64 = x.extract 0 64 := by
  rw [ByteArray.extract_append_eq_left]
  rw [ByteArray.size_extract]
  omega
theorem half_second (x y : ByteArray) (hx : x.size = 128) (hy : y.size = 128) : (x.extract 0 64 ++ y.extract 64 y.size).extract 64 (x.extract 0 64 ++ y.extract 64 y.size).size = y.extract 64 y.size := by
  have h1 : (x.extract 0 64).size = 64 := by rw [ByteArray.size_extract]; omega
  rw [ByteArray.size_append]
  rw [ByteArray.extract_append_eq_right]
  · omega
  · rfl

def H1 (s : ByteArray) : ByteArray := s.extract 0 64
def H2 (s : ByteArray) : ByteArray := s.extract 64 s.size
/-- each half of block j of l is as b, or one of p, has it -/
def OkH (H : ByteArray → ByteArray) (l b : List ByteArray) (p : List S27) (j : Int) : Prop := H (rdOf ByteArray.empty l j) = H (rdOf ByteArray.empty b j) ∨ ∃ x ∈ p, x.f0 = j ∧ H (rdOf ByteArray.empty l j) = H x.f1
theorem endV_half (h : Int) (hh : h = 0 ∨ h = 1 ∨ h = 2) (was now : ByteArray) (hw : (was.size : Int) = 128) (hn : (now.size : Int) = 128) :
    ((endV h was now).size : Int) = 128 ∧ (H1 (endV h was now) = H1 was ∨ H1 (endV h was now) = H1 now) ∧ (H2 (endV h was now) = H2 was ∨ H2 (endV h was now) = H2 now) := by
  rcases hh with rfl | rfl | rfl
  · exact ⟨hw, .inl rfl, .inl rfl⟩
  · exact ⟨hn, .inr rfl, .inr rfl⟩
  · have e : endV 2 was now = now.extract 0 64 ++ was.extract 64 was.size := rfl
    rw [e]
    refine ⟨?_, .inr (half_first now was (by omega)), .inl (half_second now was (by omega) (by omega))⟩
    rw [ByteArray.size_append, ByteArray.size_extract, ByteArray.size_extract]
    omega
theorem land_halves (hv : Nat → Int) (hh : ∀ q, hv q = 0 ∨ hv q = 1 ∨ hv q = 2) (p : List S27) : ∀ (q : Nat) (b : List ByteArray), Valid b p →
    (landTo b.length hv q p b).length = b.length ∧ (∀ s ∈ landTo b.length hv q p b, (s.size : Int) = 128) ∧ ∀ j : Int, 0 ≤ j → j < b.length → OkH H1 (landTo b.length hv q p b) b p j ∧ OkH H2 (landTo b.length hv q p b) b p j := by
  induction p with
  | nil =>
    intro q b h
    exact ⟨rfl, h.2.1, fun j _ _ => ⟨.inl rfl, .inl rfl⟩⟩
  | cons x p ih =>
    intro q b h
    obtain ⟨z0, z1, z2⟩ := lookV_zero (h.2.2 x (by simp))
    have hw : ((rdOf ByteArray.empty b x.f0).size : Int) = 128 := h.2.1 _ (rd_mem b x.f0 z0 z1)
    obtain ⟨y0, y1, y2⟩ := endV_half (hv q) (hh q) (rdOf ByteArray.empty b x.f0) x.f1 hw z2
    have hst : landStep b.length (hv q) x b = b.set x.f0.toNat (endV (hv q) (rdOf ByteArray.empty b x.f0) x.f1) := by
      unfold landStep
      rw [if_pos ⟨h.2.2 x (by simp), hw⟩]
    generalize endV (hv q) (rdOf ByteArray.empty b x.f0) x.f1 = v at hst y0 y1 y2
    have hlen : (b.set x.f0.toNat v).length = b.length := List.length_set
    have hvd : Valid (b.set x.f0.toNat v) p := by
      refine ⟨by rw [hlen]; exact h.1, ?_, fun y hy => by rw [hlen]; exact h.2.2 y (by simp [hy])⟩
      intro s hs
      rcases List.mem_or_eq_of_mem_set hs with hs | rfl
      · exact h.2.1 s hs
      · exact y0
    have := ih (q + 1) _ hvd
    rw [hlen] at this
    obtain ⟨a1, a2, a3⟩ := this
    rw [landTo, hst]
    refine ⟨a1, a2, fun j j0 j1 => ?_⟩
    obtain ⟨b1, b2⟩ := a3 j j0 j1
    have hr := rd_set b x.f0 j v z0 z1 j0
    constructor
    · rcases b1 with b1 | ⟨y, hy, e1, e2⟩
      · rw [hr] at b1
        by_cases hx : x.f0 = j
        · rw [if_pos hx] at b1
          rcases y1 with y1 | y1
          · exact .inl (by rw [b1, y1, hx])
          · exact .inr ⟨x, by simp, hx, by rw [b1, y1]⟩
        · rw [if_neg hx] at b1
          exact .inl b1
      · exact .inr ⟨y, by simp [hy], e1, e2⟩
    · rcases b2 with b2 | ⟨y, hy, e1, e2⟩
      · rw [hr] at b2
        by_cases hx : x.f0 = j
        · rw [if_pos hx] at b2
          rcases y2 with y2 | y2
          · exact .inl (by rw [b2, y2, hx])
          · exact .inr ⟨x, by simp, hx, by rw [b2, y2]⟩
        · rw [if_neg hx] at b2
          exact .inl b2
      · exact .inr ⟨y, by simp [hy], e1, e2⟩

/-- the flag of a half: it stood, or one of the rest has it -/
def Flag (H : ByteArray → ByteArray) (s : ByteArray) (j : Int) (f : Bool) (r : List S27) : Prop := f = true ∨ ∃ x ∈ r, x.f0 = j ∧ H s = H x.f1
theorem toList_beq (a b : ByteArray) (h : a = b) : (a.toList == b.toList) = true := by rw [h]; simp
theorem flag_step (H : ByteArray → ByteArray) (s : ByteArray) (j : Int) (f : Bool) (x : S27) (r : List S27) (hx : x.f0 = j) (h : Flag H s j f (x :: r)) (hf : f = false) : Flag H s j ((H s).toList == (H x.f1).toList) r := by
  rcases h with h | ⟨y, hy, e1, e2⟩
  · rw [hf] at h; cases h
  · rcases List.mem_cons.1 hy with rfl | hy
    · exact .inl (toList_beq _ _ e2)
    · exact .inr ⟨y, hy, e1, e2⟩
theorem flag_skip (H : ByteArray → ByteArray) (s : ByteArray) (j : Int) (f : Bool) (x : S27) (r : List S27) (hx : ¬ x.f0 = j) (h : Flag H s j f (x :: r)) : Flag H s j f r := by
  rcases h with h | ⟨y, hy, e1, e2⟩
  · exact .inl h
  · rcases List.mem_cons.1 hy with rfl | hy
    · exact absurd e1 hx
    · exact .inr ⟨y, hy, e1, e2⟩
theorem halves_l1 (l b : List ByteArray) (p : List S27) (a : Int) (j : Nat) (s : ByteArray) (hp : p.length ≤ 60) (hs : (s.size : Int) = 128) (hz : ∀ x ∈ p, (x.f1.size : Int) = 128) (R : Option Bool) (d : Nat) : ∀ k q f1 f2, q + d = p.length → d < k →
    Flag H1 s j f1 (p.drop q) → Flag H2 s j f2 (p.drop q) → (∀ k', k ≤ k' + d + 1 → hibernaclelaw15_DriveHalves.l0 k' l (l.length : Int) (wrap64 ((j : Int) + 1)) b p a = some true) →
    hibernaclelaw15_DriveHalves.l1 k (j : Int) s f1 f2 l (l.length : Int) (j : Int) p (p.length : Int) (q : Int) b p a = some true := by
  induction d with
  | zero =>
    intro k q f1 f2 hi hk g1 g2 hR
    obtain ⟨k, rfl⟩ : ∃ m, k = m + 1 := ⟨k - 1, by omega⟩
    simp only [hibernaclelaw15_DriveHalves.l1]
    rw [List.drop_of_length_le (by omega)] at g1 g2
    have e1 : f1 = true := by rcases g1 with h | ⟨x, hx, _⟩; exact h; simp at hx
    have e2 : f2 = true := by rcases g2 with h | ⟨x, hx, _⟩; exact h; simp at hx
    rw [if_neg (by omega), if_pos e1, if_pos e2]
    exact hR k (by omega)
  | succ d ih =>
    intro k q f1 f2 hi hk g1 g2 hR
    obtain ⟨k, rfl⟩ : ∃ m, k = m + 1 := ⟨k - 1, by omega⟩
    have hlt : q < p.length := by omega
    rw [List.drop_eq_getElem_cons hlt] at g1 g2
    have hxs := hz p[q] (List.getElem_mem hlt)
    have IH := fun f1 f2 h1 h2 => ih k (q + 1) f1 f2 (by omega) (by omega) h1 h2 (fun k' hk' => hR k' (by omega))
    simp only [hibernaclelaw15_DriveHalves.l1]
    rw [if_pos (by omega), if_pos (by omega), if_pos (by omega), rdTN p q hlt, wrapS (by omega)]
    by_cases hx : p[q].f0 = (j : Int)
    · rw [if_pos hx]
      cases f1 with
      | true =>
        rw [if_pos rfl]
        cases f2 with
        | true =>
          rw [if_pos rfl]
          exact IH true true (.inl rfl) (.inl rfl)
        | false =>
          rw [if_neg (by simp), if_pos (by omega), if_pos (by omega)]
          exact IH _ _ (.inl rfl) (flag_step H2 s j false _ _ hx g2 rfl)
      | false =>
        rw [if_neg (by simp), if_pos (by omega), if_pos (by omega), if_pos (by omega)]
        cases f2 with
        | true =>
          rw [if_pos rfl]
          exact IH _ true (flag_step H1 s j false _ _ hx g1 rfl) (.inl rfl)
        | false =>
          rw [if_neg (by simp)]
          exact IH _ _ (flag_step H1 s j false _ _ hx g1 rfl) (flag_step H2 s j false _ _ hx g2 rfl)
    · rw [if_neg hx]
      exact IH f1 f2 (flag_skip H1 s j f1 _ _ hx g1) (flag_skip H2 s j f2 _ _ hx g2)
theorem halves_l0 (l b : List ByteArray) (p : List S27) (a : Int) (hb : b.length ≤ 256) (hp : p.length ≤ 60) (hl : l.length = b.length) (hls : ∀ s ∈ l, (s.size : Int) = 128) (hbs : ∀ s ∈ b, (s.size : Int) = 128) (hz : ∀ x ∈ p, (x.f1.size : Int) = 128)
    (hO : ∀ j : Int, 0 ≤ j → j < b.length → OkH H1 l b p j ∧ OkH H2 l b p j) (d : Nat) : ∀ k j, j + d = l.length → d * 70 < k →
    hibernaclelaw15_DriveHalves.l0 k l (l.length : Int) (j : Int) b p a = some true := by
  induction d with
  | zero =>
    intro k j hi hk
    obtain ⟨k, rfl⟩ : ∃ m, k = m + 1 := ⟨k - 1, by omega⟩
    simp only [hibernaclelaw15_DriveHalves.l0]
    rw [if_neg (by omega)]
    rfl
  | succ d ih =>
    intro k j hi hk
    obtain ⟨k, rfl⟩ : ∃ m, k = m + 1 := ⟨k - 1, by omega⟩
    have hlt : j < l.length := by omega
    have hs := hls l[j] (List.getElem_mem hlt)
    have hs2 := hbs b[j] (List.getElem_mem (by omega))
    obtain ⟨o1, o2⟩ := hO j (by omega) (by omega)
    unfold OkH at o1 o2
    rw [rdN l j hlt, rdN b j (by omega)] at o1 o2
    simp only [hibernaclelaw15_DriveHalves.l0]
    rw [if_pos (by omega), if_pos (by omega), if_pos (by omega), rdN l j hlt, rdN b j (by omega), if_pos hs, if_pos (by omega), if_pos (by omega), if_pos (by omega), if_pos (by omega)]
    refine halves_l1 l b p a j l[j] hp hs hz none p.length k 0 _ _ (by omega) (by omega) ?_ ?_ ?_
    · rcases o1 with o1 | ⟨x, hx, e1, e2⟩
      · exact .inl (toList_beq _ _ o1)
      · exact .inr ⟨x, by simpa using hx, e1, e2⟩
    · rcases o2 with o2 | ⟨x, hx, e1, e2⟩
      · exact .inl (toList_beq _ _ o2)
      · exact .inr ⟨x, by simpa using hx, e1, e2⟩
    · intro k' hk'
      rw [wrapS (by omega)]
      exact ih k' (j + 1) (by omega) (by omega)
theorem DriveHalves_pure (b : List ByteArray) (p : List S27) (a : Int) (lp : List Int) : ∃ k, hibernaclelaw15_DriveHalves.f k b p a lp = some true := by
  obtain ⟨v, hv, hc⟩ := great_some b p a
  have hf : hibernaclelaw15_fixed.f = some true := rfl
  have hjt : ∀ k, hibernaclelaw15_DriveHalves.j0 (k + 1) lp true b p a = some true := fun k => by
    simp only [hibernaclelaw15_DriveHalves.j0, if_true, hf, Option.bind_some]
  refine Ev.rounds (r := true) ?_
  unfold hibernaclelaw15_DriveHalves.f
  refine Ev.bind hv ?_
  rcases hc with rfl | ⟨rfl, h0, h1, h2, h3⟩
  · refine ⟨1, fun k hk => ?_⟩
    obtain ⟨k, rfl⟩ : ∃ m, k = m + 1 := ⟨k - 1, by omega⟩
    exact hjt k
  · have hck : drive_Check.f b p a = some (checkV b p) := by unfold drive_Check.f; rw [if_pos (by omega)]
    simp only [gt_iff_lt, Int.lt_irrefl, if_false, hck, Option.bind_some]
    by_cases hz : checkV b p = 0
    · simp only [hz, if_true]
      have hvd := check_valid b p hz
      by_cases hlp : (100 : Int) < (lp.length : Int)
      · refine ⟨1, fun k hk => ?_⟩
        obtain ⟨k, rfl⟩ : ∃ m, k = m + 1 := ⟨k - 1, by omega⟩
        rw [decide_eq_true hlp]
        exact hjt k
      · refine ⟨b.length * 70 + 10, fun k hk => ?_⟩
        obtain ⟨k, rfl⟩ : ∃ m, k = m + 1 := ⟨k - 1, by omega⟩
        rw [decide_eq_false hlp]
        simp only [hibernaclelaw15_DriveHalves.j0]
        rw [if_neg (by simp)]
        have hcp : drive_copied.f b p a = some (b, p, a) := by
          unfold drive_copied.f slices_Clone_string_string.f api_Write_111.f
          rw [if_pos (by have := hvd.1; omega), Option.bind_some, if_pos (by omega), Option.bind_some]
        have hcr : drive_Crash.f b p a lp = some (landTo b.length (pickV lp) 0 p b, [], -1) := by
          unfold drive_Crash.f
          rw [hcp, Option.bind_some]
          dsimp only
          rw [if_pos (by omega)]
        obtain ⟨z1, z2, z3⟩ := land_halves (pickV lp) (pickV_is lp) p 0 b hvd
        generalize landTo b.length (pickV lp) 0 p b = l at hcr z1 z2 z3
        rw [hcr, Option.bind_some]
        dsimp only
        rw [if_pos (by omega)]
        exact halves_l0 l b p a hvd.1 h1 z1 z2 hvd.2.1 (fun x hx => (lookV_zero (hvd.2.2 x hx)).2.2) z3 l.length k 0 (by omega) (by rw [z1]; omega)
    · simp only [hz, if_false]
      refine ⟨1, fun k hk => ?_⟩
      obtain ⟨k, rfl⟩ : ∃ m, k = m + 1 := ⟨k - 1, by omega⟩
      exact hjt k
end Go.Proofs.Ytjfmnkmgnbbfgaa.A
