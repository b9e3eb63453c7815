/- The statement HashSums as the walk makes it: true for every text. -/
import Derived.Test.YtjfmnkmgnbbfgaaH10
import Derived.DeepKeys
set_option linter.unusedVariables false
set_option linter.unusedSimpArgs false
namespace Go.Proofs.Ytjfmnkmgnbbfgaa.A
open Go.RowKit Go.Proofs.YtjfmnkmgnbbfgaaW.PrintWords Go.Proofs.YtjfmnkmgnbbfgaaW.PrintLast Go.Proofs.YtjfmnkmgnbbfgaaW.PrintMore

theorem flat1 {α β : Type} (f : α → β) : ∀ l : List α, (l.map fun i => [f i]).flatten = l.map f
  | [] => rfl
  | x :: l => by rw [List.map_cons, List.flatten_cons, flat1 f l]; rfl
theorem mapM_some {α β : Type} {f : α → Option β} {g : α → β} : ∀ l : List α, (∀ x ∈ l, f x = some (g x)) → l.mapM f = some (l.map g)
  | [], _ => rfl
  | x :: l, h => by
    rw [List.mapM_cons, h x (by simp), mapM_some l (fun y hy => h y (by simp [hy]))]
    rfl
theorem lits57 (d : List Int) (hd : isBytes d) : Try.prog.keyLits 2 57 (u8s d).toList = some (d.map (Lit.int .u8)) := by
  have hl := hd.1
  have hc : Try.prog.cellsOf 57 = 32 := by kernel_rfl
  have hc5 : Try.prog.cellsOf 5 = 1 := by kernel_rfl
  unfold Program.keyLits
  rw [Try.underlying57]
  simp only [hc, hc5]
  rw [if_pos (by simp [u8s, hl]), mapM_some (g := fun i => [Lit.int .u8 (gi d i)]) _ (fun i hi => ?_)]
  · simp only [Option.map_some]
    refine congrArg some ?_
    rw [flat1]
    apply List.ext_getElem
    · simp [hl]
    · intro j h1 h2
      have hj : j < d.length := by simpa using h2
      simp only [List.getElem_map, List.getElem_range, gi, List.getD_eq_getElem?_getD, List.getElem?_eq_getElem hj, Option.getD_some]
  · have hi' : i < 32 := List.mem_range.1 hi
    have hb := hd.2 i hi'
    have hx : (List.drop (i * 1) (u8s d).toList).take 1 = [Value.int .u8 (gi d i)] := by
      rw [Nat.mul_one]
      have hlt : i < (u8s d).toList.length := by simp [u8s]; omega
      rw [List.drop_eq_getElem_cons hlt]
      simp [u8s, gi, List.getD_eq_getElem?_getD, List.getElem?_eq_getElem (show i < d.length by omega)]
    rw [hx]
    unfold Program.keyLits
    rw [Try.underlying5]
    simp only
    rw [if_pos ⟨trivial, by simp [Lit.wf, IntKind.min, IntKind.max, IntKind.signed, IntKind.bits]; omega⟩]
theorem eq57 (d d' : List Int) (hd : isBytes d) (hd' : isBytes d') (W : World) : (Op.equalIn 10000 57 (.agg (u8s d)) (.agg (u8s d'))).run Try.prog W = .ok (decide (d = d')) W := by
  have hf : ∀ z : List Int, isBytes z → (Value.agg (u8s z)).formed Try.prog 57 = true := by
    intro z hz
    have hc : Try.prog.cellsOf 57 = 32 := by kernel_rfl
    unfold Value.formed
    rw [Try.underlying57]
    simp [hc, u8s, hz.1]
  obtain ⟨r, h1, h2⟩ := run_equalIn_deep (P := Try.prog) 9998 2 57 (by kernel_rfl) W 2 2 _ _ _ _ (hf d hd) (hf d' hd') (lits57 d hd) (lits57 d' hd')
  rw [show 10000 = 9998 + 2 from rfl, h1]
  refine congrArg (fun b => Result.ok b W) ?_
  have hi : ∀ a b : List Int, a.map (Lit.int .u8) = b.map (Lit.int .u8) → a = b := by
    intro a
    induction a with
    | nil => intro b h; cases b with | nil => rfl | cons => simp at h
    | cons x a ih =>
      intro b h
      cases b with
      | nil => simp at h
      | cons y b =>
        simp only [List.map_cons, List.cons.injEq, Lit.int.injEq] at h
        rw [h.1.2, ih b h.2]
  by_cases e : d = d'
  · subst e; rw [h2.2 rfl]; simp
  · have : r = false := by
      cases r with
      | false => rfl
      | true => exact absurd (hi _ _ (h2.1 rfl)) e
    rw [this]; simp [e]
theorem sum1_at (s : ByteArray) (hs : s.size ≤ 1000000) (w W : World) (g : Nat) (hg : g = w.heap.size) (hW : W = w.alloc (.cells #[.string s] 9 (0, 0))) :
    Calls Try.prog 47 #[.slice (some ⟨g, 0, none⟩) 1 1] W fun e w' => e = .returned (.agg (u8s (digF hSum s))) ∧ Below w.heap.size w w' := by
  subst hg hW
  have hC : Kd.C Kd.string (w.alloc (.cells #[.string s] 9 (0, 0))) (some ⟨w.heap.size, 0, none⟩) 1 [s] := C_lit (l := [s]) (heap_alloc_last _ _) (by simp)
  refine (hash_Sum.walk _ 1 [s] _ hC (Nat.le_refl _) (by simp) (by rw [joinS_one]; exact hs)).mono ?_
  rintro e w' ⟨rfl, hb⟩
  rw [joinS_one]
  exact ⟨rfl, below_then (below_alloc (Below.refl _ _) _) (below_alloc (Below.refl _ _) _).size hb⟩
set_option maxHeartbeats 2000000 in
set_option maxRecDepth 100000 in
theorem hibernaclelaw02_HashSums.walk (s : ByteArray) (hs : s.size ≤ 140737488351232) (w : World) :
    Calls Try.prog 9 #[.string s] w fun e w' => e = .returned (.bool true) ∧ Below w.heap.size w w' := by
  by_cases h7 : 700 < s.size
  · have c1 : (700 : Int) < (s.size : Int) := by omega
    go_enter Try.func9, Try.ntmps9
    go_wp2_with (go_at_call 46; refine (alive_walk _).mono ?_; rintro e w2 ⟨rfl, hb2⟩)
    go_ret
    exact ⟨rfl, hb2⟩
  · have c1 : ¬ (700 : Int) < (s.size : Int) := by omega
    go_enter Try.func9, Try.ntmps9
    go_wp2_with (go_at_call 46; refine (alive_walk _).mono ?_; rintro e w2 ⟨rfl, hb2⟩)
    go_at_call 47
    refine (sum1_at s (by omega) w2 _ _ rfl rfl).mono ?_
    rintro e w3 ⟨rfl, hb3⟩
    go_wp2_with fail
    go_at_call 48
    refine (ref_One.walk s (by omega) w3).mono ?_
    rintro e w4 ⟨rfl, hb4⟩
    have he := fun W => eq57 (digF hSum s) (digF hSum s) (dig_bytes _ _) (dig_bytes _ _) W
    rw [decide_eq_true rfl] at he
    go_wp2_with fail
    go_ret
    have b1 := below_then hb2 hb2.size hb3
    exact ⟨by simp, below_then b1 b1.size hb4⟩
end Go.Proofs.Ytjfmnkmgnbbfgaa.A
