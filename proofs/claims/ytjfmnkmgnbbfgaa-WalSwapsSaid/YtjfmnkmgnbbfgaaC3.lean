/- wal.home: the calls that bring writes to their blocks. -/
import Derived.Test.YtjfmnkmgnbbfgaaC2
set_option linter.unusedVariables false
set_option linter.unusedSimpArgs false
namespace Go.Proofs.Ytjfmnkmgnbbfgaa.A
open Go.RowKit Go.Proofs.YtjfmnkmgnbbfgaaW.PrintWords Go.Proofs.YtjfmnkmgnbbfgaaW.PrintLast Go.Proofs.YtjfmnkmgnbbfgaaW.PrintMore
theorem info83 : (Try.prog.info? 83).map (fun i => (i.zero, i.size, i.bytes)) = some (some .nilFunc, 1, 8) := by kernel_rfl
theorem wal_put.walk2 (i : Int) (s : ByteArray) (w : World) : Calls Try.prog 67 #[.int .i64 i, .string s] w fun e w' => ∃ caps, e = .returned (.func (.func 99) #[] caps) ∧ kcall.M w' w.heap.size (fun k => w.heap.size ≤ k) (.put i s) [.func (.func 99) #[] caps] ∧ Below w.heap.size w w' := by
  refine (wal_put.walk i s w).mono ?_
  rintro e w' ⟨v, rfl, hm, hb⟩
  have hm2 := hm
  obtain ⟨v', hv', u1, u2, rfl, _⟩ := hm
  obtain rfl : v = .func (.func 99) #[] #[.pointer (some ⟨u1, 0, none⟩), .pointer (some ⟨u2, 0, none⟩)] := by simpa using hv'
  exact ⟨_, rfl, hm2, hb⟩
def homeC (x : S27) : CallV := .put (wrap64 (33 + x.f0)) x.f1
def homeV (l : List S27) : List CallV := l.map homeC ++ [.flush]
set_option maxHeartbeats 4000000 in
set_option maxRecDepth 100000 in
theorem home_walk (A : Option Addr) (c : Nat) (l : List S27) (w : World) (hl : Kd.C k27 w A l.length l) (hn : l.length ≤ 1000) :
    Calls Try.prog 70 #[.slice A l.length c] w fun e w' => ∃ v, e = .returned v ∧ Kd.R kcall 83 w' w.heap.size (fun _ => True) v (homeV l) ∧ Below w.heap.size w w' := by
  have hu27 := Try.underlying27
  have HL := Aside0.mk hl
  clear hl
  go_enter Try.func70, Try.ntmps70
  go_wp2
  go_loopw [3, 8] (fun v i wr => ∃ j : Nat, j ≤ l.length ∧ i = .int .i64 (j : Int) ∧ Aside0 (Kd.R kcall 83 wr w.heap.size (fun _ => True) v ((l.take j).map homeC)) ∧ Aside0 (Below w.heap.size w wr)) (fun _ i _ => l.length - (intOf i).toNat)
  case atStart => exact ⟨0, Nat.zero_le _, rfl, ⟨Kd.R_nil _ _ _ _ _⟩, ⟨Below.refl _ _⟩⟩
  case round =>
    obtain ⟨j, hj, rfl, HR, HB⟩ := hrel
    by_cases hlt : j < l.length
    · have hjl : (j : Int) < l.length := by omega
      have hjr : (j : Int) ≤ 140737488355328 := by omega
      obtain ⟨ad, rfl, g0, g1⟩ := at_T27 (Kd.C_below HL.out HB.out) (j : Int) (by omega) (by omega)
      rw [show rd_T27 l (j : Int) = l[j] from rdTN l j hlt] at g0 g1
      obtain ⟨x, hx⟩ : ∃ x, x = l[j] := ⟨_, rfl⟩
      rw [← hx] at g0 g1
      simp only [Int.toNat_natCast] at g0 g1
      have HX := Aside0.mk hx
      clear hx
      go_wp2_with (first
        | ((with_reducible refine gate_dst (N := 5) rfl ?_); refine box_event ?hg (N := 5) ?hd (cs := #[.int .i64 0, .string ⟨#[]⟩]) (t := 27) ?hr ?_; (case hd => rfl); (case hg => rfl); (case hr => first | (go_simp; done) | (go_simp; rfl)); intro b5 hb5 w5 hx5 hl5;
            have m0 := (blk_cell hx5 0).trans rfl; have m1 := (blk_cell hx5 1).trans rfl; have g5 : w.heap.size ≤ b5 := (by rw [hb5]; exact HB.out.size); have f0 := blk_frozen hx5 0; have f1 := blk_frozen hx5 1;
            have HX5 := Aside0.mk hx5; have HL5 := Aside0.mk hl5; have HB5 := Aside0.mk hb5; clear hx5 hl5 hb5)
        | ((with_reducible refine gate_callee (f := 67) rfl ?_); refine goesL_ (some 18) rfl rfl Try.func67 (by kernel_rfl) rfl #[.int .i64 (wrap64 (33 + x.f0)), .string x.f1] rfl (by (try simp only [List.map_toArray, List.map_cons, List.map_nil]); first | done | rfl) ?_; refine (wal_put.walk2 (wrap64 (33 + x.f0)) x.f1 _).mono ?_; rintro e w6 ⟨caps, rfl, hm6, hb6⟩; refine ⟨_, rfl, ?_⟩;
            have hRX := R_set2 (Kd.R_below HR.out HL5.out) HX5.out (by decide) (.int .i64 x.f0) (.string x.f1);
            have hBX := ((below_step HB.out HL5.out).setCell (p := ⟨b5, 0, none⟩) g5 (.int .i64 x.f0)).setCell (p := ⟨b5, 1, none⟩) g5 (.string x.f1);
            have hM := kcall.M_lower hBX.size hm6;
            have hne : ∀ k, (((w5.setCell ⟨b5, 0, none⟩ (.int .i64 x.f0)).setCell ⟨b5, 1, none⟩ (.string x.f1)).heap.size ≤ k) → True ∧ some k ≠ u3.ownBlock := (fun k hk => ⟨trivial, fun e_ => by have := (Kd.R_bound hRX).1 k e_.symm; omega⟩);
            have HM6 := Aside0.mk hM; have HN6 := Aside0.mk hne; have HR6 := Aside0.mk (Kd.R_below hRX hb6); have HB6 := Aside0.mk (below_step hBX hb6); clear hm6 hb6 hRX hBX hM hne)
        | ((with_reducible refine gate_builtin (b := .append) (xs := #[.tmp 12, .tmp 19]) rfl ?_); at_builtin; refine Kd.R_append kcall (w0 := w) w.heap.size rfl (.tmp 12) (.tmp 19) 82 83 .nilFunc 8 rfl Try.underlying82 info83 rfl (by decide) (by omega) u3 ((l.take j).map homeC) (homeC x) [.func (.func 99) #[] caps] (fun _ => True) _ rfl rfl HM6.out HN6.out (fun _ _ => trivial) HR6.out HB6.out HB6.out.size ?aL ?_; (case aL => simp; omega); intro v1 w7 ho hb7 hg hat; have HR7 := Aside0.mk ho; have HB7 := Aside0.mk hb7; clear ho hb7 hg hat)
        | fail)
      go_roundw
      case rel =>
        refine ⟨j + 1, by omega, by simp, ⟨?_⟩, HB7⟩
        rw [← List.take_append_getElem hlt, List.map_append, ← HX.out]
        exact HR7.out
      case measure => simp only [intOf]; omega
    · obtain rfl : j = l.length := by omega
      go_wp2_with (first
        | ((with_reducible refine gate_builtin (b := .append) (xs := #[.tmp 22, .tmp 23]) rfl ?_); at_builtin; refine Kd.R_append kcall (w0 := w) w.heap.size rfl (.tmp 22) (.tmp 23) 82 83 .nilFunc 8 rfl Try.underlying82 info83 rfl (by decide) (by omega) u3 ((l.take l.length).map homeC) .flush [.func (.func 40) #[] #[]] (fun _ => True) (fun _ => False) rfl rfl ⟨_, rfl, rfl⟩ (fun _ h => h.elim) (fun _ _ => trivial) HR.out HB.out HB.out.size ?aL ?_; (case aL => simp; omega); intro v1 w7 ho hb7 hg hat; have HR7 := Aside0.mk ho; have HB7 := Aside0.mk hb7; clear ho hb7 hg hat)
        | fail)
      go_ret
      refine ⟨_, rfl, ?_, HB7.out⟩
      have := HR7.out
      rw [List.take_length] at this
      exact this
end Go.Proofs.Ytjfmnkmgnbbfgaa.A
