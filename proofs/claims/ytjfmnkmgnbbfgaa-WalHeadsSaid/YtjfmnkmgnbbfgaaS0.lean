/- Several texts of this claim in one: F1, S0. -/
import Derived.Test.YtjfmnkmgnbbfgaaF0
import Derived.Test.YtjfmnkmgnbbfgaaA63
/- Plain: what the calls of a commit make of a drive; the document's example. -/
set_option linter.unusedVariables false
set_option linter.unusedSimpArgs false
namespace Go.Proofs.Ytjfmnkmgnbbfgaa.A
open Go.RowKit Go.Proofs.YtjfmnkmgnbbfgaaW.PrintWords Go.Proofs.YtjfmnkmgnbbfgaaW.PrintLast Go.Proofs.YtjfmnkmgnbbfgaaW.PrintMore
theorem look_ok {n : Nat} {i : Int} {s : ByteArray} (h0 : 0 ≤ i) (h1 : i < n) (hs : (s.size : Int) = 128) : lookV n i s = 0 := by
  unfold lookV
  rw [if_neg (by omega), if_neg (by omega)]
theorem lessV_pos (n : Nat) (hn : n ≤ 1000000) : lessV ((n + 1 : Nat) : Int) = (n : Int) := by
  unfold lessV
  rw [if_pos (by omega)]
  unfold wrap64
  omega
theorem doV_put (i : Int) (s : ByteArray) (cs : List CallV) (b : List ByteArray) (p : List S27) (a : Int) (hl : lookV b.length i s = 0) (ha : a ≠ 0) : doV (.put i s :: cs) b p a = doV cs b (p ++ [⟨i, s⟩]) (lessV a) := by
  rw [doV]
  simp only [callV, putV, if_pos hl, if_neg ha, if_true]
theorem doV_flush (cs : List CallV) (b : List ByteArray) (p : List S27) (a : Int) (ha : a ≠ 0) : doV (.flush :: cs) b p a = doV cs (landTo b.length (fun _ => 1) 0 p b) [] (lessV a) := by
  rw [doV]
  simp only [callV, flushV, if_neg ha, if_true]
theorem doV_flush0 (cs : List CallV) (b : List ByteArray) (p : List S27) : doV (.flush :: cs) b p 0 = (b, p, 0, 17) := by
  rw [doV]
  simp only [callV, flushV, if_true]
  rw [if_neg (by decide)]
/-- landed: as many blocks, each of them whole -/
theorem land_valid {b : List ByteArray} {p : List S27} (h : Valid b p) : Valid (landTo b.length (fun _ => 1) 0 p b) [] := by
  obtain ⟨h1, h2, h3⟩ := land_whole p 0 b h
  exact ⟨by rw [h1]; exact h.1, h2, by simp⟩
theorem land_len {b : List ByteArray} {p : List S27} (h : Valid b p) : (landTo b.length (fun _ => 1) 0 p b).length = b.length := (land_whole p 0 b h).1
theorem valid_snoc {b : List ByteArray} {p : List S27} (h : Valid b p) {i : Int} {s : ByteArray} (hl : lookV b.length i s = 0) : Valid b (p ++ [⟨i, s⟩]) := by
  refine ⟨h.1, h.2.1, fun x hx => ?_⟩
  rcases List.mem_append.1 hx with hx | hx
  · exact h.2.2 x hx
  · obtain rfl := List.mem_singleton.1 hx
    exact hl
theorem form_valid (v : List ByteArray) (hn : v.length ≤ 223) (hw : whole v = true) : Valid (List.replicate 33 zeroS ++ v) [] := by
  refine ⟨by simp; omega, fun s hs => ?_, by simp⟩
  rcases List.mem_append.1 hs with hs | hs
  · rw [List.eq_of_mem_replicate hs, zeroS_B, zeroB_size]; rfl
  · exact of_decide_eq_true (List.all_eq_true.1 hw s hs)
def volS : List ByteArray := (hibernaclelaw16_volume.f 300 2).getD []
theorem volS_some : hibernaclelaw16_volume.f 300 2 = some volS := by kernel_rfl
theorem volS_two : volS.length = 2 := by kernel_rfl
theorem volS_whole : whole volS = true := by kernel_rfl
def s0 : ByteArray := rdOf ByteArray.empty volS 0
def Eva : List ByteArray := List.replicate 33 zeroS ++ volS
theorem Eva_len : Eva.length = 35 := by rw [Eva, List.length_append, volS_two]; rfl
theorem s0_size : s0.size = 128 := by
  have h := rd_mem volS 0 (by omega) (by rw [volS_two]; decide)
  have := of_decide_eq_true (List.all_eq_true.1 volS_whole _ h)
  show (rdOf ByteArray.empty volS 0).size = 128
  omega
theorem Eva_valid : Valid Eva [] := form_valid volS (by rw [volS_two]; omega) volS_whole
def l1S : List S27 := [⟨1, s0⟩]
theorem may_l1S : mayV l1S 2 = 0 := by
  have := s0_size
  simp [mayV, l1S, mayL, this]
theorem plan_l1S : planC l1S = [.put 1 s0, .put 0 (headV l1S), .flush, .put 34 s0, .flush] := by
  have : wrap64 34 = 34 := by unfold wrap64; omega
  simp [planC, putsC, putC, homeV, homeC, l1S, this]
theorem commit_Eva (a : Int) : commitV Eva [] a l1S = doV [.put 1 s0, .put 0 (headV l1S), .flush, .put 34 s0, .flush] Eva [] a := by
  rw [commitV, if_pos (badV_valid Eva_valid (by rw [Eva_len]; omega)), if_pos ⟨by rw [Eva_len]; exact may_l1S, by simp [l1S]⟩, plan_l1S]
theorem head_l1S : ((headV l1S).size : Int) = 128 := by rw [headV_size l1S (by simp [l1S])]; rfl
def Evb : List ByteArray := landTo Eva.length (fun _ => 1) 0 [⟨1, s0⟩, ⟨0, headV l1S⟩] Eva
theorem Evap_valid : Valid Eva [⟨1, s0⟩, ⟨0, headV l1S⟩] := by
  have h1 := valid_snoc Eva_valid (i := 1) (s := s0) (look_ok (by omega) (by rw [Eva_len]; decide) (by rw [s0_size]; rfl))
  have h2 := valid_snoc h1 (i := 0) (s := headV l1S) (look_ok (by omega) (by rw [Eva_len]; decide) head_l1S)
  exact h2
theorem Evb_len : Evb.length = 35 := by rw [Evb, land_len Evap_valid, Eva_len]
theorem Evb_valid : Valid Evb [] := land_valid Evap_valid
def Evc : List ByteArray := landTo Evb.length (fun _ => 1) 0 [⟨34, s0⟩] Evb
theorem Evbp_valid : Valid Evb [⟨34, s0⟩] := valid_snoc Evb_valid (i := 34) (s := s0) (look_ok (by omega) (by rw [Evb_len]; decide) (by rw [s0_size]; rfl))
theorem Evc_len : Evc.length = 35 := by rw [Evc, land_len Evbp_valid, Evb_len]
theorem Evc_valid : Valid Evc [] := land_valid Evbp_valid
theorem less5 : lessV 5 = 4 ∧ lessV 4 = 3 ∧ lessV 3 = 2 ∧ lessV 2 = 1 ∧ lessV 1 = 0 := ⟨lessV_pos 4 (by omega), lessV_pos 3 (by omega), lessV_pos 2 (by omega), lessV_pos 1 (by omega), lessV_pos 0 (by omega)⟩
theorem awake4 : commitV Eva [] 4 l1S = (Evb, [⟨34, s0⟩], 0, 17) := by
  obtain ⟨a5, a4, a3, a2, a1⟩ := less5
  rw [commit_Eva, doV_put _ _ _ _ _ _ (look_ok (by omega) (by rw [Eva_len]; decide) (by rw [s0_size]; rfl)) (by decide), a4,
    doV_put _ _ _ _ _ _ (look_ok (by omega) (by rw [Eva_len]; decide) head_l1S) (by decide), a3, doV_flush _ _ _ _ (by decide), a2]
  show doV _ Evb [] 1 = _
  rw [doV_put _ _ _ _ _ _ (look_ok (by omega) (by rw [Evb_len]; decide) (by rw [s0_size]; rfl)) (by decide), a1, doV_flush0]
  rfl
theorem awake5 : commitV Eva [] 5 l1S = (Evc, [], 0, 0) := by
  obtain ⟨a5, a4, a3, a2, a1⟩ := less5
  rw [commit_Eva, doV_put _ _ _ _ _ _ (look_ok (by omega) (by rw [Eva_len]; decide) (by rw [s0_size]; rfl)) (by decide), a5,
    doV_put _ _ _ _ _ _ (look_ok (by omega) (by rw [Eva_len]; decide) head_l1S) (by decide), a4, doV_flush _ _ _ _ (by decide), a3]
  show doV _ Evb [] 2 = _
  rw [doV_put _ _ _ _ _ _ (look_ok (by omega) (by rw [Evb_len]; decide) (by rw [s0_size]; rfl)) (by decide), a2, doV_flush _ _ _ _ (by decide), a1]
  rfl
theorem home_Evc : homeL Evc [] = [rdOf ByteArray.empty Evc 33, s0] := by
  rw [homeL, if_pos (badV_valid Evc_valid (by rw [Evc_len]; omega)), volL, Evc_len]
  have h34 : rdOf ByteArray.empty Evc 34 = s0 := by
    rw [Evc, (land_whole [⟨34, s0⟩] 0 Evb Evbp_valid).2.2 34 (by omega) (by rw [Evb_len]; decide), show ([⟨34, s0⟩] : List S27) = [] ++ [⟨34, s0⟩] from rfl, getV_snoc4, if_pos rfl]
  show [getV Evc [] 33, getV Evc [] 34] = _
  rw [getV_nil, getV_nil, h34]
end Go.Proofs.Ytjfmnkmgnbbfgaa.A
/- Plain: a commit with calls enough: the blocks it leaves. -/
set_option linter.unusedVariables false
set_option linter.unusedSimpArgs false
namespace Go.Proofs.Ytjfmnkmgnbbfgaa.A
open Go.RowKit Go.Proofs.YtjfmnkmgnbbfgaaW.PrintWords Go.Proofs.YtjfmnkmgnbbfgaaW.PrintLast Go.Proofs.YtjfmnkmgnbbfgaaW.PrintMore
theorem getV_snoc5 (b : List ByteArray) (p : List S27) (x : S27) (i : Int) : getV b (p ++ [x]) i = if x.f0 = i then x.f1 else getV b p i := getV_snoc4 b p x i
def withL (v : List ByteArray) (l : List S27) : List ByteArray := l.foldl (fun a x => a.set x.f0.toNat x.f1) v
def setH (b : List ByteArray) (l : List S27) : List ByteArray := l.foldl (fun a x => a.set (33 + x.f0.toNat) x.f1) b
theorem setH_len (l : List S27) : ∀ b, (setH b l).length = b.length := by
  induction l with
  | nil => intro b; rfl
  | cons x l ih => intro b; show (setH (b.set _ _) l).length = _; rw [ih, List.length_set]
theorem setH_drop (l : List S27) : ∀ b, (setH b l).drop 33 = withL (b.drop 33) l := by
  induction l with
  | nil => intro b; rfl
  | cons x l ih =>
    intro b
    show (setH (b.set (33 + x.f0.toNat) x.f1) l).drop 33 = withL ((b.drop 33).set x.f0.toNat x.f1) l
    rw [ih, List.set_drop]
theorem withL_len (l : List S27) : ∀ v, (withL v l).length = v.length := by
  induction l with
  | nil => intro v; rfl
  | cons x l ih => intro v; show (withL (v.set _ _) l).length = _; rw [ih, List.length_set]
theorem withL_set (l : List S27) (k : Nat) (s : ByteArray) (h : ∀ x ∈ l, x.f0.toNat ≠ k) : ∀ v, withL (v.set k s) l = (withL v l).set k s := by
  induction l with
  | nil => intro v; rfl
  | cons x l ih =>
    intro v
    show withL ((v.set k s).set x.f0.toNat x.f1) l = (withL (v.set x.f0.toNat x.f1) l).set k s
    rw [List.set_comm _ _ (h x (List.mem_cons_self)).symm, ih (fun y hy => h y (List.mem_cons_of_mem _ hy))]
theorem withL_swap (l m : List S27) (h : ∀ x ∈ l, ∀ y ∈ m, y.f0.toNat ≠ x.f0.toNat) : ∀ v, withL (withL v l) m = withL (withL v m) l := by
  induction l with
  | nil => intro v; rfl
  | cons x l ih =>
    intro v
    show withL (withL (v.set x.f0.toNat x.f1) l) m = withL ((withL v m).set x.f0.toNat x.f1) l
    rw [ih (fun a ha => h a (List.mem_cons_of_mem _ ha)), withL_set m x.f0.toNat x.f1 (h x List.mem_cons_self)]
theorem less_neg : lessV (-1) = -1 := by
  unfold lessV
  rw [if_neg (by decide)]
def asPut (x : S27) : CallV := .put x.f0 x.f1
theorem doV_asPuts (ws : List S27) (rest : List CallV) (b : List ByteArray) : ∀ p, (∀ x ∈ ws, lookV b.length x.f0 x.f1 = 0) → doV (ws.map asPut ++ rest) b p (-1) = doV rest b (p ++ ws) (-1) := by
  induction ws with
  | nil => intro p _; rw [List.append_nil]; rfl
  | cons x ws ih =>
    intro p h
    rw [List.map_cons, List.cons_append, asPut, doV_put _ _ _ _ _ _ (h x List.mem_cons_self) (by decide), less_neg, ih _ (fun y hy => h y (List.mem_cons_of_mem _ hy)), List.append_assoc]
    rfl
def pw (l : List S27) : List S27 := l.mapIdx fun i x => ⟨(i : Int) + 1, x.f1⟩
def hw (l : List S27) : List S27 := l.map fun x => ⟨wrap64 (33 + x.f0), x.f1⟩
theorem putsC_pw (l : List S27) : putsC l = (pw l).map asPut := by
  apply List.ext_getElem
  · simp [putsC, pw]
  · intro i h1 h2
    simp [putsC, pw, putC, asPut]
theorem homeV_hw (l : List S27) : homeV l = (hw l).map asPut ++ [.flush] := by
  rw [homeV, hw, List.map_map]
  rfl
theorem valid_append {b : List ByteArray} {p q : List S27} (hp : Valid b p) (hq : ∀ x ∈ q, lookV b.length x.f0 x.f1 = 0) : Valid b (p ++ q) :=
  ⟨hp.1, hp.2.1, fun x hx => (List.mem_append.1 hx).elim (hp.2.2 x) (hq x)⟩
/-- what holds of writes that may be -/
structure MayOk (l : List S27) (n : Nat) : Prop where
  len : l.length ≤ 32
  blk : ∀ x ∈ l, 0 ≤ x.f0 ∧ x.f0 < n
  siz : ∀ x ∈ l, x.f1.size = 128
theorem mayOk_of (l : List S27) (n : Nat) (hn : n ≤ 65536) (h : mayV l (n : Int) = 0) : MayOk l n := by
  have hf := fit_may (n : Int) (by omega) l h
  unfold mayV at h
  rw [if_neg (by have := hf.1; omega)] at h
  obtain ⟨h1, h2⟩ := fit_mayL (n : Int) (by omega) l [] h
  exact ⟨hf.1, h1, h2⟩
theorem pw_look (l : List S27) (n b : Nat) (h : MayOk l n) (hb : 33 ≤ b) : ∀ x ∈ pw l, lookV b x.f0 x.f1 = 0 := by
  intro x hx
  obtain ⟨i, hi, rfl⟩ := List.mem_mapIdx.1 hx
  exact look_ok (by dsimp only; omega) (by dsimp only; have := h.len; omega) (by dsimp only; rw [h.siz _ (List.getElem_mem hi)]; rfl)
theorem wrap33 (x : Int) (h0 : 0 ≤ x) (h1 : x < 65536) : wrap64 (33 + x) = 33 + x := by unfold wrap64; omega
theorem hw_look (l : List S27) (n b : Nat) (h : MayOk l n) (hn : n ≤ 65536) (hb : b = 33 + n) : ∀ x ∈ hw l, lookV b x.f0 x.f1 = 0 := by
  intro x hx
  obtain ⟨y, hy, rfl⟩ := List.mem_map.1 hx
  have hb2 := h.blk y hy
  dsimp only
  rw [wrap33 y.f0 hb2.1 (by omega)]
  exact look_ok (by omega) (by omega) (by rw [h.siz y hy]; rfl)
def landP (b : List ByteArray) (l : List S27) : List ByteArray := landTo b.length (fun _ => 1) 0 (pw l ++ [⟨0, headV l⟩]) b
theorem rd_hw (l : List S27) (n : Nat) (hn : n ≤ 65536) : ∀ b : List ByteArray, b.length = 33 + n → MayOk l n → ∀ i : Int, 0 ≤ i → getV b (hw l) i = rdOf ByteArray.empty (setH b l) i := by
  induction l with
  | nil => intro b _ _ i _; exact getV_nil b i
  | cons x l ih =>
    intro b hb h i hi
    have hx := h.blk x List.mem_cons_self
    have hw1 := wrap33 x.f0 hx.1 (by omega)
    have e : (33 + x.f0).toNat = 33 + x.f0.toNat := by omega
    show getV b (⟨wrap64 (33 + x.f0), x.f1⟩ :: hw l) i = rdOf ByteArray.empty (setH (b.set (33 + x.f0.toNat) x.f1) l) i
    rw [hw1]
    have hr := rd_set b (33 + x.f0) i x.f1 (by omega) (by omega) hi
    rw [e] at hr
    rw [getV_cons b (b.set (33 + x.f0.toNat) x.f1) ⟨33 + x.f0, x.f1⟩ (hw l) i hr]
    exact ih _ (by rw [List.length_set]; exact hb) ⟨by have := h.len; rw [List.length_cons] at this; omega, fun y hy => h.blk y (List.mem_cons_of_mem _ hy), fun y hy => h.siz y (List.mem_cons_of_mem _ hy)⟩ i hi
theorem list_rd2 (l m : List ByteArray) (h : l.length = m.length) (hr : ∀ i : Nat, i < m.length → rdOf ByteArray.empty l (i : Int) = rdOf ByteArray.empty m (i : Int)) : l = m := by
  apply List.ext_getElem h
  intro i h1 h2
  have := hr i h2
  rw [rdN l i h1, rdN m i h2] at this
  exact this
theorem pw_take (l : List S27) (j : Nat) (hj : j < l.length) : pw (l.take (j + 1)) = pw (l.take j) ++ [⟨(j : Int) + 1, l[j].f1⟩] := by
  rw [← List.take_append_getElem hj, pw, List.mapIdx_concat, List.length_take, Nat.min_eq_left (by omega)]
  rfl
theorem getV_pw_far (b : List ByteArray) (l : List S27) (i : Int) : ∀ j, j ≤ l.length → (j : Int) < i ∨ i ≤ 0 → getV b (pw (l.take j)) i = rdOf ByteArray.empty b i := by
  intro j
  induction j with
  | zero => intro _ _; rw [List.take_zero]; exact getV_nil b i
  | succ j ih =>
    intro hj hi
    rw [pw_take l j (by omega), getV_snoc5, if_neg (by dsimp only; omega)]
    exact ih (by omega) (by omega)
theorem getV_pw_at (b : List ByteArray) (l : List S27) (k : Nat) (hk : k < l.length) : ∀ j, j ≤ l.length → k < j → getV b (pw (l.take j)) ((k : Int) + 1) = l[k].f1 := by
  intro j
  induction j with
  | zero => intro _ h; omega
  | succ j ih =>
    intro hj hkj
    rw [pw_take l j (by omega), getV_snoc5]
    by_cases h : j = k
    · subst h; rw [if_pos rfl]
    · rw [if_neg (by dsimp only; omega)]
      exact ih (by omega) (by omega)
section
variable {b : List ByteArray} {l : List S27} {n : Nat}
theorem landP_valid (hv : Valid b []) (hb : b.length = 33 + n) (h : MayOk l n) : Valid b (pw l ++ [⟨0, headV l⟩]) :=
  valid_append (valid_append hv (pw_look l n b.length h (by omega)) : Valid b ([] ++ pw l)) (fun x hx => by
    obtain rfl := List.mem_singleton.1 hx
    exact look_ok (by dsimp only; omega) (by dsimp only; omega) (by dsimp only; rw [headV_size l h.len]; rfl))
theorem landP_len (hv : Valid b []) (hb : b.length = 33 + n) (h : MayOk l n) : (landP b l).length = 33 + n := by rw [landP, land_len (landP_valid hv hb h), hb]
theorem landP_ok (hv : Valid b []) (hb : b.length = 33 + n) (h : MayOk l n) : Valid (landP b l) [] := land_valid (landP_valid hv hb h)
theorem landP_rd (hv : Valid b []) (hb : b.length = 33 + n) (h : MayOk l n) (i : Int) (h0 : 0 ≤ i) (h1 : i < b.length) : rdOf ByteArray.empty (landP b l) i = if 0 = i then headV l else getV b (pw l) i := by
  rw [landP, (land_whole _ 0 b (landP_valid hv hb h)).2.2 i h0 h1, getV_snoc5]
theorem landP_drop (hv : Valid b []) (hb : b.length = 33 + n) (h : MayOk l n) : (landP b l).drop 33 = b.drop 33 := by
  have hl := landP_len hv hb h
  have h32 := h.len
  apply List.ext_getElem
  · rw [List.length_drop, List.length_drop, hl, hb]
  · intro i h1 h2
    rw [List.length_drop] at h1 h2
    rw [List.getElem_drop, List.getElem_drop, ← rdN _ (33 + i) (by omega), ← rdN b (33 + i) (by omega), landP_rd hv hb h _ (by omega) (by omega), if_neg (by omega)]
    have := getV_pw_far b l ((33 + i : Nat) : Int) l.length (Nat.le_refl _) (by omega)
    rw [List.take_length] at this
    exact this
theorem landH (hv : Valid b []) (hn : n ≤ 65536) (hb : b.length = 33 + n) (h : MayOk l n) : landTo b.length (fun _ => 1) 0 (hw l) b = setH b l ∧ Valid (setH b l) [] := by
  have hvh : Valid b (hw l) := valid_append (p := []) hv (hw_look l n b.length h hn hb)
  have e : landTo b.length (fun _ => 1) 0 (hw l) b = setH b l := by
    apply list_rd2
    · rw [land_len hvh, setH_len]
    · intro i hi
      rw [setH_len] at hi
      rw [(land_whole _ 0 b hvh).2.2 (i : Int) (by omega) (by omega), rd_hw l n hn b hb h (i : Int) (by omega)]
  exact ⟨e, by rw [← e]; exact land_valid hvh⟩
/-- a commit behind which no call is wanting -/
theorem commit_neg (hv : Valid b []) (hn : 1 ≤ n) (hn2 : n ≤ 223) (hb : b.length = 33 + n) (h : mayV l (n : Int) = 0) (hl : l ≠ []) : commitV b [] (-1) l = (setH (landP b l) l, [], -1, 0) := by
  have hm := mayOk_of l n (by omega) h
  have hlen := landP_len hv hb hm
  have hok := landP_ok hv hb hm
  have hbn : (b.length : Int) - 33 = (n : Int) := by omega
  rw [commitV, if_pos (badV_valid hv (by omega)), hbn, if_pos ⟨h, hl⟩, planC, putsC_pw, List.append_assoc, doV_asPuts (pw l) _ b [] (pw_look l n b.length hm (by omega)), List.nil_append, List.cons_append,
    doV_put _ _ _ _ _ _ (look_ok (by omega) (by omega) (by rw [headV_size l hm.len]; rfl)) (by decide), less_neg, List.cons_append, List.nil_append, doV_flush _ _ _ _ (by decide), less_neg]
  show doV (homeV l) (landP b l) [] (-1) = _
  rw [homeV_hw, doV_asPuts (hw l) _ (landP b l) [] (hw_look l n _ hm (by omega) hlen), List.nil_append, doV_flush _ _ _ _ (by decide), less_neg, (landH hok (by omega) hlen hm).1]
  rfl
/-- .. of nothing -/
theorem commit_nil (hv : Valid b []) (hb : 33 < b.length) (a : Int) : commitV b [] a [] = (b, [], a, 0) := by
  rw [commitV, if_pos (badV_valid hv hb), if_neg (by simp)]
  rfl
theorem commit_len (hv : Valid b []) (hb : b.length = 33 + n) (hm : MayOk l n) : (setH (landP b l) l).length = 33 + n := by rw [setH_len, landP_len hv hb hm]
theorem commit_ok (hv : Valid b []) (hn : n ≤ 223) (hb : b.length = 33 + n) (hm : MayOk l n) : Valid (setH (landP b l) l) [] := (landH (landP_ok hv hb hm) (by omega) (landP_len hv hb hm) hm).2
theorem commit_drop (hv : Valid b []) (hb : b.length = 33 + n) (hm : MayOk l n) : (setH (landP b l) l).drop 33 = withL (b.drop 33) l := by rw [setH_drop, landP_drop hv hb hm]
theorem home_drop (hv : Valid b []) (hb : 33 < b.length) : homeL b [] = b.drop 33 := by
  rw [homeL, if_pos (badV_valid hv hb), volL]
  apply List.ext_getElem
  · simp
  · intro i h1 h2
    rw [List.length_drop] at h2
    rw [List.getElem_map, List.getElem_range, getV_nil, rdN b (33 + i) (by omega), List.getElem_drop]
/-- the journal that a commit leaves -/
theorem commit_rd (hv : Valid b []) (hn : n ≤ 223) (hb : b.length = 33 + n) (hm : MayOk l n) (i : Nat) (hi : i < 33) : rdOf ByteArray.empty (setH (landP b l) l) (i : Int) = rdOf ByteArray.empty (landP b l) (i : Int) := by
  have hlen := landP_len hv hb hm
  have key : ∀ (m : List S27) (c : List ByteArray), rdOf ByteArray.empty (setH c m) (i : Int) = rdOf ByteArray.empty c (i : Int) := by
    intro m
    induction m with
    | nil => intro c; rfl
    | cons x m ih =>
      intro c
      show rdOf ByteArray.empty (setH (c.set (33 + x.f0.toNat) x.f1) m) (i : Int) = _
      rw [ih]
      unfold rdOf
      rw [List.getD_eq_getElem?_getD, List.getD_eq_getElem?_getD, List.getElem?_set_ne (by omega)]
  exact key l (landP b l)
theorem commit_head (hv : Valid b []) (hn : n ≤ 223) (hb : b.length = 33 + n) (hm : MayOk l n) : rdOf ByteArray.empty (setH (landP b l) l) 0 = headV l := by
  have := commit_rd hv hn hb hm 0 (by omega)
  rw [show ((0 : Nat) : Int) = 0 from rfl] at this
  rw [this, landP_rd hv hb hm 0 (by omega) (by omega), if_pos rfl]
theorem commit_data (hv : Valid b []) (hn : n ≤ 223) (hb : b.length = 33 + n) (hm : MayOk l n) (k : Nat) (hk : k < l.length) : rdOf ByteArray.empty (setH (landP b l) l) ((k : Int) + 1) = l[k].f1 := by
  have h32 := hm.len
  have := commit_rd hv hn hb hm (k + 1) (by omega)
  rw [show ((k + 1 : Nat) : Int) = (k : Int) + 1 by omega] at this
  rw [this, landP_rd hv hb hm _ (by omega) (by omega), if_neg (by omega)]
  have h2 := getV_pw_at b l k hk l.length (Nat.le_refl _) hk
  rw [List.take_length] at h2
  exact h2
end
end Go.Proofs.Ytjfmnkmgnbbfgaa.A
