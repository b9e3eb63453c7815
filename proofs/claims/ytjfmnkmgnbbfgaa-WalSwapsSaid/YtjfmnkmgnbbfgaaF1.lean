/- Plain: what the calls of a commit make of a drive; the document's example. -/
import Derived.Test.YtjfmnkmgnbbfgaaF0
import Derived.Test.YtjfmnkmgnbbfgaaA63
set_option linter.unusedVariables false
set_option linter.unusedSimpArgs false
namespace Go.Proofs.Ytjfmnkmgnbbfgaa.A
open Go.RowKit Go.Proofs.YtjfmnkmgnbbfgaaW.PrintWords Go.Proofs.YtjfmnkmgnbbfgaaW.PrintLast Go.Proofs.YtjfmnkmgnbbfgaaW.PrintMore
theorem look_ok {n : Nat} {i : Int} {s : ByteArray} (h0 : 0 ≤ i) (h1 : i < n) (hs : (s.size : Int) = 128) : lookV n i s = 0 := by
  unfold lookV
  rw [if_neg (by omega), if_neg (by omega)]
theorem lessV_pos (n : Nat) (hn : n ≤ 1000000) : lessV ((n + 1 : Nat) : Int) = (n : Int) := by
  unfold lessV
  rw [if_pos (by omega)]
  unfold wrap64
  omega
theorem doV_put (i : Int) (s : ByteArray) (cs : List CallV) (b : List ByteArray) (p : List S27) (a : Int) (hl : lookV b.length i s = 0) (ha : a ≠ 0) : doV (.put i s :: cs) b p a = doV cs b (p ++ [⟨i, s⟩]) (lessV a) := by
  rw [doV]
  simp only [callV, putV, if_pos hl, if_neg ha, if_true]
theorem doV_flush (cs : List CallV) (b : List ByteArray) (p : List S27) (a : Int) (ha : a ≠ 0) : doV (.flush :: cs) b p a = doV cs (landTo b.length (fun _ => 1) 0 p b) [] (lessV a) := by
  rw [doV]
  simp only [callV, flushV, if_neg ha, if_true]
theorem doV_flush0 (cs : List CallV) (b : List ByteArray) (p : List S27) : doV (.flush :: cs) b p 0 = (b, p, 0, 17) := by
  rw [doV]
  simp only [callV, flushV, if_true]
  rw [if_neg (by decide)]
/-- landed: as many blocks, each of them whole -/
theorem land_valid {b : List ByteArray} {p : List S27} (h : Valid b p) : Valid (landTo b.length (fun _ => 1) 0 p b) [] := by
  obtain ⟨h1, h2, h3⟩ := land_whole p 0 b h
  exact ⟨by rw [h1]; exact h.1, h2, by simp⟩
theorem land_len {b : List ByteArray} {p : List S27} (h : Valid b p) : (landTo b.length (fun _ => 1) 0 p b).length = b.length := (land_whole p 0 b h).1
theorem valid_snoc {b : List ByteArray} {p : List S27} (h : Valid b p) {i : Int} {s : ByteArray} (hl : lookV b.length i s = 0) : Valid b (p ++ [⟨i, s⟩]) := by
  refine ⟨h.1, h.2.1, fun x hx => ?_⟩
  rcases List.mem_append.1 hx with hx | hx
  · exact h.2.2 x hx
  · obtain rfl := List.mem_singleton.1 hx
    exact hl
theorem form_valid (v : List ByteArray) (hn : v.length ≤ 223) (hw : whole v = true) : Valid (List.replicate 33 zeroS ++ v) [] := by
  refine ⟨by simp; omega, fun s hs => ?_, by simp⟩
  rcases List.mem_append.1 hs with hs | hs
  · rw [List.eq_of_mem_replicate hs, zeroS_B, zeroB_size]; rfl
  · exact of_decide_eq_true (List.all_eq_true.1 hw s hs)
def volS : List ByteArray := (hibernaclelaw16_volume.f 300 2).getD []
theorem volS_some : hibernaclelaw16_volume.f 300 2 = some volS := by kernel_rfl
theorem volS_two : volS.length = 2 := by kernel_rfl
theorem volS_whole : whole volS = true := by kernel_rfl
def s0 : ByteArray := rdOf ByteArray.empty volS 0
def Eva : List ByteArray := List.replicate 33 zeroS ++ volS
theorem Eva_len : Eva.length = 35 := by rw [Eva, List.length_append, volS_two]; rfl
theorem s0_size : s0.size = 128 := by
  have h := rd_mem volS 0 (by omega) (by rw [volS_two]; decide)
  have := of_decide_eq_true (List.all_eq_true.1 volS_whole _ h)
  show (rdOf ByteArray.empty volS 0).size = 128
  omega
theorem Eva_valid : Valid Eva [] := form_valid volS (by rw [volS_two]; omega) volS_whole
def l1S : List S27 := [⟨1, s0⟩]
theorem may_l1S : mayV l1S 2 = 0 := by
  have := s0_size
  simp [mayV, l1S, mayL, this]
theorem plan_l1S : planC l1S = [.put 1 s0, .put 0 (headV l1S), .flush, .put 34 s0, .flush] := by
  have : wrap64 34 = 34 := by unfold wrap64; omega
  simp [planC, putsC, putC, homeV, homeC, l1S, this]
theorem commit_Eva (a : Int) : commitV Eva [] a l1S = doV [.put 1 s0, .put 0 (headV l1S), .flush, .put 34 s0, .flush] Eva [] a := by
  rw [commitV, if_pos (badV_valid Eva_valid (by rw [Eva_len]; omega)), if_pos ⟨by rw [Eva_len]; exact may_l1S, by simp [l1S]⟩, plan_l1S]
theorem head_l1S : ((headV l1S).size : Int) = 128 := by rw [headV_size l1S (by simp [l1S])]; rfl
def Evb : List ByteArray := landTo Eva.length (fun _ => 1) 0 [⟨1, s0⟩, ⟨0, headV l1S⟩] Eva
theorem Evap_valid : Valid Eva [⟨1, s0⟩, ⟨0, headV l1S⟩] := by
  have h1 := valid_snoc Eva_valid (i := 1) (s := s0) (look_ok (by omega) (by rw [Eva_len]; decide) (by rw [s0_size]; rfl))
  have h2 := valid_snoc h1 (i := 0) (s := headV l1S) (look_ok (by omega) (by rw [Eva_len]; decide) head_l1S)
  exact h2
theorem Evb_len : Evb.length = 35 := by rw [Evb, land_len Evap_valid, Eva_len]
theorem Evb_valid : Valid Evb [] := land_valid Evap_valid
def Evc : List ByteArray := landTo Evb.length (fun _ => 1) 0 [⟨34, s0⟩] Evb
theorem Evbp_valid : Valid Evb [⟨34, s0⟩] := valid_snoc Evb_valid (i := 34) (s := s0) (look_ok (by omega) (by rw [Evb_len]; decide) (by rw [s0_size]; rfl))
theorem Evc_len : Evc.length = 35 := by rw [Evc, land_len Evbp_valid, Evb_len]
theorem Evc_valid : Valid Evc [] := land_valid Evbp_valid
theorem less5 : lessV 5 = 4 ∧ lessV 4 = 3 ∧ lessV 3 = 2 ∧ lessV 2 = 1 ∧ lessV 1 = 0 := ⟨lessV_pos 4 (by omega), lessV_pos 3 (by omega), lessV_pos 2 (by omega), lessV_pos 1 (by omega), lessV_pos 0 (by omega)⟩
theorem awake4 : commitV Eva [] 4 l1S = (Evb, [⟨34, s0⟩], 0, 17) := by
  obtain ⟨a5, a4, a3, a2, a1⟩ := less5
  rw [commit_Eva, doV_put _ _ _ _ _ _ (look_ok (by omega) (by rw [Eva_len]; decide) (by rw [s0_size]; rfl)) (by decide), a4,
    doV_put _ _ _ _ _ _ (look_ok (by omega) (by rw [Eva_len]; decide) head_l1S) (by decide), a3, doV_flush _ _ _ _ (by decide), a2]
  show doV _ Evb [] 1 = _
  rw [doV_put _ _ _ _ _ _ (look_ok (by omega) (by rw [Evb_len]; decide) (by rw [s0_size]; rfl)) (by decide), a1, doV_flush0]
  rfl
theorem awake5 : commitV Eva [] 5 l1S = (Evc, [], 0, 0) := by
  obtain ⟨a5, a4, a3, a2, a1⟩ := less5
  rw [commit_Eva, doV_put _ _ _ _ _ _ (look_ok (by omega) (by rw [Eva_len]; decide) (by rw [s0_size]; rfl)) (by decide), a5,
    doV_put _ _ _ _ _ _ (look_ok (by omega) (by rw [Eva_len]; decide) head_l1S) (by decide), a4, doV_flush _ _ _ _ (by decide), a3]
  show doV _ Evb [] 2 = _
  rw [doV_put _ _ _ _ _ _ (look_ok (by omega) (by rw [Evb_len]; decide) (by rw [s0_size]; rfl)) (by decide), a2, doV_flush _ _ _ _ (by decide), a1]
  rfl
theorem home_Evc : homeL Evc [] = [rdOf ByteArray.empty Evc 33, s0] := by
  rw [homeL, if_pos (badV_valid Evc_valid (by rw [Evc_len]; omega)), volL, Evc_len]
  have h34 : rdOf ByteArray.empty Evc 34 = s0 := by
    rw [Evc, (land_whole [⟨34, s0⟩] 0 Evb Evbp_valid).2.2 34 (by omega) (by rw [Evb_len]; decide), show ([⟨34, s0⟩] : List S27) = [] ++ [⟨34, s0⟩] from rfl, getV_snoc4, if_pos rfl]
  show [getV Evc [] 33, getV Evc [] 34] = _
  rw [getV_nil, getV_nil, h34]
end Go.Proofs.Ytjfmnkmgnbbfgaa.A
