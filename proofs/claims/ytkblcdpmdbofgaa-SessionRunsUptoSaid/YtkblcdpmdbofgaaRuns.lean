/- The law SessionRuns returns true for every list of editors, every number and every list of operations, and leaves its arguments as they were: where the arguments are of bulk at most 1048576 (the second form of the statement, SessionRunsUptoSaid). -/
import Derived.Test.YtkblcdpmdbofgaaRuns2
import Derived.Test.YtkblcdpmdbofgaaRuns1
import Derived.Test.YtkblcdpmdbofgaaM4
import Derived.WalkKit
import Derived.ProofKit
import Derived.OpenShut
import Derived.ShutString
import Derived.ChangeOld
import Derived.Below
import Derived.SizedLaws
import Derived.JoinedCond
/- The reference's Do. -/
namespace Go.Proofs.Ytkblcdpmdbofgaa.A
open Go.RowKit Go.Proofs.YtkblcdpmdbofgaaW.PrintWords Go.Proofs.YtkblcdpmdbofgaaW.PrintLast Go.Proofs.YtkblcdpmdbofgaaW.PrintMore
set_option linter.unusedVariables false
set_option linter.unusedSimpArgs false

section
variable {w0 w : World} {F : Nat → Prop} {rb : Nat} {D : Dk} {n : Nat}
theorem ropen_calls (h : Ref w0 w F rb D) (heds : D.eds.length ≤ 2000000) (hd256 : D.drafts.length ≤ 256) (x : S35) (A4 : Option Addr) (c4 : Nat) (hx : opOk x) (hr : k68.C w0 A4 x.f4.length x.f4) (hc4 : x.f4.length ≤ c4) (hF0 : ∀ k, k < w0.heap.size → F k) :
    Calls Try.prog 42 #[.pointer (some ⟨rb, 0, none⟩), .agg #[.int .i64 x.f0, .string x.f1, .int .i64 x.f2, .int .i64 x.f3, .slice A4 x.f4.length c4]] w (RDid w0 w F rb (.agg #[.int .i64 (D.opens x.f1 x.f4).1, .int .i64 (D.opens x.f1 x.f4).2.1]) (D.opens x.f1 x.f4).2.2) := by
  cases hv : D.valid x.f1 x.f4 with
  | false => exact ropen_no h heds x A4 c4 hx hr hc4 (.inl hv)
  | true =>
    by_cases hf : D.drafts.length = 256
    · exact ropen_no h heds x A4 c4 hx hr hc4 (.inr hf)
    · exact ropen_yes h heds x A4 c4 hx hr hc4 hv (by omega) hF0
theorem ramend_calls (h : Ref w0 w F rb D) (heds : D.eds.length ≤ 2000000) (hd256 : D.drafts.length ≤ 256) (hlow : ∀ d ∈ D.drafts, d.earlier.length ≤ 255 ∧ d.approvals.length ≤ 90000) (x : S35) (A4 : Option Addr) (c4 : Nat) (hx : opOk x) (hr : k68.C w0 A4 x.f4.length x.f4) (hc4 : x.f4.length ≤ c4) (hF0 : ∀ k, k < w0.heap.size → F k) :
    Calls Try.prog 43 #[.pointer (some ⟨rb, 0, none⟩), .agg #[.int .i64 x.f0, .string x.f1, .int .i64 x.f2, .int .i64 x.f3, .slice A4 x.f4.length c4]] w (RDid w0 w F rb (.agg #[.int .i64 (D.amend x.f1 x.f2 x.f3 x.f4).1, .int .i64 (D.amend x.f1 x.f2 x.f3 x.f4).2.1]) (D.amend x.f1 x.f2 x.f3 x.f4).2.2) := by
  rcases amend_cases D x.f1 x.f2 x.f3 x.f4 with hh | ⟨d, hg, hcl, hrev, ham, hv, h256⟩
  · exact ramend_no h heds hd256 hlow x A4 c4 hx hr hc4 hh.1
  · obtain ⟨i, hi, hdi⟩ := get_idx hg
    obtain ⟨du, dt, de, da, dc⟩ := d
    simp only at *
    subst hcl
    have hq := (hlow _ (Dk.get_mem hg)).1
    exact ramend_yes h heds hd256 x A4 c4 hx hr hc4 hF0 i du dt de da hdi (hi ▸ hg) hv (by simp only at hq; omega) hi hrev.symm
theorem rapprove_calls (h : Ref w0 w F rb D) (heds : D.eds.length ≤ 2000000) (hd256 : D.drafts.length ≤ 256) (hlow : ∀ d ∈ D.drafts, d.earlier.length ≤ 255 ∧ d.approvals.length ≤ 90000) (x : S35) (A4 : Option Addr) (c4 : Nat) :
    Calls Try.prog 44 #[.pointer (some ⟨rb, 0, none⟩), .agg #[.int .i64 x.f0, .string x.f1, .int .i64 x.f2, .int .i64 x.f3, .slice A4 x.f4.length c4]] w (RDid w0 w F rb (.int .i64 (D.approve x.f1 x.f2 x.f3).1) (D.approve x.f1 x.f2 x.f3).2) := by
  rcases approve_cases D x.f1 x.f2 x.f3 with hh | ⟨d, hg, hcl, hrev, hau, hap, ham⟩
  · refine (rapprove_no h hd256 heds hlow x.f0 x.f1 x.f2 x.f3 A4 x.f4.length c4 hh.1).mono ?_
    rintro e w' ⟨rfl, hB⟩
    rw [hh.2]
    exact h.same hB _
  · obtain ⟨i, hi, hdi⟩ := get_idx hg
    obtain ⟨du, dt, de, da, dc⟩ := d
    simp only at *
    subst hcl
    have hq := hlow _ (Dk.get_mem hg)
    have hm : memS D.eds x.f1 = true := by
      cases hm : memS D.eds x.f1 with
      | true => rfl
      | false =>
        have : (D.approve x.f1 x.f2 x.f3).1 = 1 := by unfold Dk.approve; rw [if_pos hm]
        rw [ham] at this
        cases this
    rw [ham]
    have hs := rapprove_yes h hd256 heds x.f0 x.f1 A4 x.f4.length c4 i du dt de da hdi (hi ▸ hg) hm hau hap hq.1 hq.2
    rw [← hi] at hs
    rw [hrev] at hs
    simp only
    rw [show (x.f2 - 1).toNat = i by omega]
    exact hs
end
end Go.Proofs.Ytkblcdpmdbofgaa.A
/- The reference's Do. -/
namespace Go.Proofs.Ytkblcdpmdbofgaa.A
open Go.RowKit Go.Proofs.YtkblcdpmdbofgaaW.PrintWords Go.Proofs.YtkblcdpmdbofgaaW.PrintLast Go.Proofs.YtkblcdpmdbofgaaW.PrintMore
set_option linter.unusedVariables false
set_option linter.unusedSimpArgs false

section
variable {w0 w W w2 : World} {F : Nat → Prop} {rb : Nat} {D D1 : Dk} {n : Nat}
theorem Ref.bnd (h : Ref w0 w F rb D) (hB : Below w.heap.size w W) : Ref w0 W (fun k => F k ∧ k < w.heap.size) rb D := h.keep (Kp.of_below hB _) (below_step h.below hB)
theorem RDid.box {e : Ending} {v : Value} {res : Nat} (h : RDid w0 W (fun k => F k ∧ k < w.heap.size) rb v D1 e w2) (hB : Below w.heap.size w W) (h0 : w0.heap.size ≤ w.heap.size) (h1 : w.heap.size ≤ res) (h2 : res < W.heap.size) (a b : Value) :
    RDid w0 w F rb (.agg #[a, b]) D1 (.returned (.agg #[a, b])) ((w2.setCell ⟨res, 0, none⟩ a).setCell ⟨res, 1, none⟩ b) := by
  obtain ⟨_, hR, hK⟩ := h
  have hf : ¬ ((F res ∧ res < w.heap.size) ∨ W.heap.size ≤ res) := fun h => by rcases h with h | h <;> omega
  have hsz := hB.size
  refine RDid.mk hB (((hR.far (p := ⟨res, 0, none⟩) hf (by show w0.heap.size ≤ res; omega) a).far (p := ⟨res, 1, none⟩) hf (by show w0.heap.size ≤ res; omega) b).mono (fun k hk => hk.elim (fun h => .inl h.1) (fun h => .inr (by omega)))) (gs := fun k => (F k ∧ w0.heap.size ≤ k) ∨ k = res) (((hK.mono (fun k hk => Or.inl ⟨hk.1.1, hk.2⟩)).then_ (Kp.setCell _ ⟨res, 0, none⟩ a) (fun k hk => .inl (.inr hk))).then_ (Kp.setCell _ ⟨res, 1, none⟩ b) (fun k hk => .inl (.inr hk))) (fun k hk => hk.elim .inl (fun h => .inr (h ▸ h1)))
theorem RDid.res {e : Ending} {v : Value} (x : S35) (A4 : Option Addr) (c4 : Nat) (h : RDid w0 (atW w x A4 c4) (fun k => F k ∧ k < w.heap.size) rb v D1 e w2) : w2.heap[w.heap.size + 1]? = some (.cells #[.int .i64 0, .int .i64 0] 37 (0, 0)) := h.2.2.blk (atW_res w x A4 c4) (fun hk => by have := hk.1.2; omega)

set_option maxHeartbeats 1000000 in
set_option maxRecDepth 100000 in
theorem rdo_open (h : Ref w0 w F rb D) (heds : D.eds.length ≤ 2000000) (hd256 : D.drafts.length ≤ 256) (hlow : ∀ d ∈ D.drafts, d.earlier.length ≤ 255 ∧ d.approvals.length ≤ 90000) (x : S35) (A4 : Option Addr) (c4 : Nat) (hx : opOk x) (hr : k68.C w0 A4 x.f4.length x.f4) (hc4 : x.f4.length ≤ c4) (hF0 : ∀ k, k < w0.heap.size → F k) (h1 : x.f0 = 1) :
    Calls Try.prog 24 #[.pointer (some ⟨rb, 0, none⟩), .agg #[.int .i64 x.f0, .string x.f1, .int .i64 x.f2, .int .i64 x.f3, .slice A4 x.f4.length c4]] w (RDid w0 w F rb (.agg #[.int .i64 (D.opens x.f1 x.f4).1, .int .i64 (D.opens x.f1 x.f4).2.1]) (D.opens x.f1 x.f4).2.2) := by
  have HB := atW_below w x A4 c4
  have HX := atW_box w x A4 c4
  have hs0 := h.below.size
  have hF1 : ∀ k, k < w0.heap.size → F k ∧ k < w.heap.size := fun k hk => ⟨hF0 k hk, Nat.lt_of_lt_of_le hk hs0⟩
  have C := Aside0.mk (ropen_calls (h.bnd (atW_below w x A4 c4)) heds hd256 x A4 c4 hx hr hc4 hF1)
  have HS := Aside0.mk (fun (w2 : World) (e : Ending) (v : Value) (D1 : Dk) (hd : RDid w0 (atW w x A4 c4) (fun k => F k ∧ k < w.heap.size) rb v D1 e w2) (a b : Value) => And.intro (RDid.res x A4 c4 hd) (hd.box HB hs0 (Nat.le_succ w.heap.size) (blk_lt (atW_res w x A4 c4)) a b))
  obtain ⟨x0, x1, x2, x3, x4⟩ := x
  simp only at *
  subst h1
  have k0 := blk_cell HX 0
  have k1 := blk_cell HX 1
  have k2 := blk_cell HX 2
  have k3 := blk_cell HX 3
  have k4 := blk_cell HX 4
  simp [atW] at k0 k1 k2 k3 k4
  clear h hx hr hc4 hF0 hF1 HX hlow
  go_enter Try.func24, Try.ntmps24
  go_wp2_with (go_at_call 42; refine C.out.mono ?_; rintro e w2 hd; obtain rfl := hd.1; have HE := Aside0.mk (HS.out _ _ _ _ hd (.int .i64 (D.opens x1 x4).1) (.int .i64 (D.opens x1 x4).2.1)); have q0 := blk_cell HE.out.1 0; have q1 := blk_cell HE.out.1 1; have f0 := blk_frozen HE.out.1 0; have f1 := blk_frozen HE.out.1 1; simp at q0 q1; have HRF := Aside0.mk (blk_set (blk_set HE.out.1 0 (.int .i64 (D.opens x1 x4).1)) 1 (.int .i64 (D.opens x1 x4).2.1)); clear hd)
  refine bodyPost_ret (results_single rfl (.cell (w.heap.size + 1) 37 _ (0, 0) _ rfl HRF.out Try.underlying37 rfl (by kernel_rfl) .nil)) rfl ?_
  exact HE.out.2

set_option maxHeartbeats 1000000 in
set_option maxRecDepth 100000 in
theorem rdo_amend (h : Ref w0 w F rb D) (heds : D.eds.length ≤ 2000000) (hd256 : D.drafts.length ≤ 256) (hlow : ∀ d ∈ D.drafts, d.earlier.length ≤ 255 ∧ d.approvals.length ≤ 90000) (x : S35) (A4 : Option Addr) (c4 : Nat) (hx : opOk x) (hr : k68.C w0 A4 x.f4.length x.f4) (hc4 : x.f4.length ≤ c4) (hF0 : ∀ k, k < w0.heap.size → F k) (h1 : x.f0 = 2) :
    Calls Try.prog 24 #[.pointer (some ⟨rb, 0, none⟩), .agg #[.int .i64 x.f0, .string x.f1, .int .i64 x.f2, .int .i64 x.f3, .slice A4 x.f4.length c4]] w (RDid w0 w F rb (.agg #[.int .i64 (D.amend x.f1 x.f2 x.f3 x.f4).1, .int .i64 (D.amend x.f1 x.f2 x.f3 x.f4).2.1]) (D.amend x.f1 x.f2 x.f3 x.f4).2.2) := by
  have HB := atW_below w x A4 c4
  have HX := atW_box w x A4 c4
  have hs0 := h.below.size
  have hF1 : ∀ k, k < w0.heap.size → F k ∧ k < w.heap.size := fun k hk => ⟨hF0 k hk, Nat.lt_of_lt_of_le hk hs0⟩
  have C := Aside0.mk (ramend_calls (h.bnd (atW_below w x A4 c4)) heds hd256 hlow x A4 c4 hx hr hc4 hF1)
  have HS := Aside0.mk (fun (w2 : World) (e : Ending) (v : Value) (D1 : Dk) (hd : RDid w0 (atW w x A4 c4) (fun k => F k ∧ k < w.heap.size) rb v D1 e w2) (a b : Value) => And.intro (RDid.res x A4 c4 hd) (hd.box HB hs0 (Nat.le_succ w.heap.size) (blk_lt (atW_res w x A4 c4)) a b))
  obtain ⟨x0, x1, x2, x3, x4⟩ := x
  simp only at *
  subst h1
  have k0 := blk_cell HX 0
  have k1 := blk_cell HX 1
  have k2 := blk_cell HX 2
  have k3 := blk_cell HX 3
  have k4 := blk_cell HX 4
  simp [atW] at k0 k1 k2 k3 k4
  clear h hx hr hc4 hF0 hF1 HX hlow
  go_enter Try.func24, Try.ntmps24
  go_wp2_with (go_at_call 43; refine C.out.mono ?_; rintro e w2 hd; obtain rfl := hd.1; have HE := Aside0.mk (HS.out _ _ _ _ hd (.int .i64 (D.amend x1 x2 x3 x4).1) (.int .i64 (D.amend x1 x2 x3 x4).2.1)); have q0 := blk_cell HE.out.1 0; have q1 := blk_cell HE.out.1 1; have f0 := blk_frozen HE.out.1 0; have f1 := blk_frozen HE.out.1 1; simp at q0 q1; have HRF := Aside0.mk (blk_set (blk_set HE.out.1 0 (.int .i64 (D.amend x1 x2 x3 x4).1)) 1 (.int .i64 (D.amend x1 x2 x3 x4).2.1)); clear hd)
  refine bodyPost_ret (results_single rfl (.cell (w.heap.size + 1) 37 _ (0, 0) _ rfl HRF.out Try.underlying37 rfl (by kernel_rfl) .nil)) rfl ?_
  exact HE.out.2

set_option maxHeartbeats 1000000 in
set_option maxRecDepth 100000 in
theorem rdo_approve (h : Ref w0 w F rb D) (heds : D.eds.length ≤ 2000000) (hd256 : D.drafts.length ≤ 256) (hlow : ∀ d ∈ D.drafts, d.earlier.length ≤ 255 ∧ d.approvals.length ≤ 90000) (x : S35) (A4 : Option Addr) (c4 : Nat) (hx : opOk x) (hr : k68.C w0 A4 x.f4.length x.f4) (hc4 : x.f4.length ≤ c4) (hF0 : ∀ k, k < w0.heap.size → F k) (h1 : x.f0 = 3) :
    Calls Try.prog 24 #[.pointer (some ⟨rb, 0, none⟩), .agg #[.int .i64 x.f0, .string x.f1, .int .i64 x.f2, .int .i64 x.f3, .slice A4 x.f4.length c4]] w (RDid w0 w F rb (.agg #[.int .i64 (0, D.approve x.f1 x.f2 x.f3).1, .int .i64 (0, D.approve x.f1 x.f2 x.f3).2.1]) (0, D.approve x.f1 x.f2 x.f3).2.2) := by
  have HB := atW_below w x A4 c4
  have HX := atW_box w x A4 c4
  have hs0 := h.below.size
  have hF1 : ∀ k, k < w0.heap.size → F k ∧ k < w.heap.size := fun k hk => ⟨hF0 k hk, Nat.lt_of_lt_of_le hk hs0⟩
  have C := Aside0.mk (rapprove_calls (h.bnd (atW_below w x A4 c4)) heds hd256 hlow x A4 c4)
  have HS := Aside0.mk (fun (w2 : World) (e : Ending) (v : Value) (D1 : Dk) (hd : RDid w0 (atW w x A4 c4) (fun k => F k ∧ k < w.heap.size) rb v D1 e w2) (a b : Value) => And.intro (RDid.res x A4 c4 hd) (hd.box HB hs0 (Nat.le_succ w.heap.size) (blk_lt (atW_res w x A4 c4)) a b))
  obtain ⟨x0, x1, x2, x3, x4⟩ := x
  simp only at *
  subst h1
  have k0 := blk_cell HX 0
  have k1 := blk_cell HX 1
  have k2 := blk_cell HX 2
  have k3 := blk_cell HX 3
  have k4 := blk_cell HX 4
  simp [atW] at k0 k1 k2 k3 k4
  clear h hx hr hc4 hF0 hF1 HX hlow
  go_enter Try.func24, Try.ntmps24
  go_wp2_with (go_at_call 44; refine C.out.mono ?_; rintro e w2 hd; obtain rfl := hd.1; have HE := Aside0.mk (HS.out _ _ _ _ hd (.int .i64 (0, D.approve x1 x2 x3).1) (.int .i64 (0, D.approve x1 x2 x3).2.1)); have q0 := blk_cell HE.out.1 0; have q1 := blk_cell HE.out.1 1; have f0 := blk_frozen HE.out.1 0; have f1 := blk_frozen HE.out.1 1; simp at q0 q1; have HRF := Aside0.mk (blk_set (blk_set HE.out.1 0 (.int .i64 (0, D.approve x1 x2 x3).1)) 1 (.int .i64 (0, D.approve x1 x2 x3).2.1)); clear hd)
  refine bodyPost_ret (results_single rfl (.cell (w.heap.size + 1) 37 _ (0, 0) _ rfl HRF.out Try.underlying37 rfl (by kernel_rfl) .nil)) rfl ?_
  exact HE.out.2

set_option maxHeartbeats 1000000 in
set_option maxRecDepth 100000 in
theorem rdo_close (h : Ref w0 w F rb D) (heds : D.eds.length ≤ 2000000) (hd256 : D.drafts.length ≤ 256) (hlow : ∀ d ∈ D.drafts, d.earlier.length ≤ 255 ∧ d.approvals.length ≤ 90000) (x : S35) (A4 : Option Addr) (c4 : Nat) (hx : opOk x) (hr : k68.C w0 A4 x.f4.length x.f4) (hc4 : x.f4.length ≤ c4) (hF0 : ∀ k, k < w0.heap.size → F k) (h1 : x.f0 = 5) :
    Calls Try.prog 24 #[.pointer (some ⟨rb, 0, none⟩), .agg #[.int .i64 x.f0, .string x.f1, .int .i64 x.f2, .int .i64 x.f3, .slice A4 x.f4.length c4]] w (RDid w0 w F rb (.agg #[.int .i64 (0, D.close x.f2).1, .int .i64 (0, D.close x.f2).2.1]) (0, D.close x.f2).2.2) := by
  have HB := atW_below w x A4 c4
  have HX := atW_box w x A4 c4
  have hs0 := h.below.size
  have hF1 : ∀ k, k < w0.heap.size → F k ∧ k < w.heap.size := fun k hk => ⟨hF0 k hk, Nat.lt_of_lt_of_le hk hs0⟩
  have C := Aside0.mk (rclose_calls (h.bnd (atW_below w x A4 c4)) hd256 x.f2)
  have HS := Aside0.mk (fun (w2 : World) (e : Ending) (v : Value) (D1 : Dk) (hd : RDid w0 (atW w x A4 c4) (fun k => F k ∧ k < w.heap.size) rb v D1 e w2) (a b : Value) => And.intro (RDid.res x A4 c4 hd) (hd.box HB hs0 (Nat.le_succ w.heap.size) (blk_lt (atW_res w x A4 c4)) a b))
  obtain ⟨x0, x1, x2, x3, x4⟩ := x
  simp only at *
  subst h1
  have k0 := blk_cell HX 0
  have k2 := blk_cell HX 2
  simp [atW] at k0 k2
  clear h hx hr hc4 hF0 hF1 HX hlow
  go_enter Try.func24, Try.ntmps24
  go_wp2_with (go_at_call 46; refine C.out.mono ?_; rintro e w2 hd; obtain rfl := hd.1; have HE := Aside0.mk (HS.out _ _ _ _ hd (.int .i64 (0, D.close x2).1) (.int .i64 (0, D.close x2).2.1)); have q0 := blk_cell HE.out.1 0; have q1 := blk_cell HE.out.1 1; have f0 := blk_frozen HE.out.1 0; have f1 := blk_frozen HE.out.1 1; simp at q0 q1; have HRF := Aside0.mk (blk_set (blk_set HE.out.1 0 (.int .i64 (0, D.close x2).1)) 1 (.int .i64 (0, D.close x2).2.1)); clear hd)
  refine bodyPost_ret (results_single rfl (.cell (w.heap.size + 1) 37 _ (0, 0) _ rfl HRF.out Try.underlying37 rfl (by kernel_rfl) .nil)) rfl ?_
  exact HE.out.2

set_option maxHeartbeats 1000000 in
set_option maxRecDepth 100000 in
theorem rdo_ready (h : Ref w0 w F rb D) (heds : D.eds.length ≤ 2000000) (hd256 : D.drafts.length ≤ 256) (hlow : ∀ d ∈ D.drafts, d.earlier.length ≤ 255 ∧ d.approvals.length ≤ 90000) (x : S35) (A4 : Option Addr) (c4 : Nat) (hx : opOk x) (hr : k68.C w0 A4 x.f4.length x.f4) (hc4 : x.f4.length ≤ c4) (hF0 : ∀ k, k < w0.heap.size → F k) (h1 : x.f0 = 4) :
    Calls Try.prog 24 #[.pointer (some ⟨rb, 0, none⟩), .agg #[.int .i64 x.f0, .string x.f1, .int .i64 x.f2, .int .i64 x.f3, .slice A4 x.f4.length c4]] w (RDid w0 w F rb (.agg #[.int .i64 0, .int .i64 (D.ready x.f2 x.f3)]) D) := by
  have HB := atW_below w x A4 c4
  have HX := atW_box w x A4 c4
  have C := Aside0.mk (rready_calls (h.grow HB) hd256 hlow x.f2 x.f3)
  have HS := Aside0.mk (fun (w2 : World) (hB2 : Below (atW w x A4 c4).heap.size (atW w x A4 c4) w2) (a b : Value) => And.intro (blk_below (atW_res w x A4 c4) hB2) (h.same (below_set (j := 1) (v := b) (below_set (j := 0) (v := a) (below_step HB hB2) (Nat.le_succ w.heap.size)) (Nat.le_succ w.heap.size)) (.agg #[a, b])))
  obtain ⟨x0, x1, x2, x3, x4⟩ := x
  simp only at *
  subst h1
  have k0 := blk_cell HX 0
  have k2 := blk_cell HX 2
  have k3 := blk_cell HX 3
  simp [atW] at k0 k2 k3
  clear h hx hr hc4 hF0 HX hlow
  go_enter Try.func24, Try.ntmps24
  go_wp2_with (go_at_call 45; refine C.out.mono ?_; rintro e w2 ⟨rfl, hd⟩; have HE := Aside0.mk (HS.out _ hd (.int .i64 0) (.int .i64 (D.ready x2 x3))); have q0 := blk_cell HE.out.1 0; have q1 := blk_cell HE.out.1 1; have f0 := blk_frozen HE.out.1 0; have f1 := blk_frozen HE.out.1 1; simp at q0 q1; have HRF := Aside0.mk (blk_set (blk_set HE.out.1 0 (.int .i64 0)) 1 (.int .i64 (D.ready x2 x3))); clear hd)
  refine bodyPost_ret (results_single rfl (.cell (w.heap.size + 1) 37 _ (0, 0) _ rfl HRF.out Try.underlying37 rfl (by kernel_rfl) .nil)) rfl ?_
  exact HE.out.2
set_option maxHeartbeats 1000000 in
set_option maxRecDepth 100000 in
theorem rdo_none (h : Ref w0 w F rb D) (heds : D.eds.length ≤ 2000000) (hd256 : D.drafts.length ≤ 256) (hlow : ∀ d ∈ D.drafts, d.earlier.length ≤ 255 ∧ d.approvals.length ≤ 90000) (x : S35) (A4 : Option Addr) (c4 : Nat) (hx : opOk x) (hr : k68.C w0 A4 x.f4.length x.f4) (hc4 : x.f4.length ≤ c4) (hF0 : ∀ k, k < w0.heap.size → F k) (h1 : x.f0 ≠ 1) (h2 : x.f0 ≠ 2) (h3 : x.f0 ≠ 3) (h4 : x.f0 ≠ 4) (h5 : x.f0 ≠ 5) :
    Calls Try.prog 24 #[.pointer (some ⟨rb, 0, none⟩), .agg #[.int .i64 x.f0, .string x.f1, .int .i64 x.f2, .int .i64 x.f3, .slice A4 x.f4.length c4]] w (RDid w0 w F rb (.agg #[.int .i64 0, .int .i64 0]) D) := by
  have HB := atW_below w x A4 c4
  have HX := atW_box w x A4 c4
  have HRs := atW_res w x A4 c4
  have HS := Aside0.mk (h.same (below_set (j := 1) (v := (.int .i64 0)) (below_set (j := 0) (v := (.int .i64 0)) HB (Nat.le_succ w.heap.size)) (Nat.le_succ w.heap.size)) (.agg #[.int .i64 0, .int .i64 0]))
  have HS2 := Aside0.mk (h.same HB (.agg #[.int .i64 0, .int .i64 0]))
  obtain ⟨x0, x1, x2, x3, x4⟩ := x
  simp only at *
  have k0 := blk_cell HX 0
  have q0 := blk_cell HRs 0
  have q1 := blk_cell HRs 1
  have f0 := blk_frozen HRs 0
  have f1 := blk_frozen HRs 1
  simp [atW] at k0
  simp at q0 q1
  unfold atW at q0 q1 f0 f1
  have g1 : (x0 == 1) = false := beq_eq_false_iff_ne.mpr h1
  have g2 : (x0 == 2) = false := beq_eq_false_iff_ne.mpr h2
  have g3 : (x0 == 3) = false := beq_eq_false_iff_ne.mpr h3
  have g4 : (x0 == 4) = false := beq_eq_false_iff_ne.mpr h4
  have g5 : (x0 == 5) = false := beq_eq_false_iff_ne.mpr h5
  have HRR := Aside0.mk HRs
  have HRF := Aside0.mk (blk_set (blk_set HRs 0 (.int .i64 0)) 1 (.int .i64 0))
  clear h hx hr hc4 hF0 HX HRs hlow h1 h2 h3 h4 h5
  go_enter Try.func24, Try.ntmps24
  go_wp2
  first
    | (refine bodyPost_ret (results_single rfl (.cell (w.heap.size + 1) 37 _ (0, 0) _ rfl HRR.out Try.underlying37 rfl (by kernel_rfl) .nil)) rfl ?_
       exact HS2.out)
    | (refine bodyPost_ret (results_single rfl (.cell (w.heap.size + 1) 37 _ (0, 0) _ rfl HRF.out Try.underlying37 rfl (by kernel_rfl) .nil)) rfl ?_
       exact HS.out)
theorem rdo_calls (h : Ref w0 w F rb D) (heds : D.eds.length ≤ 2000000) (hd256 : D.drafts.length ≤ 256) (hlow : ∀ d ∈ D.drafts, d.earlier.length ≤ 255 ∧ d.approvals.length ≤ 90000) (x : S35) (A4 : Option Addr) (c4 : Nat) (hx : opOk x) (hr : k68.C w0 A4 x.f4.length x.f4) (hc4 : x.f4.length ≤ c4) (hF0 : ∀ k, k < w0.heap.size → F k) :
    Calls Try.prog 24 #[.pointer (some ⟨rb, 0, none⟩), .agg #[.int .i64 x.f0, .string x.f1, .int .i64 x.f2, .int .i64 x.f3, .slice A4 x.f4.length c4]] w (RDid w0 w F rb (.agg #[.int .i64 (D.doOp x).1, .int .i64 (D.doOp x).2.1]) (D.doOp x).2.2) := by
  unfold Dk.doOp
  by_cases h1 : x.f0 = 1
  · rw [if_pos h1]; exact rdo_open h heds hd256 hlow x A4 c4 hx hr hc4 hF0 h1
  rw [if_neg h1]
  by_cases h2 : x.f0 = 2
  · rw [if_pos h2]; exact rdo_amend h heds hd256 hlow x A4 c4 hx hr hc4 hF0 h2
  rw [if_neg h2]
  by_cases h3 : x.f0 = 3
  · rw [if_pos h3]; exact rdo_approve h heds hd256 hlow x A4 c4 hx hr hc4 hF0 h3
  rw [if_neg h3]
  by_cases h4 : x.f0 = 4
  · rw [if_pos h4]; exact rdo_ready h heds hd256 hlow x A4 c4 hx hr hc4 hF0 h4
  rw [if_neg h4]
  by_cases h5 : x.f0 = 5
  · rw [if_pos h5]; exact rdo_close h heds hd256 hlow x A4 c4 hx hr hc4 hF0 h5
  rw [if_neg h5]
  exact rdo_none h heds hd256 hlow x A4 c4 hx hr hc4 hF0 h1 h2 h3 h4 h5
end
end Go.Proofs.Ytkblcdpmdbofgaa.A
/- pentaglotlaw54.agrees: the program's desk and the reference's, a draft each. -/
namespace Go.Proofs.Ytkblcdpmdbofgaa.A
open Go.RowKit Go.Proofs.YtkblcdpmdbofgaaW.PrintWords Go.Proofs.YtkblcdpmdbofgaaW.PrintLast Go.Proofs.YtkblcdpmdbofgaaW.PrintMore
set_option linter.unusedVariables false
set_option linter.unusedSimpArgs false

theorem show_none {D : Dk} {id : Int} (h : D.get id = none) : D.show_ id = ⟨0, 0, ⟨#[]⟩, [], [], false⟩ ∧ D.has id = 4 ∧ D.hist id = [] := by
  unfold Dk.show_ Dk.has Dk.hist
  rw [h]
  exact ⟨rfl, rfl, rfl⟩
theorem show_some {D : Dk} {id : Int} {d : Dr} (h : D.get id = some d) : D.show_ id = ⟨id, (d.earlier.length : Int) + 1, d.author, d.trees, d.approvals, d.closed⟩ ∧ D.has id = 0 ∧ D.hist id = d.earlier ++ [d.trees] := by
  unfold Dk.show_ Dk.has Dk.hist
  rw [h]
  exact ⟨rfl, rfl, rfl⟩

set_option maxHeartbeats 400000 in
set_option maxRecDepth 100000 in
theorem agrees_none {w0 w : World} {F1 F2 : Nat → Prop} {dp mb rb : Nat} {D : Dk} {n : Nat} (h1 : At w F1 dp mb D n) (hn : n ≤ 90000) (h2 : Ref w0 w F2 rb D) (id : Int) (hid : (Lit.int .i64 id).wf = true) (hg : D.get id = none) :
    Calls Try.prog 25 #[.pointer (some ⟨dp, 0, none⟩), .pointer (some ⟨rb, 0, none⟩), .int .i64 id] w fun e w' => e = .returned (.bool true) ∧ Below w.heap.size w w' := by
  obtain ⟨hs, hh, hi⟩ := show_none hg
  have C21 := Aside0.mk (h1.draft hn id hid)
  have C19 := Aside0.mk (fun (W : World) (hB : Below w.heap.size w W) => (h1.grow hB).history hn id hid)
  rw [hs, hh] at C21
  simp only [shownV] at C21
  rw [hh, hi] at C19
  obtain ⟨A, c, Av, cv, hb, _, _⟩ := h2.len
  have HBK := Aside0.mk hb
  have hor : id < 1 ∨ (D.drafts.length : Int) < id := by
    by_cases h1 : 1 ≤ id
    · by_cases h2 : id ≤ D.drafts.length
      · obtain ⟨d, hd, _⟩ := D.get_at id h1 h2
        rw [hg] at hd
        cases hd
      · omega
    · omega
  clear h1 h2 hb hs hh hi hg
  rcases hor with hlt | hgt
  · have q1 : decide (id < 1) = true := decide_eq_true hlt
    go_enter Try.func25, Try.ntmps25
    go_wp2_with (first
      | (go_at_call 21; refine C21.out.mono ?_; rintro e w1 ⟨vt, va, rfl, hT, hA, hB⟩; obtain ⟨At1, ct1, rfl⟩ := Kd.R_slice hT; obtain ⟨Aa1, ca1, rfl⟩ := Kd.R_slice hA; have HB1 := Aside0.mk (below_alloc hB (.cells #[.int .i64 0, .int .i64 0, .string ⟨#[]⟩, .slice At1 ([] : List S68).length ct1, .slice Aa1 ([] : List ByteArray).length ca1, .bool false] 49)); have X1 := Aside0.mk (heap_alloc_new w1 (.cells #[.int .i64 0, .int .i64 0, .string ⟨#[]⟩, .slice At1 ([] : List S68).length ct1, .slice Aa1 ([] : List ByteArray).length ca1, .bool false] 49)); clear hT hA hB)
      | (go_at_call 19; refine (C19.out _ HB1.out).mono ?_; rintro e w2 ⟨vh, rfl, hR, hB⟩; obtain ⟨Ah2, ch2, rfl⟩ := Kd.R_slice hR; have HB2 := Aside0.mk (below_step HB1.out hB); have x0 := blk_cell (blk_below X1.out hB) 0; simp at x0; clear hR hB))
    go_ret
    exact ⟨rfl, HB2.out⟩
  · have q1 : decide (id < 1) = false := decide_eq_false (by omega)
    have q2 : decide ((D.drafts.length : Int) < id) = true := decide_eq_true hgt
    go_enter Try.func25, Try.ntmps25
    go_wp2_with (first
      | (go_at_call 21; refine C21.out.mono ?_; rintro e w1 ⟨vt, va, rfl, hT, hA, hB⟩; obtain ⟨At1, ct1, rfl⟩ := Kd.R_slice hT; obtain ⟨Aa1, ca1, rfl⟩ := Kd.R_slice hA; have HB1 := Aside0.mk (below_alloc hB (.cells #[.int .i64 0, .int .i64 0, .string ⟨#[]⟩, .slice At1 ([] : List S68).length ct1, .slice Aa1 ([] : List ByteArray).length ca1, .bool false] 49)); have X1 := Aside0.mk (heap_alloc_new w1 (.cells #[.int .i64 0, .int .i64 0, .string ⟨#[]⟩, .slice At1 ([] : List S68).length ct1, .slice Aa1 ([] : List ByteArray).length ca1, .bool false] 49)); clear hT hA hB)
      | (go_at_call 19; refine (C19.out _ HB1.out).mono ?_; rintro e w2 ⟨vh, rfl, hR, hB⟩; obtain ⟨Ah2, ch2, rfl⟩ := Kd.R_slice hR; have HB2 := Aside0.mk (below_step HB1.out hB); have x0 := blk_cell (blk_below X1.out hB) 0; have r2 := blk_cell (blk_below HBK.out HB2.out) 2; simp at x0 r2; clear hR hB))
    go_ret
    exact ⟨rfl, HB2.out⟩

end Go.Proofs.Ytkblcdpmdbofgaa.A
/- pentaglotlaw54.agrees: the program's desk and the reference's, a draft that is there. -/
namespace Go.Proofs.Ytkblcdpmdbofgaa.A
open Go.RowKit Go.Proofs.YtkblcdpmdbofgaaW.PrintWords Go.Proofs.YtkblcdpmdbofgaaW.PrintLast Go.Proofs.YtkblcdpmdbofgaaW.PrintMore
set_option linter.unusedVariables false
set_option linter.unusedSimpArgs false

theorem ag_cells {W W' : World} {bx by_ : Nat} {v0 v1 v2 v3 v4 v5 u0 u1 u2 u3 z : Value} {ad : Addr} (h1 : W.heap[bx]? = some (.cells #[v0, v1, v2, v3, v4, v5] 49 (0, 0))) (h2 : W.heap[by_]? = some (.cells #[u0, u1, u2, u3] 89 (0, 0))) (h3 : W.cell? ad = some z) (hB : Below W.heap.size W W') :
    W'.cell? ⟨bx, 0, none⟩ = some v0 ∧ W'.cell? ⟨bx, 1, none⟩ = some v1 ∧ W'.cell? ⟨bx, 2, none⟩ = some v2 ∧ W'.cell? ⟨bx, 3, none⟩ = some v3 ∧ W'.cell? ⟨bx, 4, none⟩ = some v4 ∧ W'.cell? ⟨bx, 5, none⟩ = some v5 ∧
    W'.cell? ⟨by_, 0, none⟩ = some u0 ∧ W'.cell? ⟨by_, 1, none⟩ = some u1 ∧ W'.cell? ⟨by_, 2, none⟩ = some u2 ∧ W'.cell? ⟨by_, 3, none⟩ = some u3 ∧ W'.cell? ad = some z := by
  have g1 := blk_below h1 hB
  have g2 := blk_below h2 hB
  exact ⟨blk_cell g1 0, blk_cell g1 1, blk_cell g1 2, blk_cell g1 3, blk_cell g1 4, blk_cell g1 5, blk_cell g2 0, blk_cell g2 1, blk_cell g2 2, blk_cell g2 3, (hB.cell (World.block_lt_of_cell? W _ h3)).trans h3⟩

theorem len_nums {n : Nat} (h : n ≤ 2000000) : wrap64 ((n : Int) + 1) = (n : Int) + 1 ∧ IntKind.i64.wrap ((n : Int) + 1) = (n : Int) + 1 ∧ wrap64 ((n : Int) + 1 - 1) = (n : Int) ∧ IntKind.i64.wrap ((n : Int) + 1 - 1) = (n : Int) ∧ IntKind.i64.wrap (n : Int) = (n : Int) ∧ (0 : Int) ≤ (n : Int) ∧ (n : Int) < (n : Int) + 1 :=
  ⟨wrap_small (by omega) (by omega), wrap_i64 (by omega) (by omega), (wrap_small (by omega) (by omega)).trans (by omega), (wrap_i64 (by omega) (by omega)).trans (by omega), wrap_i64 (by omega) (by omega), Int.natCast_nonneg _, by omega⟩

set_option maxHeartbeats 4000000 in
set_option maxRecDepth 100000 in
theorem agrees_some {w0 w : World} {F1 F2 : Nat → Prop} {dp mb rb : Nat} {D : Dk} {n : Nat} (h1 : At w F1 dp mb D n) (hn : n ≤ 90000) (h2 : Ref w0 w F2 rb D) (hd256 : D.drafts.length ≤ 256) (i : Nat) (du : ByteArray) (dt : List S68) (de : List (List S68)) (da : List ByteArray) (dc : Bool) (hdi : D.drafts[i]? = some ⟨du, dt, de, da, dc⟩) (hg : D.get ((i : Int) + 1) = some ⟨du, dt, de, da, dc⟩) :
    Calls Try.prog 25 #[.pointer (some ⟨dp, 0, none⟩), .pointer (some ⟨rb, 0, none⟩), .int .i64 ((i : Int) + 1)] w fun e w' => e = .returned (.bool true) ∧ Below w.heap.size w w' := by
  obtain ⟨hs, hh, hi⟩ := show_some hg
  have hlt0 : i < D.drafts.length := (List.getElem?_eq_some_iff.1 hdi).1
  have hid : (Lit.int .i64 ((i : Int) + 1)).wf = true := wf_i64 (by omega) (by omega)
  have C21 := Aside0.mk (h1.draft hn ((i : Int) + 1) hid)
  have C19 := Aside0.mk (fun (W : World) (hB : Below w.heap.size w W) => (h1.grow hB).history hn ((i : Int) + 1) hid)
  rw [hs, hh] at C21
  simp only [shownV] at C21
  rw [hh, hi] at C19
  have SM := shown_small h1.1 hn ((i : Int) + 1)
  have HM := hist_small h1.1 ((i : Int) + 1)
  rw [hs] at SM
  rw [hi] at HM
  simp only at SM HM C19 C21
  have HSM := Aside0.mk SM
  have HHM := Aside0.mk HM
  have hde : de.length ≤ 2000000 := by have := HM.1; simp at this; omega
  have hda : da.length ≤ 2000000 := SM.2
  obtain ⟨A, c, g, cap, Ah, ch, Ap, cp, hE⟩ := h2.at_ hdi
  have HE := Aside0.mk hE
  have hC := Kd.F_now hE.hist
  simp only at hC
  have hC' : (Kd.slice 68 k68).C w Ah (de ++ [dt]).length (de ++ [dt]) := by rw [show (de ++ [dt]).length = de.length + 1 by simp]; exact hC
  obtain ⟨ad, A9, c9, eAh, hx9, hl9, hC9⟩ := at_L4 hC' (de.length : Int) (Int.natCast_nonneg _) (by simp; omega)
  have he : rd_L4 (de ++ [dt]) (de.length : Int) = dt := by
    unfold rd_L4
    rw [List.getD_eq_getElem?_getD, Int.toNat_natCast, List.getElem?_append_right (Nat.le_refl _)]
    simp
  rw [he] at hx9 hl9 hC9
  rw [Int.toNat_natCast] at hx9
  subst eAh
  have HX9 := Aside0.mk hx9
  have HC9 := Aside0.mk hC9
  have HL9 := Aside0.mk hl9
  have HCH := Aside0.mk hC'
  have HCP := Aside0.mk (Kd.F_now hE.app)
  have hch1 : (de ++ [dt]).length ≤ ch := by have := hE.hch; simp; simp only at this; omega
  have HCH1 := Aside0.mk hch1
  have HCP1 := Aside0.mk hE.hcp
  have fw1 : wrap64 ((i : Int) + 1 - 1) = (i : Int) := (wrap_small (by omega) (by omega)).trans (by omega)
  have fw2 : IntKind.i64.wrap ((i : Int) + 1 - 1) = (i : Int) := (wrap_i64 (by omega) (by omega)).trans (by omega)
  have fi1 : (0 : Int) ≤ (i : Int) := Int.natCast_nonneg _
  have fi2 : (i : Int) < (D.drafts.length : Int) := by omega
  have q1 : decide ((i : Int) + 1 < 1) = false := decide_eq_false (by omega)
  have q2 : decide ((D.drafts.length : Int) < (i : Int) + 1) = false := decide_eq_false (by omega)
  obtain ⟨gw1, gw2, gw3, gw4, gw5, gi1, gi2⟩ := len_nums hde
  have ge1 : ((de.length : Int) + 1 == (de.length : Int) + 1) = true := beq_self_eq_true _
  have ge2 : ((i : Int) + 1 == (i : Int) + 1) = true := beq_self_eq_true _
  have ge3 : (du.toList == du.toList) = true := beq_self_eq_true _
  have ge4 : (dc == dc) = true := beq_self_eq_true _
  clear h1 h2 hs hh hi hg hdi hE hC hC' hx9 hl9 hC9 he SM HM hch1 hid
  go_enter Try.func25, Try.ntmps25
  go_wp2_with (first
    | (go_at_call 21; refine C21.out.mono ?_; rintro e w1 ⟨vt, va, rfl, hT, hA, hB⟩; obtain ⟨At1, ct1, rfl⟩ := Kd.R_slice hT; obtain ⟨Aa1, ca1, rfl⟩ := Kd.R_slice hA; have HB1 := Aside0.mk (below_alloc hB (.cells #[.int .i64 ((i : Int) + 1), .int .i64 ((de.length : Int) + 1), .string du, .slice At1 dt.length ct1, .slice Aa1 da.length ca1, .bool dc] 49)); have X1 := Aside0.mk (heap_alloc_new w1 (.cells #[.int .i64 ((i : Int) + 1), .int .i64 ((de.length : Int) + 1), .string du, .slice At1 dt.length ct1, .slice Aa1 da.length ca1, .bool dc] 49)); have T1 := Aside0.mk (Kd.R_reads' (Kd.R_alloc hT (.cells #[.int .i64 ((i : Int) + 1), .int .i64 ((de.length : Int) + 1), .string du, .slice At1 dt.length ct1, .slice Aa1 da.length ca1, .bool dc] 49))); have P1 := Aside0.mk (Kd.R_reads' (Kd.R_alloc hA (.cells #[.int .i64 ((i : Int) + 1), .int .i64 ((de.length : Int) + 1), .string du, .slice At1 dt.length ct1, .slice Aa1 da.length ca1, .bool dc] 49))); clear hT hA hB)
    | (go_at_call 19; refine (C19.out _ HB1.out).mono ?_; rintro e w2 ⟨vh, rfl, hR, hB⟩; obtain ⟨Ah2, ch2, rfl⟩ := Kd.R_slice hR; have HB2 := Aside0.mk (below_step HB1.out hB); have X2 := Aside0.mk (blk_below X1.out hB); have T2 := Aside0.mk (Kd.C_below T1.out.2.2 hB); have P2 := Aside0.mk (Kd.C_below P1.out.2.2 hB); have R2 := Aside0.mk (Kd.R_reads' hR); have hE2 := HE.out.grow HB2.out; have r2 := blk_cell hE2.blk 2; have e0 := hE2.cells 0 _ rfl; have e1 := hE2.cells 1 _ rfl; have e2 := hE2.cells 2 _ rfl; have e3 := hE2.cells 3 _ rfl; simp at r2 e0; clear hR hB hE2))
  have HX7 := Aside0.mk (blk_alloc X2.out (.cells #[.slice (some ad) (de.length + 1) ch, .string du, .slice Ap da.length cp, .bool dc] 89))
  have HY7 := Aside0.mk (heap_alloc_new w2 (.cells #[.slice (some ad) (de.length + 1) ch, .string du, .slice Ap da.length cp, .bool dc] 89))
  have HA7 := Aside0.mk (below_alloc (Below.refl w2.heap.size w2) (.cells #[.slice (some ad) (de.length + 1) ch, .string du, .slice Ap da.length cp, .bool dc] 89))
  generalize (w2.alloc (.cells #[.slice (some ad) (de.length + 1) ch, .string du, .slice Ap da.length cp, .bool dc] 89)) = W7 at *
  have HB7 := Aside0.mk (below_step HB2.out HA7.out)
  have HZ7 := Aside0.mk ((HB7.out.cell (World.block_lt_of_cell? w _ HX9.out)).trans HX9.out)
  have HD7 := Aside0.mk (below_drew (Below.refl W7.heap.size W7))
  have S7 := Aside0.mk (ag_cells HX7.out HY7.out HZ7.out HD7.out)
  have HLEN : Aside0 ((de ++ [dt]).length = de.length + 1) := ⟨by simp⟩
  clear r2 e0 e1 e2 e3
  go_region_held3 (fun w' => w'.cell? ⟨w1.heap.size, 0, none⟩ = some (.int .i64 ((i : Int) + 1)) ∧ w'.cell? ⟨w1.heap.size, 1, none⟩ = some (.int .i64 ((de.length : Int) + 1)) ∧ w'.cell? ⟨w1.heap.size, 2, none⟩ = some (.string du) ∧ w'.cell? ⟨w1.heap.size, 3, none⟩ = some (.slice At1 dt.length ct1) ∧ w'.cell? ⟨w1.heap.size, 4, none⟩ = some (.slice Aa1 da.length ca1) ∧ w'.cell? ⟨w1.heap.size, 5, none⟩ = some (.bool dc) ∧
      w'.cell? ⟨w2.heap.size, 0, none⟩ = some (.slice (some ad) (de.length + 1) ch) ∧ w'.cell? ⟨w2.heap.size, 1, none⟩ = some (.string du) ∧ w'.cell? ⟨w2.heap.size, 2, none⟩ = some (.slice Ap da.length cp) ∧ w'.cell? ⟨w2.heap.size, 3, none⟩ = some (.bool dc) ∧ w'.cell? (ad.add de.length) = some (.slice A9 dt.length c9))
    (first
      | (with_reducible exact S7.out)
      | (with_reducible exact S8.out)
      | (with_reducible exact S9.out)
      | (with_reducible exact S10.out))
    (first
      | (go_at_call 23; refine (sameAll_calls dt HSM.out.1 (Kd.C_below T2.out (below_step HA7.out HD7.out)) T1.out.2.1 (Kd.C_below HC9.out (below_step HB7.out HD7.out)) HL9.out).mono ?_; rintro e w8 ⟨rfl, hB⟩; have HB8 := Aside0.mk (below_step HD7.out hB); have S8 := Aside0.mk (ag_cells HX7.out HY7.out HZ7.out HB8.out); clear hB)
      | (go_at_call 47; refine (sameStrings_calls da HSM.out.2 (Kd.C_below P2.out (below_step HA7.out HB8.out)) P1.out.2.1 (Kd.C_below HCP.out (below_step HB7.out HB8.out)) HCP1.out).mono ?_; rintro e w9 ⟨rfl, ⟨m9, rfl⟩⟩; have HB9 := Aside0.mk (pw_below_drewN HB8.out m9); have S9 := Aside0.mk (ag_cells HX7.out HY7.out HZ7.out HB9.out))
      | (go_at_call 22; have q := sameHistory_calls (de ++ [dt]) HHM.out.1 HHM.out.2 (Kd.C_below R2.out.2.2 (below_step HA7.out HB9.out)) R2.out.2.1 (Kd.C_below HCH.out (below_step HB7.out HB9.out)) HCH1.out; rw [HLEN.out] at q; refine q.mono ?_; clear q; rintro e w10 ⟨rfl, hB⟩; have HB10 := Aside0.mk (below_step HB9.out hB); have S10 := Aside0.mk (ag_cells HX7.out HY7.out HZ7.out HB10.out); clear hB))
  go_wp2
  go_ret
  exact ⟨rfl, below_step HB7.out HB10.out⟩
end Go.Proofs.Ytkblcdpmdbofgaa.A
/- SessionRuns: the walk. -/
namespace Go.Proofs.Ytkblcdpmdbofgaa.A
open Go.RowKit Go.Proofs.YtkblcdpmdbofgaaW.PrintWords Go.Proofs.YtkblcdpmdbofgaaW.PrintLast Go.Proofs.YtkblcdpmdbofgaaW.PrintMore
set_option linter.unusedVariables false
set_option linter.unusedSimpArgs false

theorem At.small {w : World} {F : Nat → Prop} {dp mb : Nat} {D : Dk} {n : Nat} (h : At w F dp mb D n) (hn : n ≤ 90000) : D.eds.length ≤ 2000000 ∧ D.drafts.length ≤ 256 ∧ ∀ d ∈ D.drafts, d.earlier.length ≤ 255 ∧ d.approvals.length ≤ 90000 := by
  obtain ⟨hg, tag, sb, hD, _⟩ := h
  exact ⟨by have := hg.1; omega, hD.few, fun d hd => ⟨(hg.2 d hd).1, by have := (hg.2 d hd).2.1; omega⟩⟩
/-- The program's desk and the reference's, of the same content. -/
def Pair (w0 w : World) (dp mb rb : Nat) (D : Dk) (n : Nat) : Prop := ∃ F : Nat → Prop, At w F dp mb D n ∧ Ref w0 w F rb D ∧ ∀ k, k < w0.heap.size → F k
section
variable {w0 w w' : World} {dp mb rb : Nat} {D : Dk} {n : Nat}
theorem Pair.below (h : Pair w0 w dp mb rb D n) : Below w0.heap.size w0 w := by
  obtain ⟨F, _, hR, _⟩ := h
  exact hR.below
theorem Pair.grow (h : Pair w0 w dp mb rb D n) (hB : Below w.heap.size w w') : Pair w0 w' dp mb rb D n := by
  obtain ⟨F, hA, hR, hF⟩ := h
  exact ⟨F, (hA.grow hB).mono (fun k hk => .inl hk) (Nat.le_refl _), hR.grow hB, hF⟩
theorem Pair.few (h : Pair w0 w dp mb rb D n) (hn : n ≤ 90000) : D.drafts.length ≤ 256 := by
  obtain ⟨F, hA, hR, hF⟩ := h
  exact (hA.small hn).2.1
/-- An operation, on the program's desk first, on the reference's then. -/
theorem Pair.do_ (h : Pair w0 w dp mb rb D n) (hn : n ≤ 90000) (x : S35) (A : Option Addr) (c : Nat) (hx : opOk x) (hr : k68.C w0 A x.f4.length x.f4) (hc : x.f4.length ≤ c) :
    Calls Try.prog 15 #[.pointer (some ⟨dp, 0, none⟩), .agg #[.int .i64 x.f0, .string x.f1, .int .i64 x.f2, .int .i64 x.f3, .slice A x.f4.length c]] w fun e w1 => e = .returned (.agg #[.int .i64 (D.doOp x).1, .int .i64 (D.doOp x).2.1]) ∧ Below w0.heap.size w0 w1 ∧
      Calls Try.prog 24 #[.pointer (some ⟨rb, 0, none⟩), .agg #[.int .i64 x.f0, .string x.f1, .int .i64 x.f2, .int .i64 x.f3, .slice A x.f4.length c]] w1 fun e w2 => e = .returned (.agg #[.int .i64 (D.doOp x).1, .int .i64 (D.doOp x).2.1]) ∧ Pair w0 w2 dp mb rb (D.doOp x).2.2 (n + 1) := by
  obtain ⟨F, hA, hR, hF⟩ := h
  have hsm := hA.small hn
  have hs0 := hR.below.size
  refine (do_calls hA hn x A c hx (Kd.F_mono (Kd.F_step (Kd.C_F heap68 hr) (fun k hk hl => hR.below.block k hk)) (fun k hk => hF k hk)) hc).mono ?_
  rintro e w1 ⟨rfl, hA1, hK1⟩
  have hB1 : Below w0.heap.size w0 w1 := Kp.bel hR.below hK1 (fun k hk hn => hn (hF k hk)) hs0
  have hR1 := hR.keep hK1 hB1
  refine ⟨rfl, hB1, ?_⟩
  refine (rdo_calls hR1 hsm.1 hsm.2.1 hsm.2.2 x A c hx hr hc (fun k hk => ⟨hF k hk, Nat.lt_of_lt_of_le hk hs0⟩)).mono ?_
  rintro e w2 ⟨rfl, hR2, hK2⟩
  exact ⟨rfl, fun k => (F k ∧ k < w.heap.size) ∨ w1.heap.size ≤ k, hA1.keep (hK2.mono (fun k hk => hk.1)), hR2, fun k hk => .inl ⟨hF k hk, Nat.lt_of_lt_of_le hk hs0⟩⟩
theorem Pair.agrees (h : Pair w0 w dp mb rb D n) (hn : n ≤ 90000) (id : Int) (hid : (Lit.int .i64 id).wf = true) :
    Calls Try.prog 25 #[.pointer (some ⟨dp, 0, none⟩), .pointer (some ⟨rb, 0, none⟩), .int .i64 id] w fun e w' => e = .returned (.bool true) ∧ Below w.heap.size w w' := by
  obtain ⟨F, hA, hR, hF⟩ := h
  cases hg : D.get id with
  | none => exact agrees_none hA hn hR id hid hg
  | some d =>
    obtain ⟨i, rfl, hdi⟩ := get_idx hg
    obtain ⟨du, dt, de, da, dc⟩ := d
    exact agrees_some hA hn hR (hA.small hn).2.1 i du dt de da dc hdi hg
theorem Pair.numbers (h : Pair w0 w dp mb rb D n) (hn : n ≤ 90000) :
    Calls Try.prog 27 #[.pointer (some ⟨rb, 0, none⟩)] w fun e w' => ∃ v, e = .returned v ∧ (Kd.int .i64).R 3 w' w.heap.size (New w) v (D.opensTo D.drafts.length) ∧ Below w.heap.size w w' := by
  obtain ⟨F, hA, hR, hF⟩ := h
  exact numbers_calls hR (hA.small hn).2.1
theorem Pair.drafts (h : Pair w0 w dp mb rb D n) :
    Calls Try.prog 13 #[.pointer (some ⟨dp, 0, none⟩)] w fun e w' => ∃ v, e = .returned v ∧ (Kd.int .i64).R 3 w' w.heap.size (New w) v (D.opensTo D.drafts.length) ∧ Below w.heap.size w w' := by
  obtain ⟨F, hA, hR, hF⟩ := h
  exact hA.drafts
theorem Pair.len (h : Pair w0 w dp mb rb D n) : ∃ Av cv, w.cell? ⟨rb, 2, none⟩ = some (.slice Av D.drafts.length cv) := by
  obtain ⟨F, hA, hR, hF⟩ := h
  obtain ⟨A, c, Av, cv, hb, _, _⟩ := hR.len
  exact ⟨Av, cv, blk_cell hb 2⟩
/-- At the start: a new desk, and the reference's beside it. -/
theorem Pair.start {A : Option Addr} {c : Nat} {l : List ByteArray} {needed : Int} {w1 w3 : World} (h1 : Below w0.heap.size w0 w1) (h2 : Stand w1 w dp mb ⟨l, needed, []⟩ 0) (hB : Below w.heap.size w w3) (hr : Kd.string.C w0 A l.length l) (hc : l.length ≤ c) :
    Pair w0 (w3.alloc (.cells #[.slice A l.length c, .int .i64 needed, .slice none 0 0] 58)) dp mb w3.heap.size ⟨l, needed, []⟩ 0 := by
  have hB3 := below_alloc hB (.cells #[.slice A l.length c, .int .i64 needed, .slice none 0 0] 58)
  have hbig : w0.heap.size ≤ w3.heap.size := Nat.le_trans h1.size (Nat.le_trans h2.2.size hB.size)
  exact ⟨fun k => k < w1.heap.size ∨ w.heap.size ≤ k, h2.1.grow hB3, ⟨⟨A, c, .slice none 0 0, heap_alloc_new w3 _, hc, hr, Kd.N_nil _ _ _ _ _⟩, .inr hB.size, hbig, below_step (below_step h1 h2.2.to) hB3⟩, fun k hk => .inl (Nat.lt_of_lt_of_le hk h1.size)⟩
end
end Go.Proofs.Ytkblcdpmdbofgaa.A
/- SessionRuns: the walk. -/
namespace Go.Proofs.Ytkblcdpmdbofgaa.A
open Go.RowKit Go.Proofs.YtkblcdpmdbofgaaW.PrintWords Go.Proofs.YtkblcdpmdbofgaaW.PrintLast Go.Proofs.YtkblcdpmdbofgaaW.PrintMore
set_option linter.unusedVariables false
set_option linter.unusedSimpArgs false

theorem ops_cells {w W : World} {a : Addr} {v0 v1 v2 v3 v4 : Value} (h0 : w.cell? a = some v0) (h1 : w.cell? ⟨a.block, a.off + 1, none⟩ = some v1) (h2 : w.cell? ⟨a.block, a.off + 2, none⟩ = some v2) (h3 : w.cell? ⟨a.block, a.off + 3, none⟩ = some v3) (h4 : w.cell? ⟨a.block, a.off + 4, none⟩ = some v4) (hB : Below w.heap.size w W) :
    W.cell? a = some v0 ∧ W.cell? ⟨a.block, a.off + 1, none⟩ = some v1 ∧ W.cell? ⟨a.block, a.off + 2, none⟩ = some v2 ∧ W.cell? ⟨a.block, a.off + 3, none⟩ = some v3 ∧ W.cell? ⟨a.block, a.off + 4, none⟩ = some v4 :=
  ⟨(hB.cell (World.block_lt_of_cell? w _ h0)).trans h0, (hB.cell (World.block_lt_of_cell? w _ h1)).trans h1, (hB.cell (World.block_lt_of_cell? w _ h2)).trans h2, (hB.cell (World.block_lt_of_cell? w _ h3)).trans h3, (hB.cell (World.block_lt_of_cell? w _ h4)).trans h4⟩

set_option maxHeartbeats 2000000 in
set_option maxRecDepth 100000 in
theorem runs_no (w0 : World) (A : Option Addr) (c : Nat) (l : List ByteArray) (needed : Int) (Ao : Option Addr) (co : Nat) (ops : List S35)
    (hr : Kd.string.C w0 A l.length l) (hcp : l.length ≤ c) (hsz : ∀ x ∈ l, x.size ≤ 2000000) (hro : k35.C w0 Ao ops.length ops) (hco : ops.length ≤ co) (hlo : ops.length ≤ 2000000) (hok : ∀ x ∈ ops, opOk x) (hc : (canNew l needed && fewS ops) = false) :
    Calls Try.prog 6 #[.slice A l.length c, .int .i64 needed, .slice Ao ops.length co] w0 fun e w' => e = .returned (.bool true) ∧ Below w0.heap.size w0 w' := by
  have C10 := Aside0.mk (fun (W : World) => awake_calls W)
  have C11 := Aside0.mk (fun (W : World) (hW : Below w0.heap.size w0 W) => new_calls A c l needed W (Kd.C_below hr hW) hcp hsz)
  have C14 := Aside0.mk (fun (W : World) (hW : Below w0.heap.size w0 W) => few_calls Ao co ops W hlo (Kd.C_below hro hW) hco)
  clear hr hcp hsz hro hco hlo hok
  cases hn : canNew l needed with
  | false =>
    have HN := Aside0.mk (fun (W : World) e w' (h : Made W l needed e w') => (show e = .returned (.tuple #[.pointer none, .int .i64 1]) ∧ Below W.heap.size W w' by unfold Made at h; rwa [hn, if_neg (by simp)] at h))
    clear hn hc
    go_enter Try.func6, Try.ntmps6
    go_wp2_with (first
      | (go_at_call 10; refine (C10.out _).mono ?_; rintro e w1 ⟨rfl, hB⟩; have HB1 := Aside0.mk hB; clear hB)
      | (go_at_call 11; refine (C11.out _ HB1.out).mono ?_; rintro e w2 hM; obtain ⟨rfl, hB⟩ := HN.out _ _ _ hM; have HB2 := Aside0.mk (below_step HB1.out hB); clear hM hB))
    go_ret
    exact ⟨rfl, HB2.out⟩
  | true =>
    have hf : fewS ops = false := by rw [hn] at hc; simpa using hc
    have HN := Aside0.mk hn
    rw [hf] at C14
    clear hn hc hf
    go_enter Try.func6, Try.ntmps6
    go_wp2_with (first
      | (go_at_call 10; refine (C10.out _).mono ?_; rintro e w1 ⟨rfl, hB⟩; have HB1 := Aside0.mk hB; clear hB)
      | (go_at_call 11; refine (C11.out _ HB1.out).mono ?_; rintro e w2 hM; obtain ⟨dp, mb, rfl, hS⟩ := new_stand hM HN.out (Kept0.refl _); have HB2 := Aside0.mk (below_step HB1.out hS.2.to); clear hM hS)
      | (go_at_call 14; refine (C14.out _ HB2.out).mono ?_; rintro e w3 ⟨rfl, ⟨m, rfl⟩⟩))
    go_ret
    exact ⟨rfl, pw_below_drewN HB2.out _⟩

set_option maxHeartbeats 4000000 in
set_option maxRecDepth 100000 in
theorem runs_yes (w0 : World) (A : Option Addr) (c : Nat) (l : List ByteArray) (needed : Int) (Ao : Option Addr) (co : Nat) (ops : List S35)
    (hr : Kd.string.C w0 A l.length l) (hcp : l.length ≤ c) (hsz : ∀ x ∈ l, x.size ≤ 2000000) (hro : k35.C w0 Ao ops.length ops) (hco : ops.length ≤ co) (hlo : ops.length ≤ 2000000) (hok : ∀ x ∈ ops, opOk x) (hc : (canNew l needed && fewS ops) = true) :
    Calls Try.prog 6 #[.slice A l.length c, .int .i64 needed, .slice Ao ops.length co] w0 fun e w' => e = .returned (.bool true) ∧ Below w0.heap.size w0 w' := by
  have C10 := Aside0.mk (fun (W : World) => awake_calls W)
  have C11 := Aside0.mk (fun (W : World) (hW : Below w0.heap.size w0 W) => new_calls A c l needed W (Kd.C_below hr hW) hcp hsz)
  have C14 := Aside0.mk (fun (W : World) (hW : Below w0.heap.size w0 W) => few_calls Ao co ops W hlo (Kd.C_below hro hW) hco)
  have hcc := hc
  rw [Bool.and_eq_true] at hcc
  have HN := Aside0.mk hcc.1
  rw [hcc.2] at C14
  have hn40 : ops.length ≤ 40 := few_short hcc.2
  have HRO := Aside0.mk hro
  have HOK := Aside0.mk hok
  have HRL := Aside0.mk hr
  have HCL := Aside0.mk hcp
  clear hr hcp hsz hro hco hlo hok hc hcc
  go_enter Try.func6, Try.ntmps6
  go_wp2_with (first
    | (go_at_call 10; refine (C10.out _).mono ?_; rintro e w1 ⟨rfl, hB⟩; have HB1 := Aside0.mk hB; clear hB)
    | (go_at_call 11; refine (C11.out _ HB1.out).mono ?_; rintro e w2 hM; obtain ⟨dp, mb, rfl, hS⟩ := new_stand hM HN.out (Kept0.refl _); have HB2 := Aside0.mk (below_step HB1.out hS.2.to); have HS2 := Aside0.mk hS; clear hM hS)
    | (go_at_call 14; refine (C14.out _ HB2.out).mono ?_; rintro e w3 ⟨rfl, ⟨m, rfl⟩⟩; have HP : Aside0 (Pair w0 ((w2.drewN m).alloc (.cells #[.slice A l.length c, .int .i64 needed, .slice none 0 0] 58)) dp mb w2.heap.size ⟨l, needed, []⟩ 0) := ⟨Pair.start HB1.out HS2.out (pw_below_drewN (Below.refl _ _) m) HRL.out HCL.out⟩))
  generalize w2.heap.size = rb at *
  go_loopw [10] (fun i w' => ∃ x : Int, i = .int .i64 x ∧ 0 ≤ x ∧ x ≤ ops.length ∧ Aside0 (Pair w0 w' dp mb rb (Dk.run ⟨l, needed, []⟩ (ops.take x.toNat)) x.toNat)) (fun i _ => ops.length - (intOf i).toNat)
  case atStart => exact ⟨0, rfl, Int.le_refl _, Int.natCast_nonneg _, HP⟩
  case round =>
    clear HP
    obtain ⟨x, rfl, hx, hk, HP⟩ := hrel
    by_cases hlt : x < ops.length
    · obtain ⟨ad, A4, c4, e, hx0, hx1, hx2, hx3, hx4, hl4, hi4⟩ := at_T35 HRO.out x hx hlt
      cases e
      have HT : Aside0 (Dk.run ⟨l, needed, []⟩ (ops.take (x + 1).toNat) = ((Dk.run ⟨l, needed, []⟩ (ops.take x.toNat)).doOp (rd_T35 ops x)).2.2) := ⟨by rw [take_rd35 ops x hx hlt, Dk.run_append]⟩
      have DO := Aside0.mk ((HP.out.grow (below_drew (Below.refl wr.heap.size wr))).do_ (by omega) (rd_T35 ops x) A4 c4 (HOK.out _ (rd35_mem ops x hx hlt)) hi4 hl4)
      have SS := Aside0.mk (fun (W : World) (hB : Below w0.heap.size w0 W) => ops_cells hx0 hx1 hx2 hx3 hx4 hB)
      have S0 := Aside0.mk (SS.out _ (below_drew HP.out.below))
      have p1 := eq_true hx
      have q1 := eq_true hlt
      generalize rd_T35 ops x = y at *
      generalize Dk.run ⟨l, needed, []⟩ (ops.take x.toNat) = D at *
      generalize hdo : D.doOp y = r at *
      obtain ⟨r1, r2, D1⟩ := r
      simp only at DO HT
      have HD1 : Aside0 (∀ W', Pair w0 W' dp mb rb D1 (x.toNat + 1) → Pair w0 W' dp mb rb (Dk.run ⟨l, needed, []⟩ (ops.take (x + 1).toNat)) (x + 1).toNat) := ⟨fun W' h => by rw [HT.out, show (x + 1).toNat = x.toNat + 1 by omega]; exact h⟩
      clear hx0 hx1 hx2 hx3 hx4 hl4 hi4 hdo
      go_wp2_with fail
      go_region_held3 (fun w' => w'.cell? (ad.add (x.toNat * 5)) = some (.int .i64 y.f0) ∧ w'.cell? ⟨(ad.add (x.toNat * 5)).block, (ad.add (x.toNat * 5)).off + 1, none⟩ = some (.string y.f1) ∧ w'.cell? ⟨(ad.add (x.toNat * 5)).block, (ad.add (x.toNat * 5)).off + 2, none⟩ = some (.int .i64 y.f2) ∧ w'.cell? ⟨(ad.add (x.toNat * 5)).block, (ad.add (x.toNat * 5)).off + 3, none⟩ = some (.int .i64 y.f3) ∧ w'.cell? ⟨(ad.add (x.toNat * 5)).block, (ad.add (x.toNat * 5)).off + 4, none⟩ = some (.slice A4 y.f4.length c4))
        (first
          | (with_reducible exact S0.out)
          | (with_reducible exact S4.out)
          | (with_reducible exact S5.out))
        (first
          | (go_at_call 15; refine DO.out.mono ?_; rintro e w4 ⟨rfl, hB4, hN⟩; have DN := Aside0.mk hN; have S4 := Aside0.mk (SS.out _ hB4); clear hB4 hN)
          | (go_at_call 24; refine DN.out.mono ?_; rintro e w5 ⟨rfl, hP⟩; have S5 := Aside0.mk (SS.out _ hP.below); have HP5 := Aside0.mk (HD1.out _ hP); clear hP))
      go_wp2
      go_roundw
      case rel => exact ⟨x + 1, rfl, by omega, by omega, HP5⟩
      case measure => simp [intOf]; omega
    · have q1 := eq_false hlt
      have HP2 : Aside0 (Pair w0 wr dp mb rb (Dk.run ⟨l, needed, []⟩ ops) ops.length) := ⟨by
        have := HP.out
        rwa [show x.toNat = ops.length by omega, List.take_length] at this⟩
      generalize Dk.run ⟨l, needed, []⟩ ops = D at *
      have hfew := HP2.out.few (by omega)
      clear HP
      go_wp2
      go_loopw [11] (fun i w' => ∃ y : Int, i = .int .i64 y ∧ 0 ≤ y ∧ y ≤ D.drafts.length + 2 ∧ Aside0 (Pair w0 w' dp mb rb D ops.length)) (fun i _ => D.drafts.length + 2 - (intOf i).toNat)
      case atStart => exact ⟨0, rfl, Int.le_refl _, by omega, HP2⟩
      case round =>
        clear HP2
        obtain ⟨y, rfl, hy, hyk, HP⟩ := hrel
        obtain ⟨Av, cv, c2⟩ := HP.out.len
        have gw1 : wrap64 ((D.drafts.length : Int) + 1) = (D.drafts.length : Int) + 1 := wrap_small (by omega) (by omega)
        by_cases hyl : y ≤ (D.drafts.length : Int) + 1
        · have AG := Aside0.mk (HP.out.agrees (by omega) y (wf_i64 (by omega) (by omega)))
          have q2 : decide (y ≤ (D.drafts.length : Int) + 1) = true := decide_eq_true hyl
          go_wp2_with (go_at_call 25; refine AG.out.mono ?_; rintro e w4 ⟨rfl, hB⟩; have HP4 := Aside0.mk (HP.out.grow hB); clear hB)
          go_roundw
          case rel => exact ⟨y + 1, rfl, by omega, by omega, HP4⟩
          case measure => simp [intOf]; omega
        · have q2 : decide (y ≤ (D.drafts.length : Int) + 1) = false := decide_eq_false hyl
          have N1 := Aside0.mk HP.out.drafts
          have N2 := Aside0.mk (fun (W : World) (hB : Below wr.heap.size wr W) => (HP.out.grow hB).numbers (by omega))
          have HLS : Aside0 ((D.opensTo D.drafts.length).length ≤ 2000000) := ⟨by have := D.opensTo_len D.drafts.length; omega⟩
          generalize D.opensTo D.drafts.length = ls at N1 N2 HLS
          go_wp2_with (first
            | (go_at_call 13; refine N1.out.mono ?_; rintro e w4 ⟨v, rfl, hR, hB⟩; obtain ⟨An1, cn1, rfl⟩ := Kd.R_slice hR; have HB4 := Aside0.mk hB; have R1 := Aside0.mk hR; clear hR hB)
            | (go_at_call 27; refine (N2.out _ HB4.out).mono ?_; rintro e w5 ⟨v, rfl, hR, hB⟩; obtain ⟨An2, cn2, rfl⟩ := Kd.R_slice hR; have HB5 := Aside0.mk (below_step HB4.out hB); have R1b := Aside0.mk (Kd.R_reads' (Kd.R_below R1.out hB)); have R2 := Aside0.mk (Kd.R_reads' hR); clear hR hB)
            | (go_at_call 26; refine (sameInts_calls ls HLS.out R1b.out.2.2 R1b.out.2.1 R2.out.2.2 R2.out.2.1).mono ?_; rintro e w6 ⟨rfl, ⟨m6, rfl⟩⟩))
          go_ret
          exact ⟨rfl, pw_below_drewN (below_step HP.out.below HB5.out) m6⟩
theorem runs_walk (w0 : World) (A : Option Addr) (c : Nat) (l : List ByteArray) (needed : Int) (Ao : Option Addr) (co : Nat) (ops : List S35)
    (hr : Kd.string.C w0 A l.length l) (hcp : l.length ≤ c) (hsz : ∀ x ∈ l, x.size ≤ 2000000) (hro : k35.C w0 Ao ops.length ops) (hco : ops.length ≤ co) (hlo : ops.length ≤ 2000000) (hok : ∀ x ∈ ops, opOk x) :
    Calls Try.prog 6 #[.slice A l.length c, .int .i64 needed, .slice Ao ops.length co] w0 fun e w' => e = .returned (.bool true) ∧ Below w0.heap.size w0 w' := by
  cases hc : (canNew l needed && fewS ops) with
  | false => exact runs_no w0 A c l needed Ao co ops hr hcp hsz hro hco hlo hok hc
  | true => exact runs_yes w0 A c l needed Ao co ops hr hcp hsz hro hco hlo hok hc
end Go.Proofs.Ytkblcdpmdbofgaa.A
/- The law SessionRuns returns true for every list of editors, every number and every list of operations, and leaves its arguments as they were: where the arguments are of bulk at most 1048576 (the second form of the statement, SessionRunsUptoSaid). -/
namespace Go.Proofs.Ytkblcdpmdbofgaa.sessionRuns
open Go.ChangeShapes Go.WideShapes Go.ChangeAt Go.RowKit
open Go.Proofs.Ytkblcdpmdbofgaa.A
set_option linter.unusedVariables false
theorem own : ownKnob Try.prog.godebug = none := by kernel_rfl
theorem laidOut : laidOutB Try.prog = true := by kernel_rfl
set_option maxRecDepth 100000 in
theorem contract (H : Type) (enc : TypeId × Value → H) (W : World) (base : Nat) (args : Array Value) (ds gs : List (DataW H)) (before : List MemPlace)
    (hval : ∀ (j : Nat) t v, Try.f6.params[j]? = some t → args[j]? = some v → Value.okWide Try.prog W .any base t v)
    (hW : DataW.Whole enc Try.prog Try.f6.params.toList Rows.sessionRunsSpec.vars false W args.toList ds gs before) (hk : Rows.uptoSmall H (ds ++ gs) = true) :
    Calls Try.prog 6 args W fun e W' => ∃ v, e = .returned v ∧ Rows.sessionRunsSpec.post enc Try.prog Try.f6 false true false false W args v W' := by
  have hW' := hW
  obtain ⟨p, q, hA0, hV, rfl, hfz, hnd⟩ := hW
  have hA : DataW.TrodAll enc Try.prog W 0 (fun _ => true) true Try.f6.params.toList args.toList ds p := hA0
  rw [Try.params6] at hA hval
  obtain ⟨v0, vs0, d0, ds0, p0, q0, hargs, rfl, rfl, h0, r0⟩ := trodAll_cons hA
  obtain ⟨v1, vs1, d1, ds1, p1, q1, rfl, rfl, rfl, h1, r1⟩ := trodAll_cons r0
  obtain ⟨v2, vs2, d2, ds2, p2, q2, rfl, rfl, rfl, h2, r2⟩ := trodAll_cons r1
  obtain ⟨rfl, rfl, rfl⟩ := trodAll_nil r2
  obtain rfl : args = #[v0, v1, v2] := by cases args; simp_all
  obtain ⟨rfl, rfl⟩ := trodVars_none hV
  have hsm : Rows.uptoBulk d0 + Rows.uptoBulk d1 + Rows.uptoBulk d2 ≤ 1048576 := by
    have := of_decide_eq_true hk
    simp only [List.append_nil, Rows.uptoBulkAll] at this
    omega
  simp only [List.append_nil] at hW'
  have k0 := h0
  have lt0 : ∀ x ∈ p0, x.block < W.heap.size := by obtain ⟨m, hm⟩ := k0; exact DataW.trod_lt m _ _ _ hm
  obtain ⟨A0, len0, c0, rfl⟩ := okWide_slice Try.underlying22 (hval 0 22 v0 rfl rfl)
  obtain ⟨fuel0, hf0⟩ := h0
  obtain ⟨A0', x0, c0', hcs0, hl0, hC0, hb0⟩ := open_strsC hf0
  simp [Value.cells] at hcs0
  obtain ⟨rfl, rfl, rfl⟩ := hcs0
  have hbk0 : sumOf (fun s : ByteArray => s.size + 1) x0 + 1 ≤ Rows.uptoBulk d0 := hb0
  have sm0 := strs_small (n := Rows.uptoBulk d0) hbk0 (by omega)
  obtain ⟨x1, rfl, rfl, rfl, w1⟩ := open_int Try.underlying3 (hval 1 3 v1 rfl rfl) h1
  have k2 := h2
  have lt2 : ∀ x ∈ p2, x.block < W.heap.size := by obtain ⟨m, hm⟩ := k2; exact DataW.trod_lt m _ _ _ hm
  obtain ⟨A2, len2, c2, rfl⟩ := okWide_slice Try.underlying31 (hval 2 31 v2 rfl rfl)
  obtain ⟨fuel2, hf2⟩ := h2
  obtain ⟨A2', x2, c2', hcs2, hl2, hC2, hw2, hb2⟩ := open_opsC hf2
  simp [Value.cells] at hcs2
  obtain ⟨rfl, rfl, rfl⟩ := hcs2
  have hbk2 : sumOf (fun y : S35 => y.f1.size + Go.Proofs.Ytkblcdpmdbofgaa.A.bulkL y.f4 + 1) x2 + 1 ≤ Rows.uptoBulk d2 := hb2
  have sm2 := ops_small hw2 (n := Rows.uptoBulk d2) hbk2 (by omega)
  refine (runs_walk W A0 c0 x0 x1 A2 c2 x2 hC0 hl0 sm0.1 hC2 hl2 sm2.2 sm2.1).mono fun e W' ⟨he, bel⟩ => ?_
  subst he
  exact ⟨_, rfl, _, _, _, [], _, [], hW', trodAll_mk1 (shut_bool Try.underlying4 _), (trodAll_cons_mk (Below.trod laidOut (by kernel_rfl) (of_decide_eq_true (by kernel_rfl)) k0 bel lt0) (trodAll_cons_mk (shut_int Try.underlying3 w1) (trodAll_cons_mk (Below.trod laidOut (by kernel_rfl) (of_decide_eq_true (by kernel_rfl)) k2 bel lt2) trodAll_mk0))), rfl, bel.frame _, fun h => by cases h⟩

set_option maxRecDepth 100000 in
theorem lifted (os : Os) (started : os.Started) (H : Type) (enc : TypeId × Value → H) (F : Stop.Interp) :
    ReturnsInHanded {} Try.checked os 6 .any ((Rows.OpenSpec.upto Rows.sessionRunsSpec).pre6 enc Try.prog Try.f6 Rows.sessionRunsUptoRow.domain false) (((Rows.OpenSpec.upto Rows.sessionRunsSpec).at F).post enc Try.prog Try.f6 false true false false) := by
  refine returnsInHanded_of_cond (C := Try.checked) (s := Rows.OpenSpec.upto Rows.sessionRunsSpec) (k := Rows.uptoSmall) rfl own started (by kernel_rfl) Try.func6
    (OpenSpec.witness (enc := enc) (C := Try.checked) (s := Rows.OpenSpec.upto Rows.sessionRunsSpec) (k := Rows.uptoSmall) rfl false ⟨#[], #[.slice none 0 0, .int .i64 0, .slice none 0 0], []⟩ 8 (by kernel_rfl) (by kernel_rfl) (by kernel_rfl)
      (x := ([.nil, .lit (.int .i64 0), .nil], [], [])) (by kernel_rfl) rfl (by kernel_rfl)) ?_
  intro W base args ds gs before hval hW _ hk _
  exact contract H enc W base args ds gs before hval hW hk

theorem over : Rows.sessionRunsUptoRow.holds Try.pinned (Rows.OpenSpec.upto Rows.sessionRunsSpec) :=
  OpenClaim.holds_of_cond 6 Try.f6 rfl rfl rfl rfl rfl rfl rfl ⟨rfl, rfl, rfl, rfl, rfl⟩ rfl rfl rfl rfl rfl (by kernel_rfl) Try.func6 (by kernel_rfl)
    (of_decide_eq_true (by kernel_rfl)) (by unfold Func.isWrapper; first | (rw [if_pos (by decide +kernel)]; kernel_rfl) | (rw [if_neg (by decide +kernel)]; exact ⟨rfl, rfl⟩))
    (fun os started H enc _ F => lifted os started H enc F)

theorem proved : Rows.SessionRunsUptoSaid := over
end Go.Proofs.Ytkblcdpmdbofgaa.sessionRuns
namespace Go.Proofs.Ytkblcdpmdbofgaa
/-- The row, under a short name, for the claim. -/
theorem sessionRuns_upto : Rows.SessionRunsUptoSaid := sessionRuns.proved
end Go.Proofs.Ytkblcdpmdbofgaa
