/- slices.Contains at strings; (*Desk).Ready, valid, Close. -/
import Derived.Test.YtkblcdpmdbofgaaB8
namespace Go.Proofs.Ytkblcdpmdbofgaa.A
open Go.RowKit Go.Proofs.YtkblcdpmdbofgaaW.PrintWords Go.Proofs.YtkblcdpmdbofgaaW.PrintLast Go.Proofs.YtkblcdpmdbofgaaW.PrintMore
set_option linter.unusedVariables false
set_option linter.unusedSimpArgs false

/-- Is a string in a list? -/
def memS (l : List ByteArray) (x : ByteArray) : Bool := l.any fun y => decide (x.toList = y.toList)
theorem index_ev (x : ByteArray) : ∀ (post pre : List ByteArray), pre.length + post.length ≤ 2000000 →
    ∃ r, Ev (fun k => slices_Index_string_string.l0 k (pre ++ post) x ((pre ++ post).length : Int) (pre.length : Int)) r ∧ decide (r ≥ 0) = memS post x
  | [], pre, hl => by
    refine ⟨-1, Ev.step (f := fun _ => some (-1)) (fun k => ?_) (Ev.now _), by simp [memS]⟩
    rw [slices_Index_string_string.l0, if_neg (by simp)]
  | y :: r, pre, hl => by
    simp only [List.length_cons] at hl
    by_cases h : x.toList = y.toList
    · refine ⟨(pre.length : Int), Ev.step (f := fun _ => some (pre.length : Int)) (fun k => ?_) (Ev.now _), ?_⟩
      · rw [slices_Index_string_string.l0, if_pos (by simp; omega), if_pos (by omega), if_pos (by simp; omega), rdOf_cons, if_pos h]
      · simp [memS, h]
    · obtain ⟨q, hq, hm⟩ := index_ev x r (pre ++ [y]) (by simp; omega)
      have e1 : pre ++ [y] ++ r = pre ++ y :: r := by simp
      have e2 : ((pre ++ [y]).length : Int) = (pre.length : Int) + 1 := by simp
      rw [e1, e2] at hq
      refine ⟨q, Ev.step (fun k => ?_) hq, by rw [hm]; simp [memS, h]⟩
      rw [slices_Index_string_string.l0, if_pos (by simp; omega), if_pos (by omega), if_pos (by simp; omega), rdOf_cons, if_neg h, wrap_small (by omega) (by omega)]
theorem contains_ev (l : List ByteArray) (x : ByteArray) (hl : l.length ≤ 2000000) : Ev (fun k => slices_Contains_string_string.f k l x) (memS l x) := by
  obtain ⟨q, hq, hm⟩ := index_ev x l [] (by simpa using hl)
  unfold slices_Contains_string_string.f slices_Index_string_string.f
  simp only [List.nil_append, List.length_nil] at hq
  rw [← hm]
  exact Ev.bind hq (Ev.now _)
theorem contains_calls (A : Option Addr) (c : Nat) (l : List ByteArray) (x : ByteArray) (w : World) (hl : l.length ≤ 2000000) (hr : Kd.C Kd.string w A l.length l) (hc : l.length ≤ c) :
    Calls Try.prog 34 #[.slice A l.length c, .string x] w fun e w' => e = .returned (.bool (memS l x)) ∧ Drawn0 w w' := by
  obtain ⟨k, hk⟩ := (contains_ev l x hl).rounds
  exact slices_Contains_string_string.calls k A c l x (memS l x) w hr hc hk

def Dk.valid (D : Dk) (ed : ByteArray) (ts : List S68) : Bool := memS D.eds ed && noticeS ts

set_option maxHeartbeats 400000 in
set_option maxRecDepth 100000 in
theorem valid_calls (w : World) (tag : Nat → Nat) (dp mb : Nat) (sb : List Nat) (D : Dk) (h : DeskAt w tag dp mb sb D) (hok : D.ok) (ed : ByteArray) (ts : List S68) (A : Option Addr) (c : Nat) (hb : bulkL ts ≤ 2000000) (hr : k68.C w A ts.length ts) (hc : ts.length ≤ c) :
    Calls Try.prog 39 #[.pointer (some ⟨dp, 0, none⟩), .string ed, .slice A ts.length c] w fun e w' => e = .returned (.bool (D.valid ed ts)) ∧ Below w.heap.size w w' := by
  obtain ⟨Ae, ce, hbk, hce, hF⟩ := h.desk
  have c0 := blk_cell hbk 0
  simp at c0
  have C1 := Aside0.mk (contains_calls Ae ce D.eds ed w (by have := hok.1; omega) (Kd.F_now hF) hce)
  have C2 := Aside0.mk (fun (W : World) (hW : Below w.heap.size w W) => notice_calls ts A c W hb (Kd.C_below hr hW) hc)
  clear h hok hb hr hc hbk hce hF
  cases hm : memS D.eds ed with
  | false =>
    rw [hm] at C1
    have HF : Aside0 (D.valid ed ts = false) := ⟨by unfold Dk.valid; rw [hm]; rfl⟩
    clear hm C2
    go_enter Try.func39, Try.ntmps39
    go_wp2_with (go_at_call 34; refine C1.out.mono ?_; rintro e w1 ⟨rfl, ⟨n, rfl⟩⟩)
    go_ret
    exact ⟨by rw [HF.out]; rfl, pw_below_drewN (Below.refl _ _) _⟩
  | true =>
    rw [hm] at C1
    have HF : Aside0 (D.valid ed ts = noticeS ts) := ⟨by unfold Dk.valid; rw [hm]; rfl⟩
    clear hm
    go_enter Try.func39, Try.ntmps39
    go_wp2_with (first | (go_at_call 34; refine C1.out.mono ?_; rintro e w1 ⟨rfl, ⟨n, rfl⟩⟩) | (go_at_call 50; refine (C2.out _ (pw_below_drewN (Below.refl _ _) _)).mono ?_; rintro e w2 ⟨rfl, hB⟩))
    go_ret
    exact ⟨by rw [HF.out]; rfl, below_step (pw_below_drewN (Below.refl _ _) _) hB⟩

theorem Dk.cur_zero {D : Dk} {id num : Int} (h : D.cur id num = 0) : ∃ d, D.get id = some d ∧ d.closed = false ∧ (d.earlier.length : Int) + 1 = num := by
  unfold Dk.cur at h
  cases hg : D.get id with
  | none => rw [hg] at h; simp at h
  | some d =>
    rw [hg] at h
    simp only at h
    by_cases h1 : d.closed = true
    · rw [if_pos h1] at h; simp at h
    · rw [if_neg h1] at h
      by_cases h2 : (d.earlier.length : Int) + 1 = num
      · exact ⟨d, rfl, by simpa using h1, h2⟩
      · rw [if_neg h2] at h; simp at h
def Dk.ready (D : Dk) (id num : Int) : Int := if D.cur id num = 4 then 4 else if D.cur id num = 0 then (match D.get id with | some d => if (d.approvals.length : Int) < D.needed then 10 else 0 | none => 10) else 10

set_option maxHeartbeats 400000 in
set_option maxRecDepth 100000 in
theorem ready_calls (w : World) (tag : Nat → Nat) (dp mb : Nat) (sb : List Nat) (D : Dk) (h : DeskAt w tag dp mb sb D) (hok : D.ok) (id num : Int) (hid : (Lit.int .i64 id).wf = true) :
    Calls Try.prog 17 #[.pointer (some ⟨dp, 0, none⟩), .int .i64 id, .int .i64 num] w fun e w' => e = .returned (.int .i64 (D.ready id num)) ∧ Drawn0 w w' := by
  have C1 := Aside0.mk (current_calls w tag dp mb sb D h hok id num hid)
  by_cases h4 : D.cur id num = 4
  · have HF : Aside0 (D.ready id num = 4) := ⟨by unfold Dk.ready; rw [if_pos h4]⟩
    rw [h4] at C1
    clear h hok hid h4
    go_enter Try.func17, Try.ntmps17
    go_wp2_with (go_at_call 37; refine C1.out.mono ?_; rintro e w1 ⟨rfl, rfl⟩)
    go_ret
    exact ⟨by rw [HF.out]; rfl, Drawn0.refl _⟩
  · by_cases h0 : D.cur id num = 0
    · obtain ⟨d, hd, _, _⟩ := Dk.cur_zero h0
      obtain ⟨i, g, rfl, hs, hdi, hp⟩ := ptrOf_some h.len hd
      obtain ⟨At, ct, Ae', ce', Ap, cp, hbd⟩ := (h.drafts i g d hs hdi).cells
      obtain ⟨Ae, ce, hbk, _, _⟩ := h.desk
      have d3 := blk_cell hbd 3
      have d1 := blk_cell hbk 1
      simp at d3 d1
      rw [h0, hp, if_pos rfl] at C1
      have HF : Aside0 (D.ready ((i : Int) + 1) num = if (d.approvals.length : Int) < D.needed then 10 else 0) := ⟨by unfold Dk.ready; rw [if_neg h4, if_pos h0, hd]⟩
      clear h hok hid h4 h0 hd hs hdi hp hbd hbk
      by_cases hl : (d.approvals.length : Int) < D.needed
      · have f1 : decide ((d.approvals.length : Int) < D.needed) = true := decide_eq_true hl
        replace HF : Aside0 (D.ready ((i : Int) + 1) num = 10) := ⟨by rw [HF.out, if_pos hl]⟩
        clear hl
        go_enter Try.func17, Try.ntmps17
        go_wp2_with (go_at_call 37; refine C1.out.mono ?_; rintro e w1 ⟨rfl, rfl⟩)
        go_quiet (fail)
        go_wp2
        go_ret
        exact ⟨by rw [HF.out]; rfl, ⟨_, rfl⟩⟩
      · have f1 : decide ((d.approvals.length : Int) < D.needed) = false := decide_eq_false hl
        replace HF : Aside0 (D.ready ((i : Int) + 1) num = 0) := ⟨by rw [HF.out, if_neg hl]⟩
        clear hl
        go_enter Try.func17, Try.ntmps17
        go_wp2_with (go_at_call 37; refine C1.out.mono ?_; rintro e w1 ⟨rfl, rfl⟩)
        go_quiet (fail)
        go_wp2
        go_ret
        exact ⟨by rw [HF.out]; rfl, ⟨_, rfl⟩⟩
    · have HF : Aside0 (D.ready id num = 10) := ⟨by unfold Dk.ready; rw [if_neg h4, if_neg h0]⟩
      rw [if_neg h0] at C1
      generalize D.cur id num = q at C1 h4 h0
      have f1 : (q == 4) = false := beq_eq_false_iff_ne.mpr h4
      have f2 : (q != 0) = true := bne_iff_ne.mpr h0
      clear h hok hid h4 h0
      go_enter Try.func17, Try.ntmps17
      go_wp2_with (go_at_call 37; refine C1.out.mono ?_; rintro e w1 ⟨rfl, rfl⟩)
      go_quiet (fail)
      go_wp2
      go_ret
      exact ⟨by rw [HF.out]; rfl, ⟨_, rfl⟩⟩
end Go.Proofs.Ytkblcdpmdbofgaa.A
