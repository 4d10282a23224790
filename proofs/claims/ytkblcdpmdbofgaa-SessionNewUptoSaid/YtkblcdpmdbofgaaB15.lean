/- (*Desk).Amend: its errors, and the whole. -/
import Derived.Test.YtkblcdpmdbofgaaB14
namespace Go.Proofs.Ytkblcdpmdbofgaa.A
open Go.RowKit Go.Proofs.YtkblcdpmdbofgaaW.PrintWords Go.Proofs.YtkblcdpmdbofgaaW.PrintLast Go.Proofs.YtkblcdpmdbofgaaW.PrintMore
set_option linter.unusedVariables false
set_option linter.unusedSimpArgs false

set_option maxHeartbeats 1000000 in
set_option maxRecDepth 100000 in
theorem amend_no (w : World) (tag : Nat → Nat) (dp mb : Nat) (sb : List Nat) (D : Dk) (h : DeskAt w tag dp mb sb D) (hok : D.ok) (ed : ByteArray) (id num : Int) (ts : List S68) (A : Option Addr) (c : Nat) (hb : bulkL ts ≤ 2000000)
    (hr : k68.C w A ts.length ts) (hc : ts.length ≤ c) (hm : D.valid ed ts = false) :
    Calls Try.prog 20 #[.pointer (some ⟨dp, 0, none⟩), .string ed, .int .i64 id, .int .i64 num, .slice A ts.length c] w (Tell w tag dp mb sb (two 0 1) D) := by
  have C1 := Aside0.mk (valid_calls w tag dp mb sb D h hok ed ts A c hb hr hc)
  rw [hm] at C1
  have HT := Aside0.mk (fun (w' : World) hB v => Tell.same (w' := w') h hB v)
  clear h hok hm hb hr hc
  go_enter Try.func20, Try.ntmps20
  go_wp2_with (go_at_call 39; refine C1.out.mono ?_; rintro e w1 ⟨rfl, hB1⟩; have HB1 := Aside0.mk hB1; clear hB1)
  go_ret2
  exact HT.out _ HB1.out _

set_option maxHeartbeats 1000000 in
set_option maxRecDepth 100000 in
theorem amend_err (w : World) (tag : Nat → Nat) (dp mb : Nat) (sb : List Nat) (D : Dk) (h : DeskAt w tag dp mb sb D) (hok : D.ok) (ed : ByteArray) (id num : Int) (ts : List S68) (A : Option Addr) (c : Nat) (hb : bulkL ts ≤ 2000000)
    (hr : k68.C w A ts.length ts) (hc : ts.length ≤ c) (hid : (Lit.int .i64 id).wf = true) (hm : D.valid ed ts = true) (r : Int) (hq : D.cur id num ≠ 0 ∧ r = D.cur id num ∨ D.cur id num = 0 ∧ num = 256 ∧ r = 12) :
    Calls Try.prog 20 #[.pointer (some ⟨dp, 0, none⟩), .string ed, .int .i64 id, .int .i64 num, .slice A ts.length c] w (Tell w tag dp mb sb (two 0 r) D) := by
  have C1 := Aside0.mk (valid_calls w tag dp mb sb D h hok ed ts A c hb hr hc)
  rw [hm] at C1
  have C2 := Aside0.mk (fun (W : World) (hW : Below w.heap.size w W) => current_calls W tag dp mb sb D (h.below hW) hok id num hid)
  have HT := Aside0.mk (fun (w' : World) hB v => Tell.same (w' := w') h hB v)
  clear h hok hm hb hr hc hid
  rcases hq with ⟨hq, rfl⟩ | ⟨hq, rfl, rfl⟩
  · rw [if_neg hq] at C2
    generalize D.cur id num = q at C2 hq HT
    have f1 : (q != 0) = true := bne_iff_ne.mpr hq
    clear hq
    go_enter Try.func20, Try.ntmps20
    go_wp2_with (first
      | (go_at_call 37; refine (C2.out _ HB1.out).mono ?_; rintro e w2 ⟨rfl, rfl⟩)
      | (go_at_call 39; refine C1.out.mono ?_; rintro e w1 ⟨rfl, hB1⟩; have HB1 := Aside0.mk hB1; clear hB1))
    go_ret2
    exact HT.out _ HB1.out _
  · rw [hq, if_pos rfl] at C2
    clear hq
    go_enter Try.func20, Try.ntmps20
    go_wp2_with (first
      | (go_at_call 37; refine (C2.out _ HB1.out).mono ?_; rintro e w2 ⟨rfl, rfl⟩)
      | (go_at_call 39; refine C1.out.mono ?_; rintro e w1 ⟨rfl, hB1⟩; have HB1 := Aside0.mk hB1; clear hB1))
    go_ret2
    exact HT.out _ HB1.out _

theorem amend_calls (w : World) (tag : Nat → Nat) (dp mb : Nat) (sb : List Nat) (D : Dk) (h : DeskAt w tag dp mb sb D) (hok : D.ok) (ed : ByteArray) (id num : Int) (ts : List S68) (A : Option Addr) (c : Nat) (hb : bulkL ts ≤ 2000000)
    (hr : k68.F w (fun k => tag k < 2) A ts.length ts) (hc : ts.length ≤ c) (hid : (Lit.int .i64 id).wf = true) :
    Calls Try.prog 20 #[.pointer (some ⟨dp, 0, none⟩), .string ed, .int .i64 id, .int .i64 num, .slice A ts.length c] w (Tell w tag dp mb sb (two (D.amend ed id num ts).1 (D.amend ed id num ts).2.1) (D.amend ed id num ts).2.2) := by
  unfold Dk.amend
  cases hm : D.valid ed ts with
  | false => rw [if_pos rfl]; exact amend_no w tag dp mb sb D h hok ed id num ts A c hb (Kd.F_now hr) hc hm
  | true =>
    rw [if_neg (by simp)]
    by_cases hq : D.cur id num = 0
    · rw [if_neg (fun hn => hn hq)]
      by_cases h2 : num = 256
      · rw [if_pos h2]
        exact amend_err w tag dp mb sb D h hok ed id num ts A c hb (Kd.F_now hr) hc hid hm 12 (.inr ⟨hq, h2, rfl⟩)
      · rw [if_neg h2]
        obtain ⟨d, hg, _, _⟩ := Dk.cur_zero hq
        obtain ⟨i, g, rfl, hs, hd, hp⟩ := ptrOf_some h.len hg
        rw [hg]
        have e1 : ((i : Int) + 1 - 1).toNat = i := by omega
        simp only [e1]
        have := amend_ok w tag dp mb sb D h hok ed i g d num ts A c hb hr hc hid hm hq (beq_eq_false_iff_ne.mpr h2) hs hd hp
        rw [show (((d.earlier.length + 1 : Nat) : Int) + 1) = (d.earlier.length : Int) + 2 by omega] at this
        exact this
    · rw [if_pos hq]
      exact amend_err w tag dp mb sb D h hok ed id num ts A c hb (Kd.F_now hr) hc hid hm _ (.inl ⟨hq, rfl⟩)
end Go.Proofs.Ytkblcdpmdbofgaa.A
