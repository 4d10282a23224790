/- (*Desk).Open: its errors, and the whole; Drafts. -/
import Derived.Test.YtkblcdpmdbofgaaB16
namespace Go.Proofs.Ytkblcdpmdbofgaa.A
open Go.RowKit Go.Proofs.YtkblcdpmdbofgaaW.PrintWords Go.Proofs.YtkblcdpmdbofgaaW.PrintLast Go.Proofs.YtkblcdpmdbofgaaW.PrintMore
set_option linter.unusedVariables false
set_option linter.unusedSimpArgs false

set_option maxHeartbeats 1000000 in
set_option maxRecDepth 100000 in
theorem open_err (w : World) (tag : Nat → Nat) (dp mb : Nat) (sb : List Nat) (D : Dk) (h : DeskAt w tag dp mb sb D) (hok : D.ok) (ed : ByteArray) (ts : List S68) (A : Option Addr) (c : Nat) (hb : bulkL ts ≤ 2000000)
    (hr : k68.C w A ts.length ts) (hc : ts.length ≤ c) (r : Int) (hq : D.valid ed ts = false ∧ r = 1 ∨ D.valid ed ts = true ∧ D.drafts.length = 256 ∧ r = 12) :
    Calls Try.prog 31 #[.pointer (some ⟨dp, 0, none⟩), .string ed, .slice A ts.length c] w (Does w tag dp mb (two 0 r) D) := by
  have C1 := Aside0.mk (valid_calls w tag dp mb sb D h hok ed ts A c hb hr hc)
  have HT := Aside0.mk (fun (w' : World) hB v => Does.same (w' := w') h hB v)
  have HL := Aside0.mk (fun (W : World) (hK : Below w.heap.size w W) => (h.below hK).map.len 3)
  obtain ⟨Ae, ce, hbk, _, _⟩ := h.desk
  have HD := Aside0.mk hbk
  have hl := h.len
  rcases hq with ⟨hm, rfl⟩ | ⟨hm, h2, rfl⟩
  · rw [hm] at C1
    clear h hok hm hb hr hc hl hbk
    go_enter Try.func31, Try.ntmps31
    go_wp2_with (go_at_call 39; refine C1.out.mono ?_; rintro e w1 ⟨rfl, hB1⟩; have HB1 := Aside0.mk hB1; clear hB1)
    go_ret2
    exact HT.out _ HB1.out _
  · rw [hm] at C1
    have f1 : ((sb.length : Int) == 256) = true := beq_iff_eq.mpr (by rw [hl]; omega)
    clear h hok hm hb hr hc hl hbk h2
    go_enter Try.func31, Try.ntmps31
    go_wp2_with (first
      | (go_at_call 39; refine C1.out.mono ?_; rintro e w1 ⟨rfl, hB1⟩; have HB1 := Aside0.mk hB1; have c2 := blk_cell (blk_below HD.out hB1) 2; simp at c2; have l1 := HL.out _ hB1; clear hB1))
    go_ret2
    exact HT.out _ HB1.out _

theorem open_calls (w : World) (tag : Nat → Nat) (dp mb : Nat) (sb : List Nat) (D : Dk) (h : DeskAt w tag dp mb sb D) (hok : D.ok) (ed : ByteArray) (ts : List S68) (A : Option Addr) (c : Nat) (hb : bulkL ts ≤ 2000000)
    (hr : k68.C w A ts.length ts) (hc : ts.length ≤ c) :
    Calls Try.prog 31 #[.pointer (some ⟨dp, 0, none⟩), .string ed, .slice A ts.length c] w (Does w tag dp mb (two (D.opens ed ts).1 (D.opens ed ts).2.1) (D.opens ed ts).2.2) := by
  unfold Dk.opens
  cases hm : D.valid ed ts with
  | false => rw [if_pos rfl]; exact open_err w tag dp mb sb D h hok ed ts A c hb hr hc 1 (.inl ⟨hm, rfl⟩)
  | true =>
    rw [if_neg (by simp)]
    by_cases h2 : D.drafts.length = 256
    · rw [if_pos h2]; exact open_err w tag dp mb sb D h hok ed ts A c hb hr hc 12 (.inr ⟨hm, h2, rfl⟩)
    · rw [if_neg h2]; exact open_ok w tag dp mb sb D h hok ed ts A c hb hr hc hm h2

/-- The numbers of the open drafts among the first n. -/
def Dk.opensTo (D : Dk) (n : Nat) : List Int := ((List.range n).filter fun i => match D.drafts[i]? with | some d => !d.closed | none => false).map fun (i : Nat) => (i : Int) + 1
theorem Dk.opensTo_succ (D : Dk) (n : Nat) : D.opensTo (n + 1) = D.opensTo n ++ (match D.drafts[n]? with | some d => if d.closed then [] else [(n : Int) + 1] | none => []) := by
  unfold Dk.opensTo
  rw [List.range_succ, List.filter_append, List.map_append]
  congr 1
  cases h : D.drafts[n]? with
  | none => simp [h]
  | some d => cases hc : d.closed <;> simp [h, hc]
theorem Dk.opensTo_len (D : Dk) (n : Nat) : (D.opensTo n).length ≤ n := by
  unfold Dk.opensTo
  rw [List.length_map]
  exact Nat.le_trans (List.length_filter_le _ _) (by simp)
end Go.Proofs.Ytkblcdpmdbofgaa.A
