/- slices.Clone at []int and []string: a new row with the same elements. -/
import Derived.Test.YtkblcdpmdbofgaaA1
import Derived.WalkSpells
import Derived.Lib.SliceRun
namespace Go.Proofs.Ytkblcdpmdbofgaa.A
open Go.RowKit Go.Proofs.YtkblcdpmdbofgaaW.PrintWords Go.Proofs.YtkblcdpmdbofgaaW.PrintLast Go.Proofs.YtkblcdpmdbofgaaW.PrintMore
set_option linter.unusedVariables false
set_option linter.unusedSimpArgs false

/-- A new block without a cell is an empty row of one's own. -/
theorem R_empty {α : Type} (d : Kd α) (e : Nat) (W : World) (base : Nat) (ok : Nat → Prop) (hb : base ≤ W.heap.size) (hok : ok W.heap.size) :
    d.R e (W.alloc (.cells #[] e)) base ok (.slice (some ⟨W.heap.size, 0, none⟩) 0 0) [] := by
  refine ⟨fun k hk => ?_, [], ⟨by simp, .inr ⟨W.heap.size, 0, #[], rfl, hb, heap_alloc_new W _, Nat.le_refl _, by simp [maxLen], by simp, by simp⟩⟩, by simp, fun j p hj => by simp at hj⟩
  simp [Value.ownBlock] at hk
  rw [← hk]; exact hok

theorem C_none {α : Type} {d : Kd α} {w : World} {l : List α} (hr : d.C w none l.length l) : l = [] := by
  cases l with
  | nil => rfl
  | cons x l => obtain ⟨ad, h, _⟩ := hr.2.2 (by simp); cases h

set_option maxHeartbeats 400000 in
set_option maxRecDepth 100000 in
theorem clone_ints (A : Option Addr) (c : Nat) (l : List Int) (w : World) (hr : (Kd.int .i64).C w A l.length l) (hl : l.length * 8 ≤ 140737488355328) :
    Calls Try.prog 53 #[.slice A l.length c] w fun e w' => ∃ v, e = .returned v ∧ (Kd.int .i64).R 3 w' w.heap.size (fun k => w.heap.size ≤ k) v l ∧ Below w.heap.size w w' := by
  cases A with
  | none =>
    obtain rfl := C_none hr
    clear hl hr
    have hnil := fun W => Lib.run_eql_slice_nil (P := Try.prog) W 29 3 none 0 c 0 0 Try.underlying29
    go_enter Try.func53, Try.ntmps53
    go_wp2
    go_ret
    exact ⟨_, rfl, Kd.R_nil _ _ _ _ _, Below.refl _ _⟩
  | some ad =>
    have hnil := fun W => Lib.run_eql_slice_nil (P := Try.prog) W 29 3 (some ad) l.length c 0 0 Try.underlying29
    have HR := Aside0.mk hr
    clear hr
    have HN := Aside0.mk (R_empty (Kd.int .i64) 3 w w.heap.size (fun k => w.heap.size ≤ k) (Nat.le_refl _) (Nat.le_refl _))
    have hl' : (([] : List Int).length + l.length) * 8 ≤ 140737488355328 := by simpa using hl
    have HL := Aside0.mk hl'
    clear hl' hl
    have HB := Aside0.mk (below_alloc (Below.refl w.heap.size w) (.cells #[] 3))
    go_enter Try.func53, Try.ntmps53
    go_wp2_with (at_builtin; refine Kd.R_append_rows (Kd.int .i64) (w0 := w) w.heap.size rfl _ _ 29 3 (.int .i64 0) 8 rfl Try.underlying29 info3 rfl (by decide) (by decide) _ [] l (some ad) l.length c (fun k => w.heap.size ≤ k) (fun _ => False) rfl rfl HN.out (Kd.C_alloc HR.out _) (fun _ _ h => h) (fun _ h => h.elim) (fun _ h => Nat.le_trans (by simp) h) HB.out HB.out.size HL.out ?_; intro v1 w1 hN hB hg _; have hN' := Aside0.mk hN; clear hN; have hB' := Aside0.mk hB; clear hB; clear hg)
    go_ret
    exact ⟨_, rfl, hN'.out, hB'.out⟩

set_option maxHeartbeats 400000 in
set_option maxRecDepth 100000 in
theorem clone_strs (A : Option Addr) (c : Nat) (l : List ByteArray) (w : World) (hr : Kd.string.C w A l.length l) (hl : l.length * 16 ≤ 140737488355328) :
    Calls Try.prog 35 #[.slice A l.length c] w fun e w' => ∃ v, e = .returned v ∧ Kd.string.R 9 w' w.heap.size (fun k => w.heap.size ≤ k) v l ∧ Below w.heap.size w w' := by
  cases A with
  | none =>
    obtain rfl := C_none hr
    clear hl hr
    have hnil := fun W => Lib.run_eql_slice_nil (P := Try.prog) W 22 9 none 0 c 0 0 Try.underlying22
    go_enter Try.func35, Try.ntmps35
    go_wp2
    go_ret
    exact ⟨_, rfl, Kd.R_nil _ _ _ _ _, Below.refl _ _⟩
  | some ad =>
    have hnil := fun W => Lib.run_eql_slice_nil (P := Try.prog) W 22 9 (some ad) l.length c 0 0 Try.underlying22
    have HR := Aside0.mk hr
    clear hr
    have HN := Aside0.mk (R_empty Kd.string 9 w w.heap.size (fun k => w.heap.size ≤ k) (Nat.le_refl _) (Nat.le_refl _))
    have hl' : (([] : List ByteArray).length + l.length) * 16 ≤ 140737488355328 := by simpa using hl
    have HL := Aside0.mk hl'
    clear hl' hl
    have HB := Aside0.mk (below_alloc (Below.refl w.heap.size w) (.cells #[] 9))
    go_enter Try.func35, Try.ntmps35
    go_wp2_with (at_builtin; refine Kd.R_append_rows Kd.string (w0 := w) w.heap.size rfl _ _ 22 9 (.string ⟨#[]⟩) 16 rfl Try.underlying22 info9 rfl (by decide) (by decide) _ [] l (some ad) l.length c (fun k => w.heap.size ≤ k) (fun _ => False) rfl rfl HN.out (Kd.C_alloc HR.out _) (fun _ _ h => h) (fun _ h => h.elim) (fun _ h => Nat.le_trans (by simp) h) HB.out HB.out.size HL.out ?_; intro v1 w1 hN hB hg _; have hN' := Aside0.mk hN; clear hN; have hB' := Aside0.mk hB; clear hB; clear hg)
    go_ret
    exact ⟨_, rfl, hN'.out, hB'.out⟩
end Go.Proofs.Ytkblcdpmdbofgaa.A
