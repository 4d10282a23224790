/- (*Desk).current, Ready, Close, valid. -/
import Derived.Test.YtkblcdpmdbofgaaB5
import Derived.Test.YtkblcdpmdbofgaaB7
namespace Go.Proofs.Ytkblcdpmdbofgaa.A
open Go.RowKit Go.Proofs.YtkblcdpmdbofgaaW.PrintWords Go.Proofs.YtkblcdpmdbofgaaW.PrintLast Go.Proofs.YtkblcdpmdbofgaaW.PrintMore
set_option linter.unusedVariables false
set_option linter.unusedSimpArgs false

set_option maxHeartbeats 400000 in
set_option maxRecDepth 100000 in
theorem newest_calls (g n c : Nat) (A : Option Addr) (w : World) (hc : w.cell? ⟨g, 2, none⟩ = some (.slice A n c)) (hn : n ≤ 1000000) :
    Calls Try.prog 40 #[.pointer (some ⟨g, 0, none⟩)] w fun e w' => e = .returned (.int .i64 ((n : Int) + 1)) ∧ w = w' := by
  have hn' : (n : Int) ≤ 1000000 := by omega
  go_enter Try.func40, Try.ntmps40
  go_wp2
  go_ret
  exact ⟨rfl, rfl⟩

/-- What is read of a desk and one of its drafts. -/
theorem DraftAt.cells {w : World} {tag : Nat → Nat} {i g : Nat} {d : Dr} (h : DraftAt w tag i g d) : ∃ At ct Ae ce Ap cp, w.heap[g]? = some (.cells #[.string d.author, .slice At d.trees.length ct, .slice Ae d.earlier.length ce, .slice Ap d.approvals.length cp, .bool d.closed] 79 (0, 0)) := by
  obtain ⟨At, ct, ve, vp, hb, _, _, hE, hP, _⟩ := h
  obtain ⟨Ae, ce, rfl⟩ := hE.slice
  obtain ⟨Ap, cp, rfl⟩ := hP.slice
  exact ⟨At, ct, Ae, ce, Ap, cp, hb⟩

set_option maxHeartbeats 400000 in
set_option maxRecDepth 100000 in
theorem current_none (w : World) (tag : Nat → Nat) (dp mb : Nat) (sb : List Nat) (D : Dk) (h : DeskAt w tag dp mb sb D) (id num : Int) (hid : (Lit.int .i64 id).wf = true) (hn : D.get id = none) :
    Calls Try.prog 37 #[.pointer (some ⟨dp, 0, none⟩), .int .i64 id, .int .i64 num] w fun e w' => e = .returned (.tuple #[.pointer none, .int .i64 4]) ∧ w = w' := by
  obtain ⟨Ae, ce, hb, _, _⟩ := h.desk
  have c2 := blk_cell hb 2
  simp at c2
  have hl := h.map.look id hid
  rw [ptrOf_none h.len hn] at hl
  clear hb h hn hid
  go_enter Try.func37, Try.ntmps37
  go_wp2
  go_ret2
  exact ⟨rfl, rfl⟩

def curRes (d : Dr) (g : Nat) (num : Int) : Value := if d.closed = true then .tuple #[.pointer none, .int .i64 10] else if (d.earlier.length : Int) + 1 = num then .tuple #[.pointer (some ⟨g, 0, none⟩), .int .i64 0] else .tuple #[.pointer none, .int .i64 11]
set_option maxHeartbeats 400000 in
set_option maxRecDepth 100000 in
theorem current_some (w : World) (tag : Nat → Nat) (dp mb : Nat) (sb : List Nat) (D : Dk) (h : DeskAt w tag dp mb sb D) (i g : Nat) (d : Dr) (num : Int) (hi : i < 256) (hg : sb[i]? = some g) (hd : D.drafts[i]? = some d) (hp : ptrOf sb ((i : Int) + 1) = some ⟨g, 0, none⟩) (he : d.earlier.length ≤ 1000000) :
    Calls Try.prog 37 #[.pointer (some ⟨dp, 0, none⟩), .int .i64 ((i : Int) + 1), .int .i64 num] w fun e w' => e = .returned (curRes d g num) ∧ w = w' := by
  obtain ⟨Ae, ce, hb, _, _⟩ := h.desk
  have c2 := blk_cell hb 2
  simp at c2
  have hl := h.map.look ((i : Int) + 1) (wf_i64 (by omega) (by omega))
  rw [hp] at hl
  obtain ⟨At, ct, Ae', ce', Ap, cp, hbd⟩ := (h.drafts i g d hg hd).cells
  have d2 := blk_cell hbd 2
  have d4 := blk_cell hbd 4
  simp at d2 d4
  have N := Aside0.mk (fun W (hW : W.cell? ⟨g, 2, none⟩ = some (.slice Ae' d.earlier.length ce')) => newest_calls g d.earlier.length ce' Ae' W hW he)
  clear hb h hg hd hp hbd he hi
  cases hcl : d.closed with
  | true =>
    rw [hcl] at d4
    have HF : Aside0 (curRes d g num = .tuple #[.pointer none, .int .i64 10]) := ⟨by unfold curRes; rw [if_pos hcl]⟩
    clear hcl
    go_enter Try.func37, Try.ntmps37
    go_wp2
    go_ret2
    exact ⟨by rw [HF.out]; rfl, rfl⟩
  | false =>
    rw [hcl] at d4
    by_cases hn : (d.earlier.length : Int) + 1 = num
    · have f1 : ((d.earlier.length : Int) + 1 != num) = false := bne_eq_false_iff_eq.mpr hn
      have HF : Aside0 (curRes d g num = .tuple #[.pointer (some ⟨g, 0, none⟩), .int .i64 0]) := ⟨by unfold curRes; rw [if_neg (by rw [hcl]; simp), if_pos hn]⟩
      clear hn hcl
      go_enter Try.func37, Try.ntmps37
      go_wp2_with (go_at_call 40; refine (N.out _ d2).mono ?_; rintro e w' ⟨rfl, rfl⟩)
      go_ret2
      exact ⟨by rw [HF.out]; rfl, rfl⟩
    · have f1 : ((d.earlier.length : Int) + 1 != num) = true := bne_iff_ne.mpr hn
      have HF : Aside0 (curRes d g num = .tuple #[.pointer none, .int .i64 11]) := ⟨by unfold curRes; rw [if_neg (by rw [hcl]; simp), if_neg hn]⟩
      clear hn hcl
      go_enter Try.func37, Try.ntmps37
      go_wp2_with (go_at_call 40; refine (N.out _ d2).mono ?_; rintro e w' ⟨rfl, rfl⟩)
      go_ret2
      exact ⟨by rw [HF.out]; rfl, rfl⟩

/-- The drafts' lists are not too long for the machine. -/
def Dr.ok (d : Dr) : Prop := d.earlier.length ≤ 255 ∧ d.approvals.length ≤ 100000 ∧ bulkL d.trees ≤ 2000000 ∧ ∀ l ∈ d.earlier, bulkL l ≤ 2000000
def Dk.ok (D : Dk) : Prop := D.eds.length ≤ 1000000 ∧ ∀ d ∈ D.drafts, d.ok
theorem Dk.ok.get {D : Dk} (h : D.ok) {i : Nat} {d : Dr} (hd : D.drafts[i]? = some d) : d.ok := h.2 d (List.mem_of_getElem? hd)

/-- (*Desk).current: an open draft whose newest revision is this one, or an error. -/
theorem current_calls (w : World) (tag : Nat → Nat) (dp mb : Nat) (sb : List Nat) (D : Dk) (h : DeskAt w tag dp mb sb D) (hok : D.ok) (id num : Int) (hid : (Lit.int .i64 id).wf = true) :
    Calls Try.prog 37 #[.pointer (some ⟨dp, 0, none⟩), .int .i64 id, .int .i64 num] w fun e w' => e = .returned (.tuple #[.pointer (if D.cur id num = 0 then ptrOf sb id else none), .int .i64 (D.cur id num)]) ∧ w = w' := by
  cases hg : D.get id with
  | none =>
    refine (current_none w tag dp mb sb D h id num hid hg).mono ?_
    rintro e w' ⟨rfl, rfl⟩
    have hc : D.cur id num = 4 := by unfold Dk.cur; rw [hg]
    rw [hc]
    exact ⟨rfl, rfl⟩
  | some d =>
    obtain ⟨i, g, rfl, hs, hd, hp⟩ := ptrOf_some h.len hg
    have hlt := (List.getElem?_eq_some_iff.1 hd).1
    have hf := h.few
    have ho := (hok.get hd).1
    refine (current_some w tag dp mb sb D h i g d num (by omega) hs hd hp (by omega)).mono ?_
    rintro e w' ⟨rfl, rfl⟩
    refine ⟨?_, rfl⟩
    unfold Dk.cur curRes
    rw [hg]
    simp only [hp]
    by_cases h1 : d.closed = true
    · rw [if_pos h1, if_pos h1]; rfl
    · rw [if_neg h1, if_neg h1]
      by_cases h2 : (d.earlier.length : Int) + 1 = num
      · rw [if_pos h2, if_pos h2]; rfl
      · rw [if_neg h2, if_neg h2]; rfl
end Go.Proofs.Ytkblcdpmdbofgaa.A
