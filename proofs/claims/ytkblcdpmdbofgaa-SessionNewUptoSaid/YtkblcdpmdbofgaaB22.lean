/- A desk seen from outside: the blocks that are not the desk's stay. -/
import Derived.Test.YtkblcdpmdbofgaaB21
namespace Go.Proofs.Ytkblcdpmdbofgaa.A
open Go.RowKit Go.Proofs.YtkblcdpmdbofgaaW.PrintWords Go.Proofs.YtkblcdpmdbofgaaW.PrintLast Go.Proofs.YtkblcdpmdbofgaaW.PrintMore
set_option linter.unusedVariables false
set_option linter.unusedSimpArgs false

/-- The lists of a desk are not too long: n bounds the approvals of a draft. -/
def Dr.good (n : Nat) (d : Dr) : Prop := d.earlier.length ≤ 255 ∧ d.approvals.length ≤ n ∧ bulkL d.trees ≤ 2000000 ∧ ∀ l ∈ d.earlier, bulkL l ≤ 2000000
def Dk.good (D : Dk) (n : Nat) : Prop := D.eds.length ≤ 1000000 ∧ ∀ d ∈ D.drafts, d.good n
theorem Dr.good.mono {d : Dr} {n m : Nat} (h : d.good n) (hn : n ≤ m) : d.good m := ⟨h.1, Nat.le_trans h.2.1 hn, h.2.2⟩
theorem Dk.good.mono {D : Dk} {n m : Nat} (h : D.good n) (hn : n ≤ m) : D.good m := ⟨h.1, fun d hd => (h.2 d hd).mono hn⟩
theorem Dk.good.ok {D : Dk} {n : Nat} (h : D.good n) (hn : n ≤ 90000) : D.ok := ⟨h.1, fun d hd => have := h.2 d hd; ⟨this.1, by have := this.2.1; omega, this.2.2.1, this.2.2.2⟩⟩
theorem Dk.good.low {D : Dk} {n : Nat} (h : D.good n) (hn : n ≤ 90000) : D.low := fun d hd => by have := (h.2 d hd).2.1; omega
theorem Dk.good.put {D : Dk} {n : Nat} (h : D.good n) (i : Nat) {d : Dr} (hd : d.good n) : (D.put i d).good n := by
  refine ⟨h.1, fun x hx => ?_⟩
  unfold Dk.put at hx
  rcases List.mem_or_eq_of_mem_set hx with hx | rfl
  · exact h.2 x hx
  · exact hd
theorem Dk.get_mem {D : Dk} {id : Int} {d : Dr} (h : D.get id = some d) : d ∈ D.drafts := by
  unfold Dk.get at h
  split at h
  · exact List.mem_of_getElem? h
  · cases h
theorem Dk.good.opens {D : Dk} {n : Nat} (h : D.good n) (ed : ByteArray) (ts : List S68) (hb : bulkL ts ≤ 2000000) : (D.opens ed ts).2.2.good n := by
  unfold Dk.opens
  split
  · exact h
  · split
    · exact h
    · refine ⟨h.1, fun x hx => ?_⟩
      unfold Dk.add at hx
      rcases List.mem_append.1 hx with hx | hx
      · exact h.2 x hx
      · rw [List.mem_singleton.1 hx]
        exact ⟨Nat.zero_le _, Nat.zero_le _, hb, fun l hl => by simp at hl⟩
theorem Dk.good.amend {D : Dk} {n : Nat} (h : D.good n) (ed : ByteArray) (id num : Int) (ts : List S68) (hb : bulkL ts ≤ 2000000) : (D.amend ed id num ts).2.2.good n := by
  unfold Dk.amend
  split
  · exact h
  · split
    · exact h
    · next hq =>
      split
      · exact h
      · next h2 =>
        obtain ⟨d, hg, _, he⟩ := Dk.cur_zero (Decidable.of_not_not hq)
        rw [hg]
        have hd := h.2 d (Dk.get_mem hg)
        refine h.put _ ⟨?_, Nat.zero_le _, hb, fun l hl => ?_⟩
        · have := hd.1
          simp only [List.length_append, List.length_cons, List.length_nil]
          omega
        · rcases List.mem_append.1 hl with hl | hl
          · exact hd.2.2.2 l hl
          · rw [List.mem_singleton.1 hl]; exact hd.2.2.1
theorem Dk.good.approve {D : Dk} {n : Nat} (h : D.good n) (ed : ByteArray) (id num : Int) : (D.approve ed id num).2.good (n + 1) := by
  have h1 := h.mono (Nat.le_succ n)
  unfold Dk.approve
  split
  · exact h1
  · split
    · exact h1
    · cases hg : D.get id with
      | none => exact h1
      | some d =>
        simp only
        split
        · exact h1
        · split
          · exact h1
          · have hd := h.2 d (Dk.get_mem hg)
            exact h1.put _ ⟨hd.1, by simp only [List.length_append, List.length_cons, List.length_nil]; have := hd.2.1; omega, hd.2.2⟩
theorem Dk.good.close {D : Dk} {n : Nat} (h : D.good n) (id : Int) : (D.close id).2.good n := by
  unfold Dk.close
  cases hg : D.get id with
  | none => exact h
  | some d =>
    simp only
    split
    · exact h
    · exact h.put _ (h.2 d (Dk.get_mem hg))

/-- The desk D lies at dp and mb; no block of 'free' is its own. -/
def At (w : World) (free : Nat → Prop) (dp mb : Nat) (D : Dk) (n : Nat) : Prop := D.good n ∧ ∃ tag sb, DeskAt w tag dp mb sb D ∧ ∀ k, free k → k < w.heap.size → tag k = 0
theorem At.mono {w : World} {free free' : Nat → Prop} {dp mb : Nat} {D : Dk} {n m : Nat} (h : At w free dp mb D n) (hf : ∀ k, free' k → free k) (hn : n ≤ m) : At w free' dp mb D m := by
  obtain ⟨hg, tag, sb, hD, ht⟩ := h
  exact ⟨hg.mono hn, tag, sb, hD, fun k hk hl => ht k (hf k hk) hl⟩
theorem At.grow {w w1 : World} {free : Nat → Prop} {dp mb : Nat} {D : Dk} {n : Nat} (h : At w free dp mb D n) (hB : Below w.heap.size w w1) : At w1 (fun k => free k ∨ w.heap.size ≤ k) dp mb D n := by
  obtain ⟨hg, tag, sb, hD, ht⟩ := h
  refine ⟨hg, newTag w tag 0, sb, hD.step (fun k hk _ => hB.block k hk) (fun k hk => newTag_old hk), fun k hk hl => ?_⟩
  by_cases hlt : k < w.heap.size
  · rw [newTag_old hlt]; exact ht k (hk.elim id (fun h => by omega)) hlt
  · exact newTag_new (by omega)
theorem At.keep {w w1 : World} {free : Nat → Prop} {dp mb : Nat} {D : Dk} {n : Nat} (h : At w free dp mb D n) (hK : Kp w w1 free) : At w1 (fun k => free k ∨ w.heap.size ≤ k) dp mb D n := by
  obtain ⟨hg, tag, sb, hD, ht⟩ := h
  refine ⟨hg, newTag w tag 0, sb, hD.step (fun k hk h0 => hK.block k hk (fun hf => h0 (ht k hf hk))) (fun k hk => newTag_old hk), fun k hk hl => ?_⟩
  by_cases hlt : k < w.heap.size
  · rw [newTag_old hlt]; exact ht k (hk.elim id (fun h => by omega)) hlt
  · exact newTag_new (by omega)
/-- What an operation does, seen from outside. -/
def Op1 (w : World) (free : Nat → Prop) (dp mb : Nat) (v : Value) (D1 : Dk) (n : Nat) (e : Ending) (w' : World) : Prop := e = .returned v ∧ At w' (fun k => free k ∧ k < w.heap.size) dp mb D1 n ∧ Kp w w' (fun k => ¬ free k)
theorem Does.op {w : World} {tag : Nat → Nat} {dp mb : Nat} {v : Value} {D1 : Dk} {e : Ending} {w' : World} {free : Nat → Prop} {n : Nat} (h : Does w tag dp mb v D1 e w') (ht : ∀ k, free k → k < w.heap.size → tag k = 0) (hg : D1.good n) : Op1 w free dp mb v D1 n e w' := by
  obtain ⟨h1, tag', sb', h2, h3, h4⟩ := h
  exact ⟨h1, ⟨hg, tag', sb', h3, fun k hk _ => (h2 k hk.2).trans (ht k hk.1 hk.2)⟩, h4.drop (fun k hl hk hf => by rw [ht k hf hl] at hk; omega)⟩

section
variable {w : World} {free : Nat → Prop} {dp mb : Nat} {D : Dk} {n : Nat}
theorem At.open_ (h : At w free dp mb D n) (hn : n ≤ 90000) (ed : ByteArray) (ts : List S68) (A : Option Addr) (c : Nat) (hb : bulkL ts ≤ 2000000) (hr : k68.C w A ts.length ts) (hc : ts.length ≤ c) :
    Calls Try.prog 31 #[.pointer (some ⟨dp, 0, none⟩), .string ed, .slice A ts.length c] w (Op1 w free dp mb (two (D.opens ed ts).1 (D.opens ed ts).2.1) (D.opens ed ts).2.2 n) := by
  obtain ⟨hg, tag, sb, hD, ht⟩ := h
  exact (open_calls w tag dp mb sb D hD (hg.ok hn) ed ts A c hb hr hc).mono (fun e w' hd => hd.op ht (hg.opens ed ts hb))
theorem At.amend (h : At w free dp mb D n) (hn : n ≤ 90000) (ed : ByteArray) (id num : Int) (ts : List S68) (A : Option Addr) (c : Nat) (hid : (Lit.int .i64 id).wf = true) (hb : bulkL ts ≤ 2000000) (hr : k68.F w free A ts.length ts) (hc : ts.length ≤ c) :
    Calls Try.prog 20 #[.pointer (some ⟨dp, 0, none⟩), .string ed, .int .i64 id, .int .i64 num, .slice A ts.length c] w (Op1 w free dp mb (two (D.amend ed id num ts).1 (D.amend ed id num ts).2.1) (D.amend ed id num ts).2.2 n) := by
  obtain ⟨hg, tag, sb, hD, ht⟩ := h
  exact (amend_calls w tag dp mb sb D hD (hg.ok hn) ed id num ts A c hb (Kd.F_mono (Kd.F_bound hr) (fun k hk => by rw [ht k hk.1 hk.2]; omega)) hc hid).mono (fun e w' hd => hd.does.op ht (hg.amend ed id num ts hb))
theorem At.approve (h : At w free dp mb D n) (hn : n ≤ 90000) (ed : ByteArray) (id num : Int) (hid : (Lit.int .i64 id).wf = true) :
    Calls Try.prog 30 #[.pointer (some ⟨dp, 0, none⟩), .string ed, .int .i64 id, .int .i64 num] w (Op1 w free dp mb (.int .i64 (D.approve ed id num).1) (D.approve ed id num).2 (n + 1)) := by
  obtain ⟨hg, tag, sb, hD, ht⟩ := h
  exact (approve_calls w tag dp mb sb D hD (hg.ok hn) (hg.low hn) ed id num hid).mono (fun e w' hd => hd.does.op ht (hg.approve ed id num))
theorem At.close (h : At w free dp mb D n) (id : Int) (hid : (Lit.int .i64 id).wf = true) :
    Calls Try.prog 29 #[.pointer (some ⟨dp, 0, none⟩), .int .i64 id] w (Op1 w free dp mb (.int .i64 (D.close id).1) (D.close id).2 n) := by
  obtain ⟨hg, tag, sb, hD, ht⟩ := h
  exact (close_calls w tag dp mb sb D hD id hid).mono (fun e w' hd => hd.does.op ht (hg.close id))
theorem At.ready (h : At w free dp mb D n) (hn : n ≤ 90000) (id num : Int) (hid : (Lit.int .i64 id).wf = true) :
    Calls Try.prog 17 #[.pointer (some ⟨dp, 0, none⟩), .int .i64 id, .int .i64 num] w fun e w' => e = .returned (.int .i64 (D.ready id num)) ∧ Drawn0 w w' := by
  obtain ⟨hg, tag, sb, hD, ht⟩ := h
  exact ready_calls w tag dp mb sb D hD (hg.ok hn) id num hid
theorem At.history (h : At w free dp mb D n) (hn : n ≤ 90000) (id : Int) (hid : (Lit.int .i64 id).wf = true) :
    Calls Try.prog 19 #[.pointer (some ⟨dp, 0, none⟩), .int .i64 id] w fun e w' => ∃ v, e = .returned (.tuple #[v, .int .i64 (D.has id)]) ∧ (Kd.slice 68 k68).R 33 w' w.heap.size (New w) v (D.hist id) ∧ Below w.heap.size w w' := by
  obtain ⟨hg, tag, sb, hD, ht⟩ := h
  exact history_calls w tag dp mb sb D hD (hg.ok hn) id hid
theorem At.drafts (h : At w free dp mb D n) :
    Calls Try.prog 13 #[.pointer (some ⟨dp, 0, none⟩)] w fun e w' => ∃ v, e = .returned v ∧ (Kd.int .i64).R 3 w' w.heap.size (New w) v (D.opensTo D.drafts.length) ∧ Below w.heap.size w w' := by
  obtain ⟨hg, tag, sb, hD, ht⟩ := h
  exact drafts_calls w tag dp mb sb D hD
end
end Go.Proofs.Ytkblcdpmdbofgaa.A
