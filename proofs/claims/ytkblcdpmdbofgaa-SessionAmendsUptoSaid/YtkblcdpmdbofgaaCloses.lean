/- The law SessionCloses returns true for every list of editors, every number, every list of operations and every draft, and leaves its arguments as they were: where the arguments are of bulk at most 1048576 (the second form of the statement, SessionClosesUptoSaid). -/
import Derived.Test.YtkblcdpmdbofgaaM4
import Derived.Test.YtkblcdpmdbofgaaRefuses
import Derived.WalkKit
import Derived.ProofKit
import Derived.OpenShut
import Derived.ShutString
import Derived.ChangeOld
import Derived.Below
import Derived.SizedLaws
import Derived.JoinedCond
/- Closed drafts; the drafts' trees are notices. -/
namespace Go.Proofs.Ytkblcdpmdbofgaa.A
open Go.RowKit Go.Proofs.YtkblcdpmdbofgaaW.PrintWords Go.Proofs.YtkblcdpmdbofgaaW.PrintLast Go.Proofs.YtkblcdpmdbofgaaW.PrintMore
set_option linter.unusedVariables false
set_option linter.unusedSimpArgs false

section
variable {D : Dk} {id : Int} {d : Dr}
theorem closed_cur (hg : D.get id = some d) (hc : d.closed = true) (num : Int) : D.cur id num = 10 := by
  unfold Dk.cur
  rw [hg]
  simp only
  rw [if_pos hc]
theorem closed_amend (hg : D.get id = some d) (hc : d.closed = true) (ed : ByteArray) (num : Int) (ts : List S68) (hv : D.valid ed ts = true) : D.amend ed id num ts = (0, 10, D) := by
  unfold Dk.amend
  rw [hv, if_neg (by simp), closed_cur hg hc, if_pos (by decide)]
theorem closed_approve (hg : D.get id = some d) (hc : d.closed = true) (ed : ByteArray) (num : Int) (hm : memS D.eds ed = true) : D.approve ed id num = (10, D) := by
  unfold Dk.approve
  rw [hm, if_neg (by simp), closed_cur hg hc, if_pos (by decide)]
theorem closed_ready (hg : D.get id = some d) (hc : d.closed = true) (num : Int) : D.ready id num = 10 := by
  unfold Dk.ready
  rw [closed_cur hg hc, if_neg (by decide), if_neg (by decide)]
theorem closed_close (hg : D.get id = some d) (hc : d.closed = true) : D.close id = (10, D) := by
  unfold Dk.close
  rw [hg]
  simp only
  rw [if_pos hc]
theorem closed_opens (hg : D.get id = some d) (hc : d.closed = true) (n : Nat) : ∀ x ∈ D.opensTo n, x ≠ id := by
  intro x hx he
  subst he
  unfold Dk.opensTo at hx
  obtain ⟨i, hi, hxi⟩ := List.mem_map.1 hx
  have hf := (List.mem_filter.1 hi).2
  unfold Dk.get at hg
  rw [if_pos (by omega), show (x - 1).toNat = i by omega] at hg
  rw [hg] at hf
  simp [hc] at hf
end

def Dk.notices (D : Dk) : Prop := ∀ d ∈ D.drafts, noticeS d.trees = true
theorem valid_notice {D : Dk} {ed : ByteArray} {ts : List S68} (h : D.valid ed ts = true) : noticeS ts = true := by
  unfold Dk.valid at h
  rw [Bool.and_eq_true] at h
  exact h.2
theorem put_notices {D : Dk} (h : D.notices) (i : Nat) {d : Dr} (hd : noticeS d.trees = true) : (D.put i d).notices := by
  intro x hx
  unfold Dk.put at hx
  rcases List.mem_or_eq_of_mem_set hx with hx | rfl
  · exact h x hx
  · exact hd
theorem doOp_notices {D : Dk} (h : D.notices) (x : S35) : (D.doOp x).2.2.notices := by
  unfold Dk.doOp
  split
  · rcases opens_cases D x.f1 x.f4 with h' | ⟨h', hv, _⟩
    · rw [h'.2.1]; exact h
    · rw [h']
      intro y hy
      unfold Dk.add at hy
      rcases List.mem_append.1 hy with hy | hy
      · exact h y hy
      · rw [List.mem_singleton.1 hy]; exact valid_notice hv
  split
  · rcases amend_cases D x.f1 x.f2 x.f3 x.f4 with h' | ⟨d, _, _, _, h', hv, _⟩
    · rw [h'.2.1]; exact h
    · rw [h']; exact put_notices h _ (valid_notice hv)
  split
  · rcases approve_cases D x.f1 x.f2 x.f3 with h' | ⟨d, hg, _, _, _, _, h'⟩
    · rw [show (0, D.approve x.f1 x.f2 x.f3).2.2 = (D.approve x.f1 x.f2 x.f3).2 from rfl, h'.2]; exact h
    · rw [show (0, D.approve x.f1 x.f2 x.f3).2.2 = (D.approve x.f1 x.f2 x.f3).2 from rfl, h']; exact put_notices h _ (h d (Dk.get_mem hg))
  split
  · exact h
  split
  · rcases close_cases D x.f2 with h' | ⟨d, hg, _, h'⟩
    · rw [show (0, D.close x.f2).2.2 = (D.close x.f2).2 from rfl, h'.2]; exact h
    · rw [show (0, D.close x.f2).2.2 = (D.close x.f2).2 from rfl, h']; exact put_notices h _ (h d (Dk.get_mem hg))
  · exact h
theorem run_notices {D : Dk} (h : D.notices) (l : List S35) : (D.run l).notices := by
  induction l generalizing D with
  | nil => exact h
  | cons x r ih => exact ih (doOp_notices h x)
end Go.Proofs.Ytkblcdpmdbofgaa.A
/- SessionCloses: the walk. -/
namespace Go.Proofs.Ytkblcdpmdbofgaa.A
open Go.RowKit Go.Proofs.YtkblcdpmdbofgaaW.PrintWords Go.Proofs.YtkblcdpmdbofgaaW.PrintLast Go.Proofs.YtkblcdpmdbofgaaW.PrintMore
set_option linter.unusedVariables false
set_option linter.unusedSimpArgs false

/-- An operation that leaves the desk as it is: what its caller keeps. -/
structure Stays (B : Nat) (u w : World) (free : Nat → Prop) (dp mb : Nat) (D : Dk) (n : Nat) : Prop where
  desk : At w free dp mb D n
  below : Below B u w
  base : ∀ k, k < B → free k
theorem Stays.op {B : Nat} {u w w' : World} {free : Nat → Prop} {dp mb : Nat} {D D1 : Dk} {n m : Nat} {v : Value} {e : Ending} (h : Stays B u w free dp mb D n) (ho : Op1 w free dp mb v D1 m e w') (hb : ∀ k, free k → k < w.heap.size) (hl : B ≤ w.heap.size) : e = .returned v ∧ Stays B u w' free dp mb D1 m ∧ ∀ k, free k → w'.heap[k]? = w.heap[k]? :=
  ⟨ho.1, ⟨ho.2.1.mono (fun k hk => ⟨hk, hb k hk⟩) (Nat.le_refl _), Kp.bel h.below ho.2.2 (fun k hk hn => hn (h.base k hk)) hl, h.base⟩, fun k hk => ho.2.2.block k (hb k hk) (fun hn => hn hk)⟩

set_option maxHeartbeats 2000000 in
set_option maxRecDepth 100000 in
theorem closes_nil (w0 : World) (A : Option Addr) (c : Nat) (l : List ByteArray) (needed : Int) (Ao : Option Addr) (co : Nat) (ops : List S35) (id : Int)
    (hr : Kd.string.C w0 A l.length l) (hcp : l.length ≤ c) (hsz : ∀ x ∈ l, x.size ≤ 2000000) (hro : k35.C w0 Ao ops.length ops) (hco : ops.length ≤ co) (hlo : ops.length ≤ 2000000) (hok : ∀ x ∈ ops, opOk x) (hc : (canNew l needed && fewS ops) = false) :
    Calls Try.prog 8 #[.slice A l.length c, .int .i64 needed, .slice Ao ops.length co, .int .i64 id] w0 fun e w' => e = .returned (.bool true) ∧ Below w0.heap.size w0 w' := by
  have C10 := Aside0.mk (fun (W : World) => awake_calls W)
  have C18 := Aside0.mk (fun (W : World) (hW : Below w0.heap.size w0 W) => play_calls A c l needed Ao co ops W (Kd.C_below hr hW) hcp hsz (Kd.C_below hro hW) hco hlo hok)
  have HC := Aside0.mk hc
  clear hr hcp hsz hro hco hlo hok hc
  go_enter Try.func8, Try.ntmps8
  go_wp2_with (first
    | (go_at_call 10; refine (C10.out _).mono ?_; rintro e w1 ⟨rfl, hB⟩; have HB1 := Aside0.mk hB; clear hB)
    | (go_at_call 18; refine (C18.out _ HB1.out).mono ?_; rintro e w2 hP; obtain ⟨rfl, hB⟩ := hP.no HC.out; have HB2 := Aside0.mk (below_step HB1.out hB); clear hP hB))
  go_ret
  exact ⟨rfl, HB2.out⟩

set_option maxHeartbeats 2000000 in
set_option maxRecDepth 100000 in
theorem closes_none (w0 : World) (A : Option Addr) (c : Nat) (l : List ByteArray) (needed : Int) (Ao : Option Addr) (co : Nat) (ops : List S35) (id : Int) (hid : (Lit.int .i64 id).wf = true)
    (hr : Kd.string.C w0 A l.length l) (hcp : l.length ≤ c) (hsz : ∀ x ∈ l, x.size ≤ 2000000) (hro : k35.C w0 Ao ops.length ops) (hco : ops.length ≤ co) (hlo : ops.length ≤ 2000000) (hok : ∀ x ∈ ops, opOk x) (hc : (canNew l needed && fewS ops) = true) (hg : (Dk.run ⟨l, needed, []⟩ ops).get id = none) :
    Calls Try.prog 8 #[.slice A l.length c, .int .i64 needed, .slice Ao ops.length co, .int .i64 id] w0 fun e w' => e = .returned (.bool true) ∧ Below w0.heap.size w0 w' := by
  have C10 := Aside0.mk (fun (W : World) => awake_calls W)
  have C18 := Aside0.mk (fun (W : World) (hW : Below w0.heap.size w0 W) => play_calls A c l needed Ao co ops W (Kd.C_below hr hW) hcp hsz (Kd.C_below hro hW) hco hlo hok)
  have HC := Aside0.mk hc
  have HID := Aside0.mk hid
  have hn40 : Aside0 (ops.length ≤ 40) := ⟨few_short (by rw [Bool.and_eq_true] at hc; exact hc.2)⟩
  have E1 : Aside0 ((Dk.run ⟨l, needed, []⟩ ops).has id = 4 ∧ ((Dk.run ⟨l, needed, []⟩ ops).close id).1 = 4) := ⟨by unfold Dk.has Dk.close; rw [hg]; exact ⟨rfl, rfl⟩⟩
  clear hr hcp hsz hro hco hlo hok hc hid hg
  obtain ⟨DR, hDR⟩ : ∃ DR, Dk.run ⟨l, needed, []⟩ ops = DR := ⟨_, rfl⟩
  have HDR := Aside0.mk hDR
  rw [hDR] at E1
  clear hDR
  have HBx := Aside0.mk (fun (W : World) (o : Obj) => below_alloc (Below.refl W.heap.size W) o)
  go_enter Try.func8, Try.ntmps8
  go_wp2_with (first
    | (go_at_call 10; refine (C10.out _).mono ?_; rintro e w1 ⟨rfl, hB⟩; have HB1 := Aside0.mk hB; clear hB)
    | (go_at_call 18; refine (C18.out _ HB1.out).mono ?_; rintro e w2 hP; obtain ⟨dp, mb, rfl, hS⟩ := hP.yes HC.out; rw [HDR.out] at hS; have HB2 := Aside0.mk (below_step HB1.out hS.2.to); have S := Aside0.mk hS; clear hP hS)
    | (go_at_call 21; refine (S.out.1.draft (by have := hn40.out; omega) id HID.out).mono ?_; rintro e w3 ⟨vt, va, rfl, hT, hA, hB⟩; rw [E1.out.1]; simp only [shownV]; obtain ⟨At1, ct1, rfl⟩ := Kd.R_slice hT; obtain ⟨Aa1, ca1, rfl⟩ := Kd.R_slice hA; have A3 := Aside0.mk (S.out.1.grow hB); have HB3 := Aside0.mk (below_step HB2.out hB); clear hT hA hB)
    | (go_at_call 29; refine ((A3.out.grow (HBx.out _ _)).close id HID.out).mono ?_; rintro e w4 ⟨rfl, _, hK⟩; rw [E1.out.2]; have HB4 := Aside0.mk (Kp.bel (below_alloc HB3.out _) hK (fun k hk hn => hn (.inl (.inl (Nat.lt_of_lt_of_le hk HB1.out.size)))) (below_alloc HB3.out _).size); clear hK))
  go_ret
  exact ⟨rfl, HB4.out⟩
end Go.Proofs.Ytkblcdpmdbofgaa.A
/- SessionCloses: the walk at a draft that exists. -/
namespace Go.Proofs.Ytkblcdpmdbofgaa.A
open Go.RowKit Go.Proofs.YtkblcdpmdbofgaaW.PrintWords Go.Proofs.YtkblcdpmdbofgaaW.PrintLast Go.Proofs.YtkblcdpmdbofgaaW.PrintMore
set_option linter.unusedVariables false
set_option linter.unusedSimpArgs false

theorem Stays.mono {B : Nat} {u w : World} {free : Nat → Prop} {dp mb : Nat} {D : Dk} {n m : Nat} (h : Stays B u w free dp mb D n) (hn : n ≤ m) : Stays B u w free dp mb D m := ⟨h.desk.mono (fun _ hk => hk) hn, h.below, h.base⟩
theorem Stays.step {B : Nat} {u w w' : World} {free : Nat → Prop} {dp mb : Nat} {D : Dk} {n : Nat} (h : Stays B u w free dp mb D n) (hB : Below w.heap.size w w') (hl : B ≤ w.heap.size) : Stays B u w' free dp mb D n :=
  ⟨(h.desk.grow hB).mono (fun k hk => .inl hk) (Nat.le_refl _), ⟨hB.os.trans h.below.os, hB.tape.trans h.below.tape, hB.output.trans h.below.output, Nat.le_trans h.below.size hB.size, fun k hk => (hB.block k (Nat.lt_of_lt_of_le hk hl)).trans (h.below.block k hk)⟩, h.base⟩
/-- What the walk keeps from the draft on: its box and its trees. -/
structure Pack (w0 w : World) (M bx : Nat) (free : Nat → Prop) (dp mb : Nat) (D : Dk) (n : Nat) (cells : Array Value) (A : Option Addr) (ts : List S68) : Prop where
  stay : Stays w0.heap.size w0 w free dp mb D n
  size : M ≤ w.heap.size
  base : w0.heap.size ≤ M
  lim : ∀ k, free k → k < M
  bxf : free bx
  box : w.heap[bx]? = some (.cells cells 49 (0, 0))
  trees : k68.F w free A ts.length ts
section
variable {w0 w w' : World} {M bx : Nat} {free : Nat → Prop} {dp mb : Nat} {D D1 : Dk} {n m : Nat} {cells : Array Value} {A : Option Addr} {ts : List S68} {v : Value} {e : Ending}
theorem Pack.op (h : Pack w0 w M bx free dp mb D n cells A ts) (ho : Op1 w free dp mb v D1 m e w') : e = .returned v ∧ Pack w0 w' M bx free dp mb D1 m cells A ts := by
  have hl : w0.heap.size ≤ w.heap.size := Nat.le_trans h.base h.size
  obtain ⟨h1, h2, h3⟩ := h.stay.op ho (fun k hk => Nat.lt_of_lt_of_le (h.lim k hk) h.size) hl
  exact ⟨h1, h2, Nat.le_trans h.size ho.2.2.size, h.base, h.lim, h.bxf, (h3 bx h.bxf).trans h.box, Kd.F_step h.trees (fun k hk _ => h3 k hk)⟩
theorem Pack.step (h : Pack w0 w M bx free dp mb D n cells A ts) (hB : Below w.heap.size w w') : Pack w0 w' M bx free dp mb D n cells A ts :=
  ⟨h.stay.step hB (Nat.le_trans h.base h.size), Nat.le_trans h.size hB.size, h.base, h.lim, h.bxf, blk_below h.box hB, Kd.F_below h.trees hB⟩
theorem Pack.drew (h : Pack w0 w M bx free dp mb D n cells A ts) : Pack w0 w.drew M bx free dp mb D n cells A ts := h.step (below_drew (Below.refl _ _))
theorem Pack.start {w1 w2 w3 : World} {c : Nat} (S : Stand w1 w2 dp mb D n) (HB1 : Below w0.heap.size w0 w1) (HB2 : Below w0.heap.size w0 w2) (hT : k68.R 68 w3 w2.heap.size (New w2) (.slice A ts.length c) ts) (hB : Below w2.heap.size w2 w3) (cells : Array Value) :
    Pack w0 (w3.alloc (.cells cells 49)) (w3.heap.size + 1) w3.heap.size (fun k => k < w1.heap.size ∨ w2.heap.size ≤ k ∧ k < w3.heap.size + 1) dp mb D n cells A ts := by
  have hBA := below_alloc hB (.cells cells 49)
  have es : (w3.alloc (.cells cells 49)).heap.size = w3.heap.size + 1 := by simp
  have s12 := S.2.size
  have s23 := hB.size
  have s01 := HB1.size
  refine ⟨⟨(S.1.grow hBA).mono (fun k hk => hk.elim .inl (fun h => .inr h.1)) (Nat.le_refl _), below_step HB2 hBA, fun k hk => .inl (Nat.lt_of_lt_of_le hk s01)⟩, Nat.le_of_eq es.symm, by omega, fun k hk => by omega, .inr ⟨s23, Nat.lt_succ_self _⟩, heap_alloc_new w3 _, ?_⟩
  refine Kd.F_mono (Kd.F_bound (Kd.R_F (Kd.R_alloc hT (.cells cells 49)))) (fun k hk => .inr ⟨hk.1, ?_⟩)
  have := hk.2
  rw [es] at this
  exact this
theorem pack_cells {a b : Int} {s : ByteArray} {n1 c1 : Nat} {A1 : Option Addr} {va : Value} {cl : Bool} {ad : Addr} {e0 : ByteArray} (h : Pack w0 w M bx free dp mb D n #[.int .i64 a, .int .i64 b, .string s, .slice A1 n1 c1, va, .bool cl] A ts) (h0 : w0.cell? ad = some (.string e0)) :
    w.cell? ad = some (.string e0) ∧ w.cell? ⟨bx, 1, none⟩ = some (.int .i64 b) ∧ w.cell? ⟨bx, 3, none⟩ = some (.slice A1 n1 c1) :=
  ⟨(h.stay.below.cell (World.block_lt_of_cell? w0 _ h0)).trans h0, blk_cell h.box 1, blk_cell h.box 3⟩
theorem rd_int_mem (l : List Int) (x : Int) (h0 : 0 ≤ x) (h1 : x < l.length) : rd l x ∈ l := by
  unfold rd
  rw [List.getD_eq_getElem?_getD, List.getElem?_eq_getElem (by omega)]
  exact List.getElem_mem _
end

set_option maxHeartbeats 4000000 in
set_option maxRecDepth 100000 in
theorem closes_some (w0 : World) (A : Option Addr) (c : Nat) (l : List ByteArray) (needed : Int) (Ao : Option Addr) (co : Nat) (ops : List S35) (id : Int) (hid : (Lit.int .i64 id).wf = true)
    (hr : Kd.string.C w0 A l.length l) (hcp : l.length ≤ c) (hsz : ∀ x ∈ l, x.size ≤ 2000000) (hro : k35.C w0 Ao ops.length ops) (hco : ops.length ≤ co) (hlo : ops.length ≤ 2000000) (hok : ∀ x ∈ ops, opOk x) (hc : (canNew l needed && fewS ops) = true)
    (DR D1 : Dk) (hDR : Dk.run ⟨l, needed, []⟩ ops = DR) (d d1 : Dr) (hg : DR.get id = some d) (q : Int) (hcl : DR.close id = (q, D1)) (hq : d.closed = true ∧ q = 10 ∨ d.closed = false ∧ q = 0) (hg1 : D1.get id = some d1) (hc1 : d1.closed = true) (heds : D1.eds = l) (hno : noticeS d.trees = true) :
    Calls Try.prog 8 #[.slice A l.length c, .int .i64 needed, .slice Ao ops.length co, .int .i64 id] w0 fun e w' => e = .returned (.bool true) ∧ Below w0.heap.size w0 w' := by
  have C10 := Aside0.mk (fun (W : World) => awake_calls W)
  have C18 := Aside0.mk (fun (W : World) (hW : Below w0.heap.size w0 W) => play_calls A c l needed Ao co ops W (Kd.C_below hr hW) hcp hsz (Kd.C_below hro hW) hco hlo hok)
  have HC := Aside0.mk hc
  have HID := Aside0.mk hid
  have HDR := Aside0.mk hDR
  have hn40 : Aside0 (ops.length ≤ 40) := ⟨few_short (by rw [Bool.and_eq_true] at hc; exact hc.2)⟩
  have hl1 : 1 ≤ l.length := by
    rw [Bool.and_eq_true] at hc
    have := hc.1
    unfold canNew at this
    simp only [Bool.and_eq_true, decide_eq_true_eq] at this
    omega
  obtain ⟨ad, eA, hx0⟩ := Kd.at_string hr 0 (Int.le_refl _) (by omega)
  subst eA
  have HX0 := Aside0.mk hx0
  have hm : memS l (rdOf ByteArray.empty l 0) = true := by
    unfold memS
    exact List.any_eq_true.2 ⟨_, rdOf_mem l 0 (Int.le_refl _) (by omega), decide_eq_true rfl⟩
  have E1 : Aside0 (DR.has id = 0 ∧ DR.show_ id = ⟨id, (d.earlier.length : Int) + 1, d.author, d.trees, d.approvals, d.closed⟩) := ⟨by unfold Dk.has Dk.show_; rw [hg]; exact ⟨rfl, rfl⟩⟩
  have E2 := Aside0.mk hcl
  have E3 : Aside0 (∀ num, D1.amend (rdOf ByteArray.empty l 0) id num d.trees = (0, 10, D1)) := ⟨fun num => closed_amend hg1 hc1 _ num _ (by unfold Dk.valid; rw [heds, hm, hno]; rfl)⟩
  have E4 : Aside0 (∀ num, D1.approve (rdOf ByteArray.empty l 0) id num = (10, D1)) := ⟨fun num => closed_approve hg1 hc1 _ num (by rw [heds]; exact hm)⟩
  have E5 : Aside0 (∀ num, D1.ready id num = 10) := ⟨fun num => closed_ready hg1 hc1 num⟩
  have E6 : Aside0 (D1.close id = (10, D1)) := ⟨closed_close hg1 hc1⟩
  have E7 := Aside0.mk (closed_opens hg1 hc1 D1.drafts.length)
  have q1 := eq_true (show (0 : Int) < (l.length : Int) by omega)
  have HL1 := Aside0.mk hl1
  have HMEM := Aside0.mk (Dk.get_mem hg)
  obtain ⟨ls, hls⟩ : ∃ ls, D1.opensTo D1.drafts.length = ls := ⟨_, rfl⟩
  have HLS := Aside0.mk hls
  rw [hls] at E7
  have q1n := eq_true (show 0 < l.length from hl1)
  have ea : ad.add (0 : Int).toNat = ad := by first | rfl | (unfold Addr.add; simp)
  rw [ea] at hx0
  obtain ⟨e0, he0⟩ : ∃ e0, rdOf ByteArray.empty l 0 = e0 := ⟨_, rfl⟩
  rw [he0] at E3 E4 hx0
  have HX0 := Aside0.mk hx0
  clear hr hcp hsz hro hco hlo hok hc hid hDR hg hcl hg1 hc1 heds hno hm hl1 hx0 hls ea he0
  rcases hq with ⟨hcd, rfl⟩ | ⟨hcd, rfl⟩
  · rw [hcd] at E1
    clear hcd
    go_enter Try.func8, Try.ntmps8
    go_wp2_with (first
      | (go_at_call 10; refine (C10.out _).mono ?_; rintro e w1 ⟨rfl, hB⟩; have HB1 := Aside0.mk hB; clear hB)
      | (go_at_call 18; refine (C18.out _ HB1.out).mono ?_; rintro e w2 hP; obtain ⟨dp, mb, rfl, hS⟩ := hP.yes HC.out; rw [HDR.out] at hS; have HB2 := Aside0.mk (below_step HB1.out hS.2.to); have S := Aside0.mk hS; clear hP hS)
      | (go_at_call 21; refine (S.out.1.draft (by have := hn40.out; omega) id HID.out).mono ?_; rintro e w3 ⟨vt, va, rfl, hT, hA, hB⟩; rw [E1.out.2] at hT hA; rw [E1.out.1, E1.out.2]; simp only [shownV]; obtain ⟨At1, ct1, rfl⟩ := Kd.R_slice hT; obtain ⟨Aa1, ca1, rfl⟩ := Kd.R_slice hA; have HCT := Aside0.mk (Kd.R_reads' hT).2.1; have HBK := Aside0.mk (S.out.1.1.2 d HMEM.out).2.2.1; have PK := Aside0.mk (Pack.start S.out HB1.out HB2.out hT hB #[.int .i64 id, .int .i64 ((d.earlier.length : Int) + 1), .string d.author, .slice At1 d.trees.length ct1, .slice Aa1 d.approvals.length ca1, .bool true]); clear hT hA hB)
      | (go_at_call 29; refine (Calls.mono (PK.out.stay.desk.close id HID.out) (fun e w' ho => (show e = .returned (.int .i64 10) ∧ Pack w0 w' (w3.heap.size + 1) w3.heap.size _ dp mb D1 _ _ _ _ from by have := PK.out.op ho; rw [E2.out] at this; exact this))).mono ?_; rintro e w5 ⟨rfl, hP⟩; have P5 := Aside0.mk hP; have b5 := blk_cell hP.box 5; simp at b5; clear hP))
    clear b5
    have S5 := Aside0.mk (pack_cells (P5.out.drew) HX0.out)
    go_region_held3 (fun w' => w'.cell? ad = some (.string e0) ∧ w'.cell? ⟨w3.heap.size, 1, none⟩ = some (.int .i64 ((d.earlier.length : Int) + 1)) ∧ w'.cell? ⟨w3.heap.size, 3, none⟩ = some (.slice At1 d.trees.length ct1))
      (first
        | (with_reducible exact S5.out)
        | (with_reducible exact S6.out))
      (first | (go_at_call 20; refine (Calls.mono (P5.out.drew.stay.desk.amend (by have := hn40.out; omega) e0 id ((d.earlier.length : Int) + 1) d.trees At1 ct1 HID.out HBK.out P5.out.drew.trees HCT.out) (fun e w' ho => (show e = .returned (.tuple #[.int .i64 0, .int .i64 10]) ∧ Pack w0 w' (w3.heap.size + 1) w3.heap.size _ dp mb D1 _ _ _ _ from by have := P5.out.drew.op ho; rw [E3.out] at this; exact this))).mono ?_; rintro e w6 ⟨rfl, hP⟩; have P6 := Aside0.mk hP; have S6 := Aside0.mk (pack_cells hP HX0.out); clear hP))
    go_wp2
    have S7 := Aside0.mk (pack_cells (P6.out.drew) HX0.out)
    go_region_held3 (fun w' => w'.cell? ad = some (.string e0) ∧ w'.cell? ⟨w3.heap.size, 1, none⟩ = some (.int .i64 ((d.earlier.length : Int) + 1)) ∧ w'.cell? ⟨w3.heap.size, 3, none⟩ = some (.slice At1 d.trees.length ct1))
      (first
        | (with_reducible exact S7.out)
        | (with_reducible exact S8.out))
      (first | (go_at_call 30; refine (Calls.mono (P6.out.drew.stay.desk.approve (by have := hn40.out; omega) e0 id ((d.earlier.length : Int) + 1) HID.out) (fun e w' ho => (show e = .returned (.int .i64 10) ∧ Pack w0 w' (w3.heap.size + 1) w3.heap.size _ dp mb D1 _ _ _ _ from by have := P6.out.drew.op ho; rw [E4.out] at this; exact this))).mono ?_; rintro e w7 ⟨rfl, hP⟩; have P7 := Aside0.mk hP; have S8 := Aside0.mk (pack_cells hP HX0.out); clear hP))
    go_wp2_with (first | (go_at_call 13; refine (P7.out.stay.desk.drafts).mono ?_; rintro e w8 ⟨v, rfl, hR, hB⟩; rw [HLS.out] at hR; obtain ⟨An, cn, rfl⟩ := Kd.R_slice hR; have HR8 := Aside0.mk (Kd.R_reads' hR); have P8 := Aside0.mk (P7.out.step hB); have hlf : ls.length ≤ 256 := (by obtain ⟨_, tag, sb, hD, _⟩ := P7.out.stay.desk; have h1 := D1.opensTo_len D1.drafts.length; rw [HLS.out] at h1; have := hD.few; omega); clear hR hB))
    go_loopw [17] (fun i w' => ∃ x : Int, i = .int .i64 x ∧ 0 ≤ x ∧ x ≤ ls.length ∧ Drawn0 w8 w') (fun i _ => ls.length - (intOf i).toNat)
    case atStart => exact ⟨0, rfl, Int.le_refl _, Int.natCast_nonneg _, Drawn0.refl _⟩
    case round =>
      obtain ⟨x, rfl, hx, hk, ⟨m, rfl⟩⟩ := hrel
      by_cases hlt : x < ls.length
      · obtain ⟨ad2, e2, hx2⟩ := Kd.at_int HR8.out.2.2 x hx hlt
        cases e2
        have p2 := eq_true hx
        have q2 := eq_true hlt
        have t2 : (rd ls x == id) = false := beq_eq_false_iff_ne.mpr (E7.out _ (rd_int_mem ls x hx hlt))
        go_wp2
        go_roundw
        case rel => exact ⟨x + 1, rfl, by omega, by omega, ⟨_, rfl⟩⟩
        case measure => simp [intOf]; omega
      · have b1 := (pack_cells (P8.out.step (pw_below_drewN (Below.refl _ _) m)) HX0.out).2.1
        go_wp2_with (first
          | (go_at_call 17; refine (Calls.mono ((P8.out.step (pw_below_drewN (Below.refl _ _) m)).stay.desk.ready (by have := hn40.out; omega) id ((d.earlier.length : Int) + 1) HID.out) (fun e w' ho => (show e = .returned (.int .i64 10) ∧ Drawn0 _ w' from by rw [E5.out] at ho; exact ho))).mono ?_; rintro e w' ⟨rfl, ⟨m2, rfl⟩⟩)
          | (go_at_call 29; refine (Calls.mono ((P8.out.step (pw_below_drewN (Below.refl _ _) _)).stay.desk.close id HID.out) (fun e w' ho => (show e = .returned (.int .i64 10) ∧ Pack w0 w' (w3.heap.size + 1) w3.heap.size _ dp mb D1 _ _ _ _ from by have := (P8.out.step (pw_below_drewN (Below.refl _ _) _)).op ho; rw [E6.out] at this; exact this))).mono ?_; rintro e w9 ⟨rfl, hP⟩; have P9 := Aside0.mk hP; clear hP))
        go_ret
        exact ⟨rfl, P9.out.stay.below⟩
  · rw [hcd] at E1
    clear hcd
    go_enter Try.func8, Try.ntmps8
    go_wp2_with (first
      | (go_at_call 10; refine (C10.out _).mono ?_; rintro e w1 ⟨rfl, hB⟩; have HB1 := Aside0.mk hB; clear hB)
      | (go_at_call 18; refine (C18.out _ HB1.out).mono ?_; rintro e w2 hP; obtain ⟨dp, mb, rfl, hS⟩ := hP.yes HC.out; rw [HDR.out] at hS; have HB2 := Aside0.mk (below_step HB1.out hS.2.to); have S := Aside0.mk hS; clear hP hS)
      | (go_at_call 21; refine (S.out.1.draft (by have := hn40.out; omega) id HID.out).mono ?_; rintro e w3 ⟨vt, va, rfl, hT, hA, hB⟩; rw [E1.out.2] at hT hA; rw [E1.out.1, E1.out.2]; simp only [shownV]; obtain ⟨At1, ct1, rfl⟩ := Kd.R_slice hT; obtain ⟨Aa1, ca1, rfl⟩ := Kd.R_slice hA; have HCT := Aside0.mk (Kd.R_reads' hT).2.1; have HBK := Aside0.mk (S.out.1.1.2 d HMEM.out).2.2.1; have PK := Aside0.mk (Pack.start S.out HB1.out HB2.out hT hB #[.int .i64 id, .int .i64 ((d.earlier.length : Int) + 1), .string d.author, .slice At1 d.trees.length ct1, .slice Aa1 d.approvals.length ca1, .bool false]); clear hT hA hB)
      | (go_at_call 29; refine (Calls.mono (PK.out.stay.desk.close id HID.out) (fun e w' ho => (show e = .returned (.int .i64 0) ∧ Pack w0 w' (w3.heap.size + 1) w3.heap.size _ dp mb D1 _ _ _ _ from by have := PK.out.op ho; rw [E2.out] at this; exact this))).mono ?_; rintro e w5 ⟨rfl, hP⟩; have P5 := Aside0.mk hP; have b5 := blk_cell hP.box 5; simp at b5; clear hP))
    clear b5
    have S5 := Aside0.mk (pack_cells (P5.out.drew) HX0.out)
    go_region_held3 (fun w' => w'.cell? ad = some (.string e0) ∧ w'.cell? ⟨w3.heap.size, 1, none⟩ = some (.int .i64 ((d.earlier.length : Int) + 1)) ∧ w'.cell? ⟨w3.heap.size, 3, none⟩ = some (.slice At1 d.trees.length ct1))
      (first
        | (with_reducible exact S5.out)
        | (with_reducible exact S6.out))
      (first | (go_at_call 20; refine (Calls.mono (P5.out.drew.stay.desk.amend (by have := hn40.out; omega) e0 id ((d.earlier.length : Int) + 1) d.trees At1 ct1 HID.out HBK.out P5.out.drew.trees HCT.out) (fun e w' ho => (show e = .returned (.tuple #[.int .i64 0, .int .i64 10]) ∧ Pack w0 w' (w3.heap.size + 1) w3.heap.size _ dp mb D1 _ _ _ _ from by have := P5.out.drew.op ho; rw [E3.out] at this; exact this))).mono ?_; rintro e w6 ⟨rfl, hP⟩; have P6 := Aside0.mk hP; have S6 := Aside0.mk (pack_cells hP HX0.out); clear hP))
    go_wp2
    have S7 := Aside0.mk (pack_cells (P6.out.drew) HX0.out)
    go_region_held3 (fun w' => w'.cell? ad = some (.string e0) ∧ w'.cell? ⟨w3.heap.size, 1, none⟩ = some (.int .i64 ((d.earlier.length : Int) + 1)) ∧ w'.cell? ⟨w3.heap.size, 3, none⟩ = some (.slice At1 d.trees.length ct1))
      (first
        | (with_reducible exact S7.out)
        | (with_reducible exact S8.out))
      (first | (go_at_call 30; refine (Calls.mono (P6.out.drew.stay.desk.approve (by have := hn40.out; omega) e0 id ((d.earlier.length : Int) + 1) HID.out) (fun e w' ho => (show e = .returned (.int .i64 10) ∧ Pack w0 w' (w3.heap.size + 1) w3.heap.size _ dp mb D1 _ _ _ _ from by have := P6.out.drew.op ho; rw [E4.out] at this; exact this))).mono ?_; rintro e w7 ⟨rfl, hP⟩; have P7 := Aside0.mk hP; have S8 := Aside0.mk (pack_cells hP HX0.out); clear hP))
    go_wp2_with (first | (go_at_call 13; refine (P7.out.stay.desk.drafts).mono ?_; rintro e w8 ⟨v, rfl, hR, hB⟩; rw [HLS.out] at hR; obtain ⟨An, cn, rfl⟩ := Kd.R_slice hR; have HR8 := Aside0.mk (Kd.R_reads' hR); have P8 := Aside0.mk (P7.out.step hB); have hlf : ls.length ≤ 256 := (by obtain ⟨_, tag, sb, hD, _⟩ := P7.out.stay.desk; have h1 := D1.opensTo_len D1.drafts.length; rw [HLS.out] at h1; have := hD.few; omega); clear hR hB))
    go_loopw [17] (fun i w' => ∃ x : Int, i = .int .i64 x ∧ 0 ≤ x ∧ x ≤ ls.length ∧ Drawn0 w8 w') (fun i _ => ls.length - (intOf i).toNat)
    case atStart => exact ⟨0, rfl, Int.le_refl _, Int.natCast_nonneg _, Drawn0.refl _⟩
    case round =>
      obtain ⟨x, rfl, hx, hk, ⟨m, rfl⟩⟩ := hrel
      by_cases hlt : x < ls.length
      · obtain ⟨ad2, e2, hx2⟩ := Kd.at_int HR8.out.2.2 x hx hlt
        cases e2
        have p2 := eq_true hx
        have q2 := eq_true hlt
        have t2 : (rd ls x == id) = false := beq_eq_false_iff_ne.mpr (E7.out _ (rd_int_mem ls x hx hlt))
        go_wp2
        go_roundw
        case rel => exact ⟨x + 1, rfl, by omega, by omega, ⟨_, rfl⟩⟩
        case measure => simp [intOf]; omega
      · have b1 := (pack_cells (P8.out.step (pw_below_drewN (Below.refl _ _) m)) HX0.out).2.1
        go_wp2_with (first
          | (go_at_call 17; refine (Calls.mono ((P8.out.step (pw_below_drewN (Below.refl _ _) m)).stay.desk.ready (by have := hn40.out; omega) id ((d.earlier.length : Int) + 1) HID.out) (fun e w' ho => (show e = .returned (.int .i64 10) ∧ Drawn0 _ w' from by rw [E5.out] at ho; exact ho))).mono ?_; rintro e w' ⟨rfl, ⟨m2, rfl⟩⟩)
          | (go_at_call 29; refine (Calls.mono ((P8.out.step (pw_below_drewN (Below.refl _ _) _)).stay.desk.close id HID.out) (fun e w' ho => (show e = .returned (.int .i64 10) ∧ Pack w0 w' (w3.heap.size + 1) w3.heap.size _ dp mb D1 _ _ _ _ from by have := (P8.out.step (pw_below_drewN (Below.refl _ _) _)).op ho; rw [E6.out] at this; exact this))).mono ?_; rintro e w9 ⟨rfl, hP⟩; have P9 := Aside0.mk hP; clear hP))
        go_ret
        exact ⟨rfl, P9.out.stay.below⟩
end Go.Proofs.Ytkblcdpmdbofgaa.A
/- SessionCloses: the whole walk. -/
namespace Go.Proofs.Ytkblcdpmdbofgaa.A
open Go.RowKit Go.Proofs.YtkblcdpmdbofgaaW.PrintWords Go.Proofs.YtkblcdpmdbofgaaW.PrintLast Go.Proofs.YtkblcdpmdbofgaaW.PrintMore
set_option linter.unusedVariables false
set_option linter.unusedSimpArgs false

theorem closes_walk (w0 : World) (A : Option Addr) (c : Nat) (l : List ByteArray) (needed : Int) (Ao : Option Addr) (co : Nat) (ops : List S35) (id : Int) (hid : (Lit.int .i64 id).wf = true)
    (hr : Kd.string.C w0 A l.length l) (hcp : l.length ≤ c) (hsz : ∀ x ∈ l, x.size ≤ 2000000) (hro : k35.C w0 Ao ops.length ops) (hco : ops.length ≤ co) (hlo : ops.length ≤ 2000000) (hok : ∀ x ∈ ops, opOk x) :
    Calls Try.prog 8 #[.slice A l.length c, .int .i64 needed, .slice Ao ops.length co, .int .i64 id] w0 fun e w' => e = .returned (.bool true) ∧ Below w0.heap.size w0 w' := by
  cases hc : (canNew l needed && fewS ops) with
  | false => exact closes_nil w0 A c l needed Ao co ops id hr hcp hsz hro hco hlo hok hc
  | true =>
    cases hg : (Dk.run ⟨l, needed, []⟩ ops).get id with
    | none => exact closes_none w0 A c l needed Ao co ops id hid hr hcp hsz hro hco hlo hok hc hg
    | some d =>
      have heds := (run_needed ⟨l, needed, []⟩ ops).2
      have hno : noticeS d.trees = true := run_notices (D := ⟨l, needed, []⟩) (fun d hd => by simp at hd) ops d (Dk.get_mem hg)
      by_cases hcl : d.closed = true
      · refine closes_some w0 A c l needed Ao co ops id hid hr hcp hsz hro hco hlo hok hc _ (Dk.run ⟨l, needed, []⟩ ops) rfl d d hg 10 ?_ (.inl ⟨hcl, rfl⟩) hg hcl heds hno
        exact closed_close hg hcl
      · refine closes_some w0 A c l needed Ao co ops id hid hr hcp hsz hro hco hlo hok hc _ ((Dk.run ⟨l, needed, []⟩ ops).put (id - 1).toNat { d with closed := true }) rfl d { d with closed := true } hg 0 ?_ (.inr ⟨by simpa using hcl, rfl⟩) ?_ rfl heds hno
        · unfold Dk.close
          rw [hg]
          simp only
          rw [if_neg hcl]
        · rw [get_put hg, if_pos rfl]
end Go.Proofs.Ytkblcdpmdbofgaa.A
/- The law SessionCloses returns true for every list of editors, every number, every list of operations and every draft, and leaves its arguments as they were: where the arguments are of bulk at most 1048576 (the second form of the statement, SessionClosesUptoSaid). -/
namespace Go.Proofs.Ytkblcdpmdbofgaa.sessionCloses
open Go.ChangeShapes Go.WideShapes Go.ChangeAt Go.RowKit
open Go.Proofs.Ytkblcdpmdbofgaa.A
set_option linter.unusedVariables false
theorem own : ownKnob Try.prog.godebug = none := by kernel_rfl
theorem laidOut : laidOutB Try.prog = true := by kernel_rfl
set_option maxRecDepth 100000 in
theorem contract (H : Type) (enc : TypeId × Value → H) (W : World) (base : Nat) (args : Array Value) (ds gs : List (DataW H)) (before : List MemPlace)
    (hval : ∀ (j : Nat) t v, Try.f8.params[j]? = some t → args[j]? = some v → Value.okWide Try.prog W .any base t v)
    (hW : DataW.Whole enc Try.prog Try.f8.params.toList Rows.sessionClosesSpec.vars false W args.toList ds gs before) (hk : Rows.uptoSmall H (ds ++ gs) = true) :
    Calls Try.prog 8 args W fun e W' => ∃ v, e = .returned v ∧ Rows.sessionClosesSpec.post enc Try.prog Try.f8 false true false false W args v W' := by
  have hW' := hW
  obtain ⟨p, q, hA0, hV, rfl, hfz, hnd⟩ := hW
  have hA : DataW.TrodAll enc Try.prog W 0 (fun _ => true) true Try.f8.params.toList args.toList ds p := hA0
  rw [Try.params8] at hA hval
  obtain ⟨v0, vs0, d0, ds0, p0, q0, hargs, rfl, rfl, h0, r0⟩ := trodAll_cons hA
  obtain ⟨v1, vs1, d1, ds1, p1, q1, rfl, rfl, rfl, h1, r1⟩ := trodAll_cons r0
  obtain ⟨v2, vs2, d2, ds2, p2, q2, rfl, rfl, rfl, h2, r2⟩ := trodAll_cons r1
  obtain ⟨v3, vs3, d3, ds3, p3, q3, rfl, rfl, rfl, h3, r3⟩ := trodAll_cons r2
  obtain ⟨rfl, rfl, rfl⟩ := trodAll_nil r3
  obtain rfl : args = #[v0, v1, v2, v3] := by cases args; simp_all
  obtain ⟨rfl, rfl⟩ := trodVars_none hV
  have hsm : Rows.uptoBulk d0 + Rows.uptoBulk d1 + Rows.uptoBulk d2 + Rows.uptoBulk d3 ≤ 1048576 := by
    have := of_decide_eq_true hk
    simp only [List.append_nil, Rows.uptoBulkAll] at this
    omega
  simp only [List.append_nil] at hW'
  have k0 := h0
  have lt0 : ∀ x ∈ p0, x.block < W.heap.size := by obtain ⟨m, hm⟩ := k0; exact DataW.trod_lt m _ _ _ hm
  obtain ⟨A0, len0, c0, rfl⟩ := okWide_slice Try.underlying22 (hval 0 22 v0 rfl rfl)
  obtain ⟨fuel0, hf0⟩ := h0
  obtain ⟨A0', x0, c0', hcs0, hl0, hC0, hb0⟩ := open_strsC hf0
  simp [Value.cells] at hcs0
  obtain ⟨rfl, rfl, rfl⟩ := hcs0
  have hbk0 : sumOf (fun s : ByteArray => s.size + 1) x0 + 1 ≤ Rows.uptoBulk d0 := hb0
  have sm0 := strs_small (n := Rows.uptoBulk d0) hbk0 (by omega)
  obtain ⟨x1, rfl, rfl, rfl, w1⟩ := open_int Try.underlying3 (hval 1 3 v1 rfl rfl) h1
  have k2 := h2
  have lt2 : ∀ x ∈ p2, x.block < W.heap.size := by obtain ⟨m, hm⟩ := k2; exact DataW.trod_lt m _ _ _ hm
  obtain ⟨A2, len2, c2, rfl⟩ := okWide_slice Try.underlying31 (hval 2 31 v2 rfl rfl)
  obtain ⟨fuel2, hf2⟩ := h2
  obtain ⟨A2', x2, c2', hcs2, hl2, hC2, hw2, hb2⟩ := open_opsC hf2
  simp [Value.cells] at hcs2
  obtain ⟨rfl, rfl, rfl⟩ := hcs2
  have hbk2 : sumOf (fun y : S35 => y.f1.size + Go.Proofs.Ytkblcdpmdbofgaa.A.bulkL y.f4 + 1) x2 + 1 ≤ Rows.uptoBulk d2 := hb2
  have sm2 := ops_small hw2 (n := Rows.uptoBulk d2) hbk2 (by omega)
  obtain ⟨x3, rfl, rfl, rfl, w3⟩ := open_int Try.underlying3 (hval 3 3 v3 rfl rfl) h3
  refine (closes_walk W A0 c0 x0 x1 A2 c2 x2 x3 w3 hC0 hl0 sm0.1 hC2 hl2 sm2.2 sm2.1).mono fun e W' ⟨he, bel⟩ => ?_
  subst he
  exact ⟨_, rfl, _, _, _, [], _, [], hW', trodAll_mk1 (shut_bool Try.underlying4 _), (trodAll_cons_mk (Below.trod laidOut (by kernel_rfl) (of_decide_eq_true (by kernel_rfl)) k0 bel lt0) (trodAll_cons_mk (shut_int Try.underlying3 w1) (trodAll_cons_mk (Below.trod laidOut (by kernel_rfl) (of_decide_eq_true (by kernel_rfl)) k2 bel lt2) (trodAll_cons_mk (shut_int Try.underlying3 w3) trodAll_mk0)))), rfl, bel.frame _, fun h => by cases h⟩

set_option maxRecDepth 100000 in
theorem lifted (os : Os) (started : os.Started) (H : Type) (enc : TypeId × Value → H) (F : Stop.Interp) :
    ReturnsInHanded {} Try.checked os 8 .any ((Rows.OpenSpec.upto Rows.sessionClosesSpec).pre6 enc Try.prog Try.f8 Rows.sessionClosesUptoRow.domain false) (((Rows.OpenSpec.upto Rows.sessionClosesSpec).at F).post enc Try.prog Try.f8 false true false false) := by
  refine returnsInHanded_of_cond (C := Try.checked) (s := Rows.OpenSpec.upto Rows.sessionClosesSpec) (k := Rows.uptoSmall) rfl own started (by kernel_rfl) Try.func8
    (OpenSpec.witness (enc := enc) (C := Try.checked) (s := Rows.OpenSpec.upto Rows.sessionClosesSpec) (k := Rows.uptoSmall) rfl false ⟨#[], #[.slice none 0 0, .int .i64 0, .slice none 0 0, .int .i64 0], []⟩ 8 (by kernel_rfl) (by kernel_rfl) (by kernel_rfl)
      (x := ([.nil, .lit (.int .i64 0), .nil, .lit (.int .i64 0)], [], [])) (by kernel_rfl) rfl (by kernel_rfl)) ?_
  intro W base args ds gs before hval hW _ hk _
  exact contract H enc W base args ds gs before hval hW hk

theorem over : Rows.sessionClosesUptoRow.holds Try.pinned (Rows.OpenSpec.upto Rows.sessionClosesSpec) :=
  OpenClaim.holds_of_cond 8 Try.f8 rfl rfl rfl rfl rfl rfl rfl ⟨rfl, rfl, rfl, rfl, rfl⟩ rfl rfl rfl rfl rfl (by kernel_rfl) Try.func8 (by kernel_rfl)
    (of_decide_eq_true (by kernel_rfl)) (by unfold Func.isWrapper; first | (rw [if_pos (by decide +kernel)]; kernel_rfl) | (rw [if_neg (by decide +kernel)]; exact ⟨rfl, rfl⟩))
    (fun os started H enc _ F => lifted os started H enc F)

theorem proved : Rows.SessionClosesUptoSaid := over
end Go.Proofs.Ytkblcdpmdbofgaa.sessionCloses
namespace Go.Proofs.Ytkblcdpmdbofgaa
/-- The row, under a short name, for the claim. -/
theorem sessionCloses_upto : Rows.SessionClosesUptoSaid := sessionCloses.proved
end Go.Proofs.Ytkblcdpmdbofgaa
