/- A desk in memory: what is kept, rows whose elements are only read, the map of drafts. -/
import Derived.Test.YtkblcdpmdbofgaaB0
import Derived.Maps.OwnSet
namespace Go.Proofs.Ytkblcdpmdbofgaa.A
open Go.RowKit Go.Proofs.YtkblcdpmdbofgaaW.PrintWords Go.Proofs.YtkblcdpmdbofgaaW.PrintLast Go.Proofs.YtkblcdpmdbofgaaW.PrintMore
set_option linter.unusedVariables false
set_option linter.unusedSimpArgs false

/-! ### what is kept -/
/-- w' is w, but for the blocks of S and what is new. -/
structure Kp (w w' : World) (S : Nat → Prop) : Prop where
  os : w'.os = w.os
  tape : w'.tape = w.tape
  output : w'.output = w.output
  size : w.heap.size ≤ w'.heap.size
  block : ∀ k, k < w.heap.size → ¬ S k → w'.heap[k]? = w.heap[k]?
theorem Kp.refl (w : World) (S : Nat → Prop) : Kp w w S := ⟨rfl, rfl, rfl, Nat.le_refl _, fun _ _ _ => rfl⟩
theorem Kp.of_below {w w' : World} (h : Below w.heap.size w w') (S : Nat → Prop) : Kp w w' S := ⟨h.os, h.tape, h.output, h.size, fun k hk _ => h.block k hk⟩
theorem Kp.mono {w w' : World} {S S' : Nat → Prop} (h : Kp w w' S) (hs : ∀ k, S k → S' k) : Kp w w' S' := ⟨h.os, h.tape, h.output, h.size, fun k hk hn => h.block k hk (fun hq => hn (hs k hq))⟩
theorem Kp.then_ {w w1 w2 : World} {S S2 : Nat → Prop} (h : Kp w w1 S) (k : Kp w1 w2 S2) (hs : ∀ k, S2 k → S k ∨ w.heap.size ≤ k) : Kp w w2 S :=
  ⟨k.os.trans h.os, k.tape.trans h.tape, k.output.trans h.output, Nat.le_trans h.size k.size, fun i hi hn => (k.block i (Nat.lt_of_lt_of_le hi h.size) (fun h2 => (hs i h2).elim hn (fun h3 => by omega))).trans (h.block i hi hn)⟩
theorem Kp.below {w w1 w2 : World} {S : Nat → Prop} (h : Kp w w1 S) (hb : Below w1.heap.size w1 w2) : Kp w w2 S := h.then_ (Kp.of_below hb (fun _ => False)) (fun _ hk => hk.elim)
theorem Kp.of_grown {w w1 : World} {row : Option Nat} (hg : w.grownBy w1 row) : Kp w w1 (fun k => row = some k) := ⟨hg.os, hg.tape, hg.output, hg.size, fun k hk hn => hg.block k hk (fun e => hn e.symm)⟩
theorem Kp.setCell (w : World) (p : Addr) (u : Value) : Kp w (w.setCell p u) (fun k => k = p.block) := ⟨rfl, rfl, rfl, by simp [World.setCell], fun k _ hn => Below.heap_setCell w p u k hn⟩
theorem Kp.toBelow {w w' : World} {S : Nat → Prop} {B : Nat} (h : Kp w w' S) (hB : B ≤ w.heap.size) (hs : ∀ k, S k → B ≤ k) : Below B w w' :=
  ⟨h.os, h.tape, h.output, h.size, fun k hk => h.block k (Nat.lt_of_lt_of_le hk hB) (fun hq => by have := hs k hq; omega)⟩
theorem Kp.blk {w w' : World} {S : Nat → Prop} {g : Nat} {o : Obj} (h : w.heap[g]? = some o) (hk : Kp w w' S) (hn : ¬ S g) : w'.heap[g]? = some o := (hk.block g (blk_lt h) hn).trans h

/-! ### a row of one's own, its elements only read -/
def Row {α : Type} (d : Kd α) (e : Nat) (w : World) (inn : Nat → Prop) (v : Value) (xs : List α) : Prop :=
  ∃ rows : List (List Value), rows.length = xs.length ∧ (Kd.raw d.sz).R e w 0 (fun k => some k = v.ownBlock) v rows ∧ ∀ (j : Nat) (x : α) (c : List Value), xs[j]? = some x → rows[j]? = some c → Kd.FK d w inn x c
section
variable {α : Type} {d : Kd α} {e : Nat} {w w1 W : World} {inn inn' ok : Nat → Prop} {v : Value} {xs : List α}
theorem Row.of_N {base : Nat} (h : Kd.N d e w base ok v xs) (hok : ∀ k, ok k → inn k) : Row d e w inn v xs := by
  obtain ⟨h0, rows, hl, hR, hf⟩ := h
  exact ⟨rows, hl, Kd.R_lower hR (Nat.zero_le _), fun j x c hx hc => Kd.FK_mono (hf j x c hx hc) (fun k hk => hok k hk.1)⟩
theorem Row.of_R {base : Nat} (h : d.R e w base ok v xs) (hok : ∀ k, ok k → inn k) : Row d e w inn v xs := Row.of_N (Kd.R_N h) hok
theorem Row.nil (d : Kd α) (e : Nat) (w : World) (inn : Nat → Prop) : Row d e w inn (.slice none 0 0) [] := ⟨[], rfl, Kd.R_nil _ _ _ _ _, fun _ _ _ h => by simp at h⟩
theorem Row.mono (h : Row d e w inn v xs) (hi : ∀ k, inn k → inn' k) : Row d e w inn' v xs := by
  obtain ⟨rows, hl, hR, hf⟩ := h
  exact ⟨rows, hl, hR, fun j x c hx hc => Kd.FK_mono (hf j x c hx hc) hi⟩
theorem Row.step (h : Row d e w inn v xs) (ho : ∀ k, v.ownBlock = some k → w1.heap[k]? = w.heap[k]?) (hi : ∀ k, inn k → k < w.heap.size → w1.heap[k]? = w.heap[k]?) : Row d e w1 inn v xs := by
  obtain ⟨rows, hl, hR, hf⟩ := h
  exact ⟨rows, hl, Kd.R_step hR (fun k hk _ => ho k hk.symm), fun j x c hx hc => Kd.FK_step (hf j x c hx hc) hi⟩
theorem Row.lt (h : Row d e w inn v xs) : ∀ k, v.ownBlock = some k → k < w.heap.size := by
  obtain ⟨rows, hl, hR, hf⟩ := h
  exact Kd.R_lt hR
theorem Row.typed (h : Row d e w inn v xs) : ∀ k, v.ownBlock = some k → ∃ cells, w.heap[k]? = some (.cells cells e (0, 0)) := by
  obtain ⟨rows, hl, hR, hf⟩ := h
  exact Kd.R_typed hR
theorem Row.bound (h : Row d e w inn v xs) : Row d e w (fun k => inn k ∧ k < w.heap.size) v xs := by
  obtain ⟨rows, hl, hR, hf⟩ := h
  exact ⟨rows, hl, hR, fun j x c hx hc => Kd.FK_bound (hf j x c hx hc)⟩
theorem Row.slice (h : Row d e w inn v xs) : ∃ A c, v = .slice A xs.length c := by
  obtain ⟨rows, hl, hR, _⟩ := h
  obtain ⟨A, c, he⟩ := Kd.R_slice hR
  exact ⟨A, c, by rw [he, hl]⟩
theorem Row.reads' {A : Option Addr} {n c : Nat} (h : Row d e w inn (.slice A n c) xs) : n = xs.length ∧ n ≤ c ∧ d.C w A xs.length xs := by
  obtain ⟨rows, hl, hR, hf⟩ := h
  obtain ⟨hn, hc, hC⟩ := Kd.R_reads' hR
  refine ⟨by omega, hc, ?_⟩
  rw [hl] at hC
  refine ⟨rfl, hC.2.1, fun hp => ?_⟩
  obtain ⟨ad, he, hcell⟩ := hC.2.2 hp
  refine ⟨ad, he, fun j p hj => ?_⟩
  have hjl : j < rows.length := by have := (List.getElem?_eq_some_iff.1 hj).1; omega
  obtain ⟨c', hcl, hK, hcc⟩ := hcell j _ (List.getElem?_eq_getElem hjl)
  have hk := Kd.FK_now (hf j p _ hj (List.getElem?_eq_getElem hjl))
  refine ⟨c', hcl, ?_, hcc⟩
  rw [show c' = rows[j] from hK.1]
  exact hk
theorem Row.reads (h : Row d e w inn v xs) : ∃ A c, v = .slice A xs.length c ∧ xs.length ≤ c ∧ d.C w A xs.length xs := by
  obtain ⟨A, c, rfl⟩ := h.slice
  exact ⟨A, c, rfl, h.reads'.2⟩
/-- Behind an append of raw cells. -/
theorem Row.appended {rows : List (List Value)} {x : α} {c : List Value} {v1 : Value} (hl : rows.length = xs.length) (hf : ∀ (j : Nat) (x : α) (c : List Value), xs[j]? = some x → rows[j]? = some c → Kd.FK d W inn x c)
    (hx : Kd.FK d W inn x c) (hR : (Kd.raw d.sz).R e w1 0 (fun _ => True) v1 (rows ++ [c])) (hg : W.grownBy w1 v.ownBlock) (hin : ∀ k, inn k → some k ≠ v.ownBlock) : Row d e w1 inn v1 (xs ++ [x]) := by
  refine ⟨rows ++ [c], by simp [hl], Kd.raw_tight hR, fun j y c' hy hc => ?_⟩
  rcases Nat.lt_or_ge j xs.length with hj | hj
  · rw [List.getElem?_append_left hj] at hy
    rw [List.getElem?_append_left (by omega)] at hc
    exact Kd.FK_grown (hf j y c' hy hc) hg hin
  · rw [List.getElem?_append_right hj] at hy
    rw [List.getElem?_append_right (by omega)] at hc
    have h0 : j - xs.length = 0 := by
      have := (List.getElem?_eq_some_iff.1 hy).1
      simp at this
      omega
    rw [h0] at hy
    rw [hl, h0] at hc
    simp at hy hc
    subst hy
    subst hc
    exact Kd.FK_grown hx hg hin
end
section
variable {P : Program} {ops : Array Oper} {rest : List Oper} {o : Oper} {a : Act} {Q : Exit → Act → World → Prop} {Kc : Act → World → Prop} {α : Type}
/-- append(v, x) at the operation; the goal's world is 'W.alloc' of x's cells. -/
theorem Row.append (d : Kd α) {W : World} (hgd : o.guard = none) (s x : Operand) (t e : TypeId) (z : Value) (bytes : Nat)
    (ho : o.op = .call { callee := .builtin .append, args := #[s, x], argTypes := #[t, t] })
    (ht : P.underlying t = some (.slice e)) (hinfo : (P.info? e).map (fun i => (i.zero, i.size, i.bytes)) = some (some z, d.sz, bytes)) (hz : z.cells.size = d.sz) (hs0 : 0 < d.sz) (hb0 : 0 < bytes)
    (v : Value) (xs : List α) (p : α) (cs : List Value) (inn : Nat → Prop) (hs : a.eval s = v) (hx : a.eval x = .slice (some ⟨W.heap.size, 0, none⟩) 1 1) (hp : Kd.FK d W inn p cs) (hin : ∀ k, inn k → some k ≠ v.ownBlock)
    (HO : Row d e W inn v xs) (hl : (xs.length + 1) * bytes ≤ 140737488355328)
    (h : ∀ v1 w1, Row d e w1 inn v1 (xs ++ [p]) → W.grownBy w1 v.ownBlock → (v1.ownBlock = v.ownBlock ∨ ∃ b, v1.ownBlock = some b ∧ W.heap.size ≤ b) → wpList P ops Q rest (a.put o.dst v1) w1) :
    wpList P ops Q (o :: rest) a (W.alloc (.cells cs.toArray e)) := by
  obtain ⟨rows, hlr, hR, hf⟩ := HO
  refine Kd.R_append (Kd.raw d.sz) (w0 := W) 0 hgd s x t e z bytes ho ht hinfo hz hs0 hb0 v rows cs cs (fun _ => True) (fun _ => False) hs hx (Kd.FK_raw hp) (fun _ hk => hk.elim) (fun _ _ => trivial) (Kd.raw_any hR) (Below.refl 0 W) (Nat.zero_le _) (by rw [hlr]; exact hl) ?_
  intro v1 w1 hR1 _ hg hat
  exact h v1 w1 (Row.appended hlr hf hp hR1 hg hin) hg hat
/-- The same as a step of a region that draws its order. -/
theorem Row.append_step (d : Kd α) {W : World} (hw : Region.wanted o (yielded ops a.tmps) = true) (s x : Operand) (t e : TypeId) (z : Value) (bytes : Nat)
    (ho : o.op = .call { callee := .builtin .append, args := #[s, x], argTypes := #[t, t] })
    (ht : P.underlying t = some (.slice e)) (hinfo : (P.info? e).map (fun i => (i.zero, i.size, i.bytes)) = some (some z, d.sz, bytes)) (hz : z.cells.size = d.sz) (hs0 : 0 < d.sz) (hb0 : 0 < bytes)
    (v : Value) (xs : List α) (p : α) (cs : List Value) (inn : Nat → Prop) (hs : a.eval s = v) (hx : a.eval x = .slice (some ⟨W.heap.size, 0, none⟩) 1 1) (hp : Kd.FK d W inn p cs) (hin : ∀ k, inn k → some k ≠ v.ownBlock)
    (HO : Row d e W inn v xs) (hl : (xs.length + 1) * bytes ≤ 140737488355328)
    (h : ∀ v1 w1, Row d e w1 inn v1 (xs ++ [p]) → W.grownBy w1 v.ownBlock → (v1.ownBlock = v.ownBlock ∨ ∃ b, v1.ownBlock = some b ∧ W.heap.size ≤ b) → Kc (a.put o.dst v1) w1) :
    if Region.wanted o (yielded ops a.tmps) = true then Oper.wp P o a (W.alloc (.cells cs.toArray e)) Kc Q else Kc (a.put o.dst undef) (W.alloc (.cells cs.toArray e)) := by
  obtain ⟨rows, hlr, hR, hf⟩ := HO
  refine Kd.R_append_step (Kd.raw d.sz) (w0 := W) 0 hw s x t e z bytes ho ht hinfo hz hs0 hb0 v rows cs cs (fun _ => True) (fun _ => False) hs hx (Kd.FK_raw hp) (fun _ hk => hk.elim) (fun _ _ => trivial) (Kd.raw_any hR) (Below.refl 0 W) (Nat.zero_le _) (by rw [hlr]; exact hl) ?_
  intro v1 w1 hR1 _ hg hat
  exact h v1 w1 (Row.appended hlr hf hp hR1 hg hin) hg hat
end

/-! ### the map of drafts: number to block -/
def ptrR : Value → Option (DataW Unit × List MemPlace)
  | .pointer none => some (.lit (.int .i64 (-1)), [])
  | .pointer (some ⟨b, 0, none⟩) => some (.lit (.int .i64 (b : Int)), [])
  | _ => none
def ptrOf (sb : List Nat) (id : Int) : Option Addr := if 1 ≤ id ∧ id ≤ (sb.length : Int) then some ⟨sb.getD (id - 1).toNat 0, 0, none⟩ else none
def numOf : Option Addr → Int
  | none => -1
  | some a => (a.block : Int)
theorem ptrR_inv {v : Value} {q : Option Addr} {ps : List MemPlace} (hq : ∀ a, q = some a → a.off = 0 ∧ a.spot = none) (h : ptrR v = some (.lit (.int .i64 (numOf q)), ps)) : v = .pointer q := by
  cases v with
  | pointer p =>
    cases p with
    | none =>
      cases q with
      | none => rfl
      | some a => simp [ptrR, numOf] at h
    | some b =>
      obtain ⟨bb, bo, bs⟩ := b
      cases bo with
      | succ n => simp [ptrR] at h
      | zero =>
        cases bs with
        | some s => simp [ptrR] at h
        | none =>
          cases q with
          | none => simp [ptrR, numOf] at h
          | some a =>
            obtain ⟨ab, ao, as_⟩ := a
            obtain ⟨h1, h2⟩ := hq _ rfl
            simp only at h1 h2
            subst h1
            subst h2
            simp [ptrR, numOf] at h
            obtain ⟨h, _⟩ := h
            have : bb = ab := by omega
            rw [this]
  | _ => simp [ptrR] at h
theorem ptrOf_form (sb : List Nat) (id : Int) : ∀ a, ptrOf sb id = some a → a.off = 0 ∧ a.spot = none := by
  intro a h
  unfold ptrOf at h
  split at h
  · cases h; exact ⟨rfl, rfl⟩
  · cases h

theorem keyed3 : Maps.Keyed Try.prog 3 := Maps.int_keyed Try.underlying3
theorem zero80 (w : World) : (zeroValue 80).run Try.prog w = .ok (.pointer none) w := by kernel_rfl

/-- Block mb is the map of the numbers 1, 2, .. to the blocks sb. -/
def MapAt (w : World) (mb : Nat) (sb : List Nat) : Prop := ∃ D : DataW Unit, w.ownsMap Try.prog 3 ptrR mb sb.length D ∧ Maps.size D = sb.length ∧
  ∀ id : Int, (Lit.int .i64 id).wf = true → D.atKey (.int .i64 id) (.lit (.int .i64 (-1))) = .lit (.int .i64 (numOf (ptrOf sb id))) ∧ Maps.has D (.int .i64 id) = (ptrOf sb id).isSome
theorem MapAt.step {w w1 : World} {mb : Nat} {sb : List Nat} (h : MapAt w mb sb) (hm : w1.heap[mb]? = w.heap[mb]?) : MapAt w1 mb sb := by
  obtain ⟨D, ⟨es, clock, hb, F, hs, hD⟩, h2, h3⟩ := h
  exact ⟨D, ⟨es, clock, hm.trans hb, F, hs, hD⟩, h2, h3⟩
theorem MapAt.lt {w : World} {mb : Nat} {sb : List Nat} (h : MapAt w mb sb) : mb < w.heap.size := by
  obtain ⟨D, h1, _⟩ := h
  exact h1.lt
theorem MapAt.notCells {w : World} {mb : Nat} {sb : List Nat} (h : MapAt w mb sb) {g : Nat} {cs : Array Value} {e : TypeId} {fr : Nat × Nat} (hg : w.heap[g]? = some (.cells cs e fr)) : g ≠ mb := by
  obtain ⟨D, ⟨es, clock, hb, _⟩, _⟩ := h
  intro e
  subst e
  rw [hb] at hg
  cases hg
theorem MapAt.look {w : World} {mb : Nat} {sb : List Nat} (h : MapAt w mb sb) (id : Int) (hid : (Lit.int .i64 id).wf = true) :
    (Instr.lookup 73 (.map (some mb)) (.int .i64 id) false).run Try.prog w = .ok (.pointer (ptrOf sb id)) w := by
  obtain ⟨D, h1, _, h3⟩ := h
  obtain ⟨v, ps, hrun, hv⟩ := h1.lookup keyed3 Try.underlying73 (zero80 w) (zd := .lit (.int .i64 (-1))) (zp := []) rfl (Maps.keyOf_int_mk Try.underlying3 hid)
  rw [(h3 id hid).1] at hv
  rw [hrun, ptrR_inv (ptrOf_form sb id) hv]
theorem MapAt.len {w : World} {mb : Nat} {sb : List Nat} (h : MapAt w mb sb) (ty : TypeId) : (Builtin.len_ #[73] ty #[.map (some mb)]).run Try.prog w = .ok (.int .i64 (sb.length : Int)) w := by
  obtain ⟨D, h1, h2, _⟩ := h
  rw [h1.len Try.underlying73 ty, h2]
theorem MapAt.made (w : World) : MapAt (w.alloc (.map #[] 0)) w.heap.size [] := by
  refine ⟨.map [], World.ownsMap_made w Try.prog 3 ptrR, rfl, fun id _ => ⟨?_, ?_⟩⟩
  · have : ptrOf [] id = none := by unfold ptrOf; rw [if_neg (by simp; omega)]
    rw [this]; rfl
  · have : ptrOf [] id = none := by unfold ptrOf; rw [if_neg (by simp; omega)]
    rw [this]; rfl
theorem wf_i64 {x : Int} (h0 : -9223372036854775808 ≤ x) (h1 : x ≤ 9223372036854775807) : (Lit.int .i64 x).wf = true := WalkArith.wf_i64 ⟨h0, h1⟩
theorem MapAt.store {w : World} {mb g : Nat} {sb : List Nat} (h : MapAt w mb sb) (hn : sb.length < 1000000) :
    ∃ w', (Instr.mapUpdate 73 (.map (some mb)) (.int .i64 ((sb.length : Int) + 1)) (.pointer (some ⟨g, 0, none⟩))).run Try.prog w = .ok () w' ∧ MapAt w' mb (sb ++ [g]) ∧ w.grownBy w' (some mb) := by
  obtain ⟨D, h1, h2, h3⟩ := h
  have hw : (Lit.int .i64 ((sb.length : Int) + 1)).wf = true := wf_i64 (by omega) (by omega)
  obtain ⟨w', hrun, hown, hg⟩ := h1.update keyed3 Try.underlying73 (by unfold maxLen; omega) (Maps.keyOf_int_mk Try.underlying3 hw) (show ptrR (.pointer (some ⟨g, 0, none⟩)) = some (.lit (.int .i64 (g : Int)), []) from rfl)
  have hno : Maps.has D (.int .i64 ((sb.length : Int) + 1)) = false := by
    rw [(h3 _ hw).2]
    unfold ptrOf
    rw [if_neg (by omega)]; rfl
  refine ⟨w', hrun, ⟨D.put (.int .i64 ((sb.length : Int) + 1)) (.lit (.int .i64 (g : Int))), ?_, ?_, fun id hid => ?_⟩, hg⟩
  · rw [List.length_append]; exact hown
  · rw [Maps.size_put (h1.tidy keyed3), hno, h2]; simp
  · by_cases he : id = (sb.length : Int) + 1
    · subst he
      have hp : ptrOf (sb ++ [g]) ((sb.length : Int) + 1) = some ⟨g, 0, none⟩ := by
        unfold ptrOf
        rw [if_pos (by simp; omega)]
        have : ((sb.length : Int) + 1 - 1).toNat = sb.length := by omega
        rw [this, List.getD_eq_getElem?_getD, List.getElem?_append_right (Nat.le_refl _)]
        simp
      rw [hp]
      exact ⟨Maps.atKey_put_same h1.isMap (by trivial) _ _, Maps.has_put_same h1.isMap (by trivial) _⟩
    · have hne : (Lit.int .i64 id) ≠ Lit.int .i64 ((sb.length : Int) + 1) := by
        intro e; injection e with e1 e2; exact he e2
      have hp : ptrOf (sb ++ [g]) id = ptrOf sb id := by
        unfold ptrOf
        by_cases h4 : 1 ≤ id ∧ id ≤ (sb.length : Int)
        · rw [if_pos h4, if_pos (by simp; omega), List.getD_eq_getElem?_getD, List.getD_eq_getElem?_getD, List.getElem?_append_left (by omega)]
        · rw [if_neg h4, if_neg (by simp; omega)]
      rw [hp, Maps.atKey_put_other hne, Maps.has_put_other hne]
      exact h3 id hid
end Go.Proofs.Ytkblcdpmdbofgaa.A
