/- (*Desk).Approve. -/
import Derived.Test.YtkblcdpmdbofgaaB10
namespace Go.Proofs.Ytkblcdpmdbofgaa.A
open Go.RowKit Go.Proofs.YtkblcdpmdbofgaaW.PrintWords Go.Proofs.YtkblcdpmdbofgaaW.PrintLast Go.Proofs.YtkblcdpmdbofgaaW.PrintMore
set_option linter.unusedVariables false
set_option linter.unusedSimpArgs false

/-- The tags behind an operation: the new blocks have one tag. -/
def newTag (w : World) (tag : Nat → Nat) (t : Nat) (k : Nat) : Nat := if k < w.heap.size then tag k else t
theorem newTag_old {w : World} {tag : Nat → Nat} {t k : Nat} (h : k < w.heap.size) : newTag w tag t k = tag k := if_pos h
theorem newTag_new {w : World} {tag : Nat → Nat} {t k : Nat} (h : w.heap.size ≤ k) : newTag w tag t k = t := if_neg (by omega)
theorem DeskAt.wrote {w w1 : World} {tag : Nat → Nat} {dp mb : Nat} {sb : List Nat} {D : Dk} (h : DeskAt w tag dp mb sb D) (i g : Nat) (d1 : Dr) (hg : sb[i]? = some g) (hk : Kp w w1 (fun k => tag k = i + 3))
    (tag1 : Nat → Nat) (ht : ∀ k, k < w.heap.size → tag1 k = tag k) (hd : DraftAt w1 tag1 i g d1) : DeskAt w1 tag1 dp mb sb (D.put i d1) ∧ Kp w w1 (fun k => 2 ≤ tag k) :=
  ⟨h.update i g d1 hg (fun k hlt _ hne => hk.block k hlt hne) ht hd, hk.mono (fun k hk => by omega)⟩
theorem Kp.drop {w w1 : World} {S : Nat → Prop} (h : Kp w w1 S) {T : Nat → Prop} (hs : ∀ k, k < w.heap.size → S k → T k) : Kp w w1 T :=
  ⟨h.os, h.tape, h.output, h.size, fun k hk hn => h.block k hk (fun hS => hn (hs k hk hS))⟩

theorem approvals_row {w : World} {tag : Nat → Nat} {i g : Nat} {d : Dr} (h : DraftAt w tag i g d) : ∃ vp, w.cell? ⟨g, 3, none⟩ = some vp ∧ Row Kd.string 9 w (fun _ => False) vp d.approvals := by
  obtain ⟨At, ct, ve, vp, hb, hc, hF, hE, hP, htg, hve, hvp⟩ := h
  have := blk_cell hb 3
  simp at this
  exact ⟨vp, this, hP⟩

/-- A draft behind an appended approval. -/
theorem DraftAt.approved {w W w1 : World} {tag : Nat → Nat} {i g : Nat} {d : Dr} {vp v1 : Value} {x : ByteArray} (h : DraftAt w tag i g d) (hvp : w.cell? ⟨g, 3, none⟩ = some vp) (hB : Below w.heap.size w W)
    (hN : Row Kd.string 9 w1 (fun _ => False) v1 (d.approvals ++ [x])) (hG : W.grownBy w1 vp.ownBlock) (hat : v1.ownBlock = vp.ownBlock ∨ ∃ b, v1.ownBlock = some b ∧ W.heap.size ≤ b) :
    DraftAt (w1.setCell ⟨g, 3, none⟩ v1) (newTag w tag (i + 3)) i g { d with approvals := d.approvals ++ [x] } ∧ Kp w (w1.setCell ⟨g, 3, none⟩ v1) (fun k => tag k = i + 3) ∧ (∃ cells, w1.heap[g]? = some (.cells cells 79 (0, 0)) ∧ w1.cell? ⟨g, 3, none⟩ = some vp) := by
  obtain ⟨At, ct, ve, vp', hb, hc, hF, hE, hP, htg, hve, hvp'⟩ := h
  have e3 := blk_cell hb 3
  simp at e3
  rw [hvp] at e3
  injection e3 with e3
  subst e3
  have hgl := blk_lt hb
  have hng : vp.ownBlock ≠ some g := hP.ne hb (by decide)
  have hKB : Kp w W (fun _ => False) := Kp.of_below hB _
  have hK0 : Kp w w1 (fun k => vp.ownBlock = some k) := (hKB.mono (fun _ h => h.elim)).then_ (Kp.of_grown hG) (fun k hk => .inl hk)
  have hb1 : w1.heap[g]? = some (.cells #[.string d.author, .slice At d.trees.length ct, ve, vp, .bool d.closed] 79 (0, 0)) := hK0.blk hb hng
  have hK1 : Kp w (w1.setCell ⟨g, 3, none⟩ v1) (fun k => tag k = i + 3) := by
    refine (hK0.mono (fun k hk => hvp' k hk)).then_ (Kp.setCell w1 ⟨g, 3, none⟩ v1) (fun k hk => .inl ?_)
    rw [hk]; exact htg
  have far : ∀ k, k < w.heap.size → k ≠ g → vp.ownBlock ≠ some k → (w1.setCell ⟨g, 3, none⟩ v1).heap[k]? = w.heap[k]? := fun k hk h1 h2 =>
    (Below.heap_setCell w1 ⟨g, 3, none⟩ v1 k h1).trans (hK0.block k hk h2)
  have hv1 : v1.ownBlock ≠ some g := hN.ne hb1 (by decide)
  refine ⟨⟨At, ct, ve, v1, ?_, hc, ?_, ?_, ?_, (newTag_old hgl).trans htg, fun k hk => (newTag_old (hE.lt k hk)).trans (hve k hk), fun k hk => ?_⟩, hK1, _, hb1, ?_⟩
  · have := blk_set hb1 3 v1
    simpa using this
  · refine Kd.F_mono (Kd.F_step (Kd.F_bound hF) (fun k hk _ => far k hk.2 (fun e => ?_) (fun e => ?_))) (fun k hk => (newTag_old hk.2).trans hk.1)
    · have := hk.1; rw [e, htg] at this; omega
    · have := hk.1; rw [hvp' k e] at this; omega
  · refine (hE.bound.step (fun k hk => far k (hE.lt k hk) (fun e => hE.ne hb (by decide) (e ▸ hk)) (fun e => ?_)) (fun k hk _ => far k hk.2 (fun e => ?_) (fun e => ?_))).mono (fun k hk => (newTag_old hk.2).trans hk.1)
    · obtain ⟨c1, h1⟩ := hE.typed k hk
      obtain ⟨c2, h2⟩ := hP.typed k e
      exact blk_ne h1 h2 (by decide) rfl
    · have := hk.1; rw [e, htg] at this; omega
    · have := hk.1; rw [hvp' k e] at this; omega
  · exact hN.step (fun k hk => Below.heap_setCell w1 ⟨g, 3, none⟩ v1 k (fun e => hv1 (by rw [hk, e]))) (fun k hk _ => hk.elim)
  · rcases hat with he | ⟨b, he, hb'⟩
    · rw [he] at hk
      exact (newTag_old (hP.lt k hk)).trans (hvp' k hk)
    · rw [he] at hk
      injection hk with hk
      subst hk
      exact newTag_new (Nat.le_trans hB.size hb')
  · rw [blk_cell hb1 3]; rfl

def Dk.approve (D : Dk) (ed : ByteArray) (id num : Int) : Int × Dk :=
  if memS D.eds ed = false then (1, D) else if D.cur id num ≠ 0 then (D.cur id num, D) else match D.get id with
    | none => (4, D)
    | some d => if d.author.toList = ed.toList then (10, D) else if memS d.approvals ed = true then (5, D) else (0, D.put (id - 1).toNat { d with approvals := d.approvals ++ [ed] })

theorem Kp.drewN (w : World) (n : Nat) (S : Nat → Prop) : Kp w (w.drewN n) S := Kp.of_below (pw_below_drewN (Below.refl _ _) n) S
theorem Row.slice1 {α : Type} {d : Kd α} {e : Nat} {w : World} {inn : Nat → Prop} {v : Value} {xs : List α} {x : α} (h : Row d e w inn v (xs ++ [x])) : ∃ A c, v = .slice A (xs.length + 1) c := by
  obtain ⟨A, c, he⟩ := h.slice
  exact ⟨A, c, by rw [he]; simp⟩
theorem FK_str (W : World) (inn : Nat → Prop) (x : ByteArray) : Kd.FK Kd.string W inn x [.string x] := fun _ _ => rfl

set_option maxHeartbeats 1000000 in
set_option maxRecDepth 100000 in
theorem approve_ok (w : World) (tag : Nat → Nat) (dp mb : Nat) (sb : List Nat) (D : Dk) (h : DeskAt w tag dp mb sb D) (hok : D.ok) (ed : ByteArray) (i g : Nat) (d : Dr) (num : Int) (hid : (Lit.int .i64 ((i : Int) + 1)).wf = true)
    (hm : memS D.eds ed = true) (hcur : D.cur ((i : Int) + 1) num = 0) (hs : sb[i]? = some g) (hd : D.drafts[i]? = some d) (hp : ptrOf sb ((i : Int) + 1) = some ⟨g, 0, none⟩)
    (ha : (d.author.toList == ed.toList) = false) (hap : memS d.approvals ed = false) (hn : d.approvals.length ≤ 90000) :
    Calls Try.prog 30 #[.pointer (some ⟨dp, 0, none⟩), .string ed, .int .i64 ((i : Int) + 1), .int .i64 num] w (Tell w tag dp mb sb (.int .i64 0) (D.put i { d with approvals := d.approvals ++ [ed] })) := by
  obtain ⟨Ae, ce, hbk, hce, hF⟩ := h.desk
  have c0 := blk_cell hbk 0
  simp at c0
  have C1 := Aside0.mk (contains_calls Ae ce D.eds ed w (by have := hok.1; omega) (Kd.F_now hF) hce)
  rw [hm] at C1
  have C2 := Aside0.mk (fun (W : World) (hW : Below w.heap.size w W) => current_calls W tag dp mb sb D (h.below hW) hok ((i : Int) + 1) num hid)
  rw [hcur, hp, if_pos rfl] at C2
  have hda := h.drafts i g d hs hd
  obtain ⟨At, ct, ve, vp, hb, _, _, _, hP, htg, _, hvp⟩ := hda
  obtain ⟨Ap, cp, rfl⟩ := hP.slice
  have d0 := blk_cell hb 0
  have d3 := blk_cell hb 3
  simp at d0 d3
  have C3 := Aside0.mk (fun (W : World) (hW : Below w.heap.size w W) => contains_calls Ap cp d.approvals ed W (by omega) (Kd.C_below hP.reads'.2.2 hW) hP.reads'.2.1)
  rw [hap] at C3
  have HP := Aside0.mk (fun (W : World) (hW : Below w.heap.size w W) => hP.step (w1 := W) (fun k hk => hW.block k (hP.lt k hk)) (fun k hk => hk.elim))
  have HL : Aside0 ((d.approvals.length + 1) * 16 ≤ 140737488355328) := ⟨by omega⟩
  have HDA := Aside0.mk (h.drafts i g d hs hd)
  have HW := Aside0.mk (fun (w1 : World) => h.wrote (w1 := w1) i g { d with approvals := d.approvals ++ [ed] } hs)
  clear h hok hid hm hcur hs hd hp hap hn hbk hce hF hb hP htg hvp
  go_enter Try.func30, Try.ntmps30
  go_wp2_with (first
    | (go_at_call 37; refine (C2.out _ (pw_below_drewN (Below.refl _ _) _)).mono ?_; rintro e w1 ⟨rfl, rfl⟩)
    | (go_at_call 34; first
        | (refine C1.out.mono ?_; rintro e w1 ⟨rfl, ⟨n, rfl⟩⟩)
        | (refine (C3.out _ (pw_below_drewN (Below.refl _ _) _)).mono ?_; rintro e w1 ⟨rfl, ⟨m, rfl⟩⟩))
    | (at_builtin; refine Row.append Kd.string rfl _ _ 22 9 (.string ⟨#[]⟩) 16 rfl Try.underlying22 info9 rfl (by decide) (by decide) (.slice Ap d.approvals.length cp) d.approvals ed [.string ed] (fun _ => False) rfl rfl (FK_str _ _ _) (fun _ hk => hk.elim) (HP.out _ (pw_below_drewN (Below.refl _ _) _)) HL.out ?_; intro v1 w1 hN hG hat; obtain ⟨A1, c1, rfl⟩ := hN.slice1; have H1 := Aside0.mk (HDA.out.approved d3 (pw_below_drewN (Below.refl _ _) _) hN hG hat); have q3 := H1.out.2.2; obtain ⟨cc, hcc, q3⟩ := q3; have f3 := blk_frozen hcc 3; clear hN hG hat hcc))

  go_ret
  have := HW.out _ H1.out.2.1 _ (fun k hk => newTag_old hk) H1.out.1
  exact ⟨rfl, _, fun k hk => newTag_old hk, this.1, this.2⟩
end Go.Proofs.Ytkblcdpmdbofgaa.A
