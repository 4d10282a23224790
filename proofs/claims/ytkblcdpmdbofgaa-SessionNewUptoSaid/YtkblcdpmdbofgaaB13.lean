/- (*Desk).Amend: the memory behind its stores. -/
import Derived.Test.YtkblcdpmdbofgaaB12
namespace Go.Proofs.Ytkblcdpmdbofgaa.A
open Go.RowKit Go.Proofs.YtkblcdpmdbofgaaW.PrintWords Go.Proofs.YtkblcdpmdbofgaaW.PrintLast Go.Proofs.YtkblcdpmdbofgaaW.PrintMore
set_option linter.unusedVariables false
set_option linter.unusedSimpArgs false

theorem info33 : (Try.prog.info? 33).map (fun i => (i.zero, i.size, i.bytes)) = some (some (.slice none 0 0), 1, 24) := by kernel_rfl

/-- What the walk of region 8 needs of a draft. -/
structure PreAm (w : World) (tag : Nat → Nat) (i g : Nat) (d : Dr) (At : Option Addr) (ct : Nat) (ve vp : Value) : Prop where
  blk : w.heap[g]? = some (.cells #[.string d.author, .slice At d.trees.length ct, ve, vp, .bool d.closed] 79 (0, 0))
  tagG : tag g = i + 3
  ct : d.trees.length ≤ ct
  trees : Kd.F k68 w (fun k => tag k = 1) At d.trees.length d.trees
  E : Row (Kd.slice 68 k68) 33 w (fun k => tag k = 1) ve d.earlier
  P : Row Kd.string 9 w (fun _ => False) vp d.approvals
  tagE : ∀ k, ve.ownBlock = some k → tag k = i + 3
  tagP : ∀ k, vp.ownBlock = some k → tag k = i + 3
theorem DraftAt.pre {w : World} {tag : Nat → Nat} {i g : Nat} {d : Dr} (h : DraftAt w tag i g d) : ∃ At ct Ae ce Ap cp, PreAm w tag i g d At ct (.slice Ae d.earlier.length ce) (.slice Ap d.approvals.length cp) := by
  obtain ⟨At, ct, ve, vp, hb, hc, hF, hE, hP, htg, hve, hvp⟩ := h
  obtain ⟨Ae, ce, rfl⟩ := hE.slice
  obtain ⟨Ap, cp, rfl⟩ := hP.slice
  exact ⟨At, ct, Ae, ce, Ap, cp, hb, htg, hc, hF, hE, hP, hve, hvp⟩
def In1 (w : World) (tag : Nat → Nat) (k : Nat) : Prop := tag k = 1 ∧ k < w.heap.size
/-- Ahead of the append. -/
theorem PreAm.ahead {w W : World} {tag : Nat → Nat} {i g : Nat} {d : Dr} {At : Option Addr} {ct : Nat} {ve vp : Value} (h : PreAm w tag i g d At ct ve vp) (hB : Below w.heap.size w W) :
    Row (Kd.slice 68 k68) 33 W (In1 w tag) ve d.earlier ∧ Kd.FK (Kd.slice 68 k68) W (In1 w tag) d.trees [.slice At d.trees.length ct] ∧ ∀ k, In1 w tag k → some k ≠ ve.ownBlock := by
  refine ⟨?_, ?_, fun k hk e => ?_⟩
  · exact h.E.bound.step (fun k hk => hB.block k (h.E.lt k hk)) (fun k hk _ => hB.block k hk.2)
  · exact Kd.FK_slice_mk h.ct (Kd.F_step (Kd.F_bound h.trees) (fun k hk _ => hB.block k hk.2))
  · have := h.tagE k e.symm
    have := hk.1
    omega
/-- Behind the append and its store. -/
structure MidAm (w w2 : World) (tag : Nat → Nat) (i g : Nat) (d : Dr) (At : Option Addr) (ct : Nat) (v1 vp : Value) : Prop where
  keep : Kp w w2 (fun k => tag k = i + 3)
  blk : w2.heap[g]? = some (.cells #[.string d.author, .slice At d.trees.length ct, v1, vp, .bool d.closed] 79 (0, 0))
  E : Row (Kd.slice 68 k68) 33 w2 (In1 w tag) v1 (d.earlier ++ [d.trees])
  own : ∀ k, v1.ownBlock = some k → (k < w.heap.size → tag k = i + 3) ∧ k < w2.heap.size
theorem PreAm.cell {w W w1 : World} {tag : Nat → Nat} {i g : Nat} {d : Dr} {At : Option Addr} {ct : Nat} {ve vp v1 : Value} (h : PreAm w tag i g d At ct ve vp) (hB : Below w.heap.size w W) (hG : W.grownBy w1 ve.ownBlock) :
    w1.heap[g]? = some (.cells #[.string d.author, .slice At d.trees.length ct, ve, vp, .bool d.closed] 79 (0, 0)) ∧ Kp w w1 (fun k => ve.ownBlock = some k) := by
  have hKB : Kp w W (fun _ => False) := Kp.of_below hB _
  have hK0 : Kp w w1 (fun k => ve.ownBlock = some k) := (hKB.mono (fun _ h => h.elim)).then_ (Kp.of_grown hG) (fun k hk => .inl hk)
  exact ⟨hK0.blk h.blk (h.E.ne h.blk (by decide)), hK0⟩
theorem PreAm.mid {w W w1 : World} {tag : Nat → Nat} {i g : Nat} {d : Dr} {At : Option Addr} {ct : Nat} {ve vp v1 : Value} (h : PreAm w tag i g d At ct ve vp) (hB : Below w.heap.size w W)
    (hN : Row (Kd.slice 68 k68) 33 w1 (In1 w tag) v1 (d.earlier ++ [d.trees])) (hG : W.grownBy w1 ve.ownBlock) (hat : v1.ownBlock = ve.ownBlock ∨ ∃ b, v1.ownBlock = some b ∧ W.heap.size ≤ b) :
    MidAm w (w1.setCell ⟨g, 2, none⟩ v1) tag i g d At ct v1 vp := by
  obtain ⟨hb1, hK0⟩ := h.cell hB (v1 := v1) hG
  have hgl := blk_lt h.blk
  refine ⟨(hK0.mono (fun k hk => h.tagE k hk)).then_ (Kp.setCell w1 ⟨g, 2, none⟩ v1) (fun k hk => .inl (by rw [hk]; exact h.tagG)), ?_, ?_, fun k hk => ?_⟩
  · have := blk_set hb1 2 v1
    simpa using this
  · have hv1 : v1.ownBlock ≠ some g := hN.ne hb1 (by decide)
    exact hN.step (fun k hk => Below.heap_setCell w1 ⟨g, 2, none⟩ v1 k (fun e => hv1 (by rw [hk, e]))) (fun k hk _ => Below.heap_setCell w1 ⟨g, 2, none⟩ v1 k (fun e => by have := hk.1; rw [e] at this; have := h.tagG; simp only at *; omega))
  · refine ⟨fun hlt => ?_, ?_⟩
    · rcases hat with he | ⟨b, he, hb'⟩
      · exact h.tagE k (he ▸ hk)
      · rw [he] at hk
        injection hk with hk
        have := hB.size
        omega
    · have := hN.lt k hk
      simpa [World.setCell] using this

/-- The tags behind an Amend. -/
def amTag (w w2 : World) (tag : Nat → Nat) (t : Nat) (k : Nat) : Nat := if k < w.heap.size then tag k else if k < w2.heap.size then t else 1
def amW (w3 : World) (g : Nat) (ed : ByteArray) (v : Value) : World := ((w3.setCell ⟨g, 0, none⟩ (.string ed)).setCell ⟨g, 1, none⟩ v).setCell ⟨g, 3, none⟩ (.slice none 0 0)
theorem amW_far (w3 : World) (g : Nat) (ed : ByteArray) (v : Value) (k : Nat) (h : k ≠ g) : (amW w3 g ed v).heap[k]? = w3.heap[k]? := by
  unfold amW
  rw [Below.heap_setCell _ _ _ k h, Below.heap_setCell _ _ _ k h, Below.heap_setCell _ _ _ k h]
theorem MidAm.amended {w w2 w3 : World} {tag : Nat → Nat} {i g : Nat} {d : Dr} {At A4 : Option Addr} {ct c4 : Nat} {v1 vp : Value} {ed : ByteArray} {ts : List S68} (h : MidAm w w2 tag i g d At ct v1 vp) (hg : g < w.heap.size) (htg : tag g = i + 3)
    (hR : k68.R 68 w3 w2.heap.size (New w2) (.slice A4 ts.length c4) ts) (hB : Below w2.heap.size w2 w3) :
    DraftAt (amW w3 g ed (.slice A4 ts.length c4)) (amTag w w2 tag (i + 3)) i g ⟨ed, ts, d.earlier ++ [d.trees], [], d.closed⟩ ∧ Kp w (amW w3 g ed (.slice A4 ts.length c4)) (fun k => tag k = i + 3) := by
  have hs2 := h.keep.size
  have hb3 := blk_below h.blk hB
  have far := amW_far w3 g ed (.slice A4 ts.length c4)
  refine ⟨⟨A4, c4, v1, .slice none 0 0, ?_, (Kd.R_reads' hR).2.1, ?_, ?_, Row.nil _ _ _ _, ?_, fun k hk => ?_, fun k hk => by simp [Value.ownBlock] at hk⟩, ?_⟩
  · have := blk_set (blk_set (blk_set hb3 0 (.string ed)) 1 (.slice A4 ts.length c4)) 3 (.slice none 0 0)
    unfold amW
    simpa using this
  · refine Kd.F_mono (Kd.F_step (Kd.R_F hR) (fun k hk _ => far k (by unfold New at hk; omega))) (fun k hk => ?_)
    unfold New at hk
    unfold amTag
    rw [if_neg (by omega), if_neg (by omega)]
  · refine (h.E.step (w1 := amW w3 g ed (.slice A4 ts.length c4)) (fun k hk => (far k (fun e => h.E.ne h.blk (by decide) (e ▸ hk))).trans (hB.block k (h.own k hk).2)) (fun k hk _ => (far k (fun e => by have := hk.1; rw [e, htg] at this; omega)).trans (hB.block k (by have := hk.2; omega)))).mono (fun k hk => ?_)
    unfold amTag
    rw [if_pos hk.2]
    exact hk.1
  · unfold amTag
    rw [if_pos hg]
    exact htg
  · unfold amTag
    by_cases hlt : k < w.heap.size
    · rw [if_pos hlt]; exact (h.own k hk).1 hlt
    · rw [if_neg hlt, if_pos (h.own k hk).2]
  · refine (h.keep.below hB).then_ (w1 := w3) (S2 := fun k => k = g) ⟨rfl, rfl, rfl, by unfold amW; simp [World.setCell], fun k hk hn => far k hn⟩ (fun k hk => .inl (by rw [hk]; exact htg))

def Dk.amend (D : Dk) (ed : ByteArray) (id num : Int) (ts : List S68) : Int × Int × Dk :=
  if D.valid ed ts = false then (0, 1, D) else if D.cur id num ≠ 0 then (0, D.cur id num, D) else if num = 256 then (0, 12, D) else match D.get id with
    | none => (0, 4, D)
    | some d => ((d.earlier.length : Int) + 2, 0, D.put (id - 1).toNat ⟨ed, ts, d.earlier ++ [d.trees], [], d.closed⟩)
def two (x y : Int) : Value := .tuple #[.int .i64 x, .int .i64 y]
end Go.Proofs.Ytkblcdpmdbofgaa.A
