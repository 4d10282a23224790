/- A desk as plain data, and as it lies in memory. -/
import Derived.Test.YtkblcdpmdbofgaaB6
namespace Go.Proofs.Ytkblcdpmdbofgaa.A
open Go.RowKit Go.Proofs.YtkblcdpmdbofgaaW.PrintWords Go.Proofs.YtkblcdpmdbofgaaW.PrintLast Go.Proofs.YtkblcdpmdbofgaaW.PrintMore
set_option linter.unusedVariables false
set_option linter.unusedSimpArgs false

/-- A draft: its newest revision, the notices of the earlier ones, its approvals. -/
structure Dr where
  author : ByteArray
  trees : List S68
  earlier : List (List S68)
  approvals : List ByteArray
  closed : Bool
structure Dk where
  eds : List ByteArray
  needed : Int
  drafts : List Dr

/-- Draft number i (from 0) lies at block g: tags tell whose a block is: 1: what is only read, 2: the desk's own, i + 3: the draft's own. -/
def DraftAt (w : World) (tag : Nat → Nat) (i g : Nat) (d : Dr) : Prop :=
  ∃ At ct ve vp, w.heap[g]? = some (.cells #[.string d.author, .slice At d.trees.length ct, ve, vp, .bool d.closed] 79 (0, 0)) ∧ d.trees.length ≤ ct ∧ Kd.F k68 w (fun k => tag k = 1) At d.trees.length d.trees ∧
    Row (Kd.slice 68 k68) 33 w (fun k => tag k = 1) ve d.earlier ∧ Row Kd.string 9 w (fun _ => False) vp d.approvals ∧
    tag g = i + 3 ∧ (∀ k, ve.ownBlock = some k → tag k = i + 3) ∧ (∀ k, vp.ownBlock = some k → tag k = i + 3)
/-- The desk D lies at block dp, its map at mb, its drafts at the blocks sb. -/
structure DeskAt (w : World) (tag : Nat → Nat) (dp mb : Nat) (sb : List Nat) (D : Dk) : Prop where
  desk : ∃ Ae ce, w.heap[dp]? = some (.cells #[.slice Ae D.eds.length ce, .int .i64 D.needed, .map (some mb)] 75 (0, 0)) ∧ D.eds.length ≤ ce ∧ Kd.F Kd.string w (fun k => tag k = 1) Ae D.eds.length D.eds
  tagD : tag dp = 2
  tagM : tag mb = 2
  map : MapAt w mb sb
  len : sb.length = D.drafts.length
  drafts : ∀ i g d, sb[i]? = some g → D.drafts[i]? = some d → DraftAt w tag i g d
  few : D.drafts.length ≤ 256

theorem DraftAt.step {w w1 : World} {tag tag1 : Nat → Nat} {i g : Nat} {d : Dr} (h : DraftAt w tag i g d) (h1 : ∀ k, k < w.heap.size → tag k = 1 ∨ tag k = i + 3 → w1.heap[k]? = w.heap[k]?) (ht : ∀ k, k < w.heap.size → tag1 k = tag k) : DraftAt w1 tag1 i g d := by
  obtain ⟨At, ct, ve, vp, hb, hc, hF, hE, hP, hg, hve, hvp⟩ := h
  have hlt := blk_lt hb
  refine ⟨At, ct, ve, vp, (h1 g hlt (.inr hg)).trans hb, hc, ?_, ?_, ?_, (ht g hlt).trans hg, fun k hk => (ht k (hE.lt k hk)).trans (hve k hk), fun k hk => (ht k (hP.lt k hk)).trans (hvp k hk)⟩
  · refine Kd.F_mono (Kd.F_step (Kd.F_bound hF) (fun k hk hl => h1 k hl (.inl hk.1))) (fun k hk => (ht k hk.2).trans hk.1)
  · refine (hE.bound.step (fun k hk => h1 k (hE.lt k hk) (.inr (hve k hk))) (fun k hk hl => h1 k hl (.inl hk.1))).mono (fun k hk => (ht k hk.2).trans hk.1)
  · exact hP.step (fun k hk => h1 k (hP.lt k hk) (.inr (hvp k hk))) (fun k hk => hk.elim)

theorem DeskAt.step {w w1 : World} {tag tag1 : Nat → Nat} {dp mb : Nat} {sb : List Nat} {D : Dk} (h : DeskAt w tag dp mb sb D) (h1 : ∀ k, k < w.heap.size → tag k ≠ 0 → w1.heap[k]? = w.heap[k]?) (ht : ∀ k, k < w.heap.size → tag1 k = tag k) : DeskAt w1 tag1 dp mb sb D := by
  obtain ⟨Ae, ce, hb, hc, hF⟩ := h.desk
  refine ⟨⟨Ae, ce, (h1 dp (blk_lt hb) (by rw [h.tagD]; decide)).trans hb, hc, ?_⟩, (ht dp (blk_lt hb)).trans h.tagD, (ht mb h.map.lt).trans h.tagM, h.map.step (h1 mb h.map.lt (by rw [h.tagM]; decide)), h.len, fun i g d hg hd => (h.drafts i g d hg hd).step (fun k hk ht' => h1 k hk (by omega)) ht, h.few⟩
  exact Kd.F_mono (Kd.F_step (Kd.F_bound hF) (fun k hk hl => h1 k hl (by rw [hk.1]; decide))) (fun k hk => (ht k hk.2).trans hk.1)
theorem DeskAt.below {w w1 : World} {tag : Nat → Nat} {dp mb : Nat} {sb : List Nat} {D : Dk} (h : DeskAt w tag dp mb sb D) (hb : Below w.heap.size w w1) : DeskAt w1 tag dp mb sb D := h.step (fun k hk _ => hb.block k hk) (fun _ _ => rfl)

/-- The draft with a number, and its block. -/
def Dk.get (D : Dk) (id : Int) : Option Dr := if 1 ≤ id then D.drafts[(id - 1).toNat]? else none
theorem ptrOf_none {sb : List Nat} {D : Dk} (hl : sb.length = D.drafts.length) {id : Int} (h : D.get id = none) : ptrOf sb id = none := by
  unfold Dk.get at h
  unfold ptrOf
  by_cases h1 : 1 ≤ id
  · rw [if_pos h1, List.getElem?_eq_none_iff] at h
    rw [if_neg (by omega)]
  · rw [if_neg (by omega)]
theorem ptrOf_some {sb : List Nat} {D : Dk} (hl : sb.length = D.drafts.length) {id : Int} {d : Dr} (h : D.get id = some d) : ∃ (i g : Nat), id = (i : Int) + 1 ∧ sb[i]? = some g ∧ D.drafts[i]? = some d ∧ ptrOf sb id = some ⟨g, 0, none⟩ := by
  unfold Dk.get at h
  by_cases h1 : 1 ≤ id
  · rw [if_pos h1] at h
    have hlt := (List.getElem?_eq_some_iff.1 h).1
    refine ⟨(id - 1).toNat, sb[(id - 1).toNat], by omega, List.getElem?_eq_getElem (by omega), h, ?_⟩
    unfold ptrOf
    rw [if_pos (by omega), List.getD_eq_getElem?_getD, List.getElem?_eq_getElem (by omega)]
    rfl
  · rw [if_neg h1] at h
    cases h

/-- (*Desk).current: the error, or none. -/
def Dk.cur (D : Dk) (id num : Int) : Int := match D.get id with
  | none => 4
  | some d => if d.closed = true then 10 else if (d.earlier.length : Int) + 1 = num then 0 else 11
end Go.Proofs.Ytkblcdpmdbofgaa.A
