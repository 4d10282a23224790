/- (*Desk).Close, Approve. -/
import Derived.Test.YtkblcdpmdbofgaaB9
import Derived.Deep.RegionLaw
namespace Go.Proofs.Ytkblcdpmdbofgaa.A
open Go.RowKit Go.Proofs.YtkblcdpmdbofgaaW.PrintWords Go.Proofs.YtkblcdpmdbofgaaW.PrintLast Go.Proofs.YtkblcdpmdbofgaaW.PrintMore
set_option linter.unusedVariables false
set_option linter.unusedSimpArgs false

def Dk.put (D : Dk) (i : Nat) (d : Dr) : Dk := { D with drafts := D.drafts.set i d }
theorem DeskAt.update {w w1 : World} {tag tag1 : Nat → Nat} {dp mb : Nat} {sb : List Nat} {D : Dk} (h : DeskAt w tag dp mb sb D) (i g : Nat) (d1 : Dr) (hg : sb[i]? = some g)
    (h1 : ∀ k, k < w.heap.size → tag k ≠ 0 → tag k ≠ i + 3 → w1.heap[k]? = w.heap[k]?) (ht : ∀ k, k < w.heap.size → tag1 k = tag k) (hd : DraftAt w1 tag1 i g d1) : DeskAt w1 tag1 dp mb sb (D.put i d1) := by
  obtain ⟨Ae, ce, hb, hc, hF⟩ := h.desk
  refine ⟨⟨Ae, ce, (h1 dp (blk_lt hb) (by rw [h.tagD]; decide) (by rw [h.tagD]; omega)).trans hb, hc, ?_⟩, (ht dp (blk_lt hb)).trans h.tagD, (ht mb h.map.lt).trans h.tagM, h.map.step (h1 mb h.map.lt (by rw [h.tagM]; decide) (by rw [h.tagM]; omega)), by unfold Dk.put; simp [h.len], fun j g' d' hg' hd' => ?_, by unfold Dk.put; simp [h.few]⟩
  · exact Kd.F_mono (Kd.F_step (Kd.F_bound hF) (fun k hk hl => h1 k hl (by rw [hk.1]; decide) (by rw [hk.1]; omega))) (fun k hk => (ht k hk.2).trans hk.1)
  · unfold Dk.put at hd'
    simp only at hd'
    by_cases hj : i = j
    · subst hj
      rw [List.getElem?_set] at hd'
      simp only [if_true] at hd'
      split at hd'
      · injection hd' with hd'
        subst hd'
        rw [hg] at hg'
        injection hg' with hg'
        subst hg'
        exact hd
      · cases hd'
    · rw [List.getElem?_set_ne hj] at hd'
      exact (h.drafts j g' d' hg' hd').step (fun k hk htk => h1 k hk (by omega) (by omega)) ht

/-- An own row of another type is another block. -/
theorem Row.ne {α : Type} {d : Kd α} {e : Nat} {w : World} {inn : Nat → Prop} {v : Value} {xs : List α} (h : Row d e w inn v xs) {g t : Nat} {cells : Array Value} (hb : w.heap[g]? = some (.cells cells t (0, 0))) (ht : e ≠ t) : v.ownBlock ≠ some g := by
  intro he
  obtain ⟨cs, hc⟩ := h.typed g he
  rw [hc] at hb
  injection hb with hb
  injection hb with _ hb
  exact ht hb

def Dk.close (D : Dk) (id : Int) : Int × Dk := match D.get id with
  | none => (4, D)
  | some d => if d.closed = true then (10, D) else (0, D.put (id - 1).toNat { d with closed := true })

def Tell (w : World) (tag : Nat → Nat) (dp mb : Nat) (sb : List Nat) (v : Value) (D1 : Dk) (e : Ending) (w' : World) : Prop := e = .returned v ∧ ∃ tag', (∀ k, k < w.heap.size → tag' k = tag k) ∧ DeskAt w' tag' dp mb sb D1 ∧ Kp w w' (fun k => 2 ≤ tag k)

set_option maxHeartbeats 400000 in
set_option maxRecDepth 100000 in
theorem close_calls (w : World) (tag : Nat → Nat) (dp mb : Nat) (sb : List Nat) (D : Dk) (h : DeskAt w tag dp mb sb D) (id : Int) (hid : (Lit.int .i64 id).wf = true) :
    Calls Try.prog 29 #[.pointer (some ⟨dp, 0, none⟩), .int .i64 id] w (Tell w tag dp mb sb (.int .i64 (D.close id).1) (D.close id).2) := by
  have H := Aside0.mk h
  obtain ⟨Ae, ce, hbk, _, _⟩ := h.desk
  have c2 := blk_cell hbk 2
  simp at c2
  have hl := h.map.look id hid
  cases hg : D.get id with
  | none =>
    rw [ptrOf_none h.len hg] at hl
    have HF : Aside0 (D.close id = (4, D)) := ⟨by unfold Dk.close; rw [hg]⟩
    clear h hid hg hbk
    go_enter Try.func29, Try.ntmps29
    go_wp2
    go_ret
    exact ⟨by rw [HF.out]; rfl, tag, fun _ _ => rfl, by rw [HF.out]; exact H.out, Kp.refl _ _⟩
  | some d =>
    obtain ⟨i, g, rfl, hs, hd, hp⟩ := ptrOf_some h.len hg
    rw [hp] at hl
    have hda := h.drafts i g d hs hd
    obtain ⟨At, ct, ve, vp, hb, hc, hF, hE, hP, htg, hve, hvp⟩ := hda
    have d4 := blk_cell hb 4
    have f4 := blk_frozen hb 4
    simp at d4
    cases hcl : d.closed with
    | true =>
      rw [hcl] at d4
      have HF : Aside0 (D.close ((i : Int) + 1) = (10, D)) := ⟨by unfold Dk.close; rw [hg]; simp only; rw [if_pos hcl]⟩
      clear h hid hg hbk hs hd hp hcl hb hc hF hE hP htg hve hvp
      go_enter Try.func29, Try.ntmps29
      go_wp2
      go_ret
      exact ⟨by rw [HF.out]; rfl, tag, fun _ _ => rfl, by rw [HF.out]; exact H.out, Kp.refl _ _⟩
    | false =>
      rw [hcl] at d4
      have HF : Aside0 (D.close ((i : Int) + 1) = (0, D.put i { d with closed := true })) := ⟨by
        unfold Dk.close; rw [hg]; simp only; rw [if_neg (by rw [hcl]; simp)]
        have : ((i : Int) + 1 - 1).toNat = i := by omega
        rw [this]⟩
      have HD : Aside0 (DeskAt (w.setCell ⟨g, 4, none⟩ (.bool true)) tag dp mb sb (D.put i { d with closed := true })) := ⟨by
        have far : ∀ k, k ≠ g → (w.setCell ⟨g, 4, none⟩ (.bool true)).heap[k]? = w.heap[k]? := fun k hk => Below.heap_setCell w ⟨g, 4, none⟩ _ k hk
        refine h.update i g _ hs (fun k _ _ hne => far k (fun e => hne (e ▸ htg))) (fun _ _ => rfl) ?_
        refine ⟨At, ct, ve, vp, ?_, hc, ?_, ?_, ?_, htg, hve, hvp⟩
        · have := blk_set hb 4 (.bool true)
          simpa using this
        · exact Kd.F_step hF (fun k hk _ => far k (fun e => by rw [e] at hk; omega))
        · exact hE.step (fun k hk => far k (fun e => hE.ne hb (by decide) (e ▸ hk))) (fun k hk _ => far k (fun e => by rw [e] at hk; omega))
        · exact hP.step (fun k hk => far k (fun e => hP.ne hb (by decide) (e ▸ hk))) (fun k hk _ => hk.elim)⟩
      have HK : Aside0 (Kp w (w.setCell ⟨g, 4, none⟩ (.bool true)) (fun k => 2 ≤ tag k)) := ⟨(Kp.setCell w ⟨g, 4, none⟩ (.bool true)).mono (fun k hk => by simp only at hk; rw [hk, htg]; omega)⟩
      clear h hid hg hbk hs hd hp hcl hb hc hF hE hP htg hve hvp H
      go_enter Try.func29, Try.ntmps29
      go_wp2
      go_ret
      exact ⟨by rw [HF.out]; rfl, tag, fun _ _ => rfl, by rw [HF.out]; exact HD.out, HK.out⟩
end Go.Proofs.Ytkblcdpmdbofgaa.A
