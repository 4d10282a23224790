/- (*Desk).Approve: its errors, and the whole. -/
import Derived.Test.YtkblcdpmdbofgaaB11
namespace Go.Proofs.Ytkblcdpmdbofgaa.A
open Go.RowKit Go.Proofs.YtkblcdpmdbofgaaW.PrintWords Go.Proofs.YtkblcdpmdbofgaaW.PrintLast Go.Proofs.YtkblcdpmdbofgaaW.PrintMore
set_option linter.unusedVariables false
set_option linter.unusedSimpArgs false

theorem Tell.same {w w' : World} {tag : Nat → Nat} {dp mb : Nat} {sb : List Nat} {D : Dk} (h : DeskAt w tag dp mb sb D) (hB : Below w.heap.size w w') (v : Value) : Tell w tag dp mb sb v D (.returned v) w' :=
  ⟨rfl, tag, fun _ _ => rfl, h.below hB, Kp.of_below hB _⟩

set_option maxHeartbeats 1000000 in
set_option maxRecDepth 100000 in
theorem approve_no (w : World) (tag : Nat → Nat) (dp mb : Nat) (sb : List Nat) (D : Dk) (h : DeskAt w tag dp mb sb D) (hok : D.ok) (ed : ByteArray) (id num : Int) (hid : (Lit.int .i64 id).wf = true) (hm : memS D.eds ed = false) :
    Calls Try.prog 30 #[.pointer (some ⟨dp, 0, none⟩), .string ed, .int .i64 id, .int .i64 num] w (Tell w tag dp mb sb (.int .i64 1) D) := by
  obtain ⟨Ae, ce, hbk, hce, hF⟩ := h.desk
  have c0 := blk_cell hbk 0
  simp at c0
  have C1 := Aside0.mk (contains_calls Ae ce D.eds ed w (by have := hok.1; omega) (Kd.F_now hF) hce)
  rw [hm] at C1
  have HT := Aside0.mk (fun (w' : World) hB v => Tell.same (w' := w') h hB v)
  clear h hok hid hm hbk hce hF
  go_enter Try.func30, Try.ntmps30
  go_wp2_with (go_at_call 34; refine C1.out.mono ?_; rintro e w1 ⟨rfl, ⟨n, rfl⟩⟩)
  go_ret
  exact HT.out _ (pw_below_drewN (Below.refl _ _) _) _

set_option maxHeartbeats 1000000 in
set_option maxRecDepth 100000 in
theorem approve_err (w : World) (tag : Nat → Nat) (dp mb : Nat) (sb : List Nat) (D : Dk) (h : DeskAt w tag dp mb sb D) (hok : D.ok) (ed : ByteArray) (id num : Int) (hid : (Lit.int .i64 id).wf = true) (hm : memS D.eds ed = true) (hq : D.cur id num ≠ 0) :
    Calls Try.prog 30 #[.pointer (some ⟨dp, 0, none⟩), .string ed, .int .i64 id, .int .i64 num] w (Tell w tag dp mb sb (.int .i64 (D.cur id num)) D) := by
  obtain ⟨Ae, ce, hbk, hce, hF⟩ := h.desk
  have c0 := blk_cell hbk 0
  simp at c0
  have C1 := Aside0.mk (contains_calls Ae ce D.eds ed w (by have := hok.1; omega) (Kd.F_now hF) hce)
  rw [hm] at C1
  have C2 := Aside0.mk (fun (W : World) (hW : Below w.heap.size w W) => current_calls W tag dp mb sb D (h.below hW) hok id num hid)
  rw [if_neg hq] at C2
  generalize D.cur id num = q at C2 hq
  have f1 : (q != 0) = true := bne_iff_ne.mpr hq
  have HT := Aside0.mk (fun (w' : World) hB v => Tell.same (w' := w') h hB v)
  clear h hok hid hm hbk hce hF hq
  go_enter Try.func30, Try.ntmps30
  go_wp2_with (first | (go_at_call 34; refine C1.out.mono ?_; rintro e w1 ⟨rfl, ⟨n, rfl⟩⟩) | (go_at_call 37; refine (C2.out _ (pw_below_drewN (Below.refl _ _) _)).mono ?_; rintro e w1 ⟨rfl, rfl⟩))
  go_ret
  exact HT.out _ (pw_below_drewN (Below.refl _ _) _) _

set_option maxHeartbeats 1000000 in
set_option maxRecDepth 100000 in
theorem approve_own (w : World) (tag : Nat → Nat) (dp mb : Nat) (sb : List Nat) (D : Dk) (h : DeskAt w tag dp mb sb D) (hok : D.ok) (ed : ByteArray) (i g : Nat) (d : Dr) (num : Int) (hid : (Lit.int .i64 ((i : Int) + 1)).wf = true)
    (hm : memS D.eds ed = true) (hcur : D.cur ((i : Int) + 1) num = 0) (hs : sb[i]? = some g) (hd : D.drafts[i]? = some d) (hp : ptrOf sb ((i : Int) + 1) = some ⟨g, 0, none⟩)
    (r : Int) (hr : (d.author.toList == ed.toList) = true ∧ r = 10 ∨ (d.author.toList == ed.toList) = false ∧ memS d.approvals ed = true ∧ r = 5) :
    Calls Try.prog 30 #[.pointer (some ⟨dp, 0, none⟩), .string ed, .int .i64 ((i : Int) + 1), .int .i64 num] w (Tell w tag dp mb sb (.int .i64 r) D) := by
  obtain ⟨Ae, ce, hbk, hce, hF⟩ := h.desk
  have c0 := blk_cell hbk 0
  simp at c0
  have C1 := Aside0.mk (contains_calls Ae ce D.eds ed w (by have := hok.1; omega) (Kd.F_now hF) hce)
  rw [hm] at C1
  have C2 := Aside0.mk (fun (W : World) (hW : Below w.heap.size w W) => current_calls W tag dp mb sb D (h.below hW) hok ((i : Int) + 1) num hid)
  rw [hcur, hp, if_pos rfl] at C2
  have hda := h.drafts i g d hs hd
  obtain ⟨At, ct, ve, vp, hb, _, _, _, hP, htg, _, hvp⟩ := hda
  obtain ⟨Ap, cp, rfl⟩ := hP.slice
  have d0 := blk_cell hb 0
  have d3 := blk_cell hb 3
  simp at d0 d3
  have C3 := Aside0.mk (fun (W : World) (hW : Below w.heap.size w W) => contains_calls Ap cp d.approvals ed W (by have := (hok.get hd).2.1; omega) (Kd.C_below hP.reads'.2.2 hW) hP.reads'.2.1)
  have HT := Aside0.mk (fun (w' : World) hB v => Tell.same (w' := w') h hB v)
  clear h hok hid hm hcur hs hd hp hbk hce hF hb hP htg hvp
  rcases hr with ⟨ha, rfl⟩ | ⟨ha, hap, rfl⟩
  · clear C3
    go_enter Try.func30, Try.ntmps30
    go_wp2_with (first
      | (go_at_call 37; refine (C2.out _ (pw_below_drewN (Below.refl _ _) _)).mono ?_; rintro e w1 ⟨rfl, rfl⟩)
      | (go_at_call 34; (refine C1.out.mono ?_; rintro e w1 ⟨rfl, ⟨n, rfl⟩⟩)))
    go_ret
    exact HT.out _ (pw_below_drewN (Below.refl _ _) _) _
  · rw [hap] at C3
    clear hap
    go_enter Try.func30, Try.ntmps30
    go_wp2_with (first
      | (go_at_call 37; refine (C2.out _ (pw_below_drewN (Below.refl _ _) _)).mono ?_; rintro e w1 ⟨rfl, rfl⟩)
      | (go_at_call 34; first
          | (refine C1.out.mono ?_; rintro e w1 ⟨rfl, ⟨n, rfl⟩⟩)
          | (refine (C3.out _ (pw_below_drewN (Below.refl _ _) _)).mono ?_; rintro e w1 ⟨rfl, ⟨m, rfl⟩⟩)))
    go_ret
    exact HT.out _ (pw_below_drewN (Below.refl _ _) _) _

/-- What a draft's approvals stay under. -/
def Dk.low (D : Dk) : Prop := ∀ d ∈ D.drafts, d.approvals.length ≤ 90000

theorem approve_calls (w : World) (tag : Nat → Nat) (dp mb : Nat) (sb : List Nat) (D : Dk) (h : DeskAt w tag dp mb sb D) (hok : D.ok) (hlow : D.low) (ed : ByteArray) (id num : Int) (hid : (Lit.int .i64 id).wf = true) :
    Calls Try.prog 30 #[.pointer (some ⟨dp, 0, none⟩), .string ed, .int .i64 id, .int .i64 num] w (Tell w tag dp mb sb (.int .i64 (D.approve ed id num).1) (D.approve ed id num).2) := by
  unfold Dk.approve
  cases hm : memS D.eds ed with
  | false => rw [if_pos rfl]; exact approve_no w tag dp mb sb D h hok ed id num hid hm
  | true =>
    rw [if_neg (by simp)]
    by_cases hq : D.cur id num = 0
    · rw [if_neg (fun hn => hn hq)]
      obtain ⟨d, hg, _, _⟩ := Dk.cur_zero hq
      obtain ⟨i, g, rfl, hs, hd, hp⟩ := ptrOf_some h.len hg
      rw [hg]
      have e1 : ((i : Int) + 1 - 1).toNat = i := by omega
      simp only [e1]
      by_cases ha : d.author.toList = ed.toList
      · rw [if_pos ha]
        exact approve_own w tag dp mb sb D h hok ed i g d num hid hm hq hs hd hp 10 (.inl ⟨beq_iff_eq.mpr ha, rfl⟩)
      · rw [if_neg ha]
        cases hap : memS d.approvals ed with
        | true => rw [if_pos rfl]; exact approve_own w tag dp mb sb D h hok ed i g d num hid hm hq hs hd hp 5 (.inr ⟨beq_eq_false_iff_ne.mpr ha, hap, rfl⟩)
        | false => rw [if_neg (by simp)]; exact approve_ok w tag dp mb sb D h hok ed i g d num hid hm hq hs hd hp (beq_eq_false_iff_ne.mpr ha) hap (hlow d (List.mem_of_getElem? hd))
    · rw [if_pos hq]
      exact approve_err w tag dp mb sb D h hok ed id num hid hm hq
end Go.Proofs.Ytkblcdpmdbofgaa.A
