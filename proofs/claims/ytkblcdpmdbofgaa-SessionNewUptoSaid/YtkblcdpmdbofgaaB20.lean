/- (*Desk).Drafts. -/
import Derived.Test.YtkblcdpmdbofgaaB19
namespace Go.Proofs.Ytkblcdpmdbofgaa.A
open Go.RowKit Go.Proofs.YtkblcdpmdbofgaaW.PrintWords Go.Proofs.YtkblcdpmdbofgaaW.PrintLast Go.Proofs.YtkblcdpmdbofgaaW.PrintMore
set_option linter.unusedVariables false
set_option linter.unusedSimpArgs false

theorem Dk.get_at (D : Dk) (x : Int) (h1 : 1 ≤ x) (h2 : x ≤ D.drafts.length) : ∃ d, D.get x = some d ∧ D.drafts[(x - 1).toNat]? = some d := by
  have hlt : (x - 1).toNat < D.drafts.length := by omega
  refine ⟨D.drafts[(x - 1).toNat], ?_, List.getElem?_eq_getElem hlt⟩
  unfold Dk.get
  rw [if_pos h1, List.getElem?_eq_getElem hlt]
theorem Dk.opensTo_at (D : Dk) (x : Int) (h1 : 1 ≤ x) {d : Dr} (hd : D.drafts[(x - 1).toNat]? = some d) : D.opensTo (x + 1 - 1).toNat = D.opensTo (x - 1).toNat ++ (if d.closed then [] else [x]) := by
  have e : (x + 1 - 1).toNat = (x - 1).toNat + 1 := by omega
  rw [e, Dk.opensTo_succ, hd]
  have e2 : (((x - 1).toNat : Nat) : Int) + 1 = x := by omega
  simp only [e2]

set_option maxHeartbeats 1000000 in
set_option maxRecDepth 100000 in
theorem drafts_calls (w : World) (tag : Nat → Nat) (dp mb : Nat) (sb : List Nat) (D : Dk) (h : DeskAt w tag dp mb sb D) :
    Calls Try.prog 13 #[.pointer (some ⟨dp, 0, none⟩)] w fun e w' => ∃ v, e = .returned v ∧ (Kd.int .i64).R 3 w' w.heap.size (New w) v (D.opensTo D.drafts.length) ∧ Below w.heap.size w w' := by
  have H := Aside0.mk (fun (W : World) (hW : Below w.heap.size w W) => h.below hW)
  have hsl := h.len
  have hf := h.few
  have HB := Aside0.mk (Below.refl w.heap.size w)
  obtain ⟨Ae, ce, hbk, _, _⟩ := h.desk
  have HD := Aside0.mk hbk
  clear h hbk
  go_enter Try.func13, Try.ntmps13
  go_wp2
  go_loopw [3, 4] (fun v i w' => ∃ x : Int, i = .int .i64 x ∧ 1 ≤ x ∧ x ≤ D.drafts.length + 1 ∧ Aside0 ((Kd.int .i64).R 3 w' w.heap.size (New w) v (D.opensTo (x - 1).toNat)) ∧ Aside0 (Below w.heap.size w w')) (fun _ i _ => D.drafts.length + 1 - (intOf i).toNat)
  case atStart => exact ⟨1, rfl, Int.le_refl _, by omega, ⟨Kd.R_nil _ _ _ _ _⟩, HB⟩
  case round =>
    clear HB
    obtain ⟨x, rfl, hx, hk, HV, HB⟩ := hrel
    have c2 := blk_cell (blk_below HD.out HB.out) 2
    simp at c2
    have hn := (H.out _ HB.out).map.len 3
    rw [hsl] at hn
    by_cases hlt : x ≤ D.drafts.length
    · obtain ⟨d, hg, hd⟩ := D.get_at x hx hlt
      obtain ⟨i, g, hxi, hs, hd', hp⟩ := ptrOf_some hsl hg
      obtain ⟨At, ct, Ae', ce', Ap, cp, hbd⟩ := ((H.out _ HB.out).drafts i g d hs hd').cells
      have d4 := blk_cell hbd 4
      simp at d4
      have hl := (H.out _ HB.out).map.look x (wf_i64 (by omega) (by omega))
      rw [hp] at hl
      have HO := Aside0.mk (D.opensTo_at x hx hd)
      have q1 : decide (x ≤ (D.drafts.length : Int)) = true := decide_eq_true hlt
      have HL : Aside0 (((D.opensTo (x - 1).toNat).length + 1) * 8 ≤ 140737488355328) := ⟨by have := D.opensTo_len (x - 1).toNat; omega⟩
      have b1 : x ≤ 256 := by omega
      clear hg hs hd' hp hbd hd hxi
      cases hcl : d.closed with
      | true =>
        rw [hcl] at d4 HO
        go_wp2
        go_roundw
        case rel => exact ⟨x + 1, rfl, by omega, by omega, ⟨by rw [HO.out]; simpa using HV.out⟩, HB⟩
        case measure => simp [intOf]; omega
      | false =>
        rw [hcl] at d4 HO
        go_wp2_with (at_builtin; refine Kd.R_append (Kd.int .i64) (w0 := w) w.heap.size rfl _ _ 29 3 (.int .i64 0) 8 rfl Try.underlying29 info3 rfl (by decide) (by decide) u3 (D.opensTo (x - 1).toNat) x [.int .i64 x] (New w) (fun _ => False) rfl rfl (rfl) (fun _ hk => hk.elim) (fun _ hk => Nat.le_trans HB.out.size hk) HV.out HB.out HB.out.size HL.out ?_; intro v3 w3 hN hB hg _; have HN := Aside0.mk hN; have HB3 := Aside0.mk hB; clear hN hB hg)
        go_roundw
        case rel => exact ⟨x + 1, rfl, by omega, by omega, ⟨by rw [HO.out]; simpa using HN.out⟩, HB3⟩
        case measure => simp [intOf]; omega
    · have q1 : decide (x ≤ (D.drafts.length : Int)) = false := decide_eq_false hlt
      go_wp2
      go_ret
      refine ⟨_, rfl, ?_, HB.out⟩
      have := HV.out
      rwa [show (x - 1).toNat = D.drafts.length by omega] at this
end Go.Proofs.Ytkblcdpmdbofgaa.A
