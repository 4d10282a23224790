/- (*Desk).History. -/
import Derived.Test.YtkblcdpmdbofgaaB20
namespace Go.Proofs.Ytkblcdpmdbofgaa.A
open Go.RowKit Go.Proofs.YtkblcdpmdbofgaaW.PrintWords Go.Proofs.YtkblcdpmdbofgaaW.PrintLast Go.Proofs.YtkblcdpmdbofgaaW.PrintMore
set_option linter.unusedVariables false
set_option linter.unusedSimpArgs false

def Dk.hist (D : Dk) (id : Int) : List (List S68) := match D.get id with
  | none => []
  | some d => d.earlier ++ [d.trees]
def Dk.has (D : Dk) (id : Int) : Int := match D.get id with
  | none => 4
  | some _ => 0
theorem take_rdL (l : List (List S68)) (x : Int) (h0 : 0 ≤ x) (h1 : x < l.length) : l.take (x + 1).toNat = l.take x.toNat ++ [rd_L4 l x] := by
  have e : (x + 1).toNat = x.toNat + 1 := by omega
  rw [e, List.take_succ_eq_append_getElem (by omega)]
  unfold rd_L4
  rw [List.getD_eq_getElem?_getD, List.getElem?_eq_getElem (by omega)]
  rfl
theorem rdL_mem (l : List (List S68)) (x : Int) (h0 : 0 ≤ x) (h1 : x < l.length) : rd_L4 l x ∈ l := by
  unfold rd_L4
  rw [List.getD_eq_getElem?_getD, List.getElem?_eq_getElem (by omega)]
  exact List.getElem_mem _
theorem cloned (ts : List S68) (A : Option Addr) (c : Nat) (w : World) (hb : bulkL ts ≤ 2000000) (hr : k68.C w A ts.length ts) (hc : ts.length ≤ c) :
    Calls Try.prog 38 #[.slice A ts.length c] w fun e w' => ∃ v, e = .returned v ∧ k68.R 68 w' w.heap.size (New w) v ts ∧ Below w.heap.size w w' :=
  cloneAll_calls ts A c w (Nat.le_trans (length_bulk ts) hb) (fun x hx => Nat.le_trans (mem_bulk hx) hb) hr hc
/-- A cloned list is apart from the row that it is appended to. -/
theorem hist_apart {w W w1 : World} {v0 : Value} {xs : List (List S68)} (o : Obj) (h0 : (Kd.slice 68 k68).R 33 W w.heap.size (New w) v0 xs) (hB : Below w.heap.size w W) (hB1 : Below W.heap.size W w1) : ∀ k, New W k → New w k ∧ some k ≠ v0.ownBlock := fun k hk => by
  refine ⟨Nat.le_trans hB.size hk, fun he => ?_⟩
  have := Kd.R_lt h0 k he.symm
  unfold New at hk
  omega

set_option maxHeartbeats 1000000 in
set_option maxRecDepth 100000 in
theorem history_some (w : World) (tag : Nat → Nat) (dp mb : Nat) (sb : List Nat) (D : Dk) (h : DeskAt w tag dp mb sb D) (hok : D.ok) (i g : Nat) (d : Dr) (hid : (Lit.int .i64 ((i : Int) + 1)).wf = true) (hs : sb[i]? = some g) (hd : D.drafts[i]? = some d) (hp : ptrOf sb ((i : Int) + 1) = some ⟨g, 0, none⟩) :
    Calls Try.prog 19 #[.pointer (some ⟨dp, 0, none⟩), .int .i64 ((i : Int) + 1)] w fun e w' => ∃ v, e = .returned (.tuple #[v, .int .i64 0]) ∧ (Kd.slice 68 k68).R 33 w' w.heap.size (New w) v (d.earlier ++ [d.trees]) ∧ Below w.heap.size w w' := by
  have hl := h.map.look ((i : Int) + 1) hid
  rw [hp] at hl
  obtain ⟨At, ct, Ae, ce, Ap, cp, hP⟩ := (h.drafts i g d hs hd).pre
  obtain ⟨Ad, cd, hbk, _, _⟩ := h.desk
  have c2 := blk_cell hbk 2
  have d2 := blk_cell hP.blk 2
  simp at c2 d2
  have HG := Aside0.mk hP.blk
  have HE := Aside0.mk hP.E.reads'.2.2
  have ho := hok.get hd
  have hlen : d.earlier.length ≤ 255 := ho.1
  have C1 := Aside0.mk (fun (W : World) (hW : Below w.heap.size w W) => cloned d.trees At ct W ho.2.2.1 (Kd.C_below (Kd.F_now hP.trees) hW) hP.ct)
  have HO := Aside0.mk ho.2.2.2
  have HB := Aside0.mk (Below.refl w.heap.size w)
  clear h hok hid hs hd hp hP hbk ho
  go_enter Try.func19, Try.ntmps19
  go_wp2
  go_loopw [7, 23] (fun v i w' => ∃ x : Int, i = .int .i64 x ∧ 0 ≤ x ∧ x ≤ d.earlier.length ∧ Aside0 ((Kd.slice 68 k68).R 33 w' w.heap.size (New w) v (d.earlier.take x.toNat)) ∧ Aside0 (Below w.heap.size w w')) (fun _ i _ => d.earlier.length - (intOf i).toNat)
  case atStart => exact ⟨0, rfl, Int.le_refl _, Int.natCast_nonneg _, ⟨Kd.R_nil _ _ _ _ _⟩, HB⟩
  case round =>
    clear HB
    obtain ⟨x, rfl, hx, hk, HV, HB⟩ := hrel
    by_cases hlt : x < d.earlier.length
    · obtain ⟨ad, A0, c0, e, hx0, hl0, hi0⟩ := at_L4 HE.out x hx hlt
      cases e
      have C2 := Aside0.mk (fun (W : World) (hW : Below w.heap.size w W) => cloned (rd_L4 d.earlier x) A0 c0 W (HO.out _ (rdL_mem _ x hx hlt)) (Kd.C_below hi0 hW) hl0)
      clear hi0 hl0
      replace hx0 := (HB.out.cell (World.block_lt_of_cell? w _ hx0)).trans hx0
      have p1 := eq_true hx
      have q1 := eq_true hlt
      have HL : Aside0 (((d.earlier.take x.toNat).length + 1) * 24 ≤ 140737488355328) := ⟨by rw [List.length_take]; omega⟩
      go_wp2_with (first | (go_at_call 38; refine (C2.out _ HB.out).mono ?_; rintro e w1 ⟨v, rfl, hR, hB⟩; obtain ⟨A3, c3, rfl⟩ := Kd.R_slice hR; have HA := Aside0.mk (hist_apart (.map #[] 0) HV.out HB.out hB); have HM := Aside0.mk (Kd.M_row (Kd.R_lower hR HB.out.size)); have HV1 := Aside0.mk (Kd.R_below HV.out hB); have HB1 := Aside0.mk (below_step HB.out hB); clear hR hB) | (at_builtin; refine Kd.R_append (Kd.slice 68 k68) (w0 := w) w.heap.size rfl _ _ 43 33 (.slice none 0 0) 24 rfl Try.underlying43 info33 rfl (by decide) (by decide) u7 (d.earlier.take x.toNat) (rd_L4 d.earlier x) [.slice A3 (rd_L4 d.earlier x).length c3] (New w) _ rfl rfl HM.out HA.out (fun _ hk => Nat.le_trans HB1.out.size hk) HV1.out HB1.out HB1.out.size HL.out ?_; intro v3 w3 hN hB hg _; have HN := Aside0.mk hN; have HB3 := Aside0.mk hB; clear hN hB hg))
      go_roundw
      case rel => exact ⟨x + 1, rfl, by omega, by omega, ⟨by rw [take_rdL _ x hx hlt]; exact HN.out⟩, HB3⟩
      case measure => simp [intOf]; omega
    · have HV0 : Aside0 ((Kd.slice 68 k68).R 33 wr w.heap.size (New w) u7 d.earlier) := ⟨by
        have := HV.out
        rwa [List.take_of_length_le (by omega)] at this⟩
      have d1 := blk_cell (blk_below HG.out HB.out) 1
      simp at d1
      have HL : Aside0 ((d.earlier.length + 1) * 24 ≤ 140737488355328) := ⟨by omega⟩
      go_wp2_with (first | (go_at_call 38; refine (C1.out _ HB.out).mono ?_; rintro e w1 ⟨v, rfl, hR, hB⟩; obtain ⟨A3, c3, rfl⟩ := Kd.R_slice hR; have HA := Aside0.mk (hist_apart (.map #[] 0) HV0.out HB.out hB); have HM := Aside0.mk (Kd.M_row (Kd.R_lower hR HB.out.size)); have HV1 := Aside0.mk (Kd.R_below HV0.out hB); have HB1 := Aside0.mk (below_step HB.out hB); clear hR hB) | (at_builtin; refine Kd.R_append (Kd.slice 68 k68) (w0 := w) w.heap.size rfl _ _ 43 33 (.slice none 0 0) 24 rfl Try.underlying43 info33 rfl (by decide) (by decide) u7 d.earlier d.trees [.slice A3 d.trees.length c3] (New w) _ rfl rfl HM.out HA.out (fun _ hk => Nat.le_trans HB1.out.size hk) HV1.out HB1.out HB1.out.size HL.out ?_; intro v3 w3 hN hB hg _; have HN := Aside0.mk hN; have HB3 := Aside0.mk hB; clear hN hB hg))
      go_ret2
      exact ⟨_, rfl, HN.out, HB3.out⟩

set_option maxHeartbeats 1000000 in
set_option maxRecDepth 100000 in
theorem history_none (w : World) (tag : Nat → Nat) (dp mb : Nat) (sb : List Nat) (D : Dk) (h : DeskAt w tag dp mb sb D) (id : Int) (hid : (Lit.int .i64 id).wf = true) (hn : D.get id = none) :
    Calls Try.prog 19 #[.pointer (some ⟨dp, 0, none⟩), .int .i64 id] w fun e w' => e = .returned (.tuple #[.slice none 0 0, .int .i64 4]) ∧ w = w' := by
  obtain ⟨Ae, ce, hb, _, _⟩ := h.desk
  have c2 := blk_cell hb 2
  simp at c2
  have hl := h.map.look id hid
  rw [ptrOf_none h.len hn] at hl
  clear hb h hn hid
  go_enter Try.func19, Try.ntmps19
  go_wp2
  go_ret2
  exact ⟨rfl, rfl⟩

theorem history_calls (w : World) (tag : Nat → Nat) (dp mb : Nat) (sb : List Nat) (D : Dk) (h : DeskAt w tag dp mb sb D) (hok : D.ok) (id : Int) (hid : (Lit.int .i64 id).wf = true) :
    Calls Try.prog 19 #[.pointer (some ⟨dp, 0, none⟩), .int .i64 id] w fun e w' => ∃ v, e = .returned (.tuple #[v, .int .i64 (D.has id)]) ∧ (Kd.slice 68 k68).R 33 w' w.heap.size (New w) v (D.hist id) ∧ Below w.heap.size w w' := by
  unfold Dk.has Dk.hist
  cases hg : D.get id with
  | none =>
    refine (history_none w tag dp mb sb D h id hid hg).mono ?_
    rintro e w' ⟨rfl, rfl⟩
    exact ⟨_, rfl, Kd.R_nil _ _ _ _ _, Below.refl _ _⟩
  | some d =>
    obtain ⟨i, g, rfl, hs, hd, hp⟩ := ptrOf_some h.len hg
    exact history_some w tag dp mb sb D h hok i g d hid hs hd hp
end Go.Proofs.Ytkblcdpmdbofgaa.A
