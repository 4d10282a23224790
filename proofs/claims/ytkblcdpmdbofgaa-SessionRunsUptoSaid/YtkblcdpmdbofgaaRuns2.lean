/- The reference's amend: a revision that is made. -/
import Derived.Test.YtkblcdpmdbofgaaRuns1
/- The reference's close; what its stores do. -/
namespace Go.Proofs.Ytkblcdpmdbofgaa.A
open Go.RowKit Go.Proofs.YtkblcdpmdbofgaaW.PrintWords Go.Proofs.YtkblcdpmdbofgaaW.PrintLast Go.Proofs.YtkblcdpmdbofgaaW.PrintMore
set_option linter.unusedVariables false
set_option linter.unusedSimpArgs false

/-- What an operation of the reference does. -/
def RDid (w0 w : World) (F : Nat → Prop) (rb : Nat) (v : Value) (D1 : Dk) (e : Ending) (w' : World) : Prop := e = .returned v ∧ Ref w0 w' (fun k => F k ∨ w.heap.size ≤ k) rb D1 ∧ Kp w w' (fun k => F k ∧ w0.heap.size ≤ k)
section
variable {w0 w w' : World} {F : Nat → Prop} {rb : Nat} {D : Dk} {i : Nat} {d : Dr} {A : Option Addr} {c g cap : Nat} {Ah : Option Addr} {ch : Nat} {Ap : Option Addr} {cp : Nat}
theorem RefE.grow (h : RefE w0 w F rb D i d A c g cap Ah ch Ap cp) (hB : Below w.heap.size w w') : RefE w0 w' (fun k => F k ∨ w.heap.size ≤ k) rb D i d A c g cap Ah ch Ap cp := by
  obtain ⟨cells, hrow⟩ := Kd.N_typed h.N g rfl
  have hr' := blk_below hrow hB
  exact { blk := blk_below h.blk hB, hc := h.hc, eds := h.eds
          N := Kd.N_mono (Kd.N_below h.N hB) (fun k hk => ⟨.inl hk.1, hk.2⟩)
          FK := Kd.FK_mono (Kd.FK_below h.FK hB) (fun k hk => ⟨⟨.inl hk.1.1, hk.1.2⟩, hk.2⟩)
          cells := fun j u hj => (hB.cell (World.block_lt_of_cell? w _ (h.cells j u hj))).trans (h.cells j u hj)
          fr := fun j => blk_frozen hr' _
          hist := Kd.F_mono (Kd.F_below h.hist hB) (fun k hk => ⟨⟨.inl hk.1.1, hk.1.2⟩, hk.2⟩), hch := h.hch
          app := Kd.F_mono (Kd.F_below h.app hB) (fun k hk => ⟨⟨.inl hk.1.1, hk.1.2⟩, hk.2⟩), hcp := h.hcp, lt := h.lt, ne := h.ne, fg := .inl h.fg, gg := h.gg }
/-- Cells of draft i are written. -/
theorem RefE.put (h : RefE w0 w F rb D i d A c g cap Ah ch Ap cp) (own : F rb) (ge : w0.heap.size ≤ rb) (hB : Below w0.heap.size w0 w) {j : Nat} {seg : List Value} {d' : Dr} (hj : j + seg.length ≤ 4)
    (hFK : Kd.FK k89 w (fun k => (F k ∧ k ≠ rb) ∧ k ≠ g) (rDr d') ([Value.slice Ah (d.earlier.length + 1) ch, .string d.author, .slice Ap d.approvals.length cp, .bool d.closed].take j ++ seg ++ [Value.slice Ah (d.earlier.length + 1) ch, .string d.author, .slice Ap d.approvals.length cp, .bool d.closed].drop (j + seg.length))) :
    Ref w0 (w.setCells g (i * 4 + j) seg) F rb (D.put i d') ∧ Kp w (w.setCells g (i * 4 + j) seg) (fun k => k = g) := by
  have hq := Kd.N_seg (j := j) (seg := seg) h.N (i : Int) (by omega) (by have := h.lt; omega) (c := [Value.slice Ah (d.earlier.length + 1) ch, .string d.author, .slice Ap d.approvals.length cp, .bool d.closed]) rfl (fun j u hj => by rw [Int.toNat_natCast]; exact h.cells j u hj) hj hFK (fun k hk => hk)
  rw [Int.toNat_natCast] at hq
  obtain ⟨hN, hg⟩ := hq
  rw [← rdesk_put] at hN
  have hK : Kp w (w.setCells g (i * 4 + j) seg) (fun k => k = g) := (Kp.of_grown hg).mono (fun k hk => by injection hk with hk; exact hk.symm)
  have hlen : (D.put i d').drafts.length = D.drafts.length := by simp [Dk.put]
  exact ⟨⟨⟨A, c, _, hK.blk h.blk (fun he => h.ne he.symm), h.hc, h.eds, hN⟩, own, ge, Kp.bel hB hK (fun k hk he => by have := h.gg; omega) hB.size⟩, hK⟩
theorem Ref.same (h : Ref w0 w F rb D) (hB : Below w.heap.size w w') (v : Value) : RDid w0 w F rb v D (.returned v) w' := ⟨rfl, (h.grow hB).mono (fun k hk => .inl hk), Kp.of_below hB _⟩
theorem RDid.mk {w1 : World} {v : Value} {D1 : Dk} (hB : Below w.heap.size w w1) (hR : Ref w0 w' (fun k => F k ∨ w.heap.size ≤ k) rb D1) {gs : Nat → Prop} (hK : Kp w1 w' gs) (hg : ∀ k, gs k → (F k ∧ w0.heap.size ≤ k) ∨ w.heap.size ≤ k) : RDid w0 w F rb v D1 (.returned v) w' :=
  ⟨rfl, hR, ((Kp.of_below hB (fun _ => False)).mono (fun _ h => h.elim)).then_ hK hg⟩
end

set_option maxHeartbeats 1000000 in
set_option maxRecDepth 100000 in
theorem rclose_calls {w0 w : World} {F : Nat → Prop} {rb : Nat} {D : Dk} (h : Ref w0 w F rb D) (hd256 : D.drafts.length ≤ 256) (id : Int) :
    Calls Try.prog 46 #[.pointer (some ⟨rb, 0, none⟩), .int .i64 id] w (RDid w0 w F rb (.int .i64 (D.close id).1) (D.close id).2) := by
  have C52 := Aside0.mk (found_calls h id)
  cases hg : D.get id with
  | none =>
    rw [hg] at C52
    have HF : Aside0 (D.close id = (4, D)) := ⟨by unfold Dk.close; rw [hg]⟩
    have HS := Aside0.mk (h.same (Below.refl _ _) (.int .i64 4))
    clear h hg
    go_enter Try.func46, Try.ntmps46
    go_wp2_with (go_at_call 52; refine C52.out.mono ?_; rintro e w1 ⟨rfl, rfl⟩)
    go_ret
    rw [HF.out]
    exact HS.out
  | some d =>
    rw [hg] at C52
    obtain ⟨i, rfl, hdi⟩ := get_idx hg
    obtain ⟨A, c, g, cap, Ah, ch, Ap, cp, hE⟩ := h.at_ hdi
    have hlt := hE.lt
    have c2 := blk_cell hE.blk 2
    simp at c2
    have e3 := hE.cells 3 _ rfl
    have fr := hE.fr 3
    have fw1 : wrap64 ((i : Int) + 1 - 1) = (i : Int) := (wrap_small (by omega) (by omega)).trans (by omega)
    have fw2 : IntKind.i64.wrap ((i : Int) + 1 - 1) = (i : Int) := (wrap_i64 (by omega) (by omega)).trans (by omega)
    have fi1 : (0 : Int) ≤ (i : Int) := Int.natCast_nonneg _
    have fi2 : (i : Int) < (D.drafts.length : Int) := by omega
    have hi256 : i ≤ 256 := by omega
    cases hcl : d.closed with
    | true =>
      have HF : Aside0 (D.close ((i : Int) + 1) = (10, D)) := ⟨by unfold Dk.close; rw [hg]; simp [hcl]⟩
      have HS := Aside0.mk (h.same (Below.refl _ _) (.int .i64 10))
      rw [hcl] at e3
      clear h hg hdi hE hlt hcl
      go_enter Try.func46, Try.ntmps46
      go_wp2_with (go_at_call 52; refine C52.out.mono ?_; rintro e w1 ⟨rfl, rfl⟩)
      go_ret
      rw [HF.out]
      exact HS.out
    | false =>
      have HF : Aside0 (D.close ((i : Int) + 1) = (0, D.put i { d with closed := true })) := ⟨by unfold Dk.close; rw [hg]; simp [hcl]⟩
      have hP := hE.put h.own h.ge h.below (j := 3) (seg := [.bool true]) (d' := { d with closed := true }) (by decide) (k89_mkF w _ (rDr { d with closed := true }) (by simpa [rDr] using hE.hch) (by simpa [rDr] using hE.hist) hE.hcp hE.app |> fun q => by simpa [rDr] using q)
      have HS := Aside0.mk (RDid.mk (v := .int .i64 0) (Below.refl _ _) (hP.1.mono (fun k hk => Or.inl hk)) hP.2 (fun k hk => .inl (hk ▸ ⟨hE.fg, hE.gg⟩)))
      rw [hcl] at e3
      clear h hg hdi hE hlt hcl hP
      go_enter Try.func46, Try.ntmps46
      go_wp2_with (go_at_call 52; refine C52.out.mono ?_; rintro e w1 ⟨rfl, rfl⟩)
      go_ret
      rw [HF.out]
      exact HS.out
end Go.Proofs.Ytkblcdpmdbofgaa.A
/- The reference's approve: refusals. -/
namespace Go.Proofs.Ytkblcdpmdbofgaa.A
open Go.RowKit Go.Proofs.YtkblcdpmdbofgaaW.PrintWords Go.Proofs.YtkblcdpmdbofgaaW.PrintLast Go.Proofs.YtkblcdpmdbofgaaW.PrintMore
set_option linter.unusedVariables false
set_option linter.unusedSimpArgs false

set_option maxHeartbeats 4000000 in
set_option maxRecDepth 100000 in
theorem rapprove_no {w0 w : World} {F : Nat → Prop} {rb : Nat} {D : Dk} (h : Ref w0 w F rb D) (hd256 : D.drafts.length ≤ 256) (heds : D.eds.length ≤ 2000000) (hlow : ∀ d ∈ D.drafts, d.earlier.length ≤ 255 ∧ d.approvals.length ≤ 90000) (x0 : Int) (ed : ByteArray) (id num : Int) (A4 : Option Addr) (n4 c4 : Nat)
    (hno : (D.approve ed id num).1 ≠ 0) :
    Calls Try.prog 44 #[.pointer (some ⟨rb, 0, none⟩), .agg #[.int .i64 x0, .string ed, .int .i64 id, .int .i64 num, .slice A4 n4 c4]] w fun e w' => e = .returned (.int .i64 (D.approve ed id num).1) ∧ Below w.heap.size w w' := by
  have HB0 := Aside0.mk (below_alloc (Below.refl w.heap.size w) (.cells #[.int .i64 x0, .string ed, .int .i64 id, .int .i64 num, .slice A4 n4 c4] 35))
  have HX := heap_alloc_new w (.cells #[.int .i64 x0, .string ed, .int .i64 id, .int .i64 num, .slice A4 n4 c4] 35)
  have C52 := Aside0.mk (fun (W : World) (hW : Below w.heap.size w W) => found_calls (h.grow hW) id)
  obtain ⟨A, c, Av, cv, hbk, hce, hC⟩ := h.len
  have C16 := Aside0.mk (fun (W : World) (hW : Below w.heap.size w W) => in_calls A c D.eds ed W heds (Kd.C_below hC (below_step h.below hW)) hce)
  have hbW := blk_below hbk HB0.out
  cases hm : memS D.eds ed with
  | false =>
    rw [hm] at C16
    have HF : Aside0 ((D.approve ed id num).1 = 1) := ⟨by unfold Dk.approve; rw [if_pos hm]⟩
    have k1 := blk_cell HX 1
    have b0 := blk_cell hbW 0
    replace k1 : (w.alloc (.cells #[.int .i64 x0, .string ed, .int .i64 id, .int .i64 num, .slice A4 n4 c4] 35)).cell? ⟨w.heap.size, 1, none⟩ = some (.string ed) := k1
    replace b0 : (w.alloc (.cells #[.int .i64 x0, .string ed, .int .i64 id, .int .i64 num, .slice A4 n4 c4] 35)).cell? ⟨rb, 0, none⟩ = some (.slice A D.eds.length c) := b0
    clear h hlow hno hbk hC hbW HX hm
    go_enter Try.func44, Try.ntmps44
    go_wp2_with fail
    generalize (w.alloc (.cells #[.int .i64 x0, .string ed, .int .i64 id, .int .i64 num, .slice A4 n4 c4] 35)) = W at *
    go_quiet (first | (go_at_call 16; refine (C16.out _ (pw_below_drewN HB0.out _)).mono ?_; rintro e w' ⟨rfl, ⟨nd, rfl⟩⟩; (try first | exact ⟨rfl, _, World.drewN_drewN _ _ _⟩ | exact ⟨rfl, _, Eq.trans (World.drewN_drewN _ _ _) (congrArg (World.drewN _) (Nat.add_assoc _ _ _))⟩)))
    go_wp2
    go_ret
    exact ⟨by rw [HF.out]; rfl, by repeat (first | exact HB0.out | apply pw_below_drewN)⟩
  | true =>
    rw [hm] at C16
    cases hg : D.get id with
    | none =>
      rw [hg] at C52
      have HF : Aside0 ((D.approve ed id num).1 = 4) := ⟨by unfold Dk.approve Dk.cur; rw [if_neg (by simp [hm]), hg, if_pos (by simp)]⟩
      have k1 : (w.alloc (.cells #[.int .i64 x0, .string ed, .int .i64 id, .int .i64 num, .slice A4 n4 c4] 35)).cell? ⟨w.heap.size, 1, none⟩ = some (.string ed) := blk_cell HX 1
      have k2 : (w.alloc (.cells #[.int .i64 x0, .string ed, .int .i64 id, .int .i64 num, .slice A4 n4 c4] 35)).cell? ⟨w.heap.size, 2, none⟩ = some (.int .i64 id) := blk_cell HX 2
      have b0 : (w.alloc (.cells #[.int .i64 x0, .string ed, .int .i64 id, .int .i64 num, .slice A4 n4 c4] 35)).cell? ⟨rb, 0, none⟩ = some (.slice A D.eds.length c) := blk_cell hbW 0
      clear h hlow hno hbk hC hbW HX hm hg
      go_enter Try.func44, Try.ntmps44
      go_wp2_with fail
      generalize (w.alloc (.cells #[.int .i64 x0, .string ed, .int .i64 id, .int .i64 num, .slice A4 n4 c4] 35)) = W at *
      go_quiet (first | (go_at_call 16; refine (C16.out _ (pw_below_drewN HB0.out _)).mono ?_; rintro e w' ⟨rfl, ⟨nd, rfl⟩⟩; (try first | exact ⟨rfl, _, World.drewN_drewN _ _ _⟩ | exact ⟨rfl, _, Eq.trans (World.drewN_drewN _ _ _) (congrArg (World.drewN _) (Nat.add_assoc _ _ _))⟩)))
      go_wp2_with (go_at_call 52; refine (C52.out _ (pw_below_drewN HB0.out _)).mono ?_; rintro e w1 ⟨rfl, rfl⟩)
      go_ret
      exact ⟨by rw [HF.out]; rfl, by repeat (first | exact HB0.out | apply pw_below_drewN)⟩
    | some d =>
      rw [hg] at C52
      have hq := hlow d (Dk.get_mem hg)
      have hq1 := hq.1
      have hq2 := hq.2
      obtain ⟨i, rfl, hdi⟩ := get_idx hg
      have HAP : Aside0 ((D.approve ed ((i : Int) + 1) num).1 = if d.closed = true then 10 else if (d.earlier.length : Int) + 1 = num then (if d.author.toList = ed.toList then 10 else if memS d.approvals ed = true then 5 else 0) else 11) := ⟨by
        unfold Dk.approve Dk.cur
        rw [if_neg (by simp [hm]), hg]
        simp only
        split
        · simp
        · split
          · simp only [ne_eq, not_true_eq_false, if_false]
            split
            · rfl
            · split <;> rfl
          · simp⟩
      obtain ⟨A2, c2, g, cap, Ah, ch, Ap, cp, hE⟩ := h.at_ hdi
      have hlt := hE.lt
      have hEW := hE.grow HB0.out
      have C16b := Aside0.mk (fun (W : World) (hW : Below w.heap.size w W) => in_calls Ap cp d.approvals ed W (by omega) (Kd.F_now (Kd.F_below hE.app hW)) hE.hcp)
      have k1 : (w.alloc (.cells #[.int .i64 x0, .string ed, .int .i64 ((i : Int) + 1), .int .i64 num, .slice A4 n4 c4] 35)).cell? ⟨w.heap.size, 1, none⟩ = some (.string ed) := blk_cell HX 1
      have k2 : (w.alloc (.cells #[.int .i64 x0, .string ed, .int .i64 ((i : Int) + 1), .int .i64 num, .slice A4 n4 c4] 35)).cell? ⟨w.heap.size, 2, none⟩ = some (.int .i64 ((i : Int) + 1)) := blk_cell HX 2
      have k3 : (w.alloc (.cells #[.int .i64 x0, .string ed, .int .i64 ((i : Int) + 1), .int .i64 num, .slice A4 n4 c4] 35)).cell? ⟨w.heap.size, 3, none⟩ = some (.int .i64 num) := blk_cell HX 3
      have b0 : (w.alloc (.cells #[.int .i64 x0, .string ed, .int .i64 ((i : Int) + 1), .int .i64 num, .slice A4 n4 c4] 35)).cell? ⟨rb, 0, none⟩ = some (.slice A D.eds.length c) := blk_cell hbW 0
      have b2 : (w.alloc (.cells #[.int .i64 x0, .string ed, .int .i64 ((i : Int) + 1), .int .i64 num, .slice A4 n4 c4] 35)).cell? ⟨rb, 2, none⟩ = some (.slice (some ⟨g, 0, none⟩) D.drafts.length cap) := blk_cell hEW.blk 2
      have e0 : (w.alloc (.cells #[.int .i64 x0, .string ed, .int .i64 ((i : Int) + 1), .int .i64 num, .slice A4 n4 c4] 35)).cell? ⟨g, i * 4, none⟩ = some (.slice Ah (d.earlier.length + 1) ch) := hEW.cells 0 _ rfl
      have e1 : (w.alloc (.cells #[.int .i64 x0, .string ed, .int .i64 ((i : Int) + 1), .int .i64 num, .slice A4 n4 c4] 35)).cell? ⟨g, i * 4 + 1, none⟩ = some (.string d.author) := hEW.cells 1 _ rfl
      have e2 : (w.alloc (.cells #[.int .i64 x0, .string ed, .int .i64 ((i : Int) + 1), .int .i64 num, .slice A4 n4 c4] 35)).cell? ⟨g, i * 4 + 2, none⟩ = some (.slice Ap d.approvals.length cp) := hEW.cells 2 _ rfl
      have e3 : (w.alloc (.cells #[.int .i64 x0, .string ed, .int .i64 ((i : Int) + 1), .int .i64 num, .slice A4 n4 c4] 35)).cell? ⟨g, i * 4 + 3, none⟩ = some (.bool d.closed) := hEW.cells 3 _ rfl
      have fw1 : wrap64 ((i : Int) + 1 - 1) = (i : Int) := (wrap_small (by omega) (by omega)).trans (by omega)
      have fw2 : IntKind.i64.wrap ((i : Int) + 1 - 1) = (i : Int) := (wrap_i64 (by omega) (by omega)).trans (by omega)
      have fi1 : (0 : Int) ≤ (i : Int) := Int.natCast_nonneg _
      have fi2 : (i : Int) < (D.drafts.length : Int) := by omega
      have hi256 : i ≤ 256 := by omega
      obtain ⟨du, dt, de, da, dc⟩ := d
      simp only at *
      have HNO := Aside0.mk (HAP.out ▸ hno)
      clear h hlow hno hbk hC hbW HX hm hg hE hEW hq hdi hlt
      cases dc with
      | true =>
        have HF : Aside0 ((D.approve ed ((i : Int) + 1) num).1 = 10) := ⟨by rw [HAP.out]; rfl⟩
        clear HAP HNO
        go_enter Try.func44, Try.ntmps44
        go_wp2_with fail
        generalize (w.alloc (.cells #[.int .i64 x0, .string ed, .int .i64 ((i : Int) + 1), .int .i64 num, .slice A4 n4 c4] 35)) = W at *
        go_quiet (first | (go_at_call 16; refine (C16.out _ (pw_below_drewN HB0.out _)).mono ?_; rintro e w' ⟨rfl, ⟨nd, rfl⟩⟩; (try first | exact ⟨rfl, _, World.drewN_drewN _ _ _⟩ | exact ⟨rfl, _, Eq.trans (World.drewN_drewN _ _ _) (congrArg (World.drewN _) (Nat.add_assoc _ _ _))⟩)))
        go_wp2_with (go_at_call 52; refine (C52.out _ (pw_below_drewN HB0.out _)).mono ?_; rintro e w1 ⟨rfl, rfl⟩)
        go_quiet (fail)
        go_wp2_with fail
        go_ret
        exact ⟨by rw [HF.out]; rfl, by repeat (first | exact HB0.out | apply pw_below_drewN)⟩
      | false =>
        by_cases h2 : (de.length : Int) + 1 = num
        · subst h2
          by_cases h3 : du.toList = ed.toList
          · have HF : Aside0 ((D.approve ed ((i : Int) + 1) ((de.length : Int) + 1)).1 = 10) := ⟨by rw [HAP.out, if_neg (by simp), if_pos rfl, if_pos h3]⟩
            have q3 : (ed.toList == du.toList) = true := beq_iff_eq.mpr h3.symm
            clear HAP HNO h3
            go_enter Try.func44, Try.ntmps44
            go_wp2_with fail
            generalize (w.alloc (.cells #[.int .i64 x0, .string ed, .int .i64 ((i : Int) + 1), .int .i64 ((de.length : Int) + 1), .slice A4 n4 c4] 35)) = W at *
            go_quiet (first | (go_at_call 16; refine (C16.out _ (pw_below_drewN HB0.out _)).mono ?_; rintro e w' ⟨rfl, ⟨nd, rfl⟩⟩; (try first | exact ⟨rfl, _, World.drewN_drewN _ _ _⟩ | exact ⟨rfl, _, Eq.trans (World.drewN_drewN _ _ _) (congrArg (World.drewN _) (Nat.add_assoc _ _ _))⟩)))
            go_wp2_with (go_at_call 52; refine (C52.out _ (pw_below_drewN HB0.out _)).mono ?_; rintro e w1 ⟨rfl, rfl⟩)
            go_quiet (fail)
            go_wp2_with fail
            go_quiet (fail)
            go_wp2_with fail
            go_quiet (fail)
            go_wp2_with fail
            go_ret
            exact ⟨by rw [HF.out]; rfl, by repeat (first | exact HB0.out | apply pw_below_drewN)⟩
          · by_cases h4 : memS da ed = true
            · have HF : Aside0 ((D.approve ed ((i : Int) + 1) ((de.length : Int) + 1)).1 = 5) := ⟨by rw [HAP.out, if_neg (by simp), if_pos rfl, if_neg h3, if_pos h4]⟩
              have q3 : (ed.toList == du.toList) = false := beq_eq_false_iff_ne.mpr (fun e => h3 e.symm)
              rw [h4] at C16b
              clear HAP HNO h3 h4
              go_enter Try.func44, Try.ntmps44
              go_wp2_with fail
              generalize (w.alloc (.cells #[.int .i64 x0, .string ed, .int .i64 ((i : Int) + 1), .int .i64 ((de.length : Int) + 1), .slice A4 n4 c4] 35)) = W at *
              go_quiet (first | (go_at_call 16; refine (C16.out _ (pw_below_drewN HB0.out _)).mono ?_; rintro e w' ⟨rfl, ⟨nd, rfl⟩⟩; (try first | exact ⟨rfl, _, World.drewN_drewN _ _ _⟩ | exact ⟨rfl, _, Eq.trans (World.drewN_drewN _ _ _) (congrArg (World.drewN _) (Nat.add_assoc _ _ _))⟩)))
              go_wp2_with (go_at_call 52; refine (C52.out _ (pw_below_drewN HB0.out _)).mono ?_; rintro e w1 ⟨rfl, rfl⟩)
              go_quiet (fail)
              go_wp2_with fail
              go_quiet (fail)
              go_wp2_with fail
              go_quiet (fail)
              go_wp2_with fail
              go_quiet (first | (go_at_call 16; refine (C16b.out _ (pw_below_drewN HB0.out _)).mono ?_; rintro e w' ⟨rfl, ⟨nd, rfl⟩⟩; (try first | exact ⟨rfl, _, World.drewN_drewN _ _ _⟩ | exact ⟨rfl, _, Eq.trans (World.drewN_drewN _ _ _) (congrArg (World.drewN _) (Nat.add_assoc _ _ _))⟩)))
              go_wp2_with fail
              go_ret
              exact ⟨by rw [HF.out]; rfl, by repeat (first | exact HB0.out | apply pw_below_drewN)⟩
            · exact absurd (by rw [if_neg (by simp), if_pos rfl, if_neg h3, if_neg h4]) HNO.out
        · have HF : Aside0 ((D.approve ed ((i : Int) + 1) num).1 = 11) := ⟨by rw [HAP.out, if_neg (by simp), if_neg h2]⟩
          have q2 : (num != (de.length : Int) + 1) = true := by rw [bne_iff_ne]; exact fun e => h2 e.symm
          have q2b : (num == (de.length : Int) + 1) = false := beq_eq_false_iff_ne.mpr (fun e => h2 e.symm)
          clear HAP HNO h2
          go_enter Try.func44, Try.ntmps44
          go_wp2_with fail
          generalize (w.alloc (.cells #[.int .i64 x0, .string ed, .int .i64 ((i : Int) + 1), .int .i64 num, .slice A4 n4 c4] 35)) = W at *
          go_quiet (first | (go_at_call 16; refine (C16.out _ (pw_below_drewN HB0.out _)).mono ?_; rintro e w' ⟨rfl, ⟨nd, rfl⟩⟩; (try first | exact ⟨rfl, _, World.drewN_drewN _ _ _⟩ | exact ⟨rfl, _, Eq.trans (World.drewN_drewN _ _ _) (congrArg (World.drewN _) (Nat.add_assoc _ _ _))⟩)))
          go_wp2_with (go_at_call 52; refine (C52.out _ (pw_below_drewN HB0.out _)).mono ?_; rintro e w1 ⟨rfl, rfl⟩)
          go_quiet (fail)
          go_wp2_with fail
          go_quiet (fail)
          go_wp2_with fail
          go_ret
          exact ⟨by rw [HF.out]; rfl, by repeat (first | exact HB0.out | apply pw_below_drewN)⟩
end Go.Proofs.Ytkblcdpmdbofgaa.A
/- The reference's approve: an approval that is taken. -/
namespace Go.Proofs.Ytkblcdpmdbofgaa.A
open Go.RowKit Go.Proofs.YtkblcdpmdbofgaaW.PrintWords Go.Proofs.YtkblcdpmdbofgaaW.PrintLast Go.Proofs.YtkblcdpmdbofgaaW.PrintMore
set_option linter.unusedVariables false
set_option linter.unusedSimpArgs false

theorem C_one {w : World} {b : Nat} {x : ByteArray} (h : w.heap[b]? = some (.cells #[.string x] 9 (0, 0))) : Kd.string.C w (some ⟨b, 0, none⟩) 1 [x] := by
  refine ⟨rfl, show (1 : Nat) ≤ 9223372036854775807 by decide, fun _ => ⟨_, rfl, fun j p hj => ⟨[.string p], rfl, rfl, fun i u hi => ?_⟩⟩⟩
  have hi0 : i = 0 := by
    have := (List.getElem?_eq_some_iff.1 hi).1
    simp at this
    exact this
  subst hi0
  have hj0 : j = 0 := by
    have := (List.getElem?_eq_some_iff.1 hj).1
    simp at this
    exact this
  subst hj0
  simp at hi hj
  subst hi
  subst hj
  rw [add_plain]
  exact blk_cell h 0
/-- Behind the appends: the draft's approvals are stored. -/
theorem rapprove_end {w0 w W2 w6 : World} {F : Nat → Prop} {rb : Nat} {D : Dk} {i : Nat} {d : Dr} {A : Option Addr} {c g cap : Nat} {Ah : Option Addr} {ch : Nat} {Ap : Option Addr} {cp : Nat} (hE : RefE w0 w F rb D i d A c g cap Ah ch Ap cp) (own : F rb) (ge : w0.heap.size ≤ rb) (hB : Below w0.heap.size w0 w)
    (hB2 : Below w.heap.size w W2) (hB6 : Below W2.heap.size W2 w6) {l : List ByteArray} {v : Value} (hR : Kd.string.R 9 w6 W2.heap.size (fun k => W2.heap.size ≤ k) v l) (r : Value) :
    RDid w0 w F rb r (D.put i { d with approvals := l }) (.returned r) (w6.setCell ⟨g, i * 4 + 2, none⟩ v) := by
  have hB6w := below_step hB2 hB6
  have hE6 := hE.grow hB6w
  obtain ⟨A2, c2, rfl⟩ := Kd.R_slice hR
  have hlt := blk_lt hE.blk
  have hrow : g < w.heap.size := by obtain ⟨cells, hrow⟩ := Kd.N_typed hE.N g rfl; exact blk_lt hrow
  have hsz := hB2.size
  have hF := Kd.N_F (Kd.R_N hR)
  have hP := hE6.put (.inl own) ge (below_step hB hB6w) (j := 2) (seg := [.slice A2 l.length c2]) (d' := { d with approvals := l }) (by simp)
    (by
      have q := k89_mkF w6 (fun k => ((F k ∨ w.heap.size ≤ k) ∧ k ≠ rb) ∧ k ≠ g) (rDr { d with approvals := l }) (A0 := Ah) (c0 := ch) (A2 := A2) (c2 := c2) (by simpa [rDr] using hE6.hch) (by simpa [rDr] using hE6.hist) (Kd.R_reads' hR).2.1 (Kd.F_mono hF (fun k hk => ⟨⟨.inr (Nat.le_trans hsz hk), by omega⟩, by omega⟩))
      simpa [rDr] using q)
  exact RDid.mk hB6w hP.1 hP.2 (fun k hk => .inl (hk ▸ ⟨hE.fg, hE.gg⟩))

set_option maxHeartbeats 4000000 in
set_option maxRecDepth 100000 in
theorem rapprove_yes {w0 w : World} {F : Nat → Prop} {rb : Nat} {D : Dk} (h : Ref w0 w F rb D) (hd256 : D.drafts.length ≤ 256) (heds : D.eds.length ≤ 2000000) (x0 : Int) (ed : ByteArray) (A4 : Option Addr) (n4 c4 : Nat)
    (i : Nat) (du : ByteArray) (dt : List S68) (de : List (List S68)) (da : List ByteArray) (hdi : D.drafts[i]? = some ⟨du, dt, de, da, false⟩) (hg : D.get ((i : Int) + 1) = some ⟨du, dt, de, da, false⟩) (hm : memS D.eds ed = true) (h3 : du.toList ≠ ed.toList) (h4 : memS da ed = false) (hq1 : de.length ≤ 255) (hq2 : da.length ≤ 90000) :
    Calls Try.prog 44 #[.pointer (some ⟨rb, 0, none⟩), .agg #[.int .i64 x0, .string ed, .int .i64 ((i : Int) + 1), .int .i64 ((de.length : Int) + 1), .slice A4 n4 c4]] w (RDid w0 w F rb (.int .i64 0) (D.put i ⟨du, dt, de, da ++ [ed], false⟩)) := by
  have HB0 := Aside0.mk (below_alloc (Below.refl w.heap.size w) (.cells #[.int .i64 x0, .string ed, .int .i64 ((i : Int) + 1), .int .i64 ((de.length : Int) + 1), .slice A4 n4 c4] 35))
  have HX := heap_alloc_new w (.cells #[.int .i64 x0, .string ed, .int .i64 ((i : Int) + 1), .int .i64 ((de.length : Int) + 1), .slice A4 n4 c4] 35)
  have C52 := Aside0.mk (fun (W : World) (hW : Below w.heap.size w W) => found_calls (h.grow hW) ((i : Int) + 1))
  rw [hg] at C52
  obtain ⟨A, c, Av, cv, hbk, hce, hC⟩ := h.len
  have C16 := Aside0.mk (fun (W : World) (hW : Below w.heap.size w W) => in_calls A c D.eds ed W heds (Kd.C_below hC (below_step h.below hW)) hce)
  rw [hm] at C16
  have hbW := blk_below hbk HB0.out
  obtain ⟨A2, c2, g, cap, Ah, ch, Ap, cp, hE⟩ := h.at_ hdi
  have hlt := hE.lt
  have hEW := hE.grow HB0.out
  have C16b := Aside0.mk (fun (W : World) (hW : Below w.heap.size w W) => in_calls Ap cp da ed W (by omega) (Kd.F_now (Kd.F_below hE.app hW)) hE.hcp)
  rw [h4] at C16b
  have k1 : (w.alloc (.cells #[.int .i64 x0, .string ed, .int .i64 ((i : Int) + 1), .int .i64 ((de.length : Int) + 1), .slice A4 n4 c4] 35)).cell? ⟨w.heap.size, 1, none⟩ = some (.string ed) := blk_cell HX 1
  have k2 : (w.alloc (.cells #[.int .i64 x0, .string ed, .int .i64 ((i : Int) + 1), .int .i64 ((de.length : Int) + 1), .slice A4 n4 c4] 35)).cell? ⟨w.heap.size, 2, none⟩ = some (.int .i64 ((i : Int) + 1)) := blk_cell HX 2
  have k3 : (w.alloc (.cells #[.int .i64 x0, .string ed, .int .i64 ((i : Int) + 1), .int .i64 ((de.length : Int) + 1), .slice A4 n4 c4] 35)).cell? ⟨w.heap.size, 3, none⟩ = some (.int .i64 ((de.length : Int) + 1)) := blk_cell HX 3
  have b0 : (w.alloc (.cells #[.int .i64 x0, .string ed, .int .i64 ((i : Int) + 1), .int .i64 ((de.length : Int) + 1), .slice A4 n4 c4] 35)).cell? ⟨rb, 0, none⟩ = some (.slice A D.eds.length c) := blk_cell hbW 0
  have b2 : (w.alloc (.cells #[.int .i64 x0, .string ed, .int .i64 ((i : Int) + 1), .int .i64 ((de.length : Int) + 1), .slice A4 n4 c4] 35)).cell? ⟨rb, 2, none⟩ = some (.slice (some ⟨g, 0, none⟩) D.drafts.length cap) := blk_cell hEW.blk 2
  have e0 : (w.alloc (.cells #[.int .i64 x0, .string ed, .int .i64 ((i : Int) + 1), .int .i64 ((de.length : Int) + 1), .slice A4 n4 c4] 35)).cell? ⟨g, i * 4, none⟩ = some (.slice Ah (de.length + 1) ch) := hEW.cells 0 _ rfl
  have e1 : (w.alloc (.cells #[.int .i64 x0, .string ed, .int .i64 ((i : Int) + 1), .int .i64 ((de.length : Int) + 1), .slice A4 n4 c4] 35)).cell? ⟨g, i * 4 + 1, none⟩ = some (.string du) := hEW.cells 1 _ rfl
  have e2 : (w.alloc (.cells #[.int .i64 x0, .string ed, .int .i64 ((i : Int) + 1), .int .i64 ((de.length : Int) + 1), .slice A4 n4 c4] 35)).cell? ⟨g, i * 4 + 2, none⟩ = some (.slice Ap da.length cp) := hEW.cells 2 _ rfl
  have e3 : (w.alloc (.cells #[.int .i64 x0, .string ed, .int .i64 ((i : Int) + 1), .int .i64 ((de.length : Int) + 1), .slice A4 n4 c4] 35)).cell? ⟨g, i * 4 + 3, none⟩ = some (.bool false) := hEW.cells 3 _ rfl
  have fw1 : wrap64 ((i : Int) + 1 - 1) = (i : Int) := (wrap_small (by omega) (by omega)).trans (by omega)
  have fw2 : IntKind.i64.wrap ((i : Int) + 1 - 1) = (i : Int) := (wrap_i64 (by omega) (by omega)).trans (by omega)
  have fi1 : (0 : Int) ≤ (i : Int) := Int.natCast_nonneg _
  have fi2 : (i : Int) < (D.drafts.length : Int) := by omega
  have hi256 : i ≤ 256 := by omega
  have q3 : (ed.toList == du.toList) = false := beq_eq_false_iff_ne.mpr (fun e => h3 e.symm)
  have HE := Aside0.mk hE
  have HXK := Aside0.mk HX
  have HH := Aside0.mk h
  clear h hbk hC hbW HX hm hg hE hEW hdi hlt h3 h4
  go_enter Try.func44, Try.ntmps44
  go_wp2_with fail
  generalize (w.alloc (.cells #[.int .i64 x0, .string ed, .int .i64 ((i : Int) + 1), .int .i64 ((de.length : Int) + 1), .slice A4 n4 c4] 35)) = W at *
  go_quiet (first | (go_at_call 16; refine (C16.out _ (pw_below_drewN HB0.out _)).mono ?_; rintro e w' ⟨rfl, ⟨nd, rfl⟩⟩; (try first | exact ⟨rfl, _, World.drewN_drewN _ _ _⟩ | exact ⟨rfl, _, Eq.trans (World.drewN_drewN _ _ _) (congrArg (World.drewN _) (Nat.add_assoc _ _ _))⟩)))
  go_wp2_with (go_at_call 52; refine (C52.out _ (pw_below_drewN HB0.out _)).mono ?_; rintro e w1 ⟨rfl, rfl⟩)
  go_quiet (fail)
  go_wp2_with fail
  go_quiet (fail)
  go_wp2_with fail
  go_quiet (fail)
  go_wp2_with fail
  go_quiet (first | (go_at_call 16; refine (C16b.out _ (pw_below_drewN HB0.out _)).mono ?_; rintro e w' ⟨rfl, ⟨nd, rfl⟩⟩; (try first | exact ⟨rfl, _, World.drewN_drewN _ _ _⟩ | exact ⟨rfl, _, Eq.trans (World.drewN_drewN _ _ _) (congrArg (World.drewN _) (Nat.add_assoc _ _ _))⟩)))
  go_wp2_with fail
  generalize hW2 : World.drewN _ _ = W2 at *
  have HB2 : Aside0 (Below w.heap.size w W2) := ⟨by rw [← hW2]; repeat (first | exact HB0.out | apply pw_below_drewN)⟩
  have HX2 : Aside0 (W2.heap[w.heap.size]? = some (.cells #[.int .i64 x0, .string ed, .int .i64 ((i : Int) + 1), .int .i64 ((de.length : Int) + 1), .slice A4 n4 c4] 35 (0, 0))) := ⟨by rw [← hW2]; exact HXK.out⟩
  clear hW2
  have hE2 := HE.out.grow HB2.out
  have HAp := Aside0.mk (fun (W : World) (hW : Below W2.heap.size W2 W) => Kd.F_now (Kd.F_below hE2.app hW))
  have hg2 : W2.cell? ⟨g, i * 4 + 2, none⟩ = some (.slice Ap da.length cp) := hE2.cells 2 _ rfl
  have hgl : g < W2.heap.size := World.block_lt_of_cell? W2 _ hg2
  have hxl := blk_lt HX2.out
  have ha1 : ∀ o, (W2.alloc o).cell? ⟨g, i * 4 + 2, none⟩ = some (.slice Ap da.length cp) := fun o => ((below_alloc (Below.refl W2.heap.size W2) o).cell hgl).trans hg2
  have ha2 : ∀ o o', ((W2.alloc o).alloc o').cell? ⟨g, i * 4 + 2, none⟩ = some (.slice Ap da.length cp) := fun o o' => ((below_alloc (below_alloc (Below.refl W2.heap.size W2) o) o').cell hgl).trans hg2
  have hx0 : W2.cell? ⟨w.heap.size, 1, none⟩ = some (.string ed) := blk_cell HX2.out 1
  have hx1 : ∀ o, (W2.alloc o).cell? ⟨w.heap.size, 1, none⟩ = some (.string ed) := fun o => blk_cell (blk_alloc HX2.out o) 1
  have hx2 : ∀ o o', ((W2.alloc o).alloc o').cell? ⟨w.heap.size, 1, none⟩ = some (.string ed) := fun o o' => blk_cell (blk_alloc (blk_alloc HX2.out o) o') 1
  have HE1 := Aside0.mk (Kd.R_drew (R_empty Kd.string 9 W2 W2.heap.size (fun k => W2.heap.size ≤ k) (Nat.le_refl _) (Nat.le_refl _)))
  have HE2 := Aside0.mk (Kd.R_drew (Kd.R_alloc (R_empty Kd.string 9 W2 W2.heap.size (fun k => W2.heap.size ≤ k) (Nat.le_refl _) (Nat.le_refl _)) (.cells #[.string ed] 9)))
  have HE3 : Aside0 (Kd.string.R 9 ((W2.alloc (.cells #[.string ed] 9)).alloc (.cells #[] 9)).drew W2.heap.size (fun k => W2.heap.size ≤ k) (.slice (some ⟨W2.heap.size + 1, 0, none⟩) 0 0) []) := ⟨by
    have q := Kd.R_drew (R_empty Kd.string 9 (W2.alloc (.cells #[.string ed] 9)) W2.heap.size (fun k => W2.heap.size ≤ k) (by simp) (by simp))
    rw [show (W2.alloc (.cells #[.string ed] 9)).heap.size = W2.heap.size + 1 by simp] at q
    exact q⟩
  have B1 := Aside0.mk (below_drew (below_alloc (Below.refl W2.heap.size W2) (.cells #[] 9)))
  have B2 := Aside0.mk (below_drew (below_alloc (below_alloc (Below.refl W2.heap.size W2) (.cells #[] 9)) (.cells #[.string ed] 9)))
  have B3 := Aside0.mk (below_drew (below_alloc (below_alloc (Below.refl W2.heap.size W2) (.cells #[.string ed] 9)) (.cells #[] 9)))
  have L2 : Aside0 (((W2.alloc (.cells #[] 9)).alloc (.cells #[.string ed] 9)).drew.heap[W2.heap.size + 1]? = some (.cells #[.string ed] 9 (0, 0))) := ⟨by
    have q := heap_alloc_new (W2.alloc (.cells #[] 9)) (.cells #[.string ed] 9 (0, 0))
    rwa [show (W2.alloc (.cells #[] 9)).heap.size = W2.heap.size + 1 by simp] at q⟩
  have L3 : Aside0 (((W2.alloc (.cells #[.string ed] 9)).alloc (.cells #[] 9)).drew.heap[W2.heap.size]? = some (.cells #[.string ed] 9 (0, 0))) := ⟨blk_alloc (heap_alloc_new W2 _) _⟩
  have HL1 : Aside0 ((([] : List ByteArray).length + da.length) * 16 ≤ 140737488355328) := ⟨by simp; omega⟩
  have HL2 : Aside0 ((da.length + 1) * 16 ≤ 140737488355328) := ⟨by omega⟩
  have FIN := Aside0.mk (fun (w6 : World) (hB6 : Below W2.heap.size W2 w6) (v : Value) (hR : Kd.string.R 9 w6 W2.heap.size (fun k => W2.heap.size ≤ k) v (da ++ [ed])) => rapprove_end HE.out HH.out.own HH.out.ge HH.out.below HB2.out hB6 hR (.int .i64 0))
  have C6 := Aside0.mk (fun (w6 : World) (hB6 : Below W2.heap.size W2 w6) => (show w6.cell? ⟨g, i * 4 + 2, none⟩ = some (.slice Ap da.length cp) ∧ w6.frozen? ⟨g, i * 4 + 2, none⟩ = false from ⟨(hE2.grow hB6).cells 2 _ rfl, (hE2.grow hB6).fr 2⟩))
  have C5 := Aside0.mk (fun (w5 : World) (hB5 : Below W2.heap.size W2 w5) => (show w5.cell? ⟨w.heap.size, 1, none⟩ = some (.string ed) from blk_cell (blk_below HX2.out hB5) 1))
  clear hE2 k1 k2 k3 b0 b2 e0 e1 e2 e3
  go_region_law
    (first
      | (refine Kd.R_append_rows_step (W := (W2.alloc (.cells #[] 9)).drew) Kd.string (w0 := W2) W2.heap.size rfl (.tmp 54) (.tmp 58) 22 9 (.string ⟨#[]⟩) 16 rfl Try.underlying22 info9 rfl (by decide) (by decide) (.slice (some ⟨W2.heap.size, 0, none⟩) 0 0) [] da Ap da.length cp (fun k => W2.heap.size ≤ k) (fun _ => False) (by simp [Act.eval, Act.put]) (by simp [Act.eval, Act.put]) HE1.out (HAp.out _ B1.out) (fun _ _ h => h) (fun _ h => h.elim) (fun _ h => Nat.le_trans B1.out.size h) B1.out B1.out.size HL1.out ?_; intro v5 w5 hN hB hG _; have HN5 := Aside0.mk hN; have HB5 := Aside0.mk hB; have ka := C5.out _ hB; have kb : ∀ o, (w5.alloc o).cell? ⟨w.heap.size, 1, none⟩ = some (.string ed) := fun o => C5.out _ (below_alloc hB o); clear hN hB hG)
      | (refine Kd.R_append_rows_step (W := ((W2.alloc (.cells #[] 9)).alloc (.cells #[.string ed] 9)).drew) Kd.string (w0 := W2) W2.heap.size rfl (.tmp 54) (.tmp 58) 22 9 (.string ⟨#[]⟩) 16 rfl Try.underlying22 info9 rfl (by decide) (by decide) (.slice (some ⟨W2.heap.size, 0, none⟩) 0 0) [] da Ap da.length cp (fun k => W2.heap.size ≤ k) (fun _ => False) (by simp [Act.eval, Act.put]) (by simp [Act.eval, Act.put]) HE2.out (HAp.out _ B2.out) (fun _ _ h => h) (fun _ h => h.elim) (fun _ h => Nat.le_trans B2.out.size h) B2.out B2.out.size HL1.out ?_; intro v5 w5 hN hB hG _; have HN5 := Aside0.mk hN; have HB5 := Aside0.mk hB; have HC5 := Aside0.mk (C_one (blk_grown L2.out hG (by simp [Value.ownBlock]))); clear hN hB hG)
      | (refine Kd.R_append_rows_step (W := ((W2.alloc (.cells #[.string ed] 9)).alloc (.cells #[] 9)).drew) Kd.string (w0 := W2) W2.heap.size rfl (.tmp 54) (.tmp 58) 22 9 (.string ⟨#[]⟩) 16 rfl Try.underlying22 info9 rfl (by decide) (by decide) (.slice (some ⟨W2.heap.size + 1, 0, none⟩) 0 0) [] da Ap da.length cp (fun k => W2.heap.size ≤ k) (fun _ => False) (by simp [Act.eval, Act.put]) (by simp [Act.eval, Act.put]) HE3.out (HAp.out _ B3.out) (fun _ _ h => h) (fun _ h => h.elim) (fun _ h => Nat.le_trans B3.out.size h) B3.out B3.out.size HL1.out ?_; intro v5 w5 hN hB hG _; have HN5 := Aside0.mk hN; have HB5 := Aside0.mk hB; have HC5 := Aside0.mk (C_one (blk_grown L3.out hG (by simp [Value.ownBlock]))); clear hN hB hG)
      | (refine Kd.R_append_rows_step (W := w5) Kd.string (w0 := W2) W2.heap.size rfl (.tmp 59) (.tmp 62) 22 9 (.string ⟨#[]⟩) 16 rfl Try.underlying22 info9 rfl (by decide) (by decide) v5 da [ed] (some ⟨W2.heap.size + 1, 0, none⟩) 1 1 (fun k => W2.heap.size ≤ k) (fun _ => False) (by simp [Act.eval, Act.put]) (by simp [Act.eval, Act.put]) HN5.out HC5.out (fun _ _ h => h) (fun _ h => h.elim) (fun _ h => Nat.le_trans HB5.out.size h) HB5.out HB5.out.size HL2.out ?_; intro v6 w6 hN hB hG _; obtain ⟨A6, c6, rfl⟩ := Kd.R_slice hN; have HF6 := Aside0.mk (FIN.out _ hB _ hN); rw [show (da ++ [ed]).length = da.length + 1 by simp] at HF6; have kc := (C6.out _ hB).1; have kd := (C6.out _ hB).2; clear hN hB hG)
      | (refine Kd.R_append_rows_step (W := w5) Kd.string (w0 := W2) W2.heap.size rfl (.tmp 59) (.tmp 62) 22 9 (.string ⟨#[]⟩) 16 rfl Try.underlying22 info9 rfl (by decide) (by decide) v5 da [ed] (some ⟨W2.heap.size, 0, none⟩) 1 1 (fun k => W2.heap.size ≤ k) (fun _ => False) (by simp [Act.eval, Act.put]) (by simp [Act.eval, Act.put]) HN5.out HC5.out (fun _ _ h => h) (fun _ h => h.elim) (fun _ h => Nat.le_trans HB5.out.size h) HB5.out HB5.out.size HL2.out ?_; intro v6 w6 hN hB hG _; obtain ⟨A6, c6, rfl⟩ := Kd.R_slice hN; have HF6 := Aside0.mk (FIN.out _ hB _ hN); rw [show (da ++ [ed]).length = da.length + 1 by simp] at HF6; have kc := (C6.out _ hB).1; have kd := (C6.out _ hB).2; clear hN hB hG)
      | (refine Kd.R_append_rows_step (W := (w5.alloc (.cells #[.string ed] 9))) Kd.string (w0 := W2) W2.heap.size rfl (.tmp 59) (.tmp 62) 22 9 (.string ⟨#[]⟩) 16 rfl Try.underlying22 info9 rfl (by decide) (by decide) v5 da [ed] (some ⟨w5.heap.size, 0, none⟩) 1 1 (fun k => W2.heap.size ≤ k) (fun _ => False) (by simp [Act.eval, Act.put]) (by simp [Act.eval, Act.put]) (Kd.R_alloc HN5.out _) (C_one (heap_alloc_new w5 _)) (fun _ _ h => h) (fun _ h => h.elim) (fun _ h => Nat.le_trans (below_alloc HB5.out _).size h) (below_alloc HB5.out _) (below_alloc HB5.out _).size HL2.out ?_; intro v6 w6 hN hB hG _; obtain ⟨A6, c6, rfl⟩ := Kd.R_slice hN; have HF6 := Aside0.mk (FIN.out _ hB _ hN); rw [show (da ++ [ed]).length = da.length + 1 by simp] at HF6; have kc := (C6.out _ hB).1; have kd := (C6.out _ hB).2; clear hN hB hG))
  all_goals (
    go_wp2
    go_ret
    exact ⟨rfl, HF6.out.2⟩)
end Go.Proofs.Ytkblcdpmdbofgaa.A
/- The reference's open. -/
namespace Go.Proofs.Ytkblcdpmdbofgaa.A
open Go.RowKit Go.Proofs.YtkblcdpmdbofgaaW.PrintWords Go.Proofs.YtkblcdpmdbofgaaW.PrintLast Go.Proofs.YtkblcdpmdbofgaaW.PrintMore
set_option linter.unusedVariables false
set_option linter.unusedSimpArgs false

/-- A row of one list of trees. -/
theorem F_one {W : World} {okq : Nat → Prop} {b : Nat} {A : Option Addr} {c : Nat} {ts : List S68} (hb : W.heap[b]? = some (.cells #[.slice A ts.length c] 33 (0, 0))) (hF : k68.F W okq A ts.length ts) (hc : ts.length ≤ c) :
    (Kd.slice 68 k68).F W (fun k => okq k ∨ k = b) (some ⟨b, 0, none⟩) 1 [ts] := by
  intro W' hW
  have hb' := (hW b (.inr rfl) (blk_lt hb)).trans hb
  have hC := hF W' (fun k hk hl => hW k (.inl hk) hl)
  refine ⟨rfl, show (1 : Nat) ≤ 9223372036854775807 by decide, fun _ => ⟨_, rfl, fun j p hj => ⟨[.slice A ts.length c], rfl, ?_, fun i u hi => ?_⟩⟩⟩
  · have hj0 : j = 0 := by
      have := (List.getElem?_eq_some_iff.1 hj).1
      simp at this
      exact this
    subst hj0
    simp at hj
    subst hj
    exact ⟨A, c, rfl, hc, hC⟩
  · have hi0 : i = 0 := by
      have := (List.getElem?_eq_some_iff.1 hi).1
      simp at this
      exact this
    have hj0 : j = 0 := by
      have := (List.getElem?_eq_some_iff.1 hj).1
      simp at this
      exact this
    subst hi0
    subst hj0
    simp at hi
    subst hi
    rw [add_plain]
    exact blk_cell hb' 0

def okR (w W2 : World) (F : Nat → Prop) (rb : Nat) (k : Nat) : Prop := ((F k ∧ k < w.heap.size) ∨ W2.heap.size ≤ k) ∧ k ≠ rb
section
variable {w0 w W2 w6 : World} {F : Nat → Prop} {rb : Nat} {D D1 : Dk} {A : Option Addr} {c : Nat} {v v6 : Value}
/-- Behind the append: the desk's drafts and the result are stored. -/
theorem ropen_end (own : F rb) (ge : w0.heap.size ≤ rb) (hB : Below w0.heap.size w0 w) (hblk : w.heap[rb]? = some (.cells #[.slice A D.eds.length c, .int .i64 D.needed, v] 58 (0, 0))) (hce : D.eds.length ≤ c) (hC : Kd.string.C w0 A D.eds.length D.eds)
    (hN : Kd.N k89 89 w w0.heap.size (fun k => F k ∧ k ≠ rb) v (rdesk D)) (hB2 : Below w.heap.size w W2) (hg : Kp W2 w6 (fun k => v.ownBlock = some k)) (hN6 : Kd.N k89 89 w6 w0.heap.size (okR w W2 F rb) v6 (rdesk D1)) (h1 : D1.eds = D.eds) (h2 : D1.needed = D.needed)
    {res : Nat} (hr : w.heap.size ≤ res) (hr2 : res < W2.heap.size) (a b : Value) :
    (w6.heap[rb]? = some (.cells #[.slice A D.eds.length c, .int .i64 D.needed, v] 58 (0, 0))) ∧ RDid w0 w F rb (.agg #[a, b]) D1 (.returned (.agg #[a, b])) (((w6.setCell ⟨rb, 2, none⟩ v6).setCell ⟨res, 0, none⟩ a).setCell ⟨res, 1, none⟩ b) := by
  have hlt := blk_lt hblk
  have hsz := hB2.size
  have hne : ¬ v.ownBlock = some rb := fun he => Kd.N_ne hN hblk (by decide) he.symm
  have hb6 := hg.blk (blk_below hblk hB2) hne
  have hK : Kp W2 (((w6.setCell ⟨rb, 2, none⟩ v6).setCell ⟨res, 0, none⟩ a).setCell ⟨res, 1, none⟩ b) (fun k => v.ownBlock = some k ∨ k = rb ∨ k = res) :=
    (((hg.mono (fun k hk => Or.inl hk)).then_ (Kp.setCell w6 ⟨rb, 2, none⟩ v6) (fun k hk => .inl (.inr (.inl hk)))).then_ (Kp.setCell _ ⟨res, 0, none⟩ a) (fun k hk => .inl (.inr (.inr hk)))).then_ (Kp.setCell _ ⟨res, 1, none⟩ b) (fun k hk => .inl (.inr (.inr hk)))
  have hown : ∀ k, v.ownBlock = some k → (F k ∧ w0.heap.size ≤ k) := fun k hk => ⟨(hN.1 k hk).1, Kd.N_base hN k hk⟩
  refine ⟨hb6, RDid.mk hB2 ⟨⟨A, c, v6, ?_, by rw [h1]; exact hce, by rw [h1]; exact hC, ?_⟩, .inl own, ge, ?_⟩ hK (fun k hk => ?_)⟩
  · rw [h1, h2]
    have q := blk_far (p := ⟨res, 1, none⟩) (blk_far (p := ⟨res, 0, none⟩) (blk_set hb6 2 v6) (by show rb ≠ res; omega) a) (by show rb ≠ res; omega) b
    simpa using q
  · refine Kd.N_mono (Kd.N_far (p := ⟨res, 1, none⟩) (Kd.N_far (p := ⟨res, 0, none⟩) (Kd.N_far (p := ⟨rb, 2, none⟩) hN6 (fun k hk => hk.2) v6) (fun k hk => ?_) a) (fun k hk => ?_) b) (fun k hk => ?_)
    · show k ≠ res
      rcases hk.1 with h | h <;> omega
    · show k ≠ res
      rcases hk.1 with h | h <;> omega
    · rcases hk.1 with h | h
      · exact ⟨.inl h.1, hk.2⟩
      · exact ⟨.inr (by omega), hk.2⟩
  · refine Kp.bel (below_step hB hB2) hK (fun k hk hq => ?_) (by have := hB.size; omega)
    rcases hq with h | h | h
    · have := (hown k h).2; omega
    · omega
    · have := hB.size; omega
  · rcases hk with h | h | h
    · exact .inl (hown k h)
    · exact .inl (h ▸ ⟨own, ge⟩)
    · exact .inr (by omega)
end
theorem Dk.opens_no {D : Dk} {ed : ByteArray} {ts : List S68} (h : D.valid ed ts = false) : D.opens ed ts = (0, 1, D) := by unfold Dk.opens; rw [if_pos h]
theorem Dk.opens_full {D : Dk} {ed : ByteArray} {ts : List S68} (h : D.valid ed ts = true) (hf : D.drafts.length = 256) : D.opens ed ts = (0, 12, D) := by unfold Dk.opens; rw [if_neg (by simp [h]), if_pos hf]
theorem Dk.opens_ok {D : Dk} {ed : ByteArray} {ts : List S68} (h : D.valid ed ts = true) (hf : D.drafts.length ≠ 256) : D.opens ed ts = ((D.drafts.length : Int) + 1, 0, D.add ed ts) := by unfold Dk.opens; rw [if_neg (by simp [h]), if_neg hf]
theorem opCells {w w' : World} {x : S35} {A : Option Addr} {c rb : Nat} {v0 v1 v2 : Value} {t : TypeId} (hb : w.heap[rb]? = some (.cells #[v0, v1, v2] t (0, 0))) (hB : Below (atW w x A c).heap.size (atW w x A c) w') :
    w'.cell? ⟨rb, 0, none⟩ = some v0 ∧ w'.cell? ⟨w.heap.size, 1, none⟩ = some (.string x.f1) ∧ w'.cell? ⟨w.heap.size, 4, none⟩ = some (.slice A x.f4.length c) :=
  ⟨blk_cell (blk_below (blk_below hb (atW_below w x A c)) hB) 0, blk_cell (blk_below (atW_box w x A c) hB) 1, blk_cell (blk_below (atW_box w x A c) hB) 4⟩

set_option maxHeartbeats 4000000 in
set_option maxRecDepth 100000 in
theorem ropen_no {w0 w : World} {F : Nat → Prop} {rb : Nat} {D : Dk} (h : Ref w0 w F rb D) (heds : D.eds.length ≤ 2000000) (x : S35) (A4 : Option Addr) (c4 : Nat) (hx : opOk x) (hr : k68.C w0 A4 x.f4.length x.f4) (hc4 : x.f4.length ≤ c4)
    (hno : D.valid x.f1 x.f4 = false ∨ D.drafts.length = 256) :
    Calls Try.prog 42 #[.pointer (some ⟨rb, 0, none⟩), .agg #[.int .i64 x.f0, .string x.f1, .int .i64 x.f2, .int .i64 x.f3, .slice A4 x.f4.length c4]] w (RDid w0 w F rb (.agg #[.int .i64 (D.opens x.f1 x.f4).1, .int .i64 (D.opens x.f1 x.f4).2.1]) (D.opens x.f1 x.f4).2.2) := by
  obtain ⟨A, c, Av, cv, hbk, hce, hC⟩ := h.len
  have HBA := Aside0.mk (atW_below w x A4 c4)
  have HRS := Aside0.mk (atW_res w x A4 c4)
  have HOC := Aside0.mk (fun (W : World) (hB : Below (atW w x A4 c4).heap.size (atW w x A4 c4) W) => opCells hbk hB)
  have HC2 := Aside0.mk (fun (W : World) (hB : Below (atW w x A4 c4).heap.size (atW w x A4 c4) W) => (show W.cell? ⟨rb, 2, none⟩ = some (.slice Av D.drafts.length cv) from blk_cell (blk_below (blk_below hbk (atW_below w x A4 c4)) hB) 2))
  have HR2 := Aside0.mk (fun (W : World) (hB : Below (atW w x A4 c4).heap.size (atW w x A4 c4) W) => blk_below (atW_res w x A4 c4) hB)
  have C16 := Aside0.mk (fun (W : World) (hW : Below (atW w x A4 c4).heap.size (atW w x A4 c4) W) => in_calls A c D.eds x.f1 W heds (Kd.C_below hC (below_step h.below (below_step (atW_below w x A4 c4) hW))) hce)
  have C51 := Aside0.mk (fun (W : World) (hW : Below (atW w x A4 c4).heap.size (atW w x A4 c4) W) => rnotice_calls x.f4 A4 c4 W hx.2.2.2 (Kd.C_below hr (below_step h.below (below_step (atW_below w x A4 c4) hW))) hc4)
  have FIN := Aside0.mk (fun (W : World) (hW : Below (atW w x A4 c4).heap.size (atW w x A4 c4) W) (a b : Value) => h.same (below_set (j := 1) (v := b) (below_set (j := 0) (v := a) (below_step (atW_below w x A4 c4) hW) (Nat.le_succ w.heap.size)) (Nat.le_succ w.heap.size)) (.agg #[a, b]))
  have hW0 : (w.alloc (.cells #[.int .i64 x.f0, .string x.f1, .int .i64 x.f2, .int .i64 x.f3, .slice A4 x.f4.length c4] 35)).alloc (.cells #[.int .i64 0, .int .i64 0] 37) = atW w x A4 c4 := rfl
  generalize hWW : atW w x A4 c4 = W at *
  have hsz : w.heap.size + 1 < W.heap.size := blk_lt HRS.out
  obtain ⟨x0, x1, x2, x3, x4⟩ := x
  simp only at *
  have HW0 := Aside0.mk hW0
  have S0 := Aside0.mk (HOC.out W.drew (below_drew (Below.refl _ _)))
  have r0 := HR2.out
  have b0 : W.cell? ⟨rb, 0, none⟩ = some (.slice A D.eds.length c) := (HOC.out W (Below.refl _ _)).1
  have k1 : W.cell? ⟨w.heap.size, 1, none⟩ = some (.string x1) := (HOC.out W (Below.refl _ _)).2.1
  have k4 : W.cell? ⟨w.heap.size, 4, none⟩ = some (.slice A4 x4.length c4) := (HOC.out W (Below.refl _ _)).2.2
  cases hm : memS D.eds x1 with
  | false =>
    have HV := Aside0.mk (Dk.opens_no (D := D) (ed := x1) (ts := x4) (by unfold Dk.valid; rw [hm]; rfl))
    rw [hm] at C16
    have u0 := blk_cell HRS.out 0
    have u1 := blk_cell HRS.out 1
    have v0 := blk_frozen HRS.out 0
    have v1 := blk_frozen HRS.out 1
    simp at u0 u1
    have HRES := Aside0.mk (fun (m : Nat) => blk_set (blk_set (blk_drewN HRS.out m) 0 (.int .i64 0)) 1 (.int .i64 1))
    clear h hx hr hno hbk hC hm hW0 hWW r0
    go_enter Try.func42, Try.ntmps42
    go_wp2_with fail
    rw [HW0.out]
    go_quiet (first | (go_at_call 16; refine (C16.out _ (pw_below_drewN (Below.refl _ _) _)).mono ?_; rintro e w' ⟨rfl, ⟨nd, rfl⟩⟩; (try first | exact ⟨rfl, _, World.drewN_drewN _ _ _⟩ | exact ⟨rfl, _, Eq.trans (World.drewN_drewN _ _ _) (congrArg (World.drewN _) (Nat.add_assoc _ _ _))⟩)))
    go_wp2
    refine bodyPost_ret (results_single rfl (.cell (w.heap.size + 1) 37 _ (0, 0) _ rfl (HRES.out _) Try.underlying37 rfl (by kernel_rfl) .nil)) rfl ?_
    rw [HV.out]
    exact FIN.out _ (pw_below_drewN (Below.refl _ _) _) _ _
  | true =>
    rw [hm] at C16
    cases hn : noticeS x4 with
    | false =>
      have HV := Aside0.mk (Dk.opens_no (D := D) (ed := x1) (ts := x4) (by unfold Dk.valid; rw [hm, hn]; rfl))
      rw [hn] at C51
      clear h hx hr hno hbk hC hm hn hW0 hWW r0 b0 k1 k4
      go_enter Try.func42, Try.ntmps42
      go_wp2_with fail
      rw [HW0.out]
      go_region_held3 (fun w' => w'.cell? ⟨rb, 0, none⟩ = some (.slice A D.eds.length c) ∧ w'.cell? ⟨w.heap.size, 1, none⟩ = some (.string x1) ∧ w'.cell? ⟨w.heap.size, 4, none⟩ = some (.slice A4 x4.length c4))
        (first
          | (with_reducible exact S0.out)
          | (with_reducible exact S1.out)
          | (with_reducible exact S2.out))
        (first
          | (go_at_call 16; refine (C16.out _ (below_drew (Below.refl _ _))).mono ?_; rintro e w1 ⟨rfl, ⟨m1, rfl⟩⟩; have B1 := Aside0.mk (pw_below_drewN (Below.refl W.heap.size W) (1 + m1)); have S1 := Aside0.mk (HOC.out _ B1.out))
          | (go_at_call 51; refine (C51.out _ B1.out).mono ?_; rintro e w2 ⟨rfl, hB⟩; have B2 := Aside0.mk (below_step B1.out hB); have S2 := Aside0.mk (HOC.out _ B2.out); have S2b := HC2.out _ B2.out; have hres := HR2.out _ B2.out; have u0 := blk_cell hres 0; have u1 := blk_cell hres 1; have v0 := blk_frozen hres 0; have v1 := blk_frozen hres 1; simp at u0 u1; have HRES := Aside0.mk (blk_set (blk_set hres 0 (.int .i64 0)) 1 (.int .i64 1)); clear hB hres))

      go_wp2
      refine bodyPost_ret (results_single rfl (.cell (w.heap.size + 1) 37 _ (0, 0) _ rfl HRES.out Try.underlying37 rfl (by kernel_rfl) .nil)) rfl ?_
      rw [HV.out]
      exact FIN.out _ B2.out _ _
    | true =>
      have hv : D.valid x1 x4 = true := by unfold Dk.valid; rw [hm, hn]; rfl
      have hf : D.drafts.length = 256 := hno.resolve_left (by rw [hv]; simp)
      have HV := Aside0.mk (Dk.opens_full (D := D) (ed := x1) (ts := x4) hv hf)
      rw [hn] at C51
      have HC3 := Aside0.mk (fun (W' : World) (hB : Below W.heap.size W W') => (show W'.cell? ⟨rb, 2, none⟩ = some (.slice Av 256 cv) from by have := HC2.out W' hB; rwa [hf] at this))
      clear h hx hr hno hbk hC hm hn hW0 hWW r0 b0 k1 k4 hv hf
      go_enter Try.func42, Try.ntmps42
      go_wp2_with fail
      rw [HW0.out]
      go_region_held3 (fun w' => w'.cell? ⟨rb, 0, none⟩ = some (.slice A D.eds.length c) ∧ w'.cell? ⟨w.heap.size, 1, none⟩ = some (.string x1) ∧ w'.cell? ⟨w.heap.size, 4, none⟩ = some (.slice A4 x4.length c4))
        (first
          | (with_reducible exact S0.out)
          | (with_reducible exact S1.out)
          | (with_reducible exact S2.out))
        (first
          | (go_at_call 16; refine (C16.out _ (below_drew (Below.refl _ _))).mono ?_; rintro e w1 ⟨rfl, ⟨m1, rfl⟩⟩; have B1 := Aside0.mk (pw_below_drewN (Below.refl W.heap.size W) (1 + m1)); have S1 := Aside0.mk (HOC.out _ B1.out))
          | (go_at_call 51; refine (C51.out _ B1.out).mono ?_; rintro e w2 ⟨rfl, hB⟩; have B2 := Aside0.mk (below_step B1.out hB); have S2 := Aside0.mk (HOC.out _ B2.out); have S2b := HC3.out _ B2.out; have hres := HR2.out _ B2.out; have u0 := blk_cell hres 0; have u1 := blk_cell hres 1; have v0 := blk_frozen hres 0; have v1 := blk_frozen hres 1; simp at u0 u1; have HRES := Aside0.mk (blk_set (blk_set hres 0 (.int .i64 0)) 1 (.int .i64 12)); clear hB hres))

      go_wp2
      refine bodyPost_ret (results_single rfl (.cell (w.heap.size + 1) 37 _ (0, 0) _ rfl HRES.out Try.underlying37 rfl (by kernel_rfl) .nil)) rfl ?_
      rw [HV.out]
      exact FIN.out _ B2.out _ _
end Go.Proofs.Ytkblcdpmdbofgaa.A
/- The reference's open: a draft that is begun. -/
namespace Go.Proofs.Ytkblcdpmdbofgaa.A
open Go.RowKit Go.Proofs.YtkblcdpmdbofgaaW.PrintWords Go.Proofs.YtkblcdpmdbofgaaW.PrintLast Go.Proofs.YtkblcdpmdbofgaaW.PrintMore
set_option linter.unusedVariables false
set_option linter.unusedSimpArgs false

theorem info89 : (Try.prog.info? 89).map (fun i => (i.zero, i.size, i.bytes)) = some (some (.agg #[.slice none 0 0, .string ⟨#[]⟩, .slice none 0 0, .bool false]), 4, 72) := by kernel_rfl

set_option maxHeartbeats 4000000 in
set_option maxRecDepth 100000 in
theorem ropen_yes {w0 w : World} {F : Nat → Prop} {rb : Nat} {D : Dk} (h : Ref w0 w F rb D) (heds : D.eds.length ≤ 2000000) (x : S35) (A4 : Option Addr) (c4 : Nat) (hx : opOk x) (hr : k68.C w0 A4 x.f4.length x.f4) (hc4 : x.f4.length ≤ c4)
    (hv : D.valid x.f1 x.f4 = true) (hfull : D.drafts.length < 256) (hF0 : ∀ k, k < w0.heap.size → F k) :
    Calls Try.prog 42 #[.pointer (some ⟨rb, 0, none⟩), .agg #[.int .i64 x.f0, .string x.f1, .int .i64 x.f2, .int .i64 x.f3, .slice A4 x.f4.length c4]] w (RDid w0 w F rb (.agg #[.int .i64 (D.opens x.f1 x.f4).1, .int .i64 (D.opens x.f1 x.f4).2.1]) (D.opens x.f1 x.f4).2.2) := by
  obtain ⟨A, c, v0, hbk0, hce, hC, hN0⟩ := h.blk
  obtain ⟨Av, cv, rfl⟩ := Kd.N_slice hN0
  rw [rdesk_len] at hbk0 hN0
  have hbk := hbk0
  have HNN := Aside0.mk hN0
  have HBK := Aside0.mk hbk0
  have HAD : Aside0 (rdesk (D.add x.f1 x.f4) = rdesk D ++ [rDr ⟨x.f1, x.f4, [], [], false⟩]) := ⟨by simp [rdesk, Dk.add]⟩
  have HH := Aside0.mk h
  have HCE := Aside0.mk hce
  have HCC := Aside0.mk hC
  have HRT := Aside0.mk hr
  have HC4 := Aside0.mk hc4
  have HF0 := Aside0.mk hF0
  have HBA := Aside0.mk (atW_below w x A4 c4)
  have HRS := Aside0.mk (atW_res w x A4 c4)
  have HOC := Aside0.mk (fun (W : World) (hB : Below (atW w x A4 c4).heap.size (atW w x A4 c4) W) => opCells hbk hB)
  have HC2 := Aside0.mk (fun (W : World) (hB : Below (atW w x A4 c4).heap.size (atW w x A4 c4) W) => (show W.cell? ⟨rb, 2, none⟩ = some (.slice Av D.drafts.length cv) from blk_cell (blk_below (blk_below hbk (atW_below w x A4 c4)) hB) 2))
  have HR2 := Aside0.mk (fun (W : World) (hB : Below (atW w x A4 c4).heap.size (atW w x A4 c4) W) => blk_below (atW_res w x A4 c4) hB)
  have C16 := Aside0.mk (fun (W : World) (hW : Below (atW w x A4 c4).heap.size (atW w x A4 c4) W) => in_calls A c D.eds x.f1 W heds (Kd.C_below hC (below_step h.below (below_step (atW_below w x A4 c4) hW))) hce)
  have C51 := Aside0.mk (fun (W : World) (hW : Below (atW w x A4 c4).heap.size (atW w x A4 c4) W) => rnotice_calls x.f4 A4 c4 W hx.2.2.2 (Kd.C_below hr (below_step h.below (below_step (atW_below w x A4 c4) hW))) hc4)
  have FIN := Aside0.mk (fun (W : World) (hW : Below (atW w x A4 c4).heap.size (atW w x A4 c4) W) (a b : Value) => h.same (below_set (j := 1) (v := b) (below_set (j := 0) (v := a) (below_step (atW_below w x A4 c4) hW) (Nat.le_succ w.heap.size)) (Nat.le_succ w.heap.size)) (.agg #[a, b]))
  have hW0 : (w.alloc (.cells #[.int .i64 x.f0, .string x.f1, .int .i64 x.f2, .int .i64 x.f3, .slice A4 x.f4.length c4] 35)).alloc (.cells #[.int .i64 0, .int .i64 0] 37) = atW w x A4 c4 := rfl
  generalize hWW : atW w x A4 c4 = W at *
  have hsz : w.heap.size + 1 < W.heap.size := blk_lt HRS.out
  obtain ⟨x0, x1, x2, x3, x4⟩ := x
  simp only at *
  have HW0 := Aside0.mk hW0
  have S0 := Aside0.mk (HOC.out W.drew (below_drew (Below.refl _ _)))
  have r0 := HR2.out
  have b0 : W.cell? ⟨rb, 0, none⟩ = some (.slice A D.eds.length c) := (HOC.out W (Below.refl _ _)).1
  have k1 : W.cell? ⟨w.heap.size, 1, none⟩ = some (.string x1) := (HOC.out W (Below.refl _ _)).2.1
  have k4 : W.cell? ⟨w.heap.size, 4, none⟩ = some (.slice A4 x4.length c4) := (HOC.out W (Below.refl _ _)).2.2
  have hms : memS D.eds x1 = true ∧ noticeS x4 = true := by
    have q := hv
    unfold Dk.valid at q
    rwa [Bool.and_eq_true] at q
  have hm := hms.1
  have hn := hms.2
  have HV := Aside0.mk (Dk.opens_ok (D := D) (ed := x1) (ts := x4) hv (by omega))
  rw [hm] at C16
  rw [hn] at C51
  have ff : decide (256 ≤ (D.drafts.length : Int)) = false := decide_eq_false (by omega)
  clear h hx hr hbk hbk0 hN0 hC hm hn hms hv hW0 hWW r0 b0 k1 k4 hce hc4 hF0
  go_enter Try.func42, Try.ntmps42
  go_wp2_with fail
  rw [HW0.out]
  go_region_held3 (fun w' => w'.cell? ⟨rb, 0, none⟩ = some (.slice A D.eds.length c) ∧ w'.cell? ⟨w.heap.size, 1, none⟩ = some (.string x1) ∧ w'.cell? ⟨w.heap.size, 4, none⟩ = some (.slice A4 x4.length c4))
    (first
      | (with_reducible exact S0.out)
      | (with_reducible exact S1.out)
      | (with_reducible exact S2.out))
    (first
      | (go_at_call 16; refine (C16.out _ (below_drew (Below.refl _ _))).mono ?_; rintro e w1 ⟨rfl, ⟨m1, rfl⟩⟩; have B1 := Aside0.mk (pw_below_drewN (Below.refl W.heap.size W) (1 + m1)); have S1 := Aside0.mk (HOC.out _ B1.out))
      | (go_at_call 51; refine (C51.out _ B1.out).mono ?_; rintro e w2 ⟨rfl, hB⟩; have B2 := Aside0.mk (below_step B1.out hB); have S2 := Aside0.mk (HOC.out _ B2.out); have S2b := HC2.out _ B2.out; have s4 := (HOC.out _ B2.out).2.2; have s1 := (HOC.out _ B2.out).2.1; have HRES := Aside0.mk (HR2.out _ B2.out); clear hB))
  go_wp2_with fail
  have HB2 := Aside0.mk (below_step HBA.out B2.out)
  have hwl : w.heap.size ≤ w2.heap.size := HB2.out.size
  have hrl : w.heap.size + 1 < w2.heap.size := Nat.lt_of_lt_of_le hsz B2.out.size
  have hrb : rb < w.heap.size := blk_lt HBK.out
  have t2 : ∀ o, (w2.alloc o).cell? ⟨rb, 2, none⟩ = some (.slice Av D.drafts.length cv) := fun o => HC2.out _ (below_alloc B2.out o)
  have t2b : ∀ o o', ((w2.alloc o).alloc o').cell? ⟨rb, 2, none⟩ = some (.slice Av D.drafts.length cv) := fun o o' => HC2.out _ (below_alloc (below_alloc B2.out o) o')
  have t1 : ∀ o, (w2.alloc o).cell? ⟨w.heap.size, 1, none⟩ = some (.string x1) := fun o => (HOC.out _ (below_alloc B2.out o)).2.1
  have t1b : ∀ o o', ((w2.alloc o).alloc o').cell? ⟨w.heap.size, 1, none⟩ = some (.string x1) := fun o o' => (HOC.out _ (below_alloc (below_alloc B2.out o) o')).2.1
  have HBW := Aside0.mk (below_step (below_step HH.out.below HB2.out) (below_drew (below_alloc (Below.refl w2.heap.size w2) (.cells #[.slice A4 x4.length c4] 33))))
  have HNW : Aside0 (Kd.N k89 89 (w2.alloc (.cells #[.slice A4 x4.length c4] 33)).drew w0.heap.size (okR w w2 F rb) (.slice Av D.drafts.length cv) (rdesk D)) := ⟨Kd.N_mono (Kd.N_below (Kd.N_bound HNN.out) (below_step HB2.out (below_drew (below_alloc (Below.refl w2.heap.size w2) (.cells #[.slice A4 x4.length c4] 33))))) (fun k hk => ⟨.inl ⟨hk.1.1, hk.2⟩, hk.1.2⟩)⟩
  have HP : Aside0 (Kd.FK k89 (w2.alloc (.cells #[.slice A4 x4.length c4] 33)).drew (fun k => k < w0.heap.size ∨ k = w2.heap.size) (rDr ⟨x1, x4, [], [], false⟩) [.slice (some ⟨w2.heap.size, 0, none⟩) 1 1, .string x1, .slice none 0 0, .bool false]) := ⟨k89_mkF _ _ (rDr ⟨x1, x4, [], [], false⟩) (A0 := some ⟨w2.heap.size, 0, none⟩) (c0 := 1) (Nat.le_refl 1) (F_one (blk_drew (heap_alloc_new w2 (.cells #[.slice A4 x4.length c4] 33))) (Kd.F_step (Kd.C_F heap68 HRT.out) (fun k hk hl => HBW.out.block k hk)) HC4.out) (A2 := none) (c2 := 0) (Nat.le_refl 0) (Kd.F_nil _ _ _)⟩
  have HOKP : Aside0 (∀ k, k < w0.heap.size ∨ k = w2.heap.size → okR w w2 F rb k ∧ some k ≠ (Value.slice Av D.drafts.length cv).ownBlock) := ⟨fun k hk => by
    have hge := HH.out.ge
    have hsz0 := HH.out.below.size
    refine ⟨⟨hk.elim (fun h => .inl ⟨HF0.out k h, by omega⟩) (fun h => .inr (by omega)), by omega⟩, fun he => ?_⟩
    have h1 := Kd.N_base HNN.out k he.symm
    have h2 := Kd.N_lt HNN.out k he.symm
    omega⟩
  have HFR : Aside0 (∀ k, (w2.alloc (.cells #[.slice A4 x4.length c4] 33)).drew.heap.size ≤ k → okR w w2 F rb k) := ⟨fun k hk => by
    have : (w2.alloc (.cells #[.slice A4 x4.length c4] 33)).drew.heap.size = w2.heap.size + 1 := by simp
    exact ⟨.inr (by omega), by omega⟩⟩
  have HL : Aside0 (((rdesk D).length + 1) * 72 ≤ 140737488355328) := ⟨by rw [rdesk_len]; omega⟩
  have FN := Aside0.mk (fun (w6 : World) (v6 : Value) (hN6 : Kd.N k89 89 w6 w0.heap.size (okR w w2 F rb) v6 (rdesk D ++ [rDr ⟨x1, x4, [], [], false⟩])) (hg : Kp w2 w6 (fun k => (Value.slice Av D.drafts.length cv).ownBlock = some k)) => ropen_end (D1 := D.add x1 x4) (v6 := v6) HH.out.own HH.out.ge HH.out.below HBK.out HCE.out HCC.out HNN.out HB2.out hg (by rw [HAD.out]; exact hN6) rfl rfl (Nat.le_succ w.heap.size) hrl (.int .i64 ((D.drafts.length : Int) + 1)) (.int .i64 0))
  have RN := Aside0.mk (fun (w6 : World) (v6 : Value) (hg : Kp w2 w6 (fun k => (Value.slice Av D.drafts.length cv).ownBlock = some k)) => (show (w6.setCell ⟨rb, 2, none⟩ v6).heap[w.heap.size + 1]? = some (.cells #[.int .i64 0, .int .i64 0] 37 (0, 0)) from blk_far (p := ⟨rb, 2, none⟩) (hg.blk HRES.out (fun he => by have := Kd.N_lt HNN.out _ he; omega)) (by show w.heap.size + 1 ≠ rb; omega) v6))
  go_region_law
    (first
      | (refine Kd.N_append_step (W := (w2.alloc (.cells #[.slice A4 x4.length c4] 33)).drew) k89 (w0 := w0) w0.heap.size rfl (.tmp 31) (.tmp 38) 56 89 (.agg #[.slice none 0 0, .string ⟨#[]⟩, .slice none 0 0, .bool false]) 72 rfl Try.underlying56 info89 rfl (by decide) (by decide) (.slice Av D.drafts.length cv) (rdesk D) (rDr ⟨x1, x4, [], [], false⟩) [.slice (some ⟨w2.heap.size, 0, none⟩) 1 1, .string x1, .slice none 0 0, .bool false] (okR w w2 F rb) (fun k => k < w0.heap.size ∨ k = w2.heap.size) (by simp [Act.eval, Act.put]) (by simp [Act.eval, Act.put]) HP.out HOKP.out HFR.out HNW.out HBW.out HBW.out.size HL.out ?_; intro v6 w6 hN hB hG _; obtain ⟨A6, c6, rfl⟩ := Kd.N_slice hN; have hK6 := ((Kp.of_below (below_drew (below_alloc (Below.refl w2.heap.size w2) (.cells #[.slice A4 x4.length c4] 33))) (fun k => (Value.slice Av D.drafts.length cv).ownBlock = some k)).then_ (Kp.of_grown hG) (fun k hk => .inl hk)); have HF6 := Aside0.mk (FN.out _ _ hN hK6); have hr6 := RN.out _ (.slice A6 (rdesk D ++ [rDr ⟨x1, x4, [], [], false⟩]).length c6) hK6; have g2 := blk_cell HF6.out.1 2; have gf := blk_frozen HF6.out.1 2; rw [show (rdesk D ++ [rDr ⟨x1, x4, [], [], false⟩]).length = D.drafts.length + 1 by simp [rdesk]] at HF6 hr6 ⊢; have u0 := blk_cell hr6 0; have u1 := blk_cell hr6 1; have v0 := blk_frozen hr6 0; have v1 := blk_frozen hr6 1; simp at u0 u1 g2; have HRF := Aside0.mk (blk_set (blk_set hr6 0 (.int .i64 ((D.drafts.length : Int) + 1))) 1 (.int .i64 0)); clear hN hB hG hK6 hr6))
  all_goals (
    go_wp2
    refine bodyPost_ret (results_single rfl (.cell (w.heap.size + 1) 37 _ (0, 0) _ rfl HRF.out Try.underlying37 rfl (by kernel_rfl) .nil)) rfl ?_
    rw [HV.out]
    exact HF6.out.2)
end Go.Proofs.Ytkblcdpmdbofgaa.A
/- The reference's amend: refusals. -/
namespace Go.Proofs.Ytkblcdpmdbofgaa.A
open Go.RowKit Go.Proofs.YtkblcdpmdbofgaaW.PrintWords Go.Proofs.YtkblcdpmdbofgaaW.PrintLast Go.Proofs.YtkblcdpmdbofgaaW.PrintMore
set_option linter.unusedVariables false
set_option linter.unusedSimpArgs false

theorem Dk.amend_no {D : Dk} {ed : ByteArray} {id num : Int} {ts : List S68} (h : D.valid ed ts = false) : D.amend ed id num ts = (0, 1, D) := by unfold Dk.amend; rw [if_pos h]
theorem Dk.amend_cur {D : Dk} {ed : ByteArray} {id num q : Int} {ts : List S68} (h : D.valid ed ts = true) (hc : D.cur id num = q) (hq : q ≠ 0) : D.amend ed id num ts = (0, q, D) := by unfold Dk.amend; rw [if_neg (by simp [h]), if_pos (by rw [hc]; exact hq), hc]
theorem Dk.amend_full {D : Dk} {ed : ByteArray} {id num : Int} {ts : List S68} (h : D.valid ed ts = true) (hc : D.cur id num = 0) (hq : num = 256) : D.amend ed id num ts = (0, 12, D) := by unfold Dk.amend; rw [if_neg (by simp [h]), if_neg (by rw [hc]; simp), if_pos hq]
theorem Dk.cur_some {D : Dk} {id num : Int} {d : Dr} (h : D.get id = some d) : D.cur id num = if d.closed = true then 10 else if (d.earlier.length : Int) + 1 = num then 0 else 11 := by unfold Dk.cur; rw [h]
theorem am_box {w W : World} {x : S35} {A4 : Option Addr} {c4 : Nat} (hB : Below (atW w x A4 c4).heap.size (atW w x A4 c4) W) : W.cell? ⟨w.heap.size, 2, none⟩ = some (.int .i64 x.f2) ∧ W.cell? ⟨w.heap.size + 1, 0, none⟩ = some (.int .i64 0) ∧ W.cell? ⟨w.heap.size + 1, 1, none⟩ = some (.int .i64 0) ∧ W.frozen? ⟨w.heap.size + 1, 0, none⟩ = false ∧ W.frozen? ⟨w.heap.size + 1, 1, none⟩ = false := by
  have hb := blk_below (atW_box w x A4 c4) hB
  have hr := blk_below (atW_res w x A4 c4) hB
  exact ⟨blk_cell hb 2, blk_cell hr 0, blk_cell hr 1, blk_frozen hr 0, blk_frozen hr 1⟩
theorem am_draft {w0 w W : World} {F : Nat → Prop} {rb : Nat} {D : Dk} {i : Nat} {d : Dr} {A : Option Addr} {c g cap : Nat} {Ah : Option Addr} {ch : Nat} {Ap : Option Addr} {cp : Nat} {x : S35} {A4 : Option Addr} {c4 : Nat} (hE : RefE w0 w F rb D i d A c g cap Ah ch Ap cp) (hB : Below (atW w x A4 c4).heap.size (atW w x A4 c4) W) :
    W.cell? ⟨w.heap.size, 2, none⟩ = some (.int .i64 x.f2) ∧ W.cell? ⟨w.heap.size, 3, none⟩ = some (.int .i64 x.f3) ∧ W.cell? ⟨w.heap.size + 1, 0, none⟩ = some (.int .i64 0) ∧ W.cell? ⟨w.heap.size + 1, 1, none⟩ = some (.int .i64 0) ∧ W.frozen? ⟨w.heap.size + 1, 0, none⟩ = false ∧ W.frozen? ⟨w.heap.size + 1, 1, none⟩ = false ∧
    W.cell? ⟨rb, 2, none⟩ = some (.slice (some ⟨g, 0, none⟩) D.drafts.length cap) ∧ W.cell? ⟨g, i * 4, none⟩ = some (.slice Ah (d.earlier.length + 1) ch) ∧ W.cell? ⟨g, i * 4 + 3, none⟩ = some (.bool d.closed) := by
  have hb := blk_below (atW_box w x A4 c4) hB
  have hr := blk_below (atW_res w x A4 c4) hB
  have hG := hE.grow (below_step (atW_below w x A4 c4) hB)
  exact ⟨blk_cell hb 2, blk_cell hb 3, blk_cell hr 0, blk_cell hr 1, blk_frozen hr 0, blk_frozen hr 1, blk_cell hG.blk 2, hG.cells 0 _ rfl, hG.cells 3 _ rfl⟩

set_option maxHeartbeats 4000000 in
set_option maxRecDepth 100000 in
theorem ramend_no {w0 w : World} {F : Nat → Prop} {rb : Nat} {D : Dk} (h : Ref w0 w F rb D) (heds : D.eds.length ≤ 2000000) (hd256 : D.drafts.length ≤ 256) (hlow : ∀ d ∈ D.drafts, d.earlier.length ≤ 255 ∧ d.approvals.length ≤ 90000) (x : S35) (A4 : Option Addr) (c4 : Nat) (hx : opOk x) (hr : k68.C w0 A4 x.f4.length x.f4) (hc4 : x.f4.length ≤ c4)
    (hno : (D.amend x.f1 x.f2 x.f3 x.f4).2.1 ≠ 0) :
    Calls Try.prog 43 #[.pointer (some ⟨rb, 0, none⟩), .agg #[.int .i64 x.f0, .string x.f1, .int .i64 x.f2, .int .i64 x.f3, .slice A4 x.f4.length c4]] w (RDid w0 w F rb (.agg #[.int .i64 (D.amend x.f1 x.f2 x.f3 x.f4).1, .int .i64 (D.amend x.f1 x.f2 x.f3 x.f4).2.1]) (D.amend x.f1 x.f2 x.f3 x.f4).2.2) := by
  obtain ⟨A, c, Av, cv, hbk, hce, hC⟩ := h.len
  have HBA := Aside0.mk (atW_below w x A4 c4)
  have HRS := Aside0.mk (atW_res w x A4 c4)
  have HOC := Aside0.mk (fun (W : World) (hB : Below (atW w x A4 c4).heap.size (atW w x A4 c4) W) => opCells hbk hB)
  have HK := Aside0.mk (fun (W : World) (hB : Below (atW w x A4 c4).heap.size (atW w x A4 c4) W) => am_box hB)
  have HR2 := Aside0.mk (fun (W : World) (hB : Below (atW w x A4 c4).heap.size (atW w x A4 c4) W) => blk_below (atW_res w x A4 c4) hB)
  have C16 := Aside0.mk (fun (W : World) (hW : Below (atW w x A4 c4).heap.size (atW w x A4 c4) W) => in_calls A c D.eds x.f1 W heds (Kd.C_below hC (below_step h.below (below_step (atW_below w x A4 c4) hW))) hce)
  have C51 := Aside0.mk (fun (W : World) (hW : Below (atW w x A4 c4).heap.size (atW w x A4 c4) W) => rnotice_calls x.f4 A4 c4 W hx.2.2.2 (Kd.C_below hr (below_step h.below (below_step (atW_below w x A4 c4) hW))) hc4)
  have C52 := Aside0.mk (fun (W : World) (hW : Below (atW w x A4 c4).heap.size (atW w x A4 c4) W) => found_calls (h.grow (below_step (atW_below w x A4 c4) hW)) x.f2)
  have HMM := fun (i : Nat) (d : Dr) (hd : D.drafts[i]? = some d) => h.at_ hd
  have FIN := Aside0.mk (fun (W : World) (hW : Below (atW w x A4 c4).heap.size (atW w x A4 c4) W) (a b : Value) => h.same (below_set (j := 1) (v := b) (below_set (j := 0) (v := a) (below_step (atW_below w x A4 c4) hW) (Nat.le_succ w.heap.size)) (Nat.le_succ w.heap.size)) (.agg #[a, b]))
  have hW0 : (w.alloc (.cells #[.int .i64 x.f0, .string x.f1, .int .i64 x.f2, .int .i64 x.f3, .slice A4 x.f4.length c4] 35)).alloc (.cells #[.int .i64 0, .int .i64 0] 37) = atW w x A4 c4 := rfl
  have HDR := fun (i : Nat) (d : Dr) (A : Option Addr) (c g cap : Nat) (Ah : Option Addr) (ch : Nat) (Ap : Option Addr) (cp : Nat) (hE : RefE w0 w F rb D i d A c g cap Ah ch Ap cp) (W : World) (hB : Below (atW w x A4 c4).heap.size (atW w x A4 c4) W) => am_draft hE hB
  generalize hWW : atW w x A4 c4 = W at *
  have hsz : w.heap.size + 1 < W.heap.size := blk_lt HRS.out
  obtain ⟨x0, x1, x2, x3, x4⟩ := x
  simp only at *
  have HW0 := Aside0.mk hW0
  have S0 := Aside0.mk (HOC.out W.drew (below_drew (Below.refl _ _)))
  have b0 : W.cell? ⟨rb, 0, none⟩ = some (.slice A D.eds.length c) := (HOC.out W (Below.refl _ _)).1
  have k1 : W.cell? ⟨w.heap.size, 1, none⟩ = some (.string x1) := (HOC.out W (Below.refl _ _)).2.1
  have k4 : W.cell? ⟨w.heap.size, 4, none⟩ = some (.slice A4 x4.length c4) := (HOC.out W (Below.refl _ _)).2.2
  cases hm : memS D.eds x1 with
  | false =>
    have HV := Aside0.mk (Dk.amend_no (D := D) (ed := x1) (id := x2) (num := x3) (ts := x4) (by unfold Dk.valid; rw [hm]; rfl))
    rw [hm] at C16
    have u0 := blk_cell HRS.out 0
    have u1 := blk_cell HRS.out 1
    have v0 := blk_frozen HRS.out 0
    have v1 := blk_frozen HRS.out 1
    simp at u0 u1
    have HRES := Aside0.mk (fun (m : Nat) => blk_set (blk_set (blk_drewN HRS.out m) 0 (.int .i64 0)) 1 (.int .i64 1))
    clear h hx hr hno hbk hC hm hW0 hWW HMM HDR
    go_enter Try.func43, Try.ntmps43
    go_wp2_with fail
    rw [HW0.out]
    go_quiet (first | (go_at_call 16; refine (C16.out _ (pw_below_drewN (Below.refl _ _) _)).mono ?_; rintro e w' ⟨rfl, ⟨nd, rfl⟩⟩; (try first | exact ⟨rfl, _, World.drewN_drewN _ _ _⟩ | exact ⟨rfl, _, Eq.trans (World.drewN_drewN _ _ _) (congrArg (World.drewN _) (Nat.add_assoc _ _ _))⟩)))
    go_wp2
    refine bodyPost_ret (results_single rfl (.cell (w.heap.size + 1) 37 _ (0, 0) _ rfl (HRES.out _) Try.underlying37 rfl (by kernel_rfl) .nil)) rfl ?_
    rw [HV.out]
    exact FIN.out _ (pw_below_drewN (Below.refl _ _) _) _ _
  | true =>
    rw [hm] at C16
    cases hn : noticeS x4 with
    | false =>
      have HV := Aside0.mk (Dk.amend_no (D := D) (ed := x1) (id := x2) (num := x3) (ts := x4) (by unfold Dk.valid; rw [hm, hn]; rfl))
      rw [hn] at C51
      clear h hx hr hno hbk hC hm hn hW0 hWW b0 k1 k4 HMM HDR
      go_enter Try.func43, Try.ntmps43
      go_wp2_with fail
      rw [HW0.out]
      go_region_held3 (fun w' => w'.cell? ⟨rb, 0, none⟩ = some (.slice A D.eds.length c) ∧ w'.cell? ⟨w.heap.size, 1, none⟩ = some (.string x1) ∧ w'.cell? ⟨w.heap.size, 4, none⟩ = some (.slice A4 x4.length c4))
        (first
          | (with_reducible exact S0.out)
          | (with_reducible exact S1.out)
          | (with_reducible exact S2.out))
        (first
          | (go_at_call 16; refine (C16.out _ (below_drew (Below.refl _ _))).mono ?_; rintro e w1 ⟨rfl, ⟨m1, rfl⟩⟩; have B1 := Aside0.mk (pw_below_drewN (Below.refl W.heap.size W) (1 + m1)); have S1 := Aside0.mk (HOC.out _ B1.out))
          | (go_at_call 51; refine (C51.out _ B1.out).mono ?_; rintro e w2 ⟨rfl, hB⟩; have B2 := Aside0.mk (below_step B1.out hB); have S2 := Aside0.mk (HOC.out _ B2.out); obtain ⟨k2, u0, u1, v0, v1⟩ := HK.out _ B2.out; clear hB))
      have HRES := Aside0.mk (blk_set (blk_set (HR2.out _ B2.out) 0 (.int .i64 0)) 1 (.int .i64 1))
      go_wp2
      refine bodyPost_ret (results_single rfl (.cell (w.heap.size + 1) 37 _ (0, 0) _ rfl HRES.out Try.underlying37 rfl (by kernel_rfl) .nil)) rfl ?_
      rw [HV.out]
      exact FIN.out _ B2.out _ _
    | true =>
      have hv : D.valid x1 x4 = true := by unfold Dk.valid; rw [hm, hn]; rfl
      rw [hn] at C51
      cases hg : D.get x2 with
      | none =>
        have HV := Aside0.mk (Dk.amend_cur (D := D) (ed := x1) (id := x2) (num := x3) (ts := x4) hv (q := 4) (by unfold Dk.cur; rw [hg]) (by decide))
        rw [hg] at C52
        clear h hx hr hno hbk hC hm hn hW0 hWW b0 k1 k4 hv hg HMM HDR
        go_enter Try.func43, Try.ntmps43
        go_wp2_with fail
        rw [HW0.out]
        go_region_held3 (fun w' => w'.cell? ⟨rb, 0, none⟩ = some (.slice A D.eds.length c) ∧ w'.cell? ⟨w.heap.size, 1, none⟩ = some (.string x1) ∧ w'.cell? ⟨w.heap.size, 4, none⟩ = some (.slice A4 x4.length c4))
          (first
            | (with_reducible exact S0.out)
            | (with_reducible exact S1.out)
            | (with_reducible exact S2.out))
          (first
            | (go_at_call 16; refine (C16.out _ (below_drew (Below.refl _ _))).mono ?_; rintro e w1 ⟨rfl, ⟨m1, rfl⟩⟩; have B1 := Aside0.mk (pw_below_drewN (Below.refl W.heap.size W) (1 + m1)); have S1 := Aside0.mk (HOC.out _ B1.out))
            | (go_at_call 51; refine (C51.out _ B1.out).mono ?_; rintro e w2 ⟨rfl, hB⟩; have B2 := Aside0.mk (below_step B1.out hB); have S2 := Aside0.mk (HOC.out _ B2.out); obtain ⟨k2, u0, u1, v0, v1⟩ := HK.out _ B2.out; clear hB))
        go_wp2_with (go_at_call 52; refine (C52.out _ B2.out).mono ?_; rintro e w3 ⟨rfl, rfl⟩)
        have HRES := Aside0.mk (blk_set (blk_set (HR2.out _ B2.out) 0 (.int .i64 0)) 1 (.int .i64 4))
        go_wp2
        refine bodyPost_ret (results_single rfl (.cell (w.heap.size + 1) 37 _ (0, 0) _ rfl HRES.out Try.underlying37 rfl (by kernel_rfl) .nil)) rfl ?_
        rw [HV.out]
        exact FIN.out _ B2.out _ _
      | some d =>
        rw [hg] at C52
        have hq1 : d.earlier.length ≤ 255 := (hlow d (Dk.get_mem hg)).1
        have hcur := Dk.cur_some (num := x3) hg
        obtain ⟨i, rfl, hdi⟩ := get_idx hg
        obtain ⟨A2, c2, g, cap, Ah, ch, Ap, cp, hE⟩ := HMM i d hdi
        have HM := Aside0.mk (fun (W' : World) (hB : Below W.heap.size W W') => HDR _ _ _ _ _ _ _ _ _ _ hE W' hB)
        have hlt := hE.lt
        have fw1 : wrap64 ((i : Int) + 1 - 1) = (i : Int) := (wrap_small (by omega) (by omega)).trans (by omega)
        have fw2 : IntKind.i64.wrap ((i : Int) + 1 - 1) = (i : Int) := (wrap_i64 (by omega) (by omega)).trans (by omega)
        have fi1 : (0 : Int) ≤ (i : Int) := Int.natCast_nonneg _
        have fi2 : (i : Int) < (D.drafts.length : Int) := by omega
        have hi256 : i ≤ 256 := by omega
        obtain ⟨du, dt, de, da, dc⟩ := d
        simp only at *
        cases dc with
        | true =>
          have HV := Aside0.mk (Dk.amend_cur (D := D) (ed := x1) (id := (i : Int) + 1) (num := x3) (ts := x4) hv (q := 10) (by rw [hcur]; rfl) (by decide))
          clear h hx hr hno hbk hC hm hn hW0 hWW b0 k1 k4 hv hg HMM HDR hlow hcur hdi hE hlt
          go_enter Try.func43, Try.ntmps43
          go_wp2_with fail
          rw [HW0.out]
          go_region_held3 (fun w' => w'.cell? ⟨rb, 0, none⟩ = some (.slice A D.eds.length c) ∧ w'.cell? ⟨w.heap.size, 1, none⟩ = some (.string x1) ∧ w'.cell? ⟨w.heap.size, 4, none⟩ = some (.slice A4 x4.length c4))
            (first
              | (with_reducible exact S0.out)
              | (with_reducible exact S1.out)
              | (with_reducible exact S2.out))
            (first
              | (go_at_call 16; refine (C16.out _ (below_drew (Below.refl _ _))).mono ?_; rintro e w1 ⟨rfl, ⟨m1, rfl⟩⟩; have B1 := Aside0.mk (pw_below_drewN (Below.refl W.heap.size W) (1 + m1)); have S1 := Aside0.mk (HOC.out _ B1.out))
              | (go_at_call 51; refine (C51.out _ B1.out).mono ?_; rintro e w2 ⟨rfl, hB⟩; have B2 := Aside0.mk (below_step B1.out hB); have S2 := Aside0.mk (HOC.out _ B2.out); obtain ⟨k2, u0, u1, v0, v1⟩ := HK.out _ B2.out; clear hB))
          go_wp2_with (go_at_call 52; refine (C52.out _ B2.out).mono ?_; rintro e w3 ⟨rfl, rfl⟩)
          clear k2 u0 u1 v0 v1 B1 S1 S2
          obtain ⟨k2, k3, u0, u1, v0, v1, b2, e0, e3⟩ := HM.out _ B2.out
          go_quiet (fail)
          clear k2 k3 u0 u1 v0 v1 b2 e0 e3
          generalize hW3 : World.drewN _ _ = W3 at *
          have B3 : Aside0 (Below W.heap.size W W3) := ⟨by rw [← hW3]; repeat (first | exact B2.out | apply pw_below_drewN)⟩
          clear hW3
          obtain ⟨k2, k3, u0, u1, v0, v1, b2, e0, e3⟩ := HM.out _ B3.out
          have HRES := Aside0.mk (blk_set (blk_set (HR2.out _ B3.out) 0 (.int .i64 0)) 1 (.int .i64 10))
          go_wp2
          refine bodyPost_ret (results_single rfl (.cell (w.heap.size + 1) 37 _ (0, 0) _ rfl HRES.out Try.underlying37 rfl (by kernel_rfl) .nil)) rfl ?_
          rw [HV.out]
          exact FIN.out _ B3.out _ _
        | false =>
          by_cases h2 : (de.length : Int) + 1 = x3
          · by_cases h256 : x3 = 256
            · have HV := Aside0.mk (Dk.amend_full (D := D) (ed := x1) (id := (i : Int) + 1) (num := x3) (ts := x4) hv (by rw [hcur, if_neg (by simp), if_pos h2]) h256)
              have hdl : de.length = 255 := by omega
              rw [hdl] at HM
              have hx3 : x3 = 256 := h256
              subst hx3
              clear h hx hr hno hbk hC hm hn hW0 hWW b0 k1 k4 hv hg HMM HDR hlow hcur hdi hE hlt h2 h256 hdl hq1
              go_enter Try.func43, Try.ntmps43
              go_wp2_with fail
              rw [HW0.out]
              go_region_held3 (fun w' => w'.cell? ⟨rb, 0, none⟩ = some (.slice A D.eds.length c) ∧ w'.cell? ⟨w.heap.size, 1, none⟩ = some (.string x1) ∧ w'.cell? ⟨w.heap.size, 4, none⟩ = some (.slice A4 x4.length c4))
                (first
                  | (with_reducible exact S0.out)
                  | (with_reducible exact S1.out)
                  | (with_reducible exact S2.out))
                (first
                  | (go_at_call 16; refine (C16.out _ (below_drew (Below.refl _ _))).mono ?_; rintro e w1 ⟨rfl, ⟨m1, rfl⟩⟩; have B1 := Aside0.mk (pw_below_drewN (Below.refl W.heap.size W) (1 + m1)); have S1 := Aside0.mk (HOC.out _ B1.out))
                  | (go_at_call 51; refine (C51.out _ B1.out).mono ?_; rintro e w2 ⟨rfl, hB⟩; have B2 := Aside0.mk (below_step B1.out hB); have S2 := Aside0.mk (HOC.out _ B2.out); obtain ⟨k2, u0, u1, v0, v1⟩ := HK.out _ B2.out; clear hB))
              go_wp2_with (go_at_call 52; refine (C52.out _ B2.out).mono ?_; rintro e w3 ⟨rfl, rfl⟩)
              clear k2 u0 u1 v0 v1 B1 S1 S2
              obtain ⟨k2, k3, u0, u1, v0, v1, b2, e0, e3⟩ := HM.out _ B2.out
              go_quiet (fail)
              clear k2 k3 u0 u1 v0 v1 b2 e0 e3
              generalize hW3 : World.drewN _ _ = W3 at *
              have B3 : Aside0 (Below W.heap.size W W3) := ⟨by rw [← hW3]; repeat (first | exact B2.out | apply pw_below_drewN)⟩
              clear hW3
              obtain ⟨k2, k3, u0, u1, v0, v1, b2, e0, e3⟩ := HM.out _ B3.out
              go_wp2_with fail
              go_quiet (fail)
              clear k2 k3 u0 u1 v0 v1 b2 e0 e3
              generalize hW4 : World.drewN _ _ = W4 at *
              have B4 : Aside0 (Below W.heap.size W W4) := ⟨by rw [← hW4]; repeat (first | exact B3.out | apply pw_below_drewN)⟩
              clear hW4
              obtain ⟨k2, k3, u0, u1, v0, v1, b2, e0, e3⟩ := HM.out _ B4.out
              have HRES := Aside0.mk (blk_set (blk_set (HR2.out _ B4.out) 0 (.int .i64 0)) 1 (.int .i64 12))
              go_wp2
              refine bodyPost_ret (results_single rfl (.cell (w.heap.size + 1) 37 _ (0, 0) _ rfl HRES.out Try.underlying37 rfl (by kernel_rfl) .nil)) rfl ?_
              rw [HV.out]
              exact FIN.out _ B4.out _ _
            · refine absurd ?_ hno
              unfold Dk.amend
              have ec : D.cur ((i : Int) + 1) x3 = 0 := by rw [hcur, if_neg (by simp), if_pos h2]
              rw [if_neg (by simp [hv]), ec, if_neg (by simp), if_neg h256, hg]
          · have HV := Aside0.mk (Dk.amend_cur (D := D) (ed := x1) (id := (i : Int) + 1) (num := x3) (ts := x4) hv (q := 11) (by rw [hcur, if_neg (by simp), if_neg h2]) (by decide))
            have q2 : (x3 != (de.length : Int) + 1) = true := by rw [bne_iff_ne]; exact fun e => h2 e.symm
            have q2b : (x3 == (de.length : Int) + 1) = false := beq_eq_false_iff_ne.mpr (fun e => h2 e.symm)
            clear h hx hr hno hbk hC hm hn hW0 hWW b0 k1 k4 hv hg HMM HDR hlow hcur hdi hE hlt h2
            go_enter Try.func43, Try.ntmps43
            go_wp2_with fail
            rw [HW0.out]
            go_region_held3 (fun w' => w'.cell? ⟨rb, 0, none⟩ = some (.slice A D.eds.length c) ∧ w'.cell? ⟨w.heap.size, 1, none⟩ = some (.string x1) ∧ w'.cell? ⟨w.heap.size, 4, none⟩ = some (.slice A4 x4.length c4))
              (first
                | (with_reducible exact S0.out)
                | (with_reducible exact S1.out)
                | (with_reducible exact S2.out))
              (first
                | (go_at_call 16; refine (C16.out _ (below_drew (Below.refl _ _))).mono ?_; rintro e w1 ⟨rfl, ⟨m1, rfl⟩⟩; have B1 := Aside0.mk (pw_below_drewN (Below.refl W.heap.size W) (1 + m1)); have S1 := Aside0.mk (HOC.out _ B1.out))
                | (go_at_call 51; refine (C51.out _ B1.out).mono ?_; rintro e w2 ⟨rfl, hB⟩; have B2 := Aside0.mk (below_step B1.out hB); have S2 := Aside0.mk (HOC.out _ B2.out); obtain ⟨k2, u0, u1, v0, v1⟩ := HK.out _ B2.out; clear hB))
            go_wp2_with (go_at_call 52; refine (C52.out _ B2.out).mono ?_; rintro e w3 ⟨rfl, rfl⟩)
            clear k2 u0 u1 v0 v1 B1 S1 S2
            obtain ⟨k2, k3, u0, u1, v0, v1, b2, e0, e3⟩ := HM.out _ B2.out
            go_quiet (fail)
            clear k2 k3 u0 u1 v0 v1 b2 e0 e3
            generalize hW3 : World.drewN _ _ = W3 at *
            have B3 : Aside0 (Below W.heap.size W W3) := ⟨by rw [← hW3]; repeat (first | exact B2.out | apply pw_below_drewN)⟩
            clear hW3
            obtain ⟨k2, k3, u0, u1, v0, v1, b2, e0, e3⟩ := HM.out _ B3.out
            go_wp2_with fail
            go_quiet (fail)
            clear k2 k3 u0 u1 v0 v1 b2 e0 e3
            generalize hW4 : World.drewN _ _ = W4 at *
            have B4 : Aside0 (Below W.heap.size W W4) := ⟨by rw [← hW4]; repeat (first | exact B3.out | apply pw_below_drewN)⟩
            clear hW4
            obtain ⟨k2, k3, u0, u1, v0, v1, b2, e0, e3⟩ := HM.out _ B4.out
            have HRES := Aside0.mk (blk_set (blk_set (HR2.out _ B4.out) 0 (.int .i64 0)) 1 (.int .i64 11))
            go_wp2
            refine bodyPost_ret (results_single rfl (.cell (w.heap.size + 1) 37 _ (0, 0) _ rfl HRES.out Try.underlying37 rfl (by kernel_rfl) .nil)) rfl ?_
            rw [HV.out]
            exact FIN.out _ B4.out _ _
end Go.Proofs.Ytkblcdpmdbofgaa.A
/- The reference's amend: what its stores do. -/
namespace Go.Proofs.Ytkblcdpmdbofgaa.A
open Go.RowKit Go.Proofs.YtkblcdpmdbofgaaW.PrintWords Go.Proofs.YtkblcdpmdbofgaaW.PrintLast Go.Proofs.YtkblcdpmdbofgaaW.PrintMore
set_option linter.unusedVariables false
set_option linter.unusedSimpArgs false

section
variable {w0 w w' : World} {F : Nat → Prop} {rb : Nat} {D : Dk} {i : Nat} {d : Dr} {A : Option Addr} {c g cap : Nat} {Ah : Option Addr} {ch : Nat} {Ap : Option Addr} {cp : Nat}
/-- The same in a later world, F kept to what lay there. -/
theorem RefE.stay (h : RefE w0 w F rb D i d A c g cap Ah ch Ap cp) (hB : Below w.heap.size w w') : RefE w0 w' (fun k => F k ∧ k < w.heap.size) rb D i d A c g cap Ah ch Ap cp := by
  obtain ⟨cells, hrow⟩ := Kd.N_typed h.N g rfl
  have hr' := blk_below hrow hB
  exact { blk := blk_below h.blk hB, hc := h.hc, eds := h.eds
          N := Kd.N_mono (Kd.N_below (Kd.N_bound h.N) hB) (fun k hk => ⟨⟨hk.1.1, hk.2⟩, hk.1.2⟩)
          FK := Kd.FK_mono (Kd.FK_below (Kd.FK_bound h.FK) hB) (fun k hk => ⟨⟨⟨hk.1.1.1, hk.2⟩, hk.1.1.2⟩, hk.1.2⟩)
          cells := fun j u hj => (hB.cell (World.block_lt_of_cell? w _ (h.cells j u hj))).trans (h.cells j u hj)
          fr := fun j => blk_frozen hr' _
          hist := Kd.F_mono (Kd.F_below (Kd.F_bound h.hist) hB) (fun k hk => ⟨⟨⟨hk.1.1.1, hk.2⟩, hk.1.1.2⟩, hk.1.2⟩), hch := h.hch
          app := Kd.F_mono (Kd.F_below (Kd.F_bound h.app) hB) (fun k hk => ⟨⟨⟨hk.1.1.1, hk.2⟩, hk.1.1.2⟩, hk.1.2⟩), hcp := h.hcp, lt := h.lt, ne := h.ne, fg := ⟨h.fg, blk_lt hrow⟩, gg := h.gg }
theorem Ref.far {p : Addr} (h : Ref w0 w F rb D) (hp : ¬ F p.block) (hge : w0.heap.size ≤ p.block) (u : Value) : Ref w0 (w.setCell p u) F rb D := by
  obtain ⟨A, c, v, h1, h2, h3, h4⟩ := h.blk
  exact ⟨⟨A, c, v, blk_far h1 (fun he => hp (he ▸ h.own)) u, h2, h3, Kd.N_far h4 (fun k hk he => hp (he ▸ hk.1)) u⟩, h.own, h.ge, Kp.bel h.below (Kp.setCell w p u) (fun k hk he => by rw [he] at hk; omega) h.below.size⟩
def okH (w W4 : World) (F : Nat → Prop) (rb g : Nat) (k : Nat) : Prop := (((F k ∧ k < w.heap.size) ∨ W4.heap.size ≤ k) ∧ k ≠ rb) ∧ k ≠ g
/-- Behind the appends. -/
theorem ramend_end {W4 w6 : World} (hE : RefE w0 w F rb D i d A c g cap Ah ch Ap cp) (own : F rb) (ge : w0.heap.size ≤ rb) (hB : Below w0.heap.size w0 w) (hB4 : Below w.heap.size w W4) (hB6 : Below W4.heap.size W4 w6)
    {ed : ByteArray} {ts : List S68} {v : Value} (hN : Kd.N (Kd.slice 68 k68) 33 w6 W4.heap.size (okH w W4 F rb g) v (d.earlier ++ [d.trees] ++ [ts])) {res : Nat} (hr : w.heap.size ≤ res) (hr2 : res < W4.heap.size) (a b : Value) :
    RDid w0 w F rb (.agg #[a, b]) (D.put i ⟨ed, ts, d.earlier ++ [d.trees], [], d.closed⟩) (.returned (.agg #[a, b])) (((((w6.setCell ⟨g, i * 4, none⟩ v).setCell ⟨g, i * 4 + 1, none⟩ (.string ed)).setCell ⟨g, i * 4 + 2, none⟩ (.slice none 0 0)).setCell ⟨res, 0, none⟩ a).setCell ⟨res, 1, none⟩ b) := by
  have hE6 := (hE.stay hB4).grow hB6
  have hlt := blk_lt hE.blk
  have hsz := hB.size
  have hgl : g < w.heap.size := by obtain ⟨cells, hrow⟩ := Kd.N_typed hE.N g rfl; exact blk_lt hrow
  obtain ⟨A6, c6, rfl⟩ := Kd.N_slice hN
  have hF := Kd.N_F hN
  have hc6 := (Kd.N_reads' hN).2.1
  have hB6w := below_step hB4 hB6
  have hP := hE6.put (.inl ⟨own, hlt⟩) ge (below_step hB hB6w) (j := 0) (seg := [.slice A6 (d.earlier ++ [d.trees] ++ [ts]).length c6, .string ed, .slice none 0 0]) (d' := ⟨ed, ts, d.earlier ++ [d.trees], [], d.closed⟩) (by simp)
    (k89_mkF w6 _ (rDr ⟨ed, ts, d.earlier ++ [d.trees], [], d.closed⟩) (A0 := A6) (c0 := c6) (A2 := none) (c2 := 0) hc6 (Kd.F_mono hF (fun k hk => hk)) (Nat.le_refl 0) (Kd.F_nil _ _ _))
  have hR := ((hP.1.far (p := ⟨res, 0, none⟩) (fun h => by rcases h with h | h <;> (have : res < W4.heap.size := hr2; have := h; simp only at *; omega)) (by show w0.heap.size ≤ res; omega) a).far (p := ⟨res, 1, none⟩) (fun h => by rcases h with h | h <;> (have : res < W4.heap.size := hr2; have := h; simp only at *; omega)) (by show w0.heap.size ≤ res; omega) b).mono (F' := fun k => F k ∨ w.heap.size ≤ k) (fun k hk => hk.elim (fun h => .inl h.1) (fun h => .inr (by omega)))
  have hK := ((hP.2.mono (fun k hk => Or.inl hk)).then_ (Kp.setCell _ ⟨res, 0, none⟩ a) (S := fun k => k = g ∨ k = res) (fun k hk => .inl (.inr hk))).then_ (Kp.setCell _ ⟨res, 1, none⟩ b) (fun k hk => .inl (.inr hk))
  exact RDid.mk hB6w hR hK (fun k hk => hk.elim (fun h => .inl (h ▸ ⟨hE.fg, hE.gg⟩)) (fun h => .inr (h ▸ hr)))
end
end Go.Proofs.Ytkblcdpmdbofgaa.A
/- The reference's amend: a revision that is made. -/
namespace Go.Proofs.Ytkblcdpmdbofgaa.A
open Go.RowKit Go.Proofs.YtkblcdpmdbofgaaW.PrintWords Go.Proofs.YtkblcdpmdbofgaaW.PrintLast Go.Proofs.YtkblcdpmdbofgaaW.PrintMore
set_option linter.unusedVariables false
set_option linter.unusedSimpArgs false

theorem own_ne {v v1 : Value} {W : World} {b : Nat} (hat : v1.ownBlock = v.ownBlock ∨ ∃ k, v1.ownBlock = some k ∧ W.heap.size ≤ k) (h1 : some b ≠ v.ownBlock) (h2 : b < W.heap.size) : some b ≠ v1.ownBlock := by
  rcases hat with h | ⟨k, h, hk⟩
  · rw [h]; exact h1
  · rw [h]
    intro he
    injection he with he
    omega
def amS (w6 : World) (g i : Nat) (ed : ByteArray) (v6 : Value) : World := ((w6.setCell ⟨g, i * 4, none⟩ v6).setCell ⟨g, i * 4 + 1, none⟩ (.string ed)).setCell ⟨g, i * 4 + 2, none⟩ (.slice none 0 0)
theorem am_res {w6 : World} {g i res : Nat} {ed : ByteArray} (hb : w6.heap[res]? = some (.cells #[.int .i64 0, .int .i64 0] 37 (0, 0))) (hne : g ≠ res) (v6 a b : Value) :
    ((((((w6.setCell ⟨g, i * 4, none⟩ v6).setCell ⟨g, i * 4 + 1, none⟩ (.string ed)).setCell ⟨g, i * 4 + 2, none⟩ (.slice none 0 0))).setCell ⟨res, 0, none⟩ a).setCell ⟨res, 1, none⟩ b).heap[res]? = some (.cells ((#[Value.int .i64 0, .int .i64 0].setIfInBounds 0 a).setIfInBounds 1 b) 37 (0, 0)) :=
  blk_set (blk_set (blk_far (p := ⟨g, i * 4 + 2, none⟩) (blk_far (p := ⟨g, i * 4 + 1, none⟩) (blk_far (p := ⟨g, i * 4, none⟩) hb hne.symm v6) hne.symm _) hne.symm _) 0 a) 1 b
theorem am_stores {w0 W4 w6 : World} {F : Nat → Prop} {rb : Nat} {D : Dk} {i : Nat} {d : Dr} {A : Option Addr} {c g cap : Nat} {Ah : Option Addr} {ch : Nat} {Ap : Option Addr} {cp : Nat} {ed : ByteArray} {res bx : Nat} (hE : RefE w0 W4 F rb D i d A c g cap Ah ch Ap cp) (hB : Below W4.heap.size W4 w6) (hne : g ≠ res) (hnx : g ≠ bx)
    (hb : w6.heap[res]? = some (.cells #[.int .i64 0, .int .i64 0] 37 (0, 0))) (hx : w6.cell? ⟨bx, 1, none⟩ = some (.string ed)) (v6 : Value) {B : Nat} (hgl : g < B) :
    w6.cell? ⟨g, i * 4, none⟩ = some (.slice Ah (d.earlier.length + 1) ch) ∧ w6.frozen? ⟨g, i * 4, none⟩ = false ∧
    (w6.setCell ⟨g, i * 4, none⟩ v6).cell? ⟨g, i * 4 + 1, none⟩ = some (.string d.author) ∧ (w6.setCell ⟨g, i * 4, none⟩ v6).frozen? ⟨g, i * 4 + 1, none⟩ = false ∧
    ((w6.setCell ⟨g, i * 4, none⟩ v6).setCell ⟨g, i * 4 + 1, none⟩ (.string ed)).cell? ⟨g, i * 4 + 2, none⟩ = some (.slice Ap d.approvals.length cp) ∧ ((w6.setCell ⟨g, i * 4, none⟩ v6).setCell ⟨g, i * 4 + 1, none⟩ (.string ed)).frozen? ⟨g, i * 4 + 2, none⟩ = false ∧
    (((w6.setCell ⟨g, i * 4, none⟩ v6).setCell ⟨g, i * 4 + 1, none⟩ (.string ed)).setCell ⟨g, i * 4 + 2, none⟩ (.slice none 0 0)).cell? ⟨g, i * 4, none⟩ = some v6 ∧ (w6.setCell ⟨g, i * 4, none⟩ v6).cell? ⟨bx, 1, none⟩ = some (.string ed) ∧
    (((w6.setCell ⟨g, i * 4, none⟩ v6).setCell ⟨g, i * 4 + 1, none⟩ (.string ed)).setCell ⟨g, i * 4 + 2, none⟩ (.slice none 0 0)).cell? ⟨res, 0, none⟩ = some (.int .i64 0) ∧ (((w6.setCell ⟨g, i * 4, none⟩ v6).setCell ⟨g, i * 4 + 1, none⟩ (.string ed)).setCell ⟨g, i * 4 + 2, none⟩ (.slice none 0 0)).cell? ⟨res, 1, none⟩ = some (.int .i64 0) ∧
    (((w6.setCell ⟨g, i * 4, none⟩ v6).setCell ⟨g, i * 4 + 1, none⟩ (.string ed)).setCell ⟨g, i * 4 + 2, none⟩ (.slice none 0 0)).frozen? ⟨res, 0, none⟩ = false ∧ (((w6.setCell ⟨g, i * 4, none⟩ v6).setCell ⟨g, i * 4 + 1, none⟩ (.string ed)).setCell ⟨g, i * 4 + 2, none⟩ (.slice none 0 0)).frozen? ⟨res, 1, none⟩ = false := by
  have h6 := hE.grow hB
  obtain ⟨cells, hrow⟩ := Kd.N_typed h6.N g rfl
  have c0 := h6.cells 0 _ rfl
  have c1 := h6.cells 1 _ rfl
  have c2 := h6.cells 2 _ rfl
  simp only [Nat.add_zero] at c0
  have d0 := (blk_cell hrow (i * 4)).symm.trans c0
  have d1 := (blk_cell hrow (i * 4 + 1)).symm.trans c1
  have d2 := (blk_cell hrow (i * 4 + 2)).symm.trans c2
  have hA := blk_set hrow (i * 4) v6
  have hBs := blk_set hA (i * 4 + 1) (.string ed)
  have hCs := blk_set hBs (i * 4 + 2) (.slice none 0 0)
  have hlt := (Array.getElem?_eq_some_iff.1 d0).1
  have hres : (((w6.setCell ⟨g, i * 4, none⟩ v6).setCell ⟨g, i * 4 + 1, none⟩ (.string ed)).setCell ⟨g, i * 4 + 2, none⟩ (.slice none 0 0)).heap[res]? = some (.cells #[.int .i64 0, .int .i64 0] 37 (0, 0)) := blk_far (p := ⟨g, i * 4 + 2, none⟩) (blk_far (p := ⟨g, i * 4 + 1, none⟩) (blk_far (p := ⟨g, i * 4, none⟩) hb hne.symm v6) hne.symm _) hne.symm _
  refine ⟨c0, blk_frozen hrow _, ?_, blk_frozen hA _, ?_, blk_frozen hBs _, ?_, ?_, blk_cell hres 0, blk_cell hres 1, blk_frozen hres _, blk_frozen hres _⟩
  · rw [blk_cell hA, Array.getElem?_setIfInBounds_ne (by omega)]; exact d1
  · rw [blk_cell hBs, Array.getElem?_setIfInBounds_ne (by omega), Array.getElem?_setIfInBounds_ne (by omega)]; exact d2
  · rw [blk_cell hCs, Array.getElem?_setIfInBounds_ne (by omega), Array.getElem?_setIfInBounds_ne (by omega), Array.getElem?_setIfInBounds_self, if_pos hlt]
  · have hfar := Below.heap_setCell w6 ⟨g, i * 4, none⟩ v6 bx (fun he => hnx he.symm)
    unfold World.cell? at hx ⊢
    rw [hfar]
    exact hx

set_option maxHeartbeats 16000000 in
set_option maxRecDepth 100000 in
theorem ramend_yes {w0 w : World} {F : Nat → Prop} {rb : Nat} {D : Dk} (h : Ref w0 w F rb D) (heds : D.eds.length ≤ 2000000) (hd256 : D.drafts.length ≤ 256) (x : S35) (A4 : Option Addr) (c4 : Nat) (hx : opOk x) (hr : k68.C w0 A4 x.f4.length x.f4) (hc4 : x.f4.length ≤ c4) (hF0 : ∀ k, k < w0.heap.size → F k)
    (i : Nat) (du : ByteArray) (dt : List S68) (de : List (List S68)) (da : List ByteArray) (hdi : D.drafts[i]? = some ⟨du, dt, de, da, false⟩) (hg : D.get ((i : Int) + 1) = some ⟨du, dt, de, da, false⟩) (hv : D.valid x.f1 x.f4 = true) (hq1 : de.length < 255) (hi2 : x.f2 = (i : Int) + 1) (hi3 : x.f3 = (de.length : Int) + 1) :
    Calls Try.prog 43 #[.pointer (some ⟨rb, 0, none⟩), .agg #[.int .i64 x.f0, .string x.f1, .int .i64 x.f2, .int .i64 x.f3, .slice A4 x.f4.length c4]] w (RDid w0 w F rb (.agg #[.int .i64 (D.amend x.f1 x.f2 x.f3 x.f4).1, .int .i64 (D.amend x.f1 x.f2 x.f3 x.f4).2.1]) (D.amend x.f1 x.f2 x.f3 x.f4).2.2) := by
  obtain ⟨A2, c2, g, cap, Ah, ch, Ap, cp, hE⟩ := h.at_ hdi
  obtain ⟨A, c, Av, cv, hbk, hce, hC⟩ := h.len
  have HBA := Aside0.mk (atW_below w x A4 c4)
  have HRS := Aside0.mk (atW_res w x A4 c4)
  have HOC := Aside0.mk (fun (W : World) (hB : Below (atW w x A4 c4).heap.size (atW w x A4 c4) W) => opCells hbk hB)
  have HK := Aside0.mk (fun (W : World) (hB : Below (atW w x A4 c4).heap.size (atW w x A4 c4) W) => am_box hB)
  have HR2 := Aside0.mk (fun (W : World) (hB : Below (atW w x A4 c4).heap.size (atW w x A4 c4) W) => blk_below (atW_res w x A4 c4) hB)
  have C16 := Aside0.mk (fun (W : World) (hW : Below (atW w x A4 c4).heap.size (atW w x A4 c4) W) => in_calls A c D.eds x.f1 W heds (Kd.C_below hC (below_step h.below (below_step (atW_below w x A4 c4) hW))) hce)
  have C51 := Aside0.mk (fun (W : World) (hW : Below (atW w x A4 c4).heap.size (atW w x A4 c4) W) => rnotice_calls x.f4 A4 c4 W hx.2.2.2 (Kd.C_below hr (below_step h.below (below_step (atW_below w x A4 c4) hW))) hc4)
  have C52 := Aside0.mk (fun (W : World) (hW : Below (atW w x A4 c4).heap.size (atW w x A4 c4) W) => found_calls (h.grow (below_step (atW_below w x A4 c4) hW)) x.f2)
  have FIN := Aside0.mk (fun (W : World) (hW : Below (atW w x A4 c4).heap.size (atW w x A4 c4) W) (a b : Value) => h.same (below_set (j := 1) (v := b) (below_set (j := 0) (v := a) (below_step (atW_below w x A4 c4) hW) (Nat.le_succ w.heap.size)) (Nat.le_succ w.heap.size)) (.agg #[a, b]))
  have hW0 : (w.alloc (.cells #[.int .i64 x.f0, .string x.f1, .int .i64 x.f2, .int .i64 x.f3, .slice A4 x.f4.length c4] 35)).alloc (.cells #[.int .i64 0, .int .i64 0] 37) = atW w x A4 c4 := rfl
  have HDR := fun (i : Nat) (d : Dr) (A : Option Addr) (c g cap : Nat) (Ah : Option Addr) (ch : Nat) (Ap : Option Addr) (cp : Nat) (hE : RefE w0 w F rb D i d A c g cap Ah ch Ap cp) (W : World) (hB : Below (atW w x A4 c4).heap.size (atW w x A4 c4) W) => am_draft hE hB
  have HM0 := fun (W' : World) (hB : Below (atW w x A4 c4).heap.size (atW w x A4 c4) W') => HDR _ _ _ _ _ _ _ _ _ _ hE W' hB
  have HRT := Aside0.mk hr
  have HC4 := Aside0.mk hc4
  generalize hWW : atW w x A4 c4 = W at *
  have hsz : w.heap.size + 1 < W.heap.size := blk_lt HRS.out
  obtain ⟨x0, x1, x2, x3, x4⟩ := x
  simp only at *
  have HW0 := Aside0.mk hW0
  have S0 := Aside0.mk (HOC.out W.drew (below_drew (Below.refl _ _)))
  have b0 : W.cell? ⟨rb, 0, none⟩ = some (.slice A D.eds.length c) := (HOC.out W (Below.refl _ _)).1
  have k1 : W.cell? ⟨w.heap.size, 1, none⟩ = some (.string x1) := (HOC.out W (Below.refl _ _)).2.1
  have k4 : W.cell? ⟨w.heap.size, 4, none⟩ = some (.slice A4 x4.length c4) := (HOC.out W (Below.refl _ _)).2.2
  subst hi2
  subst hi3
  have hms : memS D.eds x1 = true ∧ noticeS x4 = true := by
    have q := hv
    unfold Dk.valid at q
    rwa [Bool.and_eq_true] at q
  have hm := hms.1
  have hn := hms.2
  rw [hm] at C16
  rw [hn] at C51
  rw [hg] at C52
  have HV : Aside0 (D.amend x1 ((i : Int) + 1) ((de.length : Int) + 1) x4 = ((de.length : Int) + 2, 0, D.put i ⟨x1, x4, de ++ [dt], [], false⟩)) := ⟨by
    have ec : D.cur ((i : Int) + 1) ((de.length : Int) + 1) = 0 := by rw [Dk.cur_some hg, if_neg (by simp), if_pos rfl]
    unfold Dk.amend
    rw [if_neg (by simp [hv]), ec, if_neg (by simp), if_neg (by omega), hg]
    simp only
    rw [show ((i : Int) + 1 - 1).toNat = i by omega]⟩
  have HE := Aside0.mk hE
  have HH := Aside0.mk h
  have HF0 := Aside0.mk hF0
  have HM := Aside0.mk HM0
  have hlt := hE.lt
  have fw1 : wrap64 ((i : Int) + 1 - 1) = (i : Int) := (wrap_small (by omega) (by omega)).trans (by omega)
  have fw2 : IntKind.i64.wrap ((i : Int) + 1 - 1) = (i : Int) := (wrap_i64 (by omega) (by omega)).trans (by omega)
  have fi1 : (0 : Int) ≤ (i : Int) := Int.natCast_nonneg _
  have fi2 : (i : Int) < (D.drafts.length : Int) := by omega
  have hi256 : i ≤ 256 := by omega
  have ff : decide (256 ≤ (de.length : Int) + 1) = false := decide_eq_false (by omega)
  clear h hx hr hbk hC hm hn hms hW0 hWW b0 k1 k4 hv hg HDR HM0 hdi hE hlt hF0
  go_enter Try.func43, Try.ntmps43
  go_wp2_with fail
  rw [HW0.out]
  go_region_held3 (fun w' => w'.cell? ⟨rb, 0, none⟩ = some (.slice A D.eds.length c) ∧ w'.cell? ⟨w.heap.size, 1, none⟩ = some (.string x1) ∧ w'.cell? ⟨w.heap.size, 4, none⟩ = some (.slice A4 x4.length c4))
    (first
      | (with_reducible exact S0.out)
      | (with_reducible exact S1.out)
      | (with_reducible exact S2.out))
    (first
      | (go_at_call 16; refine (C16.out _ (below_drew (Below.refl _ _))).mono ?_; rintro e w1 ⟨rfl, ⟨m1, rfl⟩⟩; have B1 := Aside0.mk (pw_below_drewN (Below.refl W.heap.size W) (1 + m1)); have S1 := Aside0.mk (HOC.out _ B1.out))
      | (go_at_call 51; refine (C51.out _ B1.out).mono ?_; rintro e w2 ⟨rfl, hB⟩; have B2 := Aside0.mk (below_step B1.out hB); have S2 := Aside0.mk (HOC.out _ B2.out); obtain ⟨k2, u0, u1, v0, v1⟩ := HK.out _ B2.out; clear hB))
  go_wp2_with (go_at_call 52; refine (C52.out _ B2.out).mono ?_; rintro e w3 ⟨rfl, rfl⟩)
  clear k2 u0 u1 v0 v1 B1 S1 S2
  obtain ⟨k2, k3, u0, u1, v0, v1, b2, e0, e3⟩ := HM.out _ B2.out
  go_quiet (fail)
  clear k2 k3 u0 u1 v0 v1 b2 e0 e3
  generalize hW3 : World.drewN _ _ = W3 at *
  have B3 : Aside0 (Below W.heap.size W W3) := ⟨by rw [← hW3]; repeat (first | exact B2.out | apply pw_below_drewN)⟩
  clear hW3
  obtain ⟨k2, k3, u0, u1, v0, v1, b2, e0, e3⟩ := HM.out _ B3.out
  go_wp2_with fail
  go_quiet (fail)
  clear k2 k3 u0 u1 v0 v1 b2 e0 e3
  generalize hW4 : World.drewN _ _ = W4 at *
  have B4 : Aside0 (Below W.heap.size W W4) := ⟨by rw [← hW4]; repeat (first | exact B3.out | apply pw_below_drewN)⟩
  clear hW4
  obtain ⟨k2, k3, u0, u1, v0, v1, b2, e0, e3⟩ := HM.out _ B4.out
  go_wp2_with fail
  clear k2 k3 u0 u1 v0 v1 b2 e0 e3
  have hB4 := below_step HBA.out B4.out
  have hE4 := HE.out.stay hB4
  have hrl : w.heap.size + 1 < W4.heap.size := Nat.lt_of_lt_of_le hsz B4.out.size
  have hrb : rb < w.heap.size := blk_lt HE.out.blk
  have hgl : g < w.heap.size := by obtain ⟨cells, hrow⟩ := Kd.N_typed HE.out.N g rfl; exact blk_lt hrow
  have hge := HH.out.ge
  have HHI := Aside0.mk (fun (W' : World) (hW : Below W4.heap.size W4 W') => Kd.F_below hE4.hist hW)
  have HOK1 := Aside0.mk (fun (s : Nat) (hs : W4.heap.size ≤ s) (k : Nat) (hk : ((F k ∧ k < w.heap.size) ∧ k ≠ rb) ∧ k ≠ g) => (show okH w W4 F rb g k ∧ some k ≠ (Value.slice (some ⟨s, 0, none⟩) 0 0).ownBlock from ⟨⟨⟨.inl hk.1.1, hk.1.2⟩, hk.2⟩, fun he => by simp [Value.ownBlock] at he; have := hk.1.1.2; omega⟩))
  have HFR := Aside0.mk (fun (W' : World) (hW : Below W4.heap.size W4 W') (k : Nat) (hk : W'.heap.size ≤ k) => (show okH w W4 F rb g k from by have := hW.size; exact ⟨⟨.inr (by omega), by omega⟩, by omega⟩))
  have HOK2 := Aside0.mk (fun (v : Value) (lit : Nat) (hl : W4.heap.size ≤ lit) (hne : some lit ≠ v.ownBlock) (hb : ∀ k, v.ownBlock = some k → W4.heap.size ≤ k) (k : Nat) (hk : k < w0.heap.size ∨ k = lit) => (show okH w W4 F rb g k ∧ some k ≠ v.ownBlock from by
    have hs0 := HH.out.below.size
    have hgg := HE.out.gg
    rcases hk with hk | hk
    · exact ⟨⟨⟨.inl ⟨HF0.out k hk, by omega⟩, by omega⟩, by omega⟩, fun he => by have := hb k he.symm; omega⟩
    · subst hk
      exact ⟨⟨⟨.inr hl, by omega⟩, by omega⟩, hne⟩))
  have HTS := Aside0.mk (fun (W' : World) (hW : Below W4.heap.size W4 W') => Kd.F_step (W1 := W') (Kd.C_F heap68 HRT.out) (fun k hk hl => (below_step (below_step HH.out.below hB4) hW).block k hk))
  have HBX := Aside0.mk (fun (W' : World) (hW : Below W4.heap.size W4 W') => (show W'.cell? ⟨w.heap.size, 4, none⟩ = some (.slice A4 x4.length c4) from (HOC.out _ (below_step B4.out hW)).2.2))
  have okE : ∀ k, W4.heap.size ≤ k → okH w W4 F rb g k := fun k hk => ⟨⟨.inr hk, by omega⟩, by omega⟩
  have HE1 := Aside0.mk (Kd.N_drew (Kd.R_N (R_empty (Kd.slice 68 k68) 33 W4 W4.heap.size (okH w W4 F rb g) (Nat.le_refl _) (okE _ (Nat.le_refl _)))))
  have HE2 := Aside0.mk (Kd.N_drew (Kd.N_alloc (Kd.R_N (R_empty (Kd.slice 68 k68) 33 W4 W4.heap.size (okH w W4 F rb g) (Nat.le_refl _) (okE _ (Nat.le_refl _)))) (.cells #[.slice A4 x4.length c4] 33)))
  have HE3 : Aside0 (Kd.N (Kd.slice 68 k68) 33 ((W4.alloc (.cells #[.slice A4 x4.length c4] 33)).alloc (.cells #[] 33)).drew W4.heap.size (okH w W4 F rb g) (.slice (some ⟨W4.heap.size + 1, 0, none⟩) 0 0) []) := ⟨by
    have q := Kd.N_drew (Kd.R_N (R_empty (Kd.slice 68 k68) 33 (W4.alloc (.cells #[.slice A4 x4.length c4] 33)) W4.heap.size (okH w W4 F rb g) (by simp) (okE _ (by simp))))
    rw [show (W4.alloc (.cells #[.slice A4 x4.length c4] 33)).heap.size = W4.heap.size + 1 by simp] at q
    exact q⟩
  have BB1 := Aside0.mk (below_drew (below_alloc (Below.refl W4.heap.size W4) (.cells #[] 33)))
  have BB2 := Aside0.mk (below_drew (below_alloc (below_alloc (Below.refl W4.heap.size W4) (.cells #[] 33)) (.cells #[.slice A4 x4.length c4] 33)))
  have BB3 := Aside0.mk (below_drew (below_alloc (below_alloc (Below.refl W4.heap.size W4) (.cells #[.slice A4 x4.length c4] 33)) (.cells #[] 33)))
  have L2 : Aside0 (((W4.alloc (.cells #[] 33)).alloc (.cells #[.slice A4 x4.length c4] 33)).drew.heap[W4.heap.size + 1]? = some (.cells #[.slice A4 x4.length c4] 33 (0, 0))) := ⟨by
    have q := heap_alloc_new (W4.alloc (.cells #[] 33)) (.cells #[.slice A4 x4.length c4] 33 (0, 0))
    rwa [show (W4.alloc (.cells #[] 33)).heap.size = W4.heap.size + 1 by simp] at q⟩
  have L3 : Aside0 (((W4.alloc (.cells #[.slice A4 x4.length c4] 33)).alloc (.cells #[] 33)).drew.heap[W4.heap.size]? = some (.cells #[.slice A4 x4.length c4] 33 (0, 0))) := ⟨blk_alloc (heap_alloc_new W4 _) _⟩
  have HL1 : Aside0 ((([] : List (List S68)).length + (de.length + 1)) * 24 ≤ 140737488355328) := ⟨by simp; omega⟩
  have HL2 : Aside0 (((de ++ [dt]).length + 1) * 24 ≤ 140737488355328) := ⟨by simp; omega⟩
  have FN := Aside0.mk (fun (w6 : World) (hB6 : Below W4.heap.size W4 w6) (v : Value) (hN : Kd.N (Kd.slice 68 k68) 33 w6 W4.heap.size (okH w W4 F rb g) v (de ++ [dt] ++ [x4])) => ramend_end (ed := x1) HE.out HH.out.own hge HH.out.below hB4 hB6 hN (Nat.le_succ w.heap.size) hrl (.int .i64 ((de.length : Int) + 2)) (.int .i64 0))
  have AC := Aside0.mk (fun (w6 : World) (hB6 : Below W4.heap.size W4 w6) (v6 : Value) => am_stores (ed := x1) hE4 hB6 (by omega) (by omega) (blk_below (HR2.out _ B4.out) hB6) (HOC.out _ (below_step B4.out hB6)).2.1 v6 hgl)
  have RN := Aside0.mk (fun (w6 : World) (hB6 : Below W4.heap.size W4 w6) (v6 : Value) => am_res (ed := x1) (g := g) (i := i) (blk_below (HR2.out _ B4.out) hB6) (by omega) v6 (.int .i64 ((de.length : Int) + 2)) (.int .i64 0))
  have m4 := HBX.out _ (Below.refl _ _)
  have m4a : ∀ o, (W4.alloc o).cell? ⟨w.heap.size, 4, none⟩ = some (.slice A4 x4.length c4) := fun o => HBX.out _ (below_alloc (Below.refl _ _) o)
  have m4b : ∀ o o', ((W4.alloc o).alloc o').cell? ⟨w.heap.size, 4, none⟩ = some (.slice A4 x4.length c4) := fun o o' => HBX.out _ (below_alloc (below_alloc (Below.refl _ _) o) o')
  have n0 : W4.cell? ⟨g, i * 4, none⟩ = some (.slice Ah (de.length + 1) ch) := hE4.cells 0 _ rfl
  have hgW : g < W4.heap.size := by omega
  have n0a : ∀ o, (W4.alloc o).cell? ⟨g, i * 4, none⟩ = some (.slice Ah (de.length + 1) ch) := fun o => ((below_alloc (Below.refl W4.heap.size W4) o).cell hgW).trans n0
  have n0b : ∀ o o', ((W4.alloc o).alloc o').cell? ⟨g, i * 4, none⟩ = some (.slice Ah (de.length + 1) ch) := fun o o' => ((below_alloc (below_alloc (Below.refl W4.heap.size W4) o) o').cell hgW).trans n0
  clear hE4 okE
  go_region_law
      (first
        | (refine Kd.N_append_rows_step (W := (W4.alloc (.cells #[] 33)).drew) (Kd.slice 68 k68) (w0 := W4) W4.heap.size rfl (.tmp 57) (.tmp 61) 43 33 (.slice none 0 0) 24 rfl Try.underlying43 info33 rfl (by decide) (by decide) (.slice (some ⟨W4.heap.size, 0, none⟩) 0 0) [] (de ++ [dt]) Ah (de.length + 1) ch (okH w W4 F rb g) (fun k => ((F k ∧ k < w.heap.size) ∧ k ≠ rb) ∧ k ≠ g) (by simp [Act.eval, Act.put]) (by simp [Act.eval, Act.put]) HE1.out (HHI.out _ BB1.out) (HOK1.out _ (Nat.le_refl _)) (HFR.out _ BB1.out) BB1.out BB1.out.size HL1.out ?_; intro v5 w5 hN hB hG hat; have HN5 := Aside0.mk hN; have HB5 := Aside0.mk hB; have HV5 := Aside0.mk (Kd.N_base hN); have HT5 := Aside0.mk (Kd.N_lt hN); have ka := HBX.out _ hB; have kb : ∀ o, (w5.alloc o).cell? ⟨w.heap.size, 4, none⟩ = some (.slice A4 x4.length c4) := fun o => HBX.out _ (below_alloc hB o); clear hN hB hG hat)
        | (refine Kd.N_append_rows_step (W := ((W4.alloc (.cells #[] 33)).alloc (.cells #[.slice A4 x4.length c4] 33)).drew) (Kd.slice 68 k68) (w0 := W4) W4.heap.size rfl (.tmp 57) (.tmp 61) 43 33 (.slice none 0 0) 24 rfl Try.underlying43 info33 rfl (by decide) (by decide) (.slice (some ⟨W4.heap.size, 0, none⟩) 0 0) [] (de ++ [dt]) Ah (de.length + 1) ch (okH w W4 F rb g) (fun k => ((F k ∧ k < w.heap.size) ∧ k ≠ rb) ∧ k ≠ g) (by simp [Act.eval, Act.put]) (by simp [Act.eval, Act.put]) HE2.out (HHI.out _ BB2.out) (HOK1.out _ (Nat.le_refl _)) (HFR.out _ BB2.out) BB2.out BB2.out.size HL1.out ?_; intro v5 w5 hN hB hG hat; have HN5 := Aside0.mk hN; have HB5 := Aside0.mk hB; have HV5 := Aside0.mk (Kd.N_base hN); have HT5 := Aside0.mk (Kd.N_lt hN); have HC5 := Aside0.mk (blk_grown L2.out hG (by simp [Value.ownBlock])); have HO5 : Aside0 (some (W4.heap.size + 1) ≠ v5.ownBlock) := ⟨own_ne hat (by simp [Value.ownBlock]) (by simp <;> omega)⟩; clear hN hB hG hat)
        | (refine Kd.N_append_rows_step (W := ((W4.alloc (.cells #[.slice A4 x4.length c4] 33)).alloc (.cells #[] 33)).drew) (Kd.slice 68 k68) (w0 := W4) W4.heap.size rfl (.tmp 57) (.tmp 61) 43 33 (.slice none 0 0) 24 rfl Try.underlying43 info33 rfl (by decide) (by decide) (.slice (some ⟨W4.heap.size + 1, 0, none⟩) 0 0) [] (de ++ [dt]) Ah (de.length + 1) ch (okH w W4 F rb g) (fun k => ((F k ∧ k < w.heap.size) ∧ k ≠ rb) ∧ k ≠ g) (by simp [Act.eval, Act.put]) (by simp [Act.eval, Act.put]) HE3.out (HHI.out _ BB3.out) (HOK1.out _ (Nat.le_succ _)) (HFR.out _ BB3.out) BB3.out BB3.out.size HL1.out ?_; intro v5 w5 hN hB hG hat; have HN5 := Aside0.mk hN; have HB5 := Aside0.mk hB; have HV5 := Aside0.mk (Kd.N_base hN); have HT5 := Aside0.mk (Kd.N_lt hN); have HC5 := Aside0.mk (blk_grown L3.out hG (by simp [Value.ownBlock])); have HO5 : Aside0 (some W4.heap.size ≠ v5.ownBlock) := ⟨own_ne hat (by simp [Value.ownBlock]) (by simp <;> omega)⟩; clear hN hB hG hat)
        | (refine Kd.N_append_rows_step (W := w5) (Kd.slice 68 k68) (w0 := W4) W4.heap.size rfl (.tmp 62) (.tmp 65) 43 33 (.slice none 0 0) 24 rfl Try.underlying43 info33 rfl (by decide) (by decide) v5 (de ++ [dt]) [x4] (some ⟨W4.heap.size + 1, 0, none⟩) 1 1 (okH w W4 F rb g) (fun k => k < w0.heap.size ∨ k = W4.heap.size + 1) (by simp [Act.eval, Act.put]) (by simp [Act.eval, Act.put]) HN5.out (F_one HC5.out (HTS.out _ HB5.out) HC4.out) (HOK2.out v5 _ (Nat.le_succ _) HO5.out HV5.out) (HFR.out _ HB5.out) HB5.out (HB5.out).size HL2.out ?_; intro v6 w6 hN hB hG _; obtain ⟨A6, c6, rfl⟩ := Kd.N_slice hN; have HF6 := Aside0.mk (FN.out _ hB _ hN); have FC := AC.out _ hB (.slice A6 (de ++ [dt] ++ [x4]).length c6); have HRES := Aside0.mk (RN.out _ hB (.slice A6 (de ++ [dt] ++ [x4]).length c6)); rw [show (de ++ [dt] ++ [x4]).length = de.length + 2 by simp] at HF6 FC HRES ⊢; obtain ⟨q0, p0, q1, p1, q2, p2, q3, q4, u0, u1, v0, v1⟩ := FC; clear hN hB hG)
        | (refine Kd.N_append_rows_step (W := w5) (Kd.slice 68 k68) (w0 := W4) W4.heap.size rfl (.tmp 62) (.tmp 65) 43 33 (.slice none 0 0) 24 rfl Try.underlying43 info33 rfl (by decide) (by decide) v5 (de ++ [dt]) [x4] (some ⟨W4.heap.size, 0, none⟩) 1 1 (okH w W4 F rb g) (fun k => k < w0.heap.size ∨ k = W4.heap.size) (by simp [Act.eval, Act.put]) (by simp [Act.eval, Act.put]) HN5.out (F_one HC5.out (HTS.out _ HB5.out) HC4.out) (HOK2.out v5 _ (Nat.le_refl _) HO5.out HV5.out) (HFR.out _ HB5.out) HB5.out (HB5.out).size HL2.out ?_; intro v6 w6 hN hB hG _; obtain ⟨A6, c6, rfl⟩ := Kd.N_slice hN; have HF6 := Aside0.mk (FN.out _ hB _ hN); have FC := AC.out _ hB (.slice A6 (de ++ [dt] ++ [x4]).length c6); have HRES := Aside0.mk (RN.out _ hB (.slice A6 (de ++ [dt] ++ [x4]).length c6)); rw [show (de ++ [dt] ++ [x4]).length = de.length + 2 by simp] at HF6 FC HRES ⊢; obtain ⟨q0, p0, q1, p1, q2, p2, q3, q4, u0, u1, v0, v1⟩ := FC; clear hN hB hG)
        | (refine Kd.N_append_rows_step (W := (w5.alloc (.cells #[.slice A4 x4.length c4] 33))) (Kd.slice 68 k68) (w0 := W4) W4.heap.size rfl (.tmp 62) (.tmp 65) 43 33 (.slice none 0 0) 24 rfl Try.underlying43 info33 rfl (by decide) (by decide) v5 (de ++ [dt]) [x4] (some ⟨w5.heap.size, 0, none⟩) 1 1 (okH w W4 F rb g) (fun k => k < w0.heap.size ∨ k = w5.heap.size) (by simp [Act.eval, Act.put]) (by simp [Act.eval, Act.put]) (Kd.N_alloc HN5.out _) (F_one (heap_alloc_new w5 _) (HTS.out _ (below_alloc HB5.out _)) HC4.out) (HOK2.out v5 _ HB5.out.size (fun he => Nat.lt_irrefl _ (HT5.out _ he.symm)) HV5.out) (HFR.out _ (below_alloc HB5.out _)) (below_alloc HB5.out _) ((below_alloc HB5.out _)).size HL2.out ?_; intro v6 w6 hN hB hG _; obtain ⟨A6, c6, rfl⟩ := Kd.N_slice hN; have HF6 := Aside0.mk (FN.out _ hB _ hN); have FC := AC.out _ hB (.slice A6 (de ++ [dt] ++ [x4]).length c6); have HRES := Aside0.mk (RN.out _ hB (.slice A6 (de ++ [dt] ++ [x4]).length c6)); rw [show (de ++ [dt] ++ [x4]).length = de.length + 2 by simp] at HF6 FC HRES ⊢; obtain ⟨q0, p0, q1, p1, q2, p2, q3, q4, u0, u1, v0, v1⟩ := FC; clear hN hB hG))
  all_goals (
    go_wp2
    refine bodyPost_ret (results_single rfl (.cell (w.heap.size + 1) 37 _ (0, 0) _ rfl HRES.out Try.underlying37 rfl (by kernel_rfl) .nil)) rfl ?_
    rw [HV.out]
    exact HF6.out)
end Go.Proofs.Ytkblcdpmdbofgaa.A
