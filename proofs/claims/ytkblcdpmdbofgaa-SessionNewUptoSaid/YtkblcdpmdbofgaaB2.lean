/- session.clone and cloneAll: what they return reads as their argument and lies in new memory. -/
import Derived.Test.YtkblcdpmdbofgaaB0
import Derived.Test.YtkblcdpmdbofgaaB1
namespace Go.Proofs.Ytkblcdpmdbofgaa.A
open Go.RowKit Go.Proofs.YtkblcdpmdbofgaaW.PrintWords Go.Proofs.YtkblcdpmdbofgaaW.PrintLast Go.Proofs.YtkblcdpmdbofgaaW.PrintMore
set_option linter.unusedVariables false
set_option linter.unusedSimpArgs false

noncomputable def tsz (t : S68) : Nat := SizeOf.sizeOf t
noncomputable def lsz (l : List S68) : Nat := SizeOf.sizeOf l
theorem kids_lt (t : S68) : lsz t.f2 < tsz t := by
  cases t; simp [tsz, lsz]; omega
theorem mem_lt {x : S68} {l : List S68} (h : x ∈ l) : tsz x < lsz l := List.sizeOf_lt_of_mem h

def New (w : World) (k : Nat) : Prop := w.heap.size ≤ k

theorem rd_mem (l : List S68) (x : Int) (h0 : 0 ≤ x) (h1 : x < l.length) : rd_T68 l x ∈ l := by
  unfold rd_T68
  rw [List.getD_eq_getElem?_getD, List.getElem?_eq_getElem (by omega)]
  exact List.getElem_mem _
theorem take_rd (l : List S68) (x : Int) (h0 : 0 ≤ x) (h1 : x < l.length) : l.take (x + 1).toNat = l.take x.toNat ++ [rd_T68 l x] := by
  have e : (x + 1).toNat = x.toNat + 1 := by omega
  rw [e, List.take_succ_eq_append_getElem (by omega)]
  unfold rd_T68
  rw [List.getD_eq_getElem?_getD, List.getElem?_eq_getElem (by omega)]
  rfl
/-- A tree whose parts were made since W (which is w and more). -/
theorem tree_made {w W w1 : World} {t : S68} {v1 v2 : Value} (h1 : (Kd.int .i64).R 3 w1 W.heap.size (New W) v1 t.f1) (h2 : k68.R 68 w1 W.heap.size (New W) v2 t.f2) (hb : Below w.heap.size w W) : k68.M w1 w.heap.size (New W) t [.string t.f0, v1, v2] :=
  k68_mkM w1 w.heap.size (New W) t (Kd.R_lower h1 hb.size) (Kd.R_lower h2 hb.size)
theorem tree_apart {w wr : World} {o : Obj} {v : Value} {xs : List S68} (h : k68.R 68 wr w.heap.size (New w) v xs) (hb : Below w.heap.size w wr) : ∀ k, New (wr.alloc o) k → New w k ∧ some k ≠ v.ownBlock := fun k hk => by
  have h1 : wr.heap.size + 1 ≤ k := by simpa [New] using hk
  refine ⟨Nat.le_trans hb.size (by omega), fun he => ?_⟩
  have := Kd.R_lt h k he.symm
  omega
theorem R_new {α : Type} {d : Kd α} {e : Nat} {w W w1 : World} {v : Value} {l : List α} (h : d.R e w1 W.heap.size (New W) v l) (hb : Below w.heap.size w W) : d.R e w1 w.heap.size (New w) v l :=
  Kd.R_mono (Kd.R_lower h hb.size) (fun _ hk => Nat.le_trans hb.size hk)
theorem R_far3 {α : Type} {d : Kd α} {e g : Nat} {W w1 : World} {v : Value} {l : List α} (h : d.R e w1 W.heap.size (New W) v l) (hg : g < W.heap.size) (x y z : Value) :
    d.R e (((w1.setCell ⟨g, 0, none⟩ x).setCell ⟨g, 1, none⟩ y).setCell ⟨g, 2, none⟩ z) W.heap.size (New W) v l :=
  Kd.R_far (p := ⟨g, 2, none⟩) (Kd.R_far (p := ⟨g, 1, none⟩) (Kd.R_far (p := ⟨g, 0, none⟩) h (fun _ hk => Nat.ne_of_gt (Nat.lt_of_lt_of_le hg hk)) x) (fun _ hk => Nat.ne_of_gt (Nat.lt_of_lt_of_le hg hk)) y) (fun _ hk => Nat.ne_of_gt (Nat.lt_of_lt_of_le hg hk)) z

set_option maxHeartbeats 1000000 in
set_option maxRecDepth 100000 in
theorem clone_step (n : Nat) (ihA : ∀ (l : List S68) (A : Option Addr) (c : Nat) (w : World), lsz l < n → l.length ≤ 2000000 → (∀ x ∈ l, Bd x) → k68.C w A l.length l → l.length ≤ c →
      Calls Try.prog 38 #[.slice A l.length c] w fun e w' => ∃ v, e = .returned v ∧ k68.R 68 w' w.heap.size (New w) v l ∧ Below w.heap.size w w')
    (t : S68) (A1 : Option Addr) (c1 : Nat) (A2 : Option Addr) (c2 : Nat) (w : World) (ht : tsz t < n + 1) (hb : Bd t)
    (h1 : (Kd.int .i64).C w A1 t.f1.length t.f1) (l1 : t.f1.length ≤ c1) (h2 : k68.C w A2 t.f2.length t.f2) (l2 : t.f2.length ≤ c2) :
    Calls Try.prog 49 #[.agg #[.string t.f0, .slice A1 t.f1.length c1, .slice A2 t.f2.length c2]] w fun e w' => ∃ v1 v2, e = .returned (.agg #[.string t.f0, v1, v2]) ∧ (Kd.int .i64).R 3 w' w.heap.size (New w) v1 t.f1 ∧ k68.R 68 w' w.heap.size (New w) v2 t.f2 ∧ Below w.heap.size w w' := by
  have H1 := Aside0.mk h1
  have H2 := Aside0.mk h2
  clear h1 h2
  have HL1 := Aside0.mk l1
  have HL2 := Aside0.mk l2
  clear l1 l2
  have hk := kids_lt t
  have C1 : ∀ w1 : World, Below w.heap.size w w1 → Calls Try.prog 53 #[.slice A1 t.f1.length c1] w1 fun e w' => ∃ v, e = .returned v ∧ (Kd.int .i64).R 3 w' w1.heap.size (New w1) v t.f1 ∧ Below w1.heap.size w1 w' := fun w1 hw =>
    clone_ints A1 c1 t.f1 w1 (Kd.C_below H1.out hw) (by have := hb.vals; omega)
  have C2 : ∀ w1 : World, Below w.heap.size w w1 → Calls Try.prog 38 #[.slice A2 t.f2.length c2] w1 fun e w' => ∃ v, e = .returned v ∧ k68.R 68 w' w1.heap.size (New w1) v t.f2 ∧ Below w1.heap.size w1 w' := fun w1 hw =>
    ihA t.f2 A2 c2 w1 (by omega) hb.kids hb.kid (Kd.C_below H2.out hw) HL2.out
  have D1 := Aside0.mk C1
  have D2 := Aside0.mk C2
  clear C1 C2 ihA hb ht hk
  go_enter Try.func49, Try.ntmps49
  go_wp2_with fail
  have HB0 : Below w.heap.size w ((w.alloc (.cells #[.string t.f0, .slice A1 t.f1.length c1, .slice A2 t.f2.length c2] 68)).alloc (.cells #[.string ⟨#[]⟩, .slice none 0 0, .slice none 0 0] 68)) := below_alloc (below_alloc (Below.refl _ _) _) _
  have HG1 : ((w.alloc (.cells #[.string t.f0, .slice A1 t.f1.length c1, .slice A2 t.f2.length c2] 68)).alloc (.cells #[.string ⟨#[]⟩, .slice none 0 0, .slice none 0 0] 68)).heap[w.heap.size]? = some (.cells #[.string t.f0, .slice A1 t.f1.length c1, .slice A2 t.f2.length c2] 68) := blk_alloc (heap_alloc_new w _) _
  have HG2 : ((w.alloc (.cells #[.string t.f0, .slice A1 t.f1.length c1, .slice A2 t.f2.length c2] 68)).alloc (.cells #[.string ⟨#[]⟩, .slice none 0 0, .slice none 0 0] 68)).heap[w.heap.size + 1]? = some (.cells #[.string ⟨#[]⟩, .slice none 0 0, .slice none 0 0] 68) := by have := heap_alloc_new (w.alloc (.cells #[.string t.f0, .slice A1 t.f1.length c1, .slice A2 t.f2.length c2] 68)) (.cells #[.string ⟨#[]⟩, .slice none 0 0, .slice none 0 0] 68); simpa using this
  generalize ((w.alloc (.cells #[.string t.f0, .slice A1 t.f1.length c1, .slice A2 t.f2.length c2] 68)).alloc (.cells #[.string ⟨#[]⟩, .slice none 0 0, .slice none 0 0] 68)) = W at *
  have HBd : Below w.heap.size w W.drew := below_drew HB0
  have HG1d : W.drew.heap[w.heap.size]? = some (.cells #[.string t.f0, .slice A1 t.f1.length c1, .slice A2 t.f2.length c2] 68) := HG1
  have HG2d : W.drew.heap[w.heap.size + 1]? = some (.cells #[.string ⟨#[]⟩, .slice none 0 0, .slice none 0 0] 68) := HG2
  clear HB0 HG1 HG2
  have HB0 := Aside0.mk HBd
  have HG1 := Aside0.mk HG1d
  have HG2 := Aside0.mk HG2d
  clear HBd HG1d HG2d
  go_region_held3 (fun w' => w'.cell? ⟨w.heap.size, 0, none⟩ = some (.string t.f0) ∧ w'.cell? ⟨w.heap.size, 1, none⟩ = some (.slice A1 t.f1.length c1) ∧ w'.cell? ⟨w.heap.size, 2, none⟩ = some (.slice A2 t.f2.length c2))
    (first
      | exact ⟨blk_cell HG1.out 0, blk_cell HG1.out 1, blk_cell HG1.out 2⟩
      | exact ⟨blk_cell HG3.out 0, blk_cell HG3.out 1, blk_cell HG3.out 2⟩
      | exact ⟨blk_cell HG5.out 0, blk_cell HG5.out 1, blk_cell HG5.out 2⟩
      | go_keep)
    (first
      | (go_at_call 53; refine (D1.out _ HB0.out).mono ?_; rintro e w1 ⟨v1, rfl, hR1, hB1⟩; obtain ⟨A3, c3, rfl⟩ := Kd.R_slice hR1; have HG3 := Aside0.mk (blk_below HG1.out hB1); have HG4 := Aside0.mk (blk_below HG2.out hB1); have HB3 := Aside0.mk (below_step HB0.out hB1); have HR1 := Aside0.mk hR1; clear hR1 hB1)
      | (go_at_call 38; refine (D2.out _ HB3.out).mono ?_; rintro e w2 ⟨v2, rfl, hR2, hB2⟩; obtain ⟨A4, c4, rfl⟩ := Kd.R_slice hR2; have HG5 := Aside0.mk (blk_below HG3.out hB2); have HG6 := Aside0.mk (blk_below HG4.out hB2); have HB5 := Aside0.mk (below_step HB3.out hB2); have HR2 := Aside0.mk hR2; have HR3 := Aside0.mk (Kd.R_below HR1.out hB2); clear hR2 hB2; have q0 := blk_cell HG6.out 0; have q1 := blk_cell HG6.out 1; have q2 := blk_cell HG6.out 2; have f0 := blk_frozen HG6.out 0; have f1 := blk_frozen HG6.out 1; have f2 := blk_frozen HG6.out 2; simp at q0 q1 q2))
  have HG7 := Aside0.mk (blk_set (blk_set (blk_set HG6.out 0 (.string t.f0)) 1 (.slice A3 t.f1.length c3)) 2 (.slice A4 t.f2.length c4))
  have lt2 : w.heap.size + 1 < W.drew.heap.size := blk_lt HG2.out
  have lt3 : w.heap.size + 1 < w1.heap.size := blk_lt HG4.out
  have HR5 := Aside0.mk (R_new (R_far3 HR3.out lt2 (.string t.f0) (.slice A3 t.f1.length c3) (.slice A4 t.f2.length c4)) HB0.out)
  have HR6 := Aside0.mk (R_new (R_far3 HR2.out lt3 (.string t.f0) (.slice A3 t.f1.length c3) (.slice A4 t.f2.length c4)) HB3.out)
  have HB7 := Aside0.mk (below_set (j := 2) (v := .slice A4 t.f2.length c4) (below_set (j := 1) (v := .slice A3 t.f1.length c3) (below_set (j := 0) (v := .string t.f0) HB5.out (Nat.le_succ _)) (Nat.le_succ _)) (Nat.le_succ _))
  clear HR1 HR2 HR3 q0 q1 q2 f0 f1 f2 lt2 lt3
  go_wp2
  refine bodyPost_ret (results_single rfl (.cell (w.heap.size + 1) 68 _ (0, 0) _ rfl HG7.out Try.underlying68 rfl (by kernel_rfl) .nil)) rfl ?_
  exact ⟨_, _, rfl, HR5.out, HR6.out, HB7.out⟩

set_option maxHeartbeats 1000000 in
set_option maxRecDepth 100000 in
theorem cloneAll_step (n : Nat) (ih : ∀ (t : S68) (A1 : Option Addr) (c1 : Nat) (A2 : Option Addr) (c2 : Nat) (w : World), tsz t < n → Bd t → (Kd.int .i64).C w A1 t.f1.length t.f1 → t.f1.length ≤ c1 → k68.C w A2 t.f2.length t.f2 → t.f2.length ≤ c2 →
      Calls Try.prog 49 #[.agg #[.string t.f0, .slice A1 t.f1.length c1, .slice A2 t.f2.length c2]] w fun e w' => ∃ v1 v2, e = .returned (.agg #[.string t.f0, v1, v2]) ∧ (Kd.int .i64).R 3 w' w.heap.size (New w) v1 t.f1 ∧ k68.R 68 w' w.heap.size (New w) v2 t.f2 ∧ Below w.heap.size w w')
    (l : List S68) (A : Option Addr) (c : Nat) (w : World) (hn : lsz l < n + 1) (hl : l.length ≤ 2000000) (hb : ∀ x ∈ l, Bd x) (hr : k68.C w A l.length l) (hc : l.length ≤ c) :
    Calls Try.prog 38 #[.slice A l.length c] w fun e w' => ∃ v, e = .returned v ∧ k68.R 68 w' w.heap.size (New w) v l ∧ Below w.heap.size w w' := by
  have HR := Aside0.mk hr
  clear hr
  have IH := Aside0.mk ih
  clear ih
  have HBD := Aside0.mk hb
  clear hb
  have HB := Aside0.mk (Below.refl w.heap.size w)
  go_enter Try.func38, Try.ntmps38
  go_wp2
  go_loopw [3, 8] (fun v i w' => ∃ x : Int, i = .int .i64 x ∧ 0 ≤ x ∧ x ≤ l.length ∧ Aside0 (k68.R 68 w' w.heap.size (New w) v (l.take x.toNat)) ∧ Aside0 (Below w.heap.size w w')) (fun _ i _ => l.length - (intOf i).toNat)
  case atStart => exact ⟨0, rfl, Int.le_refl _, Int.natCast_nonneg _, ⟨Kd.R_nil _ _ _ _ _⟩, HB⟩
  case round =>
    clear HB
    obtain ⟨x, rfl, hx, hk, HV, HB⟩ := hrel
    by_cases hlt : x < l.length
    · obtain ⟨ad, A1, c1, A2, c2, e, hx0, hx1, hx2, hl1, hi1, hl2, hi2⟩ := at_T68 HR.out x hx hlt
      cases e
      have D := Aside0.mk (fun (w1 : World) (hw : Below w.heap.size w w1) => IH.out (rd_T68 l x) A1 c1 A2 c2 w1 (Nat.lt_of_lt_of_le (mem_lt (rd_mem l x hx hlt)) (Nat.le_of_lt_succ hn)) (HBD.out _ (rd_mem l x hx hlt)) (Kd.C_below hi1 hw) hl1 (Kd.C_below hi2 hw) hl2)
      clear hl1 hi1 hl2 hi2
      replace hx0 := (HB.out.cell (World.block_lt_of_cell? w _ hx0)).trans hx0
      replace hx1 := (HB.out.cell (World.block_lt_of_cell? w _ hx1)).trans hx1
      replace hx2 := (HB.out.cell (World.block_lt_of_cell? w _ hx2)).trans hx2
      have p1 := eq_true hx
      have q1 := eq_true hlt
      have HLb : Aside0 (((l.take x.toNat).length + 1) * 64 ≤ 140737488355328) := ⟨by rw [List.length_take]; omega⟩
      go_wp2_with (first | (go_at_call 49; refine (D.out _ (below_alloc HB.out _)).mono ?_; rintro e w1 ⟨v1, v2, rfl, hR1, hR2, hB1⟩; obtain ⟨A3, c3, rfl⟩ := Kd.R_slice hR1; obtain ⟨A4, c4, rfl⟩ := Kd.R_slice hR2; have HW := Aside0.mk (below_step (below_alloc (Below.refl _ _) _) hB1); have HB1 := Aside0.mk (below_step (below_alloc HB.out _) hB1); have HP := Aside0.mk (tree_made hR1 hR2 (below_alloc HB.out _)); clear hR1 hR2 hB1) | (at_builtin; refine Kd.R_append k68 (w0 := w) w.heap.size rfl _ _ 33 68 (.agg #[.string ⟨#[]⟩, .slice none 0 0, .slice none 0 0]) 64 rfl Try.underlying33 info68 rfl (by decide) (by decide) u3 (l.take x.toNat) (rd_T68 l x) [.string (rd_T68 l x).f0, .slice A3 (rd_T68 l x).f1.length c3, .slice A4 (rd_T68 l x).f2.length c4] (New w) _ rfl rfl HP.out (tree_apart HV.out HB.out) (fun _ hk => Nat.le_trans HB1.out.size hk) (Kd.R_below HV.out HW.out) HB1.out HB1.out.size HLb.out ?_; intro v3 w3 hN hB hg _; have HN := Aside0.mk hN; have HB3 := Aside0.mk hB; clear hN hB hg))
      go_roundw
      case rel => exact ⟨x + 1, rfl, by omega, by omega, ⟨by rw [take_rd l x hx hlt]; exact HN.out⟩, HB3⟩
      case measure => simp [intOf]; omega
    · go_wp2
      go_ret
      refine ⟨_, rfl, ?_, HB.out⟩
      have := HV.out
      rwa [List.take_of_length_le (by omega)] at this

theorem clones (n : Nat) :
    (∀ (t : S68) (A1 : Option Addr) (c1 : Nat) (A2 : Option Addr) (c2 : Nat) (w : World), tsz t < n → Bd t → (Kd.int .i64).C w A1 t.f1.length t.f1 → t.f1.length ≤ c1 → k68.C w A2 t.f2.length t.f2 → t.f2.length ≤ c2 →
      Calls Try.prog 49 #[.agg #[.string t.f0, .slice A1 t.f1.length c1, .slice A2 t.f2.length c2]] w fun e w' => ∃ v1 v2, e = .returned (.agg #[.string t.f0, v1, v2]) ∧ (Kd.int .i64).R 3 w' w.heap.size (New w) v1 t.f1 ∧ k68.R 68 w' w.heap.size (New w) v2 t.f2 ∧ Below w.heap.size w w') ∧
    (∀ (l : List S68) (A : Option Addr) (c : Nat) (w : World), lsz l < n → l.length ≤ 2000000 → (∀ x ∈ l, Bd x) → k68.C w A l.length l → l.length ≤ c →
      Calls Try.prog 38 #[.slice A l.length c] w fun e w' => ∃ v, e = .returned v ∧ k68.R 68 w' w.heap.size (New w) v l ∧ Below w.heap.size w w') := by
  induction n with
  | zero => exact ⟨fun _ _ _ _ _ _ h => absurd h (Nat.not_lt_zero _), fun _ _ _ _ h => absurd h (Nat.not_lt_zero _)⟩
  | succ n ih => exact ⟨fun t A1 c1 A2 c2 w ht hb h1 l1 h2 l2 => clone_step n ih.2 t A1 c1 A2 c2 w ht hb h1 l1 h2 l2, fun l A c w hn hl hb hr hc => cloneAll_step n ih.1 l A c w hn hl hb hr hc⟩

/-- session.cloneAll: a new list of new trees that reads as the old one. -/
theorem cloneAll_calls (l : List S68) (A : Option Addr) (c : Nat) (w : World) (hl : l.length ≤ 2000000) (hb : ∀ x ∈ l, Bd x) (hr : k68.C w A l.length l) (hc : l.length ≤ c) :
    Calls Try.prog 38 #[.slice A l.length c] w fun e w' => ∃ v, e = .returned v ∧ k68.R 68 w' w.heap.size (New w) v l ∧ Below w.heap.size w w' :=
  (clones (lsz l + 1)).2 l A c w (Nat.lt_succ_self _) hl hb hr hc
end Go.Proofs.Ytkblcdpmdbofgaa.A
