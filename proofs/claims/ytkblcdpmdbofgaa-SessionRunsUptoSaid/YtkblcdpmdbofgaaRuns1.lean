/- The reference's Numbers. -/
import Derived.Test.YtkblcdpmdbofgaaM0
import Derived.Test.YtkblcdpmdbofgaaM2
import Derived.Test.YtkblcdpmdbofgaaM1
import Derived.Test.YtkblcdpmdbofgaaM4
/- What single Go functions of the seat compute, as Lean functions, and that the Go code computes it: the sections of the kit's print for these functions, taken into a text of this session's own, the faulty places proved anew. -/
namespace Go.Proofs.Ytkblcdpmdbofgaa.A
open Go.RowKit Go.Proofs.YtkblcdpmdbofgaaW.PrintWords Go.Proofs.YtkblcdpmdbofgaaW.PrintLast Go.Proofs.YtkblcdpmdbofgaaW.PrintMore
attribute [local go_sem] max2_int min2_int max_two min_two max_three min_three max_four min_four   -- for this text's walks alone
set_option linter.unusedVariables false
set_option linter.unusedSimpArgs false

/-! ### pentaglotref31_Well: function 64 -/
mutual
def pentaglotref31_Well.j0 : Nat → List (S105) → Int → Bool → ByteArray → List Int → List (S68) → Option (ByteArray × Bool)
  | 0, _, _, _, _, _, _ => none
  | k + 1, x0, x6, x41, x233000, x233001, x233002 => if x41 = true then (some ((⟨#[]⟩ : ByteArray), false)) else (pentaglotref31_Well.l0 k x0 x6 0 x233000 x233001 x233002)
def pentaglotref31_Well.l0 : Nat → List (S105) → Int → Int → ByteArray → List Int → List (S68) → Option (ByteArray × Bool)
  | 0, _, _, _, _, _, _ => none
  | k + 1, x0, x6, x7, x233000, x233001, x233002 => if x7 < (x233001.length : Int) then (if 0 ≤ x7 then ((pentaglotref31_Value.f (rd x233001 x7)).bind fun t237 => (if t237 = true then (pentaglotref31_Well.l0 k x0 x6 (wrap64 (x7 + 1)) x233000 x233001 x233002) else (some ((⟨#[]⟩ : ByteArray), false)))) else (none)) else (pentaglotref31_Well.l1 k x0 x6 0 x233000 x233001 x233002)
def pentaglotref31_Well.l1 : Nat → List (S105) → Int → Int → ByteArray → List Int → List (S68) → Option (ByteArray × Bool)
  | 0, _, _, _, _, _, _ => none
  | k + 1, x0, x6, x8, x233000, x233001, x233002 => if x8 < (x233002.length : Int) then (if 0 ≤ x8 then ((pentaglotref31_Well.f k x0 ((rd_T68 x233002 x8).f0) ((rd_T68 x233002 x8).f1) ((rd_T68 x233002 x8).f2)).bind fun bt239 => (if bt239.2 = true then (if 0 ≤ x6 then (if x6 < (x0.length : Int) then (if x8 < (((rd_T105 x0 x6).f1).length : Int) then (if bt239.1.toList = (rdOf ByteArray.empty ((rd_T105 x0 x6).f1) x8).toList then (pentaglotref31_Well.l1 k x0 x6 (wrap64 (x8 + 1)) x233000 x233001 x233002) else (some ((⟨#[]⟩ : ByteArray), false))) else (none)) else (none)) else (none)) else (some ((⟨#[]⟩ : ByteArray), false)))) else (none)) else (if 0 ≤ x6 then (if x6 < (x0.length : Int) then (some ((rd_T105 x0 x6).f2, true)) else (none)) else (none))
def pentaglotref31_Well.f : Nat → List (S105) → ByteArray → List Int → List (S68) → Option (ByteArray × Bool)
  | 0, _, _, _, _ => none
  | k + 1, l0, a1_0, l1_1, l1_2 => (pentaglotref31_Index.f k l0 a1_0).bind fun t233 => (if t233 = (l0.length : Int) then (pentaglotref31_Well.j0 k l0 t233 true a1_0 l1_1 l1_2) else (if 0 ≤ t233 then (if t233 < (l0.length : Int) then (if (l1_2.length : Int) = (((rd_T105 l0 t233).f1).length : Int) then (pentaglotref31_Well.j0 k l0 t233 ((l1_1.length : Int) != ((rd_T105 l0 t233).f3)) a1_0 l1_1 l1_2) else (pentaglotref31_Well.j0 k l0 t233 true a1_0 l1_1 l1_2)) else (none)) else (none)))
end
theorem pentaglotref31_Well.mono_l : ∀ k, (∀ y0 y1 y2 y3, LeO (pentaglotref31_Well.f k y0 y1 y2 y3) (pentaglotref31_Well.f (k + 1) y0 y1 y2 y3)) ∧ (∀ y0 y1 y2 y3 y4 y5, LeO (pentaglotref31_Well.j0 k y0 y1 y2 y3 y4 y5) (pentaglotref31_Well.j0 (k + 1) y0 y1 y2 y3 y4 y5)) ∧ (∀ y0 y1 y2 y3 y4 y5, LeO (pentaglotref31_Well.l0 k y0 y1 y2 y3 y4 y5) (pentaglotref31_Well.l0 (k + 1) y0 y1 y2 y3 y4 y5)) ∧ (∀ y0 y1 y2 y3 y4 y5, LeO (pentaglotref31_Well.l1 k y0 y1 y2 y3 y4 y5) (pentaglotref31_Well.l1 (k + 1) y0 y1 y2 y3 y4 y5))
  | 0 => ⟨fun _ _ _ _ r h => by simp [pentaglotref31_Well.f] at h, fun _ _ _ _ _ _ r h => by simp [pentaglotref31_Well.j0] at h, fun _ _ _ _ _ _ r h => by simp [pentaglotref31_Well.l0] at h, fun _ _ _ _ _ _ r h => by simp [pentaglotref31_Well.l1] at h⟩
  | k + 1 => by
    obtain ⟨ih0, ih1, ih2, ih3⟩ := pentaglotref31_Well.mono_l k
    refine ⟨?_, ?_, ?_, ?_⟩
    · intro y0 y1 y2 y3
      unfold pentaglotref31_Well.f
      repeat' first
      | (with_reducible exact ih0 _ _ _ _)
      | (with_reducible exact ih1 _ _ _ _ _ _)
      | (with_reducible exact ih2 _ _ _ _ _ _)
      | (with_reducible exact ih3 _ _ _ _ _ _)
      | (with_reducible exact pentaglotref31_Index.mono _ _ _)
      | (with_reducible exact LeO.refl _)
      | (with_reducible exact LeO.none _)
      | (with_reducible refine LeO.ite ?_ ?_)
      | (with_reducible refine LeO.bind ?_ (fun _ => ?_))
      | exact ih0 _ _ _ _
      | exact ih1 _ _ _ _ _ _
      | exact ih2 _ _ _ _ _ _
      | exact ih3 _ _ _ _ _ _
      | exact pentaglotref31_Index.mono _ _ _
      | exact LeO.none _
      | refine LeO.ite ?_ ?_
      | refine LeO.bind ?_ (fun _ => ?_)
    · intro y0 y1 y2 y3 y4 y5
      unfold pentaglotref31_Well.j0
      repeat' first
      | (with_reducible exact ih0 _ _ _ _)
      | (with_reducible exact ih1 _ _ _ _ _ _)
      | (with_reducible exact ih2 _ _ _ _ _ _)
      | (with_reducible exact ih3 _ _ _ _ _ _)
      | (with_reducible exact pentaglotref31_Index.mono _ _ _)
      | (with_reducible exact LeO.refl _)
      | (with_reducible exact LeO.none _)
      | (with_reducible refine LeO.ite ?_ ?_)
      | (with_reducible refine LeO.bind ?_ (fun _ => ?_))
      | exact ih0 _ _ _ _
      | exact ih1 _ _ _ _ _ _
      | exact ih2 _ _ _ _ _ _
      | exact ih3 _ _ _ _ _ _
      | exact pentaglotref31_Index.mono _ _ _
      | exact LeO.none _
      | refine LeO.ite ?_ ?_
      | refine LeO.bind ?_ (fun _ => ?_)
    · intro y0 y1 y2 y3 y4 y5
      unfold pentaglotref31_Well.l0
      repeat' first
      | (with_reducible exact ih0 _ _ _ _)
      | (with_reducible exact ih1 _ _ _ _ _ _)
      | (with_reducible exact ih2 _ _ _ _ _ _)
      | (with_reducible exact ih3 _ _ _ _ _ _)
      | (with_reducible exact pentaglotref31_Index.mono _ _ _)
      | (with_reducible exact LeO.refl _)
      | (with_reducible exact LeO.none _)
      | (with_reducible refine LeO.ite ?_ ?_)
      | (with_reducible refine LeO.bind ?_ (fun _ => ?_))
      | exact ih0 _ _ _ _
      | exact ih1 _ _ _ _ _ _
      | exact ih2 _ _ _ _ _ _
      | exact ih3 _ _ _ _ _ _
      | exact pentaglotref31_Index.mono _ _ _
      | exact LeO.none _
      | refine LeO.ite ?_ ?_
      | refine LeO.bind ?_ (fun _ => ?_)
    · intro y0 y1 y2 y3 y4 y5
      unfold pentaglotref31_Well.l1
      repeat' first
      | (with_reducible exact ih0 _ _ _ _)
      | (with_reducible exact ih1 _ _ _ _ _ _)
      | (with_reducible exact ih2 _ _ _ _ _ _)
      | (with_reducible exact ih3 _ _ _ _ _ _)
      | (with_reducible exact pentaglotref31_Index.mono _ _ _)
      | (with_reducible exact LeO.refl _)
      | (with_reducible exact LeO.none _)
      | (with_reducible refine LeO.ite ?_ ?_)
      | (with_reducible refine LeO.bind ?_ (fun _ => ?_))
      | exact ih0 _ _ _ _
      | exact ih1 _ _ _ _ _ _
      | exact ih2 _ _ _ _ _ _
      | exact ih3 _ _ _ _ _ _
      | exact pentaglotref31_Index.mono _ _ _
      | exact LeO.none _
      | refine LeO.ite ?_ ?_
      | refine LeO.bind ?_ (fun _ => ?_)
theorem pentaglotref31_Well.mono : ∀ a0 a1 a2 a3 k, LeO (pentaglotref31_Well.f k a0 a1 a2 a3) (pentaglotref31_Well.f (k + 1) a0 a1 a2 a3) := by
  intro a0 a1 a2 a3 k
  obtain ⟨ih0, ih1, ih2, ih3⟩ := pentaglotref31_Well.mono_l k
  exact ih0 a0 a1 a2 a3
set_option maxHeartbeats 8000000 in
set_option maxRecDepth 100000 in
theorem pentaglotref31_Well.calls (k : Nat) : ∀ (A0 : Option Addr) (c0 : Nat) (l0 : List (S105)) (a1_0 : ByteArray) (A1_1 : Option Addr) (c1_1 : Nat) (l1_1 : List Int) (A1_2 : Option Addr) (c1_2 : Nat) (l1_2 : List (S68)) (r1 : ByteArray) (r2 : Bool) (w : World) (hr0 : Kd.C k105 w A0 l0.length l0) (hc0 : l0.length ≤ c0) (hr1_1 : Kd.C (Kd.int .i64) w A1_1 l1_1.length l1_1) (hc1_1 : l1_1.length ≤ c1_1) (hr1_2 : Kd.C k68 w A1_2 l1_2.length l1_2) (hc1_2 : l1_2.length ≤ c1_2) (h : pentaglotref31_Well.f k l0 a1_0 l1_1 l1_2 = some (r1, r2)),
    Calls Try.prog 64 #[.slice A0 l0.length c0, .agg #[.string a1_0, .slice A1_1 l1_1.length c1_1, .slice A1_2 l1_2.length c1_2]] w fun e w' => e = .returned (.tuple #[.string r1, .bool r2]) ∧ Below w.heap.size w w' := by
  induction k using Nat.strongRecOn with
  | _ k ih =>
  intro A0 c0 l0 a1_0 A1_1 c1_1 l1_1 A1_2 c1_2 l1_2 r1 r2 w hr0 hc0 hr1_1 hc1_1 hr1_2 hc1_2 h
  cases k with
  | zero => exact absurd h (by simp [pentaglotref31_Well.f])
  | succ k =>
  simp only [pentaglotref31_Well.f] at h
  have hu68 := Try.underlying68
  have HR0 := Aside0.mk hr0
  have HC0 := Aside0.mk hc0
  clear hr0 hc0
  have HR1_1 := Aside0.mk hr1_1
  have HC1_1 := Aside0.mk hc1_1
  clear hr1_1 hc1_1
  have HR1_2 := Aside0.mk hr1_2
  have HC1_2 := Aside0.mk hc1_2
  clear hr1_2 hc1_2
  have HB := Aside0.mk (Below.refl w.heap.size w)
  have H : ((pentaglotref31_Index.f k l0 a1_0).bind fun t233 => (if t233 = (l0.length : Int) then (pentaglotref31_Well.j0 k l0 t233 true a1_0 l1_1 l1_2) else (if 0 ≤ t233 then (if t233 < (l0.length : Int) then (if (l1_2.length : Int) = (((rd_T105 l0 t233).f1).length : Int) then (pentaglotref31_Well.j0 k l0 t233 ((l1_1.length : Int) != ((rd_T105 l0 t233).f3)) a1_0 l1_1 l1_2) else (pentaglotref31_Well.j0 k l0 t233 true a1_0 l1_1 l1_2)) else (none)) else (none)))) = some (r1, r2) := h
  clear h
  replace H := Option.bind_eq_some_iff.mp H
  obtain ⟨t233, A30, H⟩ := H
  replace H : (if t233 = (l0.length : Int) then (pentaglotref31_Well.j0 k l0 t233 true a1_0 l1_1 l1_2) else (if 0 ≤ t233 then (if t233 < (l0.length : Int) then (if (l1_2.length : Int) = (((rd_T105 l0 t233).f1).length : Int) then (pentaglotref31_Well.j0 k l0 t233 ((l1_1.length : Int) != ((rd_T105 l0 t233).f3)) a1_0 l1_1 l1_2) else (pentaglotref31_Well.j0 k l0 t233 true a1_0 l1_1 l1_2)) else (none)) else (none))) = some (r1, r2) := H
  have A3 := Aside0.mk A30
  clear A30
  have HC4 := Aside0.mk H
  clear H
  go_enter Try.func64, Try.ntmps64
  go_upto_region 2 with (first | ((with_reducible refine gate_dst (N := 3) rfl ?_); (try (refine gate_guard (by rfl) ?_; dsimp only)); refine box_event ?hg (N := 3) ?hd (cs := #[.string a1_0, .slice A1_1 l1_1.length c1_1, .slice A1_2 l1_2.length c1_2]) (t := 68) ?hr ?_; (case hd => rfl); (case hg => rfl); (case hr => first | (go_simp; done) | (go_simp; rfl)); intro gb232 hg w5 hbox hb; have n0_ := Aside0.mk (below_step (by repeat (first | (with_reducible first | exact HB.out | apply below_alloc | apply pw_below_drewN | apply below_drew1) | exact HB.out)) hb); have n1_ := Aside0.mk (hbox); have n2_ := Aside0.mk ((by rw [hg]; exact (below_size (by repeat (first | (with_reducible first | exact HB.out | apply below_alloc | apply pw_below_drewN | apply below_drew1) | exact HB.out))) : w.heap.size ≤ gb232)); have n3_ := Aside0.mk ((by rw [hg]; exact (below_size (by repeat (first | (with_reducible first | exact HB.out | apply below_alloc | apply pw_below_drewN | apply below_drew1) | exact HB.out))) : w.heap.size ≤ gb232)); clear HB; have HB := n0_; have BK232 := n1_; have GW232 := n2_; have GE232 := n3_; clear n0_ n1_ n2_ n3_; clear hb hbox hg; have hcz6_0 : w5.cell? ⟨gb232, 0, none⟩ = some (.string a1_0) := (blk_cell BK232.out 0).trans rfl; have hcz6_1 : w5.cell? ⟨gb232, 1, none⟩ = some (.slice A1_1 l1_1.length c1_1) := (blk_cell BK232.out 1).trans rfl; have hcz6_2 : w5.cell? ⟨gb232, 2, none⟩ = some (.slice A1_2 l1_2.length c1_2) := (blk_cell BK232.out 2).trans rfl; have hfz6_0 := blk_frozen BK232.out 0; have hfz6_1 := blk_frozen BK232.out 1; have hfz6_2 := blk_frozen BK232.out 2) | (go_at_call 65; (with_reducible refine (pentaglotref31_Index.calls k _ _ l0 a1_0 t233 _ ?side1 ?side2 A3.out).mono ?_); (case side1 => repeat (first | exact (Kd.C_below HR0.out HB.out) | (with_reducible refine Kd.C_alloc ?_ _) | (with_reducible refine Kd.C_drewN ?_ _) | (with_reducible refine Kd.C_drew ?_))); (case side2 => exact HC0.out); rintro e w' ⟨rfl, ⟨nd, rfl⟩⟩; (try first | exact ⟨rfl, _, World.drewN_drewN _ _ _⟩ | exact ⟨rfl, _, Eq.trans (World.drewN_drewN _ _ _) (congrArg (World.drewN _) (Nat.add_assoc _ _ _))⟩)))
  repeat (go_quiet (first | ((with_reducible refine gate_dst (N := 3) rfl ?_); (try (refine gate_guard (by rfl) ?_; dsimp only)); refine box_event ?hg (N := 3) ?hd (cs := #[.string a1_0, .slice A1_1 l1_1.length c1_1, .slice A1_2 l1_2.length c1_2]) (t := 68) ?hr ?_; (case hd => rfl); (case hg => rfl); (case hr => first | (go_simp; done) | (go_simp; rfl)); intro gb232 hg w5 hbox hb; have n0_ := Aside0.mk (below_step (by repeat (first | (with_reducible first | exact HB.out | apply below_alloc | apply pw_below_drewN | apply below_drew1) | exact HB.out)) hb); have n1_ := Aside0.mk (hbox); have n2_ := Aside0.mk ((by rw [hg]; exact (below_size (by repeat (first | (with_reducible first | exact HB.out | apply below_alloc | apply pw_below_drewN | apply below_drew1) | exact HB.out))) : w.heap.size ≤ gb232)); have n3_ := Aside0.mk ((by rw [hg]; exact (below_size (by repeat (first | (with_reducible first | exact HB.out | apply below_alloc | apply pw_below_drewN | apply below_drew1) | exact HB.out))) : w.heap.size ≤ gb232)); clear HB; have HB := n0_; have BK232 := n1_; have GW232 := n2_; have GE232 := n3_; clear n0_ n1_ n2_ n3_; clear hb hbox hg; have hcz6_0 : w5.cell? ⟨gb232, 0, none⟩ = some (.string a1_0) := (blk_cell BK232.out 0).trans rfl; have hcz6_1 : w5.cell? ⟨gb232, 1, none⟩ = some (.slice A1_1 l1_1.length c1_1) := (blk_cell BK232.out 1).trans rfl; have hcz6_2 : w5.cell? ⟨gb232, 2, none⟩ = some (.slice A1_2 l1_2.length c1_2) := (blk_cell BK232.out 2).trans rfl; have hfz6_0 := blk_frozen BK232.out 0; have hfz6_1 := blk_frozen BK232.out 1; have hfz6_2 := blk_frozen BK232.out 2) | (go_at_call 65; (with_reducible refine (pentaglotref31_Index.calls k _ _ l0 a1_0 t233 _ ?side1 ?side2 A3.out).mono ?_); (case side1 => repeat (first | exact (Kd.C_below HR0.out HB.out) | (with_reducible refine Kd.C_alloc ?_ _) | (with_reducible refine Kd.C_drewN ?_ _) | (with_reducible refine Kd.C_drew ?_))); (case side2 => exact HC0.out); rintro e w' ⟨rfl, ⟨nd, rfl⟩⟩; (try first | exact ⟨rfl, _, World.drewN_drewN _ _ _⟩ | exact ⟨rfl, _, Eq.trans (World.drewN_drewN _ _ _) (congrArg (World.drewN _) (Nat.add_assoc _ _ _))⟩))); go_upto_region 2 with (first | ((with_reducible refine gate_dst (N := 3) rfl ?_); (try (refine gate_guard (by rfl) ?_; dsimp only)); refine box_event ?hg (N := 3) ?hd (cs := #[.string a1_0, .slice A1_1 l1_1.length c1_1, .slice A1_2 l1_2.length c1_2]) (t := 68) ?hr ?_; (case hd => rfl); (case hg => rfl); (case hr => first | (go_simp; done) | (go_simp; rfl)); intro gb232 hg w5 hbox hb; have n0_ := Aside0.mk (below_step (by repeat (first | (with_reducible first | exact HB.out | apply below_alloc | apply pw_below_drewN | apply below_drew1) | exact HB.out)) hb); have n1_ := Aside0.mk (hbox); have n2_ := Aside0.mk ((by rw [hg]; exact (below_size (by repeat (first | (with_reducible first | exact HB.out | apply below_alloc | apply pw_below_drewN | apply below_drew1) | exact HB.out))) : w.heap.size ≤ gb232)); have n3_ := Aside0.mk ((by rw [hg]; exact (below_size (by repeat (first | (with_reducible first | exact HB.out | apply below_alloc | apply pw_below_drewN | apply below_drew1) | exact HB.out))) : w.heap.size ≤ gb232)); clear HB; have HB := n0_; have BK232 := n1_; have GW232 := n2_; have GE232 := n3_; clear n0_ n1_ n2_ n3_; clear hb hbox hg; have hcz6_0 : w5.cell? ⟨gb232, 0, none⟩ = some (.string a1_0) := (blk_cell BK232.out 0).trans rfl; have hcz6_1 : w5.cell? ⟨gb232, 1, none⟩ = some (.slice A1_1 l1_1.length c1_1) := (blk_cell BK232.out 1).trans rfl; have hcz6_2 : w5.cell? ⟨gb232, 2, none⟩ = some (.slice A1_2 l1_2.length c1_2) := (blk_cell BK232.out 2).trans rfl; have hfz6_0 := blk_frozen BK232.out 0; have hfz6_1 := blk_frozen BK232.out 1; have hfz6_2 := blk_frozen BK232.out 2) | (go_at_call 65; (with_reducible refine (pentaglotref31_Index.calls k _ _ l0 a1_0 t233 _ ?side1 ?side2 A3.out).mono ?_); (case side1 => repeat (first | exact (Kd.C_below HR0.out HB.out) | (with_reducible refine Kd.C_alloc ?_ _) | (with_reducible refine Kd.C_drewN ?_ _) | (with_reducible refine Kd.C_drew ?_))); (case side2 => exact HC0.out); rintro e w' ⟨rfl, ⟨nd, rfl⟩⟩; (try first | exact ⟨rfl, _, World.drewN_drewN _ _ _⟩ | exact ⟨rfl, _, Eq.trans (World.drewN_drewN _ _ _) (congrArg (World.drewN _) (Nat.add_assoc _ _ _))⟩))))
  (try simp only [Act.put, List.setIfInBounds_toArray, List.set_cons_zero, List.set_cons_succ])
  go_cut [41] (fun v41 wc => ∃ (kq : Nat) (x41_3 : Bool), v41 = .bool x41_3 ∧ Aside0 (pentaglotref31_Well.j0 kq l0 t233 x41_3 a1_0 l1_1 l1_2 = some (r1, r2)) ∧ Aside0 (kq ≤ k) ∧ Aside0 (wc.heap[gb232]? = some (.cells #[.string a1_0, (.slice A1_1 l1_1.length c1_1), (.slice A1_2 l1_2.length c1_2)] 68 (0, 0))) ∧ Aside0 (Below w.heap.size w wc))
  case first =>
    have H := HC4.out
    clear HC4
    by_cases c7 : t233 = (l0.length : Int)
    · rw [if_pos c7] at H
      have c7b0 : (t233 == (l0.length : Int)) = true := beq_iff_eq.mpr c7
      have c7b1 : (t233 != (l0.length : Int)) = false := bne_eq_false_iff_eq.mpr c7
      clear c7
      (first | rw [c7b0] | (simp only [i64_w, i32_w]; rw [c7b0]) | skip)
      have H' := Aside0.mk H
      clear H
      go_wp2
      repeat (go_quiet (fail); try go_wp2)
      go_meet
      case rel => exact ⟨_, (true), (by first | rfl | (simp; done) | (simp [*]; done)), H', ⟨by first | omega | exact Nat.le_refl _⟩, ⟨by (with_reducible repeat (first | refine blk_drewN ?_ _ | refine blk_drew ?_ | refine blk_alloc ?_ _)); exact BK232.out⟩, ⟨by repeat (first | (with_reducible first | exact HB.out | apply below_alloc | apply pw_below_drewN | apply below_drew1 | refine below_set ?_ GE232.out) | exact HB.out)⟩⟩
    · rw [if_neg c7] at H
      have c7b0 : (t233 == (l0.length : Int)) = false := beq_eq_false_iff_ne.mpr c7
      have c7b1 : (t233 != (l0.length : Int)) = true := bne_iff_ne.mpr c7
      (first | rw [c7b0] | (simp only [i64_w, i32_w]; rw [c7b0]) | skip)
      by_cases c8 : 0 ≤ t233
      · rw [if_pos c8] at H
        have c8b0 : decide (0 ≤ t233) = true := decide_eq_true c8
        clear c8
        by_cases c9 : t233 < (l0.length : Int)
        · rw [if_pos c9] at H
          have c9b0 : decide (t233 < (l0.length : Int)) = true := decide_eq_true c9
          clear c9
          by_cases c10 : (l1_2.length : Int) = (((rd_T105 l0 t233).f1).length : Int)
          · rw [if_pos c10] at H
            have c10b0 : ((l1_2.length : Int) == (((rd_T105 l0 t233).f1).length : Int)) = true := beq_iff_eq.mpr c10
            have c10b1 : ((l1_2.length : Int) != (((rd_T105 l0 t233).f1).length : Int)) = false := bne_eq_false_iff_eq.mpr c10
            have c10b2 : (l1_2.length == ((rd_T105 l0 t233).f1).length) = true := by first | simpa using c10 | (simp at c10 ⊢; omega)
            clear c10
            have H' := Aside0.mk H
            clear H
            have hcz11_0 : w5.cell? ⟨gb232, 0, none⟩ = some (.string a1_0) := (blk_cell BK232.out 0).trans rfl
            have hcz11_1 : w5.cell? ⟨gb232, 1, none⟩ = some (.slice A1_1 l1_1.length c1_1) := (blk_cell BK232.out 1).trans rfl
            have hcz11_2 : w5.cell? ⟨gb232, 2, none⟩ = some (.slice A1_2 l1_2.length c1_2) := (blk_cell BK232.out 2).trans rfl
            have hfz11_0 := blk_frozen BK232.out 0
            have hfz11_1 := blk_frozen BK232.out 1
            have hfz11_2 := blk_frozen BK232.out 2
            have p234 : 0 ≤ (t233 : Int) := of_decide_eq_true (by first | (with_reducible assumption) | assumption)
            have q234 : t233 < (l0.length : Int) := of_decide_eq_true (by first | (with_reducible assumption) | assumption)
            obtain ⟨ad234, A234_1, c234_1, e234, hx234_0, hx234_1, hx234_2, hx234_3, hl234_1, hi234_1⟩ := at_T105 HR0.out t233 p234 q234
            cases e234
            replace hx234_0 := (HB.out.cell (World.block_lt_of_cell? w _ hx234_0)).trans hx234_0
            replace hx234_1 := (HB.out.cell (World.block_lt_of_cell? w _ hx234_1)).trans hx234_1
            replace hx234_2 := (HB.out.cell (World.block_lt_of_cell? w _ hx234_2)).trans hx234_2
            replace hx234_3 := (HB.out.cell (World.block_lt_of_cell? w _ hx234_3)).trans hx234_3
            have HR234_1 := Aside0.mk hi234_1
            have HC234_1 := Aside0.mk hl234_1
            clear hi234_1 hl234_1
            replace p234 := eq_true p234
            replace q234 := eq_true q234
            have p235 : 0 ≤ (t233 : Int) := of_decide_eq_true (by first | (with_reducible assumption) | assumption)
            have q235 : t233 < (l0.length : Int) := of_decide_eq_true (by first | (with_reducible assumption) | assumption)
            obtain ⟨ad235, A235_1, c235_1, e235, hx235_0, hx235_1, hx235_2, hx235_3, hl235_1, hi235_1⟩ := at_T105 HR0.out t233 p235 q235
            obtain rfl : ad234 = ad235 := (by injection e235)
            replace hx235_0 := (HB.out.cell (World.block_lt_of_cell? w _ hx235_0)).trans hx235_0
            replace hx235_1 := (HB.out.cell (World.block_lt_of_cell? w _ hx235_1)).trans hx235_1
            replace hx235_2 := (HB.out.cell (World.block_lt_of_cell? w _ hx235_2)).trans hx235_2
            replace hx235_3 := (HB.out.cell (World.block_lt_of_cell? w _ hx235_3)).trans hx235_3
            have HR235_1 := Aside0.mk hi235_1
            have HC235_1 := Aside0.mk hl235_1
            clear hi235_1 hl235_1
            replace p235 := eq_true p235
            replace q235 := eq_true q235
            have ea_ := Option.some.inj (hx234_1.symm.trans hx235_1)
            injection ea_ with ea_ en_ ec_
            subst ea_
            subst ec_
            clear en_
            go_wp2
            repeat (go_quiet (fail); try go_wp2)
            go_meet
            case rel => exact ⟨_, (((l1_1.length : Int) != ((rd_T105 l0 t233).f3))), (by first | rfl | (simp; done) | (simp [*]; done)), H', ⟨by first | omega | exact Nat.le_refl _⟩, ⟨by (with_reducible repeat (first | refine blk_drewN ?_ _ | refine blk_drew ?_ | refine blk_alloc ?_ _)); exact BK232.out⟩, ⟨by repeat (first | (with_reducible first | exact HB.out | apply below_alloc | apply pw_below_drewN | apply below_drew1 | refine below_set ?_ GE232.out) | exact HB.out)⟩⟩
          · rw [if_neg c10] at H
            have c10b0 : ((l1_2.length : Int) == (((rd_T105 l0 t233).f1).length : Int)) = false := beq_eq_false_iff_ne.mpr c10
            have c10b1 : ((l1_2.length : Int) != (((rd_T105 l0 t233).f1).length : Int)) = true := bne_iff_ne.mpr c10
            have c10b2 : (l1_2.length == ((rd_T105 l0 t233).f1).length) = false := by first | simpa using c10 | (simp at c10 ⊢; omega)
            have H' := Aside0.mk H
            clear H
            have hcz12_0 : w5.cell? ⟨gb232, 0, none⟩ = some (.string a1_0) := (blk_cell BK232.out 0).trans rfl
            have hcz12_1 : w5.cell? ⟨gb232, 1, none⟩ = some (.slice A1_1 l1_1.length c1_1) := (blk_cell BK232.out 1).trans rfl
            have hcz12_2 : w5.cell? ⟨gb232, 2, none⟩ = some (.slice A1_2 l1_2.length c1_2) := (blk_cell BK232.out 2).trans rfl
            have hfz12_0 := blk_frozen BK232.out 0
            have hfz12_1 := blk_frozen BK232.out 1
            have hfz12_2 := blk_frozen BK232.out 2
            have p234 : 0 ≤ (t233 : Int) := of_decide_eq_true (by first | (with_reducible assumption) | assumption)
            have q234 : t233 < (l0.length : Int) := of_decide_eq_true (by first | (with_reducible assumption) | assumption)
            obtain ⟨ad234, A234_1, c234_1, e234, hx234_0, hx234_1, hx234_2, hx234_3, hl234_1, hi234_1⟩ := at_T105 HR0.out t233 p234 q234
            cases e234
            replace hx234_0 := (HB.out.cell (World.block_lt_of_cell? w _ hx234_0)).trans hx234_0
            replace hx234_1 := (HB.out.cell (World.block_lt_of_cell? w _ hx234_1)).trans hx234_1
            replace hx234_2 := (HB.out.cell (World.block_lt_of_cell? w _ hx234_2)).trans hx234_2
            replace hx234_3 := (HB.out.cell (World.block_lt_of_cell? w _ hx234_3)).trans hx234_3
            have HR234_1 := Aside0.mk hi234_1
            have HC234_1 := Aside0.mk hl234_1
            clear hi234_1 hl234_1
            replace p234 := eq_true p234
            replace q234 := eq_true q234
            go_wp2
            repeat (go_quiet (fail); try go_wp2)
            go_meet
            case rel => exact ⟨_, (true), (by first | rfl | (simp; done) | (simp [*]; done)), H', ⟨by first | omega | exact Nat.le_refl _⟩, ⟨by (with_reducible repeat (first | refine blk_drewN ?_ _ | refine blk_drew ?_ | refine blk_alloc ?_ _)); exact BK232.out⟩, ⟨by repeat (first | (with_reducible first | exact HB.out | apply below_alloc | apply pw_below_drewN | apply below_drew1 | refine below_set ?_ GE232.out) | exact HB.out)⟩⟩
        · rw [if_neg c9] at H
          exact absurd H (by simp)
      · rw [if_neg c8] at H
        exact absurd H (by simp)
  case rest =>
    clear HC4
    try clear c1
    try clear c2
    try clear p2
    try clear q2
    try clear hx2
    try clear c6
    try clear c7
    try clear c7b0
    try clear c7b1
    try clear c8
    try clear c8b0
    try clear c9
    try clear c9b0
    try clear c10
    try clear c10b0
    try clear c10b1
    try clear c10b2
    try clear hcz11_0
    try clear hcz11_1
    try clear hcz11_2
    try clear hcz12_0
    try clear hcz12_1
    try clear hcz12_2
    try clear hcz6_0
    try clear hcz6_1
    try clear hcz6_2
    try clear hfz11_0
    try clear hfz11_1
    try clear hfz11_2
    try clear hfz12_0
    try clear hfz12_1
    try clear hfz12_2
    try clear hfz6_0
    try clear hfz6_1
    try clear hfz6_2
    try clear hx234_0
    try clear hx234_1
    try clear hx234_2
    try clear hx234_3
    try clear hx235_0
    try clear hx235_1
    try clear hx235_2
    try clear hx235_3
    try clear p234
    try clear p235
    try clear q234
    try clear q235
    obtain ⟨kq, x41_3, rfl, HA, HJ3, BK232, HB⟩ := hcut
    cases kq with
    | zero => exact absurd HA.out (by simp [pentaglotref31_Well.j0])
    | succ kj3 =>
      have H := HA.out
      clear HA
      simp only [pentaglotref31_Well.j0] at H
      by_cases c13 : x41_3 = true
      · subst c13
        have H1 : (some ((⟨#[]⟩ : ByteArray), false)) = some (r1, r2) := by rw [if_pos rfl] at H; exact H
        clear H
        have H := H1
        clear H1
        simp only [Option.some.injEq, Prod.mk.injEq] at H
        obtain ⟨rfl, rfl⟩ := H
        go_wp2
        repeat (go_quiet (fail); try go_wp2)
        go_ret2
        exact ⟨by first | rfl | (simp [errW_none, errW_some] <;> rfl) | (simp [*, errW_none, errW_some] <;> rfl), by repeat (first | (with_reducible first | exact HB.out | apply below_alloc | apply pw_below_drewN | apply below_drew1 | refine below_set ?_ GE232.out) | exact HB.out)⟩
      · replace c13 := Bool.eq_false_iff.mpr c13
        subst c13
        have H1 : (pentaglotref31_Well.l0 kj3 l0 t233 0 a1_0 l1_1 l1_2) = some (r1, r2) := by rw [if_neg (show ¬ (false = true) by decide)] at H; exact H
        clear H
        have H := H1
        clear H1
        have H' := Aside0.mk H
        clear H
        go_wp2
        repeat (go_quiet (fail); try go_wp2)
        go_loopg [7] kj3 (fun kq v7 w' => ∃ (x7_2 : Int), v7 = .int .i64 x7_2 ∧ Aside0 (pentaglotref31_Well.l0 kq l0 t233 x7_2 a1_0 l1_1 l1_2 = some (r1, r2)) ∧ Aside0 (kq ≤ kj3) ∧ Aside0 (w'.heap[gb232]? = some (.cells #[.string a1_0, (.slice A1_1 l1_1.length c1_1), (.slice A1_2 l1_2.length c1_2)] 68 (0, 0))) ∧ Aside0 (Below w.heap.size w w'))
        case atStart => exact ⟨(0), (by first | rfl | (simp; done) | (simp [*]; done)), H', ⟨Nat.le_refl _⟩, ⟨by (with_reducible repeat (first | refine blk_drewN ?_ _ | refine blk_drew ?_ | refine blk_alloc ?_ _)); exact BK232.out⟩, ⟨by repeat (first | (with_reducible first | exact HB.out | apply below_alloc | apply pw_below_drewN | apply below_drew1 | refine below_set ?_ GE232.out) | exact HB.out)⟩⟩
        case round =>
          clear H'
          try clear c1
          try clear c2
          try clear p2
          try clear q2
          try clear hx2
          try clear c6
          try clear c7
          try clear c7b0
          try clear c7b1
          try clear c8
          try clear c8b0
          try clear c9
          try clear c9b0
          try clear c10
          try clear c10b0
          try clear c10b1
          try clear c10b2
          try clear c13
          try clear hcz11_0
          try clear hcz11_1
          try clear hcz11_2
          try clear hcz12_0
          try clear hcz12_1
          try clear hcz12_2
          try clear hcz6_0
          try clear hcz6_1
          try clear hcz6_2
          try clear hfz11_0
          try clear hfz11_1
          try clear hfz11_2
          try clear hfz12_0
          try clear hfz12_1
          try clear hfz12_2
          try clear hfz6_0
          try clear hfz6_1
          try clear hfz6_2
          try clear hx234_0
          try clear hx234_1
          try clear hx234_2
          try clear hx234_3
          try clear hx235_0
          try clear hx235_1
          try clear hx235_2
          try clear hx235_3
          try clear p2
          try clear p234
          try clear p235
          try clear q2
          try clear q234
          try clear q235
          obtain ⟨x7_2, rfl, HA, HK2, BK232, HB⟩ := hrel
          cases gk with
          | zero => exact absurd HA.out (by simp [pentaglotref31_Well.l0])
          | succ k2 =>
            have H := HA.out
            clear HA
            simp only [pentaglotref31_Well.l0] at H
            by_cases c14 : x7_2 < (l1_1.length : Int)
            · rw [if_pos c14] at H
              have c14b0 : decide (x7_2 < (l1_1.length : Int)) = true := decide_eq_true c14
              clear c14
              by_cases c15 : 0 ≤ x7_2
              · rw [if_pos c15] at H
                have c15b0 : decide (0 ≤ x7_2) = true := decide_eq_true c15
                clear c15
                replace H := Option.bind_eq_some_iff.mp H
                obtain ⟨t237, A160, H⟩ := H
                replace H : (if t237 = true then (pentaglotref31_Well.l0 k2 l0 t233 (wrap64 (x7_2 + 1)) a1_0 l1_1 l1_2) else (some ((⟨#[]⟩ : ByteArray), false))) = some (r1, r2) := H
                have A16 := Aside0.mk A160
                clear A160
                by_cases c17 : t237 = true
                · subst c17
                  have H1 : (pentaglotref31_Well.l0 k2 l0 t233 (wrap64 (x7_2 + 1)) a1_0 l1_1 l1_2) = some (r1, r2) := by rw [if_pos rfl] at H; exact H
                  clear H
                  have H := H1
                  clear H1
                  have H' := Aside0.mk H
                  clear H
                  have hcz18_0 : wr.cell? ⟨gb232, 0, none⟩ = some (.string a1_0) := (blk_cell BK232.out 0).trans rfl
                  have hcz18_1 : wr.cell? ⟨gb232, 1, none⟩ = some (.slice A1_1 l1_1.length c1_1) := (blk_cell BK232.out 1).trans rfl
                  have hcz18_2 : wr.cell? ⟨gb232, 2, none⟩ = some (.slice A1_2 l1_2.length c1_2) := (blk_cell BK232.out 2).trans rfl
                  have hfz18_0 := blk_frozen BK232.out 0
                  have hfz18_1 := blk_frozen BK232.out 1
                  have hfz18_2 := blk_frozen BK232.out 2
                  have p236 : 0 ≤ (x7_2 : Int) := of_decide_eq_true (by first | (with_reducible assumption) | assumption)
                  have q236 : x7_2 < (l1_1.length : Int) := of_decide_eq_true (by first | (with_reducible assumption) | assumption)
                  obtain ⟨ad236, e236, hx236_0⟩ := Kd.at_int HR1_1.out x7_2 p236 q236
                  cases e236
                  replace hx236_0 := (HB.out.cell (World.block_lt_of_cell? w _ hx236_0)).trans hx236_0
                  replace p236 := eq_true p236
                  replace q236 := eq_true q236
                  go_wp2_with (first | (go_at_call 66; (with_reducible refine (pentaglotref31_Value.calls (rd l1_1 x7_2) true _ A16.out).mono ?_); rintro e w' ⟨rfl, ⟨nd, rfl⟩⟩; (try first | exact ⟨rfl, _, World.drewN_drewN _ _ _⟩ | exact ⟨rfl, _, Eq.trans (World.drewN_drewN _ _ _) (congrArg (World.drewN _) (Nat.add_assoc _ _ _))⟩)))
                  repeat (go_quiet (first | (go_at_call 66; (with_reducible refine (pentaglotref31_Value.calls (rd l1_1 x7_2) true _ A16.out).mono ?_); rintro e w' ⟨rfl, ⟨nd, rfl⟩⟩; (try first | exact ⟨rfl, _, World.drewN_drewN _ _ _⟩ | exact ⟨rfl, _, Eq.trans (World.drewN_drewN _ _ _) (congrArg (World.drewN _) (Nat.add_assoc _ _ _))⟩))); try go_wp2_with (first | (go_at_call 66; (with_reducible refine (pentaglotref31_Value.calls (rd l1_1 x7_2) true _ A16.out).mono ?_); rintro e w' ⟨rfl, ⟨nd, rfl⟩⟩; (try first | exact ⟨rfl, _, World.drewN_drewN _ _ _⟩ | exact ⟨rfl, _, Eq.trans (World.drewN_drewN _ _ _) (congrArg (World.drewN _) (Nat.add_assoc _ _ _))⟩))))
                  go_roundg k2
                  case measure => have := HJ3.out; have := HK2.out; omega
                  case rel => exact ⟨(wrap64 (x7_2 + 1)), (by first | rfl | (simp; done) | (simp [*]; done)), H', ⟨by have := HJ3.out; have := HK2.out; omega⟩, ⟨by (with_reducible repeat (first | refine blk_drewN ?_ _ | refine blk_drew ?_ | refine blk_alloc ?_ _)); exact BK232.out⟩, ⟨by repeat (first | (with_reducible first | exact HB.out | apply below_alloc | apply pw_below_drewN | apply below_drew1 | refine below_set ?_ GE232.out) | exact HB.out)⟩⟩
                · replace c17 := Bool.eq_false_iff.mpr c17
                  subst c17
                  have H1 : (some ((⟨#[]⟩ : ByteArray), false)) = some (r1, r2) := by rw [if_neg (show ¬ (false = true) by decide)] at H; exact H
                  clear H
                  have H := H1
                  clear H1
                  simp only [Option.some.injEq, Prod.mk.injEq] at H
                  obtain ⟨rfl, rfl⟩ := H
                  have hcz19_0 : wr.cell? ⟨gb232, 0, none⟩ = some (.string a1_0) := (blk_cell BK232.out 0).trans rfl
                  have hcz19_1 : wr.cell? ⟨gb232, 1, none⟩ = some (.slice A1_1 l1_1.length c1_1) := (blk_cell BK232.out 1).trans rfl
                  have hcz19_2 : wr.cell? ⟨gb232, 2, none⟩ = some (.slice A1_2 l1_2.length c1_2) := (blk_cell BK232.out 2).trans rfl
                  have hfz19_0 := blk_frozen BK232.out 0
                  have hfz19_1 := blk_frozen BK232.out 1
                  have hfz19_2 := blk_frozen BK232.out 2
                  have p236 : 0 ≤ (x7_2 : Int) := of_decide_eq_true (by first | (with_reducible assumption) | assumption)
                  have q236 : x7_2 < (l1_1.length : Int) := of_decide_eq_true (by first | (with_reducible assumption) | assumption)
                  obtain ⟨ad236, e236, hx236_0⟩ := Kd.at_int HR1_1.out x7_2 p236 q236
                  cases e236
                  replace hx236_0 := (HB.out.cell (World.block_lt_of_cell? w _ hx236_0)).trans hx236_0
                  replace p236 := eq_true p236
                  replace q236 := eq_true q236
                  go_wp2_with (first | (go_at_call 66; (with_reducible refine (pentaglotref31_Value.calls (rd l1_1 x7_2) false _ A16.out).mono ?_); rintro e w' ⟨rfl, ⟨nd, rfl⟩⟩; (try first | exact ⟨rfl, _, World.drewN_drewN _ _ _⟩ | exact ⟨rfl, _, Eq.trans (World.drewN_drewN _ _ _) (congrArg (World.drewN _) (Nat.add_assoc _ _ _))⟩)))
                  repeat (go_quiet (first | (go_at_call 66; (with_reducible refine (pentaglotref31_Value.calls (rd l1_1 x7_2) false _ A16.out).mono ?_); rintro e w' ⟨rfl, ⟨nd, rfl⟩⟩; (try first | exact ⟨rfl, _, World.drewN_drewN _ _ _⟩ | exact ⟨rfl, _, Eq.trans (World.drewN_drewN _ _ _) (congrArg (World.drewN _) (Nat.add_assoc _ _ _))⟩))); try go_wp2_with (first | (go_at_call 66; (with_reducible refine (pentaglotref31_Value.calls (rd l1_1 x7_2) false _ A16.out).mono ?_); rintro e w' ⟨rfl, ⟨nd, rfl⟩⟩; (try first | exact ⟨rfl, _, World.drewN_drewN _ _ _⟩ | exact ⟨rfl, _, Eq.trans (World.drewN_drewN _ _ _) (congrArg (World.drewN _) (Nat.add_assoc _ _ _))⟩))))
                  go_ret2
                  exact ⟨by first | rfl | (simp [errW_none, errW_some] <;> rfl) | (simp [*, errW_none, errW_some] <;> rfl), by repeat (first | (with_reducible first | exact HB.out | apply below_alloc | apply pw_below_drewN | apply below_drew1 | refine below_set ?_ GE232.out) | exact HB.out)⟩
              · rw [if_neg c15] at H
                exact absurd H (by simp)
            · rw [if_neg c14] at H
              have c14b0 : decide (x7_2 < (l1_1.length : Int)) = false := decide_eq_false c14
              clear c14
              have H' := Aside0.mk H
              clear H
              have hcz20_0 : wr.cell? ⟨gb232, 0, none⟩ = some (.string a1_0) := (blk_cell BK232.out 0).trans rfl
              have hcz20_1 : wr.cell? ⟨gb232, 1, none⟩ = some (.slice A1_1 l1_1.length c1_1) := (blk_cell BK232.out 1).trans rfl
              have hcz20_2 : wr.cell? ⟨gb232, 2, none⟩ = some (.slice A1_2 l1_2.length c1_2) := (blk_cell BK232.out 2).trans rfl
              have hfz20_0 := blk_frozen BK232.out 0
              have hfz20_1 := blk_frozen BK232.out 1
              have hfz20_2 := blk_frozen BK232.out 2
              go_wp2
              repeat (go_quiet (fail); try go_wp2)
              go_loopg [8] k2 (fun kq v8 w' => ∃ (x8_3 : Int), v8 = .int .i64 x8_3 ∧ Aside0 (pentaglotref31_Well.l1 kq l0 t233 x8_3 a1_0 l1_1 l1_2 = some (r1, r2)) ∧ Aside0 (kq ≤ k2) ∧ Aside0 (w'.heap[gb232]? = some (.cells #[.string a1_0, (.slice A1_1 l1_1.length c1_1), (.slice A1_2 l1_2.length c1_2)] 68 (0, 0))) ∧ Aside0 (Below w.heap.size w w'))
              case atStart => exact ⟨(0), (by first | rfl | (simp; done) | (simp [*]; done)), H', ⟨Nat.le_refl _⟩, ⟨by (with_reducible repeat (first | refine blk_drewN ?_ _ | refine blk_drew ?_ | refine blk_alloc ?_ _)); exact BK232.out⟩, ⟨by repeat (first | (with_reducible first | exact HB.out | apply below_alloc | apply pw_below_drewN | apply below_drew1 | refine below_set ?_ GE232.out) | exact HB.out)⟩⟩
              case round =>
                clear H'
                try clear c1
                try clear c2
                try clear p2
                try clear q2
                try clear hx2
                try clear c6
                try clear p6
                try clear c7
                try clear c7b0
                try clear c7b1
                try clear c8
                try clear c8b0
                try clear c9
                try clear c9b0
                try clear c10
                try clear c10b0
                try clear c10b1
                try clear c10b2
                try clear c13
                try clear c14
                try clear c14b0
                try clear c15
                try clear c15b0
                try clear c17
                try clear hcz11_0
                try clear hcz11_1
                try clear hcz11_2
                try clear hcz12_0
                try clear hcz12_1
                try clear hcz12_2
                try clear hcz18_0
                try clear hcz18_1
                try clear hcz18_2
                try clear hcz19_0
                try clear hcz19_1
                try clear hcz19_2
                try clear hcz20_0
                try clear hcz20_1
                try clear hcz20_2
                try clear hcz6_0
                try clear hcz6_1
                try clear hcz6_2
                try clear hfz11_0
                try clear hfz11_1
                try clear hfz11_2
                try clear hfz12_0
                try clear hfz12_1
                try clear hfz12_2
                try clear hfz18_0
                try clear hfz18_1
                try clear hfz18_2
                try clear hfz19_0
                try clear hfz19_1
                try clear hfz19_2
                try clear hfz20_0
                try clear hfz20_1
                try clear hfz20_2
                try clear hfz6_0
                try clear hfz6_1
                try clear hfz6_2
                try clear hx234_0
                try clear hx234_1
                try clear hx234_2
                try clear hx234_3
                try clear hx235_0
                try clear hx235_1
                try clear hx235_2
                try clear hx235_3
                try clear hx236_0
                try clear p2
                try clear p234
                try clear p235
                try clear p236
                try clear q2
                try clear q234
                try clear q235
                try clear q236
                obtain ⟨x8_3, rfl, HA, HK3, BK232, HB⟩ := hrel
                cases gk with
                | zero => exact absurd HA.out (by simp [pentaglotref31_Well.l1])
                | succ k3 =>
                  have H := HA.out
                  clear HA
                  simp only [pentaglotref31_Well.l1] at H
                  by_cases c21 : x8_3 < (l1_2.length : Int)
                  · rw [if_pos c21] at H
                    have c21b0 : decide (x8_3 < (l1_2.length : Int)) = true := decide_eq_true c21
                    clear c21
                    by_cases c22 : 0 ≤ x8_3
                    · rw [if_pos c22] at H
                      have c22b0 : decide (0 ≤ x8_3) = true := decide_eq_true c22
                      clear c22
                      replace H := Option.bind_eq_some_iff.mp H
                      obtain ⟨⟨t239, t240⟩, A230, H⟩ := H
                      replace H : (if t240 = true then (if 0 ≤ t233 then (if t233 < (l0.length : Int) then (if x8_3 < (((rd_T105 l0 t233).f1).length : Int) then (if t239.toList = (rdOf ByteArray.empty ((rd_T105 l0 t233).f1) x8_3).toList then (pentaglotref31_Well.l1 k3 l0 t233 (wrap64 (x8_3 + 1)) a1_0 l1_1 l1_2) else (some ((⟨#[]⟩ : ByteArray), false))) else (none)) else (none)) else (none)) else (some ((⟨#[]⟩ : ByteArray), false))) = some (r1, r2) := H
                      have A23 := Aside0.mk A230
                      clear A230
                      by_cases c24 : t240 = true
                      · subst c24
                        have H1 : (if 0 ≤ t233 then (if t233 < (l0.length : Int) then (if x8_3 < (((rd_T105 l0 t233).f1).length : Int) then (if t239.toList = (rdOf ByteArray.empty ((rd_T105 l0 t233).f1) x8_3).toList then (pentaglotref31_Well.l1 k3 l0 t233 (wrap64 (x8_3 + 1)) a1_0 l1_1 l1_2) else (some ((⟨#[]⟩ : ByteArray), false))) else (none)) else (none)) else (none)) = some (r1, r2) := by rw [if_pos rfl] at H; exact H
                        clear H
                        have H := H1
                        clear H1
                        by_cases c25 : 0 ≤ t233
                        · rw [if_pos c25] at H
                          have c25b0 : decide (0 ≤ t233) = true := decide_eq_true c25
                          clear c25
                          by_cases c26 : t233 < (l0.length : Int)
                          · rw [if_pos c26] at H
                            have c26b0 : decide (t233 < (l0.length : Int)) = true := decide_eq_true c26
                            clear c26
                            by_cases c27 : x8_3 < (((rd_T105 l0 t233).f1).length : Int)
                            · rw [if_pos c27] at H
                              have c27b0 : decide (x8_3 < (((rd_T105 l0 t233).f1).length : Int)) = true := decide_eq_true c27
                              clear c27
                              by_cases c28 : t239.toList = (rdOf ByteArray.empty ((rd_T105 l0 t233).f1) x8_3).toList
                              · rw [if_pos c28] at H
                                have c28b0 : (t239.toList == (rdOf ByteArray.empty ((rd_T105 l0 t233).f1) x8_3).toList) = true := beq_iff_eq.mpr c28
                                have c28b1 : (t239.toList != (rdOf ByteArray.empty ((rd_T105 l0 t233).f1) x8_3).toList) = false := bne_eq_false_iff_eq.mpr c28
                                clear c28
                                have H' := Aside0.mk H
                                clear H
                                have hcz29_0 : wr.cell? ⟨gb232, 0, none⟩ = some (.string a1_0) := (blk_cell BK232.out 0).trans rfl
                                have hcz29_1 : wr.cell? ⟨gb232, 1, none⟩ = some (.slice A1_1 l1_1.length c1_1) := (blk_cell BK232.out 1).trans rfl
                                have hcz29_2 : wr.cell? ⟨gb232, 2, none⟩ = some (.slice A1_2 l1_2.length c1_2) := (blk_cell BK232.out 2).trans rfl
                                have hfz29_0 := blk_frozen BK232.out 0
                                have hfz29_1 := blk_frozen BK232.out 1
                                have hfz29_2 := blk_frozen BK232.out 2
                                have p238 : 0 ≤ (x8_3 : Int) := of_decide_eq_true (by first | (with_reducible assumption) | assumption)
                                have q238 : x8_3 < (l1_2.length : Int) := of_decide_eq_true (by first | (with_reducible assumption) | assumption)
                                obtain ⟨ad238, A238_1, c238_1, A238_2, c238_2, e238, hx238_0, hx238_1, hx238_2, hl238_1, hi238_1, hl238_2, hi238_2⟩ := at_T68 HR1_2.out x8_3 p238 q238
                                cases e238
                                replace hx238_0 := (HB.out.cell (World.block_lt_of_cell? w _ hx238_0)).trans hx238_0
                                replace hx238_1 := (HB.out.cell (World.block_lt_of_cell? w _ hx238_1)).trans hx238_1
                                replace hx238_2 := (HB.out.cell (World.block_lt_of_cell? w _ hx238_2)).trans hx238_2
                                have HR238_1 := Aside0.mk hi238_1
                                have HC238_1 := Aside0.mk hl238_1
                                clear hi238_1 hl238_1
                                have HR238_2 := Aside0.mk hi238_2
                                have HC238_2 := Aside0.mk hl238_2
                                clear hi238_2 hl238_2
                                replace p238 := eq_true p238
                                replace q238 := eq_true q238
                                go_wp2_with (first | (go_at_call 64; (with_reducible refine (ih k3 (by have := HJ3.out; have := HK2.out; have := HK3.out; omega) _ _ l0 ((rd_T68 l1_2 x8_3).f0) _ _ ((rd_T68 l1_2 x8_3).f1) _ _ ((rd_T68 l1_2 x8_3).f2) t239 true _ ?side1 ?side2 ?side3 ?side4 ?side5 ?side6 A23.out).mono ?_); (case side1 => repeat (first | exact (Kd.C_below HR0.out HB.out) | (with_reducible refine Kd.C_alloc ?_ _) | (with_reducible refine Kd.C_drewN ?_ _) | (with_reducible refine Kd.C_drew ?_))); (case side2 => exact HC0.out); (case side3 => repeat (first | exact (Kd.C_below HR238_1.out HB.out) | (with_reducible refine Kd.C_alloc ?_ _) | (with_reducible refine Kd.C_drewN ?_ _) | (with_reducible refine Kd.C_drew ?_))); (case side4 => exact HC238_1.out); (case side5 => repeat (first | exact (Kd.C_below HR238_2.out HB.out) | (with_reducible refine Kd.C_alloc ?_ _) | (with_reducible refine Kd.C_drewN ?_ _) | (with_reducible refine Kd.C_drew ?_))); (case side6 => exact HC238_2.out); rintro e w30 ⟨rfl, hb⟩; have n0_ := Aside0.mk (blk_below (g := gb232) (o := .cells #[.string a1_0, .slice A1_1 l1_1.length c1_1, .slice (some ad238) l1_2.length c1_2] 68 (0, 0)) (by (with_reducible repeat (first | refine blk_drewN ?_ _ | refine blk_drew ?_ | refine blk_alloc ?_ _)); exact BK232.out) hb); have n1_ := Aside0.mk (below_step (by repeat (first | (with_reducible first | exact HB.out | apply below_alloc | apply pw_below_drewN | apply below_drew1 | refine below_set ?_ GE232.out) | exact HB.out)) hb); clear BK232; clear HB; have BK232 := n0_; have HB := n1_; clear n0_ n1_; (try clear hb); (try clear hb2); (try clear hk); (try clear hi); have p241 : 0 ≤ (t233 : Int) := of_decide_eq_true (by first | (with_reducible assumption) | assumption); have q241 : t233 < (l0.length : Int) := of_decide_eq_true (by first | (with_reducible assumption) | assumption); obtain ⟨ad241, A241_1, c241_1, e241, hx241_0, hx241_1, hx241_2, hx241_3, hl241_1, hi241_1⟩ := at_T105 HR0.out t233 p241 q241; cases e241; replace hx241_0 := (HB.out.cell (World.block_lt_of_cell? w _ hx241_0)).trans hx241_0; replace hx241_1 := (HB.out.cell (World.block_lt_of_cell? w _ hx241_1)).trans hx241_1; replace hx241_2 := (HB.out.cell (World.block_lt_of_cell? w _ hx241_2)).trans hx241_2; replace hx241_3 := (HB.out.cell (World.block_lt_of_cell? w _ hx241_3)).trans hx241_3; have HR241_1 := Aside0.mk hi241_1; have HC241_1 := Aside0.mk hl241_1; clear hi241_1 hl241_1; replace p241 := eq_true p241; replace q241 := eq_true q241; have p242 : 0 ≤ (x8_3 : Int) := of_decide_eq_true (by first | (with_reducible assumption) | assumption); have q242 : x8_3 < (((rd_T105 l0 t233).f1).length : Int) := of_decide_eq_true (by first | (with_reducible assumption) | assumption); obtain ⟨ad242, e242, hx242_0⟩ := Kd.at_string HR241_1.out x8_3 p242 q242; cases e242; replace hx242_0 := (HB.out.cell (World.block_lt_of_cell? w _ hx242_0)).trans hx242_0; replace p242 := eq_true p242; replace q242 := eq_true q242))
                                repeat (go_quiet (first | (go_at_call 64; (with_reducible refine (ih k3 (by have := HJ3.out; have := HK2.out; have := HK3.out; omega) _ _ l0 ((rd_T68 l1_2 x8_3).f0) _ _ ((rd_T68 l1_2 x8_3).f1) _ _ ((rd_T68 l1_2 x8_3).f2) t239 true _ ?side1 ?side2 ?side3 ?side4 ?side5 ?side6 A23.out).mono ?_); (case side1 => repeat (first | exact (Kd.C_below HR0.out HB.out) | (with_reducible refine Kd.C_alloc ?_ _) | (with_reducible refine Kd.C_drewN ?_ _) | (with_reducible refine Kd.C_drew ?_))); (case side2 => exact HC0.out); (case side3 => repeat (first | exact (Kd.C_below HR238_1.out HB.out) | (with_reducible refine Kd.C_alloc ?_ _) | (with_reducible refine Kd.C_drewN ?_ _) | (with_reducible refine Kd.C_drew ?_))); (case side4 => exact HC238_1.out); (case side5 => repeat (first | exact (Kd.C_below HR238_2.out HB.out) | (with_reducible refine Kd.C_alloc ?_ _) | (with_reducible refine Kd.C_drewN ?_ _) | (with_reducible refine Kd.C_drew ?_))); (case side6 => exact HC238_2.out); rintro e w30 ⟨rfl, hb⟩; have n0_ := Aside0.mk (blk_below (g := gb232) (o := .cells #[.string a1_0, .slice A1_1 l1_1.length c1_1, .slice (some ad238) l1_2.length c1_2] 68 (0, 0)) (by (with_reducible repeat (first | refine blk_drewN ?_ _ | refine blk_drew ?_ | refine blk_alloc ?_ _)); exact BK232.out) hb); have n1_ := Aside0.mk (below_step (by repeat (first | (with_reducible first | exact HB.out | apply below_alloc | apply pw_below_drewN | apply below_drew1 | refine below_set ?_ GE232.out) | exact HB.out)) hb); clear BK232; clear HB; have BK232 := n0_; have HB := n1_; clear n0_ n1_; (try clear hb); (try clear hb2); (try clear hk); (try clear hi); have p241 : 0 ≤ (t233 : Int) := of_decide_eq_true (by first | (with_reducible assumption) | assumption); have q241 : t233 < (l0.length : Int) := of_decide_eq_true (by first | (with_reducible assumption) | assumption); obtain ⟨ad241, A241_1, c241_1, e241, hx241_0, hx241_1, hx241_2, hx241_3, hl241_1, hi241_1⟩ := at_T105 HR0.out t233 p241 q241; cases e241; replace hx241_0 := (HB.out.cell (World.block_lt_of_cell? w _ hx241_0)).trans hx241_0; replace hx241_1 := (HB.out.cell (World.block_lt_of_cell? w _ hx241_1)).trans hx241_1; replace hx241_2 := (HB.out.cell (World.block_lt_of_cell? w _ hx241_2)).trans hx241_2; replace hx241_3 := (HB.out.cell (World.block_lt_of_cell? w _ hx241_3)).trans hx241_3; have HR241_1 := Aside0.mk hi241_1; have HC241_1 := Aside0.mk hl241_1; clear hi241_1 hl241_1; replace p241 := eq_true p241; replace q241 := eq_true q241; have p242 : 0 ≤ (x8_3 : Int) := of_decide_eq_true (by first | (with_reducible assumption) | assumption); have q242 : x8_3 < (((rd_T105 l0 t233).f1).length : Int) := of_decide_eq_true (by first | (with_reducible assumption) | assumption); obtain ⟨ad242, e242, hx242_0⟩ := Kd.at_string HR241_1.out x8_3 p242 q242; cases e242; replace hx242_0 := (HB.out.cell (World.block_lt_of_cell? w _ hx242_0)).trans hx242_0; replace p242 := eq_true p242; replace q242 := eq_true q242)); try go_wp2_with (first | (go_at_call 64; (with_reducible refine (ih k3 (by have := HJ3.out; have := HK2.out; have := HK3.out; omega) _ _ l0 ((rd_T68 l1_2 x8_3).f0) _ _ ((rd_T68 l1_2 x8_3).f1) _ _ ((rd_T68 l1_2 x8_3).f2) t239 true _ ?side1 ?side2 ?side3 ?side4 ?side5 ?side6 A23.out).mono ?_); (case side1 => repeat (first | exact (Kd.C_below HR0.out HB.out) | (with_reducible refine Kd.C_alloc ?_ _) | (with_reducible refine Kd.C_drewN ?_ _) | (with_reducible refine Kd.C_drew ?_))); (case side2 => exact HC0.out); (case side3 => repeat (first | exact (Kd.C_below HR238_1.out HB.out) | (with_reducible refine Kd.C_alloc ?_ _) | (with_reducible refine Kd.C_drewN ?_ _) | (with_reducible refine Kd.C_drew ?_))); (case side4 => exact HC238_1.out); (case side5 => repeat (first | exact (Kd.C_below HR238_2.out HB.out) | (with_reducible refine Kd.C_alloc ?_ _) | (with_reducible refine Kd.C_drewN ?_ _) | (with_reducible refine Kd.C_drew ?_))); (case side6 => exact HC238_2.out); rintro e w30 ⟨rfl, hb⟩; have n0_ := Aside0.mk (blk_below (g := gb232) (o := .cells #[.string a1_0, .slice A1_1 l1_1.length c1_1, .slice (some ad238) l1_2.length c1_2] 68 (0, 0)) (by (with_reducible repeat (first | refine blk_drewN ?_ _ | refine blk_drew ?_ | refine blk_alloc ?_ _)); exact BK232.out) hb); have n1_ := Aside0.mk (below_step (by repeat (first | (with_reducible first | exact HB.out | apply below_alloc | apply pw_below_drewN | apply below_drew1 | refine below_set ?_ GE232.out) | exact HB.out)) hb); clear BK232; clear HB; have BK232 := n0_; have HB := n1_; clear n0_ n1_; (try clear hb); (try clear hb2); (try clear hk); (try clear hi); have p241 : 0 ≤ (t233 : Int) := of_decide_eq_true (by first | (with_reducible assumption) | assumption); have q241 : t233 < (l0.length : Int) := of_decide_eq_true (by first | (with_reducible assumption) | assumption); obtain ⟨ad241, A241_1, c241_1, e241, hx241_0, hx241_1, hx241_2, hx241_3, hl241_1, hi241_1⟩ := at_T105 HR0.out t233 p241 q241; cases e241; replace hx241_0 := (HB.out.cell (World.block_lt_of_cell? w _ hx241_0)).trans hx241_0; replace hx241_1 := (HB.out.cell (World.block_lt_of_cell? w _ hx241_1)).trans hx241_1; replace hx241_2 := (HB.out.cell (World.block_lt_of_cell? w _ hx241_2)).trans hx241_2; replace hx241_3 := (HB.out.cell (World.block_lt_of_cell? w _ hx241_3)).trans hx241_3; have HR241_1 := Aside0.mk hi241_1; have HC241_1 := Aside0.mk hl241_1; clear hi241_1 hl241_1; replace p241 := eq_true p241; replace q241 := eq_true q241; have p242 : 0 ≤ (x8_3 : Int) := of_decide_eq_true (by first | (with_reducible assumption) | assumption); have q242 : x8_3 < (((rd_T105 l0 t233).f1).length : Int) := of_decide_eq_true (by first | (with_reducible assumption) | assumption); obtain ⟨ad242, e242, hx242_0⟩ := Kd.at_string HR241_1.out x8_3 p242 q242; cases e242; replace hx242_0 := (HB.out.cell (World.block_lt_of_cell? w _ hx242_0)).trans hx242_0; replace p242 := eq_true p242; replace q242 := eq_true q242)))
                                go_roundg k3
                                case measure => have := HJ3.out; have := HK2.out; have := HK3.out; omega
                                case rel => exact ⟨(wrap64 (x8_3 + 1)), (by first | rfl | (simp; done) | (simp [*]; done)), H', ⟨by have := HJ3.out; have := HK2.out; have := HK3.out; omega⟩, ⟨by (with_reducible repeat (first | refine blk_drewN ?_ _ | refine blk_drew ?_ | refine blk_alloc ?_ _)); exact BK232.out⟩, ⟨by repeat (first | (with_reducible first | exact HB.out | apply below_alloc | apply pw_below_drewN | apply below_drew1 | refine below_set ?_ GE232.out) | exact HB.out)⟩⟩
                              · rw [if_neg c28] at H
                                have c28b0 : (t239.toList == (rdOf ByteArray.empty ((rd_T105 l0 t233).f1) x8_3).toList) = false := beq_eq_false_iff_ne.mpr c28
                                have c28b1 : (t239.toList != (rdOf ByteArray.empty ((rd_T105 l0 t233).f1) x8_3).toList) = true := bne_iff_ne.mpr c28
                                simp only [Option.some.injEq, Prod.mk.injEq] at H
                                obtain ⟨rfl, rfl⟩ := H
                                have hcz31_0 : wr.cell? ⟨gb232, 0, none⟩ = some (.string a1_0) := (blk_cell BK232.out 0).trans rfl
                                have hcz31_1 : wr.cell? ⟨gb232, 1, none⟩ = some (.slice A1_1 l1_1.length c1_1) := (blk_cell BK232.out 1).trans rfl
                                have hcz31_2 : wr.cell? ⟨gb232, 2, none⟩ = some (.slice A1_2 l1_2.length c1_2) := (blk_cell BK232.out 2).trans rfl
                                have hfz31_0 := blk_frozen BK232.out 0
                                have hfz31_1 := blk_frozen BK232.out 1
                                have hfz31_2 := blk_frozen BK232.out 2
                                have p238 : 0 ≤ (x8_3 : Int) := of_decide_eq_true (by first | (with_reducible assumption) | assumption)
                                have q238 : x8_3 < (l1_2.length : Int) := of_decide_eq_true (by first | (with_reducible assumption) | assumption)
                                obtain ⟨ad238, A238_1, c238_1, A238_2, c238_2, e238, hx238_0, hx238_1, hx238_2, hl238_1, hi238_1, hl238_2, hi238_2⟩ := at_T68 HR1_2.out x8_3 p238 q238
                                cases e238
                                replace hx238_0 := (HB.out.cell (World.block_lt_of_cell? w _ hx238_0)).trans hx238_0
                                replace hx238_1 := (HB.out.cell (World.block_lt_of_cell? w _ hx238_1)).trans hx238_1
                                replace hx238_2 := (HB.out.cell (World.block_lt_of_cell? w _ hx238_2)).trans hx238_2
                                have HR238_1 := Aside0.mk hi238_1
                                have HC238_1 := Aside0.mk hl238_1
                                clear hi238_1 hl238_1
                                have HR238_2 := Aside0.mk hi238_2
                                have HC238_2 := Aside0.mk hl238_2
                                clear hi238_2 hl238_2
                                replace p238 := eq_true p238
                                replace q238 := eq_true q238
                                go_wp2_with (first | (go_at_call 64; (with_reducible refine (ih k3 (by have := HJ3.out; have := HK2.out; have := HK3.out; omega) _ _ l0 ((rd_T68 l1_2 x8_3).f0) _ _ ((rd_T68 l1_2 x8_3).f1) _ _ ((rd_T68 l1_2 x8_3).f2) t239 true _ ?side1 ?side2 ?side3 ?side4 ?side5 ?side6 A23.out).mono ?_); (case side1 => repeat (first | exact (Kd.C_below HR0.out HB.out) | (with_reducible refine Kd.C_alloc ?_ _) | (with_reducible refine Kd.C_drewN ?_ _) | (with_reducible refine Kd.C_drew ?_))); (case side2 => exact HC0.out); (case side3 => repeat (first | exact (Kd.C_below HR238_1.out HB.out) | (with_reducible refine Kd.C_alloc ?_ _) | (with_reducible refine Kd.C_drewN ?_ _) | (with_reducible refine Kd.C_drew ?_))); (case side4 => exact HC238_1.out); (case side5 => repeat (first | exact (Kd.C_below HR238_2.out HB.out) | (with_reducible refine Kd.C_alloc ?_ _) | (with_reducible refine Kd.C_drewN ?_ _) | (with_reducible refine Kd.C_drew ?_))); (case side6 => exact HC238_2.out); rintro e w32 ⟨rfl, hb⟩; have n0_ := Aside0.mk (blk_below (g := gb232) (o := .cells #[.string a1_0, .slice A1_1 l1_1.length c1_1, .slice (some ad238) l1_2.length c1_2] 68 (0, 0)) (by (with_reducible repeat (first | refine blk_drewN ?_ _ | refine blk_drew ?_ | refine blk_alloc ?_ _)); exact BK232.out) hb); have n1_ := Aside0.mk (below_step (by repeat (first | (with_reducible first | exact HB.out | apply below_alloc | apply pw_below_drewN | apply below_drew1 | refine below_set ?_ GE232.out) | exact HB.out)) hb); clear BK232; clear HB; have BK232 := n0_; have HB := n1_; clear n0_ n1_; (try clear hb); (try clear hb2); (try clear hk); (try clear hi); have p241 : 0 ≤ (t233 : Int) := of_decide_eq_true (by first | (with_reducible assumption) | assumption); have q241 : t233 < (l0.length : Int) := of_decide_eq_true (by first | (with_reducible assumption) | assumption); obtain ⟨ad241, A241_1, c241_1, e241, hx241_0, hx241_1, hx241_2, hx241_3, hl241_1, hi241_1⟩ := at_T105 HR0.out t233 p241 q241; cases e241; replace hx241_0 := (HB.out.cell (World.block_lt_of_cell? w _ hx241_0)).trans hx241_0; replace hx241_1 := (HB.out.cell (World.block_lt_of_cell? w _ hx241_1)).trans hx241_1; replace hx241_2 := (HB.out.cell (World.block_lt_of_cell? w _ hx241_2)).trans hx241_2; replace hx241_3 := (HB.out.cell (World.block_lt_of_cell? w _ hx241_3)).trans hx241_3; have HR241_1 := Aside0.mk hi241_1; have HC241_1 := Aside0.mk hl241_1; clear hi241_1 hl241_1; replace p241 := eq_true p241; replace q241 := eq_true q241; have p242 : 0 ≤ (x8_3 : Int) := of_decide_eq_true (by first | (with_reducible assumption) | assumption); have q242 : x8_3 < (((rd_T105 l0 t233).f1).length : Int) := of_decide_eq_true (by first | (with_reducible assumption) | assumption); obtain ⟨ad242, e242, hx242_0⟩ := Kd.at_string HR241_1.out x8_3 p242 q242; cases e242; replace hx242_0 := (HB.out.cell (World.block_lt_of_cell? w _ hx242_0)).trans hx242_0; replace p242 := eq_true p242; replace q242 := eq_true q242))
                                repeat (go_quiet (first | (go_at_call 64; (with_reducible refine (ih k3 (by have := HJ3.out; have := HK2.out; have := HK3.out; omega) _ _ l0 ((rd_T68 l1_2 x8_3).f0) _ _ ((rd_T68 l1_2 x8_3).f1) _ _ ((rd_T68 l1_2 x8_3).f2) t239 true _ ?side1 ?side2 ?side3 ?side4 ?side5 ?side6 A23.out).mono ?_); (case side1 => repeat (first | exact (Kd.C_below HR0.out HB.out) | (with_reducible refine Kd.C_alloc ?_ _) | (with_reducible refine Kd.C_drewN ?_ _) | (with_reducible refine Kd.C_drew ?_))); (case side2 => exact HC0.out); (case side3 => repeat (first | exact (Kd.C_below HR238_1.out HB.out) | (with_reducible refine Kd.C_alloc ?_ _) | (with_reducible refine Kd.C_drewN ?_ _) | (with_reducible refine Kd.C_drew ?_))); (case side4 => exact HC238_1.out); (case side5 => repeat (first | exact (Kd.C_below HR238_2.out HB.out) | (with_reducible refine Kd.C_alloc ?_ _) | (with_reducible refine Kd.C_drewN ?_ _) | (with_reducible refine Kd.C_drew ?_))); (case side6 => exact HC238_2.out); rintro e w32 ⟨rfl, hb⟩; have n0_ := Aside0.mk (blk_below (g := gb232) (o := .cells #[.string a1_0, .slice A1_1 l1_1.length c1_1, .slice (some ad238) l1_2.length c1_2] 68 (0, 0)) (by (with_reducible repeat (first | refine blk_drewN ?_ _ | refine blk_drew ?_ | refine blk_alloc ?_ _)); exact BK232.out) hb); have n1_ := Aside0.mk (below_step (by repeat (first | (with_reducible first | exact HB.out | apply below_alloc | apply pw_below_drewN | apply below_drew1 | refine below_set ?_ GE232.out) | exact HB.out)) hb); clear BK232; clear HB; have BK232 := n0_; have HB := n1_; clear n0_ n1_; (try clear hb); (try clear hb2); (try clear hk); (try clear hi); have p241 : 0 ≤ (t233 : Int) := of_decide_eq_true (by first | (with_reducible assumption) | assumption); have q241 : t233 < (l0.length : Int) := of_decide_eq_true (by first | (with_reducible assumption) | assumption); obtain ⟨ad241, A241_1, c241_1, e241, hx241_0, hx241_1, hx241_2, hx241_3, hl241_1, hi241_1⟩ := at_T105 HR0.out t233 p241 q241; cases e241; replace hx241_0 := (HB.out.cell (World.block_lt_of_cell? w _ hx241_0)).trans hx241_0; replace hx241_1 := (HB.out.cell (World.block_lt_of_cell? w _ hx241_1)).trans hx241_1; replace hx241_2 := (HB.out.cell (World.block_lt_of_cell? w _ hx241_2)).trans hx241_2; replace hx241_3 := (HB.out.cell (World.block_lt_of_cell? w _ hx241_3)).trans hx241_3; have HR241_1 := Aside0.mk hi241_1; have HC241_1 := Aside0.mk hl241_1; clear hi241_1 hl241_1; replace p241 := eq_true p241; replace q241 := eq_true q241; have p242 : 0 ≤ (x8_3 : Int) := of_decide_eq_true (by first | (with_reducible assumption) | assumption); have q242 : x8_3 < (((rd_T105 l0 t233).f1).length : Int) := of_decide_eq_true (by first | (with_reducible assumption) | assumption); obtain ⟨ad242, e242, hx242_0⟩ := Kd.at_string HR241_1.out x8_3 p242 q242; cases e242; replace hx242_0 := (HB.out.cell (World.block_lt_of_cell? w _ hx242_0)).trans hx242_0; replace p242 := eq_true p242; replace q242 := eq_true q242)); try go_wp2_with (first | (go_at_call 64; (with_reducible refine (ih k3 (by have := HJ3.out; have := HK2.out; have := HK3.out; omega) _ _ l0 ((rd_T68 l1_2 x8_3).f0) _ _ ((rd_T68 l1_2 x8_3).f1) _ _ ((rd_T68 l1_2 x8_3).f2) t239 true _ ?side1 ?side2 ?side3 ?side4 ?side5 ?side6 A23.out).mono ?_); (case side1 => repeat (first | exact (Kd.C_below HR0.out HB.out) | (with_reducible refine Kd.C_alloc ?_ _) | (with_reducible refine Kd.C_drewN ?_ _) | (with_reducible refine Kd.C_drew ?_))); (case side2 => exact HC0.out); (case side3 => repeat (first | exact (Kd.C_below HR238_1.out HB.out) | (with_reducible refine Kd.C_alloc ?_ _) | (with_reducible refine Kd.C_drewN ?_ _) | (with_reducible refine Kd.C_drew ?_))); (case side4 => exact HC238_1.out); (case side5 => repeat (first | exact (Kd.C_below HR238_2.out HB.out) | (with_reducible refine Kd.C_alloc ?_ _) | (with_reducible refine Kd.C_drewN ?_ _) | (with_reducible refine Kd.C_drew ?_))); (case side6 => exact HC238_2.out); rintro e w32 ⟨rfl, hb⟩; have n0_ := Aside0.mk (blk_below (g := gb232) (o := .cells #[.string a1_0, .slice A1_1 l1_1.length c1_1, .slice (some ad238) l1_2.length c1_2] 68 (0, 0)) (by (with_reducible repeat (first | refine blk_drewN ?_ _ | refine blk_drew ?_ | refine blk_alloc ?_ _)); exact BK232.out) hb); have n1_ := Aside0.mk (below_step (by repeat (first | (with_reducible first | exact HB.out | apply below_alloc | apply pw_below_drewN | apply below_drew1 | refine below_set ?_ GE232.out) | exact HB.out)) hb); clear BK232; clear HB; have BK232 := n0_; have HB := n1_; clear n0_ n1_; (try clear hb); (try clear hb2); (try clear hk); (try clear hi); have p241 : 0 ≤ (t233 : Int) := of_decide_eq_true (by first | (with_reducible assumption) | assumption); have q241 : t233 < (l0.length : Int) := of_decide_eq_true (by first | (with_reducible assumption) | assumption); obtain ⟨ad241, A241_1, c241_1, e241, hx241_0, hx241_1, hx241_2, hx241_3, hl241_1, hi241_1⟩ := at_T105 HR0.out t233 p241 q241; cases e241; replace hx241_0 := (HB.out.cell (World.block_lt_of_cell? w _ hx241_0)).trans hx241_0; replace hx241_1 := (HB.out.cell (World.block_lt_of_cell? w _ hx241_1)).trans hx241_1; replace hx241_2 := (HB.out.cell (World.block_lt_of_cell? w _ hx241_2)).trans hx241_2; replace hx241_3 := (HB.out.cell (World.block_lt_of_cell? w _ hx241_3)).trans hx241_3; have HR241_1 := Aside0.mk hi241_1; have HC241_1 := Aside0.mk hl241_1; clear hi241_1 hl241_1; replace p241 := eq_true p241; replace q241 := eq_true q241; have p242 : 0 ≤ (x8_3 : Int) := of_decide_eq_true (by first | (with_reducible assumption) | assumption); have q242 : x8_3 < (((rd_T105 l0 t233).f1).length : Int) := of_decide_eq_true (by first | (with_reducible assumption) | assumption); obtain ⟨ad242, e242, hx242_0⟩ := Kd.at_string HR241_1.out x8_3 p242 q242; cases e242; replace hx242_0 := (HB.out.cell (World.block_lt_of_cell? w _ hx242_0)).trans hx242_0; replace p242 := eq_true p242; replace q242 := eq_true q242)))
                                go_ret2
                                exact ⟨by first | rfl | (simp [errW_none, errW_some] <;> rfl) | (simp [*, errW_none, errW_some] <;> rfl), by repeat (first | (with_reducible first | exact HB.out | apply below_alloc | apply pw_below_drewN | apply below_drew1 | refine below_set ?_ GE232.out) | exact HB.out)⟩
                            · rw [if_neg c27] at H
                              exact absurd H (by simp)
                          · rw [if_neg c26] at H
                            exact absurd H (by simp)
                        · rw [if_neg c25] at H
                          exact absurd H (by simp)
                      · replace c24 := Bool.eq_false_iff.mpr c24
                        subst c24
                        have H1 : (some ((⟨#[]⟩ : ByteArray), false)) = some (r1, r2) := by rw [if_neg (show ¬ (false = true) by decide)] at H; exact H
                        clear H
                        have H := H1
                        clear H1
                        simp only [Option.some.injEq, Prod.mk.injEq] at H
                        obtain ⟨rfl, rfl⟩ := H
                        have hcz33_0 : wr.cell? ⟨gb232, 0, none⟩ = some (.string a1_0) := (blk_cell BK232.out 0).trans rfl
                        have hcz33_1 : wr.cell? ⟨gb232, 1, none⟩ = some (.slice A1_1 l1_1.length c1_1) := (blk_cell BK232.out 1).trans rfl
                        have hcz33_2 : wr.cell? ⟨gb232, 2, none⟩ = some (.slice A1_2 l1_2.length c1_2) := (blk_cell BK232.out 2).trans rfl
                        have hfz33_0 := blk_frozen BK232.out 0
                        have hfz33_1 := blk_frozen BK232.out 1
                        have hfz33_2 := blk_frozen BK232.out 2
                        have p238 : 0 ≤ (x8_3 : Int) := of_decide_eq_true (by first | (with_reducible assumption) | assumption)
                        have q238 : x8_3 < (l1_2.length : Int) := of_decide_eq_true (by first | (with_reducible assumption) | assumption)
                        obtain ⟨ad238, A238_1, c238_1, A238_2, c238_2, e238, hx238_0, hx238_1, hx238_2, hl238_1, hi238_1, hl238_2, hi238_2⟩ := at_T68 HR1_2.out x8_3 p238 q238
                        cases e238
                        replace hx238_0 := (HB.out.cell (World.block_lt_of_cell? w _ hx238_0)).trans hx238_0
                        replace hx238_1 := (HB.out.cell (World.block_lt_of_cell? w _ hx238_1)).trans hx238_1
                        replace hx238_2 := (HB.out.cell (World.block_lt_of_cell? w _ hx238_2)).trans hx238_2
                        have HR238_1 := Aside0.mk hi238_1
                        have HC238_1 := Aside0.mk hl238_1
                        clear hi238_1 hl238_1
                        have HR238_2 := Aside0.mk hi238_2
                        have HC238_2 := Aside0.mk hl238_2
                        clear hi238_2 hl238_2
                        replace p238 := eq_true p238
                        replace q238 := eq_true q238
                        go_wp2_with (first | (go_at_call 64; (with_reducible refine (ih k3 (by have := HJ3.out; have := HK2.out; have := HK3.out; omega) _ _ l0 ((rd_T68 l1_2 x8_3).f0) _ _ ((rd_T68 l1_2 x8_3).f1) _ _ ((rd_T68 l1_2 x8_3).f2) t239 false _ ?side1 ?side2 ?side3 ?side4 ?side5 ?side6 A23.out).mono ?_); (case side1 => repeat (first | exact (Kd.C_below HR0.out HB.out) | (with_reducible refine Kd.C_alloc ?_ _) | (with_reducible refine Kd.C_drewN ?_ _) | (with_reducible refine Kd.C_drew ?_))); (case side2 => exact HC0.out); (case side3 => repeat (first | exact (Kd.C_below HR238_1.out HB.out) | (with_reducible refine Kd.C_alloc ?_ _) | (with_reducible refine Kd.C_drewN ?_ _) | (with_reducible refine Kd.C_drew ?_))); (case side4 => exact HC238_1.out); (case side5 => repeat (first | exact (Kd.C_below HR238_2.out HB.out) | (with_reducible refine Kd.C_alloc ?_ _) | (with_reducible refine Kd.C_drewN ?_ _) | (with_reducible refine Kd.C_drew ?_))); (case side6 => exact HC238_2.out); rintro e w34 ⟨rfl, hb⟩; have n0_ := Aside0.mk (blk_below (g := gb232) (o := .cells #[.string a1_0, .slice A1_1 l1_1.length c1_1, .slice (some ad238) l1_2.length c1_2] 68 (0, 0)) (by (with_reducible repeat (first | refine blk_drewN ?_ _ | refine blk_drew ?_ | refine blk_alloc ?_ _)); exact BK232.out) hb); have n1_ := Aside0.mk (below_step (by repeat (first | (with_reducible first | exact HB.out | apply below_alloc | apply pw_below_drewN | apply below_drew1 | refine below_set ?_ GE232.out) | exact HB.out)) hb); clear BK232; clear HB; have BK232 := n0_; have HB := n1_; clear n0_ n1_; (try clear hb); (try clear hb2); (try clear hk); (try clear hi)))
                        repeat (go_quiet (first | (go_at_call 64; (with_reducible refine (ih k3 (by have := HJ3.out; have := HK2.out; have := HK3.out; omega) _ _ l0 ((rd_T68 l1_2 x8_3).f0) _ _ ((rd_T68 l1_2 x8_3).f1) _ _ ((rd_T68 l1_2 x8_3).f2) t239 false _ ?side1 ?side2 ?side3 ?side4 ?side5 ?side6 A23.out).mono ?_); (case side1 => repeat (first | exact (Kd.C_below HR0.out HB.out) | (with_reducible refine Kd.C_alloc ?_ _) | (with_reducible refine Kd.C_drewN ?_ _) | (with_reducible refine Kd.C_drew ?_))); (case side2 => exact HC0.out); (case side3 => repeat (first | exact (Kd.C_below HR238_1.out HB.out) | (with_reducible refine Kd.C_alloc ?_ _) | (with_reducible refine Kd.C_drewN ?_ _) | (with_reducible refine Kd.C_drew ?_))); (case side4 => exact HC238_1.out); (case side5 => repeat (first | exact (Kd.C_below HR238_2.out HB.out) | (with_reducible refine Kd.C_alloc ?_ _) | (with_reducible refine Kd.C_drewN ?_ _) | (with_reducible refine Kd.C_drew ?_))); (case side6 => exact HC238_2.out); rintro e w34 ⟨rfl, hb⟩; have n0_ := Aside0.mk (blk_below (g := gb232) (o := .cells #[.string a1_0, .slice A1_1 l1_1.length c1_1, .slice (some ad238) l1_2.length c1_2] 68 (0, 0)) (by (with_reducible repeat (first | refine blk_drewN ?_ _ | refine blk_drew ?_ | refine blk_alloc ?_ _)); exact BK232.out) hb); have n1_ := Aside0.mk (below_step (by repeat (first | (with_reducible first | exact HB.out | apply below_alloc | apply pw_below_drewN | apply below_drew1 | refine below_set ?_ GE232.out) | exact HB.out)) hb); clear BK232; clear HB; have BK232 := n0_; have HB := n1_; clear n0_ n1_; (try clear hb); (try clear hb2); (try clear hk); (try clear hi))); try go_wp2_with (first | (go_at_call 64; (with_reducible refine (ih k3 (by have := HJ3.out; have := HK2.out; have := HK3.out; omega) _ _ l0 ((rd_T68 l1_2 x8_3).f0) _ _ ((rd_T68 l1_2 x8_3).f1) _ _ ((rd_T68 l1_2 x8_3).f2) t239 false _ ?side1 ?side2 ?side3 ?side4 ?side5 ?side6 A23.out).mono ?_); (case side1 => repeat (first | exact (Kd.C_below HR0.out HB.out) | (with_reducible refine Kd.C_alloc ?_ _) | (with_reducible refine Kd.C_drewN ?_ _) | (with_reducible refine Kd.C_drew ?_))); (case side2 => exact HC0.out); (case side3 => repeat (first | exact (Kd.C_below HR238_1.out HB.out) | (with_reducible refine Kd.C_alloc ?_ _) | (with_reducible refine Kd.C_drewN ?_ _) | (with_reducible refine Kd.C_drew ?_))); (case side4 => exact HC238_1.out); (case side5 => repeat (first | exact (Kd.C_below HR238_2.out HB.out) | (with_reducible refine Kd.C_alloc ?_ _) | (with_reducible refine Kd.C_drewN ?_ _) | (with_reducible refine Kd.C_drew ?_))); (case side6 => exact HC238_2.out); rintro e w34 ⟨rfl, hb⟩; have n0_ := Aside0.mk (blk_below (g := gb232) (o := .cells #[.string a1_0, .slice A1_1 l1_1.length c1_1, .slice (some ad238) l1_2.length c1_2] 68 (0, 0)) (by (with_reducible repeat (first | refine blk_drewN ?_ _ | refine blk_drew ?_ | refine blk_alloc ?_ _)); exact BK232.out) hb); have n1_ := Aside0.mk (below_step (by repeat (first | (with_reducible first | exact HB.out | apply below_alloc | apply pw_below_drewN | apply below_drew1 | refine below_set ?_ GE232.out) | exact HB.out)) hb); clear BK232; clear HB; have BK232 := n0_; have HB := n1_; clear n0_ n1_; (try clear hb); (try clear hb2); (try clear hk); (try clear hi))))
                        go_ret2
                        exact ⟨by first | rfl | (simp [errW_none, errW_some] <;> rfl) | (simp [*, errW_none, errW_some] <;> rfl), by repeat (first | (with_reducible first | exact HB.out | apply below_alloc | apply pw_below_drewN | apply below_drew1 | refine below_set ?_ GE232.out) | exact HB.out)⟩
                    · rw [if_neg c22] at H
                      exact absurd H (by simp)
                  · rw [if_neg c21] at H
                    have c21b0 : decide (x8_3 < (l1_2.length : Int)) = false := decide_eq_false c21
                    clear c21
                    by_cases c35 : 0 ≤ t233
                    · rw [if_pos c35] at H
                      have c35b0 : decide (0 ≤ t233) = true := decide_eq_true c35
                      clear c35
                      by_cases c36 : t233 < (l0.length : Int)
                      · rw [if_pos c36] at H
                        have c36b0 : decide (t233 < (l0.length : Int)) = true := decide_eq_true c36
                        clear c36
                        simp only [Option.some.injEq, Prod.mk.injEq] at H
                        obtain ⟨rfl, rfl⟩ := H
                        have hcz37_0 : wr.cell? ⟨gb232, 0, none⟩ = some (.string a1_0) := (blk_cell BK232.out 0).trans rfl
                        have hcz37_1 : wr.cell? ⟨gb232, 1, none⟩ = some (.slice A1_1 l1_1.length c1_1) := (blk_cell BK232.out 1).trans rfl
                        have hcz37_2 : wr.cell? ⟨gb232, 2, none⟩ = some (.slice A1_2 l1_2.length c1_2) := (blk_cell BK232.out 2).trans rfl
                        have hfz37_0 := blk_frozen BK232.out 0
                        have hfz37_1 := blk_frozen BK232.out 1
                        have hfz37_2 := blk_frozen BK232.out 2
                        have p243 : 0 ≤ (t233 : Int) := of_decide_eq_true (by first | (with_reducible assumption) | assumption)
                        have q243 : t233 < (l0.length : Int) := of_decide_eq_true (by first | (with_reducible assumption) | assumption)
                        obtain ⟨ad243, A243_1, c243_1, e243, hx243_0, hx243_1, hx243_2, hx243_3, hl243_1, hi243_1⟩ := at_T105 HR0.out t233 p243 q243
                        cases e243
                        replace hx243_0 := (HB.out.cell (World.block_lt_of_cell? w _ hx243_0)).trans hx243_0
                        replace hx243_1 := (HB.out.cell (World.block_lt_of_cell? w _ hx243_1)).trans hx243_1
                        replace hx243_2 := (HB.out.cell (World.block_lt_of_cell? w _ hx243_2)).trans hx243_2
                        replace hx243_3 := (HB.out.cell (World.block_lt_of_cell? w _ hx243_3)).trans hx243_3
                        have HR243_1 := Aside0.mk hi243_1
                        have HC243_1 := Aside0.mk hl243_1
                        clear hi243_1 hl243_1
                        replace p243 := eq_true p243
                        replace q243 := eq_true q243
                        go_wp2
                        repeat (go_quiet (fail); try go_wp2)
                        go_ret2
                        exact ⟨by first | rfl | (simp [errW_none, errW_some] <;> rfl) | (simp [*, errW_none, errW_some] <;> rfl), by repeat (first | (with_reducible first | exact HB.out | apply below_alloc | apply pw_below_drewN | apply below_drew1 | refine below_set ?_ GE232.out) | exact HB.out)⟩
                      · rw [if_neg c36] at H
                        exact absurd H (by simp)
                    · rw [if_neg c35] at H
                      exact absurd H (by simp)

/-! ### pentaglotref31_Category: function 62 -/
def pentaglotref31_Category.f (k : Nat) (l0 : List (S105)) (a1_0 : ByteArray) (l1_1 : List Int) (l1_2 : List (S68)) : Option (ByteArray × Int) := (pentaglotref31_Size.f k a1_0 l1_1 l1_2).bind fun t245 => (if t245 > 60 then (some ((⟨#[]⟩ : ByteArray), 2)) else ((pentaglotref31_Well.f k l0 a1_0 l1_1 l1_2).bind fun bt246 => (if bt246.2 = true then (some (bt246.1, 0)) else (some ((⟨#[]⟩ : ByteArray), 6)))))
theorem pentaglotref31_Category.mono : ∀ a0 a1 a2 a3 k, LeO (pentaglotref31_Category.f k a0 a1 a2 a3) (pentaglotref31_Category.f (k + 1) a0 a1 a2 a3) := by
  intro a0 a1 a2 a3 k
  unfold pentaglotref31_Category.f
  repeat' first
      | (with_reducible exact pentaglotref31_Size.mono _ _ _ _)
      | (with_reducible exact pentaglotref31_Well.mono _ _ _ _ _)
      | (with_reducible exact LeO.refl _)
      | (with_reducible exact LeO.none _)
      | (with_reducible refine LeO.ite ?_ ?_)
      | (with_reducible refine LeO.bind ?_ (fun _ => ?_))
      | exact pentaglotref31_Size.mono _ _ _ _
      | exact pentaglotref31_Well.mono _ _ _ _ _
      | exact LeO.none _
      | refine LeO.ite ?_ ?_
      | refine LeO.bind ?_ (fun _ => ?_)
set_option maxHeartbeats 8000000 in
set_option maxRecDepth 100000 in
theorem pentaglotref31_Category.calls (k : Nat) (A0 : Option Addr) (c0 : Nat) (l0 : List (S105)) (a1_0 : ByteArray) (A1_1 : Option Addr) (c1_1 : Nat) (l1_1 : List Int) (A1_2 : Option Addr) (c1_2 : Nat) (l1_2 : List (S68)) (r1 : ByteArray) (r2 : Int) (w : World) (hr0 : Kd.C k105 w A0 l0.length l0) (hc0 : l0.length ≤ c0) (hr1_1 : Kd.C (Kd.int .i64) w A1_1 l1_1.length l1_1) (hc1_1 : l1_1.length ≤ c1_1) (hr1_2 : Kd.C k68 w A1_2 l1_2.length l1_2) (hc1_2 : l1_2.length ≤ c1_2) (h : pentaglotref31_Category.f k l0 a1_0 l1_1 l1_2 = some (r1, r2)) :
    Calls Try.prog 62 #[.slice A0 l0.length c0, .agg #[.string a1_0, .slice A1_1 l1_1.length c1_1, .slice A1_2 l1_2.length c1_2]] w fun e w' => e = .returned (.tuple #[.string r1, .int .i64 r2]) ∧ Below w.heap.size w w' := by
  have hu68 := Try.underlying68
  have HR0 := Aside0.mk hr0
  have HC0 := Aside0.mk hc0
  clear hr0 hc0
  have HR1_1 := Aside0.mk hr1_1
  have HC1_1 := Aside0.mk hc1_1
  clear hr1_1 hc1_1
  have HR1_2 := Aside0.mk hr1_2
  have HC1_2 := Aside0.mk hc1_2
  clear hr1_2 hc1_2
  have HB := Aside0.mk (Below.refl w.heap.size w)
  have H : ((pentaglotref31_Size.f k a1_0 l1_1 l1_2).bind fun t245 => (if t245 > 60 then (some ((⟨#[]⟩ : ByteArray), 2)) else ((pentaglotref31_Well.f k l0 a1_0 l1_1 l1_2).bind fun bt246 => (if bt246.2 = true then (some (bt246.1, 0)) else (some ((⟨#[]⟩ : ByteArray), 6)))))) = some (r1, r2) := h
  clear h
  replace H := Option.bind_eq_some_iff.mp H
  obtain ⟨t245, A30, H⟩ := H
  replace H : (if t245 > 60 then (some ((⟨#[]⟩ : ByteArray), 2)) else ((pentaglotref31_Well.f k l0 a1_0 l1_1 l1_2).bind fun bt246 => (if bt246.2 = true then (some (bt246.1, 0)) else (some ((⟨#[]⟩ : ByteArray), 6))))) = some (r1, r2) := H
  have A3 := Aside0.mk A30
  clear A30
  by_cases c4 : t245 > 60
  · rw [if_pos c4] at H
    have c4b0 : decide (60 < t245) = true := decide_eq_true c4
    clear c4
    simp only [Option.some.injEq, Prod.mk.injEq] at H
    obtain ⟨rfl, rfl⟩ := H
    go_enter Try.func62, Try.ntmps62
    go_wp2_with (first | ((with_reducible refine gate_dst (N := 3) rfl ?_); refine box_event ?hg (N := 3) ?hd (cs := #[.string a1_0, .slice A1_1 l1_1.length c1_1, .slice A1_2 l1_2.length c1_2]) (t := 68) ?hr ?_; (case hd => rfl); (case hg => rfl); (case hr => first | (go_simp; done) | (go_simp; rfl)); intro gb244 hg w5 hbox hb; have n0_ := Aside0.mk (below_step (by repeat (first | (with_reducible first | exact HB.out | apply below_alloc | apply pw_below_drewN | apply below_drew1) | exact HB.out)) hb); have n1_ := Aside0.mk (hbox); have n2_ := Aside0.mk ((by rw [hg]; exact (below_size (by repeat (first | (with_reducible first | exact HB.out | apply below_alloc | apply pw_below_drewN | apply below_drew1) | exact HB.out))) : w.heap.size ≤ gb244)); have n3_ := Aside0.mk ((by rw [hg]; exact (below_size (by repeat (first | (with_reducible first | exact HB.out | apply below_alloc | apply pw_below_drewN | apply below_drew1) | exact HB.out))) : w.heap.size ≤ gb244)); clear HB; have HB := n0_; have BK244 := n1_; have GW244 := n2_; have GE244 := n3_; clear n0_ n1_ n2_ n3_; clear hb hbox hg; have hcz6_0 : w5.cell? ⟨gb244, 0, none⟩ = some (.string a1_0) := (blk_cell BK244.out 0).trans rfl; have hcz6_1 : w5.cell? ⟨gb244, 1, none⟩ = some (.slice A1_1 l1_1.length c1_1) := (blk_cell BK244.out 1).trans rfl; have hcz6_2 : w5.cell? ⟨gb244, 2, none⟩ = some (.slice A1_2 l1_2.length c1_2) := (blk_cell BK244.out 2).trans rfl; have hfz6_0 := blk_frozen BK244.out 0; have hfz6_1 := blk_frozen BK244.out 1; have hfz6_2 := blk_frozen BK244.out 2) | ((with_reducible refine gate_callee (f := 63) rfl ?_); refine goesL_ (some 9) rfl rfl Try.func63 (by kernel_rfl) rfl #[.agg #[.string a1_0, .slice A1_1 l1_1.length c1_1, .slice A1_2 l1_2.length c1_2]] rfl (by (try simp only [List.map_toArray, List.map_cons, List.map_nil]); first | done | rfl | (simp only [List.length_drop, List.length_take]; rfl)) ?_; (with_reducible refine (pentaglotref31_Size.calls k a1_0 _ _ l1_1 _ _ l1_2 t245 _ ?side1 ?side2 ?side3 ?side4 A3.out).mono ?_); (case side1 => repeat (first | exact (Kd.C_below HR1_1.out HB.out) | (with_reducible refine Kd.C_alloc ?_ _) | (with_reducible refine Kd.C_drewN ?_ _) | (with_reducible refine Kd.C_drew ?_))); (case side2 => exact HC1_1.out); (case side3 => repeat (first | exact (Kd.C_below HR1_2.out HB.out) | (with_reducible refine Kd.C_alloc ?_ _) | (with_reducible refine Kd.C_drewN ?_ _) | (with_reducible refine Kd.C_drew ?_))); (case side4 => exact HC1_2.out); rintro e w7 ⟨rfl, hb⟩; refine ⟨_, rfl, ?_⟩; have n0_ := Aside0.mk (blk_below (g := gb244) (o := .cells #[.string a1_0, .slice A1_1 l1_1.length c1_1, .slice A1_2 l1_2.length c1_2] 68 (0, 0)) (by (with_reducible repeat (first | refine blk_drewN ?_ _ | refine blk_drew ?_ | refine blk_alloc ?_ _)); exact BK244.out) hb); have n1_ := Aside0.mk (below_step (by repeat (first | (with_reducible first | exact HB.out | apply below_alloc | apply pw_below_drewN | apply below_drew1 | refine below_set ?_ GE244.out) | exact HB.out)) hb); clear BK244; clear HB; have BK244 := n0_; have HB := n1_; clear n0_ n1_; (try clear hb); (try clear hb2); (try clear hk); (try clear hi)))
    go_ret2
    exact ⟨by first | rfl | (simp [errW_none, errW_some] <;> rfl) | (simp [*, errW_none, errW_some] <;> rfl), by repeat (first | (with_reducible first | exact HB.out | apply below_alloc | apply pw_below_drewN | apply below_drew1 | refine below_set ?_ GE244.out) | exact HB.out)⟩
  · rw [if_neg c4] at H
    have c4b0 : decide (60 < t245) = false := decide_eq_false c4
    clear c4
    replace H := Option.bind_eq_some_iff.mp H
    obtain ⟨⟨t246, t247⟩, A80, H⟩ := H
    replace H : (if t247 = true then (some (t246, 0)) else (some ((⟨#[]⟩ : ByteArray), 6))) = some (r1, r2) := H
    have A8 := Aside0.mk A80
    clear A80
    by_cases c9 : t247 = true
    · subst c9
      have H1 : (some (t246, 0)) = some (r1, r2) := by rw [if_pos rfl] at H; exact H
      clear H
      have H := H1
      clear H1
      simp only [Option.some.injEq, Prod.mk.injEq] at H
      obtain ⟨rfl, rfl⟩ := H
      go_enter Try.func62, Try.ntmps62
      go_wp2_with (first | ((with_reducible refine gate_dst (N := 3) rfl ?_); refine box_event ?hg (N := 3) ?hd (cs := #[.string a1_0, .slice A1_1 l1_1.length c1_1, .slice A1_2 l1_2.length c1_2]) (t := 68) ?hr ?_; (case hd => rfl); (case hg => rfl); (case hr => first | (go_simp; done) | (go_simp; rfl)); intro gb244 hg w10 hbox hb; have n0_ := Aside0.mk (below_step (by repeat (first | (with_reducible first | exact HB.out | apply below_alloc | apply pw_below_drewN | apply below_drew1) | exact HB.out)) hb); have n1_ := Aside0.mk (hbox); have n2_ := Aside0.mk ((by rw [hg]; exact (below_size (by repeat (first | (with_reducible first | exact HB.out | apply below_alloc | apply pw_below_drewN | apply below_drew1) | exact HB.out))) : w.heap.size ≤ gb244)); have n3_ := Aside0.mk ((by rw [hg]; exact (below_size (by repeat (first | (with_reducible first | exact HB.out | apply below_alloc | apply pw_below_drewN | apply below_drew1) | exact HB.out))) : w.heap.size ≤ gb244)); clear HB; have HB := n0_; have BK244 := n1_; have GW244 := n2_; have GE244 := n3_; clear n0_ n1_ n2_ n3_; clear hb hbox hg; have hcz11_0 : w10.cell? ⟨gb244, 0, none⟩ = some (.string a1_0) := (blk_cell BK244.out 0).trans rfl; have hcz11_1 : w10.cell? ⟨gb244, 1, none⟩ = some (.slice A1_1 l1_1.length c1_1) := (blk_cell BK244.out 1).trans rfl; have hcz11_2 : w10.cell? ⟨gb244, 2, none⟩ = some (.slice A1_2 l1_2.length c1_2) := (blk_cell BK244.out 2).trans rfl; have hfz11_0 := blk_frozen BK244.out 0; have hfz11_1 := blk_frozen BK244.out 1; have hfz11_2 := blk_frozen BK244.out 2) | ((with_reducible refine gate_callee (f := 63) rfl ?_); refine goesL_ (some 9) rfl rfl Try.func63 (by kernel_rfl) rfl #[.agg #[.string a1_0, .slice A1_1 l1_1.length c1_1, .slice A1_2 l1_2.length c1_2]] rfl (by (try simp only [List.map_toArray, List.map_cons, List.map_nil]); first | done | rfl | (simp only [List.length_drop, List.length_take]; rfl)) ?_; (with_reducible refine (pentaglotref31_Size.calls k a1_0 _ _ l1_1 _ _ l1_2 t245 _ ?side1 ?side2 ?side3 ?side4 A3.out).mono ?_); (case side1 => repeat (first | exact (Kd.C_below HR1_1.out HB.out) | (with_reducible refine Kd.C_alloc ?_ _) | (with_reducible refine Kd.C_drewN ?_ _) | (with_reducible refine Kd.C_drew ?_))); (case side2 => exact HC1_1.out); (case side3 => repeat (first | exact (Kd.C_below HR1_2.out HB.out) | (with_reducible refine Kd.C_alloc ?_ _) | (with_reducible refine Kd.C_drewN ?_ _) | (with_reducible refine Kd.C_drew ?_))); (case side4 => exact HC1_2.out); rintro e w12 ⟨rfl, hb⟩; refine ⟨_, rfl, ?_⟩; have n0_ := Aside0.mk (blk_below (g := gb244) (o := .cells #[.string a1_0, .slice A1_1 l1_1.length c1_1, .slice A1_2 l1_2.length c1_2] 68 (0, 0)) (by (with_reducible repeat (first | refine blk_drewN ?_ _ | refine blk_drew ?_ | refine blk_alloc ?_ _)); exact BK244.out) hb); have n1_ := Aside0.mk (below_step (by repeat (first | (with_reducible first | exact HB.out | apply below_alloc | apply pw_below_drewN | apply below_drew1 | refine below_set ?_ GE244.out) | exact HB.out)) hb); clear BK244; clear HB; have BK244 := n0_; have HB := n1_; clear n0_ n1_; (try clear hb); (try clear hb2); (try clear hk); (try clear hi); have hcz13_0 : w12.cell? ⟨gb244, 0, none⟩ = some (.string a1_0) := (blk_cell BK244.out 0).trans rfl; have hcz13_1 : w12.cell? ⟨gb244, 1, none⟩ = some (.slice A1_1 l1_1.length c1_1) := (blk_cell BK244.out 1).trans rfl; have hcz13_2 : w12.cell? ⟨gb244, 2, none⟩ = some (.slice A1_2 l1_2.length c1_2) := (blk_cell BK244.out 2).trans rfl; have hfz13_0 := blk_frozen BK244.out 0; have hfz13_1 := blk_frozen BK244.out 1; have hfz13_2 := blk_frozen BK244.out 2) | ((with_reducible refine gate_callee (f := 64) rfl ?_); refine goesL_ (some 14) rfl rfl Try.func64 (by kernel_rfl) rfl #[.slice A0 l0.length c0, .agg #[.string a1_0, .slice A1_1 l1_1.length c1_1, .slice A1_2 l1_2.length c1_2]] rfl (by (try simp only [List.map_toArray, List.map_cons, List.map_nil]); first | done | rfl | (simp only [List.length_drop, List.length_take]; rfl)) ?_; (with_reducible refine (pentaglotref31_Well.calls k _ _ l0 a1_0 _ _ l1_1 _ _ l1_2 t246 true _ ?side1 ?side2 ?side3 ?side4 ?side5 ?side6 A8.out).mono ?_); (case side1 => repeat (first | exact (Kd.C_below HR0.out HB.out) | (with_reducible refine Kd.C_alloc ?_ _) | (with_reducible refine Kd.C_drewN ?_ _) | (with_reducible refine Kd.C_drew ?_))); (case side2 => exact HC0.out); (case side3 => repeat (first | exact (Kd.C_below HR1_1.out HB.out) | (with_reducible refine Kd.C_alloc ?_ _) | (with_reducible refine Kd.C_drewN ?_ _) | (with_reducible refine Kd.C_drew ?_))); (case side4 => exact HC1_1.out); (case side5 => repeat (first | exact (Kd.C_below HR1_2.out HB.out) | (with_reducible refine Kd.C_alloc ?_ _) | (with_reducible refine Kd.C_drewN ?_ _) | (with_reducible refine Kd.C_drew ?_))); (case side6 => exact HC1_2.out); rintro e w14 ⟨rfl, hb⟩; refine ⟨_, rfl, ?_⟩; have n0_ := Aside0.mk (blk_below (g := gb244) (o := .cells #[.string a1_0, .slice A1_1 l1_1.length c1_1, .slice A1_2 l1_2.length c1_2] 68 (0, 0)) (by (with_reducible repeat (first | refine blk_drewN ?_ _ | refine blk_drew ?_ | refine blk_alloc ?_ _)); exact BK244.out) hb); have n1_ := Aside0.mk (below_step (by repeat (first | (with_reducible first | exact HB.out | apply below_alloc | apply pw_below_drewN | apply below_drew1 | refine below_set ?_ GE244.out) | exact HB.out)) hb); clear BK244; clear HB; have BK244 := n0_; have HB := n1_; clear n0_ n1_; (try clear hb); (try clear hb2); (try clear hk); (try clear hi)))
      go_ret2
      exact ⟨by first | rfl | (simp [errW_none, errW_some] <;> rfl) | (simp [*, errW_none, errW_some] <;> rfl), by repeat (first | (with_reducible first | exact HB.out | apply below_alloc | apply pw_below_drewN | apply below_drew1 | refine below_set ?_ GE244.out) | exact HB.out)⟩
    · replace c9 := Bool.eq_false_iff.mpr c9
      subst c9
      have H1 : (some ((⟨#[]⟩ : ByteArray), 6)) = some (r1, r2) := by rw [if_neg (show ¬ (false = true) by decide)] at H; exact H
      clear H
      have H := H1
      clear H1
      simp only [Option.some.injEq, Prod.mk.injEq] at H
      obtain ⟨rfl, rfl⟩ := H
      go_enter Try.func62, Try.ntmps62
      go_wp2_with (first | ((with_reducible refine gate_dst (N := 3) rfl ?_); refine box_event ?hg (N := 3) ?hd (cs := #[.string a1_0, .slice A1_1 l1_1.length c1_1, .slice A1_2 l1_2.length c1_2]) (t := 68) ?hr ?_; (case hd => rfl); (case hg => rfl); (case hr => first | (go_simp; done) | (go_simp; rfl)); intro gb244 hg w15 hbox hb; have n0_ := Aside0.mk (below_step (by repeat (first | (with_reducible first | exact HB.out | apply below_alloc | apply pw_below_drewN | apply below_drew1) | exact HB.out)) hb); have n1_ := Aside0.mk (hbox); have n2_ := Aside0.mk ((by rw [hg]; exact (below_size (by repeat (first | (with_reducible first | exact HB.out | apply below_alloc | apply pw_below_drewN | apply below_drew1) | exact HB.out))) : w.heap.size ≤ gb244)); have n3_ := Aside0.mk ((by rw [hg]; exact (below_size (by repeat (first | (with_reducible first | exact HB.out | apply below_alloc | apply pw_below_drewN | apply below_drew1) | exact HB.out))) : w.heap.size ≤ gb244)); clear HB; have HB := n0_; have BK244 := n1_; have GW244 := n2_; have GE244 := n3_; clear n0_ n1_ n2_ n3_; clear hb hbox hg; have hcz16_0 : w15.cell? ⟨gb244, 0, none⟩ = some (.string a1_0) := (blk_cell BK244.out 0).trans rfl; have hcz16_1 : w15.cell? ⟨gb244, 1, none⟩ = some (.slice A1_1 l1_1.length c1_1) := (blk_cell BK244.out 1).trans rfl; have hcz16_2 : w15.cell? ⟨gb244, 2, none⟩ = some (.slice A1_2 l1_2.length c1_2) := (blk_cell BK244.out 2).trans rfl; have hfz16_0 := blk_frozen BK244.out 0; have hfz16_1 := blk_frozen BK244.out 1; have hfz16_2 := blk_frozen BK244.out 2) | ((with_reducible refine gate_callee (f := 63) rfl ?_); refine goesL_ (some 9) rfl rfl Try.func63 (by kernel_rfl) rfl #[.agg #[.string a1_0, .slice A1_1 l1_1.length c1_1, .slice A1_2 l1_2.length c1_2]] rfl (by (try simp only [List.map_toArray, List.map_cons, List.map_nil]); first | done | rfl | (simp only [List.length_drop, List.length_take]; rfl)) ?_; (with_reducible refine (pentaglotref31_Size.calls k a1_0 _ _ l1_1 _ _ l1_2 t245 _ ?side1 ?side2 ?side3 ?side4 A3.out).mono ?_); (case side1 => repeat (first | exact (Kd.C_below HR1_1.out HB.out) | (with_reducible refine Kd.C_alloc ?_ _) | (with_reducible refine Kd.C_drewN ?_ _) | (with_reducible refine Kd.C_drew ?_))); (case side2 => exact HC1_1.out); (case side3 => repeat (first | exact (Kd.C_below HR1_2.out HB.out) | (with_reducible refine Kd.C_alloc ?_ _) | (with_reducible refine Kd.C_drewN ?_ _) | (with_reducible refine Kd.C_drew ?_))); (case side4 => exact HC1_2.out); rintro e w17 ⟨rfl, hb⟩; refine ⟨_, rfl, ?_⟩; have n0_ := Aside0.mk (blk_below (g := gb244) (o := .cells #[.string a1_0, .slice A1_1 l1_1.length c1_1, .slice A1_2 l1_2.length c1_2] 68 (0, 0)) (by (with_reducible repeat (first | refine blk_drewN ?_ _ | refine blk_drew ?_ | refine blk_alloc ?_ _)); exact BK244.out) hb); have n1_ := Aside0.mk (below_step (by repeat (first | (with_reducible first | exact HB.out | apply below_alloc | apply pw_below_drewN | apply below_drew1 | refine below_set ?_ GE244.out) | exact HB.out)) hb); clear BK244; clear HB; have BK244 := n0_; have HB := n1_; clear n0_ n1_; (try clear hb); (try clear hb2); (try clear hk); (try clear hi); have hcz18_0 : w17.cell? ⟨gb244, 0, none⟩ = some (.string a1_0) := (blk_cell BK244.out 0).trans rfl; have hcz18_1 : w17.cell? ⟨gb244, 1, none⟩ = some (.slice A1_1 l1_1.length c1_1) := (blk_cell BK244.out 1).trans rfl; have hcz18_2 : w17.cell? ⟨gb244, 2, none⟩ = some (.slice A1_2 l1_2.length c1_2) := (blk_cell BK244.out 2).trans rfl; have hfz18_0 := blk_frozen BK244.out 0; have hfz18_1 := blk_frozen BK244.out 1; have hfz18_2 := blk_frozen BK244.out 2) | ((with_reducible refine gate_callee (f := 64) rfl ?_); refine goesL_ (some 14) rfl rfl Try.func64 (by kernel_rfl) rfl #[.slice A0 l0.length c0, .agg #[.string a1_0, .slice A1_1 l1_1.length c1_1, .slice A1_2 l1_2.length c1_2]] rfl (by (try simp only [List.map_toArray, List.map_cons, List.map_nil]); first | done | rfl | (simp only [List.length_drop, List.length_take]; rfl)) ?_; (with_reducible refine (pentaglotref31_Well.calls k _ _ l0 a1_0 _ _ l1_1 _ _ l1_2 t246 false _ ?side1 ?side2 ?side3 ?side4 ?side5 ?side6 A8.out).mono ?_); (case side1 => repeat (first | exact (Kd.C_below HR0.out HB.out) | (with_reducible refine Kd.C_alloc ?_ _) | (with_reducible refine Kd.C_drewN ?_ _) | (with_reducible refine Kd.C_drew ?_))); (case side2 => exact HC0.out); (case side3 => repeat (first | exact (Kd.C_below HR1_1.out HB.out) | (with_reducible refine Kd.C_alloc ?_ _) | (with_reducible refine Kd.C_drewN ?_ _) | (with_reducible refine Kd.C_drew ?_))); (case side4 => exact HC1_1.out); (case side5 => repeat (first | exact (Kd.C_below HR1_2.out HB.out) | (with_reducible refine Kd.C_alloc ?_ _) | (with_reducible refine Kd.C_drewN ?_ _) | (with_reducible refine Kd.C_drew ?_))); (case side6 => exact HC1_2.out); rintro e w19 ⟨rfl, hb⟩; refine ⟨_, rfl, ?_⟩; have n0_ := Aside0.mk (blk_below (g := gb244) (o := .cells #[.string a1_0, .slice A1_1 l1_1.length c1_1, .slice A1_2 l1_2.length c1_2] 68 (0, 0)) (by (with_reducible repeat (first | refine blk_drewN ?_ _ | refine blk_drew ?_ | refine blk_alloc ?_ _)); exact BK244.out) hb); have n1_ := Aside0.mk (below_step (by repeat (first | (with_reducible first | exact HB.out | apply below_alloc | apply pw_below_drewN | apply below_drew1 | refine below_set ?_ GE244.out) | exact HB.out)) hb); clear BK244; clear HB; have BK244 := n0_; have HB := n1_; clear n0_ n1_; (try clear hb); (try clear hb2); (try clear hk); (try clear hi)))
      go_ret2
      exact ⟨by first | rfl | (simp [errW_none, errW_some] <;> rfl) | (simp [*, errW_none, errW_some] <;> rfl), by repeat (first | (with_reducible first | exact HB.out | apply below_alloc | apply pw_below_drewN | apply below_drew1 | refine below_set ?_ GE244.out) | exact HB.out)⟩

end Go.Proofs.Ytkblcdpmdbofgaa.A
/- The reference's Category over the lexicon: the same as the program's. -/
namespace Go.Proofs.Ytkblcdpmdbofgaa.A
open Go.RowKit Go.Proofs.YtkblcdpmdbofgaaW.PrintWords Go.Proofs.YtkblcdpmdbofgaaW.PrintLast Go.Proofs.YtkblcdpmdbofgaaW.PrintMore
set_option linter.unusedVariables false
set_option linter.unusedSimpArgs false

mutual
theorem rsize_ev : ∀ t : S68, bulk t ≤ 2000000 → Ev (fun k => pentaglotref31_Size.f k t.f0 t.f1 t.f2) (nodes t : Int)
  | ⟨n, vs, ks⟩, hb => by
    have h := rsizeL_ev ks [] 1 n vs (by simp [bulkL]) (by simp only [bulk] at hb; simp only [bulkL]; omega)
    simp only [nodes]
    refine Ev.step (fun k => rfl) ?_
    simp only [List.nil_append, List.length_nil] at h
    have e : ((nodesL ks + 1 : Nat) : Int) = 1 + (nodesL ks : Int) := by omega
    rw [e]
    exact h
theorem rsizeL_ev : ∀ (ks pre : List S68) (s : Int) (n : ByteArray) (vs : List Int), 0 ≤ s ∧ s ≤ 1 + (bulkL pre : Int) → bulkL pre + bulkL ks ≤ 2000000 → Ev (fun k => pentaglotref31_Size.l0 k s (pre.length : Int) n vs (pre ++ ks)) (s + (nodesL ks : Int))
  | [], pre, s, n, vs, hs, hb => by
    refine Ev.step (f := fun _ => some s) (fun k => ?_) ?_
    · rw [pentaglotref31_Size.l0, if_neg (by simp)]
    · simp only [nodesL]
      have : s + ((0 : Nat) : Int) = s := by omega
      rw [this]
      exact Ev.now s
  | t :: r, pre, s, n, vs, hs, hb => by
    have hlp := length_bulk pre
    have hlr := length_bulk r
    simp only [bulkL] at hb
    have ht := rsize_ev t (by omega)
    have hn := nodes_le t
    have hsn := bulkL_snoc pre t
    have hr := rsizeL_ev r (pre ++ [t]) (s + (nodes t : Int)) n vs ⟨by omega, by omega⟩ (by omega)
    refine Ev.step (f := fun k => (pentaglotref31_Size.f k t.f0 t.f1 t.f2).bind fun t110 => (pentaglotref31_Size.l0 k (wrap64 (s + t110)) (wrap64 ((pre.length : Int) + 1)) n vs (pre ++ t :: r))) (fun k => ?_) ?_
    · rw [pentaglotref31_Size.l0, if_pos (by simp; omega), if_pos (by omega), rd68_cons]
    · refine Ev.bind ht ?_
      rw [wrap_small (by omega) (by omega), wrap_small (by omega) (by omega)]
      have e1 : pre ++ [t] ++ r = pre ++ t :: r := by simp
      have e2 : ((pre ++ [t]).length : Int) = (pre.length : Int) + 1 := by simp
      rw [e1, e2] at hr
      simp only [nodesL]
      have e3 : s + ((nodes t + nodesL r : Nat) : Int) = s + (nodes t : Int) + (nodesL r : Int) := by omega
      rw [e3]
      exact hr
end

theorem ridxL_ev (n : ByteArray) : ∀ (post pre : List S105), pre.length + post.length ≤ 2000000 →
    Ev (fun k => pentaglotref31_Index.l0 k (pre ++ post) n (pre.length : Int)) ((pre.length + idx post n : Nat) : Int)
  | [], pre, hl => by
    refine Ev.step (f := fun _ => some ((pre ++ []).length : Int)) (fun k => ?_) ?_
    · rw [pentaglotref31_Index.l0, if_neg (by simp)]
    · simp only [List.append_nil, idx, List.findIdx_nil, Nat.add_zero]
      exact Ev.now _
  | f :: r, pre, hl => by
    by_cases h : f.f0.toList = n.toList
    · refine Ev.step (f := fun _ => some (pre.length : Int)) (fun k => ?_) ?_
      · rw [pentaglotref31_Index.l0, if_pos (by simp; omega), if_pos (by omega), rd105_cons, if_pos h]
      · have : idx (f :: r) n = 0 := by simp [idx, List.findIdx_cons, h]
        rw [this]
        exact Ev.now _
    · have hr := ridxL_ev n r (pre ++ [f]) (by simp at hl ⊢; omega)
      have e1 : pre ++ [f] ++ r = pre ++ f :: r := by simp
      have e2 : ((pre ++ [f]).length : Int) = (pre.length : Int) + 1 := by simp
      rw [e1, e2] at hr
      have e3 : (((pre ++ [f]).length + idx r n : Nat) : Int) = ((pre.length + idx (f :: r) n : Nat) : Int) := by
        have : idx (f :: r) n = idx r n + 1 := by simp [idx, List.findIdx_cons, h]
        rw [this]; simp; omega
      rw [e3] at hr
      refine Ev.step (fun k => ?_) hr
      simp only [List.length_cons] at hl
      rw [pentaglotref31_Index.l0, if_pos (by simp; omega), if_pos (by omega), rd105_cons, if_neg h, wrap_small (by omega) (by omega)]
theorem ridx_ev (l : List S105) (n : ByteArray) (hl : l.length ≤ 2000000) : Ev (fun k => pentaglotref31_Index.f k l n) (idx l n : Int) := by
  have h := ridxL_ev n l [] (by simpa using hl)
  simpa [pentaglotref31_Index.f] using h
theorem rvalue_f (v : Int) : pentaglotref31_Value.f v = some (isVal v) := by
  unfold pentaglotref31_Value.f isVal
  by_cases h : v ≥ 0
  · rw [if_pos h]; congr 1; by_cases h2 : v ≤ 1439999999 <;> simp [h2]; omega
  · rw [if_neg h]; congr 1; symm; rw [decide_eq_false_iff_not]; omega
theorem rvals_ev {R : ByteArray × Bool} (x0 : List S105) (x6 : Int) (n : ByteArray) (vs0 : List Int) (ks : List S68) (hR : Ev (fun k => pentaglotref31_Well.l1 k x0 x6 0 n vs0 ks) R) :
    ∀ (post pre : List Int), vs0 = pre ++ post → pre.length + post.length ≤ 2000000 → Ev (fun k => pentaglotref31_Well.l0 k x0 x6 (pre.length : Int) n vs0 ks) (if post.all isVal = true then R else (⟨#[]⟩, false))
  | [], pre, he, hl => by
    rw [if_pos (by simp)]
    refine Ev.step (fun k => ?_) hR
    rw [pentaglotref31_Well.l0, if_neg (by rw [he]; simp)]
  | v :: r, pre, he, hl => by
    simp only [List.length_cons] at hl
    have hr := rvals_ev x0 x6 n vs0 ks hR r (pre ++ [v]) (by rw [he]; simp) (by simp; omega)
    have e2 : ((pre ++ [v]).length : Int) = (pre.length : Int) + 1 := by simp
    rw [e2] at hr
    refine Ev.step (f := fun k => if isVal v = true then (pentaglotref31_Well.l0 k x0 x6 ((pre.length : Int) + 1) n vs0 ks) else (some ((⟨#[]⟩ : ByteArray), false))) (fun k => ?_) ?_
    · have e3 : rd vs0 (pre.length : Int) = v := by rw [he]; exact rd_cons _ _ _
      have e4 : (pre.length : Int) < (vs0.length : Int) := by rw [he]; simp; omega
      rw [pentaglotref31_Well.l0, if_pos e4, if_pos (by omega), e3, rvalue_f, Option.bind_some, wrap_small (by omega) (by omega)]
    · by_cases h : isVal v = true
      · simp only [h, if_true, List.all_cons, Bool.true_and]
        exact hr
      · rw [if_neg (by simp [h])]
        refine Ev.congr (fun k => if_neg h) (Ev.now _)

mutual
theorem rwell_ev : ∀ t : S68, bulk t ≤ 2000000 → Ev (fun k => pentaglotref31_Well.f k lexicon t.f0 t.f1 t.f2) (fres (formedS t))
  | ⟨n, vs, ks⟩, hb => by
    simp only [bulk] at hb
    have hlk := length_bulk ks
    have hlex : lexicon.length = 61 := by decide +kernel
    have hi := ridx_ev lexicon n (by omega)
    have hle : idx lexicon n ≤ lexicon.length := List.findIdx_le_length
    show Ev (fun k => pentaglotref31_Well.f k lexicon n vs ks) _
    refine Ev.step (fun k => by rw [pentaglotref31_Well.f]) ?_
    refine Ev.bind hi ?_
    by_cases h0 : idx lexicon n < lexicon.length
    · by_cases h1 : ks.length = (rd_T105 lexicon (idx lexicon n)).f1.length
      · have hL := rwellL_ev ks [] (rd_T105 lexicon (idx lexicon n)).f1 [] (idx lexicon n) n vs (by simp only [bulkL]; omega) rfl rfl h1 h0
        simp only [List.nil_append, List.length_nil] at hL
        have hV := rvals_ev lexicon (idx lexicon n) n vs ks hL vs [] rfl (by simp; omega)
        simp only [List.length_nil] at hV
        refine Ev.congr (fun k => by rw [if_neg (by omega), if_pos (by omega), if_pos (by omega), if_pos (by omega)]) ?_
        refine Ev.step (fun k => by rw [pentaglotref31_Well.j0]) ?_
        by_cases h2 : (vs.length : Int) = (rd_T105 lexicon (idx lexicon n)).f3
        · refine Ev.congr (fun k => by rw [if_neg (by rw [bne_iff_ne]; exact fun h => h h2)]) ?_
          have e : fres (formedS ⟨n, vs, ks⟩) = (if vs.all isVal = true then (if formedL ks (rd_T105 lexicon (idx lexicon n)).f1 = true then ((rd_T105 lexicon (idx lexicon n)).f2, true) else (⟨#[]⟩, false)) else (⟨#[]⟩, false)) := by
            rw [formedS]
            by_cases h3 : vs.all isVal = true <;> by_cases h4 : formedL ks (rd_T105 lexicon (idx lexicon n)).f1 = true
            · rw [if_pos ⟨h0, h1, h2, h3, h4⟩, if_pos h3, if_pos h4]; rfl
            · rw [if_neg (fun h => h4 h.2.2.2.2), if_pos h3, if_neg h4]; rfl
            · rw [if_neg (fun h => h3 h.2.2.2.1), if_neg h3]; rfl
            · rw [if_neg (fun h => h3 h.2.2.2.1), if_neg h3]; rfl
          rw [e]
          exact hV
        · refine Ev.congr (fun k => by rw [if_pos (by rw [bne_iff_ne]; exact h2)]) ?_
          rw [formedS, if_neg (fun h => h2 h.2.2.1)]
          exact Ev.now _
      · refine Ev.congr (fun k => by rw [if_neg (by omega), if_pos (by omega), if_pos (by omega), if_neg (by omega)]) ?_
        refine Ev.step (fun k => by rw [pentaglotref31_Well.j0, if_pos rfl]) ?_
        rw [formedS, if_neg (fun h => h1 h.2.1)]
        exact Ev.now _
    · have h1 : idx lexicon n = lexicon.length := by omega
      refine Ev.congr (fun k => by rw [if_pos (by omega)]) ?_
      refine Ev.step (fun k => by rw [pentaglotref31_Well.j0, if_pos rfl]) ?_
      rw [formedS, if_neg (fun h => h0 h.1)]
      exact Ev.now _
theorem rwellL_ev : ∀ (ks pre : List S68) (bs ap : List ByteArray) (i : Nat) (n : ByteArray) (vs : List Int), bulkL pre + bulkL ks ≤ 2000000 → pre.length = ap.length → (rd_T105 lexicon (i : Int)).f1 = ap ++ bs → ks.length = bs.length → i < lexicon.length →
    Ev (fun k => pentaglotref31_Well.l1 k lexicon (i : Int) (pre.length : Int) n vs (pre ++ ks)) (if formedL ks bs = true then ((rd_T105 lexicon (i : Int)).f2, true) else (⟨#[]⟩, false))
  | [], pre, bs, ap, i, n, vs, hb, hp, ha, hl, hi => by
    rw [formedL, if_pos rfl]
    refine Ev.step (f := fun _ => some ((rd_T105 lexicon (i : Int)).f2, true)) (fun k => ?_) (Ev.now _)
    rw [pentaglotref31_Well.l1, if_neg (by simp), if_pos (by omega), if_pos (by omega)]
  | t :: r, pre, [], ap, i, n, vs, hb, hp, ha, hl, hi => by simp at hl
  | t :: r, pre, a :: bs, ap, i, n, vs, hb, hp, ha, hl, hi => by
    have hlp := length_bulk pre
    have hlr := length_bulk r
    simp only [bulkL] at hb
    have ht := rwell_ev t (by omega)
    have hsn := bulkL_snoc pre t
    have hr := rwellL_ev r (pre ++ [t]) bs (ap ++ [a]) i n vs (by omega) (by simp; omega) (by rw [ha]; simp) (by simpa using hl) hi
    have e1 : pre ++ [t] ++ r = pre ++ t :: r := by simp
    have e2 : ((pre ++ [t]).length : Int) = (pre.length : Int) + 1 := by simp
    rw [e1, e2] at hr
    have ea : rdOf ByteArray.empty (rd_T105 lexicon (i : Int)).f1 (pre.length : Int) = a := by rw [ha, hp]; exact rdOf_cons _ _ _ _
    have el : (pre.length : Int) < ((rd_T105 lexicon (i : Int)).f1.length : Int) := by rw [ha, hp]; simp; omega
    refine Ev.step (fun k => by rw [pentaglotref31_Well.l1, if_pos (by simp; omega), if_pos (by omega), rd68_cons]) ?_
    rw [formedL]
    cases hf : formedS t with
    | none =>
      rw [hf] at ht
      refine Ev.bind (a := ((⟨#[]⟩ : ByteArray), false)) ht ?_
      refine Ev.congr (fun k => by rw [if_neg (show ¬ (((⟨#[]⟩ : ByteArray), false) : ByteArray × Bool).2 = true by simp)]) ?_
      rw [if_neg (by simp)]
      exact Ev.now _
    | some c =>
      rw [hf] at ht
      refine Ev.bind (a := (c, true)) ht ?_
      by_cases h : c.toList = a.toList
      · refine Ev.congr (fun k => by rw [if_pos (show ((c, true) : ByteArray × Bool).2 = true from rfl), if_pos (by omega), if_pos (by omega), if_pos el, ea, if_pos (show ((c, true) : ByteArray × Bool).1.toList = a.toList from h), wrap_small (by omega) (by omega)]) ?_
        simp only [h, decide_true, Bool.true_and]
        exact hr
      · refine Ev.congr (fun k => by rw [if_pos (show ((c, true) : ByteArray × Bool).2 = true from rfl), if_pos (by omega), if_pos (by omega), if_pos el, ea, if_neg (show ¬ ((c, true) : ByteArray × Bool).1.toList = a.toList from h)]) ?_
        rw [if_neg (by simp [h])]
        exact Ev.now _
end
theorem rcat_ev (t : S68) (hb : bulk t ≤ 2000000) : Ev (fun k => pentaglotref31_Category.f k lexicon t.f0 t.f1 t.f2) (catS t) := by
  unfold pentaglotref31_Category.f
  refine Ev.bind (rsize_ev t hb) ?_
  unfold catS
  by_cases h : (nodes t : Int) > 60
  · rw [if_pos h]
    exact Ev.congr (fun k => if_pos h) (Ev.now _)
  · rw [if_neg h]
    refine Ev.congr (fun k => if_neg h) ?_
    have hf := rwell_ev t hb
    cases hq : formedS t with
    | none =>
      rw [hq] at hf
      refine Ev.bind (a := ((⟨#[]⟩ : ByteArray), false)) hf ?_
      exact Ev.congr (fun k => by rw [if_neg (show ¬ (((⟨#[]⟩ : ByteArray), false) : ByteArray × Bool).2 = true by simp)]) (Ev.now _)
    | some c =>
      rw [hq] at hf
      refine Ev.bind (a := (c, true)) hf ?_
      exact Ev.congr (fun k => by rw [if_pos (show ((c, true) : ByteArray × Bool).2 = true from rfl)]) (Ev.now _)
/-- ref31.Category over the lexicon. -/
theorem rcat_calls (A0 : Option Addr) (c0 : Nat) (t : S68) (A1 : Option Addr) (c1 : Nat) (A2 : Option Addr) (c2 : Nat) (w : World) (hb : Bd t) (h0 : k105.C w A0 lexicon.length lexicon) (l0 : lexicon.length ≤ c0)
    (h1 : (Kd.int .i64).C w A1 t.f1.length t.f1) (l1 : t.f1.length ≤ c1) (h2 : k68.C w A2 t.f2.length t.f2) (l2 : t.f2.length ≤ c2) :
    Calls Try.prog 62 #[.slice A0 lexicon.length c0, .agg #[.string t.f0, .slice A1 t.f1.length c1, .slice A2 t.f2.length c2]] w fun e w' => e = .returned (.tuple #[.string (catS t).1, .int .i64 (catS t).2]) ∧ Below w.heap.size w w' := by
  obtain ⟨k, hk⟩ := (rcat_ev t hb).rounds
  exact pentaglotref31_Category.calls k A0 c0 lexicon t.f0 A1 c1 t.f1 A2 c2 t.f2 (catS t).1 (catS t).2 w h0 l0 h1 l1 h2 l2 hk
end Go.Proofs.Ytkblcdpmdbofgaa.A
/- The reference's Notice. -/
namespace Go.Proofs.Ytkblcdpmdbofgaa.A
open Go.RowKit Go.Proofs.YtkblcdpmdbofgaaW.PrintWords Go.Proofs.YtkblcdpmdbofgaaW.PrintLast Go.Proofs.YtkblcdpmdbofgaaW.PrintMore
set_option linter.unusedVariables false
set_option linter.unusedSimpArgs false

set_option maxHeartbeats 1000000 in
set_option maxRecDepth 100000 in
theorem sentence_calls (t : S68) (A1 : Option Addr) (c1 : Nat) (A2 : Option Addr) (c2 : Nat) (w : World) (hb : Bd t) (h1 : (Kd.int .i64).C w A1 t.f1.length t.f1) (l1 : t.f1.length ≤ c1) (h2 : k68.C w A2 t.f2.length t.f2) (l2 : t.f2.length ≤ c2) :
    Calls Try.prog 59 #[.agg #[.string t.f0, .slice A1 t.f1.length c1, .slice A2 t.f2.length c2]] w fun e w' => e = .returned (.bool (isS t)) ∧ Below w.heap.size w w' := by
  have D := Aside0.mk (fun (w1 : World) (hw : Below w.heap.size w w1) (A0 : Option Addr) (c0 : Nat) (h0 : k105.C w1 A0 lexicon.length lexicon) (l0 : lexicon.length ≤ c0) => rcat_calls A0 c0 t A1 c1 A2 c2 w1 hb h0 l0 (Kd.C_below h1 hw) l1 (Kd.C_below h2 hw) l2)
  have HG0 := Aside0.mk (show (w.alloc (.cells #[.string t.f0, .slice A1 t.f1.length c1, .slice A2 t.f2.length c2] 68)).drew.heap[w.heap.size]? = some (.cells #[.string t.f0, .slice A1 t.f1.length c1, .slice A2 t.f2.length c2] 68) from heap_alloc_new w _)
  have HB0 := Aside0.mk (below_drew (below_alloc (Below.refl w.heap.size w) (.cells #[.string t.f0, .slice A1 t.f1.length c1, .slice A2 t.f2.length c2] 68)))
  clear hb h1 l1 h2 l2
  go_enter Try.func59, Try.ntmps59
  go_wp2_with fail
  go_region_held3 (fun w' => w'.cell? ⟨w.heap.size, 0, none⟩ = some (.string t.f0) ∧ w'.cell? ⟨w.heap.size, 1, none⟩ = some (.slice A1 t.f1.length c1) ∧ w'.cell? ⟨w.heap.size, 2, none⟩ = some (.slice A2 t.f2.length c2))
    (first
      | exact ⟨blk_cell HG0.out 0, blk_cell HG0.out 1, blk_cell HG0.out 2⟩
      | exact ⟨blk_cell HG3.out 0, blk_cell HG3.out 1, blk_cell HG3.out 2⟩
      | exact ⟨blk_cell HG5.out 0, blk_cell HG5.out 1, blk_cell HG5.out 2⟩)
    (first
      | (go_at_call 55; refine (functions_calls _).mono ?_; rintro e w1 ⟨A3, c3, rfl, hl3, hC3, hB1⟩; have HG3 := Aside0.mk (blk_below HG0.out hB1); have HB3 := Aside0.mk (below_step HB0.out hB1); have HC3 := Aside0.mk hC3; have HL3 := Aside0.mk hl3; clear hC3 hl3 hB1)
      | (go_at_call 62; refine (D.out _ HB3.out A3 c3 HC3.out HL3.out).mono ?_; rintro e w2 ⟨rfl, hB2⟩; have HG5 := Aside0.mk (blk_below HG3.out hB2); have HB5 := Aside0.mk (below_step HB3.out hB2); clear hB2))
  have HS : Aside0 (isS t = decide ((catS t).2 = 0 ∧ (catS t).1.toList = [83])) := ⟨rfl⟩
  generalize (catS t).1 = a1 at *
  generalize (catS t).2 = a2 at *
  by_cases h2 : a2 = 0
  · have f4 : (a2 == 0) = true := beq_iff_eq.mpr h2
    by_cases h1 : a1.toList = [83]
    · have HF : Aside0 (isS t = true) := ⟨by rw [HS.out]; simp [h1, h2]⟩
      have f3 : (a1.toList == ([83] : List UInt8)) = true := beq_iff_eq.mpr h1
      clear h1 h2 HS
      go_wp2
      go_ret
      exact ⟨by rw [HF.out]; rfl, HB5.out⟩
    · have HF : Aside0 (isS t = false) := ⟨by rw [HS.out]; simp [h1]⟩
      have f3 : (a1.toList == ([83] : List UInt8)) = false := beq_eq_false_iff_ne.mpr h1
      clear h1 h2 HS
      go_wp2
      go_ret
      exact ⟨by rw [HF.out]; rfl, HB5.out⟩
  · have HF : Aside0 (isS t = false) := ⟨by rw [HS.out]; simp [h2]⟩
    have f4 : (a2 == 0) = false := beq_eq_false_iff_ne.mpr h2
    clear h2 HS
    go_wp2
    go_ret
    exact ⟨by rw [HF.out]; rfl, HB5.out⟩

set_option maxHeartbeats 1000000 in
set_option maxRecDepth 100000 in
theorem sentences_calls (l : List S68) (A : Option Addr) (c : Nat) (w : World) (hb : bulkL l ≤ 2000000) (hr : k68.C w A l.length l) (hc : l.length ≤ c) :
    Calls Try.prog 56 #[.slice A l.length c] w fun e w' => e = .returned (.bool (l.all isS)) ∧ Below w.heap.size w w' := by
  have HR := Aside0.mk hr
  clear hr
  have HBD : Aside0 (∀ x ∈ l, Bd x) := ⟨fun x hx => Nat.le_trans (mem_bulk hx) hb⟩
  have hlb := length_bulk l
  have hl : l.length ≤ 2000000 := by omega
  clear hb hlb
  have HB := Aside0.mk (Below.refl w.heap.size w)
  go_enter Try.func56, Try.ntmps56
  go_wp2
  go_loopw [3] (fun i w' => ∃ x : Int, i = .int .i64 x ∧ 0 ≤ x ∧ x ≤ l.length ∧ Aside0 ((l.take x.toNat).all isS = true) ∧ Aside0 (Below w.heap.size w w')) (fun i _ => l.length - (intOf i).toNat)
  case atStart => exact ⟨0, rfl, Int.le_refl _, Int.natCast_nonneg _, ⟨by simp⟩, HB⟩
  case round =>
    clear HB
    obtain ⟨x, rfl, hx, hk, HV, HB⟩ := hrel
    by_cases hlt : x < l.length
    · obtain ⟨ad, A1, c1, A2, c2, e, hx0, hx1, hx2, hl1, hi1, hl2, hi2⟩ := at_T68 HR.out x hx hlt
      cases e
      have D := Aside0.mk (sentence_calls (rd_T68 l x) A1 c1 A2 c2 wr (HBD.out _ (rd_mem l x hx hlt)) (Kd.C_below hi1 HB.out) hl1 (Kd.C_below hi2 HB.out) hl2)
      clear hl1 hi1 hl2 hi2
      replace hx0 := (HB.out.cell (World.block_lt_of_cell? w _ hx0)).trans hx0
      replace hx1 := (HB.out.cell (World.block_lt_of_cell? w _ hx1)).trans hx1
      replace hx2 := (HB.out.cell (World.block_lt_of_cell? w _ hx2)).trans hx2
      have p1 := eq_true hx
      have q1 := eq_true hlt
      have HT1 : Aside0 (isS (rd_T68 l x) = true → (l.take (x + 1).toNat).all isS = true) := ⟨fun h => by rw [take_rd l x hx hlt, List.all_append, HV.out, List.all_cons, h]; simp⟩
      have HT2 : Aside0 (isS (rd_T68 l x) = false → l.all isS = false) := ⟨fun h => by rw [List.all_eq_false]; exact ⟨_, rd_mem l x hx hlt, by rw [h]; simp⟩⟩
      generalize hb : isS (rd_T68 l x) = b at *
      generalize rd_T68 l x = t at *
      clear hb
      cases b with
      | true =>
        go_wp2_with (go_at_call 59; refine D.out.mono ?_; rintro e w1 ⟨rfl, hB⟩; have HB1 := Aside0.mk (below_step HB.out hB); clear hB)
        go_roundw
        case rel => exact ⟨x + 1, rfl, by omega, by omega, ⟨HT1.out (by first | rfl | trivial)⟩, HB1⟩
        case measure => simp [intOf]; omega
      | false =>
        go_wp2_with (go_at_call 59; refine D.out.mono ?_; rintro e w1 ⟨rfl, hB⟩; have HB1 := Aside0.mk (below_step HB.out hB); clear hB)
        go_ret
        have HF : l.all isS = false := HT2.out (by first | rfl | trivial)
        exact ⟨by first | (rw [HF]; done) | (rw [HF]; rfl) | (simp only [HF]; done), HB1.out⟩
    · have HN : Aside0 (l.all isS = true) := ⟨by
        have := HV.out
        rwa [List.take_of_length_le (by omega)] at this⟩
      clear HV
      go_wp2
      go_ret
      exact ⟨by rw [HN.out]; rfl, HB.out⟩

set_option maxHeartbeats 1000000 in
set_option maxRecDepth 100000 in
theorem rnotice_calls (l : List S68) (A : Option Addr) (c : Nat) (w : World) (hb : bulkL l ≤ 2000000) (hr : k68.C w A l.length l) (hc : l.length ≤ c) :
    Calls Try.prog 51 #[.slice A l.length c] w fun e w' => e = .returned (.bool (noticeS l)) ∧ Below w.heap.size w w' := by
  have D := Aside0.mk (sentences_calls l A c w hb hr hc)
  have hlb := length_bulk l
  have hl : l.length ≤ 2000000 := by omega
  have HN : Aside0 (noticeS l = (l.all isS && (decide (1 ≤ l.length) && decide (l.length ≤ 8)))) := ⟨rfl⟩
  generalize l.all isS = b at *
  generalize noticeS l = r at *
  clear hb hr hc hlb
  by_cases h1 : 1 ≤ l.length
  · have f1 : decide (1 ≤ (l.length : Int)) = true := decide_eq_true (by omega)
    by_cases h8 : l.length ≤ 8
    · have f8 : decide ((l.length : Int) ≤ 8) = true := decide_eq_true (by omega)
      have HF : Aside0 (r = b) := ⟨by rw [HN.out]; simp [h1, h8]⟩
      clear HN h1 h8
      go_enter Try.func51, Try.ntmps51
      go_wp2_with (go_at_call 56; refine D.out.mono ?_; rintro e w1 ⟨rfl, hB⟩; have HB1 := Aside0.mk hB; clear hB)
      go_ret
      exact ⟨by rw [HF.out]; rfl, HB1.out⟩
    · have f8 : decide ((l.length : Int) ≤ 8) = false := decide_eq_false (by omega)
      have HF : Aside0 (r = false) := ⟨by rw [HN.out]; simp [h8]⟩
      clear HN h1 h8
      go_enter Try.func51, Try.ntmps51
      go_wp2
      go_ret
      exact ⟨by rw [HF.out]; rfl, Below.refl _ _⟩
  · have f1 : decide (1 ≤ (l.length : Int)) = false := decide_eq_false (by omega)
    have HF : Aside0 (r = false) := ⟨by rw [HN.out]; simp [h1]⟩
    clear HN h1
    go_enter Try.func51, Try.ntmps51
    go_wp2
    go_ret
    exact ⟨by rw [HF.out]; rfl, Below.refl _ _⟩
end Go.Proofs.Ytkblcdpmdbofgaa.A
/- Small facts that several laws share. -/
namespace Go.Proofs.Ytkblcdpmdbofgaa.A
open Go.RowKit Go.Proofs.YtkblcdpmdbofgaaW.PrintWords Go.Proofs.YtkblcdpmdbofgaaW.PrintLast Go.Proofs.YtkblcdpmdbofgaaW.PrintMore
set_option linter.unusedVariables false
set_option linter.unusedSimpArgs false

theorem shown_small {D : Dk} {n : Nat} (h : D.good n) (hn : n ≤ 90000) (id : Int) : bulkL (D.show_ id).trees ≤ 2000000 ∧ (D.show_ id).approvals.length ≤ 2000000 := by
  unfold Dk.show_
  cases hg : D.get id with
  | none => exact ⟨Nat.zero_le _, Nat.zero_le _⟩
  | some d =>
    have := h.2 d (Dk.get_mem hg)
    exact ⟨this.2.2.1, by have := this.2.1; simp only; omega⟩
theorem hist_small {D : Dk} {n : Nat} (h : D.good n) (id : Int) : (D.hist id).length ≤ 2000000 ∧ ∀ l ∈ D.hist id, bulkL l ≤ 2000000 := by
  unfold Dk.hist
  cases hg : D.get id with
  | none => exact ⟨Nat.zero_le _, fun l hl => by simp at hl⟩
  | some d =>
    have := h.2 d (Dk.get_mem hg)
    refine ⟨by have := this.1; simp only [List.length_append, List.length_cons, List.length_nil]; omega, fun l hl => ?_⟩
    rcases List.mem_append.1 hl with hl | hl
    · exact this.2.2.2 l hl
    · rw [List.mem_singleton.1 hl]; exact this.2.2.1
theorem Kp.bel {w w' : World} {S : Nat → Prop} {B : Nat} {u : World} (hB : Below B u w) (h : Kp w w' S) (hs : ∀ k, k < B → ¬ S k) (hl : B ≤ w.heap.size) : Below B u w' :=
  ⟨h.os.trans hB.os, h.tape.trans hB.tape, h.output.trans hB.output, Nat.le_trans hB.size h.size, fun k hk => (h.block k (Nat.lt_of_lt_of_le hk hl) (hs k hk)).trans (hB.block k hk)⟩
theorem wrap_i64 {x : Int} (h0 : -9000000000000000000 ≤ x) (h1 : x ≤ 9000000000000000000) : IntKind.i64.wrap x = x := by
  simp [IntKind.wrap, IntKind.signed, IntKind.bits]
  omega
end Go.Proofs.Ytkblcdpmdbofgaa.A
/- The reference's desk in memory; found, Ready. -/
namespace Go.Proofs.Ytkblcdpmdbofgaa.A
open Go.RowKit Go.Proofs.YtkblcdpmdbofgaaW.PrintWords Go.Proofs.YtkblcdpmdbofgaaW.PrintLast Go.Proofs.YtkblcdpmdbofgaaW.PrintMore
set_option linter.unusedVariables false
set_option linter.unusedSimpArgs false

/-- A draft of the reference. -/
def rDr (d : Dr) : S89 := ⟨d.earlier ++ [d.trees], d.author, d.approvals, d.closed⟩
def rdesk (D : Dk) : List S89 := D.drafts.map rDr
theorem rdesk_len (D : Dk) : (rdesk D).length = D.drafts.length := by simp [rdesk]
theorem rdesk_get {D : Dk} {i : Nat} {d : Dr} (h : D.drafts[i]? = some d) : (rdesk D)[i]? = some (rDr d) := by simp [rdesk, h]
theorem rdesk_put (D : Dk) (i : Nat) (d : Dr) : rdesk (D.put i d) = (rdesk D).set i (rDr d) := by simp [rdesk, Dk.put, List.map_set]

/-- The desk of the reference at block rb; F: blocks that are not the program's desk's. -/
structure Ref (w0 w : World) (F : Nat → Prop) (rb : Nat) (D : Dk) : Prop where
  blk : ∃ A c v, w.heap[rb]? = some (.cells #[.slice A D.eds.length c, .int .i64 D.needed, v] 58 (0, 0)) ∧ D.eds.length ≤ c ∧ Kd.string.C w0 A D.eds.length D.eds ∧ Kd.N k89 89 w w0.heap.size (fun k => F k ∧ k ≠ rb) v (rdesk D)
  own : F rb
  ge : w0.heap.size ≤ rb
  below : Below w0.heap.size w0 w
section
variable {w0 w w' : World} {F F' : Nat → Prop} {rb : Nat} {D : Dk}
theorem Ref.mono (h : Ref w0 w F rb D) (hf : ∀ k, F k → F' k) : Ref w0 w F' rb D := by
  obtain ⟨A, c, v, h1, h2, h3, h4⟩ := h.blk
  exact ⟨⟨A, c, v, h1, h2, h3, Kd.N_mono h4 (fun k hk => ⟨hf k hk.1, hk.2⟩)⟩, hf _ h.own, h.ge, h.below⟩
theorem Ref.keep (h : Ref w0 w F rb D) (hK : Kp w w' (fun k => ¬ F k)) (hB : Below w0.heap.size w0 w') : Ref w0 w' (fun k => F k ∧ k < w.heap.size) rb D := by
  obtain ⟨A, c, v, h1, h2, h3, h4⟩ := h.blk
  exact ⟨⟨A, c, v, hK.blk h1 (fun hn => hn h.own), h2, h3, Kd.N_mono (Kd.N_step (Kd.N_bound h4) (fun k hk hl => hK.block k hl (fun hn => hn hk.1.1))) (fun k hk => ⟨⟨hk.1.1, hk.2⟩, hk.1.2⟩)⟩, ⟨h.own, blk_lt h1⟩, h.ge, hB⟩
theorem Ref.grow (h : Ref w0 w F rb D) (hB : Below w.heap.size w w') : Ref w0 w' F rb D :=
  (h.keep (Kp.of_below hB _) (below_step h.below hB)).mono (fun k hk => hk.1)
end

/-- Draft i of the reference's desk in memory. -/
structure RefE (w0 w : World) (F : Nat → Prop) (rb : Nat) (D : Dk) (i : Nat) (d : Dr) (A : Option Addr) (c g cap : Nat) (Ah : Option Addr) (ch : Nat) (Ap : Option Addr) (cp : Nat) : Prop where
  blk : w.heap[rb]? = some (.cells #[.slice A D.eds.length c, .int .i64 D.needed, .slice (some ⟨g, 0, none⟩) D.drafts.length cap] 58 (0, 0))
  hc : D.eds.length ≤ c
  eds : Kd.string.C w0 A D.eds.length D.eds
  N : Kd.N k89 89 w w0.heap.size (fun k => F k ∧ k ≠ rb) (.slice (some ⟨g, 0, none⟩) D.drafts.length cap) (rdesk D)
  FK : Kd.FK k89 w (fun k => (F k ∧ k ≠ rb) ∧ k ≠ g) (rDr d) [.slice Ah (d.earlier.length + 1) ch, .string d.author, .slice Ap d.approvals.length cp, .bool d.closed]
  cells : ∀ j u, [Value.slice Ah (d.earlier.length + 1) ch, .string d.author, .slice Ap d.approvals.length cp, .bool d.closed][j]? = some u → w.cell? ⟨g, i * 4 + j, none⟩ = some u
  fr : ∀ j, w.frozen? ⟨g, i * 4 + j, none⟩ = false
  hist : Kd.F (Kd.slice 68 k68) w (fun k => (F k ∧ k ≠ rb) ∧ k ≠ g) Ah (d.earlier.length + 1) (d.earlier ++ [d.trees])
  hch : d.earlier.length + 1 ≤ ch
  app : Kd.F Kd.string w (fun k => (F k ∧ k ≠ rb) ∧ k ≠ g) Ap d.approvals.length d.approvals
  hcp : d.approvals.length ≤ cp
  lt : i < D.drafts.length
  ne : g ≠ rb
  fg : F g
  gg : w0.heap.size ≤ g
theorem Ref.at_ {w0 w : World} {F : Nat → Prop} {rb : Nat} {D : Dk} (h : Ref w0 w F rb D) {i : Nat} {d : Dr} (hd : D.drafts[i]? = some d) : ∃ A c g cap Ah ch Ap cp, RefE w0 w F rb D i d A c g cap Ah ch Ap cp := by
  obtain ⟨A, c, v, h1, h2, h3, h4⟩ := h.blk
  have hlt : i < D.drafts.length := (List.getElem?_eq_some_iff.1 hd).1
  obtain ⟨g, cap, rfl, hb, hg, cells, hcell⟩ := Kd.N_form h4 (by rw [rdesk_len]; omega)
  rw [rdesk_len] at h1 h4
  have hown := h4.1 g rfl
  obtain ⟨cs, hcl, hFK, hcc, hfr⟩ := Kd.N_elem h4 z89 (i : Int) (by omega) (by omega)
  rw [Int.toNat_natCast] at hFK hcc hfr
  have he : (rdesk D).getD i z89 = rDr d := by rw [List.getD_eq_getElem?_getD, rdesk_get hd]; rfl
  rw [he] at hFK
  obtain ⟨Ah, ch, Ap, cp, rfl, l0, g0, l2, g2⟩ := k89_openF hFK
  have e1 : (rDr d).f0.length = d.earlier.length + 1 := by simp [rDr]
  rw [e1] at g0 l0 hcc hFK
  exact ⟨A, c, g, cap, Ah, ch, Ap, cp, h1, h2, h3, h4, hFK, hcc, hfr, g0, l0, g2, l2, hlt, hown.2, hown.1, hb⟩
theorem Ref.len {w0 w : World} {F : Nat → Prop} {rb : Nat} {D : Dk} (h : Ref w0 w F rb D) : ∃ A c Av cv, w.heap[rb]? = some (.cells #[.slice A D.eds.length c, .int .i64 D.needed, .slice Av D.drafts.length cv] 58 (0, 0)) ∧ D.eds.length ≤ c ∧ Kd.string.C w0 A D.eds.length D.eds := by
  obtain ⟨A, c, v, h1, h2, h3, h4⟩ := h.blk
  obtain ⟨Av, cv, rfl⟩ := Kd.N_slice h4
  rw [rdesk_len] at h1
  exact ⟨A, c, Av, cv, h1, h2, h3⟩

set_option maxHeartbeats 1000000 in
set_option maxRecDepth 100000 in
theorem found_calls {w0 w : World} {F : Nat → Prop} {rb : Nat} {D : Dk} (h : Ref w0 w F rb D) (id : Int) :
    Calls Try.prog 52 #[.pointer (some ⟨rb, 0, none⟩), .int .i64 id] w fun e w' => e = .returned (.bool (D.get id).isSome) ∧ w' = w := by
  obtain ⟨A, c, Av, cv, hb, _, _⟩ := h.len
  have c2 := blk_cell hb 2
  simp at c2
  clear hb h
  by_cases h1 : 1 ≤ id
  · have q1 : decide (1 ≤ id) = true := decide_eq_true h1
    by_cases h2 : id ≤ (D.drafts.length : Int)
    · have q2 : decide (id ≤ (D.drafts.length : Int)) = true := decide_eq_true h2
      obtain ⟨d, hg, _⟩ := D.get_at id h1 (by omega)
      have HF : Aside0 ((D.get id).isSome = true) := ⟨by rw [hg]; rfl⟩
      clear hg h1 h2
      go_enter Try.func52, Try.ntmps52
      go_wp2
      go_ret
      exact ⟨by rw [HF.out]; rfl, rfl⟩
    · have q2 : decide (id ≤ (D.drafts.length : Int)) = false := decide_eq_false h2
      have HF : Aside0 ((D.get id).isSome = false) := ⟨by unfold Dk.get; rw [if_pos h1, List.getElem?_eq_none (by omega)]; rfl⟩
      clear h1 h2
      go_enter Try.func52, Try.ntmps52
      go_wp2
      go_ret
      exact ⟨by rw [HF.out]; rfl, rfl⟩
  · have q1 : decide (1 ≤ id) = false := decide_eq_false h1
    have HF : Aside0 ((D.get id).isSome = false) := ⟨by unfold Dk.get; rw [if_neg h1]; rfl⟩
    clear h1
    go_enter Try.func52, Try.ntmps52
    go_wp2
    go_ret
    exact ⟨by rw [HF.out]; rfl, rfl⟩
theorem get_idx {D : Dk} {id : Int} {d : Dr} (h : D.get id = some d) : ∃ i : Nat, id = (i : Int) + 1 ∧ D.drafts[i]? = some d := by
  unfold Dk.get at h
  split at h
  · exact ⟨(id - 1).toNat, by omega, h⟩
  · cases h

set_option maxHeartbeats 1000000 in
set_option maxRecDepth 100000 in
theorem rready_calls {w0 w : World} {F : Nat → Prop} {rb : Nat} {D : Dk} (h : Ref w0 w F rb D) (hd256 : D.drafts.length ≤ 256) (hlow : ∀ d ∈ D.drafts, d.earlier.length ≤ 255 ∧ d.approvals.length ≤ 90000) (id num : Int) :
    Calls Try.prog 45 #[.pointer (some ⟨rb, 0, none⟩), .int .i64 id, .int .i64 num] w fun e w' => e = .returned (.int .i64 (D.ready id num)) ∧ Below w.heap.size w w' := by
  have C52 := Aside0.mk (found_calls h id)
  cases hg : D.get id with
  | none =>
    rw [hg] at C52
    have HF : Aside0 (D.ready id num = 4) := ⟨by unfold Dk.ready Dk.cur; rw [hg]; rfl⟩
    clear h hg hlow
    go_enter Try.func45, Try.ntmps45
    go_wp2_with (go_at_call 52; refine C52.out.mono ?_; rintro e w1 ⟨rfl, rfl⟩)
    go_ret
    exact ⟨by rw [HF.out]; rfl, Below.refl _ _⟩
  | some d =>
    rw [hg] at C52
    have HF : Aside0 (D.ready id num = if d.closed = true then 10 else if (d.earlier.length : Int) + 1 = num then (if (d.approvals.length : Int) < D.needed then 10 else 0) else 10) := ⟨by
      unfold Dk.ready Dk.cur
      rw [hg]
      simp only
      split
      · simp
      · split <;> simp⟩
    have hq := hlow d (Dk.get_mem hg)
    obtain ⟨i, rfl, hdi⟩ := get_idx hg
    obtain ⟨A, c, g, cap, Ah, ch, Ap, cp, hE⟩ := h.at_ hdi
    have hlt := hE.lt
    have c1 := blk_cell hE.blk 1
    have c2 := blk_cell hE.blk 2
    simp at c1 c2
    have e0 := hE.cells 0 _ rfl
    have e1 := hE.cells 1 _ rfl
    have e2 := hE.cells 2 _ rfl
    have e3 := hE.cells 3 _ rfl
    simp at e0
    have fw1 : wrap64 ((i : Int) + 1 - 1) = (i : Int) := (wrap_small (by omega) (by omega)).trans (by omega)
    have fw2 : IntKind.i64.wrap ((i : Int) + 1 - 1) = (i : Int) := (wrap_i64 (by omega) (by omega)).trans (by omega)
    have fi1 : (0 : Int) ≤ (i : Int) := Int.natCast_nonneg _
    have fi2 : (i : Int) < (D.drafts.length : Int) := by omega
    have HN := Aside0.mk (heap_alloc_new w (.cells #[.slice Ah (d.earlier.length + 1) ch, .string d.author, .slice Ap d.approvals.length cp, .bool d.closed] 89))
    have HB := Aside0.mk (below_alloc (Below.refl w.heap.size w) (.cells #[.slice Ah (d.earlier.length + 1) ch, .string d.author, .slice Ap d.approvals.length cp, .bool d.closed] 89))
    have hi256 : i ≤ 256 := by omega
    have HBK := Aside0.mk hE.blk
    have hq1 := hq.1
    have hq2 := hq.2
    obtain ⟨du, dt, de, da, dc⟩ := d
    simp only at *
    clear h hg hlow hq hdi hE hlt
    have c1b : (w.alloc (.cells #[.slice Ah (de.length + 1) ch, .string du, .slice Ap da.length cp, .bool dc] 89)).cell? ⟨rb, 1, none⟩ = some (.int .i64 D.needed) := blk_cell (blk_alloc HBK.out _) 1
    have k0 : (w.alloc (.cells #[.slice Ah (de.length + 1) ch, .string du, .slice Ap da.length cp, .bool dc] 89)).cell? ⟨w.heap.size, 0, none⟩ = some (.slice Ah (de.length + 1) ch) := blk_cell HN.out 0
    have k2 : (w.alloc (.cells #[.slice Ah (de.length + 1) ch, .string du, .slice Ap da.length cp, .bool dc] 89)).cell? ⟨w.heap.size, 2, none⟩ = some (.slice Ap da.length cp) := blk_cell HN.out 2
    have k3 : (w.alloc (.cells #[.slice Ah (de.length + 1) ch, .string du, .slice Ap da.length cp, .bool dc] 89)).cell? ⟨w.heap.size, 3, none⟩ = some (.bool dc) := blk_cell HN.out 3
    cases dc with
    | true =>
      have HR : Aside0 (D.ready ((i : Int) + 1) num = 10) := ⟨by rw [HF.out]; rfl⟩
      clear HF
      go_enter Try.func45, Try.ntmps45
      go_wp2_with (go_at_call 52; refine C52.out.mono ?_; rintro e w1 ⟨rfl, rfl⟩)
      generalize (w1.alloc (.cells #[.slice Ah (de.length + 1) ch, .string du, .slice Ap da.length cp, .bool true] 89)) = W at *
      go_quiet (fail)
      go_wp2
      go_ret
      exact ⟨by rw [HR.out]; rfl, pw_below_drewN HB.out _⟩
    | false =>
      by_cases h2 : (de.length : Int) + 1 = num
      · subst h2
        by_cases h3 : (da.length : Int) < D.needed
        · have HR : Aside0 (D.ready ((i : Int) + 1) ((de.length : Int) + 1) = 10) := ⟨by rw [HF.out, if_neg (by simp), if_pos rfl, if_pos h3]⟩
          have q2 : decide ((da.length : Int) < D.needed) = true := decide_eq_true h3
          clear HF h3
          go_enter Try.func45, Try.ntmps45
          go_wp2_with (go_at_call 52; refine C52.out.mono ?_; rintro e w1 ⟨rfl, rfl⟩)
          generalize (w1.alloc (.cells #[.slice Ah (de.length + 1) ch, .string du, .slice Ap da.length cp, .bool false] 89)) = W at *
          go_quiet (fail)
          go_wp2
          go_ret
          exact ⟨by rw [HR.out]; rfl, pw_below_drewN HB.out _⟩
        · have HR : Aside0 (D.ready ((i : Int) + 1) ((de.length : Int) + 1) = 0) := ⟨by rw [HF.out, if_neg (by simp), if_pos rfl, if_neg h3]⟩
          have q2 : decide ((da.length : Int) < D.needed) = false := decide_eq_false h3
          clear HF h3
          go_enter Try.func45, Try.ntmps45
          go_wp2_with (go_at_call 52; refine C52.out.mono ?_; rintro e w1 ⟨rfl, rfl⟩)
          generalize (w1.alloc (.cells #[.slice Ah (de.length + 1) ch, .string du, .slice Ap da.length cp, .bool false] 89)) = W at *
          go_quiet (fail)
          go_wp2
          go_ret
          exact ⟨by rw [HR.out]; rfl, pw_below_drewN HB.out _⟩
      · have HR : Aside0 (D.ready ((i : Int) + 1) num = 10) := ⟨by rw [HF.out, if_neg (by simp), if_neg h2]⟩
        have q2 : (num != (de.length : Int) + 1) = true := by rw [bne_iff_ne]; exact fun e => h2 e.symm
        have q3 : (num == (de.length : Int) + 1) = false := beq_eq_false_iff_ne.mpr (fun e => h2 e.symm)
        clear HF h2
        go_enter Try.func45, Try.ntmps45
        go_wp2_with (go_at_call 52; refine C52.out.mono ?_; rintro e w1 ⟨rfl, rfl⟩)
        generalize (w1.alloc (.cells #[.slice Ah (de.length + 1) ch, .string du, .slice Ap da.length cp, .bool false] 89)) = W at *
        go_quiet (fail)
        go_wp2
        go_ret
        exact ⟨by rw [HR.out]; rfl, pw_below_drewN HB.out _⟩
end Go.Proofs.Ytkblcdpmdbofgaa.A
/- The reference's Numbers. -/
namespace Go.Proofs.Ytkblcdpmdbofgaa.A
open Go.RowKit Go.Proofs.YtkblcdpmdbofgaaW.PrintWords Go.Proofs.YtkblcdpmdbofgaaW.PrintLast Go.Proofs.YtkblcdpmdbofgaaW.PrintMore
set_option linter.unusedVariables false
set_option linter.unusedSimpArgs false

set_option maxHeartbeats 1000000 in
set_option maxRecDepth 100000 in
theorem numbers_calls {w0 w : World} {F : Nat → Prop} {rb : Nat} {D : Dk} (h : Ref w0 w F rb D) (hf : D.drafts.length ≤ 256) :
    Calls Try.prog 27 #[.pointer (some ⟨rb, 0, none⟩)] w fun e w' => ∃ v, e = .returned v ∧ (Kd.int .i64).R 3 w' w.heap.size (New w) v (D.opensTo D.drafts.length) ∧ Below w.heap.size w w' := by
  have H := Aside0.mk (fun (W : World) (hW : Below w.heap.size w W) => h.grow hW)
  have HE := Aside0.mk (R_empty (Kd.int .i64) 3 w w.heap.size (New w) (Nat.le_refl _) (Nat.le_refl _))
  have HB := Aside0.mk (below_alloc (Below.refl w.heap.size w) (.cells #[] 3))
  clear h
  go_enter Try.func27, Try.ntmps27
  go_wp2
  go_loopw [3, 4] (fun v i w' => ∃ x : Int, i = .int .i64 x ∧ 0 ≤ x ∧ x ≤ D.drafts.length ∧ Aside0 ((Kd.int .i64).R 3 w' w.heap.size (New w) v (D.opensTo x.toNat)) ∧ Aside0 (Below w.heap.size w w')) (fun _ i _ => D.drafts.length - (intOf i).toNat)
  case atStart => exact ⟨0, rfl, Int.le_refl _, Int.natCast_nonneg _, ⟨by simpa [Dk.opensTo] using HE.out⟩, HB⟩
  case round =>
    clear HB HE
    obtain ⟨x, rfl, hx, hk, HV, HB⟩ := hrel
    obtain ⟨A, c, Av, cv, hb, _, _⟩ := (H.out _ HB.out).len
    have c2 := blk_cell hb 2
    simp at c2
    by_cases hlt : x < D.drafts.length
    · obtain ⟨d, hg, hd⟩ := D.get_at (x + 1) (by omega) (by omega)
      have HO := Aside0.mk (D.opensTo_at (x + 1) (by omega) hd)
      rw [show (x + 1 - 1).toNat = x.toNat by omega] at hd HO
      rw [show (x + 1 + 1 - 1).toNat = (x + 1).toNat by omega] at HO
      obtain ⟨A', c', g, cap, Ah, ch, Ap, cp, hE⟩ := (H.out _ HB.out).at_ hd
      have hbk := hE.blk
      rw [hb] at hbk
      injection hbk with hbk
      injection hbk with hbk
      have hbk2 := congrArg (fun l => l[2]?) (congrArg Array.toList hbk)
      simp at hbk2
      obtain ⟨rfl, rfl⟩ := hbk2
      have d4 := hE.cells 3 _ rfl
      have p1 := eq_true hx
      have q1 := eq_true hlt
      have HL : Aside0 (((D.opensTo x.toNat).length + 1) * 8 ≤ 140737488355328) := ⟨by have := D.opensTo_len x.toNat; omega⟩
      have b1 : x ≤ 256 := by omega
      clear hg hd hE hbk hb
      cases hcl : d.closed with
      | true =>
        rw [hcl] at d4 HO
        go_wp2
        go_roundw
        case rel => exact ⟨x + 1, rfl, by omega, by omega, ⟨by rw [HO.out]; simpa using HV.out⟩, HB⟩
        case measure => simp [intOf]; omega
      | false =>
        rw [hcl] at d4 HO
        go_wp2_with (at_builtin; refine Kd.R_append (Kd.int .i64) (w0 := w) w.heap.size rfl _ _ 29 3 (.int .i64 0) 8 rfl Try.underlying29 info3 rfl (by decide) (by decide) u3 (D.opensTo x.toNat) (x + 1) [.int .i64 (x + 1)] (New w) (fun _ => False) rfl rfl (rfl) (fun _ hk => hk.elim) (fun _ hk => Nat.le_trans HB.out.size hk) HV.out HB.out HB.out.size HL.out ?_; intro v3 w3 hN hB hg _; have HN := Aside0.mk hN; have HB3 := Aside0.mk hB; clear hN hB hg)
        go_roundw
        case rel => exact ⟨x + 1, rfl, by omega, by omega, ⟨by rw [HO.out]; simpa using HN.out⟩, HB3⟩
        case measure => simp [intOf]; omega
    · go_wp2
      go_ret
      refine ⟨_, rfl, ?_, HB.out⟩
      have := HV.out
      rwa [show x.toNat = D.drafts.length by omega] at this
end Go.Proofs.Ytkblcdpmdbofgaa.A
