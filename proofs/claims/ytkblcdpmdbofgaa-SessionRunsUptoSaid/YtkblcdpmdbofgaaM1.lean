/- session.notice: one to eight trees, all of category S. -/
import Derived.Test.YtkblcdpmdbofgaaM0
import Derived.Deep.RegionHeld3
/- What single Go functions of the seat compute, as Lean functions, and that the Go code computes it: the sections of the kit's print for these functions, taken into a text of this session's own, the faulty places proved anew. -/
namespace Go.Proofs.Ytkblcdpmdbofgaa.A
open Go.RowKit Go.Proofs.YtkblcdpmdbofgaaW.PrintWords Go.Proofs.YtkblcdpmdbofgaaW.PrintLast Go.Proofs.YtkblcdpmdbofgaaW.PrintMore
attribute [local go_sem] max2_int min2_int max_two min_two max_three min_three max_four min_four   -- for this text's walks alone
set_option linter.unusedVariables false
set_option linter.unusedSimpArgs false

/-! ### abstract_formed: function 58 -/
mutual
def abstract_formed.j0 : Nat → List (S105) → Bool → ByteArray → List Int → List (S68) → ByteArray → List ByteArray → ByteArray → Int → Option (ByteArray × Bool)
  | 0, _, _, _, _, _, _, _, _, _ => none
  | k + 1, x0, x40, x114000, x114001, x114002, x117000, x117001, x117002, x117003 => if x40 = true then (some ((⟨#[]⟩ : ByteArray), false)) else (abstract_formed.l0 k x0 x114001 (x114001.length : Int) 0 x114000 x114001 x114002 x117000 x117001 x117002 x117003)
def abstract_formed.l0 : Nat → List (S105) → List Int → Int → Int → ByteArray → List Int → List (S68) → ByteArray → List ByteArray → ByteArray → Int → Option (ByteArray × Bool)
  | 0, _, _, _, _, _, _, _, _, _, _, _ => none
  | k + 1, x0, x42, x43, x44, x114000, x114001, x114002, x117000, x117001, x117002, x117003 => if x44 < x43 then (if 0 ≤ x44 then (if x44 < (x42.length : Int) then ((abstract_isValue.f (rd x42 x44)).bind fun t118 => (if t118 = true then (abstract_formed.l0 k x0 x42 x43 (wrap64 (x44 + 1)) x114000 x114001 x114002 x117000 x117001 x117002 x117003) else (some ((⟨#[]⟩ : ByteArray), false)))) else (none)) else (none)) else (abstract_formed.l1 k x0 x114002 (x114002.length : Int) 0 x117000 x117001 x117002 x117003)
def abstract_formed.l1 : Nat → List (S105) → List (S68) → Int → Int → ByteArray → List ByteArray → ByteArray → Int → Option (ByteArray × Bool)
  | 0, _, _, _, _, _, _, _, _ => none
  | k + 1, x0, x53, x54, x55, x117000, x117001, x117002, x117003 => if x55 < x54 then (if 0 ≤ x55 then (if x55 < (x53.length : Int) then ((abstract_formed.f k x0 ((rd_T68 x53 x55).f0) ((rd_T68 x53 x55).f1) ((rd_T68 x53 x55).f2)).bind fun bt121 => (if bt121.2 = true then (if x55 < (x117001.length : Int) then (if bt121.1.toList = (rdOf ByteArray.empty x117001 x55).toList then (abstract_formed.l1 k x0 x53 x54 (wrap64 (x55 + 1)) x117000 x117001 x117002 x117003) else (some ((⟨#[]⟩ : ByteArray), false))) else (none)) else (some ((⟨#[]⟩ : ByteArray), false)))) else (none)) else (none)) else (some (x117002, true))
def abstract_formed.f : Nat → List (S105) → ByteArray → List Int → List (S68) → Option (ByteArray × Bool)
  | 0, _, _, _, _ => none
  | k + 1, l0, a1_0, l1_1, l1_2 => (abstract_index.f k l0 a1_0).bind fun t114 => (if t114 = (l0.length : Int) then (some ((⟨#[]⟩ : ByteArray), false)) else (if 0 ≤ t114 then (if t114 < (l0.length : Int) then (if (l1_2.length : Int) = (((rd_T105 l0 t114).f1).length : Int) then (abstract_formed.j0 k l0 ((l1_1.length : Int) != ((rd_T105 l0 t114).f3)) a1_0 l1_1 l1_2 ((rd_T105 l0 t114).f0) ((rd_T105 l0 t114).f1) ((rd_T105 l0 t114).f2) ((rd_T105 l0 t114).f3)) else (abstract_formed.j0 k l0 true a1_0 l1_1 l1_2 ((rd_T105 l0 t114).f0) ((rd_T105 l0 t114).f1) ((rd_T105 l0 t114).f2) ((rd_T105 l0 t114).f3))) else (none)) else (none)))
end
theorem abstract_formed.mono_l : ∀ k, (∀ y0 y1 y2 y3, LeO (abstract_formed.f k y0 y1 y2 y3) (abstract_formed.f (k + 1) y0 y1 y2 y3)) ∧ (∀ y0 y1 y2 y3 y4 y5 y6 y7 y8, LeO (abstract_formed.j0 k y0 y1 y2 y3 y4 y5 y6 y7 y8) (abstract_formed.j0 (k + 1) y0 y1 y2 y3 y4 y5 y6 y7 y8)) ∧ (∀ y0 y1 y2 y3 y4 y5 y6 y7 y8 y9 y10, LeO (abstract_formed.l0 k y0 y1 y2 y3 y4 y5 y6 y7 y8 y9 y10) (abstract_formed.l0 (k + 1) y0 y1 y2 y3 y4 y5 y6 y7 y8 y9 y10)) ∧ (∀ y0 y1 y2 y3 y4 y5 y6 y7, LeO (abstract_formed.l1 k y0 y1 y2 y3 y4 y5 y6 y7) (abstract_formed.l1 (k + 1) y0 y1 y2 y3 y4 y5 y6 y7))
  | 0 => ⟨fun _ _ _ _ r h => by simp [abstract_formed.f] at h, fun _ _ _ _ _ _ _ _ _ r h => by simp [abstract_formed.j0] at h, fun _ _ _ _ _ _ _ _ _ _ _ r h => by simp [abstract_formed.l0] at h, fun _ _ _ _ _ _ _ _ r h => by simp [abstract_formed.l1] at h⟩
  | k + 1 => by
    obtain ⟨ih0, ih1, ih2, ih3⟩ := abstract_formed.mono_l k
    refine ⟨?_, ?_, ?_, ?_⟩
    · intro y0 y1 y2 y3
      unfold abstract_formed.f
      repeat' first
      | (with_reducible exact ih0 _ _ _ _)
      | (with_reducible exact ih1 _ _ _ _ _ _ _ _ _)
      | (with_reducible exact ih2 _ _ _ _ _ _ _ _ _ _ _)
      | (with_reducible exact ih3 _ _ _ _ _ _ _ _)
      | (with_reducible exact abstract_index.mono _ _ _)
      | (with_reducible exact LeO.refl _)
      | (with_reducible exact LeO.none _)
      | (with_reducible refine LeO.ite ?_ ?_)
      | (with_reducible refine LeO.bind ?_ (fun _ => ?_))
      | exact ih0 _ _ _ _
      | exact ih1 _ _ _ _ _ _ _ _ _
      | exact ih2 _ _ _ _ _ _ _ _ _ _ _
      | exact ih3 _ _ _ _ _ _ _ _
      | exact abstract_index.mono _ _ _
      | exact LeO.none _
      | refine LeO.ite ?_ ?_
      | refine LeO.bind ?_ (fun _ => ?_)
    · intro y0 y1 y2 y3 y4 y5 y6 y7 y8
      unfold abstract_formed.j0
      repeat' first
      | (with_reducible exact ih0 _ _ _ _)
      | (with_reducible exact ih1 _ _ _ _ _ _ _ _ _)
      | (with_reducible exact ih2 _ _ _ _ _ _ _ _ _ _ _)
      | (with_reducible exact ih3 _ _ _ _ _ _ _ _)
      | (with_reducible exact abstract_index.mono _ _ _)
      | (with_reducible exact LeO.refl _)
      | (with_reducible exact LeO.none _)
      | (with_reducible refine LeO.ite ?_ ?_)
      | (with_reducible refine LeO.bind ?_ (fun _ => ?_))
      | exact ih0 _ _ _ _
      | exact ih1 _ _ _ _ _ _ _ _ _
      | exact ih2 _ _ _ _ _ _ _ _ _ _ _
      | exact ih3 _ _ _ _ _ _ _ _
      | exact abstract_index.mono _ _ _
      | exact LeO.none _
      | refine LeO.ite ?_ ?_
      | refine LeO.bind ?_ (fun _ => ?_)
    · intro y0 y1 y2 y3 y4 y5 y6 y7 y8 y9 y10
      unfold abstract_formed.l0
      repeat' first
      | (with_reducible exact ih0 _ _ _ _)
      | (with_reducible exact ih1 _ _ _ _ _ _ _ _ _)
      | (with_reducible exact ih2 _ _ _ _ _ _ _ _ _ _ _)
      | (with_reducible exact ih3 _ _ _ _ _ _ _ _)
      | (with_reducible exact abstract_index.mono _ _ _)
      | (with_reducible exact LeO.refl _)
      | (with_reducible exact LeO.none _)
      | (with_reducible refine LeO.ite ?_ ?_)
      | (with_reducible refine LeO.bind ?_ (fun _ => ?_))
      | exact ih0 _ _ _ _
      | exact ih1 _ _ _ _ _ _ _ _ _
      | exact ih2 _ _ _ _ _ _ _ _ _ _ _
      | exact ih3 _ _ _ _ _ _ _ _
      | exact abstract_index.mono _ _ _
      | exact LeO.none _
      | refine LeO.ite ?_ ?_
      | refine LeO.bind ?_ (fun _ => ?_)
    · intro y0 y1 y2 y3 y4 y5 y6 y7
      unfold abstract_formed.l1
      repeat' first
      | (with_reducible exact ih0 _ _ _ _)
      | (with_reducible exact ih1 _ _ _ _ _ _ _ _ _)
      | (with_reducible exact ih2 _ _ _ _ _ _ _ _ _ _ _)
      | (with_reducible exact ih3 _ _ _ _ _ _ _ _)
      | (with_reducible exact abstract_index.mono _ _ _)
      | (with_reducible exact LeO.refl _)
      | (with_reducible exact LeO.none _)
      | (with_reducible refine LeO.ite ?_ ?_)
      | (with_reducible refine LeO.bind ?_ (fun _ => ?_))
      | exact ih0 _ _ _ _
      | exact ih1 _ _ _ _ _ _ _ _ _
      | exact ih2 _ _ _ _ _ _ _ _ _ _ _
      | exact ih3 _ _ _ _ _ _ _ _
      | exact abstract_index.mono _ _ _
      | exact LeO.none _
      | refine LeO.ite ?_ ?_
      | refine LeO.bind ?_ (fun _ => ?_)
theorem abstract_formed.mono : ∀ a0 a1 a2 a3 k, LeO (abstract_formed.f k a0 a1 a2 a3) (abstract_formed.f (k + 1) a0 a1 a2 a3) := by
  intro a0 a1 a2 a3 k
  obtain ⟨ih0, ih1, ih2, ih3⟩ := abstract_formed.mono_l k
  exact ih0 a0 a1 a2 a3
set_option maxHeartbeats 8000000 in
set_option maxRecDepth 100000 in
theorem abstract_formed.calls (k : Nat) : ∀ (A0 : Option Addr) (c0 : Nat) (l0 : List (S105)) (a1_0 : ByteArray) (A1_1 : Option Addr) (c1_1 : Nat) (l1_1 : List Int) (A1_2 : Option Addr) (c1_2 : Nat) (l1_2 : List (S68)) (r1 : ByteArray) (r2 : Bool) (w : World) (hr0 : Kd.C k105 w A0 l0.length l0) (hc0 : l0.length ≤ c0) (hr1_1 : Kd.C (Kd.int .i64) w A1_1 l1_1.length l1_1) (hc1_1 : l1_1.length ≤ c1_1) (hr1_2 : Kd.C k68 w A1_2 l1_2.length l1_2) (hc1_2 : l1_2.length ≤ c1_2) (h : abstract_formed.f k l0 a1_0 l1_1 l1_2 = some (r1, r2)),
    Calls Try.prog 58 #[.slice A0 l0.length c0, .agg #[.string a1_0, .slice A1_1 l1_1.length c1_1, .slice A1_2 l1_2.length c1_2]] w fun e w' => e = .returned (.tuple #[.string r1, .bool r2]) ∧ Below w.heap.size w w' := by
  induction k using Nat.strongRecOn with
  | _ k ih =>
  intro A0 c0 l0 a1_0 A1_1 c1_1 l1_1 A1_2 c1_2 l1_2 r1 r2 w hr0 hc0 hr1_1 hc1_1 hr1_2 hc1_2 h
  cases k with
  | zero => exact absurd h (by simp [abstract_formed.f])
  | succ k =>
  simp only [abstract_formed.f] at h
  have hu68 := Try.underlying68
  have hu105 := Try.underlying105
  have HR0 := Aside0.mk hr0
  have HC0 := Aside0.mk hc0
  clear hr0 hc0
  have HR1_1 := Aside0.mk hr1_1
  have HC1_1 := Aside0.mk hc1_1
  clear hr1_1 hc1_1
  have HR1_2 := Aside0.mk hr1_2
  have HC1_2 := Aside0.mk hc1_2
  clear hr1_2 hc1_2
  have HB := Aside0.mk (Below.refl w.heap.size w)
  have H : ((abstract_index.f k l0 a1_0).bind fun t114 => (if t114 = (l0.length : Int) then (some ((⟨#[]⟩ : ByteArray), false)) else (if 0 ≤ t114 then (if t114 < (l0.length : Int) then (if (l1_2.length : Int) = (((rd_T105 l0 t114).f1).length : Int) then (abstract_formed.j0 k l0 ((l1_1.length : Int) != ((rd_T105 l0 t114).f3)) a1_0 l1_1 l1_2 ((rd_T105 l0 t114).f0) ((rd_T105 l0 t114).f1) ((rd_T105 l0 t114).f2) ((rd_T105 l0 t114).f3)) else (abstract_formed.j0 k l0 true a1_0 l1_1 l1_2 ((rd_T105 l0 t114).f0) ((rd_T105 l0 t114).f1) ((rd_T105 l0 t114).f2) ((rd_T105 l0 t114).f3))) else (none)) else (none)))) = some (r1, r2) := h
  clear h
  replace H := Option.bind_eq_some_iff.mp H
  obtain ⟨t114, A30, H⟩ := H
  replace H : (if t114 = (l0.length : Int) then (some ((⟨#[]⟩ : ByteArray), false)) else (if 0 ≤ t114 then (if t114 < (l0.length : Int) then (if (l1_2.length : Int) = (((rd_T105 l0 t114).f1).length : Int) then (abstract_formed.j0 k l0 ((l1_1.length : Int) != ((rd_T105 l0 t114).f3)) a1_0 l1_1 l1_2 ((rd_T105 l0 t114).f0) ((rd_T105 l0 t114).f1) ((rd_T105 l0 t114).f2) ((rd_T105 l0 t114).f3)) else (abstract_formed.j0 k l0 true a1_0 l1_1 l1_2 ((rd_T105 l0 t114).f0) ((rd_T105 l0 t114).f1) ((rd_T105 l0 t114).f2) ((rd_T105 l0 t114).f3))) else (none)) else (none))) = some (r1, r2) := H
  have A3 := Aside0.mk A30
  clear A30
  by_cases c4 : t114 = (l0.length : Int)
  · rw [if_pos c4] at H
    have c4b0 : (t114 == (l0.length : Int)) = true := beq_iff_eq.mpr c4
    have c4b1 : (t114 != (l0.length : Int)) = false := bne_eq_false_iff_eq.mpr c4
    clear c4
    simp only [Option.some.injEq, Prod.mk.injEq] at H
    obtain ⟨rfl, rfl⟩ := H
    go_enter Try.func58, Try.ntmps58
    go_wp2_with (first | ((with_reducible refine gate_dst (N := 3) rfl ?_); (try (refine gate_guard (by rfl) ?_; dsimp only)); refine box_event ?hg (N := 3) ?hd (cs := #[.string a1_0, .slice A1_1 l1_1.length c1_1, .slice A1_2 l1_2.length c1_2]) (t := 68) ?hr ?_; (case hd => rfl); (case hg => rfl); (case hr => first | (go_simp; done) | (go_simp; rfl)); intro gb113 hg w5 hbox hb; have n0_ := Aside0.mk (below_step (by repeat (first | (with_reducible first | exact HB.out | apply below_alloc | apply pw_below_drewN | apply below_drew1) | exact HB.out)) hb); have n1_ := Aside0.mk (hbox); have n2_ := Aside0.mk ((by rw [hg]; exact (below_size (by repeat (first | (with_reducible first | exact HB.out | apply below_alloc | apply pw_below_drewN | apply below_drew1) | exact HB.out))) : w.heap.size ≤ gb113)); have n3_ := Aside0.mk ((by rw [hg]; exact (below_size (by repeat (first | (with_reducible first | exact HB.out | apply below_alloc | apply pw_below_drewN | apply below_drew1) | exact HB.out))) : w.heap.size ≤ gb113)); clear HB; have HB := n0_; have BK113 := n1_; have GW113 := n2_; have GE113 := n3_; clear n0_ n1_ n2_ n3_; clear hb hbox hg; have hcz6_0 : w5.cell? ⟨gb113, 0, none⟩ = some (.string a1_0) := (blk_cell BK113.out 0).trans rfl; have hcz6_1 : w5.cell? ⟨gb113, 1, none⟩ = some (.slice A1_1 l1_1.length c1_1) := (blk_cell BK113.out 1).trans rfl; have hcz6_2 : w5.cell? ⟨gb113, 2, none⟩ = some (.slice A1_2 l1_2.length c1_2) := (blk_cell BK113.out 2).trans rfl; have hfz6_0 := blk_frozen BK113.out 0; have hfz6_1 := blk_frozen BK113.out 1; have hfz6_2 := blk_frozen BK113.out 2) | ((with_reducible refine gate_callee (f := 60) rfl ?_); refine goesL_ (some 17) rfl rfl Try.func60 (by kernel_rfl) rfl #[.slice A0 l0.length c0, .string a1_0] rfl (by (try simp only [List.map_toArray, List.map_cons, List.map_nil]); first | done | rfl | (simp only [List.length_drop, List.length_take]; rfl)) ?_; (with_reducible refine (abstract_index.calls k _ _ l0 a1_0 t114 _ ?side1 ?side2 A3.out).mono ?_); (case side1 => repeat (first | exact (Kd.C_below HR0.out HB.out) | (with_reducible refine Kd.C_alloc ?_ _) | (with_reducible refine Kd.C_drewN ?_ _) | (with_reducible refine Kd.C_drew ?_))); (case side2 => exact HC0.out); rintro e w7 ⟨rfl, hb⟩; refine ⟨_, rfl, ?_⟩; have n0_ := Aside0.mk (blk_below (g := gb113) (o := .cells #[.string a1_0, .slice A1_1 l1_1.length c1_1, .slice A1_2 l1_2.length c1_2] 68 (0, 0)) (by (with_reducible repeat (first | refine blk_drewN ?_ _ | refine blk_drew ?_ | refine blk_alloc ?_ _)); exact BK113.out) hb); have n1_ := Aside0.mk (below_step (by repeat (first | (with_reducible first | exact HB.out | apply below_alloc | apply pw_below_drewN | apply below_drew1 | refine below_set ?_ GE113.out) | exact HB.out)) hb); clear BK113; clear HB; have BK113 := n0_; have HB := n1_; clear n0_ n1_; (try clear hb); (try clear hb2); (try clear hk); (try clear hi)))
    go_ret2
    exact ⟨by first | rfl | (simp [errW_none, errW_some] <;> rfl) | (simp [*, errW_none, errW_some] <;> rfl), by repeat (first | (with_reducible first | exact HB.out | apply below_alloc | apply pw_below_drewN | apply below_drew1 | refine below_set ?_ GE113.out) | exact HB.out)⟩
  · rw [if_neg c4] at H
    have c4b0 : (t114 == (l0.length : Int)) = false := beq_eq_false_iff_ne.mpr c4
    have c4b1 : (t114 != (l0.length : Int)) = true := bne_iff_ne.mpr c4
    by_cases c8 : 0 ≤ t114
    · rw [if_pos c8] at H
      have c8b0 : decide (0 ≤ t114) = true := decide_eq_true c8
      clear c8
      by_cases c9 : t114 < (l0.length : Int)
      · rw [if_pos c9] at H
        have c9b0 : decide (t114 < (l0.length : Int)) = true := decide_eq_true c9
        clear c9
        have HC10 := Aside0.mk H
        clear H
        go_enter Try.func58, Try.ntmps58
        go_upto_region 5 with (first | ((with_reducible refine gate_dst (N := 3) rfl ?_); (try (refine gate_guard (by rfl) ?_; dsimp only)); refine box_event ?hg (N := 3) ?hd (cs := #[.string a1_0, .slice A1_1 l1_1.length c1_1, .slice A1_2 l1_2.length c1_2]) (t := 68) ?hr ?_; (case hd => rfl); (case hg => rfl); (case hr => first | (go_simp; done) | (go_simp; rfl)); intro gb113 hg w11 hbox hb; have n0_ := Aside0.mk (below_step (by repeat (first | (with_reducible first | exact HB.out | apply below_alloc | apply pw_below_drewN | apply below_drew1) | exact HB.out)) hb); have n1_ := Aside0.mk (hbox); have n2_ := Aside0.mk ((by rw [hg]; exact (below_size (by repeat (first | (with_reducible first | exact HB.out | apply below_alloc | apply pw_below_drewN | apply below_drew1) | exact HB.out))) : w.heap.size ≤ gb113)); have n3_ := Aside0.mk ((by rw [hg]; exact (below_size (by repeat (first | (with_reducible first | exact HB.out | apply below_alloc | apply pw_below_drewN | apply below_drew1) | exact HB.out))) : w.heap.size ≤ gb113)); clear HB; have HB := n0_; have BK113 := n1_; have GW113 := n2_; have GE113 := n3_; clear n0_ n1_ n2_ n3_; clear hb hbox hg; have hcz12_0 : w11.cell? ⟨gb113, 0, none⟩ = some (.string a1_0) := (blk_cell BK113.out 0).trans rfl; have hcz12_1 : w11.cell? ⟨gb113, 1, none⟩ = some (.slice A1_1 l1_1.length c1_1) := (blk_cell BK113.out 1).trans rfl; have hcz12_2 : w11.cell? ⟨gb113, 2, none⟩ = some (.slice A1_2 l1_2.length c1_2) := (blk_cell BK113.out 2).trans rfl; have hfz12_0 := blk_frozen BK113.out 0; have hfz12_1 := blk_frozen BK113.out 1; have hfz12_2 := blk_frozen BK113.out 2) | ((with_reducible refine gate_callee (f := 60) rfl ?_); refine goesL_ (some 17) rfl rfl Try.func60 (by kernel_rfl) rfl #[.slice A0 l0.length c0, .string a1_0] rfl (by (try simp only [List.map_toArray, List.map_cons, List.map_nil]); first | done | rfl | (simp only [List.length_drop, List.length_take]; rfl)) ?_; (with_reducible refine (abstract_index.calls k _ _ l0 a1_0 t114 _ ?side1 ?side2 A3.out).mono ?_); (case side1 => repeat (first | exact (Kd.C_below HR0.out HB.out) | (with_reducible refine Kd.C_alloc ?_ _) | (with_reducible refine Kd.C_drewN ?_ _) | (with_reducible refine Kd.C_drew ?_))); (case side2 => exact HC0.out); rintro e w13 ⟨rfl, hb⟩; refine ⟨_, rfl, ?_⟩; have n0_ := Aside0.mk (blk_below (g := gb113) (o := .cells #[.string a1_0, .slice A1_1 l1_1.length c1_1, .slice A1_2 l1_2.length c1_2] 68 (0, 0)) (by (with_reducible repeat (first | refine blk_drewN ?_ _ | refine blk_drew ?_ | refine blk_alloc ?_ _)); exact BK113.out) hb); have n1_ := Aside0.mk (below_step (by repeat (first | (with_reducible first | exact HB.out | apply below_alloc | apply pw_below_drewN | apply below_drew1 | refine below_set ?_ GE113.out) | exact HB.out)) hb); clear BK113; clear HB; have BK113 := n0_; have HB := n1_; clear n0_ n1_; (try clear hb); (try clear hb2); (try clear hk); (try clear hi); have p115 : 0 ≤ (t114 : Int) := of_decide_eq_true (by first | (with_reducible assumption) | assumption); have q115 : t114 < (l0.length : Int) := of_decide_eq_true (by first | (with_reducible assumption) | assumption); obtain ⟨ad115, A115_1, c115_1, e115, hx115_0, hx115_1, hx115_2, hx115_3, hl115_1, hi115_1⟩ := at_T105 HR0.out t114 p115 q115; cases e115; replace hx115_0 := (HB.out.cell (World.block_lt_of_cell? w _ hx115_0)).trans hx115_0; replace hx115_1 := (HB.out.cell (World.block_lt_of_cell? w _ hx115_1)).trans hx115_1; replace hx115_2 := (HB.out.cell (World.block_lt_of_cell? w _ hx115_2)).trans hx115_2; replace hx115_3 := (HB.out.cell (World.block_lt_of_cell? w _ hx115_3)).trans hx115_3; have HR115_1 := Aside0.mk hi115_1; have HC115_1 := Aside0.mk hl115_1; clear hi115_1 hl115_1; replace p115 := eq_true p115; replace q115 := eq_true q115) | ((with_reducible refine gate_dst (N := 7) rfl ?_); (try (refine gate_guard (by rfl) ?_; dsimp only)); refine box_event ?hg (N := 7) ?hd (cs := #[.string (⟨#[]⟩ : ByteArray), .slice none 0 0, .string (⟨#[]⟩ : ByteArray), .int .i64 0]) (t := 105) ?hr ?_; (case hd => rfl); (case hg => rfl); (case hr => first | (go_simp; done) | (go_simp; rfl)); intro gb116 hg w14 hbox hb; have n0_ := Aside0.mk (blk_below (g := gb113) (o := .cells #[.string a1_0, .slice A1_1 l1_1.length c1_1, .slice A1_2 l1_2.length c1_2] 68 (0, 0)) (by (with_reducible repeat (first | refine blk_drewN ?_ _ | refine blk_drew ?_ | refine blk_alloc ?_ _)); exact BK113.out) hb); have n1_ := Aside0.mk (below_step (by repeat (first | (with_reducible first | exact HB.out | apply below_alloc | apply pw_below_drewN | apply below_drew1 | refine below_set ?_ GE113.out) | exact HB.out)) hb); have n2_ := Aside0.mk (hbox); have n3_ := Aside0.mk ((by rw [hg]; exact (below_size (by repeat (first | (with_reducible first | exact HB.out | apply below_alloc | apply pw_below_drewN | apply below_drew1 | refine below_set ?_ GE113.out) | exact HB.out))) : w.heap.size ≤ gb116)); have n4_ := Aside0.mk ((by rw [hg]; exact (below_size (by repeat (first | (with_reducible first | exact HB.out | apply below_alloc | apply pw_below_drewN | apply below_drew1 | refine below_set ?_ GE113.out) | exact HB.out))) : w.heap.size ≤ gb116)); have n5_ := Aside0.mk ((by rw [hg]; exact Nat.ne_of_lt (blk_lt (g := gb113) (o := .cells #[.string a1_0, .slice A1_1 l1_1.length c1_1, .slice A1_2 l1_2.length c1_2] 68 (0, 0)) (by (with_reducible repeat (first | refine blk_drewN ?_ _ | refine blk_drew ?_ | refine blk_alloc ?_ _)); exact BK113.out)) : gb113 ≠ gb116)); have n6_ := Aside0.mk ((by rw [hg]; exact Nat.ne_of_gt (blk_lt (g := gb113) (o := .cells #[.string a1_0, .slice A1_1 l1_1.length c1_1, .slice A1_2 l1_2.length c1_2] 68 (0, 0)) (by (with_reducible repeat (first | refine blk_drewN ?_ _ | refine blk_drew ?_ | refine blk_alloc ?_ _)); exact BK113.out)) : gb116 ≠ gb113)); clear BK113; clear HB; have BK113 := n0_; have HB := n1_; have BK116 := n2_; have GW116 := n3_; have GE116 := n4_; have NB113_116 := n5_; have NB116_113 := n6_; clear n0_ n1_ n2_ n3_ n4_ n5_ n6_; clear hb hbox hg; have hnb15 := NB116_113.out; have hnc15 := NB113_116.out; have hcz16_0 : w14.cell? ⟨gb116, 0, none⟩ = some (.string (⟨#[]⟩ : ByteArray)) := (blk_cell BK116.out 0).trans rfl; have hcz16_1 : w14.cell? ⟨gb116, 1, none⟩ = some (.slice none 0 0) := (blk_cell BK116.out 1).trans rfl; have hcz16_2 : w14.cell? ⟨gb116, 2, none⟩ = some (.string (⟨#[]⟩ : ByteArray)) := (blk_cell BK116.out 2).trans rfl; have hcz16_3 : w14.cell? ⟨gb116, 3, none⟩ = some (.int .i64 0) := (blk_cell BK116.out 3).trans rfl; have hfz16_0 := blk_frozen BK116.out 0; have hfz16_1 := blk_frozen BK116.out 1; have hfz16_2 := blk_frozen BK116.out 2; have hfz16_3 := blk_frozen BK116.out 3))
        (try simp only [Act.put, List.setIfInBounds_toArray, List.set_cons_zero, List.set_cons_succ])
        go_cut [40] (fun v40 wc => ∃ (kq : Nat) (x40_9 : Bool), v40 = .bool x40_9 ∧ Aside0 (abstract_formed.j0 kq l0 x40_9 a1_0 l1_1 l1_2 ((rd_T105 l0 t114).f0) ((rd_T105 l0 t114).f1) ((rd_T105 l0 t114).f2) ((rd_T105 l0 t114).f3) = some (r1, r2)) ∧ Aside0 (kq ≤ k) ∧ Aside0 (wc.heap[gb113]? = some (.cells #[.string a1_0, (.slice A1_1 l1_1.length c1_1), (.slice A1_2 l1_2.length c1_2)] 68 (0, 0))) ∧ Aside0 (wc.heap[gb116]? = some (.cells #[.string ((rd_T105 l0 t114).f0), (.slice A115_1 ((rd_T105 l0 t114).f1).length c115_1), .string ((rd_T105 l0 t114).f2), .int .i64 ((rd_T105 l0 t114).f3)] 105 (0, 0))) ∧ Aside0 (Below w.heap.size w wc))
        case first =>
          have H := HC10.out
          clear HC10
          by_cases c17 : (l1_2.length : Int) = (((rd_T105 l0 t114).f1).length : Int)
          · rw [if_pos c17] at H
            have c17b0 : ((l1_2.length : Int) == (((rd_T105 l0 t114).f1).length : Int)) = true := beq_iff_eq.mpr c17
            have c17b1 : ((l1_2.length : Int) != (((rd_T105 l0 t114).f1).length : Int)) = false := bne_eq_false_iff_eq.mpr c17
            have c17b2 : (l1_2.length == ((rd_T105 l0 t114).f1).length) = true := by first | simpa using c17 | (simp at c17 ⊢; omega)
            clear c17
            (first | rw [c17b0] | (simp only [i64_w, i32_w]; rw [c17b0]) | skip)
            have H' := Aside0.mk H
            clear H
            have hnb18 := NB113_116.out
            have hnc18 := NB116_113.out
            have hcz19_0 : w14.cell? ⟨gb113, 0, none⟩ = some (.string a1_0) := (blk_cell BK113.out 0).trans rfl
            have hcz19_1 : w14.cell? ⟨gb113, 1, none⟩ = some (.slice A1_1 l1_1.length c1_1) := (blk_cell BK113.out 1).trans rfl
            have hcz19_2 : w14.cell? ⟨gb113, 2, none⟩ = some (.slice A1_2 l1_2.length c1_2) := (blk_cell BK113.out 2).trans rfl
            have hfz19_0 := blk_frozen BK113.out 0
            have hfz19_1 := blk_frozen BK113.out 1
            have hfz19_2 := blk_frozen BK113.out 2
            have hcz20_0 : w14.cell? ⟨gb116, 0, none⟩ = some (.string (⟨#[]⟩ : ByteArray)) := (blk_cell BK116.out 0).trans rfl
            have hcz20_1 : w14.cell? ⟨gb116, 1, none⟩ = some (.slice none 0 0) := (blk_cell BK116.out 1).trans rfl
            have hcz20_2 : w14.cell? ⟨gb116, 2, none⟩ = some (.string (⟨#[]⟩ : ByteArray)) := (blk_cell BK116.out 2).trans rfl
            have hcz20_3 : w14.cell? ⟨gb116, 3, none⟩ = some (.int .i64 0) := (blk_cell BK116.out 3).trans rfl
            have hfz20_0 := blk_frozen BK116.out 0
            have hfz20_1 := blk_frozen BK116.out 1
            have hfz20_2 := blk_frozen BK116.out 2
            have hfz20_3 := blk_frozen BK116.out 3
            go_wp2
            go_meet
            case rel => exact ⟨_, (((l1_1.length : Int) != ((rd_T105 l0 t114).f3))), (by first | rfl | (simp; done) | (simp [*]; done)), H', ⟨by first | omega | exact Nat.le_refl _⟩, ⟨by (with_reducible repeat (first | refine blk_drewN ?_ _ | refine blk_drew ?_ | refine blk_alloc ?_ _)); refine blk_far ?_ NB113_116.out _; (with_reducible repeat (first | refine blk_drewN ?_ _ | refine blk_drew ?_ | refine blk_alloc ?_ _)); refine blk_far ?_ NB113_116.out _; (with_reducible repeat (first | refine blk_drewN ?_ _ | refine blk_drew ?_ | refine blk_alloc ?_ _)); refine blk_far ?_ NB113_116.out _; (with_reducible repeat (first | refine blk_drewN ?_ _ | refine blk_drew ?_ | refine blk_alloc ?_ _)); refine blk_far ?_ NB113_116.out _; (with_reducible repeat (first | refine blk_drewN ?_ _ | refine blk_drew ?_ | refine blk_alloc ?_ _)); exact BK113.out⟩, ⟨by (with_reducible repeat (first | refine blk_drewN ?_ _ | refine blk_drew ?_ | refine blk_alloc ?_ _)); refine blk_put (cs := #[.string ((rd_T105 l0 t114).f0), .slice A115_1 ((rd_T105 l0 t114).f1).length c115_1, .string ((rd_T105 l0 t114).f2), .int .i64 0]) ?_ 3 _ rfl; (with_reducible repeat (first | refine blk_drewN ?_ _ | refine blk_drew ?_ | refine blk_alloc ?_ _)); refine blk_put (cs := #[.string ((rd_T105 l0 t114).f0), .slice A115_1 ((rd_T105 l0 t114).f1).length c115_1, .string (⟨#[]⟩ : ByteArray), .int .i64 0]) ?_ 2 _ rfl; (with_reducible repeat (first | refine blk_drewN ?_ _ | refine blk_drew ?_ | refine blk_alloc ?_ _)); refine blk_put (cs := #[.string ((rd_T105 l0 t114).f0), .slice none 0 0, .string (⟨#[]⟩ : ByteArray), .int .i64 0]) ?_ 1 _ rfl; (with_reducible repeat (first | refine blk_drewN ?_ _ | refine blk_drew ?_ | refine blk_alloc ?_ _)); refine blk_put (cs := #[.string (⟨#[]⟩ : ByteArray), .slice none 0 0, .string (⟨#[]⟩ : ByteArray), .int .i64 0]) ?_ 0 _ rfl; (with_reducible repeat (first | refine blk_drewN ?_ _ | refine blk_drew ?_ | refine blk_alloc ?_ _)); exact BK116.out⟩, ⟨by repeat (first | (with_reducible first | exact HB.out | apply below_alloc | apply pw_below_drewN | apply below_drew1 | refine below_set ?_ GE113.out | refine below_set ?_ GE116.out) | exact HB.out)⟩⟩
          · rw [if_neg c17] at H
            have c17b0 : ((l1_2.length : Int) == (((rd_T105 l0 t114).f1).length : Int)) = false := beq_eq_false_iff_ne.mpr c17
            have c17b1 : ((l1_2.length : Int) != (((rd_T105 l0 t114).f1).length : Int)) = true := bne_iff_ne.mpr c17
            have c17b2 : (l1_2.length == ((rd_T105 l0 t114).f1).length) = false := by first | simpa using c17 | (simp at c17 ⊢; omega)
            (first | rw [c17b0] | (simp only [i64_w, i32_w]; rw [c17b0]) | skip)
            have H' := Aside0.mk H
            clear H
            have hnb21 := NB113_116.out
            have hnc21 := NB116_113.out
            have hcz22_0 : w14.cell? ⟨gb113, 0, none⟩ = some (.string a1_0) := (blk_cell BK113.out 0).trans rfl
            have hcz22_1 : w14.cell? ⟨gb113, 1, none⟩ = some (.slice A1_1 l1_1.length c1_1) := (blk_cell BK113.out 1).trans rfl
            have hcz22_2 : w14.cell? ⟨gb113, 2, none⟩ = some (.slice A1_2 l1_2.length c1_2) := (blk_cell BK113.out 2).trans rfl
            have hfz22_0 := blk_frozen BK113.out 0
            have hfz22_1 := blk_frozen BK113.out 1
            have hfz22_2 := blk_frozen BK113.out 2
            have hcz23_0 : w14.cell? ⟨gb116, 0, none⟩ = some (.string (⟨#[]⟩ : ByteArray)) := (blk_cell BK116.out 0).trans rfl
            have hcz23_1 : w14.cell? ⟨gb116, 1, none⟩ = some (.slice none 0 0) := (blk_cell BK116.out 1).trans rfl
            have hcz23_2 : w14.cell? ⟨gb116, 2, none⟩ = some (.string (⟨#[]⟩ : ByteArray)) := (blk_cell BK116.out 2).trans rfl
            have hcz23_3 : w14.cell? ⟨gb116, 3, none⟩ = some (.int .i64 0) := (blk_cell BK116.out 3).trans rfl
            have hfz23_0 := blk_frozen BK116.out 0
            have hfz23_1 := blk_frozen BK116.out 1
            have hfz23_2 := blk_frozen BK116.out 2
            have hfz23_3 := blk_frozen BK116.out 3
            go_wp2
            go_meet
            case rel => exact ⟨_, (true), (by first | rfl | (simp; done) | (simp [*]; done)), H', ⟨by first | omega | exact Nat.le_refl _⟩, ⟨by (with_reducible repeat (first | refine blk_drewN ?_ _ | refine blk_drew ?_ | refine blk_alloc ?_ _)); refine blk_far ?_ NB113_116.out _; (with_reducible repeat (first | refine blk_drewN ?_ _ | refine blk_drew ?_ | refine blk_alloc ?_ _)); refine blk_far ?_ NB113_116.out _; (with_reducible repeat (first | refine blk_drewN ?_ _ | refine blk_drew ?_ | refine blk_alloc ?_ _)); refine blk_far ?_ NB113_116.out _; (with_reducible repeat (first | refine blk_drewN ?_ _ | refine blk_drew ?_ | refine blk_alloc ?_ _)); refine blk_far ?_ NB113_116.out _; (with_reducible repeat (first | refine blk_drewN ?_ _ | refine blk_drew ?_ | refine blk_alloc ?_ _)); exact BK113.out⟩, ⟨by (with_reducible repeat (first | refine blk_drewN ?_ _ | refine blk_drew ?_ | refine blk_alloc ?_ _)); refine blk_put (cs := #[.string ((rd_T105 l0 t114).f0), .slice A115_1 ((rd_T105 l0 t114).f1).length c115_1, .string ((rd_T105 l0 t114).f2), .int .i64 0]) ?_ 3 _ rfl; (with_reducible repeat (first | refine blk_drewN ?_ _ | refine blk_drew ?_ | refine blk_alloc ?_ _)); refine blk_put (cs := #[.string ((rd_T105 l0 t114).f0), .slice A115_1 ((rd_T105 l0 t114).f1).length c115_1, .string (⟨#[]⟩ : ByteArray), .int .i64 0]) ?_ 2 _ rfl; (with_reducible repeat (first | refine blk_drewN ?_ _ | refine blk_drew ?_ | refine blk_alloc ?_ _)); refine blk_put (cs := #[.string ((rd_T105 l0 t114).f0), .slice none 0 0, .string (⟨#[]⟩ : ByteArray), .int .i64 0]) ?_ 1 _ rfl; (with_reducible repeat (first | refine blk_drewN ?_ _ | refine blk_drew ?_ | refine blk_alloc ?_ _)); refine blk_put (cs := #[.string (⟨#[]⟩ : ByteArray), .slice none 0 0, .string (⟨#[]⟩ : ByteArray), .int .i64 0]) ?_ 0 _ rfl; (with_reducible repeat (first | refine blk_drewN ?_ _ | refine blk_drew ?_ | refine blk_alloc ?_ _)); exact BK116.out⟩, ⟨by repeat (first | (with_reducible first | exact HB.out | apply below_alloc | apply pw_below_drewN | apply below_drew1 | refine below_set ?_ GE113.out | refine below_set ?_ GE116.out) | exact HB.out)⟩⟩
        case rest =>
          clear HC10
          try clear c1
          try clear p1
          try clear q1
          try clear hx1
          try clear c2
          try clear p2
          try clear c4
          try clear c4b0
          try clear c4b1
          try clear c5
          try clear c6
          try clear c8
          try clear c8b0
          try clear c9
          try clear c9b0
          try clear c11
          try clear p11
          try clear q11
          try clear hx11
          try clear c15
          try clear c17
          try clear c17b0
          try clear c17b1
          try clear c17b2
          try clear c18
          try clear c21
          try clear hcz12_0
          try clear hcz12_1
          try clear hcz12_2
          try clear hcz16_0
          try clear hcz16_1
          try clear hcz16_2
          try clear hcz16_3
          try clear hcz19_0
          try clear hcz19_1
          try clear hcz19_2
          try clear hcz20_0
          try clear hcz20_1
          try clear hcz20_2
          try clear hcz20_3
          try clear hcz22_0
          try clear hcz22_1
          try clear hcz22_2
          try clear hcz23_0
          try clear hcz23_1
          try clear hcz23_2
          try clear hcz23_3
          try clear hcz6_0
          try clear hcz6_1
          try clear hcz6_2
          try clear hfz12_0
          try clear hfz12_1
          try clear hfz12_2
          try clear hfz16_0
          try clear hfz16_1
          try clear hfz16_2
          try clear hfz16_3
          try clear hfz19_0
          try clear hfz19_1
          try clear hfz19_2
          try clear hfz20_0
          try clear hfz20_1
          try clear hfz20_2
          try clear hfz20_3
          try clear hfz22_0
          try clear hfz22_1
          try clear hfz22_2
          try clear hfz23_0
          try clear hfz23_1
          try clear hfz23_2
          try clear hfz23_3
          try clear hfz6_0
          try clear hfz6_1
          try clear hfz6_2
          try clear hx115_0
          try clear hx115_1
          try clear hx115_2
          try clear hx115_3
          try clear p115
          try clear q115
          obtain ⟨kq, x40_9, rfl, HA, HJ9, BK113, BK116, HB⟩ := hcut
          cases kq with
          | zero => exact absurd HA.out (by simp [abstract_formed.j0])
          | succ kj9 =>
            have H := HA.out
            clear HA
            simp only [abstract_formed.j0] at H
            by_cases c24 : x40_9 = true
            · subst c24
              have H1 : (some ((⟨#[]⟩ : ByteArray), false)) = some (r1, r2) := by rw [if_pos rfl] at H; exact H
              clear H
              have H := H1
              clear H1
              simp only [Option.some.injEq, Prod.mk.injEq] at H
              obtain ⟨rfl, rfl⟩ := H
              go_wp2
              go_ret2
              exact ⟨by first | rfl | (simp [errW_none, errW_some] <;> rfl) | (simp [*, errW_none, errW_some] <;> rfl), by repeat (first | (with_reducible first | exact HB.out | apply below_alloc | apply pw_below_drewN | apply below_drew1 | refine below_set ?_ GE113.out | refine below_set ?_ GE116.out) | exact HB.out)⟩
            · replace c24 := Bool.eq_false_iff.mpr c24
              subst c24
              have H1 : (abstract_formed.l0 kj9 l0 l1_1 (l1_1.length : Int) 0 a1_0 l1_1 l1_2 ((rd_T105 l0 t114).f0) ((rd_T105 l0 t114).f1) ((rd_T105 l0 t114).f2) ((rd_T105 l0 t114).f3)) = some (r1, r2) := by rw [if_neg (show ¬ (false = true) by decide)] at H; exact H
              clear H
              have H := H1
              clear H1
              have H' := Aside0.mk H
              clear H
              have hnb25 := NB113_116.out
              have hnc25 := NB116_113.out
              have hcz26_0 : wc.cell? ⟨gb113, 0, none⟩ = some (.string a1_0) := (blk_cell BK113.out 0).trans rfl
              have hcz26_1 : wc.cell? ⟨gb113, 1, none⟩ = some (.slice A1_1 l1_1.length c1_1) := (blk_cell BK113.out 1).trans rfl
              have hcz26_2 : wc.cell? ⟨gb113, 2, none⟩ = some (.slice A1_2 l1_2.length c1_2) := (blk_cell BK113.out 2).trans rfl
              have hfz26_0 := blk_frozen BK113.out 0
              have hfz26_1 := blk_frozen BK113.out 1
              have hfz26_2 := blk_frozen BK113.out 2
              go_wp2
              go_loopg [44] kj9 (fun kq v44 w' => ∃ (x44_2 : Int), v44 = .int .i64 x44_2 ∧ Aside0 (abstract_formed.l0 kq l0 l1_1 (l1_1.length : Int) x44_2 a1_0 l1_1 l1_2 ((rd_T105 l0 t114).f0) ((rd_T105 l0 t114).f1) ((rd_T105 l0 t114).f2) ((rd_T105 l0 t114).f3) = some (r1, r2)) ∧ Aside0 (kq ≤ kj9) ∧ Aside0 (w'.heap[gb113]? = some (.cells #[.string a1_0, (.slice A1_1 l1_1.length c1_1), (.slice A1_2 l1_2.length c1_2)] 68 (0, 0))) ∧ Aside0 (w'.heap[gb116]? = some (.cells #[.string ((rd_T105 l0 t114).f0), (.slice A115_1 ((rd_T105 l0 t114).f1).length c115_1), .string ((rd_T105 l0 t114).f2), .int .i64 ((rd_T105 l0 t114).f3)] 105 (0, 0))) ∧ Aside0 (Below w.heap.size w w'))
              case atStart => exact ⟨(0), (by first | rfl | (simp; done) | (simp [*]; done)), H', ⟨Nat.le_refl _⟩, ⟨by (with_reducible repeat (first | refine blk_drewN ?_ _ | refine blk_drew ?_ | refine blk_alloc ?_ _)); exact BK113.out⟩, ⟨by (with_reducible repeat (first | refine blk_drewN ?_ _ | refine blk_drew ?_ | refine blk_alloc ?_ _)); exact BK116.out⟩, ⟨by repeat (first | (with_reducible first | exact HB.out | apply below_alloc | apply pw_below_drewN | apply below_drew1 | refine below_set ?_ GE113.out | refine below_set ?_ GE116.out) | exact HB.out)⟩⟩
              case round =>
                clear H'
                try clear c1
                try clear p1
                try clear q1
                try clear hx1
                try clear c2
                try clear p2
                try clear c4
                try clear c4b0
                try clear c4b1
                try clear c5
                try clear c6
                try clear c8
                try clear c8b0
                try clear c9
                try clear c9b0
                try clear c11
                try clear p11
                try clear q11
                try clear hx11
                try clear c15
                try clear c17
                try clear c17b0
                try clear c17b1
                try clear c17b2
                try clear c18
                try clear c21
                try clear c24
                try clear c25
                try clear hcz12_0
                try clear hcz12_1
                try clear hcz12_2
                try clear hcz16_0
                try clear hcz16_1
                try clear hcz16_2
                try clear hcz16_3
                try clear hcz19_0
                try clear hcz19_1
                try clear hcz19_2
                try clear hcz20_0
                try clear hcz20_1
                try clear hcz20_2
                try clear hcz20_3
                try clear hcz22_0
                try clear hcz22_1
                try clear hcz22_2
                try clear hcz23_0
                try clear hcz23_1
                try clear hcz23_2
                try clear hcz23_3
                try clear hcz26_0
                try clear hcz26_1
                try clear hcz26_2
                try clear hcz6_0
                try clear hcz6_1
                try clear hcz6_2
                try clear hfz12_0
                try clear hfz12_1
                try clear hfz12_2
                try clear hfz16_0
                try clear hfz16_1
                try clear hfz16_2
                try clear hfz16_3
                try clear hfz19_0
                try clear hfz19_1
                try clear hfz19_2
                try clear hfz20_0
                try clear hfz20_1
                try clear hfz20_2
                try clear hfz20_3
                try clear hfz22_0
                try clear hfz22_1
                try clear hfz22_2
                try clear hfz23_0
                try clear hfz23_1
                try clear hfz23_2
                try clear hfz23_3
                try clear hfz26_0
                try clear hfz26_1
                try clear hfz26_2
                try clear hfz6_0
                try clear hfz6_1
                try clear hfz6_2
                try clear hx115_0
                try clear hx115_1
                try clear hx115_2
                try clear hx115_3
                try clear p1
                try clear p11
                try clear p115
                try clear p2
                try clear q1
                try clear q11
                try clear q115
                obtain ⟨x44_2, rfl, HA, HK2, BK113, BK116, HB⟩ := hrel
                cases gk with
                | zero => exact absurd HA.out (by simp [abstract_formed.l0])
                | succ k2 =>
                  have H := HA.out
                  clear HA
                  simp only [abstract_formed.l0] at H
                  by_cases c27 : x44_2 < (l1_1.length : Int)
                  · rw [if_pos c27] at H
                    have c27b0 : decide (x44_2 < (l1_1.length : Int)) = true := decide_eq_true c27
                    clear c27
                    by_cases c28 : 0 ≤ x44_2
                    · rw [if_pos c28] at H
                      have c28b0 : decide (0 ≤ x44_2) = true := decide_eq_true c28
                      clear c28
                      by_cases c29 : x44_2 < (l1_1.length : Int)
                      · rw [if_pos c29] at H
                        have c29b0 : decide (x44_2 < (l1_1.length : Int)) = true := decide_eq_true c29
                        clear c29
                        replace H := Option.bind_eq_some_iff.mp H
                        obtain ⟨t118, A300, H⟩ := H
                        replace H : (if t118 = true then (abstract_formed.l0 k2 l0 l1_1 (l1_1.length : Int) (wrap64 (x44_2 + 1)) a1_0 l1_1 l1_2 ((rd_T105 l0 t114).f0) ((rd_T105 l0 t114).f1) ((rd_T105 l0 t114).f2) ((rd_T105 l0 t114).f3)) else (some ((⟨#[]⟩ : ByteArray), false))) = some (r1, r2) := H
                        have A30 := Aside0.mk A300
                        clear A300
                        by_cases c31 : t118 = true
                        · subst c31
                          have H1 : (abstract_formed.l0 k2 l0 l1_1 (l1_1.length : Int) (wrap64 (x44_2 + 1)) a1_0 l1_1 l1_2 ((rd_T105 l0 t114).f0) ((rd_T105 l0 t114).f1) ((rd_T105 l0 t114).f2) ((rd_T105 l0 t114).f3)) = some (r1, r2) := by rw [if_pos rfl] at H; exact H
                          clear H
                          have H := H1
                          clear H1
                          have H' := Aside0.mk H
                          clear H
                          have p117 : 0 ≤ (x44_2 : Int) := of_decide_eq_true (by first | (with_reducible assumption) | assumption)
                          have q117 : x44_2 < (l1_1.length : Int) := of_decide_eq_true (by first | (with_reducible assumption) | assumption)
                          obtain ⟨ad117, e117, hx117_0⟩ := Kd.at_int HR1_1.out x44_2 p117 q117
                          cases e117
                          replace hx117_0 := (HB.out.cell (World.block_lt_of_cell? w _ hx117_0)).trans hx117_0
                          replace p117 := eq_true p117
                          replace q117 := eq_true q117
                          go_wp2_with (first | ((with_reducible refine gate_callee (f := 61) rfl ?_); refine goesL_ (some 49) rfl rfl Try.func61 (by kernel_rfl) rfl #[.int .i64 (rd l1_1 x44_2)] rfl (by (try simp only [List.map_toArray, List.map_cons, List.map_nil]); first | done | rfl | (simp only [List.length_drop, List.length_take]; rfl)) ?_; (with_reducible refine (abstract_isValue.calls (rd l1_1 x44_2) true _ A30.out).mono ?_); rintro e w' ⟨rfl, ⟨nd, rfl⟩⟩; refine ⟨_, rfl, ?_⟩))
                          go_roundg k2
                          case measure => have := HJ9.out; have := HK2.out; omega
                          case rel => exact ⟨(wrap64 (x44_2 + 1)), (by first | rfl | (simp; done) | (simp [*]; done)), H', ⟨by have := HJ9.out; have := HK2.out; omega⟩, ⟨by (with_reducible repeat (first | refine blk_drewN ?_ _ | refine blk_drew ?_ | refine blk_alloc ?_ _)); exact BK113.out⟩, ⟨by (with_reducible repeat (first | refine blk_drewN ?_ _ | refine blk_drew ?_ | refine blk_alloc ?_ _)); exact BK116.out⟩, ⟨by repeat (first | (with_reducible first | exact HB.out | apply below_alloc | apply pw_below_drewN | apply below_drew1 | refine below_set ?_ GE113.out | refine below_set ?_ GE116.out) | exact HB.out)⟩⟩
                        · replace c31 := Bool.eq_false_iff.mpr c31
                          subst c31
                          have H1 : (some ((⟨#[]⟩ : ByteArray), false)) = some (r1, r2) := by rw [if_neg (show ¬ (false = true) by decide)] at H; exact H
                          clear H
                          have H := H1
                          clear H1
                          simp only [Option.some.injEq, Prod.mk.injEq] at H
                          obtain ⟨rfl, rfl⟩ := H
                          have p117 : 0 ≤ (x44_2 : Int) := of_decide_eq_true (by first | (with_reducible assumption) | assumption)
                          have q117 : x44_2 < (l1_1.length : Int) := of_decide_eq_true (by first | (with_reducible assumption) | assumption)
                          obtain ⟨ad117, e117, hx117_0⟩ := Kd.at_int HR1_1.out x44_2 p117 q117
                          cases e117
                          replace hx117_0 := (HB.out.cell (World.block_lt_of_cell? w _ hx117_0)).trans hx117_0
                          replace p117 := eq_true p117
                          replace q117 := eq_true q117
                          go_wp2_with (first | ((with_reducible refine gate_callee (f := 61) rfl ?_); refine goesL_ (some 49) rfl rfl Try.func61 (by kernel_rfl) rfl #[.int .i64 (rd l1_1 x44_2)] rfl (by (try simp only [List.map_toArray, List.map_cons, List.map_nil]); first | done | rfl | (simp only [List.length_drop, List.length_take]; rfl)) ?_; (with_reducible refine (abstract_isValue.calls (rd l1_1 x44_2) false _ A30.out).mono ?_); rintro e w' ⟨rfl, ⟨nd, rfl⟩⟩; refine ⟨_, rfl, ?_⟩))
                          go_ret2
                          exact ⟨by first | rfl | (simp [errW_none, errW_some] <;> rfl) | (simp [*, errW_none, errW_some] <;> rfl), by repeat (first | (with_reducible first | exact HB.out | apply below_alloc | apply pw_below_drewN | apply below_drew1 | refine below_set ?_ GE113.out | refine below_set ?_ GE116.out) | exact HB.out)⟩
                      · rw [if_neg c29] at H
                        exact absurd H (by simp)
                    · rw [if_neg c28] at H
                      exact absurd H (by simp)
                  · rw [if_neg c27] at H
                    have c27b0 : decide (x44_2 < (l1_1.length : Int)) = false := decide_eq_false c27
                    clear c27
                    have H' := Aside0.mk H
                    clear H
                    have hnb32 := NB113_116.out
                    have hnc32 := NB116_113.out
                    have hcz33_0 : wr.cell? ⟨gb113, 0, none⟩ = some (.string a1_0) := (blk_cell BK113.out 0).trans rfl
                    have hcz33_1 : wr.cell? ⟨gb113, 1, none⟩ = some (.slice A1_1 l1_1.length c1_1) := (blk_cell BK113.out 1).trans rfl
                    have hcz33_2 : wr.cell? ⟨gb113, 2, none⟩ = some (.slice A1_2 l1_2.length c1_2) := (blk_cell BK113.out 2).trans rfl
                    have hfz33_0 := blk_frozen BK113.out 0
                    have hfz33_1 := blk_frozen BK113.out 1
                    have hfz33_2 := blk_frozen BK113.out 2
                    go_wp2
                    go_loopg [55] k2 (fun kq v55 w' => ∃ (x55_3 : Int), v55 = .int .i64 x55_3 ∧ Aside0 (abstract_formed.l1 kq l0 l1_2 (l1_2.length : Int) x55_3 ((rd_T105 l0 t114).f0) ((rd_T105 l0 t114).f1) ((rd_T105 l0 t114).f2) ((rd_T105 l0 t114).f3) = some (r1, r2)) ∧ Aside0 (kq ≤ k2) ∧ Aside0 (w'.heap[gb113]? = some (.cells #[.string a1_0, (.slice A1_1 l1_1.length c1_1), (.slice A1_2 l1_2.length c1_2)] 68 (0, 0))) ∧ Aside0 (w'.heap[gb116]? = some (.cells #[.string ((rd_T105 l0 t114).f0), (.slice A115_1 ((rd_T105 l0 t114).f1).length c115_1), .string ((rd_T105 l0 t114).f2), .int .i64 ((rd_T105 l0 t114).f3)] 105 (0, 0))) ∧ Aside0 (Below w.heap.size w w'))
                    case atStart => exact ⟨(0), (by first | rfl | (simp; done) | (simp [*]; done)), H', ⟨Nat.le_refl _⟩, ⟨by (with_reducible repeat (first | refine blk_drewN ?_ _ | refine blk_drew ?_ | refine blk_alloc ?_ _)); exact BK113.out⟩, ⟨by (with_reducible repeat (first | refine blk_drewN ?_ _ | refine blk_drew ?_ | refine blk_alloc ?_ _)); exact BK116.out⟩, ⟨by repeat (first | (with_reducible first | exact HB.out | apply below_alloc | apply pw_below_drewN | apply below_drew1 | refine below_set ?_ GE113.out | refine below_set ?_ GE116.out) | exact HB.out)⟩⟩
                    case round =>
                      clear H'
                      try clear c1
                      try clear p1
                      try clear q1
                      try clear hx1
                      try clear c2
                      try clear p2
                      try clear c3
                      try clear c4
                      try clear c4b0
                      try clear c4b1
                      try clear c5
                      try clear c6
                      try clear p6
                      try clear c8
                      try clear c8b0
                      try clear c9
                      try clear c9b0
                      try clear c11
                      try clear p11
                      try clear q11
                      try clear hx11
                      try clear c15
                      try clear c17
                      try clear c17b0
                      try clear c17b1
                      try clear c17b2
                      try clear c18
                      try clear c21
                      try clear c24
                      try clear c25
                      try clear c27
                      try clear c27b0
                      try clear c28
                      try clear c28b0
                      try clear c29
                      try clear c29b0
                      try clear c31
                      try clear c32
                      try clear hcz12_0
                      try clear hcz12_1
                      try clear hcz12_2
                      try clear hcz16_0
                      try clear hcz16_1
                      try clear hcz16_2
                      try clear hcz16_3
                      try clear hcz19_0
                      try clear hcz19_1
                      try clear hcz19_2
                      try clear hcz20_0
                      try clear hcz20_1
                      try clear hcz20_2
                      try clear hcz20_3
                      try clear hcz22_0
                      try clear hcz22_1
                      try clear hcz22_2
                      try clear hcz23_0
                      try clear hcz23_1
                      try clear hcz23_2
                      try clear hcz23_3
                      try clear hcz26_0
                      try clear hcz26_1
                      try clear hcz26_2
                      try clear hcz33_0
                      try clear hcz33_1
                      try clear hcz33_2
                      try clear hcz6_0
                      try clear hcz6_1
                      try clear hcz6_2
                      try clear hfz12_0
                      try clear hfz12_1
                      try clear hfz12_2
                      try clear hfz16_0
                      try clear hfz16_1
                      try clear hfz16_2
                      try clear hfz16_3
                      try clear hfz19_0
                      try clear hfz19_1
                      try clear hfz19_2
                      try clear hfz20_0
                      try clear hfz20_1
                      try clear hfz20_2
                      try clear hfz20_3
                      try clear hfz22_0
                      try clear hfz22_1
                      try clear hfz22_2
                      try clear hfz23_0
                      try clear hfz23_1
                      try clear hfz23_2
                      try clear hfz23_3
                      try clear hfz26_0
                      try clear hfz26_1
                      try clear hfz26_2
                      try clear hfz33_0
                      try clear hfz33_1
                      try clear hfz33_2
                      try clear hfz6_0
                      try clear hfz6_1
                      try clear hfz6_2
                      try clear hx115_0
                      try clear hx115_1
                      try clear hx115_2
                      try clear hx115_3
                      try clear hx117_0
                      try clear p1
                      try clear p11
                      try clear p115
                      try clear p117
                      try clear p2
                      try clear q1
                      try clear q11
                      try clear q115
                      try clear q117
                      obtain ⟨x55_3, rfl, HA, HK3, BK113, BK116, HB⟩ := hrel
                      cases gk with
                      | zero => exact absurd HA.out (by simp [abstract_formed.l1])
                      | succ k3 =>
                        have H := HA.out
                        clear HA
                        simp only [abstract_formed.l1] at H
                        by_cases c34 : x55_3 < (l1_2.length : Int)
                        · rw [if_pos c34] at H
                          have c34b0 : decide (x55_3 < (l1_2.length : Int)) = true := decide_eq_true c34
                          clear c34
                          by_cases c35 : 0 ≤ x55_3
                          · rw [if_pos c35] at H
                            have c35b0 : decide (0 ≤ x55_3) = true := decide_eq_true c35
                            clear c35
                            by_cases c36 : x55_3 < (l1_2.length : Int)
                            · rw [if_pos c36] at H
                              have c36b0 : decide (x55_3 < (l1_2.length : Int)) = true := decide_eq_true c36
                              clear c36
                              replace H := Option.bind_eq_some_iff.mp H
                              obtain ⟨⟨t121, t122⟩, A370, H⟩ := H
                              replace H : (if t122 = true then (if x55_3 < (((rd_T105 l0 t114).f1).length : Int) then (if t121.toList = (rdOf ByteArray.empty ((rd_T105 l0 t114).f1) x55_3).toList then (abstract_formed.l1 k3 l0 l1_2 (l1_2.length : Int) (wrap64 (x55_3 + 1)) ((rd_T105 l0 t114).f0) ((rd_T105 l0 t114).f1) ((rd_T105 l0 t114).f2) ((rd_T105 l0 t114).f3)) else (some ((⟨#[]⟩ : ByteArray), false))) else (none)) else (some ((⟨#[]⟩ : ByteArray), false))) = some (r1, r2) := H
                              have A37 := Aside0.mk A370
                              clear A370
                              by_cases c38 : t122 = true
                              · subst c38
                                have H1 : (if x55_3 < (((rd_T105 l0 t114).f1).length : Int) then (if t121.toList = (rdOf ByteArray.empty ((rd_T105 l0 t114).f1) x55_3).toList then (abstract_formed.l1 k3 l0 l1_2 (l1_2.length : Int) (wrap64 (x55_3 + 1)) ((rd_T105 l0 t114).f0) ((rd_T105 l0 t114).f1) ((rd_T105 l0 t114).f2) ((rd_T105 l0 t114).f3)) else (some ((⟨#[]⟩ : ByteArray), false))) else (none)) = some (r1, r2) := by rw [if_pos rfl] at H; exact H
                                clear H
                                have H := H1
                                clear H1
                                by_cases c39 : x55_3 < (((rd_T105 l0 t114).f1).length : Int)
                                · rw [if_pos c39] at H
                                  have c39b0 : decide (x55_3 < (((rd_T105 l0 t114).f1).length : Int)) = true := decide_eq_true c39
                                  clear c39
                                  by_cases c40 : t121.toList = (rdOf ByteArray.empty ((rd_T105 l0 t114).f1) x55_3).toList
                                  · rw [if_pos c40] at H
                                    have c40b0 : (t121.toList == (rdOf ByteArray.empty ((rd_T105 l0 t114).f1) x55_3).toList) = true := beq_iff_eq.mpr c40
                                    have c40b1 : (t121.toList != (rdOf ByteArray.empty ((rd_T105 l0 t114).f1) x55_3).toList) = false := bne_eq_false_iff_eq.mpr c40
                                    clear c40
                                    have H' := Aside0.mk H
                                    clear H
                                    have p119 : 0 ≤ (x55_3 : Int) := of_decide_eq_true (by first | (with_reducible assumption) | assumption)
                                    have q119 : x55_3 < (l1_2.length : Int) := of_decide_eq_true (by first | (with_reducible assumption) | assumption)
                                    obtain ⟨ad119, A119_1, c119_1, A119_2, c119_2, e119, hx119_0, hx119_1, hx119_2, hl119_1, hi119_1, hl119_2, hi119_2⟩ := at_T68 HR1_2.out x55_3 p119 q119
                                    cases e119
                                    replace hx119_0 := (HB.out.cell (World.block_lt_of_cell? w _ hx119_0)).trans hx119_0
                                    replace hx119_1 := (HB.out.cell (World.block_lt_of_cell? w _ hx119_1)).trans hx119_1
                                    replace hx119_2 := (HB.out.cell (World.block_lt_of_cell? w _ hx119_2)).trans hx119_2
                                    have HR119_1 := Aside0.mk hi119_1
                                    have HC119_1 := Aside0.mk hl119_1
                                    clear hi119_1 hl119_1
                                    have HR119_2 := Aside0.mk hi119_2
                                    have HC119_2 := Aside0.mk hl119_2
                                    clear hi119_2 hl119_2
                                    replace p119 := eq_true p119
                                    replace q119 := eq_true q119
                                    go_wp2_with (first | ((with_reducible refine gate_dst (N := 11) rfl ?_); (try (refine gate_guard (by rfl) ?_; dsimp only)); refine box_event ?hg (N := 11) ?hd (cs := #[.string (⟨#[]⟩ : ByteArray), .slice none 0 0, .slice none 0 0]) (t := 68) ?hr ?_; (case hd => rfl); (case hg => rfl); (case hr => first | (go_simp; done) | (go_simp; rfl)); intro gb120 hg w41 hbox hb; have n0_ := Aside0.mk (blk_below (g := gb113) (o := .cells #[.string a1_0, .slice A1_1 l1_1.length c1_1, .slice (some ad119) l1_2.length c1_2] 68 (0, 0)) (by (with_reducible repeat (first | refine blk_drewN ?_ _ | refine blk_drew ?_ | refine blk_alloc ?_ _)); exact BK113.out) hb); have n1_ := Aside0.mk (blk_below (g := gb116) (o := .cells #[.string ((rd_T105 l0 t114).f0), .slice A115_1 ((rd_T105 l0 t114).f1).length c115_1, .string ((rd_T105 l0 t114).f2), .int .i64 ((rd_T105 l0 t114).f3)] 105 (0, 0)) (by (with_reducible repeat (first | refine blk_drewN ?_ _ | refine blk_drew ?_ | refine blk_alloc ?_ _)); exact BK116.out) hb); have n2_ := Aside0.mk (below_step (by repeat (first | (with_reducible first | exact HB.out | apply below_alloc | apply pw_below_drewN | apply below_drew1 | refine below_set ?_ GE113.out | refine below_set ?_ GE116.out) | exact HB.out)) hb); have n3_ := Aside0.mk (hbox); have n4_ := Aside0.mk ((by rw [hg]; exact (below_size (by repeat (first | (with_reducible first | exact HB.out | apply below_alloc | apply pw_below_drewN | apply below_drew1 | refine below_set ?_ GE113.out | refine below_set ?_ GE116.out) | exact HB.out))) : w.heap.size ≤ gb120)); have n5_ := Aside0.mk ((by rw [hg]; exact (below_size (by repeat (first | (with_reducible first | exact HB.out | apply below_alloc | apply pw_below_drewN | apply below_drew1 | refine below_set ?_ GE113.out | refine below_set ?_ GE116.out) | exact HB.out))) : w.heap.size ≤ gb120)); have n6_ := Aside0.mk ((by rw [hg]; exact Nat.ne_of_lt (blk_lt (g := gb113) (o := .cells #[.string a1_0, .slice A1_1 l1_1.length c1_1, .slice (some ad119) l1_2.length c1_2] 68 (0, 0)) (by (with_reducible repeat (first | refine blk_drewN ?_ _ | refine blk_drew ?_ | refine blk_alloc ?_ _)); exact BK113.out)) : gb113 ≠ gb120)); have n7_ := Aside0.mk ((by rw [hg]; exact Nat.ne_of_gt (blk_lt (g := gb113) (o := .cells #[.string a1_0, .slice A1_1 l1_1.length c1_1, .slice (some ad119) l1_2.length c1_2] 68 (0, 0)) (by (with_reducible repeat (first | refine blk_drewN ?_ _ | refine blk_drew ?_ | refine blk_alloc ?_ _)); exact BK113.out)) : gb120 ≠ gb113)); have n8_ := Aside0.mk ((by rw [hg]; exact Nat.ne_of_lt (blk_lt (g := gb116) (o := .cells #[.string ((rd_T105 l0 t114).f0), .slice A115_1 ((rd_T105 l0 t114).f1).length c115_1, .string ((rd_T105 l0 t114).f2), .int .i64 ((rd_T105 l0 t114).f3)] 105 (0, 0)) (by (with_reducible repeat (first | refine blk_drewN ?_ _ | refine blk_drew ?_ | refine blk_alloc ?_ _)); exact BK116.out)) : gb116 ≠ gb120)); have n9_ := Aside0.mk ((by rw [hg]; exact Nat.ne_of_gt (blk_lt (g := gb116) (o := .cells #[.string ((rd_T105 l0 t114).f0), .slice A115_1 ((rd_T105 l0 t114).f1).length c115_1, .string ((rd_T105 l0 t114).f2), .int .i64 ((rd_T105 l0 t114).f3)] 105 (0, 0)) (by (with_reducible repeat (first | refine blk_drewN ?_ _ | refine blk_drew ?_ | refine blk_alloc ?_ _)); exact BK116.out)) : gb120 ≠ gb116)); clear BK113; clear BK116; clear HB; have BK113 := n0_; have BK116 := n1_; have HB := n2_; have BK120 := n3_; have GW120 := n4_; have GE120 := n5_; have NB113_120 := n6_; have NB120_113 := n7_; have NB116_120 := n8_; have NB120_116 := n9_; clear n0_ n1_ n2_ n3_ n4_ n5_ n6_ n7_ n8_ n9_; clear hb hbox hg; have hnb42 := NB120_113.out; have hnc42 := NB113_120.out; have hnb43 := NB120_116.out; have hnc43 := NB116_120.out; have hcz44_0 : w41.cell? ⟨gb120, 0, none⟩ = some (.string (⟨#[]⟩ : ByteArray)) := (blk_cell BK120.out 0).trans rfl; have hcz44_1 : w41.cell? ⟨gb120, 1, none⟩ = some (.slice none 0 0) := (blk_cell BK120.out 1).trans rfl; have hcz44_2 : w41.cell? ⟨gb120, 2, none⟩ = some (.slice none 0 0) := (blk_cell BK120.out 2).trans rfl; have hfz44_0 := blk_frozen BK120.out 0; have hfz44_1 := blk_frozen BK120.out 1; have hfz44_2 := blk_frozen BK120.out 2) | ((with_reducible refine gate_callee (f := 58) rfl ?_); refine goesL_ (some 63) rfl rfl Try.func58 (by kernel_rfl) rfl #[.slice (some ad115) l0.length c0, .agg #[.string ((rd_T68 l1_2 x55_3).f0), .slice A119_1 ((rd_T68 l1_2 x55_3).f1).length c119_1, .slice A119_2 ((rd_T68 l1_2 x55_3).f2).length c119_2]] rfl (by (try simp only [List.map_toArray, List.map_cons, List.map_nil]); first | done | rfl | (simp only [List.length_drop, List.length_take]; rfl)) ?_; (with_reducible refine (ih k3 (by have := HJ9.out; have := HK2.out; have := HK3.out; omega) _ _ l0 ((rd_T68 l1_2 x55_3).f0) _ _ ((rd_T68 l1_2 x55_3).f1) _ _ ((rd_T68 l1_2 x55_3).f2) t121 true _ ?side1 ?side2 ?side3 ?side4 ?side5 ?side6 A37.out).mono ?_); (case side1 => exact Kd.C_below HR0.out (by repeat (first | (with_reducible first | exact HB.out | apply below_alloc | apply pw_below_drewN | apply below_drew1 | refine below_set ?_ GE113.out | refine below_set ?_ GE116.out | refine below_set ?_ GE120.out) | exact HB.out))); (case side2 => exact HC0.out); (case side3 => exact Kd.C_below HR119_1.out (by repeat (first | (with_reducible first | exact HB.out | apply below_alloc | apply pw_below_drewN | apply below_drew1 | refine below_set ?_ GE113.out | refine below_set ?_ GE116.out | refine below_set ?_ GE120.out) | exact HB.out))); (case side4 => exact HC119_1.out); (case side5 => exact Kd.C_below HR119_2.out (by repeat (first | (with_reducible first | exact HB.out | apply below_alloc | apply pw_below_drewN | apply below_drew1 | refine below_set ?_ GE113.out | refine below_set ?_ GE116.out | refine below_set ?_ GE120.out) | exact HB.out))); (case side6 => exact HC119_2.out); rintro e w45 ⟨rfl, hb⟩; refine ⟨_, rfl, ?_⟩; have n0_ := Aside0.mk (blk_below (g := gb113) (o := .cells #[.string a1_0, .slice A1_1 l1_1.length c1_1, .slice (some ad119) l1_2.length c1_2] 68 (0, 0)) (by (with_reducible repeat (first | refine blk_drewN ?_ _ | refine blk_drew ?_ | refine blk_alloc ?_ _)); refine blk_far ?_ NB113_120.out _; (with_reducible repeat (first | refine blk_drewN ?_ _ | refine blk_drew ?_ | refine blk_alloc ?_ _)); refine blk_far ?_ NB113_120.out _; (with_reducible repeat (first | refine blk_drewN ?_ _ | refine blk_drew ?_ | refine blk_alloc ?_ _)); refine blk_far ?_ NB113_120.out _; (with_reducible repeat (first | refine blk_drewN ?_ _ | refine blk_drew ?_ | refine blk_alloc ?_ _)); exact BK113.out) hb); have n1_ := Aside0.mk (blk_below (g := gb116) (o := .cells #[.string ((rd_T105 l0 t114).f0), .slice A115_1 ((rd_T105 l0 t114).f1).length c115_1, .string ((rd_T105 l0 t114).f2), .int .i64 ((rd_T105 l0 t114).f3)] 105 (0, 0)) (by (with_reducible repeat (first | refine blk_drewN ?_ _ | refine blk_drew ?_ | refine blk_alloc ?_ _)); refine blk_far ?_ NB116_120.out _; (with_reducible repeat (first | refine blk_drewN ?_ _ | refine blk_drew ?_ | refine blk_alloc ?_ _)); refine blk_far ?_ NB116_120.out _; (with_reducible repeat (first | refine blk_drewN ?_ _ | refine blk_drew ?_ | refine blk_alloc ?_ _)); refine blk_far ?_ NB116_120.out _; (with_reducible repeat (first | refine blk_drewN ?_ _ | refine blk_drew ?_ | refine blk_alloc ?_ _)); exact BK116.out) hb); have n2_ := Aside0.mk (blk_below (g := gb120) (o := .cells #[.string ((rd_T68 l1_2 x55_3).f0), .slice A119_1 ((rd_T68 l1_2 x55_3).f1).length c119_1, .slice A119_2 ((rd_T68 l1_2 x55_3).f2).length c119_2] 68 (0, 0)) (by (with_reducible repeat (first | refine blk_drewN ?_ _ | refine blk_drew ?_ | refine blk_alloc ?_ _)); refine blk_put (cs := #[.string ((rd_T68 l1_2 x55_3).f0), .slice A119_1 ((rd_T68 l1_2 x55_3).f1).length c119_1, .slice none 0 0]) ?_ 2 _ rfl; (with_reducible repeat (first | refine blk_drewN ?_ _ | refine blk_drew ?_ | refine blk_alloc ?_ _)); refine blk_put (cs := #[.string ((rd_T68 l1_2 x55_3).f0), .slice none 0 0, .slice none 0 0]) ?_ 1 _ rfl; (with_reducible repeat (first | refine blk_drewN ?_ _ | refine blk_drew ?_ | refine blk_alloc ?_ _)); refine blk_put (cs := #[.string (⟨#[]⟩ : ByteArray), .slice none 0 0, .slice none 0 0]) ?_ 0 _ rfl; (with_reducible repeat (first | refine blk_drewN ?_ _ | refine blk_drew ?_ | refine blk_alloc ?_ _)); exact BK120.out) hb); have n3_ := Aside0.mk (below_step (by repeat (first | (with_reducible first | exact HB.out | apply below_alloc | apply pw_below_drewN | apply below_drew1 | refine below_set ?_ GE113.out | refine below_set ?_ GE116.out | refine below_set ?_ GE120.out) | exact HB.out)) hb); clear BK113; clear BK116; clear BK120; clear HB; have BK113 := n0_; have BK116 := n1_; have BK120 := n2_; have HB := n3_; clear n0_ n1_ n2_ n3_; (try clear hb); (try clear hb2); (try clear hk); (try clear hi); have hnb46 := NB116_113.out; have hnc46 := NB113_116.out; have hcz47_0 : w45.cell? ⟨gb116, 0, none⟩ = some (.string ((rd_T105 l0 t114).f0)) := (blk_cell BK116.out 0).trans rfl; have hcz47_1 : w45.cell? ⟨gb116, 1, none⟩ = some (.slice A115_1 ((rd_T105 l0 t114).f1).length c115_1) := (blk_cell BK116.out 1).trans rfl; have hcz47_2 : w45.cell? ⟨gb116, 2, none⟩ = some (.string ((rd_T105 l0 t114).f2)) := (blk_cell BK116.out 2).trans rfl; have hcz47_3 : w45.cell? ⟨gb116, 3, none⟩ = some (.int .i64 ((rd_T105 l0 t114).f3)) := (blk_cell BK116.out 3).trans rfl; have hfz47_0 := blk_frozen BK116.out 0; have hfz47_1 := blk_frozen BK116.out 1; have hfz47_2 := blk_frozen BK116.out 2; have hfz47_3 := blk_frozen BK116.out 3; have p123 : 0 ≤ (x55_3 : Int) := of_decide_eq_true (by first | (with_reducible assumption) | assumption); have q123 : x55_3 < (((rd_T105 l0 t114).f1).length : Int) := of_decide_eq_true (by first | (with_reducible assumption) | assumption); obtain ⟨ad123, e123, hx123_0⟩ := Kd.at_string HR115_1.out x55_3 p123 q123; cases e123; replace hx123_0 := (HB.out.cell (World.block_lt_of_cell? w _ hx123_0)).trans hx123_0; replace p123 := eq_true p123; replace q123 := eq_true q123))
                                    go_roundg k3
                                    case measure => have := HJ9.out; have := HK2.out; have := HK3.out; omega
                                    case rel => exact ⟨(wrap64 (x55_3 + 1)), (by first | rfl | (simp; done) | (simp [*]; done)), H', ⟨by have := HJ9.out; have := HK2.out; have := HK3.out; omega⟩, ⟨by (with_reducible repeat (first | refine blk_drewN ?_ _ | refine blk_drew ?_ | refine blk_alloc ?_ _)); exact BK113.out⟩, ⟨by (with_reducible repeat (first | refine blk_drewN ?_ _ | refine blk_drew ?_ | refine blk_alloc ?_ _)); exact BK116.out⟩, ⟨by repeat (first | (with_reducible first | exact HB.out | apply below_alloc | apply pw_below_drewN | apply below_drew1 | refine below_set ?_ GE113.out | refine below_set ?_ GE116.out | refine below_set ?_ GE120.out) | exact HB.out)⟩⟩
                                  · rw [if_neg c40] at H
                                    have c40b0 : (t121.toList == (rdOf ByteArray.empty ((rd_T105 l0 t114).f1) x55_3).toList) = false := beq_eq_false_iff_ne.mpr c40
                                    have c40b1 : (t121.toList != (rdOf ByteArray.empty ((rd_T105 l0 t114).f1) x55_3).toList) = true := bne_iff_ne.mpr c40
                                    simp only [Option.some.injEq, Prod.mk.injEq] at H
                                    obtain ⟨rfl, rfl⟩ := H
                                    have p119 : 0 ≤ (x55_3 : Int) := of_decide_eq_true (by first | (with_reducible assumption) | assumption)
                                    have q119 : x55_3 < (l1_2.length : Int) := of_decide_eq_true (by first | (with_reducible assumption) | assumption)
                                    obtain ⟨ad119, A119_1, c119_1, A119_2, c119_2, e119, hx119_0, hx119_1, hx119_2, hl119_1, hi119_1, hl119_2, hi119_2⟩ := at_T68 HR1_2.out x55_3 p119 q119
                                    cases e119
                                    replace hx119_0 := (HB.out.cell (World.block_lt_of_cell? w _ hx119_0)).trans hx119_0
                                    replace hx119_1 := (HB.out.cell (World.block_lt_of_cell? w _ hx119_1)).trans hx119_1
                                    replace hx119_2 := (HB.out.cell (World.block_lt_of_cell? w _ hx119_2)).trans hx119_2
                                    have HR119_1 := Aside0.mk hi119_1
                                    have HC119_1 := Aside0.mk hl119_1
                                    clear hi119_1 hl119_1
                                    have HR119_2 := Aside0.mk hi119_2
                                    have HC119_2 := Aside0.mk hl119_2
                                    clear hi119_2 hl119_2
                                    replace p119 := eq_true p119
                                    replace q119 := eq_true q119
                                    go_wp2_with (first | ((with_reducible refine gate_dst (N := 11) rfl ?_); (try (refine gate_guard (by rfl) ?_; dsimp only)); refine box_event ?hg (N := 11) ?hd (cs := #[.string (⟨#[]⟩ : ByteArray), .slice none 0 0, .slice none 0 0]) (t := 68) ?hr ?_; (case hd => rfl); (case hg => rfl); (case hr => first | (go_simp; done) | (go_simp; rfl)); intro gb120 hg w48 hbox hb; have n0_ := Aside0.mk (blk_below (g := gb113) (o := .cells #[.string a1_0, .slice A1_1 l1_1.length c1_1, .slice (some ad119) l1_2.length c1_2] 68 (0, 0)) (by (with_reducible repeat (first | refine blk_drewN ?_ _ | refine blk_drew ?_ | refine blk_alloc ?_ _)); exact BK113.out) hb); have n1_ := Aside0.mk (blk_below (g := gb116) (o := .cells #[.string ((rd_T105 l0 t114).f0), .slice A115_1 ((rd_T105 l0 t114).f1).length c115_1, .string ((rd_T105 l0 t114).f2), .int .i64 ((rd_T105 l0 t114).f3)] 105 (0, 0)) (by (with_reducible repeat (first | refine blk_drewN ?_ _ | refine blk_drew ?_ | refine blk_alloc ?_ _)); exact BK116.out) hb); have n2_ := Aside0.mk (below_step (by repeat (first | (with_reducible first | exact HB.out | apply below_alloc | apply pw_below_drewN | apply below_drew1 | refine below_set ?_ GE113.out | refine below_set ?_ GE116.out) | exact HB.out)) hb); have n3_ := Aside0.mk (hbox); have n4_ := Aside0.mk ((by rw [hg]; exact (below_size (by repeat (first | (with_reducible first | exact HB.out | apply below_alloc | apply pw_below_drewN | apply below_drew1 | refine below_set ?_ GE113.out | refine below_set ?_ GE116.out) | exact HB.out))) : w.heap.size ≤ gb120)); have n5_ := Aside0.mk ((by rw [hg]; exact (below_size (by repeat (first | (with_reducible first | exact HB.out | apply below_alloc | apply pw_below_drewN | apply below_drew1 | refine below_set ?_ GE113.out | refine below_set ?_ GE116.out) | exact HB.out))) : w.heap.size ≤ gb120)); have n6_ := Aside0.mk ((by rw [hg]; exact Nat.ne_of_lt (blk_lt (g := gb113) (o := .cells #[.string a1_0, .slice A1_1 l1_1.length c1_1, .slice (some ad119) l1_2.length c1_2] 68 (0, 0)) (by (with_reducible repeat (first | refine blk_drewN ?_ _ | refine blk_drew ?_ | refine blk_alloc ?_ _)); exact BK113.out)) : gb113 ≠ gb120)); have n7_ := Aside0.mk ((by rw [hg]; exact Nat.ne_of_gt (blk_lt (g := gb113) (o := .cells #[.string a1_0, .slice A1_1 l1_1.length c1_1, .slice (some ad119) l1_2.length c1_2] 68 (0, 0)) (by (with_reducible repeat (first | refine blk_drewN ?_ _ | refine blk_drew ?_ | refine blk_alloc ?_ _)); exact BK113.out)) : gb120 ≠ gb113)); have n8_ := Aside0.mk ((by rw [hg]; exact Nat.ne_of_lt (blk_lt (g := gb116) (o := .cells #[.string ((rd_T105 l0 t114).f0), .slice A115_1 ((rd_T105 l0 t114).f1).length c115_1, .string ((rd_T105 l0 t114).f2), .int .i64 ((rd_T105 l0 t114).f3)] 105 (0, 0)) (by (with_reducible repeat (first | refine blk_drewN ?_ _ | refine blk_drew ?_ | refine blk_alloc ?_ _)); exact BK116.out)) : gb116 ≠ gb120)); have n9_ := Aside0.mk ((by rw [hg]; exact Nat.ne_of_gt (blk_lt (g := gb116) (o := .cells #[.string ((rd_T105 l0 t114).f0), .slice A115_1 ((rd_T105 l0 t114).f1).length c115_1, .string ((rd_T105 l0 t114).f2), .int .i64 ((rd_T105 l0 t114).f3)] 105 (0, 0)) (by (with_reducible repeat (first | refine blk_drewN ?_ _ | refine blk_drew ?_ | refine blk_alloc ?_ _)); exact BK116.out)) : gb120 ≠ gb116)); clear BK113; clear BK116; clear HB; have BK113 := n0_; have BK116 := n1_; have HB := n2_; have BK120 := n3_; have GW120 := n4_; have GE120 := n5_; have NB113_120 := n6_; have NB120_113 := n7_; have NB116_120 := n8_; have NB120_116 := n9_; clear n0_ n1_ n2_ n3_ n4_ n5_ n6_ n7_ n8_ n9_; clear hb hbox hg; have hnb49 := NB120_113.out; have hnc49 := NB113_120.out; have hnb50 := NB120_116.out; have hnc50 := NB116_120.out; have hcz51_0 : w48.cell? ⟨gb120, 0, none⟩ = some (.string (⟨#[]⟩ : ByteArray)) := (blk_cell BK120.out 0).trans rfl; have hcz51_1 : w48.cell? ⟨gb120, 1, none⟩ = some (.slice none 0 0) := (blk_cell BK120.out 1).trans rfl; have hcz51_2 : w48.cell? ⟨gb120, 2, none⟩ = some (.slice none 0 0) := (blk_cell BK120.out 2).trans rfl; have hfz51_0 := blk_frozen BK120.out 0; have hfz51_1 := blk_frozen BK120.out 1; have hfz51_2 := blk_frozen BK120.out 2) | ((with_reducible refine gate_callee (f := 58) rfl ?_); refine goesL_ (some 63) rfl rfl Try.func58 (by kernel_rfl) rfl #[.slice (some ad115) l0.length c0, .agg #[.string ((rd_T68 l1_2 x55_3).f0), .slice A119_1 ((rd_T68 l1_2 x55_3).f1).length c119_1, .slice A119_2 ((rd_T68 l1_2 x55_3).f2).length c119_2]] rfl (by (try simp only [List.map_toArray, List.map_cons, List.map_nil]); first | done | rfl | (simp only [List.length_drop, List.length_take]; rfl)) ?_; (with_reducible refine (ih k3 (by have := HJ9.out; have := HK2.out; have := HK3.out; omega) _ _ l0 ((rd_T68 l1_2 x55_3).f0) _ _ ((rd_T68 l1_2 x55_3).f1) _ _ ((rd_T68 l1_2 x55_3).f2) t121 true _ ?side1 ?side2 ?side3 ?side4 ?side5 ?side6 A37.out).mono ?_); (case side1 => exact Kd.C_below HR0.out (by repeat (first | (with_reducible first | exact HB.out | apply below_alloc | apply pw_below_drewN | apply below_drew1 | refine below_set ?_ GE113.out | refine below_set ?_ GE116.out | refine below_set ?_ GE120.out) | exact HB.out))); (case side2 => exact HC0.out); (case side3 => exact Kd.C_below HR119_1.out (by repeat (first | (with_reducible first | exact HB.out | apply below_alloc | apply pw_below_drewN | apply below_drew1 | refine below_set ?_ GE113.out | refine below_set ?_ GE116.out | refine below_set ?_ GE120.out) | exact HB.out))); (case side4 => exact HC119_1.out); (case side5 => exact Kd.C_below HR119_2.out (by repeat (first | (with_reducible first | exact HB.out | apply below_alloc | apply pw_below_drewN | apply below_drew1 | refine below_set ?_ GE113.out | refine below_set ?_ GE116.out | refine below_set ?_ GE120.out) | exact HB.out))); (case side6 => exact HC119_2.out); rintro e w52 ⟨rfl, hb⟩; refine ⟨_, rfl, ?_⟩; have n0_ := Aside0.mk (blk_below (g := gb113) (o := .cells #[.string a1_0, .slice A1_1 l1_1.length c1_1, .slice (some ad119) l1_2.length c1_2] 68 (0, 0)) (by (with_reducible repeat (first | refine blk_drewN ?_ _ | refine blk_drew ?_ | refine blk_alloc ?_ _)); refine blk_far ?_ NB113_120.out _; (with_reducible repeat (first | refine blk_drewN ?_ _ | refine blk_drew ?_ | refine blk_alloc ?_ _)); refine blk_far ?_ NB113_120.out _; (with_reducible repeat (first | refine blk_drewN ?_ _ | refine blk_drew ?_ | refine blk_alloc ?_ _)); refine blk_far ?_ NB113_120.out _; (with_reducible repeat (first | refine blk_drewN ?_ _ | refine blk_drew ?_ | refine blk_alloc ?_ _)); exact BK113.out) hb); have n1_ := Aside0.mk (blk_below (g := gb116) (o := .cells #[.string ((rd_T105 l0 t114).f0), .slice A115_1 ((rd_T105 l0 t114).f1).length c115_1, .string ((rd_T105 l0 t114).f2), .int .i64 ((rd_T105 l0 t114).f3)] 105 (0, 0)) (by (with_reducible repeat (first | refine blk_drewN ?_ _ | refine blk_drew ?_ | refine blk_alloc ?_ _)); refine blk_far ?_ NB116_120.out _; (with_reducible repeat (first | refine blk_drewN ?_ _ | refine blk_drew ?_ | refine blk_alloc ?_ _)); refine blk_far ?_ NB116_120.out _; (with_reducible repeat (first | refine blk_drewN ?_ _ | refine blk_drew ?_ | refine blk_alloc ?_ _)); refine blk_far ?_ NB116_120.out _; (with_reducible repeat (first | refine blk_drewN ?_ _ | refine blk_drew ?_ | refine blk_alloc ?_ _)); exact BK116.out) hb); have n2_ := Aside0.mk (blk_below (g := gb120) (o := .cells #[.string ((rd_T68 l1_2 x55_3).f0), .slice A119_1 ((rd_T68 l1_2 x55_3).f1).length c119_1, .slice A119_2 ((rd_T68 l1_2 x55_3).f2).length c119_2] 68 (0, 0)) (by (with_reducible repeat (first | refine blk_drewN ?_ _ | refine blk_drew ?_ | refine blk_alloc ?_ _)); refine blk_put (cs := #[.string ((rd_T68 l1_2 x55_3).f0), .slice A119_1 ((rd_T68 l1_2 x55_3).f1).length c119_1, .slice none 0 0]) ?_ 2 _ rfl; (with_reducible repeat (first | refine blk_drewN ?_ _ | refine blk_drew ?_ | refine blk_alloc ?_ _)); refine blk_put (cs := #[.string ((rd_T68 l1_2 x55_3).f0), .slice none 0 0, .slice none 0 0]) ?_ 1 _ rfl; (with_reducible repeat (first | refine blk_drewN ?_ _ | refine blk_drew ?_ | refine blk_alloc ?_ _)); refine blk_put (cs := #[.string (⟨#[]⟩ : ByteArray), .slice none 0 0, .slice none 0 0]) ?_ 0 _ rfl; (with_reducible repeat (first | refine blk_drewN ?_ _ | refine blk_drew ?_ | refine blk_alloc ?_ _)); exact BK120.out) hb); have n3_ := Aside0.mk (below_step (by repeat (first | (with_reducible first | exact HB.out | apply below_alloc | apply pw_below_drewN | apply below_drew1 | refine below_set ?_ GE113.out | refine below_set ?_ GE116.out | refine below_set ?_ GE120.out) | exact HB.out)) hb); clear BK113; clear BK116; clear BK120; clear HB; have BK113 := n0_; have BK116 := n1_; have BK120 := n2_; have HB := n3_; clear n0_ n1_ n2_ n3_; (try clear hb); (try clear hb2); (try clear hk); (try clear hi); have hnb53 := NB116_113.out; have hnc53 := NB113_116.out; have hcz54_0 : w52.cell? ⟨gb116, 0, none⟩ = some (.string ((rd_T105 l0 t114).f0)) := (blk_cell BK116.out 0).trans rfl; have hcz54_1 : w52.cell? ⟨gb116, 1, none⟩ = some (.slice A115_1 ((rd_T105 l0 t114).f1).length c115_1) := (blk_cell BK116.out 1).trans rfl; have hcz54_2 : w52.cell? ⟨gb116, 2, none⟩ = some (.string ((rd_T105 l0 t114).f2)) := (blk_cell BK116.out 2).trans rfl; have hcz54_3 : w52.cell? ⟨gb116, 3, none⟩ = some (.int .i64 ((rd_T105 l0 t114).f3)) := (blk_cell BK116.out 3).trans rfl; have hfz54_0 := blk_frozen BK116.out 0; have hfz54_1 := blk_frozen BK116.out 1; have hfz54_2 := blk_frozen BK116.out 2; have hfz54_3 := blk_frozen BK116.out 3; have p123 : 0 ≤ (x55_3 : Int) := of_decide_eq_true (by first | (with_reducible assumption) | assumption); have q123 : x55_3 < (((rd_T105 l0 t114).f1).length : Int) := of_decide_eq_true (by first | (with_reducible assumption) | assumption); obtain ⟨ad123, e123, hx123_0⟩ := Kd.at_string HR115_1.out x55_3 p123 q123; cases e123; replace hx123_0 := (HB.out.cell (World.block_lt_of_cell? w _ hx123_0)).trans hx123_0; replace p123 := eq_true p123; replace q123 := eq_true q123))
                                    go_ret2
                                    exact ⟨by first | rfl | (simp [errW_none, errW_some] <;> rfl) | (simp [*, errW_none, errW_some] <;> rfl), by repeat (first | (with_reducible first | exact HB.out | apply below_alloc | apply pw_below_drewN | apply below_drew1 | refine below_set ?_ GE113.out | refine below_set ?_ GE116.out | refine below_set ?_ GE120.out) | exact HB.out)⟩
                                · rw [if_neg c39] at H
                                  exact absurd H (by simp)
                              · replace c38 := Bool.eq_false_iff.mpr c38
                                subst c38
                                have H1 : (some ((⟨#[]⟩ : ByteArray), false)) = some (r1, r2) := by rw [if_neg (show ¬ (false = true) by decide)] at H; exact H
                                clear H
                                have H := H1
                                clear H1
                                simp only [Option.some.injEq, Prod.mk.injEq] at H
                                obtain ⟨rfl, rfl⟩ := H
                                have p119 : 0 ≤ (x55_3 : Int) := of_decide_eq_true (by first | (with_reducible assumption) | assumption)
                                have q119 : x55_3 < (l1_2.length : Int) := of_decide_eq_true (by first | (with_reducible assumption) | assumption)
                                obtain ⟨ad119, A119_1, c119_1, A119_2, c119_2, e119, hx119_0, hx119_1, hx119_2, hl119_1, hi119_1, hl119_2, hi119_2⟩ := at_T68 HR1_2.out x55_3 p119 q119
                                cases e119
                                replace hx119_0 := (HB.out.cell (World.block_lt_of_cell? w _ hx119_0)).trans hx119_0
                                replace hx119_1 := (HB.out.cell (World.block_lt_of_cell? w _ hx119_1)).trans hx119_1
                                replace hx119_2 := (HB.out.cell (World.block_lt_of_cell? w _ hx119_2)).trans hx119_2
                                have HR119_1 := Aside0.mk hi119_1
                                have HC119_1 := Aside0.mk hl119_1
                                clear hi119_1 hl119_1
                                have HR119_2 := Aside0.mk hi119_2
                                have HC119_2 := Aside0.mk hl119_2
                                clear hi119_2 hl119_2
                                replace p119 := eq_true p119
                                replace q119 := eq_true q119
                                go_wp2_with (first | ((with_reducible refine gate_dst (N := 11) rfl ?_); (try (refine gate_guard (by rfl) ?_; dsimp only)); refine box_event ?hg (N := 11) ?hd (cs := #[.string (⟨#[]⟩ : ByteArray), .slice none 0 0, .slice none 0 0]) (t := 68) ?hr ?_; (case hd => rfl); (case hg => rfl); (case hr => first | (go_simp; done) | (go_simp; rfl)); intro gb120 hg w55 hbox hb; have n0_ := Aside0.mk (blk_below (g := gb113) (o := .cells #[.string a1_0, .slice A1_1 l1_1.length c1_1, .slice (some ad119) l1_2.length c1_2] 68 (0, 0)) (by (with_reducible repeat (first | refine blk_drewN ?_ _ | refine blk_drew ?_ | refine blk_alloc ?_ _)); exact BK113.out) hb); have n1_ := Aside0.mk (blk_below (g := gb116) (o := .cells #[.string ((rd_T105 l0 t114).f0), .slice A115_1 ((rd_T105 l0 t114).f1).length c115_1, .string ((rd_T105 l0 t114).f2), .int .i64 ((rd_T105 l0 t114).f3)] 105 (0, 0)) (by (with_reducible repeat (first | refine blk_drewN ?_ _ | refine blk_drew ?_ | refine blk_alloc ?_ _)); exact BK116.out) hb); have n2_ := Aside0.mk (below_step (by repeat (first | (with_reducible first | exact HB.out | apply below_alloc | apply pw_below_drewN | apply below_drew1 | refine below_set ?_ GE113.out | refine below_set ?_ GE116.out) | exact HB.out)) hb); have n3_ := Aside0.mk (hbox); have n4_ := Aside0.mk ((by rw [hg]; exact (below_size (by repeat (first | (with_reducible first | exact HB.out | apply below_alloc | apply pw_below_drewN | apply below_drew1 | refine below_set ?_ GE113.out | refine below_set ?_ GE116.out) | exact HB.out))) : w.heap.size ≤ gb120)); have n5_ := Aside0.mk ((by rw [hg]; exact (below_size (by repeat (first | (with_reducible first | exact HB.out | apply below_alloc | apply pw_below_drewN | apply below_drew1 | refine below_set ?_ GE113.out | refine below_set ?_ GE116.out) | exact HB.out))) : w.heap.size ≤ gb120)); have n6_ := Aside0.mk ((by rw [hg]; exact Nat.ne_of_lt (blk_lt (g := gb113) (o := .cells #[.string a1_0, .slice A1_1 l1_1.length c1_1, .slice (some ad119) l1_2.length c1_2] 68 (0, 0)) (by (with_reducible repeat (first | refine blk_drewN ?_ _ | refine blk_drew ?_ | refine blk_alloc ?_ _)); exact BK113.out)) : gb113 ≠ gb120)); have n7_ := Aside0.mk ((by rw [hg]; exact Nat.ne_of_gt (blk_lt (g := gb113) (o := .cells #[.string a1_0, .slice A1_1 l1_1.length c1_1, .slice (some ad119) l1_2.length c1_2] 68 (0, 0)) (by (with_reducible repeat (first | refine blk_drewN ?_ _ | refine blk_drew ?_ | refine blk_alloc ?_ _)); exact BK113.out)) : gb120 ≠ gb113)); have n8_ := Aside0.mk ((by rw [hg]; exact Nat.ne_of_lt (blk_lt (g := gb116) (o := .cells #[.string ((rd_T105 l0 t114).f0), .slice A115_1 ((rd_T105 l0 t114).f1).length c115_1, .string ((rd_T105 l0 t114).f2), .int .i64 ((rd_T105 l0 t114).f3)] 105 (0, 0)) (by (with_reducible repeat (first | refine blk_drewN ?_ _ | refine blk_drew ?_ | refine blk_alloc ?_ _)); exact BK116.out)) : gb116 ≠ gb120)); have n9_ := Aside0.mk ((by rw [hg]; exact Nat.ne_of_gt (blk_lt (g := gb116) (o := .cells #[.string ((rd_T105 l0 t114).f0), .slice A115_1 ((rd_T105 l0 t114).f1).length c115_1, .string ((rd_T105 l0 t114).f2), .int .i64 ((rd_T105 l0 t114).f3)] 105 (0, 0)) (by (with_reducible repeat (first | refine blk_drewN ?_ _ | refine blk_drew ?_ | refine blk_alloc ?_ _)); exact BK116.out)) : gb120 ≠ gb116)); clear BK113; clear BK116; clear HB; have BK113 := n0_; have BK116 := n1_; have HB := n2_; have BK120 := n3_; have GW120 := n4_; have GE120 := n5_; have NB113_120 := n6_; have NB120_113 := n7_; have NB116_120 := n8_; have NB120_116 := n9_; clear n0_ n1_ n2_ n3_ n4_ n5_ n6_ n7_ n8_ n9_; clear hb hbox hg; have hnb56 := NB120_113.out; have hnc56 := NB113_120.out; have hnb57 := NB120_116.out; have hnc57 := NB116_120.out; have hcz58_0 : w55.cell? ⟨gb120, 0, none⟩ = some (.string (⟨#[]⟩ : ByteArray)) := (blk_cell BK120.out 0).trans rfl; have hcz58_1 : w55.cell? ⟨gb120, 1, none⟩ = some (.slice none 0 0) := (blk_cell BK120.out 1).trans rfl; have hcz58_2 : w55.cell? ⟨gb120, 2, none⟩ = some (.slice none 0 0) := (blk_cell BK120.out 2).trans rfl; have hfz58_0 := blk_frozen BK120.out 0; have hfz58_1 := blk_frozen BK120.out 1; have hfz58_2 := blk_frozen BK120.out 2) | ((with_reducible refine gate_callee (f := 58) rfl ?_); refine goesL_ (some 63) rfl rfl Try.func58 (by kernel_rfl) rfl #[.slice (some ad115) l0.length c0, .agg #[.string ((rd_T68 l1_2 x55_3).f0), .slice A119_1 ((rd_T68 l1_2 x55_3).f1).length c119_1, .slice A119_2 ((rd_T68 l1_2 x55_3).f2).length c119_2]] rfl (by (try simp only [List.map_toArray, List.map_cons, List.map_nil]); first | done | rfl | (simp only [List.length_drop, List.length_take]; rfl)) ?_; (with_reducible refine (ih k3 (by have := HJ9.out; have := HK2.out; have := HK3.out; omega) _ _ l0 ((rd_T68 l1_2 x55_3).f0) _ _ ((rd_T68 l1_2 x55_3).f1) _ _ ((rd_T68 l1_2 x55_3).f2) t121 false _ ?side1 ?side2 ?side3 ?side4 ?side5 ?side6 A37.out).mono ?_); (case side1 => exact Kd.C_below HR0.out (by repeat (first | (with_reducible first | exact HB.out | apply below_alloc | apply pw_below_drewN | apply below_drew1 | refine below_set ?_ GE113.out | refine below_set ?_ GE116.out | refine below_set ?_ GE120.out) | exact HB.out))); (case side2 => exact HC0.out); (case side3 => exact Kd.C_below HR119_1.out (by repeat (first | (with_reducible first | exact HB.out | apply below_alloc | apply pw_below_drewN | apply below_drew1 | refine below_set ?_ GE113.out | refine below_set ?_ GE116.out | refine below_set ?_ GE120.out) | exact HB.out))); (case side4 => exact HC119_1.out); (case side5 => exact Kd.C_below HR119_2.out (by repeat (first | (with_reducible first | exact HB.out | apply below_alloc | apply pw_below_drewN | apply below_drew1 | refine below_set ?_ GE113.out | refine below_set ?_ GE116.out | refine below_set ?_ GE120.out) | exact HB.out))); (case side6 => exact HC119_2.out); rintro e w59 ⟨rfl, hb⟩; refine ⟨_, rfl, ?_⟩; have n0_ := Aside0.mk (blk_below (g := gb113) (o := .cells #[.string a1_0, .slice A1_1 l1_1.length c1_1, .slice (some ad119) l1_2.length c1_2] 68 (0, 0)) (by (with_reducible repeat (first | refine blk_drewN ?_ _ | refine blk_drew ?_ | refine blk_alloc ?_ _)); refine blk_far ?_ NB113_120.out _; (with_reducible repeat (first | refine blk_drewN ?_ _ | refine blk_drew ?_ | refine blk_alloc ?_ _)); refine blk_far ?_ NB113_120.out _; (with_reducible repeat (first | refine blk_drewN ?_ _ | refine blk_drew ?_ | refine blk_alloc ?_ _)); refine blk_far ?_ NB113_120.out _; (with_reducible repeat (first | refine blk_drewN ?_ _ | refine blk_drew ?_ | refine blk_alloc ?_ _)); exact BK113.out) hb); have n1_ := Aside0.mk (blk_below (g := gb116) (o := .cells #[.string ((rd_T105 l0 t114).f0), .slice A115_1 ((rd_T105 l0 t114).f1).length c115_1, .string ((rd_T105 l0 t114).f2), .int .i64 ((rd_T105 l0 t114).f3)] 105 (0, 0)) (by (with_reducible repeat (first | refine blk_drewN ?_ _ | refine blk_drew ?_ | refine blk_alloc ?_ _)); refine blk_far ?_ NB116_120.out _; (with_reducible repeat (first | refine blk_drewN ?_ _ | refine blk_drew ?_ | refine blk_alloc ?_ _)); refine blk_far ?_ NB116_120.out _; (with_reducible repeat (first | refine blk_drewN ?_ _ | refine blk_drew ?_ | refine blk_alloc ?_ _)); refine blk_far ?_ NB116_120.out _; (with_reducible repeat (first | refine blk_drewN ?_ _ | refine blk_drew ?_ | refine blk_alloc ?_ _)); exact BK116.out) hb); have n2_ := Aside0.mk (blk_below (g := gb120) (o := .cells #[.string ((rd_T68 l1_2 x55_3).f0), .slice A119_1 ((rd_T68 l1_2 x55_3).f1).length c119_1, .slice A119_2 ((rd_T68 l1_2 x55_3).f2).length c119_2] 68 (0, 0)) (by (with_reducible repeat (first | refine blk_drewN ?_ _ | refine blk_drew ?_ | refine blk_alloc ?_ _)); refine blk_put (cs := #[.string ((rd_T68 l1_2 x55_3).f0), .slice A119_1 ((rd_T68 l1_2 x55_3).f1).length c119_1, .slice none 0 0]) ?_ 2 _ rfl; (with_reducible repeat (first | refine blk_drewN ?_ _ | refine blk_drew ?_ | refine blk_alloc ?_ _)); refine blk_put (cs := #[.string ((rd_T68 l1_2 x55_3).f0), .slice none 0 0, .slice none 0 0]) ?_ 1 _ rfl; (with_reducible repeat (first | refine blk_drewN ?_ _ | refine blk_drew ?_ | refine blk_alloc ?_ _)); refine blk_put (cs := #[.string (⟨#[]⟩ : ByteArray), .slice none 0 0, .slice none 0 0]) ?_ 0 _ rfl; (with_reducible repeat (first | refine blk_drewN ?_ _ | refine blk_drew ?_ | refine blk_alloc ?_ _)); exact BK120.out) hb); have n3_ := Aside0.mk (below_step (by repeat (first | (with_reducible first | exact HB.out | apply below_alloc | apply pw_below_drewN | apply below_drew1 | refine below_set ?_ GE113.out | refine below_set ?_ GE116.out | refine below_set ?_ GE120.out) | exact HB.out)) hb); clear BK113; clear BK116; clear BK120; clear HB; have BK113 := n0_; have BK116 := n1_; have BK120 := n2_; have HB := n3_; clear n0_ n1_ n2_ n3_; (try clear hb); (try clear hb2); (try clear hk); (try clear hi)))
                                go_ret2
                                exact ⟨by first | rfl | (simp [errW_none, errW_some] <;> rfl) | (simp [*, errW_none, errW_some] <;> rfl), by repeat (first | (with_reducible first | exact HB.out | apply below_alloc | apply pw_below_drewN | apply below_drew1 | refine below_set ?_ GE113.out | refine below_set ?_ GE116.out | refine below_set ?_ GE120.out) | exact HB.out)⟩
                            · rw [if_neg c36] at H
                              exact absurd H (by simp)
                          · rw [if_neg c35] at H
                            exact absurd H (by simp)
                        · rw [if_neg c34] at H
                          have c34b0 : decide (x55_3 < (l1_2.length : Int)) = false := decide_eq_false c34
                          clear c34
                          simp only [Option.some.injEq, Prod.mk.injEq] at H
                          obtain ⟨rfl, rfl⟩ := H
                          have hnb60 := NB116_113.out
                          have hnc60 := NB113_116.out
                          have hcz61_0 : wr.cell? ⟨gb116, 0, none⟩ = some (.string ((rd_T105 l0 t114).f0)) := (blk_cell BK116.out 0).trans rfl
                          have hcz61_1 : wr.cell? ⟨gb116, 1, none⟩ = some (.slice A115_1 ((rd_T105 l0 t114).f1).length c115_1) := (blk_cell BK116.out 1).trans rfl
                          have hcz61_2 : wr.cell? ⟨gb116, 2, none⟩ = some (.string ((rd_T105 l0 t114).f2)) := (blk_cell BK116.out 2).trans rfl
                          have hcz61_3 : wr.cell? ⟨gb116, 3, none⟩ = some (.int .i64 ((rd_T105 l0 t114).f3)) := (blk_cell BK116.out 3).trans rfl
                          have hfz61_0 := blk_frozen BK116.out 0
                          have hfz61_1 := blk_frozen BK116.out 1
                          have hfz61_2 := blk_frozen BK116.out 2
                          have hfz61_3 := blk_frozen BK116.out 3
                          go_wp2
                          go_ret2
                          exact ⟨by first | rfl | (simp [errW_none, errW_some] <;> rfl) | (simp [*, errW_none, errW_some] <;> rfl), by repeat (first | (with_reducible first | exact HB.out | apply below_alloc | apply pw_below_drewN | apply below_drew1 | refine below_set ?_ GE113.out | refine below_set ?_ GE116.out) | exact HB.out)⟩
      · rw [if_neg c9] at H
        exact absurd H (by simp)
    · rw [if_neg c8] at H
      exact absurd H (by simp)

/-! ### abstract_Category: function 54 -/
def abstract_Category.f (k : Nat) (l0 : List (S105)) (a1_0 : ByteArray) (l1_1 : List Int) (l1_2 : List (S68)) : Option (ByteArray × Int) := (abstract_Size.f k a1_0 l1_1 l1_2).bind fun t125 => (if t125 > 60 then (some ((⟨#[]⟩ : ByteArray), 2)) else ((abstract_formed.f k l0 a1_0 l1_1 l1_2).bind fun bt126 => (if bt126.2 = true then (some (bt126.1, 0)) else (some ((⟨#[]⟩ : ByteArray), 6)))))
theorem abstract_Category.mono : ∀ a0 a1 a2 a3 k, LeO (abstract_Category.f k a0 a1 a2 a3) (abstract_Category.f (k + 1) a0 a1 a2 a3) := by
  intro a0 a1 a2 a3 k
  unfold abstract_Category.f
  repeat' first
      | (with_reducible exact abstract_Size.mono _ _ _ _)
      | (with_reducible exact abstract_formed.mono _ _ _ _ _)
      | (with_reducible exact LeO.refl _)
      | (with_reducible exact LeO.none _)
      | (with_reducible refine LeO.ite ?_ ?_)
      | (with_reducible refine LeO.bind ?_ (fun _ => ?_))
      | exact abstract_Size.mono _ _ _ _
      | exact abstract_formed.mono _ _ _ _ _
      | exact LeO.none _
      | refine LeO.ite ?_ ?_
      | refine LeO.bind ?_ (fun _ => ?_)
set_option maxHeartbeats 8000000 in
set_option maxRecDepth 100000 in
theorem abstract_Category.calls (k : Nat) (A0 : Option Addr) (c0 : Nat) (l0 : List (S105)) (a1_0 : ByteArray) (A1_1 : Option Addr) (c1_1 : Nat) (l1_1 : List Int) (A1_2 : Option Addr) (c1_2 : Nat) (l1_2 : List (S68)) (r1 : ByteArray) (r2 : Int) (w : World) (hr0 : Kd.C k105 w A0 l0.length l0) (hc0 : l0.length ≤ c0) (hr1_1 : Kd.C (Kd.int .i64) w A1_1 l1_1.length l1_1) (hc1_1 : l1_1.length ≤ c1_1) (hr1_2 : Kd.C k68 w A1_2 l1_2.length l1_2) (hc1_2 : l1_2.length ≤ c1_2) (h : abstract_Category.f k l0 a1_0 l1_1 l1_2 = some (r1, r2)) :
    Calls Try.prog 54 #[.slice A0 l0.length c0, .agg #[.string a1_0, .slice A1_1 l1_1.length c1_1, .slice A1_2 l1_2.length c1_2]] w fun e w' => e = .returned (.tuple #[.string r1, .int .i64 r2]) ∧ Below w.heap.size w w' := by
  have hu68 := Try.underlying68
  have HR0 := Aside0.mk hr0
  have HC0 := Aside0.mk hc0
  clear hr0 hc0
  have HR1_1 := Aside0.mk hr1_1
  have HC1_1 := Aside0.mk hc1_1
  clear hr1_1 hc1_1
  have HR1_2 := Aside0.mk hr1_2
  have HC1_2 := Aside0.mk hc1_2
  clear hr1_2 hc1_2
  have HB := Aside0.mk (Below.refl w.heap.size w)
  have H : ((abstract_Size.f k a1_0 l1_1 l1_2).bind fun t125 => (if t125 > 60 then (some ((⟨#[]⟩ : ByteArray), 2)) else ((abstract_formed.f k l0 a1_0 l1_1 l1_2).bind fun bt126 => (if bt126.2 = true then (some (bt126.1, 0)) else (some ((⟨#[]⟩ : ByteArray), 6)))))) = some (r1, r2) := h
  clear h
  replace H := Option.bind_eq_some_iff.mp H
  obtain ⟨t125, A30, H⟩ := H
  replace H : (if t125 > 60 then (some ((⟨#[]⟩ : ByteArray), 2)) else ((abstract_formed.f k l0 a1_0 l1_1 l1_2).bind fun bt126 => (if bt126.2 = true then (some (bt126.1, 0)) else (some ((⟨#[]⟩ : ByteArray), 6))))) = some (r1, r2) := H
  have A3 := Aside0.mk A30
  clear A30
  by_cases c4 : t125 > 60
  · rw [if_pos c4] at H
    have c4b0 : decide (60 < t125) = true := decide_eq_true c4
    clear c4
    simp only [Option.some.injEq, Prod.mk.injEq] at H
    obtain ⟨rfl, rfl⟩ := H
    go_enter Try.func54, Try.ntmps54
    go_wp2_with (first | ((with_reducible refine gate_dst (N := 3) rfl ?_); refine box_event ?hg (N := 3) ?hd (cs := #[.string a1_0, .slice A1_1 l1_1.length c1_1, .slice A1_2 l1_2.length c1_2]) (t := 68) ?hr ?_; (case hd => rfl); (case hg => rfl); (case hr => first | (go_simp; done) | (go_simp; rfl)); intro gb124 hg w5 hbox hb; have n0_ := Aside0.mk (below_step (by repeat (first | (with_reducible first | exact HB.out | apply below_alloc | apply pw_below_drewN | apply below_drew1) | exact HB.out)) hb); have n1_ := Aside0.mk (hbox); have n2_ := Aside0.mk ((by rw [hg]; exact (below_size (by repeat (first | (with_reducible first | exact HB.out | apply below_alloc | apply pw_below_drewN | apply below_drew1) | exact HB.out))) : w.heap.size ≤ gb124)); have n3_ := Aside0.mk ((by rw [hg]; exact (below_size (by repeat (first | (with_reducible first | exact HB.out | apply below_alloc | apply pw_below_drewN | apply below_drew1) | exact HB.out))) : w.heap.size ≤ gb124)); clear HB; have HB := n0_; have BK124 := n1_; have GW124 := n2_; have GE124 := n3_; clear n0_ n1_ n2_ n3_; clear hb hbox hg; have hcz6_0 : w5.cell? ⟨gb124, 0, none⟩ = some (.string a1_0) := (blk_cell BK124.out 0).trans rfl; have hcz6_1 : w5.cell? ⟨gb124, 1, none⟩ = some (.slice A1_1 l1_1.length c1_1) := (blk_cell BK124.out 1).trans rfl; have hcz6_2 : w5.cell? ⟨gb124, 2, none⟩ = some (.slice A1_2 l1_2.length c1_2) := (blk_cell BK124.out 2).trans rfl; have hfz6_0 := blk_frozen BK124.out 0; have hfz6_1 := blk_frozen BK124.out 1; have hfz6_2 := blk_frozen BK124.out 2) | ((with_reducible refine gate_callee (f := 57) rfl ?_); refine goesL_ (some 9) rfl rfl Try.func57 (by kernel_rfl) rfl #[.agg #[.string a1_0, .slice A1_1 l1_1.length c1_1, .slice A1_2 l1_2.length c1_2]] rfl (by (try simp only [List.map_toArray, List.map_cons, List.map_nil]); first | done | rfl | (simp only [List.length_drop, List.length_take]; rfl)) ?_; (with_reducible refine (abstract_Size.calls k a1_0 _ _ l1_1 _ _ l1_2 t125 _ ?side1 ?side2 ?side3 ?side4 A3.out).mono ?_); (case side1 => repeat (first | exact (Kd.C_below HR1_1.out HB.out) | (with_reducible refine Kd.C_alloc ?_ _) | (with_reducible refine Kd.C_drewN ?_ _) | (with_reducible refine Kd.C_drew ?_))); (case side2 => exact HC1_1.out); (case side3 => repeat (first | exact (Kd.C_below HR1_2.out HB.out) | (with_reducible refine Kd.C_alloc ?_ _) | (with_reducible refine Kd.C_drewN ?_ _) | (with_reducible refine Kd.C_drew ?_))); (case side4 => exact HC1_2.out); rintro e w7 ⟨rfl, hb⟩; refine ⟨_, rfl, ?_⟩; have n0_ := Aside0.mk (blk_below (g := gb124) (o := .cells #[.string a1_0, .slice A1_1 l1_1.length c1_1, .slice A1_2 l1_2.length c1_2] 68 (0, 0)) (by (with_reducible repeat (first | refine blk_drewN ?_ _ | refine blk_drew ?_ | refine blk_alloc ?_ _)); exact BK124.out) hb); have n1_ := Aside0.mk (below_step (by repeat (first | (with_reducible first | exact HB.out | apply below_alloc | apply pw_below_drewN | apply below_drew1 | refine below_set ?_ GE124.out) | exact HB.out)) hb); clear BK124; clear HB; have BK124 := n0_; have HB := n1_; clear n0_ n1_; (try clear hb); (try clear hb2); (try clear hk); (try clear hi)))
    go_ret2
    exact ⟨by first | rfl | (simp [errW_none, errW_some] <;> rfl) | (simp [*, errW_none, errW_some] <;> rfl), by repeat (first | (with_reducible first | exact HB.out | apply below_alloc | apply pw_below_drewN | apply below_drew1 | refine below_set ?_ GE124.out) | exact HB.out)⟩
  · rw [if_neg c4] at H
    have c4b0 : decide (60 < t125) = false := decide_eq_false c4
    clear c4
    replace H := Option.bind_eq_some_iff.mp H
    obtain ⟨⟨t126, t127⟩, A80, H⟩ := H
    replace H : (if t127 = true then (some (t126, 0)) else (some ((⟨#[]⟩ : ByteArray), 6))) = some (r1, r2) := H
    have A8 := Aside0.mk A80
    clear A80
    by_cases c9 : t127 = true
    · subst c9
      have H1 : (some (t126, 0)) = some (r1, r2) := by rw [if_pos rfl] at H; exact H
      clear H
      have H := H1
      clear H1
      simp only [Option.some.injEq, Prod.mk.injEq] at H
      obtain ⟨rfl, rfl⟩ := H
      go_enter Try.func54, Try.ntmps54
      go_wp2_with (first | ((with_reducible refine gate_dst (N := 3) rfl ?_); refine box_event ?hg (N := 3) ?hd (cs := #[.string a1_0, .slice A1_1 l1_1.length c1_1, .slice A1_2 l1_2.length c1_2]) (t := 68) ?hr ?_; (case hd => rfl); (case hg => rfl); (case hr => first | (go_simp; done) | (go_simp; rfl)); intro gb124 hg w10 hbox hb; have n0_ := Aside0.mk (below_step (by repeat (first | (with_reducible first | exact HB.out | apply below_alloc | apply pw_below_drewN | apply below_drew1) | exact HB.out)) hb); have n1_ := Aside0.mk (hbox); have n2_ := Aside0.mk ((by rw [hg]; exact (below_size (by repeat (first | (with_reducible first | exact HB.out | apply below_alloc | apply pw_below_drewN | apply below_drew1) | exact HB.out))) : w.heap.size ≤ gb124)); have n3_ := Aside0.mk ((by rw [hg]; exact (below_size (by repeat (first | (with_reducible first | exact HB.out | apply below_alloc | apply pw_below_drewN | apply below_drew1) | exact HB.out))) : w.heap.size ≤ gb124)); clear HB; have HB := n0_; have BK124 := n1_; have GW124 := n2_; have GE124 := n3_; clear n0_ n1_ n2_ n3_; clear hb hbox hg; have hcz11_0 : w10.cell? ⟨gb124, 0, none⟩ = some (.string a1_0) := (blk_cell BK124.out 0).trans rfl; have hcz11_1 : w10.cell? ⟨gb124, 1, none⟩ = some (.slice A1_1 l1_1.length c1_1) := (blk_cell BK124.out 1).trans rfl; have hcz11_2 : w10.cell? ⟨gb124, 2, none⟩ = some (.slice A1_2 l1_2.length c1_2) := (blk_cell BK124.out 2).trans rfl; have hfz11_0 := blk_frozen BK124.out 0; have hfz11_1 := blk_frozen BK124.out 1; have hfz11_2 := blk_frozen BK124.out 2) | ((with_reducible refine gate_callee (f := 57) rfl ?_); refine goesL_ (some 9) rfl rfl Try.func57 (by kernel_rfl) rfl #[.agg #[.string a1_0, .slice A1_1 l1_1.length c1_1, .slice A1_2 l1_2.length c1_2]] rfl (by (try simp only [List.map_toArray, List.map_cons, List.map_nil]); first | done | rfl | (simp only [List.length_drop, List.length_take]; rfl)) ?_; (with_reducible refine (abstract_Size.calls k a1_0 _ _ l1_1 _ _ l1_2 t125 _ ?side1 ?side2 ?side3 ?side4 A3.out).mono ?_); (case side1 => repeat (first | exact (Kd.C_below HR1_1.out HB.out) | (with_reducible refine Kd.C_alloc ?_ _) | (with_reducible refine Kd.C_drewN ?_ _) | (with_reducible refine Kd.C_drew ?_))); (case side2 => exact HC1_1.out); (case side3 => repeat (first | exact (Kd.C_below HR1_2.out HB.out) | (with_reducible refine Kd.C_alloc ?_ _) | (with_reducible refine Kd.C_drewN ?_ _) | (with_reducible refine Kd.C_drew ?_))); (case side4 => exact HC1_2.out); rintro e w12 ⟨rfl, hb⟩; refine ⟨_, rfl, ?_⟩; have n0_ := Aside0.mk (blk_below (g := gb124) (o := .cells #[.string a1_0, .slice A1_1 l1_1.length c1_1, .slice A1_2 l1_2.length c1_2] 68 (0, 0)) (by (with_reducible repeat (first | refine blk_drewN ?_ _ | refine blk_drew ?_ | refine blk_alloc ?_ _)); exact BK124.out) hb); have n1_ := Aside0.mk (below_step (by repeat (first | (with_reducible first | exact HB.out | apply below_alloc | apply pw_below_drewN | apply below_drew1 | refine below_set ?_ GE124.out) | exact HB.out)) hb); clear BK124; clear HB; have BK124 := n0_; have HB := n1_; clear n0_ n1_; (try clear hb); (try clear hb2); (try clear hk); (try clear hi); have hcz13_0 : w12.cell? ⟨gb124, 0, none⟩ = some (.string a1_0) := (blk_cell BK124.out 0).trans rfl; have hcz13_1 : w12.cell? ⟨gb124, 1, none⟩ = some (.slice A1_1 l1_1.length c1_1) := (blk_cell BK124.out 1).trans rfl; have hcz13_2 : w12.cell? ⟨gb124, 2, none⟩ = some (.slice A1_2 l1_2.length c1_2) := (blk_cell BK124.out 2).trans rfl; have hfz13_0 := blk_frozen BK124.out 0; have hfz13_1 := blk_frozen BK124.out 1; have hfz13_2 := blk_frozen BK124.out 2) | ((with_reducible refine gate_callee (f := 58) rfl ?_); refine goesL_ (some 14) rfl rfl Try.func58 (by kernel_rfl) rfl #[.slice A0 l0.length c0, .agg #[.string a1_0, .slice A1_1 l1_1.length c1_1, .slice A1_2 l1_2.length c1_2]] rfl (by (try simp only [List.map_toArray, List.map_cons, List.map_nil]); first | done | rfl | (simp only [List.length_drop, List.length_take]; rfl)) ?_; (with_reducible refine (abstract_formed.calls k _ _ l0 a1_0 _ _ l1_1 _ _ l1_2 t126 true _ ?side1 ?side2 ?side3 ?side4 ?side5 ?side6 A8.out).mono ?_); (case side1 => repeat (first | exact (Kd.C_below HR0.out HB.out) | (with_reducible refine Kd.C_alloc ?_ _) | (with_reducible refine Kd.C_drewN ?_ _) | (with_reducible refine Kd.C_drew ?_))); (case side2 => exact HC0.out); (case side3 => repeat (first | exact (Kd.C_below HR1_1.out HB.out) | (with_reducible refine Kd.C_alloc ?_ _) | (with_reducible refine Kd.C_drewN ?_ _) | (with_reducible refine Kd.C_drew ?_))); (case side4 => exact HC1_1.out); (case side5 => repeat (first | exact (Kd.C_below HR1_2.out HB.out) | (with_reducible refine Kd.C_alloc ?_ _) | (with_reducible refine Kd.C_drewN ?_ _) | (with_reducible refine Kd.C_drew ?_))); (case side6 => exact HC1_2.out); rintro e w14 ⟨rfl, hb⟩; refine ⟨_, rfl, ?_⟩; have n0_ := Aside0.mk (blk_below (g := gb124) (o := .cells #[.string a1_0, .slice A1_1 l1_1.length c1_1, .slice A1_2 l1_2.length c1_2] 68 (0, 0)) (by (with_reducible repeat (first | refine blk_drewN ?_ _ | refine blk_drew ?_ | refine blk_alloc ?_ _)); exact BK124.out) hb); have n1_ := Aside0.mk (below_step (by repeat (first | (with_reducible first | exact HB.out | apply below_alloc | apply pw_below_drewN | apply below_drew1 | refine below_set ?_ GE124.out) | exact HB.out)) hb); clear BK124; clear HB; have BK124 := n0_; have HB := n1_; clear n0_ n1_; (try clear hb); (try clear hb2); (try clear hk); (try clear hi)))
      go_ret2
      exact ⟨by first | rfl | (simp [errW_none, errW_some] <;> rfl) | (simp [*, errW_none, errW_some] <;> rfl), by repeat (first | (with_reducible first | exact HB.out | apply below_alloc | apply pw_below_drewN | apply below_drew1 | refine below_set ?_ GE124.out) | exact HB.out)⟩
    · replace c9 := Bool.eq_false_iff.mpr c9
      subst c9
      have H1 : (some ((⟨#[]⟩ : ByteArray), 6)) = some (r1, r2) := by rw [if_neg (show ¬ (false = true) by decide)] at H; exact H
      clear H
      have H := H1
      clear H1
      simp only [Option.some.injEq, Prod.mk.injEq] at H
      obtain ⟨rfl, rfl⟩ := H
      go_enter Try.func54, Try.ntmps54
      go_wp2_with (first | ((with_reducible refine gate_dst (N := 3) rfl ?_); refine box_event ?hg (N := 3) ?hd (cs := #[.string a1_0, .slice A1_1 l1_1.length c1_1, .slice A1_2 l1_2.length c1_2]) (t := 68) ?hr ?_; (case hd => rfl); (case hg => rfl); (case hr => first | (go_simp; done) | (go_simp; rfl)); intro gb124 hg w15 hbox hb; have n0_ := Aside0.mk (below_step (by repeat (first | (with_reducible first | exact HB.out | apply below_alloc | apply pw_below_drewN | apply below_drew1) | exact HB.out)) hb); have n1_ := Aside0.mk (hbox); have n2_ := Aside0.mk ((by rw [hg]; exact (below_size (by repeat (first | (with_reducible first | exact HB.out | apply below_alloc | apply pw_below_drewN | apply below_drew1) | exact HB.out))) : w.heap.size ≤ gb124)); have n3_ := Aside0.mk ((by rw [hg]; exact (below_size (by repeat (first | (with_reducible first | exact HB.out | apply below_alloc | apply pw_below_drewN | apply below_drew1) | exact HB.out))) : w.heap.size ≤ gb124)); clear HB; have HB := n0_; have BK124 := n1_; have GW124 := n2_; have GE124 := n3_; clear n0_ n1_ n2_ n3_; clear hb hbox hg; have hcz16_0 : w15.cell? ⟨gb124, 0, none⟩ = some (.string a1_0) := (blk_cell BK124.out 0).trans rfl; have hcz16_1 : w15.cell? ⟨gb124, 1, none⟩ = some (.slice A1_1 l1_1.length c1_1) := (blk_cell BK124.out 1).trans rfl; have hcz16_2 : w15.cell? ⟨gb124, 2, none⟩ = some (.slice A1_2 l1_2.length c1_2) := (blk_cell BK124.out 2).trans rfl; have hfz16_0 := blk_frozen BK124.out 0; have hfz16_1 := blk_frozen BK124.out 1; have hfz16_2 := blk_frozen BK124.out 2) | ((with_reducible refine gate_callee (f := 57) rfl ?_); refine goesL_ (some 9) rfl rfl Try.func57 (by kernel_rfl) rfl #[.agg #[.string a1_0, .slice A1_1 l1_1.length c1_1, .slice A1_2 l1_2.length c1_2]] rfl (by (try simp only [List.map_toArray, List.map_cons, List.map_nil]); first | done | rfl | (simp only [List.length_drop, List.length_take]; rfl)) ?_; (with_reducible refine (abstract_Size.calls k a1_0 _ _ l1_1 _ _ l1_2 t125 _ ?side1 ?side2 ?side3 ?side4 A3.out).mono ?_); (case side1 => repeat (first | exact (Kd.C_below HR1_1.out HB.out) | (with_reducible refine Kd.C_alloc ?_ _) | (with_reducible refine Kd.C_drewN ?_ _) | (with_reducible refine Kd.C_drew ?_))); (case side2 => exact HC1_1.out); (case side3 => repeat (first | exact (Kd.C_below HR1_2.out HB.out) | (with_reducible refine Kd.C_alloc ?_ _) | (with_reducible refine Kd.C_drewN ?_ _) | (with_reducible refine Kd.C_drew ?_))); (case side4 => exact HC1_2.out); rintro e w17 ⟨rfl, hb⟩; refine ⟨_, rfl, ?_⟩; have n0_ := Aside0.mk (blk_below (g := gb124) (o := .cells #[.string a1_0, .slice A1_1 l1_1.length c1_1, .slice A1_2 l1_2.length c1_2] 68 (0, 0)) (by (with_reducible repeat (first | refine blk_drewN ?_ _ | refine blk_drew ?_ | refine blk_alloc ?_ _)); exact BK124.out) hb); have n1_ := Aside0.mk (below_step (by repeat (first | (with_reducible first | exact HB.out | apply below_alloc | apply pw_below_drewN | apply below_drew1 | refine below_set ?_ GE124.out) | exact HB.out)) hb); clear BK124; clear HB; have BK124 := n0_; have HB := n1_; clear n0_ n1_; (try clear hb); (try clear hb2); (try clear hk); (try clear hi); have hcz18_0 : w17.cell? ⟨gb124, 0, none⟩ = some (.string a1_0) := (blk_cell BK124.out 0).trans rfl; have hcz18_1 : w17.cell? ⟨gb124, 1, none⟩ = some (.slice A1_1 l1_1.length c1_1) := (blk_cell BK124.out 1).trans rfl; have hcz18_2 : w17.cell? ⟨gb124, 2, none⟩ = some (.slice A1_2 l1_2.length c1_2) := (blk_cell BK124.out 2).trans rfl; have hfz18_0 := blk_frozen BK124.out 0; have hfz18_1 := blk_frozen BK124.out 1; have hfz18_2 := blk_frozen BK124.out 2) | ((with_reducible refine gate_callee (f := 58) rfl ?_); refine goesL_ (some 14) rfl rfl Try.func58 (by kernel_rfl) rfl #[.slice A0 l0.length c0, .agg #[.string a1_0, .slice A1_1 l1_1.length c1_1, .slice A1_2 l1_2.length c1_2]] rfl (by (try simp only [List.map_toArray, List.map_cons, List.map_nil]); first | done | rfl | (simp only [List.length_drop, List.length_take]; rfl)) ?_; (with_reducible refine (abstract_formed.calls k _ _ l0 a1_0 _ _ l1_1 _ _ l1_2 t126 false _ ?side1 ?side2 ?side3 ?side4 ?side5 ?side6 A8.out).mono ?_); (case side1 => repeat (first | exact (Kd.C_below HR0.out HB.out) | (with_reducible refine Kd.C_alloc ?_ _) | (with_reducible refine Kd.C_drewN ?_ _) | (with_reducible refine Kd.C_drew ?_))); (case side2 => exact HC0.out); (case side3 => repeat (first | exact (Kd.C_below HR1_1.out HB.out) | (with_reducible refine Kd.C_alloc ?_ _) | (with_reducible refine Kd.C_drewN ?_ _) | (with_reducible refine Kd.C_drew ?_))); (case side4 => exact HC1_1.out); (case side5 => repeat (first | exact (Kd.C_below HR1_2.out HB.out) | (with_reducible refine Kd.C_alloc ?_ _) | (with_reducible refine Kd.C_drewN ?_ _) | (with_reducible refine Kd.C_drew ?_))); (case side6 => exact HC1_2.out); rintro e w19 ⟨rfl, hb⟩; refine ⟨_, rfl, ?_⟩; have n0_ := Aside0.mk (blk_below (g := gb124) (o := .cells #[.string a1_0, .slice A1_1 l1_1.length c1_1, .slice A1_2 l1_2.length c1_2] 68 (0, 0)) (by (with_reducible repeat (first | refine blk_drewN ?_ _ | refine blk_drew ?_ | refine blk_alloc ?_ _)); exact BK124.out) hb); have n1_ := Aside0.mk (below_step (by repeat (first | (with_reducible first | exact HB.out | apply below_alloc | apply pw_below_drewN | apply below_drew1 | refine below_set ?_ GE124.out) | exact HB.out)) hb); clear BK124; clear HB; have BK124 := n0_; have HB := n1_; clear n0_ n1_; (try clear hb); (try clear hb2); (try clear hk); (try clear hi)))
      go_ret2
      exact ⟨by first | rfl | (simp [errW_none, errW_some] <;> rfl) | (simp [*, errW_none, errW_some] <;> rfl), by repeat (first | (with_reducible first | exact HB.out | apply below_alloc | apply pw_below_drewN | apply below_drew1 | refine below_set ?_ GE124.out) | exact HB.out)⟩

/-! ### pentaglotlaw54_sentence: function 32 -/
def pentaglotlaw54_sentence.f (a0 : ByteArray) : Option ((List (S68))) := some (([(⟨(⟨#[65, 115, 115, 101, 114, 116]⟩ : ByteArray), ([] : List Int), (([(⟨(⟨#[78, 97, 109, 101]⟩ : ByteArray), ([] : List Int), (([(⟨(⟨#[109, 97, 114, 116, 97]⟩ : ByteArray), ([] : List Int), ([] : List (S68))⟩ : S68)] : List (S68)))⟩ : S68), (⟨(⟨#[65, 99, 116]⟩ : ByteArray), ([] : List Int), (([(⟨a0, ([] : List Int), ([] : List (S68))⟩ : S68)] : List (S68)))⟩ : S68)] : List (S68)))⟩ : S68)] : List (S68)))
set_option maxHeartbeats 8000000 in
set_option maxRecDepth 100000 in
theorem pentaglotlaw54_sentence.calls (a0 : ByteArray) (r : List (S68)) (w : World) (h : pentaglotlaw54_sentence.f a0 = some r) :
    Calls Try.prog 32 #[.string a0] w fun e w' => ∃ v0_ : Value, e = .returned (v0_) ∧ Kd.N k68 68 w' w.heap.size (fun k_ => (w.heap.size ≤ k_)) v0_ r ∧ Below w.heap.size w w' := by
  have hu68 := Try.underlying68
  have HB := Aside0.mk (Below.refl w.heap.size w)
  have H : (some (([(⟨(⟨#[65, 115, 115, 101, 114, 116]⟩ : ByteArray), ([] : List Int), (([(⟨(⟨#[78, 97, 109, 101]⟩ : ByteArray), ([] : List Int), (([(⟨(⟨#[109, 97, 114, 116, 97]⟩ : ByteArray), ([] : List Int), ([] : List (S68))⟩ : S68)] : List (S68)))⟩ : S68), (⟨(⟨#[65, 99, 116]⟩ : ByteArray), ([] : List Int), (([(⟨a0, ([] : List Int), ([] : List (S68))⟩ : S68)] : List (S68)))⟩ : S68)] : List (S68)))⟩ : S68)] : List (S68)))) = some r := h
  clear h
  obtain ⟨y211, hy211⟩ : ∃ y_ : List (S68), y_ = (([(⟨(⟨#[109, 97, 114, 116, 97]⟩ : ByteArray), ([] : List Int), ([] : List (S68))⟩ : S68)] : List (S68))) := ⟨_, rfl⟩
  replace H : (some (([(⟨(⟨#[65, 115, 115, 101, 114, 116]⟩ : ByteArray), ([] : List Int), (([(⟨(⟨#[78, 97, 109, 101]⟩ : ByteArray), ([] : List Int), y211⟩ : S68), (⟨(⟨#[65, 99, 116]⟩ : ByteArray), ([] : List Int), (([(⟨a0, ([] : List Int), ([] : List (S68))⟩ : S68)] : List (S68)))⟩ : S68)] : List (S68)))⟩ : S68)] : List (S68)))) = some r := by first | (rw [hy211]; with_reducible exact H) | (have H2_ := (Option.bind_some _ _).symm.trans H; rw [hy211]; with_reducible exact H2_) | (have H2_ := (Option.bind_some _ _).symm.trans H; with_reducible exact H2_) | with_reducible exact H | (rw [hy211]; exact H) | exact H
  have Ny211 := Aside0.mk hy211
  clear hy211
  obtain ⟨y214, hy214⟩ : ∃ y_ : List (S68), y_ = (([(⟨a0, ([] : List Int), ([] : List (S68))⟩ : S68)] : List (S68))) := ⟨_, rfl⟩
  replace H : (some (([(⟨(⟨#[65, 115, 115, 101, 114, 116]⟩ : ByteArray), ([] : List Int), (([(⟨(⟨#[78, 97, 109, 101]⟩ : ByteArray), ([] : List Int), y211⟩ : S68), (⟨(⟨#[65, 99, 116]⟩ : ByteArray), ([] : List Int), y214⟩ : S68)] : List (S68)))⟩ : S68)] : List (S68)))) = some r := by first | (rw [hy214]; with_reducible exact H) | (have H2_ := (Option.bind_some _ _).symm.trans H; rw [hy214]; with_reducible exact H2_) | (have H2_ := (Option.bind_some _ _).symm.trans H; with_reducible exact H2_) | with_reducible exact H | (rw [hy214]; exact H) | exact H
  have Ny214 := Aside0.mk hy214
  clear hy214
  obtain ⟨y217, hy217⟩ : ∃ y_ : List (S68), y_ = (([(⟨(⟨#[78, 97, 109, 101]⟩ : ByteArray), ([] : List Int), y211⟩ : S68), (⟨(⟨#[65, 99, 116]⟩ : ByteArray), ([] : List Int), y214⟩ : S68)] : List (S68))) := ⟨_, rfl⟩
  replace H : (some (([(⟨(⟨#[65, 115, 115, 101, 114, 116]⟩ : ByteArray), ([] : List Int), y217⟩ : S68)] : List (S68)))) = some r := by first | (rw [hy217]; with_reducible exact H) | (have H2_ := (Option.bind_some _ _).symm.trans H; rw [hy217]; with_reducible exact H2_) | (have H2_ := (Option.bind_some _ _).symm.trans H; with_reducible exact H2_) | with_reducible exact H | (rw [hy217]; exact H) | exact H
  have Ny217 := Aside0.mk hy217
  clear hy217
  obtain ⟨y220, hy220⟩ : ∃ y_ : List (S68), y_ = (([(⟨(⟨#[65, 115, 115, 101, 114, 116]⟩ : ByteArray), ([] : List Int), y217⟩ : S68)] : List (S68))) := ⟨_, rfl⟩
  replace H : (some y220) = some r := by first | (rw [hy220]; with_reducible exact H) | (have H2_ := (Option.bind_some _ _).symm.trans H; rw [hy220]; with_reducible exact H2_) | (have H2_ := (Option.bind_some _ _).symm.trans H; with_reducible exact H2_) | with_reducible exact H | (rw [hy220]; exact H) | exact H
  have Ny220 := Aside0.mk hy220
  clear hy220
  obtain rfl := Option.some.inj H
  go_enter Try.func32, Try.ntmps32
  go_wp2_with (first | ((with_reducible refine gate_dst (N := 4) rfl ?_); refine Kd.N_lit k68 _ 68 ?hg (N' := 4) ?hd (xs := ([(⟨(⟨#[109, 97, 114, 116, 97]⟩ : ByteArray), ([] : List Int), ([] : List (S68))⟩ : S68)] : List (S68))) (inner := [.string (⟨#[109, 97, 114, 116, 97]⟩ : ByteArray), .slice none 0 0, .slice none 0 0]) (ok := (fun k_ => (w.heap.size ≤ k_))) (okp := (fun k_ => (w.heap.size ≤ k_))) ?hr ?hp (fun _ hk => hk) ((show ∀ k_, w.heap.size ≤ k_ → (fun k_ => (w.heap.size ≤ k_)) k_ from fun k_ hk => (Nat.le_trans (below_size (by repeat (first | (with_reducible first | exact HB.out | apply below_alloc | apply pw_below_drewN | apply below_drew1) | exact HB.out))) hk)) _ (Nat.le_refl _)) (Below.refl _ _) (Nat.le_refl _) (by simp) ?_; (case hd => rfl); (case hg => rfl); (case hr => first | (go_simp; done) | (go_simp; rfl)); (case hp => exact (Reps.c3 (show Kd.FK k68 _ _ (⟨(⟨#[109, 97, 114, 116, 97]⟩ : ByteArray), ([] : List Int), ([] : List (S68))⟩ : S68) [.string (⟨#[109, 97, 114, 116, 97]⟩ : ByteArray), .slice none 0 0, .slice none 0 0] from (k68_mkF _ _ (⟨(⟨#[109, 97, 114, 116, 97]⟩ : ByteArray), ([] : List Int), ([] : List (S68))⟩ : S68) (Nat.le_refl _) (Kd.F_nil _ _ _) (Nat.le_refl _) (Kd.F_nil _ _ _))) (Reps.none _ _))); intro v212 w2 ho3 hb hg_ hnew_; clear hg_ hnew_; (first | rw [← Ny211.out] at ho3 | (simp only [Int.reduceToNat] at ho3; rw [← Ny211.out] at ho3)); have n0_ := Aside0.mk (Kd.N_lower ho3 (below_size (by repeat (first | (with_reducible first | exact HB.out | apply below_alloc | apply pw_below_drewN | apply below_drew1) | exact HB.out)))); have n1_ := Aside0.mk (below_step (by repeat (first | (with_reducible first | exact HB.out | apply below_alloc | apply pw_below_drewN | apply below_drew1) | exact HB.out)) hb); clear HB; have HO213 := n0_; have HB := n1_; clear n0_ n1_; clear hb ho3; obtain ⟨Ao4, co4, eo4⟩ := Kd.N_slice HO213.out; subst eo4) | ((with_reducible refine gate_dst (N := 8) rfl ?_); refine Kd.N_lit k68 _ 68 ?hg (N' := 8) ?hd (xs := ([(⟨a0, ([] : List Int), ([] : List (S68))⟩ : S68)] : List (S68))) (inner := [.string a0, .slice none 0 0, .slice none 0 0]) (ok := (fun k_ => (w.heap.size ≤ k_) ∧ some k_ ≠ (.slice Ao4 y211.length co4 : Value).ownBlock)) (okp := (fun k_ => (w.heap.size ≤ k_) ∧ some k_ ≠ (.slice Ao4 y211.length co4 : Value).ownBlock)) ?hr ?hp (fun _ hk => hk) ((show ∀ k_, w2.heap.size ≤ k_ → (fun k_ => (w.heap.size ≤ k_) ∧ some k_ ≠ (.slice Ao4 y211.length co4 : Value).ownBlock) k_ from fun k_ hk => ⟨(Nat.le_trans (below_size (by repeat (first | (with_reducible first | exact HB.out | apply below_alloc | apply pw_below_drewN | apply below_drew1) | exact HB.out))) hk), Kd.fresh' (Kd.N_lt (by (with_reducible repeat (first | apply Kd.N_alloc | apply Kd.N_drewN | apply Kd.N_drew)); exact HO213.out)) k_ hk⟩) _ (Nat.le_refl _)) (Below.refl _ _) (Nat.le_refl _) (by simp) ?_; (case hd => rfl); (case hg => rfl); (case hr => first | (go_simp; done) | (go_simp; rfl)); (case hp => exact (Reps.c3 (show Kd.FK k68 _ _ (⟨a0, ([] : List Int), ([] : List (S68))⟩ : S68) [.string a0, .slice none 0 0, .slice none 0 0] from (k68_mkF _ _ (⟨a0, ([] : List Int), ([] : List (S68))⟩ : S68) (Nat.le_refl _) (Kd.F_nil _ _ _) (Nat.le_refl _) (Kd.F_nil _ _ _))) (Reps.none _ _))); intro v215 w5 ho6 hb hg_ hnew_; clear hg_ hnew_; (first | rw [← Ny214.out] at ho6 | (simp only [Int.reduceToNat] at ho6; rw [← Ny214.out] at ho6)); have n0_ := Aside0.mk (Kd.N_elder' (by (with_reducible repeat (first | apply Kd.N_alloc | apply Kd.N_drewN | apply Kd.N_drew)); exact HO213.out) (Kd.N_base ho6) hb); have n1_ := Aside0.mk (Kd.N_lower ho6 (below_size (by repeat (first | (with_reducible first | exact HB.out | apply below_alloc | apply pw_below_drewN | apply below_drew1) | exact HB.out)))); have n2_ := Aside0.mk (below_step (by repeat (first | (with_reducible first | exact HB.out | apply below_alloc | apply pw_below_drewN | apply below_drew1) | exact HB.out)) hb); clear HO213; clear HB; have HO213 := n0_; have HO216 := n1_; have HB := n2_; clear n0_ n1_ n2_; clear hb ho6; obtain ⟨Ao7, co7, eo7⟩ := Kd.N_slice HO216.out; subst eo7) | ((with_reducible refine gate_dst (N := 10) rfl ?_); refine Kd.N_lit k68 _ 68 ?hg (N' := 10) ?hd (xs := ([(⟨(⟨#[78, 97, 109, 101]⟩ : ByteArray), ([] : List Int), y211⟩ : S68), (⟨(⟨#[65, 99, 116]⟩ : ByteArray), ([] : List Int), y214⟩ : S68)] : List (S68))) (inner := [.string (⟨#[78, 97, 109, 101]⟩ : ByteArray), .slice none 0 0, .slice Ao4 y211.length co4, .string (⟨#[65, 99, 116]⟩ : ByteArray), .slice none 0 0, .slice Ao7 y214.length co7]) (ok := (fun k_ => (w.heap.size ≤ k_))) (okp := (fun k_ => (w.heap.size ≤ k_))) ?hr ?hp (fun _ hk => hk) ((show ∀ k_, w5.heap.size ≤ k_ → (fun k_ => (w.heap.size ≤ k_)) k_ from fun k_ hk => (Nat.le_trans (below_size (by repeat (first | (with_reducible first | exact HB.out | apply below_alloc | apply pw_below_drewN | apply below_drew1) | exact HB.out))) hk)) _ (Nat.le_refl _)) (Below.refl _ _) (Nat.le_refl _) (by simp) ?_; (case hd => rfl); (case hg => rfl); (case hr => first | (go_simp; done) | (go_simp; rfl)); (case hp => exact (Reps.c3 (show Kd.FK k68 _ _ (⟨(⟨#[78, 97, 109, 101]⟩ : ByteArray), ([] : List Int), y211⟩ : S68) [.string (⟨#[78, 97, 109, 101]⟩ : ByteArray), .slice none 0 0, .slice Ao4 y211.length co4] from (k68_mkF _ _ (⟨(⟨#[78, 97, 109, 101]⟩ : ByteArray), ([] : List Int), y211⟩ : S68) (Nat.le_refl _) (Kd.F_nil _ _ _) (Kd.N_reads' (Kd.N_mono (ok' := (fun k_ => (w.heap.size ≤ k_))) (HO213.out) (fun k_ hk => hk.1))).2.1 (Kd.N_F (Kd.N_mono (ok' := (fun k_ => (w.heap.size ≤ k_))) (HO213.out) (fun k_ hk => hk.1))))) (Reps.c3 (show Kd.FK k68 _ _ (⟨(⟨#[65, 99, 116]⟩ : ByteArray), ([] : List Int), y214⟩ : S68) [.string (⟨#[65, 99, 116]⟩ : ByteArray), .slice none 0 0, .slice Ao7 y214.length co7] from (k68_mkF _ _ (⟨(⟨#[65, 99, 116]⟩ : ByteArray), ([] : List Int), y214⟩ : S68) (Nat.le_refl _) (Kd.F_nil _ _ _) (Kd.N_reads' (Kd.N_mono (ok' := (fun k_ => (w.heap.size ≤ k_))) (HO216.out) (fun k_ hk => hk.1))).2.1 (Kd.N_F (Kd.N_mono (ok' := (fun k_ => (w.heap.size ≤ k_))) (HO216.out) (fun k_ hk => hk.1))))) (Reps.none _ _)))); intro v218 w8 ho9 hb hg_ hnew_; clear hg_ hnew_; (first | rw [← Ny217.out] at ho9 | (simp only [Int.reduceToNat] at ho9; rw [← Ny217.out] at ho9)); have n0_ := Aside0.mk (Kd.N_lower ho9 (below_size (by repeat (first | (with_reducible first | exact HB.out | apply below_alloc | apply pw_below_drewN | apply below_drew1) | exact HB.out)))); have n1_ := Aside0.mk (below_step (by repeat (first | (with_reducible first | exact HB.out | apply below_alloc | apply pw_below_drewN | apply below_drew1) | exact HB.out)) hb); clear HB; clear HO213; clear HO216; have HO219 := n0_; have HB := n1_; clear n0_ n1_; clear hb ho9; obtain ⟨Ao10, co10, eo10⟩ := Kd.N_slice HO219.out; subst eo10) | ((with_reducible refine gate_dst (N := 12) rfl ?_); refine Kd.N_lit k68 _ 68 ?hg (N' := 12) ?hd (xs := ([(⟨(⟨#[65, 115, 115, 101, 114, 116]⟩ : ByteArray), ([] : List Int), y217⟩ : S68)] : List (S68))) (inner := [.string (⟨#[65, 115, 115, 101, 114, 116]⟩ : ByteArray), .slice none 0 0, .slice Ao10 y217.length co10]) (ok := (fun k_ => (w.heap.size ≤ k_))) (okp := (fun k_ => (w.heap.size ≤ k_))) ?hr ?hp (fun _ hk => hk) ((show ∀ k_, w8.heap.size ≤ k_ → (fun k_ => (w.heap.size ≤ k_)) k_ from fun k_ hk => (Nat.le_trans (below_size (by repeat (first | (with_reducible first | exact HB.out | apply below_alloc | apply pw_below_drewN | apply below_drew1) | exact HB.out))) hk)) _ (Nat.le_refl _)) (Below.refl _ _) (Nat.le_refl _) (by simp) ?_; (case hd => rfl); (case hg => rfl); (case hr => first | (go_simp; done) | (go_simp; rfl)); (case hp => exact (Reps.c3 (show Kd.FK k68 _ _ (⟨(⟨#[65, 115, 115, 101, 114, 116]⟩ : ByteArray), ([] : List Int), y217⟩ : S68) [.string (⟨#[65, 115, 115, 101, 114, 116]⟩ : ByteArray), .slice none 0 0, .slice Ao10 y217.length co10] from (k68_mkF _ _ (⟨(⟨#[65, 115, 115, 101, 114, 116]⟩ : ByteArray), ([] : List Int), y217⟩ : S68) (Nat.le_refl _) (Kd.F_nil _ _ _) (Kd.N_reads' (Kd.N_mono (ok' := (fun k_ => (w.heap.size ≤ k_))) (HO219.out) (fun k_ hk => hk))).2.1 (Kd.N_F (Kd.N_mono (ok' := (fun k_ => (w.heap.size ≤ k_))) (HO219.out) (fun k_ hk => hk))))) (Reps.none _ _))); intro v221 w11 ho12 hb hg_ hnew_; clear hg_ hnew_; (first | rw [← Ny220.out] at ho12 | (simp only [Int.reduceToNat] at ho12; rw [← Ny220.out] at ho12)); have n0_ := Aside0.mk (Kd.N_lower ho12 (below_size (by repeat (first | (with_reducible first | exact HB.out | apply below_alloc | apply pw_below_drewN | apply below_drew1) | exact HB.out)))); have n1_ := Aside0.mk (below_step (by repeat (first | (with_reducible first | exact HB.out | apply below_alloc | apply pw_below_drewN | apply below_drew1) | exact HB.out)) hb); clear HB; clear HO219; have HO222 := n0_; have HB := n1_; clear n0_ n1_; clear hb ho12))
  go_ret
  exact ⟨_, by first | rfl | (simp [errW_none, errW_some] <;> rfl) | (simp [*, errW_none, errW_some] <;> rfl), by (with_reducible repeat (first | apply Kd.N_alloc | apply Kd.N_drewN | apply Kd.N_drew)); exact HO222.out, by repeat (first | (with_reducible first | exact HB.out | apply below_alloc | apply pw_below_drewN | apply below_drew1) | exact HB.out)⟩

end Go.Proofs.Ytkblcdpmdbofgaa.A
/- api.Functions returns the lexicon's functions: its one statement is run by the kernel. -/
namespace Go.Proofs.Ytkblcdpmdbofgaa.A
open Go.RowKit Go.Proofs.YtkblcdpmdbofgaaW.PrintWords Go.Proofs.YtkblcdpmdbofgaaW.PrintLast Go.Proofs.YtkblcdpmdbofgaaW.PrintMore
set_option linter.unusedVariables false
set_option linter.unusedSimpArgs false

/-- Plain operations, run one behind the other. -/
def runL (P : Program) : List Oper → Act → World → Option (Act × World)
  | [], a, w => some (a, w)
  | o :: r, a, w => match o.guard with
    | none => match (execOp a.eval o).run P w with
      | .ok (.value v) w' => runL P r (a.put o.dst v) w'
      | _ => none
    | some _ => none

theorem wpList_run {P : Program} {ops : Array Oper} {Q : Exit → Act → World → Prop} : ∀ (l : List Oper) (a : Act) (w : World) (a' : Act) (w' : World), runL P l a w = some (a', w') → Q .normal a' w' → wpList P ops Q l a w
  | [], a, w, a', w', h, hq => by
    simp only [runL, Option.some.injEq, Prod.mk.injEq] at h
    obtain ⟨rfl, rfl⟩ := h
    exact wpList_nil hq
  | o :: r, a, w, a', w', h, hq => by
    unfold runL at h
    cases hg : o.guard with
    | some g => simp [hg] at h
    | none =>
      simp only [hg] at h
      refine wpList_plain hg fun K hK => ?_
      unfold Oper.wp
      split at h
      · rename_i v w1 hr
        rw [hr]
        exact hK _ _ (wpList_run r _ _ _ _ h hq)
      · cases h

theorem runL_append {P : Program} : ∀ (l1 l2 : List Oper) (a : Act) (w : World), runL P (l1 ++ l2) a w = (runL P l1 a w).bind fun p => runL P l2 p.1 p.2
  | [], l2, a, w => rfl
  | o :: r, l2, a, w => by
    rw [List.cons_append]
    cases hg : o.guard with
    | some g => simp only [runL, hg, Option.bind_none]
    | none =>
      simp only [runL, hg]
      split
      · exact runL_append r l2 _ _
      · rfl

/-- A list of functions, laid: a block for each list of arguments that is not empty; the cells of them all. -/
def layF (w : World) : List S105 → World × List Value
  | [] => (w, [])
  | f :: r => match f.f1 with
    | [] => let q := layF w r; (q.1, [.string f.f0, .slice none 0 0, .string f.f2, .int .i64 f.f3] ++ q.2)
    | x :: xs =>
      let q := layF (w.alloc (.cells ((x :: xs).map Value.string).toArray 9)) r
      (q.1, [.string f.f0, .slice (some ⟨w.heap.size, 0, none⟩) (xs.length + 1) (xs.length + 1), .string f.f2, .int .i64 f.f3] ++ q.2)

def fn (n : List UInt8) (args : List (List UInt8)) (r : List UInt8) (v : Int) : S105 := ⟨⟨n.toArray⟩, args.map fun l => ⟨l.toArray⟩, ⟨r.toArray⟩, v⟩
/-- The lexicon's functions. -/
def lexicon : List S105 := [
  fn [78, 97, 109, 101] [[80, 78]] [78, 80] 0,
  fn [69, 118, 101, 114, 121] [[67, 78]] [78, 80] 0,
  fn [83, 111, 109, 101] [[67, 78]] [78, 80] 0,
  fn [78, 111] [[67, 78]] [78, 80] 0,
  fn [69, 118, 101, 114, 121, 69, 120, 99, 101, 112, 116] [[67, 78], [67, 78]] [78, 80] 0,
  fn [66, 111, 116, 104] [[78, 80], [78, 80]] [78, 80] 0,
  fn [73, 116] [] [78, 80] 0,
  fn [84, 104, 101, 121] [] [78, 80] 0,
  fn [78, 111, 117, 110] [[78]] [67, 78] 0,
  fn [65, 100, 106] [[65], [67, 78]] [67, 78] 0,
  fn [87, 104, 111] [[67, 78], [86, 80]] [67, 78] 0,
  fn [65, 99, 116] [[86, 49]] [86, 80] 0,
  fn [68, 111] [[86, 50], [78, 80]] [86, 80] 0,
  fn [71, 105, 118, 101] [[86, 51], [78, 80], [78, 80]] [86, 80] 0,
  fn [67, 111, 115, 116] [[86, 81]] [86, 80] 1,
  fn [65, 110, 100, 86, 80] [[86, 80], [86, 80]] [86, 80] 0,
  fn [65, 115, 115, 101, 114, 116] [[78, 80], [86, 80]] [83] 0,
  fn [77, 117, 115, 116] [[78, 80], [86, 80]] [83] 0,
  fn [77, 117, 115, 116, 78, 111, 116] [[78, 80], [86, 80]] [83] 0,
  fn [77, 97, 121] [[78, 80], [86, 80]] [83] 0,
  fn [68, 117, 114, 105, 110, 103] [[83]] [83] 2,
  fn [83, 105, 110, 99, 101] [[83]] [83] 1,
  fn [85, 110, 116, 105, 108] [[83]] [83] 1,
  fn [65, 110, 100] [[83], [83]] [83] 0,
  fn [79, 114] [[83], [83]] [83] 0,
  fn [73, 102] [[83], [83]] [83] 0,
  fn [65, 108, 115, 111] [[83], [78, 80]] [83] 0,
  fn [80, 108, 101, 97, 115, 101] [[83]] [83] 0,
  fn [112, 97, 115, 115, 101, 110, 103, 101, 114] [] [78] 0,
  fn [99, 104, 105, 108, 100] [] [78] 0,
  fn [103, 117, 97, 114, 100] [] [78] 0,
  fn [100, 111, 103] [] [78] 0,
  fn [102, 101, 114, 114, 121] [] [78] 0,
  fn [116, 105, 99, 107, 101, 116] [] [78] 0,
  fn [98, 97, 103] [] [78] 0,
  fn [100, 111, 111, 114] [] [78] 0,
  fn [116, 105, 114, 101, 100] [] [65] 0,
  fn [111, 108, 100] [] [65] 0,
  fn [119, 101, 116] [] [65] 0,
  fn [115, 109, 97, 108, 108] [] [65] 0,
  fn [108, 111, 99, 107, 101, 100] [] [65] 0,
  fn [119, 97, 105, 116] [] [86, 49] 0,
  fn [115, 108, 101, 101, 112] [] [86, 49] 0,
  fn [115, 109, 111, 107, 101] [] [86, 49] 0,
  fn [100, 101, 112, 97, 114, 116] [] [86, 49] 0,
  fn [97, 114, 114, 105, 118, 101] [] [86, 49] 0,
  fn [99, 97, 114, 114, 121] [] [86, 50] 0,
  fn [111, 112, 101, 110] [] [86, 50] 0,
  fn [116, 111, 117, 99, 104] [] [86, 50] 0,
  fn [98, 111, 97, 114, 100] [] [86, 50] 0,
  fn [101, 110, 116, 101, 114] [] [86, 50] 0,
  fn [115, 104, 111, 119] [] [86, 51] 0,
  fn [103, 105, 118, 101] [] [86, 51] 0,
  fn [114, 101, 116, 117, 114, 110] [] [86, 51] 0,
  fn [99, 111, 115, 116] [] [86, 81] 0,
  fn [119, 101, 105, 103, 104] [] [86, 81] 0,
  fn [109, 97, 114, 116, 97] [] [80, 78] 0,
  fn [99, 97, 112, 116, 97, 105, 110] [] [80, 78] 0,
  fn [110, 111, 114, 116, 104, 45, 102, 101, 114, 114, 121] [] [80, 78] 0,
  fn [115, 111, 117, 116, 104, 45, 102, 101, 114, 114, 121] [] [80, 78] 0,
  fn [111, 108, 100, 45, 113, 117, 97, 121] [] [80, 78] 0]

theorem body55 : Try.f55.body = some (.seq (.region 0 (opsOf Try.f55 0) false) (.seq (.region 1 (opsOf Try.f55 1) false) .ret)) := by kernel_rfl
theorem run55 (w : World) : ((runL Try.prog ((opsOf Try.f55 0).toList ++ (opsOf Try.f55 1).toList) { tmps := #[] ++ Array.replicate (Try.f55.ntmps - 0) undef, defers := [] } w).map fun r => (r.1.tmps.getD 0 undef, r.1.defers, r.2)) =
    some (.slice (some ⟨(layF w lexicon).1.heap.size, 0, none⟩) 61 61, [], (layF w lexicon).1.alloc (.cells (layF w lexicon).2.toArray 105)) := by kernel_rfl

theorem block_own {w : World} {g e size n : Nat} {cs : List Value} (h : w.heap[g]? = some (.cells cs.toArray e)) (hl : cs.length = n * size) (hn : n ≤ 9223372036854775807) : w.ownsRow 0 e size (.slice (some ⟨g, 0, none⟩) n n) n cs :=
  ⟨hl, .inr ⟨g, n, cs.toArray, rfl, Nat.zero_le _, h, Nat.le_refl _, by simpa [maxLen] using hn, by simpa using hl, by
    show cs.take (n * size) = cs
    rw [← hl, List.take_length]⟩⟩

theorem layF_below : ∀ (l : List S105) (w : World), Below w.heap.size w (layF w l).1
  | [], w => Below.refl _ _
  | f :: r, w => by
    unfold layF
    split
    · exact layF_below r w
    · exact below_step (below_alloc (Below.refl _ _) _) (layF_below r _)

theorem layF_reads : ∀ (l : List S105) (w W : World), (∀ f ∈ l, f.f1.length ≤ 9223372036854775807) → Below (layF w l).1.heap.size (layF w l).1 W → Reps (fun x c => k105.K W x c) 4 l (layF w l).2
  | [], w, W, hl, hb => Reps.none _ _
  | f :: r, w, W, hl, hb => by
    have one : ∀ (x : S105) (c : List Value), k105.K W x c → Reps (fun x c => k105.K W x c) 4 [x] c := fun x c hc => by
      have h := (Reps.none (fun x c => k105.K W x c) 4).snoc hc (by rw [k105.K_len hc]; rfl)
      simpa using h
    have hr : ∀ w', Below (layF w' r).1.heap.size (layF w' r).1 W → Reps (fun x c => k105.K W x c) 4 r (layF w' r).2 := fun w' hb' => layF_reads r w' W (fun f hf => hl f (List.mem_cons_of_mem _ hf)) hb'
    unfold layF at hb ⊢
    split at hb
    · rename_i h0
      refine Kd.reps_append (one f _ ?_) (hr w hb)
      have := k105_mk W f (A1 := none) (c1 := 0) (by rw [h0]; exact Nat.le_refl _) (by rw [h0]; exact Kd.C_nil _ _)
      rwa [h0] at this
    · rename_i x xs h0
      refine Kd.reps_append (one f _ ?_) (hr _ hb)
      have hg : W.heap[w.heap.size]? = some (.cells ((x :: xs).map Value.string).toArray 9) := blk_below (blk_below (heap_alloc_new w _) (layF_below r _)) hb
      have hlen : (x :: xs).length ≤ 9223372036854775807 := by have := hl f List.mem_cons_self; rwa [h0] at this
      obtain ⟨A, c, he, hC⟩ := own_reads_row (R := fun (x : ByteArray) (cs : List Value) => cs = [.string x]) (block_own (size := 1) (n := (x :: xs).length) hg (by simp) hlen) (Kd.reps_scalar (enc := Value.string) (x :: xs)) rfl
      injection he with he1 he2 he3
      subst he1
      have := k105_mk W f (A1 := some ⟨w.heap.size, 0, none⟩) (c1 := xs.length + 1) (by rw [h0]; exact Nat.le_refl _) (by rw [h0]; exact hC)
      rwa [h0] at this

theorem lexicon_short : ∀ f ∈ lexicon, f.f1.length ≤ 9223372036854775807 := by
  have h : lexicon.all (fun f => decide (f.f1.length ≤ 3)) = true := by decide +kernel
  intro f hf
  have := List.all_eq_true.1 h f hf
  have := of_decide_eq_true this
  omega

/-- api.Functions: a new list that reads as the lexicon's functions. -/
theorem functions_calls (w : World) : Calls Try.prog 55 #[] w fun e w' => ∃ A c, e = .returned (.slice A lexicon.length c) ∧ lexicon.length ≤ c ∧ k105.C w' A lexicon.length lexicon ∧ Below w.heap.size w w' := by
  have h := run55 w
  cases hr : runL Try.prog ((opsOf Try.f55 0).toList ++ (opsOf Try.f55 1).toList) { tmps := #[] ++ Array.replicate (Try.f55.ntmps - 0) undef, defers := [] } w with
  | none => rw [hr] at h; cases h
  | some p =>
    obtain ⟨a', w'⟩ := p
    rw [hr] at h
    simp only [Option.map_some, Option.some.injEq, Prod.mk.injEq] at h
    obtain ⟨h0, hd, rfl⟩ := h
    rw [runL_append] at hr
    cases h1 : runL Try.prog (opsOf Try.f55 0).toList { tmps := #[] ++ Array.replicate (Try.f55.ntmps - 0) undef, defers := [] } w with
    | none => rw [h1] at hr; cases hr
    | some q =>
      obtain ⟨a1, w1⟩ := q
      rw [h1] at hr
      simp only [Option.bind_some] at hr
      refine calls_of_wp Try.func55 body55 ?_
      refine wp_seq (wp_region_list (wpList_run _ _ _ _ _ h1 ?_))
      refine wp_seq (wp_region_list (wpList_run _ _ _ _ _ hr ?_))
      refine wp_ret ?_
      refine bodyPost_ret (results_tmp rfl _ _ _) hd ?_
      have hl : lexicon.length = 61 := by decide +kernel
      refine ⟨_, _, congrArg Ending.returned h0, ?_, ?_, below_step (layF_below lexicon w) (below_alloc (Below.refl _ _) _)⟩
      · rw [hl]; exact Nat.le_refl _
      · have hb : Below (layF w lexicon).1.heap.size (layF w lexicon).1 ((layF w lexicon).1.alloc (.cells (layF w lexicon).2.toArray 105)) := below_alloc (Below.refl _ _) _
        have hR := layF_reads lexicon w _ lexicon_short hb
        obtain ⟨A, c, he, hC⟩ := own_reads_row (block_own (size := 4) (n := 61) (heap_alloc_new (layF w lexicon).1 _) (by rw [hR.1, hl]) (by omega)) hR hl
        injection he with he1 he2 he3
        subst he1
        rw [hl]
        exact hC
end Go.Proofs.Ytkblcdpmdbofgaa.A
/- What abstract.Category computes, bs a function on trees; that its Go code comes to it, in some number of rounds. -/
namespace Go.Proofs.Ytkblcdpmdbofgaa.A
open Go.RowKit Go.Proofs.YtkblcdpmdbofgaaW.PrintWords Go.Proofs.YtkblcdpmdbofgaaW.PrintLast Go.Proofs.YtkblcdpmdbofgaaW.PrintMore
set_option linter.unusedVariables false
set_option linter.unusedSimpArgs false

theorem wrap_small {x : Int} (h0 : -9000000000000000000 ≤ x) (h1 : x ≤ 9000000000000000000) : wrap64 x = x := by unfold wrap64; omega
theorem Ev.pure_ {α : Type} {g : Nat → Option α} {r : α} (h : ∀ k, g k = some r) : Ev g r := ⟨0, fun k _ => h k⟩
theorem rd68_cons (pre post : List S68) (t : S68) : rd_T68 (pre ++ t :: post) (pre.length : Int) = t := by
  unfold rd_T68
  rw [List.getD_eq_getElem?_getD, Int.toNat_natCast, List.getElem?_append_right (Nat.le_refl _)]
  simp
theorem rd_cons (pre post : List Int) (t : Int) : rd (pre ++ t :: post) (pre.length : Int) = t := by
  unfold rd
  rw [List.getD_eq_getElem?_getD, Int.toNat_natCast, List.getElem?_append_right (Nat.le_refl _)]
  simp
theorem rd105_cons (pre post : List S105) (t : S105) : rd_T105 (pre ++ t :: post) (pre.length : Int) = t := by
  unfold rd_T105
  rw [List.getD_eq_getElem?_getD, Int.toNat_natCast, List.getElem?_append_right (Nat.le_refl _)]
  simp
theorem rdOf_cons {α : Type} (d : α) (pre post : List α) (t : α) : rdOf d (pre ++ t :: post) (pre.length : Int) = t := by
  unfold rdOf
  rw [List.getD_eq_getElem?_getD, Int.toNat_natCast, List.getElem?_append_right (Nat.le_refl _)]
  simp

theorem bulkL_snoc (l : List S68) (t : S68) : bulkL (l ++ [t]) = bulkL l + bulk t := by
  induction l with
  | nil => simp [bulkL]
  | cons x r ih => simp only [List.cons_append, bulkL, ih]; omega

/-! ### Size -/
mutual
theorem size_ev : ∀ t : S68, bulk t ≤ 2000000 → Ev (fun k => abstract_Size.f k t.f0 t.f1 t.f2) (nodes t : Int)
  | ⟨n, vs, ks⟩, hb => by
    have h := sizeL_ev ks [] 1 (by simp [bulkL]) (by simp only [bulk] at hb; simp only [bulkL]; omega)
    simp only [nodes]
    refine Ev.step (fun k => rfl) ?_
    simp only [List.nil_append, List.length_nil] at h
    have e : ((nodesL ks + 1 : Nat) : Int) = 1 + (nodesL ks : Int) := by omega
    rw [e]
    exact h
theorem sizeL_ev : ∀ (ks pre : List S68) (s : Int), 0 ≤ s ∧ s ≤ 1 + (bulkL pre : Int) → bulkL pre + bulkL ks ≤ 2000000 → Ev (fun k => abstract_Size.l0 k s (pre ++ ks) ((pre ++ ks).length : Int) (pre.length : Int)) (s + (nodesL ks : Int))
  | [], pre, s, hs, hb => by
    refine Ev.step (f := fun _ => some s) (fun k => ?_) ?_
    · rw [abstract_Size.l0, if_neg (by simp)]
    · simp only [nodesL]
      have : s + ((0 : Nat) : Int) = s := by omega
      rw [this]
      exact Ev.now s
  | t :: r, pre, s, hs, hb => by
    have hlp := length_bulk pre
    have hlr := length_bulk r
    simp only [bulkL] at hb
    have ht := size_ev t (by omega)
    have hn := nodes_le t
    have hsn := bulkL_snoc pre t
    have hr := sizeL_ev r (pre ++ [t]) (s + (nodes t : Int)) ⟨by omega, by omega⟩ (by omega)
    refine Ev.step (f := fun k => (abstract_Size.f k t.f0 t.f1 t.f2).bind fun t110 => (abstract_Size.l0 k (wrap64 (s + t110)) (pre ++ t :: r) ((pre ++ t :: r).length : Int) (wrap64 ((pre.length : Int) + 1)))) (fun k => ?_) ?_
    · rw [abstract_Size.l0, if_pos (by simp; omega), if_pos (by omega), if_pos (by simp; omega), rd68_cons]
    · refine Ev.bind ht ?_
      rw [wrap_small (by omega) (by omega), wrap_small (by omega) (by omega)]
      have e1 : pre ++ [t] ++ r = pre ++ t :: r := by simp
      have e2 : ((pre ++ [t]).length : Int) = (pre.length : Int) + 1 := by simp
      rw [e1, e2] at hr
      simp only [nodesL]
      have e3 : s + ((nodes t + nodesL r : Nat) : Int) = s + (nodes t : Int) + (nodesL r : Int) := by omega
      rw [e3]
      exact hr
end

/-! ### index -/
def idx (l : List S105) (n : ByteArray) : Nat := l.findIdx fun f => decide (f.f0.toList = n.toList)
theorem idxL_ev (n : ByteArray) : ∀ (post pre : List S105), pre.length + post.length ≤ 2000000 → (∀ f ∈ pre, f.f0.toList ≠ n.toList) →
    Ev (fun k => abstract_index.l0 k (pre ++ post) n (pre ++ post) ((pre ++ post).length : Int) (pre.length : Int)) ((pre.length + idx post n : Nat) : Int)
  | [], pre, hl, hp => by
    refine Ev.step (f := fun _ => some ((pre ++ []).length : Int)) (fun k => ?_) ?_
    · rw [abstract_index.l0, if_neg (by simp)]
    · simp only [List.append_nil, idx, List.findIdx_nil, Nat.add_zero]
      exact Ev.now _
  | f :: r, pre, hl, hp => by
    by_cases h : f.f0.toList = n.toList
    · refine Ev.step (f := fun _ => some (pre.length : Int)) (fun k => ?_) ?_
      · rw [abstract_index.l0, if_pos (by simp; omega), if_pos (by omega), if_pos (by simp; omega), rd105_cons, if_pos h]
      · have : idx (f :: r) n = 0 := by simp [idx, List.findIdx_cons, h]
        rw [this]
        exact Ev.now _
    · have hr := idxL_ev n r (pre ++ [f]) (by simp at hl ⊢; omega) (fun g hg => by
        rcases List.mem_append.1 hg with hg | hg
        · exact hp g hg
        · rw [List.mem_singleton.1 hg]; exact h)
      have e1 : pre ++ [f] ++ r = pre ++ f :: r := by simp
      have e2 : ((pre ++ [f]).length : Int) = (pre.length : Int) + 1 := by simp
      rw [e1, e2] at hr
      have e3 : (((pre ++ [f]).length + idx r n : Nat) : Int) = ((pre.length + idx (f :: r) n : Nat) : Int) := by
        have : idx (f :: r) n = idx r n + 1 := by simp [idx, List.findIdx_cons, h]
        rw [this]; simp; omega
      rw [e3] at hr
      refine Ev.step (fun k => ?_) hr
      simp only [List.length_cons] at hl
      rw [abstract_index.l0, if_pos (by simp; omega), if_pos (by omega), if_pos (by simp; omega), rd105_cons, if_neg h, wrap_small (by omega) (by omega)]
theorem idx_ev (l : List S105) (n : ByteArray) (hl : l.length ≤ 2000000) : Ev (fun k => abstract_index.f k l n) (idx l n : Int) := by
  have h := idxL_ev n l [] (by simpa using hl) (fun _ h => by cases h)
  simpa [abstract_index.f] using h

/-! ### formed -/
def isVal (v : Int) : Bool := decide (0 ≤ v ∧ v ≤ 1439999999)
mutual
/-- The category of a tree, if it is well formed. -/
def formedS : S68 → Option ByteArray
  | ⟨n, vs, ks⟩ =>
    if idx lexicon n < lexicon.length ∧ ks.length = (rd_T105 lexicon (idx lexicon n)).f1.length ∧ (vs.length : Int) = (rd_T105 lexicon (idx lexicon n)).f3 ∧ vs.all isVal = true ∧ formedL ks (rd_T105 lexicon (idx lexicon n)).f1 = true then
      some (rd_T105 lexicon (idx lexicon n)).f2 else none
def formedL : List S68 → List ByteArray → Bool
  | [], _ => true
  | _ :: _, [] => false
  | t :: r, a :: bs => match formedS t with
    | some c => decide (c.toList = a.toList) && formedL r bs
    | none => false
end
def fres : Option ByteArray → ByteArray × Bool
  | some c => (c, true)
  | none => (⟨#[]⟩, false)
theorem isVal_f (v : Int) : abstract_isValue.f v = some (isVal v) := by
  unfold abstract_isValue.f isVal
  by_cases h : v ≥ 0
  · rw [if_pos h]; congr 1; by_cases h2 : v ≤ 1439999999 <;> simp [h2]; omega
  · rw [if_neg h]; congr 1; symm; rw [decide_eq_false_iff_not]; omega
theorem vals_ev {R : ByteArray × Bool} (x0 : List S105) (n : ByteArray) (vs0 : List Int) (ks : List S68) (q0 : ByteArray) (q1 : List ByteArray) (q2 : ByteArray) (q3 : Int) (hR : Ev (fun k => abstract_formed.l1 k x0 ks (ks.length : Int) 0 q0 q1 q2 q3) R) :
    ∀ (post pre : List Int), pre.length + post.length ≤ 2000000 → Ev (fun k => abstract_formed.l0 k x0 (pre ++ post) ((pre ++ post).length : Int) (pre.length : Int) n vs0 ks q0 q1 q2 q3) (if post.all isVal = true then R else (⟨#[]⟩, false))
  | [], pre, hl => by
    rw [if_pos (by simp)]
    refine Ev.step (fun k => ?_) hR
    rw [abstract_formed.l0, if_neg (by simp)]
  | v :: r, pre, hl => by
    simp only [List.length_cons] at hl
    have hr := vals_ev x0 n vs0 ks q0 q1 q2 q3 hR r (pre ++ [v]) (by simp; omega)
    have e1 : pre ++ [v] ++ r = pre ++ v :: r := by simp
    have e2 : ((pre ++ [v]).length : Int) = (pre.length : Int) + 1 := by simp
    rw [e1, e2] at hr
    refine Ev.step (f := fun k => if isVal v = true then (abstract_formed.l0 k x0 (pre ++ v :: r) ((pre ++ v :: r).length : Int) ((pre.length : Int) + 1) n vs0 ks q0 q1 q2 q3) else (some ((⟨#[]⟩ : ByteArray), false))) (fun k => ?_) ?_
    · rw [abstract_formed.l0, if_pos (by simp; omega), if_pos (by omega), if_pos (by simp; omega), rd_cons, isVal_f, Option.bind_some, wrap_small (by omega) (by omega)]
    · by_cases h : isVal v = true
      · simp only [h, if_true, List.all_cons, Bool.true_and]
        exact hr
      · rw [if_neg (by simp [h])]
        refine Ev.congr (fun k => if_neg h) (Ev.now _)

mutual
theorem formed_ev : ∀ t : S68, bulk t ≤ 2000000 → Ev (fun k => abstract_formed.f k lexicon t.f0 t.f1 t.f2) (fres (formedS t))
  | ⟨n, vs, ks⟩, hb => by
    simp only [bulk] at hb
    have hlk := length_bulk ks
    have hlex : lexicon.length = 61 := by decide +kernel
    have hi := idx_ev lexicon n (by omega)
    have hle : idx lexicon n ≤ lexicon.length := List.findIdx_le_length
    show Ev (fun k => abstract_formed.f k lexicon n vs ks) _
    refine Ev.step (fun k => by rw [abstract_formed.f]) ?_
    refine Ev.bind hi ?_
    by_cases h0 : idx lexicon n < lexicon.length
    · by_cases h1 : ks.length = (rd_T105 lexicon (idx lexicon n)).f1.length
      · have hL := formedL_ev ks [] (rd_T105 lexicon (idx lexicon n)).f1 [] (rd_T105 lexicon (idx lexicon n)).f0 (rd_T105 lexicon (idx lexicon n)).f2 (rd_T105 lexicon (idx lexicon n)).f3 (by simp only [bulkL]; omega) rfl h1
        simp only [List.nil_append, List.length_nil] at hL
        have hV := vals_ev lexicon n vs ks _ _ _ _ hL vs [] (by simp; omega)
        simp only [List.nil_append, List.length_nil] at hV
        refine Ev.congr (fun k => by rw [if_neg (by omega), if_pos (by omega), if_pos (by omega), if_pos (by omega)]) ?_
        refine Ev.step (fun k => by rw [abstract_formed.j0]) ?_
        by_cases h2 : (vs.length : Int) = (rd_T105 lexicon (idx lexicon n)).f3
        · refine Ev.congr (fun k => by rw [if_neg (by rw [bne_iff_ne]; exact fun h => h h2)]) ?_
          have e : fres (formedS ⟨n, vs, ks⟩) = (if vs.all isVal = true then (if formedL ks (rd_T105 lexicon (idx lexicon n)).f1 = true then ((rd_T105 lexicon (idx lexicon n)).f2, true) else (⟨#[]⟩, false)) else (⟨#[]⟩, false)) := by
            rw [formedS]
            by_cases h3 : vs.all isVal = true <;> by_cases h4 : formedL ks (rd_T105 lexicon (idx lexicon n)).f1 = true
            · rw [if_pos ⟨h0, h1, h2, h3, h4⟩, if_pos h3, if_pos h4]; rfl
            · rw [if_neg (fun h => h4 h.2.2.2.2), if_pos h3, if_neg h4]; rfl
            · rw [if_neg (fun h => h3 h.2.2.2.1), if_neg h3]; rfl
            · rw [if_neg (fun h => h3 h.2.2.2.1), if_neg h3]; rfl
          rw [e]
          exact hV
        · refine Ev.congr (fun k => by rw [if_pos (by rw [bne_iff_ne]; exact h2)]) ?_
          rw [formedS, if_neg (fun h => h2 h.2.2.1)]
          exact Ev.now _
      · refine Ev.congr (fun k => by rw [if_neg (by omega), if_pos (by omega), if_pos (by omega), if_neg (by omega)]) ?_
        refine Ev.step (fun k => by rw [abstract_formed.j0, if_pos rfl]) ?_
        rw [formedS, if_neg (fun h => h1 h.2.1)]
        exact Ev.now _
    · have h1 : idx lexicon n = lexicon.length := by omega
      refine Ev.congr (fun k => by rw [if_pos (by omega)]) ?_
      rw [formedS, if_neg (fun h => h0 h.1)]
      exact Ev.now _
theorem formedL_ev : ∀ (ks pre : List S68) (bs ap : List ByteArray) (q0 q2 : ByteArray) (q3 : Int), bulkL pre + bulkL ks ≤ 2000000 → pre.length = ap.length → ks.length = bs.length →
    Ev (fun k => abstract_formed.l1 k lexicon (pre ++ ks) ((pre ++ ks).length : Int) (pre.length : Int) q0 (ap ++ bs) q2 q3) (if formedL ks bs = true then (q2, true) else (⟨#[]⟩, false))
  | [], pre, bs, ap, q0, q2, q3, hb, hp, hl => by
    rw [formedL, if_pos rfl]
    refine Ev.step (f := fun _ => some (q2, true)) (fun k => ?_) (Ev.now _)
    rw [abstract_formed.l1, if_neg (by simp)]
  | t :: r, pre, [], ap, q0, q2, q3, hb, hp, hl => by simp at hl
  | t :: r, pre, a :: bs, ap, q0, q2, q3, hb, hp, hl => by
    have hlp := length_bulk pre
    have hlr := length_bulk r
    simp only [bulkL] at hb
    have ht := formed_ev t (by omega)
    have hsn := bulkL_snoc pre t
    have hr := formedL_ev r (pre ++ [t]) bs (ap ++ [a]) q0 q2 q3 (by omega) (by simp; omega) (by simpa using hl)
    have e1 : pre ++ [t] ++ r = pre ++ t :: r := by simp
    have e2 : ((pre ++ [t]).length : Int) = (pre.length : Int) + 1 := by simp
    have e3 : ap ++ [a] ++ bs = ap ++ a :: bs := by simp
    rw [e1, e2, e3] at hr
    have ea : rdOf ByteArray.empty (ap ++ a :: bs) (pre.length : Int) = a := by rw [hp]; exact rdOf_cons _ _ _ _
    refine Ev.step (fun k => by rw [abstract_formed.l1, if_pos (by simp; omega), if_pos (by omega), if_pos (by simp; omega), rd68_cons]) ?_
    rw [formedL]
    cases hf : formedS t with
    | none =>
      rw [hf] at ht
      refine Ev.bind (a := ((⟨#[]⟩ : ByteArray), false)) ht ?_
      refine Ev.congr (fun k => by rw [if_neg (show ¬ (((⟨#[]⟩ : ByteArray), false) : ByteArray × Bool).2 = true by simp)]) ?_
      rw [if_neg (by simp)]
      exact Ev.now _
    | some c =>
      rw [hf] at ht
      refine Ev.bind (a := (c, true)) ht ?_
      by_cases h : c.toList = a.toList
      · refine Ev.congr (fun k => by rw [if_pos (show ((c, true) : ByteArray × Bool).2 = true from rfl), if_pos (by simp; omega), ea, if_pos (show ((c, true) : ByteArray × Bool).1.toList = a.toList from h), wrap_small (by omega) (by omega)]) ?_
        simp only [h, decide_true, Bool.true_and]
        exact hr
      · refine Ev.congr (fun k => by rw [if_pos (show ((c, true) : ByteArray × Bool).2 = true from rfl), if_pos (by simp; omega), ea, if_neg (show ¬ ((c, true) : ByteArray × Bool).1.toList = a.toList from h)]) ?_
        rw [if_neg (by simp [h])]
        exact Ev.now _
end

/-- What abstract.Category answers, over the lexicon. -/
def catS (t : S68) : ByteArray × Int :=
  if (nodes t : Int) > 60 then (⟨#[]⟩, 2) else match formedS t with
    | some c => (c, 0)
    | none => (⟨#[]⟩, 6)
theorem cat_ev (t : S68) (hb : bulk t ≤ 2000000) : Ev (fun k => abstract_Category.f k lexicon t.f0 t.f1 t.f2) (catS t) := by
  unfold abstract_Category.f
  refine Ev.bind (size_ev t hb) ?_
  unfold catS
  by_cases h : (nodes t : Int) > 60
  · rw [if_pos h]
    exact Ev.congr (fun k => if_pos h) (Ev.now _)
  · rw [if_neg h]
    refine Ev.congr (fun k => if_neg h) ?_
    have hf := formed_ev t hb
    cases hq : formedS t with
    | none =>
      rw [hq] at hf
      refine Ev.bind (a := ((⟨#[]⟩ : ByteArray), false)) hf ?_
      exact Ev.congr (fun k => by rw [if_neg (show ¬ (((⟨#[]⟩ : ByteArray), false) : ByteArray × Bool).2 = true by simp)]) (Ev.now _)
    | some c =>
      rw [hq] at hf
      refine Ev.bind (a := (c, true)) hf ?_
      exact Ev.congr (fun k => by rw [if_pos (show ((c, true) : ByteArray × Bool).2 = true from rfl)]) (Ev.now _)
end Go.Proofs.Ytkblcdpmdbofgaa.A
/- session.notice: one to eight trees, all of category S. -/
namespace Go.Proofs.Ytkblcdpmdbofgaa.A
open Go.RowKit Go.Proofs.YtkblcdpmdbofgaaW.PrintWords Go.Proofs.YtkblcdpmdbofgaaW.PrintLast Go.Proofs.YtkblcdpmdbofgaaW.PrintMore
set_option linter.unusedVariables false
set_option linter.unusedSimpArgs false

def isS (t : S68) : Bool := decide ((catS t).2 = 0 ∧ (catS t).1.toList = [83])
def noticeS (l : List S68) : Bool := l.all isS && (decide (1 ≤ l.length) && decide (l.length ≤ 8))

theorem notice_not (l : List S68) (x : Int) (h0 : 0 ≤ x) (h1 : x < l.length) (h : isS (rd_T68 l x) = false) : noticeS l = false := by
  have : l.all isS = false := by
    rw [List.all_eq_false]
    exact ⟨_, rd_mem l x h0 h1, by rw [h]; simp⟩
  unfold noticeS
  rw [this, Bool.false_and]

/-- abstract.Category over the lexicon. -/
theorem cat_calls (A0 : Option Addr) (c0 : Nat) (t : S68) (A1 : Option Addr) (c1 : Nat) (A2 : Option Addr) (c2 : Nat) (w : World) (hb : Bd t) (h0 : k105.C w A0 lexicon.length lexicon) (l0 : lexicon.length ≤ c0)
    (h1 : (Kd.int .i64).C w A1 t.f1.length t.f1) (l1 : t.f1.length ≤ c1) (h2 : k68.C w A2 t.f2.length t.f2) (l2 : t.f2.length ≤ c2) :
    Calls Try.prog 54 #[.slice A0 lexicon.length c0, .agg #[.string t.f0, .slice A1 t.f1.length c1, .slice A2 t.f2.length c2]] w fun e w' => e = .returned (.tuple #[.string (catS t).1, .int .i64 (catS t).2]) ∧ Below w.heap.size w w' := by
  obtain ⟨k, hk⟩ := (cat_ev t hb).rounds
  exact abstract_Category.calls k A0 c0 lexicon t.f0 A1 c1 t.f1 A2 c2 t.f2 (catS t).1 (catS t).2 w h0 l0 h1 l1 h2 l2 hk

set_option maxHeartbeats 1000000 in
set_option maxRecDepth 100000 in
theorem notice_calls (l : List S68) (A : Option Addr) (c : Nat) (w : World) (hb : bulkL l ≤ 2000000) (hr : k68.C w A l.length l) (hc : l.length ≤ c) :
    Calls Try.prog 50 #[.slice A l.length c] w fun e w' => e = .returned (.bool (noticeS l)) ∧ Below w.heap.size w w' := by
  have HR := Aside0.mk hr
  clear hr
  have HBD : Aside0 (∀ x ∈ l, Bd x) := ⟨fun x hx => Nat.le_trans (mem_bulk hx) hb⟩
  have hlb := length_bulk l
  have hl : l.length ≤ 2000000 := by omega
  clear hb hlb
  have HB := Aside0.mk (Below.refl w.heap.size w)
  go_enter Try.func50, Try.ntmps50
  go_wp2
  go_loopw [9] (fun i w' => ∃ x : Int, i = .int .i64 x ∧ 0 ≤ x ∧ x ≤ l.length ∧ Aside0 ((l.take x.toNat).all isS = true) ∧ Aside0 (Below w.heap.size w w')) (fun i _ => l.length - (intOf i).toNat)
  case atStart => exact ⟨0, rfl, Int.le_refl _, Int.natCast_nonneg _, ⟨by simp⟩, HB⟩
  case round =>
    clear HB
    obtain ⟨x, rfl, hx, hk, HV, HB⟩ := hrel
    by_cases hlt : x < l.length
    · obtain ⟨ad, A1, c1, A2, c2, e, hx0, hx1, hx2, hl1, hi1, hl2, hi2⟩ := at_T68 HR.out x hx hlt
      cases e
      have D := Aside0.mk (fun (w1 : World) (hw : Below w.heap.size w w1) (A0 : Option Addr) (c0 : Nat) (h0 : k105.C w1 A0 lexicon.length lexicon) (l0 : lexicon.length ≤ c0) => cat_calls A0 c0 (rd_T68 l x) A1 c1 A2 c2 w1 (HBD.out _ (rd_mem l x hx hlt)) h0 l0 (Kd.C_below hi1 hw) hl1 (Kd.C_below hi2 hw) hl2)
      clear hl1 hi1 hl2 hi2
      replace hx0 := (HB.out.cell (World.block_lt_of_cell? w _ hx0)).trans hx0
      replace hx1 := (HB.out.cell (World.block_lt_of_cell? w _ hx1)).trans hx1
      replace hx2 := (HB.out.cell (World.block_lt_of_cell? w _ hx2)).trans hx2
      have p1 := eq_true hx
      have q1 := eq_true hlt
      generalize ht : rd_T68 l x = t at hx0 hx1 hx2 D
      go_wp2_with fail
      have HG0 := Aside0.mk (show (wr.alloc (.cells #[.string t.f0, .slice A1 t.f1.length c1, .slice A2 t.f2.length c2] 68)).drew.heap[wr.heap.size]? = some (.cells #[.string t.f0, .slice A1 t.f1.length c1, .slice A2 t.f2.length c2] 68) from heap_alloc_new wr _)
      have HB0 := Aside0.mk (below_drew (below_alloc HB.out (.cells #[.string t.f0, .slice A1 t.f1.length c1, .slice A2 t.f2.length c2] 68)))
      go_region_held3 (fun w' => w'.cell? ⟨wr.heap.size, 0, none⟩ = some (.string t.f0) ∧ w'.cell? ⟨wr.heap.size, 1, none⟩ = some (.slice A1 t.f1.length c1) ∧ w'.cell? ⟨wr.heap.size, 2, none⟩ = some (.slice A2 t.f2.length c2))
        (first
          | exact ⟨blk_cell HG0.out 0, blk_cell HG0.out 1, blk_cell HG0.out 2⟩
          | exact ⟨blk_cell HG3.out 0, blk_cell HG3.out 1, blk_cell HG3.out 2⟩
          | exact ⟨blk_cell HG5.out 0, blk_cell HG5.out 1, blk_cell HG5.out 2⟩)
        (first
          | (go_at_call 55; refine (functions_calls _).mono ?_; rintro e w1 ⟨A3, c3, rfl, hl3, hC3, hB1⟩; have HG3 := Aside0.mk (blk_below HG0.out hB1); have HB3 := Aside0.mk (below_step HB0.out hB1); have HC3 := Aside0.mk hC3; have HL3 := Aside0.mk hl3; clear hC3 hl3 hB1)
          | (go_at_call 54; refine (D.out _ HB3.out A3 c3 HC3.out HL3.out).mono ?_; rintro e w2 ⟨rfl, hB2⟩; have HG5 := Aside0.mk (blk_below HG3.out hB2); have HB5 := Aside0.mk (below_step HB3.out hB2); clear hB2))
      generalize ha1 : (catS t).1 = a1
      generalize ha2 : (catS t).2 = a2
      have HS : Aside0 (isS (rd_T68 l x) = decide (a2 = 0 ∧ a1.toList = [83])) := ⟨by rw [ht]; unfold isS; rw [ha1, ha2]⟩
      clear ha1 ha2 ht
      by_cases h2 : a2 = 0
      · by_cases h1 : a1.toList = [83]
        · have HT : Aside0 ((l.take (x + 1).toNat).all isS = true) := ⟨by rw [take_rd l x hx hlt, List.all_append, HV.out, List.all_cons, HS.out]; simp [h1, h2]⟩
          have f2 : (a2 != 0) = false := bne_eq_false_iff_eq.mpr h2
          have f1 : (a1.toList != ([83] : List UInt8)) = false := bne_eq_false_iff_eq.mpr h1
          have f4 : (a2 == 0) = true := beq_iff_eq.mpr h2
          have f3 : (a1.toList == ([83] : List UInt8)) = true := beq_iff_eq.mpr h1
          clear h1 h2 HS
          go_wp2
          go_roundw
          case rel => exact ⟨x + 1, rfl, by omega, by omega, HT, HB5⟩
          case measure => simp [intOf]; omega
        · have HF : Aside0 (noticeS l = false) := ⟨notice_not l x hx hlt (by rw [HS.out]; simp [h1])⟩
          have f2 : (a2 != 0) = false := bne_eq_false_iff_eq.mpr h2
          have f1 : (a1.toList != ([83] : List UInt8)) = true := bne_iff_ne.mpr h1
          have f4 : (a2 == 0) = true := beq_iff_eq.mpr h2
          have f3 : (a1.toList == ([83] : List UInt8)) = false := beq_eq_false_iff_ne.mpr h1
          clear h1 h2 HS
          go_wp2
          go_ret
          exact ⟨by rw [HF.out]; rfl, HB5.out⟩
      · have HF : Aside0 (noticeS l = false) := ⟨notice_not l x hx hlt (by rw [HS.out]; simp [h2])⟩
        have f2 : (a2 != 0) = true := bne_iff_ne.mpr h2
        have f4 : (a2 == 0) = false := beq_eq_false_iff_ne.mpr h2
        clear h2 HS
        go_wp2
        go_ret
        exact ⟨by rw [HF.out]; rfl, HB5.out⟩
    · have HN : Aside0 (noticeS l = (decide (1 ≤ l.length) && decide (l.length ≤ 8))) := ⟨by
        have := HV.out
        rw [List.take_of_length_le (by omega)] at this
        unfold noticeS
        rw [this, Bool.true_and]⟩
      clear HV
      by_cases h1 : 1 ≤ l.length
      · by_cases h8 : l.length ≤ 8
        · have f1 : decide (1 ≤ (l.length : Int)) = true := decide_eq_true (by omega)
          have f8 : decide ((l.length : Int) ≤ 8) = true := decide_eq_true (by omega)
          have HF : Aside0 (noticeS l = true) := ⟨by rw [HN.out]; simp [h1, h8]⟩
          clear HN
          go_wp2
          go_ret
          exact ⟨by rw [HF.out]; rfl, HB.out⟩
        · have f1 : decide (1 ≤ (l.length : Int)) = true := decide_eq_true (by omega)
          have f8 : decide ((l.length : Int) ≤ 8) = false := decide_eq_false (by omega)
          have HF : Aside0 (noticeS l = false) := ⟨by rw [HN.out]; simp [h8]⟩
          clear HN
          go_wp2
          go_ret
          exact ⟨by rw [HF.out]; rfl, HB.out⟩
      · have f1 : decide (1 ≤ (l.length : Int)) = false := decide_eq_false (by omega)
        have HF : Aside0 (noticeS l = false) := ⟨by rw [HN.out]; simp [h1]⟩
        clear HN
        go_wp2
        go_ret
        exact ⟨by rw [HF.out]; rfl, HB.out⟩
end Go.Proofs.Ytkblcdpmdbofgaa.A
