/-
  A part of the proof: R94, R95, R96, R97, R98, R99.
-/
import Derived.Test.YtcfjomnihhdpaaaGreatDoorSb3
import Derived.Test.YtcfjomnihhdpaaaGreatDoorSb16
namespace Go.Proofs.YtcfjomnihhdpaaaGreatDoor.A
open Go.RowKit Go.Proofs.YtcfjomnihhdpaaaGreatDoorW.PrintWords Go.Proofs.YtcfjomnihhdpaaaGreatDoorW.PrintLast Go.Proofs.YtcfjomnihhdpaaaGreatDoorW.PrintMore
set_option linter.unusedVariables false
set_option linter.unusedSimpArgs false
section
attribute [local go_sem] Oper.semAt_some
def At37 (w : World) (g : Nat) (o : Except Int S70) : Prop := match o with
 | .ok m => ∃ A2 c2 A5 c5, w.heap[g]? = some (.cells #[.int .i64 m.f0.f0, .string m.f0.f1, .slice A2 m.f0.f2.length c2, .int .i64 m.f0.f3, .int .i64 m.f0.f4, .slice A5 m.f0.f5.length c5] 37 (0, 0)) ∧ FmC w m.f0 A2 c2 A5 c5
 | .error _ => w.heap[g]? = some (.cells #[.int .i64 0, .string ⟨#[]⟩, .slice none 0 0, .int .i64 0, .int .i64 0, .slice none 0 0] 37 (0, 0))
def AtT (w : World) (g : Nat) (t : S30) : Prop := ∃ A1 c1 A2 c2, w.heap[g]? = some (.cells #[.string t.f0, .slice A1 t.f1.length c1, .slice A2 t.f2.length c2] 30 (0, 0)) ∧ TreeV w t A1 c1 A2 c2
theorem AtT.below {w w' : World} {g : Nat} {t : S30} (h : AtT w g t) (hB : Below w.heap.size w w') : AtT w' g t := by
 obtain ⟨A1, c1, A2, c2, h1, h2⟩ := h
 exact ⟨A1, c1, A2, c2, blk_below h1 hB, h2.below hB⟩
theorem At37.below {w w' : World} {g : Nat} {o : Except Int S70} (h : At37 w g o) (hB : Below w.heap.size w w') : At37 w' g o := by
 cases o with
 | error c => exact blk_below h hB
 | ok m =>
  obtain ⟨A1, c1, A2, c2, h1, h2⟩ := h
  exact ⟨A1, c1, A2, c2, blk_below h1 hB, h2.below hB⟩
def AtS (w : World) (g : Nat) (s : Sg) : Prop := w.heap[g]? = some (.cells #[.slice s.A0 s.ss.length s.c0, .slice s.A1 s.cs.length s.c1, .slice s.A2 s.ps.length s.c2] 26 (0, 0)) ∧ s.C w
theorem AtS.below {w w' : World} {g : Nat} {s : Sg} (h : AtS w g s) (hB : Below w.heap.size w w') : AtS w' g s := ⟨blk_below h.1 hB, SigC.below h.2 hB⟩
def sgV (s : Sg) : Value := .agg #[.slice s.A0 s.ss.length s.c0, .slice s.A1 s.cs.length s.c1, .slice s.A2 s.ps.length s.c2]
def IsF (w : World) (ok : Nat → Prop) (o : Except Int S70) (v : Value) : Prop := match o with
 | .ok m => FmV w ok v m
 | .error _ => v = zeroF
def codeOf (o : Except Int S70) : Int := match o with | .ok _ => 0 | .error c => c
theorem FmV.step {w w1 : World} {ok : Nat → Prop} {v : Value} {m : S70} (h : FmV w ok v m) (hm : ∀ k, ok k → k < w.heap.size → w1.heap[k]? = w.heap[k]?) : FmV w1 ok v m := by
 obtain ⟨A2, c2, A5, c5, e, l2, g2, l5, g5⟩ := h
 exact ⟨A2, c2, A5, c5, e, l2, Kd.F_step g2 hm, l5, Kd.F_step g5 hm⟩
theorem FmV.mono {w : World} {ok ok' : Nat → Prop} {v : Value} {m : S70} (h : FmV w ok v m) (hi : ∀ k, ok k → k < w.heap.size → ok' k) : FmV w ok' v m := by
 obtain ⟨A2, c2, A5, c5, e, l2, g2, l5, g5⟩ := h
 exact ⟨A2, c2, A5, c5, e, l2, Kd.F_mono (Kd.F_bound g2) (fun k hk => hi k hk.1 hk.2), l5, Kd.F_mono (Kd.F_bound g5) (fun k hk => hi k hk.1 hk.2)⟩
theorem IsF.step {w w' : World} {ok : Nat → Prop} {o : Except Int S70} {v : Value} (h : IsF w ok o v) (hm : ∀ k, ok k → k < w.heap.size → w'.heap[k]? = w.heap[k]?) : IsF w' ok o v := by
 cases o with
 | error c => exact h
 | ok m => exact FmV.step h hm
theorem IsF.below {w w' : World} {ok : Nat → Prop} {o : Except Int S70} {v : Value} (h : IsF w ok o v) (hB : Below w.heap.size w w') : IsF w' ok o v := h.step (fun k _ hk => hB.block k hk)
theorem IsF.mono {w : World} {ok ok' : Nat → Prop} {o : Except Int S70} {v : Value} (h : IsF w ok o v) (hi : ∀ k, ok k → k < w.heap.size → ok' k) : IsF w ok' o v := by
 cases o with
 | error c => exact h
 | ok m => exact FmV.mono h hi
def zero37 : Obj := .cells #[.int .i64 0, .string ⟨#[]⟩, .slice none 0 0, .int .i64 0, .int .i64 0, .slice none 0 0] 37 (0, 0)
def IsI (w : World) (n : Int) (v : Value) : Prop := ∃ A c, v = .slice A 1 c ∧ 1 ≤ c ∧ (Kd.int .i64).C w A 1 [n]
theorem IsI.below {w w' : World} {n : Int} {v : Value} (h : IsI w n v) (hB : Below w.heap.size w w') : IsI w' n v := by
 obtain ⟨A, c, e, h1, h2⟩ := h
 exact ⟨A, c, e, h1, Kd.C_below h2 hB⟩
section
variable {ops : Array Oper} {Q : Exit → Act → World → Prop} {md : Region.Mode} {i : Nat} {o : Oper} {J : Act → World → Prop} {a : Act} {w : World}
theorem op_tree {nm : ByteArray} {l : List S30} {k : Tmp} {v : Value} (hi : ops[i]? = some o) (hg : o.guard = none) (ho : o.op = .call { callee := .value (.func 32), args := #[.const (.string nm), .tmp k], argTypes := #[9, 28] }) (ha : a.tmps[k]?.getD undef = v) (hv : IsL w l v)
  (h : ∀ u w', IsT w' ⟨nm, [], l⟩ u → Below w.heap.size w w' → J (a.put o.dst u) w') : wpOp Tryz.prog ops Q i J a w := by
 refine op_call (f := 32) (args := #[.string nm, v]) hi (wanted_none hg) ?_ ((tree_callsT nm l v w hv).mono ?_)
 ·have he := enters_of Tryz.func32 (by kernel_rfl) rfl #[.string nm, v] w
  unfold execOp
  rw [ho]
  go_simp
 ·rintro e w' ⟨u, rfl, hu, hB⟩
  exact ⟨u, rfl, h u w' hu hB⟩
theorem op_leaf {nm : ByteArray} (hi : ops[i]? = some o) (hg : o.guard = none) (ho : o.op = .call { callee := .value (.func 32), args := #[.const (.string nm), .const (.slice none 0 0)], argTypes := #[9, 28] })
  (h : ∀ u w', IsT w' ⟨nm, [], []⟩ u → Below w.heap.size w w' → J (a.put o.dst u) w') : wpOp Tryz.prog ops Q i J a w := by
 refine op_call (f := 32) (args := #[.string nm, .slice none 0 0]) hi (wanted_none hg) ?_ ((tree_callsT nm [] _ w (IsL.nil w)).mono ?_)
 ·have he := enters_of Tryz.func32 (by kernel_rfl) rfl #[.string nm, .slice none 0 0] w
  unfold execOp
  rw [ho]
  go_simp
 ·rintro e w' ⟨u, rfl, hu, hB⟩
  exact ⟨u, rfl, h u w' hu hB⟩
theorem op_row1 {t : S30} {k : Tmp} {v : Value} (hi : ops[i]? = some o) (hg : o.guard = none) (ho : o.op = .buildSlice 28 1 #[(0, .tmp k)]) (ha : a.tmps[k]?.getD undef = v) (hv : IsT w t v)
  (h : ∀ u w', IsL w' [t] u → Below w.heap.size w w' → J (a.put o.dst u) w') : wpOp Tryz.prog ops Q i J a w := by
 obtain ⟨A1, c1, A2, c2, rfl, hT⟩ := hv
 refine op_value hi (wanted_none hg) ?_ (h _ _ (isL1 hT) (below_alloc (Below.refl _ _) _))
 unfold execOp
 rw [ho]
 go_simp
theorem op_row2 {t u : S30} {k k2 : Tmp} {v v2 : Value} (hi : ops[i]? = some o) (hg : o.guard = none) (ho : o.op = .buildSlice 28 2 #[(0, .tmp k), (1, .tmp k2)]) (ha : a.tmps[k]?.getD undef = v) (ha2 : a.tmps[k2]?.getD undef = v2) (hv : IsT w t v) (hv2 : IsT w u v2)
  (h : ∀ x w', IsL w' [t, u] x → Below w.heap.size w w' → J (a.put o.dst x) w') : wpOp Tryz.prog ops Q i J a w := by
 obtain ⟨A1, c1, A2, c2, rfl, hT⟩ := hv
 obtain ⟨B1, d1, B2, d2, rfl, hU⟩ := hv2
 refine op_value hi (wanted_none hg) ?_ (h _ _ (isL2 hT hU) (below_alloc (Below.refl _ _) _))
 unfold execOp
 rw [ho]
 go_simp
theorem op_loadT {t : S30} {k : Tmp} {g : Nat} (hi : ops[i]? = some o) (hg : o.guard = none) (ho : o.op = .load 30 (.tmp k)) (ha : a.tmps[k]?.getD undef = .pointer (some ⟨g, 0, none⟩)) (hh : AtT w g t)
  (h : ∀ u, IsT w t u → J (a.put o.dst u) w) : wpOp Tryz.prog ops Q i J a w := by
 obtain ⟨A1, c1, A2, c2, hb, hT⟩ := hh
 have x0 := blk_cell hb 0
 have x1 := blk_cell hb 1
 have x2 := blk_cell hb 2
 simp at x0 x1 x2
 refine op_value hi (wanted_none hg) (w' := w) ?_ (h _ ⟨A1, c1, A2, c2, rfl, hT⟩)
 unfold execOp
 rw [ho]
 go_simp
theorem op_loadS {s : Sg} {k : Tmp} {g : Nat} (hi : ops[i]? = some o) (hg : o.guard = none) (ho : o.op = .load 26 (.tmp k)) (ha : a.tmps[k]?.getD undef = .pointer (some ⟨g, 0, none⟩)) (hh : AtS w g s)
  (h : J (a.put o.dst (sgV s)) w) : wpOp Tryz.prog ops Q i J a w := by
 have x0 := blk_cell hh.1 0
 have x1 := blk_cell hh.1 1
 have x2 := blk_cell hh.1 2
 simp at x0 x1 x2
 refine op_value hi (wanted_none hg) (w' := w) ?_ h
 unfold execOp sgV
 rw [ho]
 go_simp
theorem op_new37 (hi : ops[i]? = some o) (hg : o.guard = none) (ho : o.op = .alloc 37) (h : J (a.put o.dst (.pointer (some ⟨w.heap.size, 0, none⟩))) (w.alloc (.cells #[.int .i64 0, .string ⟨#[]⟩, .slice none 0 0, .int .i64 0, .int .i64 0, .slice none 0 0] 37))) : wpOp Tryz.prog ops Q i J a w := by
 refine op_value hi (wanted_none hg) ?_ h
 unfold execOp
 rw [ho]
 go_simp
theorem op_sent {T : Lib.PrintTabs} {s : Sg} {t : S30} {k k2 : Tmp} {v : Value} (hi : ops[i]? = some o) (hg : o.guard = none) (ho : o.op = .call { callee := .value (.func 26), args := #[.tmp k, .tmp k2], argTypes := #[26, 30] }) (ha : a.tmps[k]?.getD undef = sgV s) (ha2 : a.tmps[k2]?.getD undef = v) (hv : IsT w t v) (hT : Tabs T w) (hC : s.C w) (hsm : Sm t) (hn : nodes t ≤ 500)
  (h : ∀ u w', IsF w' (fun k => w.heap.size ≤ k) (senP s t) u → Below w.heap.size w w' → J (a.put o.dst (.tuple #[u, .int .i64 (codeOf (senP s t))])) w') : wpOp Tryz.prog ops Q i J a w := by
 obtain ⟨A1, c1, A2, c2, rfl, hV⟩ := hv
 refine op_call (f := 26) (args := #[sgV s, .agg #[.string t.f0, .slice A1 t.f1.length c1, .slice A2 t.f2.length c2]]) hi (wanted_none hg) ?_ ((sentence_calls T s t w A1 c1 A2 c2 hT hC hV hsm hn).mono ?_)
 ·have he := enters_of Tryz.func26 (by kernel_rfl) rfl #[sgV s, .agg #[.string t.f0, .slice A1 t.f1.length c1, .slice A2 t.f2.length c2]] w
  unfold execOp
  rw [ho]
  go_simp
 ·rintro e w' ⟨hB, hr⟩
  revert h
  cases ho : senP s t with
  | error c =>
   rw [ho] at hr
   intro h
   exact ⟨_, hr, h _ _ rfl hB⟩
  | ok m =>
   rw [ho] at hr
   obtain ⟨v, he, hf⟩ := hr
   intro h
   exact ⟨_, he, h _ _ hf hB⟩
theorem op_noun {s : Sg} {t : S30} {k k2 : Tmp} {v : Value} (hi : ops[i]? = some o) (hg : o.guard = none) (ho : o.op = .call { callee := .value (.func 16), args := #[.tmp k, .tmp k2], argTypes := #[26, 30] }) (ha : a.tmps[k]?.getD undef = sgV s) (ha2 : a.tmps[k2]?.getD undef = v) (hv : IsT w t v) (hC : s.C w) (hsm : Sm t) (hn : nodes t ≤ 500)
  (h : ∀ u y w', IsF w' (fun k => w.heap.size ≤ k) (nouP s t) u → ((nouP s t).toOption.isSome = true → sortP s.ps 60 t = some y) → Below w.heap.size w w' → J (a.put o.dst (.tuple #[u, .string y, .int .i64 (codeOf (nouP s t))])) w') : wpOp Tryz.prog ops Q i J a w := by
 obtain ⟨A1, c1, A2, c2, rfl, hV⟩ := hv
 refine op_call (f := 16) (args := #[sgV s, .agg #[.string t.f0, .slice A1 t.f1.length c1, .slice A2 t.f2.length c2]]) hi (wanted_none hg) ?_ ((noun_calls s t w A1 c1 A2 c2 hC hV hsm hn).mono ?_)
 ·have he := enters_of Tryz.func16 (by kernel_rfl) rfl #[sgV s, .agg #[.string t.f0, .slice A1 t.f1.length c1, .slice A2 t.f2.length c2]] w
  unfold execOp
  rw [ho]
  go_simp
 ·rintro e w' ⟨hB, hr⟩
  revert h
  cases ho : nouP s t with
  | error c =>
   rw [ho] at hr
   intro h
   exact ⟨_, hr, h _ _ _ rfl (fun h => by cases h) hB⟩
  | ok m =>
   rw [ho] at hr
   obtain ⟨v, y, hy, he, hf⟩ := hr
   intro h
   exact ⟨_, he, h _ _ _ hf (fun _ => hy) hB⟩
theorem op_rowI {n : Int} (hi : ops[i]? = some o) (hg : o.guard = none) (ho : o.op = .buildSlice 27 1 #[(0, .const (.int .i64 n))])
  (h : ∀ u w', IsI w' n u → Below w.heap.size w w' → J (a.put o.dst u) w') : wpOp Tryz.prog ops Q i J a w := by
 refine op_value hi (wanted_none hg) ?_ (h _ _ ⟨_, 1, rfl, Nat.le_refl _, isI1 w n⟩ (below_alloc (Below.refl _ _) _))
 unfold execOp
 rw [ho]
 go_simp
theorem op_bt {nm : ByteArray} {n : Int} {l : List S30} {k k2 : Tmp} {v v2 : Value} (hi : ops[i]? = some o) (hg : o.guard = none) (ho : o.op = .build 30 #[(0, .const (.string nm)), (1, .tmp k), (2, .tmp k2)]) (ha : a.tmps[k]?.getD undef = v) (ha2 : a.tmps[k2]?.getD undef = v2) (hv : IsI w n v) (hv2 : IsL w l v2)
  (h : ∀ u, IsT w ⟨nm, [n], l⟩ u → J (a.put o.dst u) w) : wpOp Tryz.prog ops Q i J a w := by
 obtain ⟨A, c, rfl, hl, hC⟩ := hv
 obtain ⟨A2, c2, rfl, hl2, hC2⟩ := hv2
 refine op_value hi (wanted_none hg) (w' := w) ?_ (h _ ⟨A, c, A2, c2, rfl, hl, hC, hl2, hC2⟩)
 unfold execOp
 rw [ho]
 go_simp
theorem op_store37 {r : Except Int S70} {k k2 : Tmp} {g : Nat} {v : Value} (hi : ops[i]? = some o) (hg : o.guard = none) (hd : o.dst = none) (ho : o.op = .store 37 (.tmp k) (.tmp k2)) (ha : a.tmps[k]?.getD undef = .pointer (some ⟨g, 0, none⟩)) (ha2 : a.tmps[k2]?.getD undef = v) (hz : w.heap[g]? = some zero37) (hF : IsF w (fun k => k ≠ g) r v)
  (h : ∀ w', At37 w' g r → (∀ B, B ≤ g → Below B w w') → (∀ k, k ≠ g → k < w.heap.size → w'.heap[k]? = w.heap[k]?) → J a w') : wpOp Tryz.prog ops Q i J a w := by
 have f0 := blk_frozen hz 0
 have f1 := blk_frozen hz 1
 have f2 := blk_frozen hz 2
 have f3 := blk_frozen hz 3
 have f4 := blk_frozen hz 4
 have f5 := blk_frozen hz 5
 have z0 := blk_cell hz 0
 have z1 := blk_cell hz 1
 have z2 := blk_cell hz 2
 have z3 := blk_cell hz 3
 have z4 := blk_cell hz 4
 have z5 := blk_cell hz 5
 simp at z0 z1 z2 z3 z4 z5
 have hput : a.put none undef = a := rfl
 have hb : ∀ (a0 a1 a2 a3 a4 a5 : Value) (B : Nat), B ≤ g → Below B w (set6 w g a0 a1 a2 a3 a4 a5) := fun a0 a1 a2 a3 a4 a5 B hB => (kp_set6 a0 a1 a2 a3 a4 a5).toBelow (by have := blk_lt hz; omega) (fun k hk => by omega)
 have hfar : ∀ (a0 a1 a2 a3 a4 a5 : Value) (k : Nat), k ≠ g → k < w.heap.size → (set6 w g a0 a1 a2 a3 a4 a5).heap[k]? = w.heap[k]? := fun a0 a1 a2 a3 a4 a5 k hk hlt => (kp_set6 a0 a1 a2 a3 a4 a5).block k hlt hk
 cases r with
 | error c =>
  obtain rfl : v = zeroF := hF
  have hh := h (set6 w g (.int .i64 0) (.string ⟨#[]⟩) (.slice none 0 0) (.int .i64 0) (.int .i64 0) (.slice none 0 0)) (fin6 hz _ _ _ _ _ _) (hb _ _ _ _ _ _) (hfar _ _ _ _ _ _)
  refine wpOp_step hi (fun K hK => ?_)
  have hk := hK _ _ hh
  rw [if_pos (wanted_none hg)]
  unfold Oper.wp execOp
  rw [ho]
  unfold zeroF at ha2
  go_simp
  unfold set6 at hk
  exact hk
 | ok m =>
  obtain ⟨A2, c2, A5, c5, rfl, l2, g2, l5, g5⟩ := hF
  have hF' := fun k (hk : k ≠ g) (hlt : k < w.heap.size) => hfar (.int .i64 m.f0.f0) (.string m.f0.f1) (.slice A2 m.f0.f2.length c2) (.int .i64 m.f0.f3) (.int .i64 m.f0.f4) (.slice A5 m.f0.f5.length c5) k hk hlt
  have hh := h (set6 w g (.int .i64 m.f0.f0) (.string m.f0.f1) (.slice A2 m.f0.f2.length c2) (.int .i64 m.f0.f3) (.int .i64 m.f0.f4) (.slice A5 m.f0.f5.length c5)) ⟨A2, c2, A5, c5, fin6 hz _ _ _ _ _ _, l2, Kd.F_now (Kd.F_step g2 hF'), l5, Kd.F_now (Kd.F_step g5 hF')⟩ (hb _ _ _ _ _ _) (hfar _ _ _ _ _ _)
  refine wpOp_step hi (fun K hK => ?_)
  have hk := hK _ _ hh
  rw [if_pos (wanted_none hg)]
  unfold Oper.wp execOp
  rw [ho]
  go_simp
  unfold set6 at hk
  exact hk
end
end
section
attribute [local go_sem] Oper.semAt_some
def fr13 (f : Nat → Value) : Act := { tmps := #[f 0, f 1, f 2, f 3, f 4, f 5, f 6, f 7, f 8, f 9, f 10, f 11, f 12, f 13, f 14, f 15, f 16, f 17, f 18, f 19, f 20, f 21, f 22, f 23, f 24, f 25, f 26, f 27, f 28, f 29, f 30, f 31, f 32, f 33, f 34, f 35, f 36, f 37, f 38, f 39, f 40, f 41, f 42, f 43, f 44, f 45, f 46, f 47, f 48, f 49, f 50, f 51, f 52, f 53, f 54, f 55, f 56, f 57, f 58, f 59, f 60, f 61, f 62, f 63, f 64, f 65, f 66, f 67, f 68, f 69, f 70, f 71, f 72, f 73, f 74, f 75, f 76, f 77, f 78, f 79, f 80, f 81, f 82, f 83, f 84, f 85, f 86, f 87, f 88, f 89, f 90, f 91, f 92, f 93, f 94, f 95, f 96, f 97, f 98, f 99, f 100, f 101, f 102, f 103, f 104, f 105, f 106, f 107, f 108, f 109, f 110, f 111, f 112, f 113, f 114, f 115, f 116, f 117, f 118, f 119, f 120, f 121, f 122, f 123, f 124, f 125], defers := [] }
def tMarta : S30 := (⟨⟨#[78, 97, 109, 101]⟩, [], [(⟨⟨#[109, 97, 114, 116, 97]⟩, [], []⟩ : S30)]⟩ : S30)
def tCarry : S30 := (⟨⟨#[65, 115, 115, 101, 114, 116]⟩, [], [(⟨⟨#[69, 118, 101, 114, 121]⟩, [], [(⟨⟨#[78, 111, 117, 110]⟩, [], [(⟨⟨#[112, 97, 115, 115, 101, 110, 103, 101, 114]⟩, [], []⟩ : S30)]⟩ : S30)]⟩ : S30), (⟨⟨#[68, 111]⟩, [], [(⟨⟨#[99, 97, 114, 114, 121]⟩, [], []⟩ : S30), (⟨⟨#[83, 111, 109, 101]⟩, [], [(⟨⟨#[78, 111, 117, 110]⟩, [], [(⟨⟨#[98, 97, 103]⟩, [], []⟩ : S30)]⟩ : S30)]⟩ : S30)]⟩ : S30)]⟩ : S30)
def tSmoke : S30 := (⟨⟨#[77, 117, 115, 116, 78, 111, 116]⟩, [], [tMarta, (⟨⟨#[65, 99, 116]⟩, [], [(⟨⟨#[115, 109, 111, 107, 101]⟩, [], []⟩ : S30)]⟩ : S30)]⟩ : S30)
def tCapt : S30 := (⟨⟨#[65, 115, 115, 101, 114, 116]⟩, [], [tMarta, (⟨⟨#[68, 111]⟩, [], [(⟨⟨#[99, 97, 114, 114, 121]⟩, [], []⟩ : S30), (⟨⟨#[78, 97, 109, 101]⟩, [], [(⟨⟨#[99, 97, 112, 116, 97, 105, 110]⟩, [], []⟩ : S30)]⟩ : S30)]⟩ : S30)]⟩ : S30)
def tWait : S30 := (⟨⟨#[65, 115, 115, 101, 114, 116]⟩, [], [(⟨⟨#[73, 116]⟩, [], []⟩ : S30), (⟨⟨#[65, 99, 116]⟩, [], [(⟨⟨#[119, 97, 105, 116]⟩, [], []⟩ : S30)]⟩ : S30)]⟩ : S30)
def tBag : S30 := (⟨⟨#[87, 104, 111]⟩, [], [(⟨⟨#[78, 111, 117, 110]⟩, [], [(⟨⟨#[98, 97, 103]⟩, [], []⟩ : S30)]⟩ : S30), (⟨⟨#[67, 111, 115, 116]⟩, [30], [(⟨⟨#[99, 111, 115, 116]⟩, [], []⟩ : S30)]⟩ : S30)]⟩ : S30)
end
section
attribute [local go_sem] Oper.semAt_some
def E13 (r : Except Int S70) (v p : Value) (w : World) : Prop := ∀ u g, (∃ cs : List Value, v = .tuple (u :: cs).toArray) → p = .pointer (some ⟨g, 0, none⟩) → IsF w (fun k => k ≠ g) r u
theorem E13.below {r : Except Int S70} {v p : Value} {w w' : World} (h : E13 r v p w) (hB : Below w.heap.size w w') : E13 r v p w' := fun u g h1 h2 => (h u g h1 h2).below hB
theorem tuple_head {u u' : Value} {cs cs' : List Value} (h : Value.tuple (u :: cs).toArray = .tuple (u' :: cs').toArray) : u = u' := by
 injection h with h
 have := congrArg Array.toList h
 simp at this
 exact this.1
theorem E13.call {r : Except Int S70} {w w' : World} {u p : Value} {cs : List Value} {B0 : Nat} (hu : IsF w' (fun k => w.heap.size ≤ k) r u) (hp : ∃ g, p = .pointer (some ⟨g, 0, none⟩) ∧ B0 ≤ g ∧ w.heap[g]? = some zero37) : E13 r (.tuple (u :: cs).toArray) p w' := by
 obtain ⟨g, rfl, _, hz⟩ := hp
 rintro u' g' ⟨cs', he⟩ hg
 obtain rfl := tuple_head he
 injection hg with hg
 injection hg with hg
 injection hg with hg
 subst hg
 have := blk_lt hz
 exact hu.mono (fun k hk _ => by omega)
theorem E13.new {r : Except Int S70} {w : World} {u v : Value} {cs : List Value} (o : Obj) (hv : v = .tuple (u :: cs).toArray) (hu : IsF w (fun _ => True) r u) : E13 r v (.pointer (some ⟨w.heap.size, 0, none⟩)) (w.alloc o) := by
 subst hv
 rintro u' g' ⟨cs', he⟩ hg
 obtain rfl := tuple_head he
 injection hg with hg
 injection hg with hg
 injection hg with hg
 subst hg
 exact (hu.mono (fun k _ hk => by omega)).below (below_alloc (Below.refl _ _) o)
section
variable {ops : Array Oper} {Q : Exit → Act → World → Prop} {i : Nat} {o : Oper} {J : Act → World → Prop} {a : Act} {w : World}
theorem op_new26 (hi : ops[i]? = some o) (hg : o.guard = none) (ho : o.op = .alloc 26) (h : J (a.put o.dst (.pointer (some ⟨w.heap.size, 0, none⟩))) (w.alloc (.cells #[.slice none 0 0, .slice none 0 0, .slice none 0 0] 26))) : wpOp Tryz.prog ops Q i J a w := by
 refine op_value hi (wanted_none hg) ?_ h
 unfold execOp
 rw [ho]
 go_simp
theorem op_store30 {k k2 : Tmp} {g : Nat} {x : ByteArray} {A1 A2 : Option Addr} {n1 c1 n2 c2 : Nat} {y0 y1 y2 : Value} (hi : ops[i]? = some o) (hg : o.guard = none) (hd : o.dst = none) (ho : o.op = .store 30 (.tmp k) (.tmp k2)) (ha : a.tmps[k]?.getD undef = .pointer (some ⟨g, 0, none⟩)) (ha2 : a.tmps[k2]?.getD undef = .agg #[.string x, .slice A1 n1 c1, .slice A2 n2 c2]) (hz : w.heap[g]? = some (.cells #[y0, y1, y2] 30 (0, 0)))
  (h : ∀ w', w'.heap[g]? = some (.cells #[.string x, .slice A1 n1 c1, .slice A2 n2 c2] 30 (0, 0)) → (∀ B, B ≤ g → Below B w w') → J a w') : wpOp Tryz.prog ops Q i J a w := by
 have hh := h _ (fin3 hz (.string x) (.slice A1 n1 c1) (.slice A2 n2 c2)) (fin3_any (blk_lt hz) _ _ _)
 have f0 := blk_frozen hz 0
 have f1 := blk_frozen hz 1
 have f2 := blk_frozen hz 2
 have z0 := blk_cell hz 0
 have z1 := blk_cell hz 1
 have z2 := blk_cell hz 2
 simp at z0 z1 z2
 have hput : a.put none undef = a := rfl
 refine wpOp_step hi (fun K hK => ?_)
 have hk := hK _ _ hh
 rw [if_pos (wanted_none hg)]
 unfold Oper.wp execOp
 rw [ho]
 go_simp
 exact hk
theorem op_store26 {k k2 : Tmp} {g : Nat} {A0 A1 A2 : Option Addr} {n0 c0 n1 c1 n2 c2 : Nat} {y0 y1 y2 : Value} (hi : ops[i]? = some o) (hg : o.guard = none) (hd : o.dst = none) (ho : o.op = .store 26 (.tmp k) (.tmp k2)) (ha : a.tmps[k]?.getD undef = .pointer (some ⟨g, 0, none⟩)) (ha2 : a.tmps[k2]?.getD undef = .agg #[.slice A0 n0 c0, .slice A1 n1 c1, .slice A2 n2 c2]) (hz : w.heap[g]? = some (.cells #[y0, y1, y2] 26 (0, 0)))
  (h : ∀ w', w'.heap[g]? = some (.cells #[.slice A0 n0 c0, .slice A1 n1 c1, .slice A2 n2 c2] 26 (0, 0)) → (∀ B, B ≤ g → Below B w w') → J a w') : wpOp Tryz.prog ops Q i J a w := by
 have hh := h _ (fin3 hz (.slice A0 n0 c0) (.slice A1 n1 c1) (.slice A2 n2 c2)) (fin3_any (blk_lt hz) _ _ _)
 have f0 := blk_frozen hz 0
 have f1 := blk_frozen hz 1
 have f2 := blk_frozen hz 2
 have z0 := blk_cell hz 0
 have z1 := blk_cell hz 1
 have z2 := blk_cell hz 2
 simp at z0 z1 z2
 have hput : a.put none undef = a := rfl
 refine wpOp_step hi (fun K hK => ?_)
 have hk := hK _ _ hh
 rw [if_pos (wanted_none hg)]
 unfold Oper.wp execOp
 rw [ho]
 go_simp
 exact hk
end
end
section
attribute [local go_sem] Oper.semAt_some
def MSig (s : Sg) : Prop := s.ss = mSorts ∧ s.cs = mConsts ∧ s.ps = mPreds
def Is37 (w : World) (p : Value) (r : Except Int S70) : Prop := ∃ g, p = .pointer (some ⟨g, 0, none⟩) ∧ At37 w g r
theorem Is37.below {w w' : World} {p : Value} {r : Except Int S70} (h : Is37 w p r) (hB : Below w.heap.size w w') : Is37 w' p r := by
 obtain ⟨g, e, h⟩ := h
 exact ⟨g, e, h.below hB⟩
set_option maxHeartbeats 4000000 in
set_option maxRecDepth 100000 in
theorem reg13_1 (f : Nat → Value) (W : World) : Code.wp Tryz.prog (.region 1 (opsOf Tryz.f13 1) false) (OnN (fun a w' => ∃ f' g s, a = fr13 f' ∧ f' 1 = .pointer (some ⟨g, 0, none⟩) ∧ AtS w' g s ∧ MSig s ∧ Below W.heap.size W w')) (fr13 f) W := by
 simp only [opsOf, Tryz.f13, Option.bind_some, opsIn, Option.getD_some, Option.orElse, reduceIte, Nat.reduceEqDiff, Option.or_some, Option.none_or, Option.some_or, beq_iff_eq, Nat.reduceBEq, Bool.false_eq_true]
 refine wp_region_list ?_
 refine list_op (i := 0) rfl (op_call (f := 38) (args := #[]) rfl (wanted_none rfl) (by have he := enters_of Tryz.func38 (by kernel_rfl) rfl #[] W; go_simp) ((meanings_calls W).mono ?_))
 rintro e w0 ⟨A0, A1, A2, rfl, h0, b0⟩
 refine ⟨_, rfl, ?_⟩
 change wpList _ _ _ _ (fr13 (upd f 15 _)) _
 refine list_op (i := 1) rfl (op_new26 rfl rfl rfl ?_)
 change wpList _ _ _ _ (fr13 (upd (upd f 15 _) 1 (.pointer (some ⟨w0.heap.size, 0, none⟩)))) _
 refine list_op (i := 2) rfl (op_store26 rfl rfl rfl rfl rfl rfl (heap_alloc_new _ _) fun w2 h2 b2 => ?_)
 have B0 := (below_alloc (Below.refl w0.heap.size w0) _).trans (b2 w0.heap.size (Nat.le_refl _))
 exact ⟨upd (upd f 15 _) 1 _, w0.heap.size, ⟨A0, _, mSorts, A1, _, mConsts, A2, _, mPreds⟩, rfl, rfl, ⟨h2, SigC.below h0 B0⟩, ⟨rfl, rfl, rfl⟩, b0.trans (B0.mono b0.size)⟩
set_option maxHeartbeats 4000000 in
set_option maxRecDepth 100000 in
theorem reg13_2 (f : Nat → Value) (W : World) : Code.wp Tryz.prog (.region 2 (opsOf Tryz.f13 2) false) (OnN (fun a w' => ∃ f' g, a = fr13 f' ∧ f' 1 = f 1 ∧ f' 2 = .pointer (some ⟨g, 0, none⟩) ∧ AtT w' g tMarta ∧ Below W.heap.size W w')) (fr13 f) W := by
 simp only [opsOf, Tryz.f13, Option.bind_some, opsIn, Option.getD_some, Option.orElse, reduceIte, Nat.reduceEqDiff, Option.or_some, Option.none_or, Option.some_or, beq_iff_eq, Nat.reduceBEq, Bool.false_eq_true]
 refine wp_region_list ?_
 refine list_op (i := 0) rfl (op_leaf rfl rfl rfl fun v0 w0 h0 b0 => ?_)
 change wpList _ _ _ _ (fr13 (upd f 16 v0)) _
 refine list_op (i := 1) rfl (op_row1 rfl rfl rfl rfl h0 fun v1 w1 h1 b1 => ?_)
 change wpList _ _ _ _ (fr13 (upd (upd f 16 v0) 17 v1)) _
 refine list_op (i := 2) rfl (op_tree rfl rfl rfl rfl h1 fun v2 w2 h2 b2 => ?_)
 change wpList _ _ _ _ (fr13 (upd (upd (upd f 16 v0) 17 v1) 18 v2)) _
 refine list_op (i := 3) rfl (op_new30 rfl rfl rfl ?_)
 change wpList _ _ _ _ (fr13 (upd (upd (upd (upd f 16 v0) 17 v1) 18 v2) 2 (.pointer (some ⟨w2.heap.size, 0, none⟩)))) _
 obtain ⟨A1, c1, A2, c2, he, hV⟩ := h2
 refine list_op (i := 4) rfl (op_store30 rfl rfl rfl rfl rfl he (heap_alloc_new _ _) fun w4 h4 b4 => ?_)
 have B0 := (below_alloc (Below.refl w2.heap.size w2) _).trans (b4 w2.heap.size (Nat.le_refl _))
 exact ⟨upd (upd (upd (upd f 16 v0) 17 v1) 18 v2) 2 (.pointer (some ⟨w2.heap.size, 0, none⟩)), w2.heap.size, by kernel_rfl, rfl, rfl, ⟨_, _, _, _, h4, hV.below B0⟩, below_step (below_step (below_step (b0) b1) b2) B0⟩
set_option maxHeartbeats 4000000 in
set_option maxRecDepth 100000 in
theorem reg13_3 (f : Nat → Value) (W : World) : Code.wp Tryz.prog (.region 3 (opsOf Tryz.f13 3) false) (OnN (fun a w' => ∃ f' g, a = fr13 f' ∧ f' 1 = f 1 ∧ f' 2 = f 2 ∧ f' 3 = .pointer (some ⟨g, 0, none⟩) ∧ AtT w' g tCarry ∧ Below W.heap.size W w')) (fr13 f) W := by
 simp only [opsOf, Tryz.f13, Option.bind_some, opsIn, Option.getD_some, Option.orElse, reduceIte, Nat.reduceEqDiff, Option.or_some, Option.none_or, Option.some_or, beq_iff_eq, Nat.reduceBEq, Bool.false_eq_true]
 refine wp_region_list ?_
 refine list_op (i := 0) rfl (op_leaf rfl rfl rfl fun v0 w0 h0 b0 => ?_)
 change wpList _ _ _ _ (fr13 (upd f 19 v0)) _
 refine list_op (i := 1) rfl (op_row1 rfl rfl rfl rfl h0 fun v1 w1 h1 b1 => ?_)
 change wpList _ _ _ _ (fr13 (upd (upd f 19 v0) 20 v1)) _
 refine list_op (i := 2) rfl (op_tree rfl rfl rfl rfl h1 fun v2 w2 h2 b2 => ?_)
 change wpList _ _ _ _ (fr13 (upd (upd (upd f 19 v0) 20 v1) 21 v2)) _
 refine list_op (i := 3) rfl (op_row1 rfl rfl rfl rfl h2 fun v3 w3 h3 b3 => ?_)
 change wpList _ _ _ _ (fr13 (upd (upd (upd (upd f 19 v0) 20 v1) 21 v2) 22 v3)) _
 refine list_op (i := 4) rfl (op_tree rfl rfl rfl rfl h3 fun v4 w4 h4 b4 => ?_)
 change wpList _ _ _ _ (fr13 (upd (upd (upd (upd (upd f 19 v0) 20 v1) 21 v2) 22 v3) 23 v4)) _
 refine list_op (i := 5) rfl (op_leaf rfl rfl rfl fun v5 w5 h5 b5 => ?_)
 change wpList _ _ _ _ (fr13 (upd (upd (upd (upd (upd (upd f 19 v0) 20 v1) 21 v2) 22 v3) 23 v4) 24 v5)) _
 refine list_op (i := 6) rfl (op_leaf rfl rfl rfl fun v6 w6 h6 b6 => ?_)
 change wpList _ _ _ _ (fr13 (upd (upd (upd (upd (upd (upd (upd f 19 v0) 20 v1) 21 v2) 22 v3) 23 v4) 24 v5) 25 v6)) _
 refine list_op (i := 7) rfl (op_row1 rfl rfl rfl rfl h6 fun v7 w7 h7 b7 => ?_)
 change wpList _ _ _ _ (fr13 (upd (upd (upd (upd (upd (upd (upd (upd f 19 v0) 20 v1) 21 v2) 22 v3) 23 v4) 24 v5) 25 v6) 26 v7)) _
 refine list_op (i := 8) rfl (op_tree rfl rfl rfl rfl h7 fun v8 w8 h8 b8 => ?_)
 change wpList _ _ _ _ (fr13 (upd (upd (upd (upd (upd (upd (upd (upd (upd f 19 v0) 20 v1) 21 v2) 22 v3) 23 v4) 24 v5) 25 v6) 26 v7) 27 v8)) _
 refine list_op (i := 9) rfl (op_row1 rfl rfl rfl rfl h8 fun v9 w9 h9 b9 => ?_)
 change wpList _ _ _ _ (fr13 (upd (upd (upd (upd (upd (upd (upd (upd (upd (upd f 19 v0) 20 v1) 21 v2) 22 v3) 23 v4) 24 v5) 25 v6) 26 v7) 27 v8) 28 v9)) _
 refine list_op (i := 10) rfl (op_tree rfl rfl rfl rfl h9 fun v10 w10 h10 b10 => ?_)
 change wpList _ _ _ _ (fr13 (upd (upd (upd (upd (upd (upd (upd (upd (upd (upd (upd f 19 v0) 20 v1) 21 v2) 22 v3) 23 v4) 24 v5) 25 v6) 26 v7) 27 v8) 28 v9) 29 v10)) _
 refine list_op (i := 11) rfl (op_row2 rfl rfl rfl rfl rfl (h5.below (below_step (below_step (below_step (below_step b6 b7) (b8)) (b9)) (b10))) h10 fun v11 w11 h11 b11 => ?_)
 change wpList _ _ _ _ (fr13 (upd (upd (upd (upd (upd (upd (upd (upd (upd (upd (upd (upd f 19 v0) 20 v1) 21 v2) 22 v3) 23 v4) 24 v5) 25 v6) 26 v7) 27 v8) 28 v9) 29 v10) 30 v11)) _
 refine list_op (i := 12) rfl (op_tree rfl rfl rfl rfl h11 fun v12 w12 h12 b12 => ?_)
 change wpList _ _ _ _ (fr13 (upd (upd (upd (upd (upd (upd (upd (upd (upd (upd (upd (upd (upd f 19 v0) 20 v1) 21 v2) 22 v3) 23 v4) 24 v5) 25 v6) 26 v7) 27 v8) 28 v9) 29 v10) 30 v11) 31 v12)) _
 refine list_op (i := 13) rfl (op_row2 rfl rfl rfl rfl rfl (h4.below (below_step (below_step (below_step (below_step (below_step (below_step (below_step b5 b6) (b7)) (b8)) (b9)) (b10)) (b11)) (b12))) h12 fun v13 w13 h13 b13 => ?_)
 change wpList _ _ _ _ (fr13 (upd (upd (upd (upd (upd (upd (upd (upd (upd (upd (upd (upd (upd (upd f 19 v0) 20 v1) 21 v2) 22 v3) 23 v4) 24 v5) 25 v6) 26 v7) 27 v8) 28 v9) 29 v10) 30 v11) 31 v12) 32 v13)) _
 refine list_op (i := 14) rfl (op_tree rfl rfl rfl rfl h13 fun v14 w14 h14 b14 => ?_)
 change wpList _ _ _ _ (fr13 (upd (upd (upd (upd (upd (upd (upd (upd (upd (upd (upd (upd (upd (upd (upd f 19 v0) 20 v1) 21 v2) 22 v3) 23 v4) 24 v5) 25 v6) 26 v7) 27 v8) 28 v9) 29 v10) 30 v11) 31 v12) 32 v13) 33 v14)) _
 refine list_op (i := 15) rfl (op_new30 rfl rfl rfl ?_)
 change wpList _ _ _ _ (fr13 (upd (upd (upd (upd (upd (upd (upd (upd (upd (upd (upd (upd (upd (upd (upd (upd f 19 v0) 20 v1) 21 v2) 22 v3) 23 v4) 24 v5) 25 v6) 26 v7) 27 v8) 28 v9) 29 v10) 30 v11) 31 v12) 32 v13) 33 v14) 3 (.pointer (some ⟨w14.heap.size, 0, none⟩)))) _
 obtain ⟨A1, c1, A2, c2, he, hV⟩ := h14
 refine list_op (i := 16) rfl (op_store30 rfl rfl rfl rfl rfl he (heap_alloc_new _ _) fun w16 h16 b16 => ?_)
 have B0 := (below_alloc (Below.refl w14.heap.size w14) _).trans (b16 w14.heap.size (Nat.le_refl _))
 exact ⟨upd (upd (upd (upd (upd (upd (upd (upd (upd (upd (upd (upd (upd (upd (upd (upd f 19 v0) 20 v1) 21 v2) 22 v3) 23 v4) 24 v5) 25 v6) 26 v7) 27 v8) 28 v9) 29 v10) 30 v11) 31 v12) 32 v13) 33 v14) 3 (.pointer (some ⟨w14.heap.size, 0, none⟩)), w14.heap.size, by kernel_rfl, rfl, rfl, rfl, ⟨_, _, _, _, h16, hV.below B0⟩, below_step (below_step (below_step (below_step (below_step (below_step (below_step (below_step (below_step (below_step (below_step (below_step (below_step (below_step (below_step (b0) b1) b2) b3) b4) b5) b6) b7) b8) b9) b10) b11) b12) b13) b14) B0⟩
end
section
attribute [local go_sem] Oper.semAt_some
theorem sm_tCarry : Sm tCarry := by
 simp [tCarry, tMarta, Sm, SmL]
 decide
theorem nn_tCarry : nodes tCarry ≤ 500 := by decide +kernel
theorem sm_tSmoke : Sm tSmoke := by
 simp [tSmoke, tMarta, Sm, SmL]
 decide
theorem nn_tSmoke : nodes tSmoke ≤ 500 := by decide +kernel
theorem sm_tCapt : Sm tCapt := by
 simp [tCapt, tMarta, Sm, SmL]
 decide
theorem nn_tCapt : nodes tCapt ≤ 500 := by decide +kernel
theorem sm_tWait : Sm tWait := by
 simp [tWait, tMarta, Sm, SmL]
 decide
theorem nn_tWait : nodes tWait ≤ 500 := by decide +kernel
theorem sm_tBag : Sm tBag := by
 simp [tBag, tMarta, Sm, SmL]
 decide
theorem nn_tBag : nodes tBag ≤ 500 := by decide +kernel
set_option maxHeartbeats 4000000 in
set_option maxRecDepth 100000 in
theorem reg13_4 (T : Lib.PrintTabs) (s : Sg) (f : Nat → Value) (W : World) (g1 g3 : Nat) (hf1 : f 1 = .pointer (some ⟨g1, 0, none⟩)) (hf3 : f 3 = .pointer (some ⟨g3, 0, none⟩)) (hS : AtS W g1 s) (hA3 : AtT W g3 tCarry) (hT : Tabs T W) :
  Code.wp Tryz.prog (.region 4 (opsOf Tryz.f13 4) false) (OnN (fun a w' => ∃ f', a = fr13 f' ∧ f' 1 = f 1 ∧ f' 2 = f 2 ∧ Is37 w' (f' 4) (senP s tCarry) ∧ f' 5 = .int .i64 (codeOf (senP s tCarry)) ∧ Below W.heap.size W w')) (fr13 f) W := by
 simp only [opsOf, Tryz.f13, Option.bind_some, opsIn, Option.getD_some, Option.orElse, reduceIte, Nat.reduceEqDiff, Option.or_some, Option.none_or, Option.some_or, beq_iff_eq, Nat.reduceBEq, Bool.false_eq_true]
 refine wp_region_list ?_
 refine list_op (i := 0) rfl (op_loadS rfl rfl rfl hf1 hS ?_)
 change wpList _ _ _ _ (fr13 (upd f 35 (sgV s))) _
 refine list_op (i := 1) rfl (op_loadT rfl rfl rfl hf3 hA3 fun v1 h1 => ?_)
 change wpList _ _ _ _ (fr13 (upd (upd f 35 (sgV s)) 36 v1)) _
 refine list_op (i := 2) rfl (op_sent (T := T) (s := s) rfl rfl rfl rfl rfl h1 hT hS.2 sm_tCarry nn_tCarry fun v2 w2 h2 b2 => ?_)
 generalize codeOf (senP s tCarry) = c at *
 change wpList _ _ _ _ (fr13 (upd (upd (upd f 35 (sgV s)) 36 v1) 37 (.tuple #[v2, .int .i64 c]))) _
 refine list_op (i := 3) rfl (op_mv rfl rfl rfl rfl ?_)
 change wpList _ _ _ _ (fr13 (upd (upd (upd (upd f 35 (sgV s)) 36 v1) 37 (.tuple #[v2, .int .i64 c])) 34 (.tuple #[v2, .int .i64 c]))) _
 refine list_op (i := 4) rfl (op_ext rfl rfl rfl rfl rfl ?_)
 change wpList _ _ _ _ (fr13 (upd (upd (upd (upd (upd f 35 (sgV s)) 36 v1) 37 (.tuple #[v2, .int .i64 c])) 34 (.tuple #[v2, .int .i64 c])) 38 v2)) _
 refine list_op (i := 5) rfl (op_ext rfl rfl rfl rfl rfl ?_)
 change wpList _ _ _ _ (fr13 (upd (upd (upd (upd (upd (upd f 35 (sgV s)) 36 v1) 37 (.tuple #[v2, .int .i64 c])) 34 (.tuple #[v2, .int .i64 c])) 38 v2) 39 (.int .i64 c))) _
 refine list_op (i := 6) rfl (op_new37 rfl rfl rfl ?_)
 change wpList _ _ _ _ (fr13 (upd (upd (upd (upd (upd (upd (upd f 35 (sgV s)) 36 v1) 37 (.tuple #[v2, .int .i64 c])) 34 (.tuple #[v2, .int .i64 c])) 38 v2) 39 (.int .i64 c)) 4 (.pointer (some ⟨w2.heap.size, 0, none⟩)))) _
 refine list_op (i := 7) rfl (op_store37 rfl rfl rfl rfl rfl rfl (heap_alloc_new _ _) ((h2.mono (ok' := fun k => k ≠ w2.heap.size) (fun k _ hk => by omega)).below (below_alloc (Below.refl _ _) _)) fun w7 h7 b7 _ => ?_)
 refine list_op (i := 8) rfl (op_asg rfl rfl rfl rfl ?_)
 change wpList _ _ _ _ (fr13 (upd (upd (upd (upd (upd (upd (upd (upd f 35 (sgV s)) 36 v1) 37 (.tuple #[v2, .int .i64 c])) 34 (.tuple #[v2, .int .i64 c])) 38 v2) 39 (.int .i64 c)) 4 (.pointer (some ⟨w2.heap.size, 0, none⟩))) 5 (.int .i64 c))) _
 exact ⟨_, rfl, rfl, rfl, ⟨w2.heap.size, rfl, h7⟩, rfl, b2.trans (((below_alloc (Below.refl w2.heap.size w2) _).trans (b7 w2.heap.size (Nat.le_refl _))).mono b2.size)⟩
def C13_5 (s : Sg) (B0 : Nat) : Nat → Value → Value → World → Prop
 | 0, v, _, _ => v = sgV s
 | 1, v, _, w => IsT w tMarta v
 | 2, v, _, w => IsT w ⟨⟨#[115, 109, 111, 107, 101]⟩, [], []⟩ v
 | 3, v, _, w => IsL w [⟨⟨#[115, 109, 111, 107, 101]⟩, [], []⟩] v
 | 4, v, _, w => IsT w ⟨⟨#[65, 99, 116]⟩, [], [⟨⟨#[115, 109, 111, 107, 101]⟩, [], []⟩]⟩ v
 | 5, v, _, w => IsL w [tMarta, ⟨⟨#[65, 99, 116]⟩, [], [⟨⟨#[115, 109, 111, 107, 101]⟩, [], []⟩]⟩] v
 | 6, v, _, w => IsT w ⟨⟨#[77, 117, 115, 116, 78, 111, 116]⟩, [], [tMarta, ⟨⟨#[65, 99, 116]⟩, [], [⟨⟨#[115, 109, 111, 107, 101]⟩, [], []⟩]⟩]⟩ v
 | 7, v, _, w => ∃ u, v = .tuple #[u, .int .i64 (codeOf (senP s tSmoke))] ∧ IsF w (fun _ => True) (senP s tSmoke) u
 | 8, v, u, _ => v = u ∧ ∃ u, v = .tuple #[u, .int .i64 (codeOf (senP s tSmoke))]
 | 9, v, u, _ => ∃ cs : List Value, u = .tuple (v :: cs).toArray
 | 10, v, _, _ => v = .int .i64 (codeOf (senP s tSmoke))
 | 11, v, _, w => ∃ g, v = .pointer (some ⟨g, 0, none⟩) ∧ B0 ≤ g ∧ w.heap[g]? = some zero37
 | 13, v, _, _ => v = .int .i64 (codeOf (senP s tSmoke))
 | _, _, _, _ => True
def P13_5 (s : Sg) : Nat → Value → Value → Prop
 | 8, v, _ => ∃ u, v = .tuple #[u, .int .i64 (codeOf (senP s tSmoke))]
 | 10, v, _ => v = .int .i64 (codeOf (senP s tSmoke))
 | 13, v, _ => v = .int .i64 (codeOf (senP s tSmoke))
 | _, _, _ => True
def late13_5 : Nat → Bool
 | 10 => true
 | _ => false
def par13_5 : Nat → Nat
 | 8 => 7
 | 9 => 8
 | i => i
set_option maxHeartbeats 4000000 in
set_option maxRecDepth 100000 in
theorem reg13_5 (T : Lib.PrintTabs) (s : Sg) (f : Nat → Value) (W : World) (g1 g2 : Nat) (hf1 : f 1 = .pointer (some ⟨g1, 0, none⟩)) (hf2 : f 2 = .pointer (some ⟨g2, 0, none⟩)) (hS : AtS W g1 s) (hA2 : AtT W g2 tMarta) (hT : Tabs T W) :
  Code.wp Tryz.prog (.region 5 (opsOf Tryz.f13 5) true) (OnN (fun a w' => ∃ f', a = fr13 f' ∧ f' 1 = f 1 ∧ f' 2 = f 2 ∧ f' 4 = f 4 ∧ f' 5 = f 5 ∧ Is37 w' (f' 6) (senP s tSmoke) ∧ f' 7 = .int .i64 (codeOf (senP s tSmoke)) ∧ Below W.heap.size W w')) (fr13 f) W := by
 have HD := below_drew (Below.refl W.heap.size W)
 simp only [opsOf, Tryz.f13, Option.bind_some, opsIn, Option.getD_some, Option.orElse, reduceIte, Nat.reduceEqDiff, Option.or_some, Option.none_or, Option.some_or, beq_iff_eq, Nat.reduceBEq, Bool.false_eq_true]
 have e0 : fr13 f = fr13 (sl (fun i => f (([41, 42, 43, 44, 45, 46, 47, 48, 40, 49, 50, 6, 999, 7] : List Nat).getD i 0)) f [41, 42, 43, 44, 45, 46, 47, 48, 40, 49, 50, 6, 999, 7]) := by kernel_rfl
 rw [e0]
 refine wp_region_any (by kernel_rfl) (region_two 12 (by decide) (fun x => fr13 (sl x f [41, 42, 43, 44, 45, 46, 47, 48, 40, 49, 50, 6, 999, 7])) par13_5 late13_5 (C13_5 s W.heap.size) (P13_5 s) 7 11 (E13 (senP s tSmoke)) (fun v w => Is37 w v (senP s tSmoke) ∧ Below W.heap.size W w) W.drew (by kernel_rfl) (by kernel_rfl) (by kernel_rfl) (by kernel_rfl) rfl ?_ ?_ ?_ (fun _ _ _ _ h hB => h.below hB) ?_ (by decide) ?_ ?_ ?_ _)
 ·intro i op x v ho
  match i, ho with
  | 0, ho => simp at ho; subst ho; show _ = _; kernel_rfl
  | 1, ho => simp at ho; subst ho; show _ = _; kernel_rfl
  | 2, ho => simp at ho; subst ho; show _ = _; kernel_rfl
  | 3, ho => simp at ho; subst ho; show _ = _; kernel_rfl
  | 4, ho => simp at ho; subst ho; show _ = _; kernel_rfl
  | 5, ho => simp at ho; subst ho; show _ = _; kernel_rfl
  | 6, ho => simp at ho; subst ho; show _ = _; kernel_rfl
  | 7, ho => simp at ho; subst ho; show _ = _; kernel_rfl
  | 8, ho => simp at ho; subst ho; show _ = _; kernel_rfl
  | 9, ho => simp at ho; subst ho; show _ = _; kernel_rfl
  | 10, ho => simp at ho; subst ho; show _ = _; kernel_rfl
  | 11, ho => simp at ho; subst ho; show _ = _; kernel_rfl
  | 12, ho => simp at ho; subst ho; show _ = _; kernel_rfl
  | 13, ho => simp at ho; subst ho; show _ = _; kernel_rfl
  | i + 14, ho => simp at ho
 ·intro i v u w h
  match i, h with
  | 0, h => trivial
  | 1, h => trivial
  | 2, h => trivial
  | 3, h => trivial
  | 4, h => trivial
  | 5, h => trivial
  | 6, h => trivial
  | 7, h => trivial
  | 8, h => exact h.2
  | 9, h => trivial
  | 10, h => exact h
  | 11, h => trivial
  | 12, h => trivial
  | 13, h => exact h
  | i + 14, h => trivial
 ·intro i v u w w' h hB
  match i, h with
  | 0, h => exact h
  | 1, h => exact IsT.below h hB
  | 2, h => exact IsT.below h hB
  | 3, h => exact IsL.below h hB
  | 4, h => exact IsT.below h hB
  | 5, h => exact IsL.below h hB
  | 6, h => exact IsT.below h hB
  | 7, h => exact Exists.imp (fun u hu => ⟨hu.1, hu.2.below hB⟩) h
  | 8, h => exact h
  | 9, h => exact h
  | 10, h => exact h
  | 11, h => exact Exists.imp (fun g hg => ⟨hg.1, hg.2.1, blk_below hg.2.2 hB⟩) h
  | 12, h => exact trivial
  | 13, h => exact h
  | i + 14, h => trivial
 ·intro i op x w J dn hi ho hB hdep hdn h
  have hBW := below_step HD hB
  match i, hi, ho, hdep, h with
  | 0, _, ho, hdep, h =>
   simp at ho
   subst ho
   exact op_loadS rfl rfl rfl hf1 (hS.below hBW) (h _ _ rfl (fun h => absurd h (by decide)) (fun h => absurd h (by decide)) (Below.refl _ _))
  | 1, _, ho, hdep, h =>
   simp at ho
   subst ho
   exact op_loadT rfl rfl rfl hf2 (hA2.below hBW) fun u hu => h u w hu (fun h => absurd h (by decide)) (fun h => absurd h (by decide)) (Below.refl _ _)
  | 2, _, ho, hdep, h =>
   simp at ho
   subst ho
   exact op_leaf rfl rfl rfl fun u w' hu hB => h u w' hu (fun h => absurd h (by decide)) (fun h => absurd h (by decide)) hB
  | 3, _, ho, hdep, h =>
   simp at ho
   subst ho
   have d2 := hdep ⟨2, .data⟩ (by simp) rfl
   exact op_row1 rfl rfl rfl rfl d2 fun u w' hu hB => h u w' hu (fun h => absurd h (by decide)) (fun h => absurd h (by decide)) hB
  | 4, _, ho, hdep, h =>
   simp at ho
   subst ho
   have d3 := hdep ⟨3, .data⟩ (by simp) rfl
   exact op_tree rfl rfl rfl rfl d3 fun u w' hu hB => h u w' hu (fun h => absurd h (by decide)) (fun h => absurd h (by decide)) hB
  | 5, _, ho, hdep, h =>
   simp at ho
   subst ho
   have d1 := hdep ⟨1, .data⟩ (by simp) rfl
   have d4 := hdep ⟨4, .data⟩ (by simp) rfl
   exact op_row2 rfl rfl rfl rfl rfl d1 d4 fun u w' hu hB => h u w' hu (fun h => absurd h (by decide)) (fun h => absurd h (by decide)) hB
  | 6, _, ho, hdep, h =>
   simp at ho
   subst ho
   have d5 := hdep ⟨5, .data⟩ (by simp) rfl
   exact op_tree rfl rfl rfl rfl d5 fun u w' hu hB => h u w' hu (fun h => absurd h (by decide)) (fun h => absurd h (by decide)) hB
  | 7, _, ho, hdep, h =>
   simp at ho
   subst ho
   have d0 := hdep ⟨0, .data⟩ (by simp) rfl
   have d6 := hdep ⟨6, .data⟩ (by simp) rfl
   exact op_sent (T := T) (s := s) (t := tSmoke) rfl rfl rfl d0 rfl d6 (hT.below hBW) (hS.below hBW).2 sm_tSmoke nn_tSmoke fun u w' hu hB => h _ w' ⟨u, rfl, hu.mono (fun _ _ _ => trivial)⟩ (fun _ hq => E13.call hu (hdn 11 hq (by decide))) (fun h => absurd h (by decide)) hB
  | 8, _, ho, hdep, h =>
   simp at ho
   subst ho
   have d7 := hdep ⟨7, .data⟩ (by simp) rfl
   obtain ⟨u, e, _⟩ := d7
   exact op_mv rfl rfl rfl rfl (h _ _ ⟨rfl, ⟨u, e⟩⟩ (fun h => absurd h (by decide)) (fun h => absurd h (by decide)) (Below.refl _ _))
  | 9, _, ho, hdep, h =>
   simp at ho
   subst ho
   have d8 := hdep ⟨8, .data⟩ (by simp) rfl
   obtain ⟨_, u, e⟩ := d8
   exact op_ext rfl rfl rfl e rfl (h _ _ ⟨_, e⟩ (fun h => absurd h (by decide)) (fun h => absurd h (by decide)) (Below.refl _ _))
  | 10, _, ho, hdep, h =>
   simp at ho
   subst ho
   have d8 := hdep ⟨8, .data⟩ (by simp) rfl
   obtain ⟨_, u, e⟩ := d8
   exact op_ext rfl rfl rfl e rfl (h _ _ rfl (fun h => absurd h (by decide)) (fun h => absurd h (by decide)) (Below.refl _ _))
  | 11, _, ho, hdep, h =>
   simp at ho
   subst ho
   refine op_new37 rfl rfl rfl (h _ _ ⟨w.heap.size, rfl, hBW.size, heap_alloc_new _ _⟩ (fun h => absurd h (by decide)) (fun _ hq => ?_) (below_alloc (Below.refl _ _) _))
   obtain ⟨u, e, hu⟩ := hdn 7 hq (by decide)
   exact E13.new _ e hu
  | i + 12, hi, ho, hdep, h => exact absurd hi (by omega)
 ·intro op x w J ho hB hx hE h
  simp at ho
  subst ho
  have hBW := below_step HD hB
  obtain ⟨g, e11, hg0, hz⟩ := hx 11 (by decide) rfl
  obtain ⟨cs, e9⟩ := hx 9 (by decide) rfl
  have e8 := (hx 8 (by decide) rfl).1
  have hF := hE (x 9) g ⟨cs, e8.symm.trans e9⟩ e11
  exact op_store37 rfl rfl rfl rfl e11 rfl hz hF fun w' h37 hbel _ => h undef w' ⟨⟨g, e11, h37⟩, below_step HD (hB.trans (hbel W.drew.heap.size hg0))⟩
 ·intro i op x w J hi ho hdep h
  match i, hi, ho, hdep, h with
  | 0, hi, ho, hdep, h => exact absurd hi (by decide)
  | 1, hi, ho, hdep, h => exact absurd hi (by decide)
  | 2, hi, ho, hdep, h => exact absurd hi (by decide)
  | 3, hi, ho, hdep, h => exact absurd hi (by decide)
  | 4, hi, ho, hdep, h => exact absurd hi (by decide)
  | 5, hi, ho, hdep, h => exact absurd hi (by decide)
  | 6, hi, ho, hdep, h => exact absurd hi (by decide)
  | 7, hi, ho, hdep, h => exact absurd hi (by decide)
  | 8, hi, ho, hdep, h => exact absurd hi (by decide)
  | 9, hi, ho, hdep, h => exact absurd hi (by decide)
  | 10, _, ho, hdep, h =>
   simp at ho
   subst ho
   obtain ⟨u, e⟩ := hdep ⟨8, .data⟩ (by simp) rfl (by decide)
   exact op_ext rfl rfl rfl e rfl (h _ rfl)
  | 11, hi, ho, hdep, h => exact absurd hi (by decide)
  | 12, hi, ho, hdep, h => exact absurd hi (by decide)
  | 13, _, ho, hdep, h =>
   simp at ho
   subst ho
   have e := hdep ⟨10, .data⟩ (by simp) rfl (by decide)
   exact op_asg rfl rfl rfl e (h _ rfl)
  | i + 14, hi, ho, hdep, h => simp at ho
 ·intro x w hx hD
  exact ⟨sl x f [41, 42, 43, 44, 45, 46, 47, 48, 40, 49, 50, 6, 999, 7], rfl, rfl, rfl, rfl, rfl, hD.1, hx 13 (by decide) (by decide), hD.2⟩
def C13_6 (s : Sg) (B0 : Nat) : Nat → Value → Value → World → Prop
 | 0, v, _, _ => v = sgV s
 | 1, v, _, w => IsT w tMarta v
 | 2, v, _, w => IsT w ⟨⟨#[99, 97, 114, 114, 121]⟩, [], []⟩ v
 | 3, v, _, w => IsT w ⟨⟨#[99, 97, 112, 116, 97, 105, 110]⟩, [], []⟩ v
 | 4, v, _, w => IsL w [⟨⟨#[99, 97, 112, 116, 97, 105, 110]⟩, [], []⟩] v
 | 5, v, _, w => IsT w ⟨⟨#[78, 97, 109, 101]⟩, [], [⟨⟨#[99, 97, 112, 116, 97, 105, 110]⟩, [], []⟩]⟩ v
 | 6, v, _, w => IsL w [⟨⟨#[99, 97, 114, 114, 121]⟩, [], []⟩, ⟨⟨#[78, 97, 109, 101]⟩, [], [⟨⟨#[99, 97, 112, 116, 97, 105, 110]⟩, [], []⟩]⟩] v
 | 7, v, _, w => IsT w ⟨⟨#[68, 111]⟩, [], [⟨⟨#[99, 97, 114, 114, 121]⟩, [], []⟩, ⟨⟨#[78, 97, 109, 101]⟩, [], [⟨⟨#[99, 97, 112, 116, 97, 105, 110]⟩, [], []⟩]⟩]⟩ v
 | 8, v, _, w => IsL w [tMarta, ⟨⟨#[68, 111]⟩, [], [⟨⟨#[99, 97, 114, 114, 121]⟩, [], []⟩, ⟨⟨#[78, 97, 109, 101]⟩, [], [⟨⟨#[99, 97, 112, 116, 97, 105, 110]⟩, [], []⟩]⟩]⟩] v
 | 9, v, _, w => IsT w ⟨⟨#[65, 115, 115, 101, 114, 116]⟩, [], [tMarta, ⟨⟨#[68, 111]⟩, [], [⟨⟨#[99, 97, 114, 114, 121]⟩, [], []⟩, ⟨⟨#[78, 97, 109, 101]⟩, [], [⟨⟨#[99, 97, 112, 116, 97, 105, 110]⟩, [], []⟩]⟩]⟩]⟩ v
 | 10, v, _, w => ∃ u, v = .tuple #[u, .int .i64 (codeOf (senP s tCapt))] ∧ IsF w (fun _ => True) (senP s tCapt) u
 | 11, v, u, _ => v = u ∧ ∃ u, v = .tuple #[u, .int .i64 (codeOf (senP s tCapt))]
 | 12, v, u, _ => ∃ cs : List Value, u = .tuple (v :: cs).toArray
 | 13, v, _, _ => v = .int .i64 (codeOf (senP s tCapt))
 | 14, v, _, w => ∃ g, v = .pointer (some ⟨g, 0, none⟩) ∧ B0 ≤ g ∧ w.heap[g]? = some zero37
 | 16, v, _, _ => v = .int .i64 (codeOf (senP s tCapt))
 | _, _, _, _ => True
def P13_6 (s : Sg) : Nat → Value → Value → Prop
 | 11, v, _ => ∃ u, v = .tuple #[u, .int .i64 (codeOf (senP s tCapt))]
 | 13, v, _ => v = .int .i64 (codeOf (senP s tCapt))
 | 16, v, _ => v = .int .i64 (codeOf (senP s tCapt))
 | _, _, _ => True
def late13_6 : Nat → Bool
 | 13 => true
 | _ => false
def par13_6 : Nat → Nat
 | 11 => 10
 | 12 => 11
 | i => i
set_option maxHeartbeats 4000000 in
set_option maxRecDepth 100000 in
theorem reg13_6 (T : Lib.PrintTabs) (s : Sg) (f : Nat → Value) (W : World) (g1 g2 : Nat) (hf1 : f 1 = .pointer (some ⟨g1, 0, none⟩)) (hf2 : f 2 = .pointer (some ⟨g2, 0, none⟩)) (hS : AtS W g1 s) (hA2 : AtT W g2 tMarta) (hT : Tabs T W) :
  Code.wp Tryz.prog (.region 6 (opsOf Tryz.f13 6) true) (OnN (fun a w' => ∃ f', a = fr13 f' ∧ f' 1 = f 1 ∧ f' 2 = f 2 ∧ f' 4 = f 4 ∧ f' 5 = f 5 ∧ f' 6 = f 6 ∧ f' 7 = f 7 ∧ Is37 w' (f' 8) (senP s tCapt) ∧ f' 9 = .int .i64 (codeOf (senP s tCapt)) ∧ Below W.heap.size W w')) (fr13 f) W := by
 have HD := below_drew (Below.refl W.heap.size W)
 simp only [opsOf, Tryz.f13, Option.bind_some, opsIn, Option.getD_some, Option.orElse, reduceIte, Nat.reduceEqDiff, Option.or_some, Option.none_or, Option.some_or, beq_iff_eq, Nat.reduceBEq, Bool.false_eq_true]
 have e0 : fr13 f = fr13 (sl (fun i => f (([52, 53, 54, 55, 56, 57, 58, 59, 60, 61, 62, 51, 63, 64, 8, 999, 9] : List Nat).getD i 0)) f [52, 53, 54, 55, 56, 57, 58, 59, 60, 61, 62, 51, 63, 64, 8, 999, 9]) := by kernel_rfl
 rw [e0]
 refine wp_region_any (by kernel_rfl) (region_two 15 (by decide) (fun x => fr13 (sl x f [52, 53, 54, 55, 56, 57, 58, 59, 60, 61, 62, 51, 63, 64, 8, 999, 9])) par13_6 late13_6 (C13_6 s W.heap.size) (P13_6 s) 10 14 (E13 (senP s tCapt)) (fun v w => Is37 w v (senP s tCapt) ∧ Below W.heap.size W w) W.drew (by kernel_rfl) (by kernel_rfl) (by kernel_rfl) (by kernel_rfl) rfl ?_ ?_ ?_ (fun _ _ _ _ h hB => h.below hB) ?_ (by decide) ?_ ?_ ?_ _)
 ·intro i op x v ho
  match i, ho with
  | 0, ho => simp at ho; subst ho; show _ = _; kernel_rfl
  | 1, ho => simp at ho; subst ho; show _ = _; kernel_rfl
  | 2, ho => simp at ho; subst ho; show _ = _; kernel_rfl
  | 3, ho => simp at ho; subst ho; show _ = _; kernel_rfl
  | 4, ho => simp at ho; subst ho; show _ = _; kernel_rfl
  | 5, ho => simp at ho; subst ho; show _ = _; kernel_rfl
  | 6, ho => simp at ho; subst ho; show _ = _; kernel_rfl
  | 7, ho => simp at ho; subst ho; show _ = _; kernel_rfl
  | 8, ho => simp at ho; subst ho; show _ = _; kernel_rfl
  | 9, ho => simp at ho; subst ho; show _ = _; kernel_rfl
  | 10, ho => simp at ho; subst ho; show _ = _; kernel_rfl
  | 11, ho => simp at ho; subst ho; show _ = _; kernel_rfl
  | 12, ho => simp at ho; subst ho; show _ = _; kernel_rfl
  | 13, ho => simp at ho; subst ho; show _ = _; kernel_rfl
  | 14, ho => simp at ho; subst ho; show _ = _; kernel_rfl
  | 15, ho => simp at ho; subst ho; show _ = _; kernel_rfl
  | 16, ho => simp at ho; subst ho; show _ = _; kernel_rfl
  | i + 17, ho => simp at ho
 ·intro i v u w h
  match i, h with
  | 0, h => trivial
  | 1, h => trivial
  | 2, h => trivial
  | 3, h => trivial
  | 4, h => trivial
  | 5, h => trivial
  | 6, h => trivial
  | 7, h => trivial
  | 8, h => trivial
  | 9, h => trivial
  | 10, h => trivial
  | 11, h => exact h.2
  | 12, h => trivial
  | 13, h => exact h
  | 14, h => trivial
  | 15, h => trivial
  | 16, h => exact h
  | i + 17, h => trivial
 ·intro i v u w w' h hB
  match i, h with
  | 0, h => exact h
  | 1, h => exact IsT.below h hB
  | 2, h => exact IsT.below h hB
  | 3, h => exact IsT.below h hB
  | 4, h => exact IsL.below h hB
  | 5, h => exact IsT.below h hB
  | 6, h => exact IsL.below h hB
  | 7, h => exact IsT.below h hB
  | 8, h => exact IsL.below h hB
  | 9, h => exact IsT.below h hB
  | 10, h => exact Exists.imp (fun u hu => ⟨hu.1, hu.2.below hB⟩) h
  | 11, h => exact h
  | 12, h => exact h
  | 13, h => exact h
  | 14, h => exact Exists.imp (fun g hg => ⟨hg.1, hg.2.1, blk_below hg.2.2 hB⟩) h
  | 15, h => exact trivial
  | 16, h => exact h
  | i + 17, h => trivial
 ·intro i op x w J dn hi ho hB hdep hdn h
  have hBW := below_step HD hB
  match i, hi, ho, hdep, h with
  | 0, _, ho, hdep, h =>
   simp at ho
   subst ho
   exact op_loadS rfl rfl rfl hf1 (hS.below hBW) (h _ _ rfl (fun h => absurd h (by decide)) (fun h => absurd h (by decide)) (Below.refl _ _))
  | 1, _, ho, hdep, h =>
   simp at ho
   subst ho
   exact op_loadT rfl rfl rfl hf2 (hA2.below hBW) fun u hu => h u w hu (fun h => absurd h (by decide)) (fun h => absurd h (by decide)) (Below.refl _ _)
  | 2, _, ho, hdep, h =>
   simp at ho
   subst ho
   exact op_leaf rfl rfl rfl fun u w' hu hB => h u w' hu (fun h => absurd h (by decide)) (fun h => absurd h (by decide)) hB
  | 3, _, ho, hdep, h =>
   simp at ho
   subst ho
   exact op_leaf rfl rfl rfl fun u w' hu hB => h u w' hu (fun h => absurd h (by decide)) (fun h => absurd h (by decide)) hB
  | 4, _, ho, hdep, h =>
   simp at ho
   subst ho
   have d3 := hdep ⟨3, .data⟩ (by simp) rfl
   exact op_row1 rfl rfl rfl rfl d3 fun u w' hu hB => h u w' hu (fun h => absurd h (by decide)) (fun h => absurd h (by decide)) hB
  | 5, _, ho, hdep, h =>
   simp at ho
   subst ho
   have d4 := hdep ⟨4, .data⟩ (by simp) rfl
   exact op_tree rfl rfl rfl rfl d4 fun u w' hu hB => h u w' hu (fun h => absurd h (by decide)) (fun h => absurd h (by decide)) hB
  | 6, _, ho, hdep, h =>
   simp at ho
   subst ho
   have d2 := hdep ⟨2, .data⟩ (by simp) rfl
   have d5 := hdep ⟨5, .data⟩ (by simp) rfl
   exact op_row2 rfl rfl rfl rfl rfl d2 d5 fun u w' hu hB => h u w' hu (fun h => absurd h (by decide)) (fun h => absurd h (by decide)) hB
  | 7, _, ho, hdep, h =>
   simp at ho
   subst ho
   have d6 := hdep ⟨6, .data⟩ (by simp) rfl
   exact op_tree rfl rfl rfl rfl d6 fun u w' hu hB => h u w' hu (fun h => absurd h (by decide)) (fun h => absurd h (by decide)) hB
  | 8, _, ho, hdep, h =>
   simp at ho
   subst ho
   have d1 := hdep ⟨1, .data⟩ (by simp) rfl
   have d7 := hdep ⟨7, .data⟩ (by simp) rfl
   exact op_row2 rfl rfl rfl rfl rfl d1 d7 fun u w' hu hB => h u w' hu (fun h => absurd h (by decide)) (fun h => absurd h (by decide)) hB
  | 9, _, ho, hdep, h =>
   simp at ho
   subst ho
   have d8 := hdep ⟨8, .data⟩ (by simp) rfl
   exact op_tree rfl rfl rfl rfl d8 fun u w' hu hB => h u w' hu (fun h => absurd h (by decide)) (fun h => absurd h (by decide)) hB
  | 10, _, ho, hdep, h =>
   simp at ho
   subst ho
   have d0 := hdep ⟨0, .data⟩ (by simp) rfl
   have d9 := hdep ⟨9, .data⟩ (by simp) rfl
   exact op_sent (T := T) (s := s) (t := tCapt) rfl rfl rfl d0 rfl d9 (hT.below hBW) (hS.below hBW).2 sm_tCapt nn_tCapt fun u w' hu hB => h _ w' ⟨u, rfl, hu.mono (fun _ _ _ => trivial)⟩ (fun _ hq => E13.call hu (hdn 14 hq (by decide))) (fun h => absurd h (by decide)) hB
  | 11, _, ho, hdep, h =>
   simp at ho
   subst ho
   have d10 := hdep ⟨10, .data⟩ (by simp) rfl
   obtain ⟨u, e, _⟩ := d10
   exact op_mv rfl rfl rfl rfl (h _ _ ⟨rfl, ⟨u, e⟩⟩ (fun h => absurd h (by decide)) (fun h => absurd h (by decide)) (Below.refl _ _))
  | 12, _, ho, hdep, h =>
   simp at ho
   subst ho
   have d11 := hdep ⟨11, .data⟩ (by simp) rfl
   obtain ⟨_, u, e⟩ := d11
   exact op_ext rfl rfl rfl e rfl (h _ _ ⟨_, e⟩ (fun h => absurd h (by decide)) (fun h => absurd h (by decide)) (Below.refl _ _))
  | 13, _, ho, hdep, h =>
   simp at ho
   subst ho
   have d11 := hdep ⟨11, .data⟩ (by simp) rfl
   obtain ⟨_, u, e⟩ := d11
   exact op_ext rfl rfl rfl e rfl (h _ _ rfl (fun h => absurd h (by decide)) (fun h => absurd h (by decide)) (Below.refl _ _))
  | 14, _, ho, hdep, h =>
   simp at ho
   subst ho
   refine op_new37 rfl rfl rfl (h _ _ ⟨w.heap.size, rfl, hBW.size, heap_alloc_new _ _⟩ (fun h => absurd h (by decide)) (fun _ hq => ?_) (below_alloc (Below.refl _ _) _))
   obtain ⟨u, e, hu⟩ := hdn 10 hq (by decide)
   exact E13.new _ e hu
  | i + 15, hi, ho, hdep, h => exact absurd hi (by omega)
 ·intro op x w J ho hB hx hE h
  simp at ho
  subst ho
  have hBW := below_step HD hB
  obtain ⟨g, e11, hg0, hz⟩ := hx 14 (by decide) rfl
  obtain ⟨cs, e9⟩ := hx 12 (by decide) rfl
  have e8 := (hx 11 (by decide) rfl).1
  have hF := hE (x 12) g ⟨cs, e8.symm.trans e9⟩ e11
  exact op_store37 rfl rfl rfl rfl e11 rfl hz hF fun w' h37 hbel _ => h undef w' ⟨⟨g, e11, h37⟩, below_step HD (hB.trans (hbel W.drew.heap.size hg0))⟩
 ·intro i op x w J hi ho hdep h
  match i, hi, ho, hdep, h with
  | 0, hi, ho, hdep, h => exact absurd hi (by decide)
  | 1, hi, ho, hdep, h => exact absurd hi (by decide)
  | 2, hi, ho, hdep, h => exact absurd hi (by decide)
  | 3, hi, ho, hdep, h => exact absurd hi (by decide)
  | 4, hi, ho, hdep, h => exact absurd hi (by decide)
  | 5, hi, ho, hdep, h => exact absurd hi (by decide)
  | 6, hi, ho, hdep, h => exact absurd hi (by decide)
  | 7, hi, ho, hdep, h => exact absurd hi (by decide)
  | 8, hi, ho, hdep, h => exact absurd hi (by decide)
  | 9, hi, ho, hdep, h => exact absurd hi (by decide)
  | 10, hi, ho, hdep, h => exact absurd hi (by decide)
  | 11, hi, ho, hdep, h => exact absurd hi (by decide)
  | 12, hi, ho, hdep, h => exact absurd hi (by decide)
  | 13, _, ho, hdep, h =>
   simp at ho
   subst ho
   obtain ⟨u, e⟩ := hdep ⟨11, .data⟩ (by simp) rfl (by decide)
   exact op_ext rfl rfl rfl e rfl (h _ rfl)
  | 14, hi, ho, hdep, h => exact absurd hi (by decide)
  | 15, hi, ho, hdep, h => exact absurd hi (by decide)
  | 16, _, ho, hdep, h =>
   simp at ho
   subst ho
   have e := hdep ⟨13, .data⟩ (by simp) rfl (by decide)
   exact op_asg rfl rfl rfl e (h _ rfl)
  | i + 17, hi, ho, hdep, h => simp at ho
 ·intro x w hx hD
  exact ⟨sl x f [52, 53, 54, 55, 56, 57, 58, 59, 60, 61, 62, 51, 63, 64, 8, 999, 9], rfl, rfl, rfl, rfl, rfl, rfl, rfl, hD.1, hx 16 (by decide) (by decide), hD.2⟩
def C13_7 (s : Sg) (B0 : Nat) : Nat → Value → Value → World → Prop
 | 0, v, _, _ => v = sgV s
 | 1, v, _, w => IsT w ⟨⟨#[73, 116]⟩, [], []⟩ v
 | 2, v, _, w => IsT w ⟨⟨#[119, 97, 105, 116]⟩, [], []⟩ v
 | 3, v, _, w => IsL w [⟨⟨#[119, 97, 105, 116]⟩, [], []⟩] v
 | 4, v, _, w => IsT w ⟨⟨#[65, 99, 116]⟩, [], [⟨⟨#[119, 97, 105, 116]⟩, [], []⟩]⟩ v
 | 5, v, _, w => IsL w [⟨⟨#[73, 116]⟩, [], []⟩, ⟨⟨#[65, 99, 116]⟩, [], [⟨⟨#[119, 97, 105, 116]⟩, [], []⟩]⟩] v
 | 6, v, _, w => IsT w ⟨⟨#[65, 115, 115, 101, 114, 116]⟩, [], [⟨⟨#[73, 116]⟩, [], []⟩, ⟨⟨#[65, 99, 116]⟩, [], [⟨⟨#[119, 97, 105, 116]⟩, [], []⟩]⟩]⟩ v
 | 7, v, _, w => ∃ u, v = .tuple #[u, .int .i64 (codeOf (senP s tWait))] ∧ IsF w (fun _ => True) (senP s tWait) u
 | 8, v, u, _ => v = u ∧ ∃ u, v = .tuple #[u, .int .i64 (codeOf (senP s tWait))]
 | 9, v, u, _ => ∃ cs : List Value, u = .tuple (v :: cs).toArray
 | 10, v, _, _ => v = .int .i64 (codeOf (senP s tWait))
 | 11, v, _, w => ∃ g, v = .pointer (some ⟨g, 0, none⟩) ∧ B0 ≤ g ∧ w.heap[g]? = some zero37
 | 13, v, _, _ => v = .int .i64 (codeOf (senP s tWait))
 | _, _, _, _ => True
def P13_7 (s : Sg) : Nat → Value → Value → Prop
 | 8, v, _ => ∃ u, v = .tuple #[u, .int .i64 (codeOf (senP s tWait))]
 | 10, v, _ => v = .int .i64 (codeOf (senP s tWait))
 | 13, v, _ => v = .int .i64 (codeOf (senP s tWait))
 | _, _, _ => True
def late13_7 : Nat → Bool
 | 10 => true
 | _ => false
def par13_7 : Nat → Nat
 | 8 => 7
 | 9 => 8
 | i => i
set_option maxHeartbeats 4000000 in
set_option maxRecDepth 100000 in
theorem reg13_7 (T : Lib.PrintTabs) (s : Sg) (f : Nat → Value) (W : World) (g1 g2 : Nat) (hf1 : f 1 = .pointer (some ⟨g1, 0, none⟩)) (hf2 : f 2 = .pointer (some ⟨g2, 0, none⟩)) (hS : AtS W g1 s) (hA2 : AtT W g2 tMarta) (hT : Tabs T W) :
  Code.wp Tryz.prog (.region 7 (opsOf Tryz.f13 7) true) (OnN (fun a w' => ∃ f', a = fr13 f' ∧ f' 1 = f 1 ∧ f' 2 = f 2 ∧ f' 4 = f 4 ∧ f' 5 = f 5 ∧ f' 6 = f 6 ∧ f' 7 = f 7 ∧ f' 8 = f 8 ∧ f' 9 = f 9 ∧ Is37 w' (f' 10) (senP s tWait) ∧ f' 11 = .int .i64 (codeOf (senP s tWait)) ∧ Below W.heap.size W w')) (fr13 f) W := by
 have HD := below_drew (Below.refl W.heap.size W)
 simp only [opsOf, Tryz.f13, Option.bind_some, opsIn, Option.getD_some, Option.orElse, reduceIte, Nat.reduceEqDiff, Option.or_some, Option.none_or, Option.some_or, beq_iff_eq, Nat.reduceBEq, Bool.false_eq_true]
 have e0 : fr13 f = fr13 (sl (fun i => f (([66, 67, 68, 69, 70, 71, 72, 73, 65, 74, 75, 10, 999, 11] : List Nat).getD i 0)) f [66, 67, 68, 69, 70, 71, 72, 73, 65, 74, 75, 10, 999, 11]) := by kernel_rfl
 rw [e0]
 refine wp_region_any (by kernel_rfl) (region_two 12 (by decide) (fun x => fr13 (sl x f [66, 67, 68, 69, 70, 71, 72, 73, 65, 74, 75, 10, 999, 11])) par13_7 late13_7 (C13_7 s W.heap.size) (P13_7 s) 7 11 (E13 (senP s tWait)) (fun v w => Is37 w v (senP s tWait) ∧ Below W.heap.size W w) W.drew (by kernel_rfl) (by kernel_rfl) (by kernel_rfl) (by kernel_rfl) rfl ?_ ?_ ?_ (fun _ _ _ _ h hB => h.below hB) ?_ (by decide) ?_ ?_ ?_ _)
 ·intro i op x v ho
  match i, ho with
  | 0, ho => simp at ho; subst ho; show _ = _; kernel_rfl
  | 1, ho => simp at ho; subst ho; show _ = _; kernel_rfl
  | 2, ho => simp at ho; subst ho; show _ = _; kernel_rfl
  | 3, ho => simp at ho; subst ho; show _ = _; kernel_rfl
  | 4, ho => simp at ho; subst ho; show _ = _; kernel_rfl
  | 5, ho => simp at ho; subst ho; show _ = _; kernel_rfl
  | 6, ho => simp at ho; subst ho; show _ = _; kernel_rfl
  | 7, ho => simp at ho; subst ho; show _ = _; kernel_rfl
  | 8, ho => simp at ho; subst ho; show _ = _; kernel_rfl
  | 9, ho => simp at ho; subst ho; show _ = _; kernel_rfl
  | 10, ho => simp at ho; subst ho; show _ = _; kernel_rfl
  | 11, ho => simp at ho; subst ho; show _ = _; kernel_rfl
  | 12, ho => simp at ho; subst ho; show _ = _; kernel_rfl
  | 13, ho => simp at ho; subst ho; show _ = _; kernel_rfl
  | i + 14, ho => simp at ho
 ·intro i v u w h
  match i, h with
  | 0, h => trivial
  | 1, h => trivial
  | 2, h => trivial
  | 3, h => trivial
  | 4, h => trivial
  | 5, h => trivial
  | 6, h => trivial
  | 7, h => trivial
  | 8, h => exact h.2
  | 9, h => trivial
  | 10, h => exact h
  | 11, h => trivial
  | 12, h => trivial
  | 13, h => exact h
  | i + 14, h => trivial
 ·intro i v u w w' h hB
  match i, h with
  | 0, h => exact h
  | 1, h => exact IsT.below h hB
  | 2, h => exact IsT.below h hB
  | 3, h => exact IsL.below h hB
  | 4, h => exact IsT.below h hB
  | 5, h => exact IsL.below h hB
  | 6, h => exact IsT.below h hB
  | 7, h => exact Exists.imp (fun u hu => ⟨hu.1, hu.2.below hB⟩) h
  | 8, h => exact h
  | 9, h => exact h
  | 10, h => exact h
  | 11, h => exact Exists.imp (fun g hg => ⟨hg.1, hg.2.1, blk_below hg.2.2 hB⟩) h
  | 12, h => exact trivial
  | 13, h => exact h
  | i + 14, h => trivial
 ·intro i op x w J dn hi ho hB hdep hdn h
  have hBW := below_step HD hB
  match i, hi, ho, hdep, h with
  | 0, _, ho, hdep, h =>
   simp at ho
   subst ho
   exact op_loadS rfl rfl rfl hf1 (hS.below hBW) (h _ _ rfl (fun h => absurd h (by decide)) (fun h => absurd h (by decide)) (Below.refl _ _))
  | 1, _, ho, hdep, h =>
   simp at ho
   subst ho
   exact op_leaf rfl rfl rfl fun u w' hu hB => h u w' hu (fun h => absurd h (by decide)) (fun h => absurd h (by decide)) hB
  | 2, _, ho, hdep, h =>
   simp at ho
   subst ho
   exact op_leaf rfl rfl rfl fun u w' hu hB => h u w' hu (fun h => absurd h (by decide)) (fun h => absurd h (by decide)) hB
  | 3, _, ho, hdep, h =>
   simp at ho
   subst ho
   have d2 := hdep ⟨2, .data⟩ (by simp) rfl
   exact op_row1 rfl rfl rfl rfl d2 fun u w' hu hB => h u w' hu (fun h => absurd h (by decide)) (fun h => absurd h (by decide)) hB
  | 4, _, ho, hdep, h =>
   simp at ho
   subst ho
   have d3 := hdep ⟨3, .data⟩ (by simp) rfl
   exact op_tree rfl rfl rfl rfl d3 fun u w' hu hB => h u w' hu (fun h => absurd h (by decide)) (fun h => absurd h (by decide)) hB
  | 5, _, ho, hdep, h =>
   simp at ho
   subst ho
   have d1 := hdep ⟨1, .data⟩ (by simp) rfl
   have d4 := hdep ⟨4, .data⟩ (by simp) rfl
   exact op_row2 rfl rfl rfl rfl rfl d1 d4 fun u w' hu hB => h u w' hu (fun h => absurd h (by decide)) (fun h => absurd h (by decide)) hB
  | 6, _, ho, hdep, h =>
   simp at ho
   subst ho
   have d5 := hdep ⟨5, .data⟩ (by simp) rfl
   exact op_tree rfl rfl rfl rfl d5 fun u w' hu hB => h u w' hu (fun h => absurd h (by decide)) (fun h => absurd h (by decide)) hB
  | 7, _, ho, hdep, h =>
   simp at ho
   subst ho
   have d0 := hdep ⟨0, .data⟩ (by simp) rfl
   have d6 := hdep ⟨6, .data⟩ (by simp) rfl
   exact op_sent (T := T) (s := s) (t := tWait) rfl rfl rfl d0 rfl d6 (hT.below hBW) (hS.below hBW).2 sm_tWait nn_tWait fun u w' hu hB => h _ w' ⟨u, rfl, hu.mono (fun _ _ _ => trivial)⟩ (fun _ hq => E13.call hu (hdn 11 hq (by decide))) (fun h => absurd h (by decide)) hB
  | 8, _, ho, hdep, h =>
   simp at ho
   subst ho
   have d7 := hdep ⟨7, .data⟩ (by simp) rfl
   obtain ⟨u, e, _⟩ := d7
   exact op_mv rfl rfl rfl rfl (h _ _ ⟨rfl, ⟨u, e⟩⟩ (fun h => absurd h (by decide)) (fun h => absurd h (by decide)) (Below.refl _ _))
  | 9, _, ho, hdep, h =>
   simp at ho
   subst ho
   have d8 := hdep ⟨8, .data⟩ (by simp) rfl
   obtain ⟨_, u, e⟩ := d8
   exact op_ext rfl rfl rfl e rfl (h _ _ ⟨_, e⟩ (fun h => absurd h (by decide)) (fun h => absurd h (by decide)) (Below.refl _ _))
  | 10, _, ho, hdep, h =>
   simp at ho
   subst ho
   have d8 := hdep ⟨8, .data⟩ (by simp) rfl
   obtain ⟨_, u, e⟩ := d8
   exact op_ext rfl rfl rfl e rfl (h _ _ rfl (fun h => absurd h (by decide)) (fun h => absurd h (by decide)) (Below.refl _ _))
  | 11, _, ho, hdep, h =>
   simp at ho
   subst ho
   refine op_new37 rfl rfl rfl (h _ _ ⟨w.heap.size, rfl, hBW.size, heap_alloc_new _ _⟩ (fun h => absurd h (by decide)) (fun _ hq => ?_) (below_alloc (Below.refl _ _) _))
   obtain ⟨u, e, hu⟩ := hdn 7 hq (by decide)
   exact E13.new _ e hu
  | i + 12, hi, ho, hdep, h => exact absurd hi (by omega)
 ·intro op x w J ho hB hx hE h
  simp at ho
  subst ho
  have hBW := below_step HD hB
  obtain ⟨g, e11, hg0, hz⟩ := hx 11 (by decide) rfl
  obtain ⟨cs, e9⟩ := hx 9 (by decide) rfl
  have e8 := (hx 8 (by decide) rfl).1
  have hF := hE (x 9) g ⟨cs, e8.symm.trans e9⟩ e11
  exact op_store37 rfl rfl rfl rfl e11 rfl hz hF fun w' h37 hbel _ => h undef w' ⟨⟨g, e11, h37⟩, below_step HD (hB.trans (hbel W.drew.heap.size hg0))⟩
 ·intro i op x w J hi ho hdep h
  match i, hi, ho, hdep, h with
  | 0, hi, ho, hdep, h => exact absurd hi (by decide)
  | 1, hi, ho, hdep, h => exact absurd hi (by decide)
  | 2, hi, ho, hdep, h => exact absurd hi (by decide)
  | 3, hi, ho, hdep, h => exact absurd hi (by decide)
  | 4, hi, ho, hdep, h => exact absurd hi (by decide)
  | 5, hi, ho, hdep, h => exact absurd hi (by decide)
  | 6, hi, ho, hdep, h => exact absurd hi (by decide)
  | 7, hi, ho, hdep, h => exact absurd hi (by decide)
  | 8, hi, ho, hdep, h => exact absurd hi (by decide)
  | 9, hi, ho, hdep, h => exact absurd hi (by decide)
  | 10, _, ho, hdep, h =>
   simp at ho
   subst ho
   obtain ⟨u, e⟩ := hdep ⟨8, .data⟩ (by simp) rfl (by decide)
   exact op_ext rfl rfl rfl e rfl (h _ rfl)
  | 11, hi, ho, hdep, h => exact absurd hi (by decide)
  | 12, hi, ho, hdep, h => exact absurd hi (by decide)
  | 13, _, ho, hdep, h =>
   simp at ho
   subst ho
   have e := hdep ⟨10, .data⟩ (by simp) rfl (by decide)
   exact op_asg rfl rfl rfl e (h _ rfl)
  | i + 14, hi, ho, hdep, h => simp at ho
 ·intro x w hx hD
  exact ⟨sl x f [66, 67, 68, 69, 70, 71, 72, 73, 65, 74, 75, 10, 999, 11], rfl, rfl, rfl, rfl, rfl, rfl, rfl, rfl, rfl, hD.1, hx 13 (by decide) (by decide), hD.2⟩
def C13_8 (s : Sg) (B0 : Nat) : Nat → Value → Value → World → Prop
 | 0, v, _, _ => v = sgV s
 | 1, v, _, w => IsT w ⟨⟨#[98, 97, 103]⟩, [], []⟩ v
 | 2, v, _, w => IsL w [⟨⟨#[98, 97, 103]⟩, [], []⟩] v
 | 3, v, _, w => IsT w ⟨⟨#[78, 111, 117, 110]⟩, [], [⟨⟨#[98, 97, 103]⟩, [], []⟩]⟩ v
 | 4, v, _, w => IsI w 30 v
 | 5, v, _, w => IsT w ⟨⟨#[99, 111, 115, 116]⟩, [], []⟩ v
 | 6, v, _, w => IsL w [⟨⟨#[99, 111, 115, 116]⟩, [], []⟩] v
 | 7, v, _, w => IsT w ⟨⟨#[67, 111, 115, 116]⟩, [30], [⟨⟨#[99, 111, 115, 116]⟩, [], []⟩]⟩ v
 | 8, v, _, w => IsL w [⟨⟨#[78, 111, 117, 110]⟩, [], [⟨⟨#[98, 97, 103]⟩, [], []⟩]⟩, ⟨⟨#[67, 111, 115, 116]⟩, [30], [⟨⟨#[99, 111, 115, 116]⟩, [], []⟩]⟩] v
 | 9, v, _, w => IsT w ⟨⟨#[87, 104, 111]⟩, [], [⟨⟨#[78, 111, 117, 110]⟩, [], [⟨⟨#[98, 97, 103]⟩, [], []⟩]⟩, ⟨⟨#[67, 111, 115, 116]⟩, [30], [⟨⟨#[99, 111, 115, 116]⟩, [], []⟩]⟩]⟩ v
 | 10, v, _, w => ∃ u y, v = .tuple #[u, .string y, .int .i64 (codeOf (nouP s tBag))] ∧ IsF w (fun _ => True) (nouP s tBag) u ∧ ((nouP s tBag).toOption.isSome = true → sortP s.ps 60 tBag = some y)
 | 11, v, u, _ => v = u ∧ ∃ u y, v = .tuple #[u, .string y, .int .i64 (codeOf (nouP s tBag))] ∧ ((nouP s tBag).toOption.isSome = true → sortP s.ps 60 tBag = some y)
 | 12, v, u, _ => ∃ cs : List Value, u = .tuple (v :: cs).toArray
 | 13, v, _, _ => ∃ y, v = .string y ∧ ((nouP s tBag).toOption.isSome = true → sortP s.ps 60 tBag = some y)
 | 14, v, _, _ => v = .int .i64 (codeOf (nouP s tBag))
 | 15, v, _, w => ∃ g, v = .pointer (some ⟨g, 0, none⟩) ∧ B0 ≤ g ∧ w.heap[g]? = some zero37
 | 17, v, _, _ => ∃ y, v = .string y ∧ ((nouP s tBag).toOption.isSome = true → sortP s.ps 60 tBag = some y)
 | 18, v, _, _ => v = .int .i64 (codeOf (nouP s tBag))
 | _, _, _, _ => True
def P13_8 (s : Sg) : Nat → Value → Value → Prop
 | 11, v, _ => ∃ u y, v = .tuple #[u, .string y, .int .i64 (codeOf (nouP s tBag))] ∧ ((nouP s tBag).toOption.isSome = true → sortP s.ps 60 tBag = some y)
 | 13, v, _ => ∃ y, v = .string y ∧ ((nouP s tBag).toOption.isSome = true → sortP s.ps 60 tBag = some y)
 | 14, v, _ => v = .int .i64 (codeOf (nouP s tBag))
 | 17, v, _ => ∃ y, v = .string y ∧ ((nouP s tBag).toOption.isSome = true → sortP s.ps 60 tBag = some y)
 | 18, v, _ => v = .int .i64 (codeOf (nouP s tBag))
 | _, _, _ => True
def late13_8 : Nat → Bool
 | 13 => true
 | 14 => true
 | _ => false
def par13_8 : Nat → Nat
 | 11 => 10
 | 12 => 11
 | i => i
set_option maxHeartbeats 4000000 in
set_option maxRecDepth 100000 in
theorem reg13_8 (T : Lib.PrintTabs) (s : Sg) (f : Nat → Value) (W : World) (g1 g2 : Nat) (hf1 : f 1 = .pointer (some ⟨g1, 0, none⟩)) (hf2 : f 2 = .pointer (some ⟨g2, 0, none⟩)) (hS : AtS W g1 s) (hA2 : AtT W g2 tMarta) (hT : Tabs T W) :
  Code.wp Tryz.prog (.region 8 (opsOf Tryz.f13 8) true) (OnN (fun a w' => ∃ f', a = fr13 f' ∧ f' 1 = f 1 ∧ f' 2 = f 2 ∧ f' 4 = f 4 ∧ f' 5 = f 5 ∧ f' 6 = f 6 ∧ f' 7 = f 7 ∧ f' 8 = f 8 ∧ f' 9 = f 9 ∧ f' 10 = f 10 ∧ f' 11 = f 11 ∧ Is37 w' (f' 12) (nouP s tBag) ∧ (∃ y, f' 13 = .string y ∧ ((nouP s tBag).toOption.isSome = true → sortP s.ps 60 tBag = some y)) ∧ f' 14 = .int .i64 (codeOf (nouP s tBag)) ∧ Below W.heap.size W w')) (fr13 f) W := by
 have HD := below_drew (Below.refl W.heap.size W)
 simp only [opsOf, Tryz.f13, Option.bind_some, opsIn, Option.getD_some, Option.orElse, reduceIte, Nat.reduceEqDiff, Option.or_some, Option.none_or, Option.some_or, beq_iff_eq, Nat.reduceBEq, Bool.false_eq_true]
 have e0 : fr13 f = fr13 (sl (fun i => f (([77, 78, 79, 80, 81, 82, 83, 84, 85, 86, 87, 76, 88, 89, 90, 12, 999, 13, 14] : List Nat).getD i 0)) f [77, 78, 79, 80, 81, 82, 83, 84, 85, 86, 87, 76, 88, 89, 90, 12, 999, 13, 14]) := by kernel_rfl
 rw [e0]
 refine wp_region_any (by kernel_rfl) (region_two 16 (by decide) (fun x => fr13 (sl x f [77, 78, 79, 80, 81, 82, 83, 84, 85, 86, 87, 76, 88, 89, 90, 12, 999, 13, 14])) par13_8 late13_8 (C13_8 s W.heap.size) (P13_8 s) 10 15 (E13 (nouP s tBag)) (fun v w => Is37 w v (nouP s tBag) ∧ Below W.heap.size W w) W.drew (by kernel_rfl) (by kernel_rfl) (by kernel_rfl) (by kernel_rfl) rfl ?_ ?_ ?_ (fun _ _ _ _ h hB => h.below hB) ?_ (by decide) ?_ ?_ ?_ _)
 ·intro i op x v ho
  match i, ho with
  | 0, ho => simp at ho; subst ho; show _ = _; kernel_rfl
  | 1, ho => simp at ho; subst ho; show _ = _; kernel_rfl
  | 2, ho => simp at ho; subst ho; show _ = _; kernel_rfl
  | 3, ho => simp at ho; subst ho; show _ = _; kernel_rfl
  | 4, ho => simp at ho; subst ho; show _ = _; kernel_rfl
  | 5, ho => simp at ho; subst ho; show _ = _; kernel_rfl
  | 6, ho => simp at ho; subst ho; show _ = _; kernel_rfl
  | 7, ho => simp at ho; subst ho; show _ = _; kernel_rfl
  | 8, ho => simp at ho; subst ho; show _ = _; kernel_rfl
  | 9, ho => simp at ho; subst ho; show _ = _; kernel_rfl
  | 10, ho => simp at ho; subst ho; show _ = _; kernel_rfl
  | 11, ho => simp at ho; subst ho; show _ = _; kernel_rfl
  | 12, ho => simp at ho; subst ho; show _ = _; kernel_rfl
  | 13, ho => simp at ho; subst ho; show _ = _; kernel_rfl
  | 14, ho => simp at ho; subst ho; show _ = _; kernel_rfl
  | 15, ho => simp at ho; subst ho; show _ = _; kernel_rfl
  | 16, ho => simp at ho; subst ho; show _ = _; kernel_rfl
  | 17, ho => simp at ho; subst ho; show _ = _; kernel_rfl
  | 18, ho => simp at ho; subst ho; show _ = _; kernel_rfl
  | i + 19, ho => simp at ho
 ·intro i v u w h
  match i, h with
  | 0, h => trivial
  | 1, h => trivial
  | 2, h => trivial
  | 3, h => trivial
  | 4, h => trivial
  | 5, h => trivial
  | 6, h => trivial
  | 7, h => trivial
  | 8, h => trivial
  | 9, h => trivial
  | 10, h => trivial
  | 11, h => exact h.2
  | 12, h => trivial
  | 13, h => exact h
  | 14, h => exact h
  | 15, h => trivial
  | 16, h => trivial
  | 17, h => exact h
  | 18, h => exact h
  | i + 19, h => trivial
 ·intro i v u w w' h hB
  match i, h with
  | 0, h => exact h
  | 1, h => exact IsT.below h hB
  | 2, h => exact IsL.below h hB
  | 3, h => exact IsT.below h hB
  | 4, h => exact IsI.below h hB
  | 5, h => exact IsT.below h hB
  | 6, h => exact IsL.below h hB
  | 7, h => exact IsT.below h hB
  | 8, h => exact IsL.below h hB
  | 9, h => exact IsT.below h hB
  | 10, h => exact Exists.imp (fun u hu => Exists.imp (fun y hy => ⟨hy.1, hy.2.1.below hB, hy.2.2⟩) hu) h
  | 11, h => exact h
  | 12, h => exact h
  | 13, h => exact h
  | 14, h => exact h
  | 15, h => exact Exists.imp (fun g hg => ⟨hg.1, hg.2.1, blk_below hg.2.2 hB⟩) h
  | 16, h => exact trivial
  | 17, h => exact h
  | 18, h => exact h
  | i + 19, h => trivial
 ·intro i op x w J dn hi ho hB hdep hdn h
  have hBW := below_step HD hB
  match i, hi, ho, hdep, h with
  | 0, _, ho, hdep, h =>
   simp at ho
   subst ho
   exact op_loadS rfl rfl rfl hf1 (hS.below hBW) (h _ _ rfl (fun h => absurd h (by decide)) (fun h => absurd h (by decide)) (Below.refl _ _))
  | 1, _, ho, hdep, h =>
   simp at ho
   subst ho
   exact op_leaf rfl rfl rfl fun u w' hu hB => h u w' hu (fun h => absurd h (by decide)) (fun h => absurd h (by decide)) hB
  | 2, _, ho, hdep, h =>
   simp at ho
   subst ho
   have d1 := hdep ⟨1, .data⟩ (by simp) rfl
   exact op_row1 rfl rfl rfl rfl d1 fun u w' hu hB => h u w' hu (fun h => absurd h (by decide)) (fun h => absurd h (by decide)) hB
  | 3, _, ho, hdep, h =>
   simp at ho
   subst ho
   have d2 := hdep ⟨2, .data⟩ (by simp) rfl
   exact op_tree rfl rfl rfl rfl d2 fun u w' hu hB => h u w' hu (fun h => absurd h (by decide)) (fun h => absurd h (by decide)) hB
  | 4, _, ho, hdep, h =>
   simp at ho
   subst ho
   exact op_rowI rfl rfl rfl fun u w' hu hB => h u w' hu (fun h => absurd h (by decide)) (fun h => absurd h (by decide)) hB
  | 5, _, ho, hdep, h =>
   simp at ho
   subst ho
   exact op_leaf rfl rfl rfl fun u w' hu hB => h u w' hu (fun h => absurd h (by decide)) (fun h => absurd h (by decide)) hB
  | 6, _, ho, hdep, h =>
   simp at ho
   subst ho
   have d5 := hdep ⟨5, .data⟩ (by simp) rfl
   exact op_row1 rfl rfl rfl rfl d5 fun u w' hu hB => h u w' hu (fun h => absurd h (by decide)) (fun h => absurd h (by decide)) hB
  | 7, _, ho, hdep, h =>
   simp at ho
   subst ho
   have d4 := hdep ⟨4, .data⟩ (by simp) rfl
   have d6 := hdep ⟨6, .data⟩ (by simp) rfl
   exact op_bt rfl rfl rfl rfl rfl d4 d6 fun u hu => h u w hu (fun h => absurd h (by decide)) (fun h => absurd h (by decide)) (Below.refl _ _)
  | 8, _, ho, hdep, h =>
   simp at ho
   subst ho
   have d3 := hdep ⟨3, .data⟩ (by simp) rfl
   have d7 := hdep ⟨7, .data⟩ (by simp) rfl
   exact op_row2 rfl rfl rfl rfl rfl d3 d7 fun u w' hu hB => h u w' hu (fun h => absurd h (by decide)) (fun h => absurd h (by decide)) hB
  | 9, _, ho, hdep, h =>
   simp at ho
   subst ho
   have d8 := hdep ⟨8, .data⟩ (by simp) rfl
   exact op_tree rfl rfl rfl rfl d8 fun u w' hu hB => h u w' hu (fun h => absurd h (by decide)) (fun h => absurd h (by decide)) hB
  | 10, _, ho, hdep, h =>
   simp at ho
   subst ho
   have d0 := hdep ⟨0, .data⟩ (by simp) rfl
   have d9 := hdep ⟨9, .data⟩ (by simp) rfl
   exact op_noun (s := s) (t := tBag) rfl rfl rfl d0 rfl d9 (hS.below hBW).2 sm_tBag nn_tBag fun u y w' hu hy hB => h _ w' ⟨u, y, rfl, hu.mono (fun _ _ _ => trivial), hy⟩ (fun _ hq => E13.call hu (hdn 15 hq (by decide))) (fun h => absurd h (by decide)) hB
  | 11, _, ho, hdep, h =>
   simp at ho
   subst ho
   have d10 := hdep ⟨10, .data⟩ (by simp) rfl
   obtain ⟨u, y, e, _, hy⟩ := d10
   exact op_mv rfl rfl rfl rfl (h _ _ ⟨rfl, ⟨u, y, e, hy⟩⟩ (fun h => absurd h (by decide)) (fun h => absurd h (by decide)) (Below.refl _ _))
  | 12, _, ho, hdep, h =>
   simp at ho
   subst ho
   have d11 := hdep ⟨11, .data⟩ (by simp) rfl
   obtain ⟨_, u, y, e, hy⟩ := d11
   exact op_ext rfl rfl rfl e rfl (h _ _ ⟨_, e⟩ (fun h => absurd h (by decide)) (fun h => absurd h (by decide)) (Below.refl _ _))
  | 13, _, ho, hdep, h =>
   simp at ho
   subst ho
   have d11 := hdep ⟨11, .data⟩ (by simp) rfl
   obtain ⟨_, u, y, e, hy⟩ := d11
   exact op_ext rfl rfl rfl e rfl (h _ _ ⟨y, rfl, hy⟩ (fun h => absurd h (by decide)) (fun h => absurd h (by decide)) (Below.refl _ _))
  | 14, _, ho, hdep, h =>
   simp at ho
   subst ho
   have d11 := hdep ⟨11, .data⟩ (by simp) rfl
   obtain ⟨_, u, y, e, hy⟩ := d11
   exact op_ext rfl rfl rfl e rfl (h _ _ rfl (fun h => absurd h (by decide)) (fun h => absurd h (by decide)) (Below.refl _ _))
  | 15, _, ho, hdep, h =>
   simp at ho
   subst ho
   refine op_new37 rfl rfl rfl (h _ _ ⟨w.heap.size, rfl, hBW.size, heap_alloc_new _ _⟩ (fun h => absurd h (by decide)) (fun _ hq => ?_) (below_alloc (Below.refl _ _) _))
   obtain ⟨u, y, e, hu, _⟩ := hdn 10 hq (by decide)
   exact E13.new _ e hu
  | i + 16, hi, ho, hdep, h => exact absurd hi (by omega)
 ·intro op x w J ho hB hx hE h
  simp at ho
  subst ho
  have hBW := below_step HD hB
  obtain ⟨g, e11, hg0, hz⟩ := hx 15 (by decide) rfl
  obtain ⟨cs, e9⟩ := hx 12 (by decide) rfl
  have e8 := (hx 11 (by decide) rfl).1
  have hF := hE (x 12) g ⟨cs, e8.symm.trans e9⟩ e11
  exact op_store37 rfl rfl rfl rfl e11 rfl hz hF fun w' h37 hbel _ => h undef w' ⟨⟨g, e11, h37⟩, below_step HD (hB.trans (hbel W.drew.heap.size hg0))⟩
 ·intro i op x w J hi ho hdep h
  match i, hi, ho, hdep, h with
  | 0, hi, ho, hdep, h => exact absurd hi (by decide)
  | 1, hi, ho, hdep, h => exact absurd hi (by decide)
  | 2, hi, ho, hdep, h => exact absurd hi (by decide)
  | 3, hi, ho, hdep, h => exact absurd hi (by decide)
  | 4, hi, ho, hdep, h => exact absurd hi (by decide)
  | 5, hi, ho, hdep, h => exact absurd hi (by decide)
  | 6, hi, ho, hdep, h => exact absurd hi (by decide)
  | 7, hi, ho, hdep, h => exact absurd hi (by decide)
  | 8, hi, ho, hdep, h => exact absurd hi (by decide)
  | 9, hi, ho, hdep, h => exact absurd hi (by decide)
  | 10, hi, ho, hdep, h => exact absurd hi (by decide)
  | 11, hi, ho, hdep, h => exact absurd hi (by decide)
  | 12, hi, ho, hdep, h => exact absurd hi (by decide)
  | 13, _, ho, hdep, h =>
   simp at ho
   subst ho
   obtain ⟨u, y, e, hy⟩ := hdep ⟨11, .data⟩ (by simp) rfl (by decide)
   exact op_ext rfl rfl rfl e rfl (h _ ⟨y, rfl, hy⟩)
  | 14, _, ho, hdep, h =>
   simp at ho
   subst ho
   obtain ⟨u, y, e, hy⟩ := hdep ⟨11, .data⟩ (by simp) rfl (by decide)
   exact op_ext rfl rfl rfl e rfl (h _ rfl)
  | 15, hi, ho, hdep, h => exact absurd hi (by decide)
  | 16, hi, ho, hdep, h => exact absurd hi (by decide)
  | 17, _, ho, hdep, h =>
   simp at ho
   subst ho
   obtain ⟨y, e, hy⟩ := hdep ⟨13, .data⟩ (by simp) rfl (by decide)
   exact op_asg rfl rfl rfl e (h _ ⟨y, rfl, hy⟩)
  | 18, _, ho, hdep, h =>
   simp at ho
   subst ho
   have e := hdep ⟨14, .data⟩ (by simp) rfl (by decide)
   exact op_asg rfl rfl rfl e (h _ rfl)
  | i + 19, hi, ho, hdep, h => simp at ho
 ·intro x w hx hD
  exact ⟨sl x f [77, 78, 79, 80, 81, 82, 83, 84, 85, 86, 87, 76, 88, 89, 90, 12, 999, 13, 14], rfl, rfl, rfl, rfl, rfl, rfl, rfl, rfl, rfl, rfl, rfl, hD.1, hx 17 (by decide) (by decide), hx 18 (by decide) (by decide), hD.2⟩
end
def aw1T : ByteArray := ⟨#[65, 76, 76, 32, 112, 101, 114, 115, 111, 110, 40, 73, 77, 80, 76, 73, 69, 83, 40, 112, 97, 115, 115, 101, 110, 103, 101, 114, 40, 35, 48, 41, 44, 32, 83, 79, 77, 69, 32, 116, 104, 105, 110, 103, 40, 65, 78, 68, 40, 98, 97, 103, 40, 35, 48, 41, 44, 32, 99, 97, 114, 114, 121, 40, 35, 49, 44, 32, 35, 48, 41, 41, 41, 41, 41]⟩
def aw2T : ByteArray := ⟨#[79, 66, 76, 73, 71, 69, 68, 40, 78, 79, 84, 40, 115, 109, 111, 107, 101, 40, 109, 97, 114, 116, 97, 41, 41, 41]⟩
def aw3T : ByteArray := ⟨#[65, 78, 68, 40, 98, 97, 103, 40, 35, 48, 41, 44, 32, 99, 111, 115, 116, 40, 35, 48, 44, 32, 51, 48, 41, 41]⟩
def chkT (o : Except Int S70) (t : ByteArray) : Bool := match o with
 | .ok m => decide (wrP m.f0 = t) && wrOk m.f0
 | .error _ => false
theorem chk_ok {o : Except Int S70} {t : ByteArray} (h : chkT o t = true) : ∃ m, o = .ok m ∧ wrP m.f0 = t ∧ wrOk m.f0 = true := by
 cases o with
 | error c => cases h
 | ok m =>
  unfold chkT at h
  simp only [Bool.and_eq_true, decide_eq_true_eq] at h
  exact ⟨m, rfl, h.1, h.2⟩
theorem aw1 {s : Sg} (h : MSig s) : ∃ m, senP s tCarry = .ok m ∧ wrP m.f0 = aw1T ∧ wrOk m.f0 = true := by
 obtain ⟨A0, c0, ss, A1, c1, cs, A2, c2, ps⟩ := s
 obtain ⟨rfl, rfl, rfl⟩ := h
 exact chk_ok (by kernel_rfl)
theorem aw2 {s : Sg} (h : MSig s) : ∃ m, senP s tSmoke = .ok m ∧ wrP m.f0 = aw2T ∧ wrOk m.f0 = true := by
 obtain ⟨A0, c0, ss, A1, c1, cs, A2, c2, ps⟩ := s
 obtain ⟨rfl, rfl, rfl⟩ := h
 exact chk_ok (by kernel_rfl)
theorem aw3 {s : Sg} (h : MSig s) : senP s tCapt = .error 6 := by
 obtain ⟨A0, c0, ss, A1, c1, cs, A2, c2, ps⟩ := s
 obtain ⟨rfl, rfl, rfl⟩ := h
 kernel_rfl
theorem aw4 {s : Sg} (h : MSig s) : senP s tWait = .error 10 := by
 obtain ⟨A0, c0, ss, A1, c1, cs, A2, c2, ps⟩ := s
 obtain ⟨rfl, rfl, rfl⟩ := h
 kernel_rfl
theorem aw5 {s : Sg} (h : MSig s) : ∃ m, nouP s tBag = .ok m ∧ wrP m.f0 = aw3T ∧ wrOk m.f0 = true := by
 obtain ⟨A0, c0, ss, A1, c1, cs, A2, c2, ps⟩ := s
 obtain ⟨rfl, rfl, rfl⟩ := h
 exact chk_ok (by kernel_rfl)
theorem aw6 {s : Sg} (h : MSig s) : sortP s.ps 60 tBag = some ⟨#[116, 104, 105, 110, 103]⟩ := by
 obtain ⟨A0, c0, ss, A1, c1, cs, A2, c2, ps⟩ := s
 obtain ⟨rfl, rfl, rfl⟩ := h
 kernel_rfl
theorem body13 : Tryz.f13.body = some (.seq (.region 0 (opsOf Tryz.f13 0) false) (.seq (.region 1 (opsOf Tryz.f13 1) false) (.seq (.region 2 (opsOf Tryz.f13 2) false) (.seq (.region 3 (opsOf Tryz.f13 3) false) (.seq (.region 4 (opsOf Tryz.f13 4) false) (.seq (.region 5 (opsOf Tryz.f13 5) true) (.seq (.region 6 (opsOf Tryz.f13 6) true) (.seq (.region 7 (opsOf Tryz.f13 7) true) (.seq (.region 8 (opsOf Tryz.f13 8) true) (.seq (.seq (.region 9 (opsOf Tryz.f13 9) false) (.cond (.tmp 112) (.seq (.region 10 (opsOf Tryz.f13 10) false) .ret) .skip)) (.seq (.region 11 (opsOf Tryz.f13 11) false) .ret))))))))))) := by kernel_rfl
set_option maxHeartbeats 4000000 in
set_option maxRecDepth 100000 in
theorem reg13_0 (f : Nat → Value) (W : World) : Code.wp Tryz.prog (.region 0 (opsOf Tryz.f13 0) false) (OnN (fun a w' => a = fr13 (upd f 0 (.bool false)) ∧ w' = W)) (fr13 f) W := by
 simp only [opsOf, Tryz.f13, Option.bind_some, opsIn, Option.getD_some, Option.orElse, reduceIte, Nat.reduceEqDiff, Option.or_some, Option.none_or, Option.some_or, beq_iff_eq, Nat.reduceBEq, Bool.false_eq_true]
 refine wp_region_list ?_
 refine list_op (i := 0) rfl (op_value rfl (wanted_none rfl) (w' := W) (v := .bool false) (by go_simp) ?_)
 exact ⟨rfl, rfl⟩
theorem at37_cells {w : World} {p : Value} {m : S70} (h : Is37 w p (.ok m)) : ∃ g A2 c2 A5 c5, p = .pointer (some ⟨g, 0, none⟩) ∧ w.heap[g]? = some (.cells #[.int .i64 m.f0.f0, .string m.f0.f1, .slice A2 m.f0.f2.length c2, .int .i64 m.f0.f3, .int .i64 m.f0.f4, .slice A5 m.f0.f5.length c5] 37 (0, 0)) ∧ FmC w m.f0 A2 c2 A5 c5 := by
 obtain ⟨g, e, A2, c2, A5, c5, h1, h2⟩ := h
 exact ⟨g, A2, c2, A5, c5, e, h1, h2⟩
set_option maxHeartbeats 8000000 in
set_option maxRecDepth 100000 in
theorem reg13_end (T : Lib.PrintTabs) (f : Nat → Value) (w0 W : World) (hB0 : Below w0.heap.size w0 W) (m1 m2 m3 : S70) (h4 : Is37 W (f 4) (.ok m1)) (h6 : Is37 W (f 6) (.ok m2)) (h12 : Is37 W (f 12) (.ok m3)) (t1 : wrP m1.f0 = aw1T) (k1 : wrOk m1.f0 = true) (t2 : wrP m2.f0 = aw2T) (k2 : wrOk m2.f0 = true) (t3 : wrP m3.f0 = aw3T) (k3 : wrOk m3.f0 = true)
  (h5 : f 5 = .int .i64 0) (h7 : f 7 = .int .i64 0) (h9 : f 9 = .int .i64 6) (h11 : f 11 = .int .i64 10) (h14 : f 14 = .int .i64 0) (h13 : f 13 = .string ⟨#[116, 104, 105, 110, 103]⟩) (hT : Tabs T W) :
  Code.wp Tryz.prog (.seq (.seq (.region 9 (opsOf Tryz.f13 9) false) (.cond (.tmp 112) (.seq (.region 10 (opsOf Tryz.f13 10) false) .ret) .skip)) (.seq (.region 11 (opsOf Tryz.f13 11) false) .ret)) (bodyPost Tryz.prog Tryz.f13 fun e w' => e = .returned (.bool true) ∧ Below w0.heap.size w0 w') (fr13 f) W := by
 obtain ⟨g1, A2, c2, A5, c5, p4, b1, v1⟩ := at37_cells h4
 obtain ⟨g2, B2, d2, B5, d5, p6, b2, v2⟩ := at37_cells h6
 obtain ⟨g3, D2, e2, D5, e5, p12, b3, v3⟩ := at37_cells h12
 have C1 := Aside0.mk (fun (V : World) (hV : Below W.heap.size W V) => text_calls T m1.f0 V A2 c2 A5 c5 (v1.below hV) (hT.below hV) k1 (by rw [t1]; decide +kernel))
 have C2 := Aside0.mk (fun (V : World) (hV : Below W.heap.size W V) => text_calls T m2.f0 V B2 d2 B5 d5 (v2.below hV) (hT.below hV) k2 (by rw [t2]; decide +kernel))
 have C3 := Aside0.mk (fun (V : World) (hV : Below W.heap.size W V) => text_calls T m3.f0 V D2 e2 D5 e5 (v3.below hV) (hT.below hV) k3 (by rw [t3]; decide +kernel))
 rw [t1] at C1
 rw [t2] at C2
 rw [t3] at C3
 clear t1 t2 t3 k1 k2 k3 hT v1 v2 v3 h4 h6 h12
 have X1 := Aside0.mk b1
 have X2 := Aside0.mk b2
 have X3 := Aside0.mk b3
 clear b1 b2 b3
 have x0 := blk_cell X1.out 0
 have x1 := blk_cell X1.out 1
 have x2 := blk_cell X1.out 2
 have x3 := blk_cell X1.out 3
 have x4 := blk_cell X1.out 4
 have x5 := blk_cell X1.out 5
 simp at x0 x1 x2 x3 x4 x5
 simp only [opsOf, Tryz.f13, Option.bind_some, opsIn, Option.getD_some, Option.orElse, reduceIte, Nat.reduceEqDiff, Option.or_some, Option.none_or, Option.some_or, beq_iff_eq, Nat.reduceBEq, Bool.false_eq_true]
 unfold fr13
 unfold aw1T at C1
 unfold aw2T at C2
 unfold aw3T at C3
 go_wp2_with (first
  | (go_at_call 39; refine (C1.out W (Below.refl _ _)).mono ?_; rintro e w1 ⟨rfl, hB⟩; have HB1 := Aside0.mk hB; clear hB; clear C1 x0 x1 x2 x3 x4 x5; have y0 := blk_cell (blk_below X2.out HB1.out) 0; have y1 := blk_cell (blk_below X2.out HB1.out) 1; have y2 := blk_cell (blk_below X2.out HB1.out) 2; have y3 := blk_cell (blk_below X2.out HB1.out) 3; have y4 := blk_cell (blk_below X2.out HB1.out) 4; have y5 := blk_cell (blk_below X2.out HB1.out) 5; simp at y0 y1 y2 y3 y4 y5)
  | (go_at_call 39; refine (C2.out w1 HB1.out).mono ?_; rintro e w2 ⟨rfl, hB⟩; have HB2 := Aside0.mk (below_step HB1.out hB); clear hB; clear C2 y0 y1 y2 y3 y4 y5; have y0 := blk_cell (blk_below X3.out HB2.out) 0; have y1 := blk_cell (blk_below X3.out HB2.out) 1; have y2 := blk_cell (blk_below X3.out HB2.out) 2; have y3 := blk_cell (blk_below X3.out HB2.out) 3; have y4 := blk_cell (blk_below X3.out HB2.out) 4; have y5 := blk_cell (blk_below X3.out HB2.out) 5; simp at y0 y1 y2 y3 y4 y5)
  | (go_at_call 39; refine (C3.out w2 HB2.out).mono ?_; rintro e w3 ⟨rfl, hB⟩; have HB3 := Aside0.mk (below_step HB2.out hB); clear hB))
 go_ret
 exact ⟨rfl, below_step hB0 HB3.out⟩
end Go.Proofs.YtcfjomnihhdpaaaGreatDoor.A
