/- What a call is handed: operations. -/
import Derived.Test.YtkblcdpmdbofgaaM0
import Derived.Test.YtkblcdpmdbofgaaM2
import Derived.Laws.Strings
import Derived.Test.YtkblcdpmdbofgaaRows
import Derived.Deep.Slices
import Derived.ChangeArms
import Derived.Test.YtkblcdpmdbofgaaM3
/- What single Go functions of the seat compute, as Lean functions, and that the Go code computes it: the sections of the kit's print for these functions, taken into a text of this session's own, the faulty places proved anew. -/
namespace Go.Proofs.Ytkblcdpmdbofgaa.A
open Go.RowKit Go.Proofs.YtkblcdpmdbofgaaW.PrintWords Go.Proofs.YtkblcdpmdbofgaaW.PrintLast Go.Proofs.YtkblcdpmdbofgaaW.PrintMore
attribute [local go_sem] max2_int min2_int max_two min_two max_three min_three max_four min_four   -- for this text's walks alone
set_option linter.unusedVariables false
set_option linter.unusedSimpArgs false

/-! ### pentaglotref54_SameStrings: function 47 -/
def pentaglotref54_SameStrings.l0 : Nat → List ByteArray → List ByteArray → Int → Option (Bool)
  | 0, _, _, _ => none
  | k + 1, x0, x1, x5 => if x5 < (x0.length : Int) then (if 0 ≤ x5 then (if x5 < (x1.length : Int) then (if (rdOf ByteArray.empty x0 x5).toList = (rdOf ByteArray.empty x1 x5).toList then (pentaglotref54_SameStrings.l0 k x0 x1 (wrap64 (x5 + 1))) else (some false)) else (none)) else (none)) else (some true)
def pentaglotref54_SameStrings.f (k : Nat) (l0 : List ByteArray) (l1 : List ByteArray) : Option (Bool) := if (l0.length : Int) = (l1.length : Int) then (pentaglotref54_SameStrings.l0 k l0 l1 0) else (some false)
theorem pentaglotref54_SameStrings.mono_l : ∀ k, (∀ y0 y1 y2, LeO (pentaglotref54_SameStrings.l0 k y0 y1 y2) (pentaglotref54_SameStrings.l0 (k + 1) y0 y1 y2))
  | 0 => fun _ _ _ r h => by simp [pentaglotref54_SameStrings.l0] at h
  | k + 1 => by
    have ih0 := pentaglotref54_SameStrings.mono_l k
    · intro y0 y1 y2
      unfold pentaglotref54_SameStrings.l0
      repeat' first
      | (with_reducible exact ih0 _ _ _)
      | (with_reducible exact LeO.refl _)
      | (with_reducible exact LeO.none _)
      | (with_reducible refine LeO.ite ?_ ?_)
      | (with_reducible refine LeO.bind ?_ (fun _ => ?_))
      | exact ih0 _ _ _
      | exact LeO.none _
      | refine LeO.ite ?_ ?_
      | refine LeO.bind ?_ (fun _ => ?_)
theorem pentaglotref54_SameStrings.mono : ∀ a0 a1 k, LeO (pentaglotref54_SameStrings.f k a0 a1) (pentaglotref54_SameStrings.f (k + 1) a0 a1) := by
  intro a0 a1 k
  have ih0 := pentaglotref54_SameStrings.mono_l k
  unfold pentaglotref54_SameStrings.f
  repeat' first
      | (with_reducible exact ih0 _ _ _)
      | (with_reducible exact LeO.refl _)
      | (with_reducible exact LeO.none _)
      | (with_reducible refine LeO.ite ?_ ?_)
      | (with_reducible refine LeO.bind ?_ (fun _ => ?_))
      | exact ih0 _ _ _
      | exact LeO.none _
      | refine LeO.ite ?_ ?_
      | refine LeO.bind ?_ (fun _ => ?_)
set_option maxHeartbeats 8000000 in
set_option maxRecDepth 100000 in
theorem pentaglotref54_SameStrings.calls (k : Nat) (A0 : Option Addr) (c0 : Nat) (l0 : List ByteArray) (A1 : Option Addr) (c1 : Nat) (l1 : List ByteArray) (r : Bool) (w : World) (hr0 : Kd.C Kd.string w A0 l0.length l0) (hc0 : l0.length ≤ c0) (hr1 : Kd.C Kd.string w A1 l1.length l1) (hc1 : l1.length ≤ c1) (h : pentaglotref54_SameStrings.f k l0 l1 = some r) :
    Calls Try.prog 47 #[.slice A0 l0.length c0, .slice A1 l1.length c1] w fun e w' => e = .returned (.bool r) ∧ Drawn0 w w' := by
  have HR0 := Aside0.mk hr0
  have HC0 := Aside0.mk hc0
  clear hr0 hc0
  have HR1 := Aside0.mk hr1
  have HC1 := Aside0.mk hc1
  clear hr1 hc1
  have H : (if (l0.length : Int) = (l1.length : Int) then (pentaglotref54_SameStrings.l0 k l0 l1 0) else (some false)) = some r := h
  clear h
  by_cases c3 : (l0.length : Int) = (l1.length : Int)
  · rw [if_pos c3] at H
    have c3b0 : ((l0.length : Int) == (l1.length : Int)) = true := beq_iff_eq.mpr c3
    have c3b1 : ((l0.length : Int) != (l1.length : Int)) = false := bne_eq_false_iff_eq.mpr c3
    have c3b2 : (l0.length == l1.length) = true := by first | simpa using c3 | (simp at c3 ⊢; omega)
    clear c3
    have H' := Aside0.mk H
    clear H
    go_enter Try.func47, Try.ntmps47
    go_wp2
    repeat (go_quiet (fail); try go_wp2)
    go_loopg [5] k (fun kq v5 w' => ∃ (x5_1 : Int), v5 = .int .i64 x5_1 ∧ Aside0 (pentaglotref54_SameStrings.l0 kq l0 l1 x5_1 = some r) ∧ Aside0 (kq ≤ k) ∧ Drawn0 w w')
    case atStart => exact ⟨(0), (by first | rfl | (simp; done) | (simp [*]; done)), H', ⟨Nat.le_refl _⟩, by repeat (first | exact Drawn0.refl _ | apply Drawn0.step)⟩
    case round =>
      clear H'
      try clear c1
      try clear p2
      try clear c3
      try clear c3b0
      try clear c3b1
      try clear c3b2
      obtain ⟨x5_1, rfl, HA, HK1, ⟨m1, rfl⟩⟩ := hrel
      cases gk with
      | zero => exact absurd HA.out (by simp [pentaglotref54_SameStrings.l0])
      | succ k1 =>
        have H := HA.out
        clear HA
        simp only [pentaglotref54_SameStrings.l0] at H
        by_cases c4 : x5_1 < (l0.length : Int)
        · rw [if_pos c4] at H
          have c4b0 : decide (x5_1 < (l0.length : Int)) = true := decide_eq_true c4
          clear c4
          by_cases c5 : 0 ≤ x5_1
          · rw [if_pos c5] at H
            have c5b0 : decide (0 ≤ x5_1) = true := decide_eq_true c5
            clear c5
            by_cases c6 : x5_1 < (l1.length : Int)
            · rw [if_pos c6] at H
              have c6b0 : decide (x5_1 < (l1.length : Int)) = true := decide_eq_true c6
              clear c6
              by_cases c7 : (rdOf ByteArray.empty l0 x5_1).toList = (rdOf ByteArray.empty l1 x5_1).toList
              · rw [if_pos c7] at H
                have c7b0 : ((rdOf ByteArray.empty l0 x5_1).toList == (rdOf ByteArray.empty l1 x5_1).toList) = true := beq_iff_eq.mpr c7
                have c7b1 : ((rdOf ByteArray.empty l0 x5_1).toList != (rdOf ByteArray.empty l1 x5_1).toList) = false := bne_eq_false_iff_eq.mpr c7
                clear c7
                have H' := Aside0.mk H
                clear H
                have p283 : 0 ≤ (x5_1 : Int) := of_decide_eq_true (by first | (with_reducible assumption) | assumption)
                have q283 : x5_1 < (l0.length : Int) := of_decide_eq_true (by first | (with_reducible assumption) | assumption)
                obtain ⟨ad283, e283, hx283_0⟩ := Kd.at_string HR0.out x5_1 p283 q283
                cases e283
                replace p283 := eq_true p283
                replace q283 := eq_true q283
                have p284 : 0 ≤ (x5_1 : Int) := of_decide_eq_true (by first | (with_reducible assumption) | assumption)
                have q284 : x5_1 < (l1.length : Int) := of_decide_eq_true (by first | (with_reducible assumption) | assumption)
                obtain ⟨ad284, e284, hx284_0⟩ := Kd.at_string HR1.out x5_1 p284 q284
                cases e284
                replace p284 := eq_true p284
                replace q284 := eq_true q284
                go_wp2
                repeat (go_quiet (fail); try go_wp2)
                go_roundg k1
                case measure => have := HK1.out; omega
                case rel => exact ⟨(wrap64 (x5_1 + 1)), (by first | rfl | (simp; done) | (simp [*]; done)), H', ⟨by have := HK1.out; omega⟩, by repeat (first | exact Drawn0.refl _ | apply Drawn0.step)⟩
              · rw [if_neg c7] at H
                have c7b0 : ((rdOf ByteArray.empty l0 x5_1).toList == (rdOf ByteArray.empty l1 x5_1).toList) = false := beq_eq_false_iff_ne.mpr c7
                have c7b1 : ((rdOf ByteArray.empty l0 x5_1).toList != (rdOf ByteArray.empty l1 x5_1).toList) = true := bne_iff_ne.mpr c7
                obtain rfl := Option.some.inj H
                have p283 : 0 ≤ (x5_1 : Int) := of_decide_eq_true (by first | (with_reducible assumption) | assumption)
                have q283 : x5_1 < (l0.length : Int) := of_decide_eq_true (by first | (with_reducible assumption) | assumption)
                obtain ⟨ad283, e283, hx283_0⟩ := Kd.at_string HR0.out x5_1 p283 q283
                cases e283
                replace p283 := eq_true p283
                replace q283 := eq_true q283
                have p284 : 0 ≤ (x5_1 : Int) := of_decide_eq_true (by first | (with_reducible assumption) | assumption)
                have q284 : x5_1 < (l1.length : Int) := of_decide_eq_true (by first | (with_reducible assumption) | assumption)
                obtain ⟨ad284, e284, hx284_0⟩ := Kd.at_string HR1.out x5_1 p284 q284
                cases e284
                replace p284 := eq_true p284
                replace q284 := eq_true q284
                go_wp2
                repeat (go_quiet (fail); try go_wp2)
                go_ret
                exact ⟨by first | rfl | (simp; done) | (simp [*]; done), by repeat (first | exact Drawn0.refl _ | apply Drawn0.step)⟩
            · rw [if_neg c6] at H
              exact absurd H (by simp)
          · rw [if_neg c5] at H
            exact absurd H (by simp)
        · rw [if_neg c4] at H
          have c4b0 : decide (x5_1 < (l0.length : Int)) = false := decide_eq_false c4
          clear c4
          obtain rfl := Option.some.inj H
          go_wp2
          repeat (go_quiet (fail); try go_wp2)
          go_ret
          exact ⟨by first | rfl | (simp; done) | (simp [*]; done), by repeat (first | exact Drawn0.refl _ | apply Drawn0.step)⟩
  · rw [if_neg c3] at H
    have c3b0 : ((l0.length : Int) == (l1.length : Int)) = false := beq_eq_false_iff_ne.mpr c3
    have c3b1 : ((l0.length : Int) != (l1.length : Int)) = true := bne_iff_ne.mpr c3
    have c3b2 : (l0.length == l1.length) = false := by first | simpa using c3 | (simp at c3 ⊢; omega)
    obtain rfl := Option.some.inj H
    go_enter Try.func47, Try.ntmps47
    go_wp2
    repeat (go_quiet (fail); try go_wp2)
    go_ret
    exact ⟨by first | rfl | (simp; done) | (simp [*]; done), by repeat (first | exact Drawn0.refl _ | apply Drawn0.step)⟩

/-! ### pentaglotref54_SameInts: function 26 -/
def pentaglotref54_SameInts.l0 : Nat → List Int → List Int → Int → Option (Bool)
  | 0, _, _, _ => none
  | k + 1, x0, x1, x5 => if x5 < (x0.length : Int) then (if 0 ≤ x5 then (if x5 < (x1.length : Int) then (if (rd x0 x5) = (rd x1 x5) then (pentaglotref54_SameInts.l0 k x0 x1 (wrap64 (x5 + 1))) else (some false)) else (none)) else (none)) else (some true)
def pentaglotref54_SameInts.f (k : Nat) (l0 : List Int) (l1 : List Int) : Option (Bool) := if (l0.length : Int) = (l1.length : Int) then (pentaglotref54_SameInts.l0 k l0 l1 0) else (some false)
theorem pentaglotref54_SameInts.mono_l : ∀ k, (∀ y0 y1 y2, LeO (pentaglotref54_SameInts.l0 k y0 y1 y2) (pentaglotref54_SameInts.l0 (k + 1) y0 y1 y2))
  | 0 => fun _ _ _ r h => by simp [pentaglotref54_SameInts.l0] at h
  | k + 1 => by
    have ih0 := pentaglotref54_SameInts.mono_l k
    · intro y0 y1 y2
      unfold pentaglotref54_SameInts.l0
      repeat' first
      | (with_reducible exact ih0 _ _ _)
      | (with_reducible exact LeO.refl _)
      | (with_reducible exact LeO.none _)
      | (with_reducible refine LeO.ite ?_ ?_)
      | (with_reducible refine LeO.bind ?_ (fun _ => ?_))
      | exact ih0 _ _ _
      | exact LeO.none _
      | refine LeO.ite ?_ ?_
      | refine LeO.bind ?_ (fun _ => ?_)
theorem pentaglotref54_SameInts.mono : ∀ a0 a1 k, LeO (pentaglotref54_SameInts.f k a0 a1) (pentaglotref54_SameInts.f (k + 1) a0 a1) := by
  intro a0 a1 k
  have ih0 := pentaglotref54_SameInts.mono_l k
  unfold pentaglotref54_SameInts.f
  repeat' first
      | (with_reducible exact ih0 _ _ _)
      | (with_reducible exact LeO.refl _)
      | (with_reducible exact LeO.none _)
      | (with_reducible refine LeO.ite ?_ ?_)
      | (with_reducible refine LeO.bind ?_ (fun _ => ?_))
      | exact ih0 _ _ _
      | exact LeO.none _
      | refine LeO.ite ?_ ?_
      | refine LeO.bind ?_ (fun _ => ?_)
set_option maxHeartbeats 8000000 in
set_option maxRecDepth 100000 in
theorem pentaglotref54_SameInts.calls (k : Nat) (A0 : Option Addr) (c0 : Nat) (l0 : List Int) (A1 : Option Addr) (c1 : Nat) (l1 : List Int) (r : Bool) (w : World) (hr0 : Kd.C (Kd.int .i64) w A0 l0.length l0) (hc0 : l0.length ≤ c0) (hr1 : Kd.C (Kd.int .i64) w A1 l1.length l1) (hc1 : l1.length ≤ c1) (h : pentaglotref54_SameInts.f k l0 l1 = some r) :
    Calls Try.prog 26 #[.slice A0 l0.length c0, .slice A1 l1.length c1] w fun e w' => e = .returned (.bool r) ∧ Drawn0 w w' := by
  have HR0 := Aside0.mk hr0
  have HC0 := Aside0.mk hc0
  clear hr0 hc0
  have HR1 := Aside0.mk hr1
  have HC1 := Aside0.mk hc1
  clear hr1 hc1
  have H : (if (l0.length : Int) = (l1.length : Int) then (pentaglotref54_SameInts.l0 k l0 l1 0) else (some false)) = some r := h
  clear h
  by_cases c3 : (l0.length : Int) = (l1.length : Int)
  · rw [if_pos c3] at H
    have c3b0 : ((l0.length : Int) == (l1.length : Int)) = true := beq_iff_eq.mpr c3
    have c3b1 : ((l0.length : Int) != (l1.length : Int)) = false := bne_eq_false_iff_eq.mpr c3
    have c3b2 : (l0.length == l1.length) = true := by first | simpa using c3 | (simp at c3 ⊢; omega)
    clear c3
    have H' := Aside0.mk H
    clear H
    go_enter Try.func26, Try.ntmps26
    go_wp2
    repeat (go_quiet (fail); try go_wp2)
    go_loopg [5] k (fun kq v5 w' => ∃ (x5_1 : Int), v5 = .int .i64 x5_1 ∧ Aside0 (pentaglotref54_SameInts.l0 kq l0 l1 x5_1 = some r) ∧ Aside0 (kq ≤ k) ∧ Drawn0 w w')
    case atStart => exact ⟨(0), (by first | rfl | (simp; done) | (simp [*]; done)), H', ⟨Nat.le_refl _⟩, by repeat (first | exact Drawn0.refl _ | apply Drawn0.step)⟩
    case round =>
      clear H'
      try clear c1
      try clear c2
      try clear p2
      try clear c3
      try clear c3b0
      try clear c3b1
      try clear c3b2
      obtain ⟨x5_1, rfl, HA, HK1, ⟨m1, rfl⟩⟩ := hrel
      cases gk with
      | zero => exact absurd HA.out (by simp [pentaglotref54_SameInts.l0])
      | succ k1 =>
        have H := HA.out
        clear HA
        simp only [pentaglotref54_SameInts.l0] at H
        by_cases c4 : x5_1 < (l0.length : Int)
        · rw [if_pos c4] at H
          have c4b0 : decide (x5_1 < (l0.length : Int)) = true := decide_eq_true c4
          clear c4
          by_cases c5 : 0 ≤ x5_1
          · rw [if_pos c5] at H
            have c5b0 : decide (0 ≤ x5_1) = true := decide_eq_true c5
            clear c5
            by_cases c6 : x5_1 < (l1.length : Int)
            · rw [if_pos c6] at H
              have c6b0 : decide (x5_1 < (l1.length : Int)) = true := decide_eq_true c6
              clear c6
              by_cases c7 : (rd l0 x5_1) = (rd l1 x5_1)
              · rw [if_pos c7] at H
                have c7b0 : ((rd l0 x5_1) == (rd l1 x5_1)) = true := beq_iff_eq.mpr c7
                have c7b1 : ((rd l0 x5_1) != (rd l1 x5_1)) = false := bne_eq_false_iff_eq.mpr c7
                clear c7
                have H' := Aside0.mk H
                clear H
                have p285 : 0 ≤ (x5_1 : Int) := of_decide_eq_true (by first | (with_reducible assumption) | assumption)
                have q285 : x5_1 < (l0.length : Int) := of_decide_eq_true (by first | (with_reducible assumption) | assumption)
                obtain ⟨ad285, e285, hx285_0⟩ := Kd.at_int HR0.out x5_1 p285 q285
                cases e285
                replace p285 := eq_true p285
                replace q285 := eq_true q285
                have p286 : 0 ≤ (x5_1 : Int) := of_decide_eq_true (by first | (with_reducible assumption) | assumption)
                have q286 : x5_1 < (l1.length : Int) := of_decide_eq_true (by first | (with_reducible assumption) | assumption)
                obtain ⟨ad286, e286, hx286_0⟩ := Kd.at_int HR1.out x5_1 p286 q286
                cases e286
                replace p286 := eq_true p286
                replace q286 := eq_true q286
                go_wp2
                repeat (go_quiet (fail); try go_wp2)
                go_roundg k1
                case measure => have := HK1.out; omega
                case rel => exact ⟨(wrap64 (x5_1 + 1)), (by first | rfl | (simp; done) | (simp [*]; done)), H', ⟨by have := HK1.out; omega⟩, by repeat (first | exact Drawn0.refl _ | apply Drawn0.step)⟩
              · rw [if_neg c7] at H
                have c7b0 : ((rd l0 x5_1) == (rd l1 x5_1)) = false := beq_eq_false_iff_ne.mpr c7
                have c7b1 : ((rd l0 x5_1) != (rd l1 x5_1)) = true := bne_iff_ne.mpr c7
                obtain rfl := Option.some.inj H
                have p285 : 0 ≤ (x5_1 : Int) := of_decide_eq_true (by first | (with_reducible assumption) | assumption)
                have q285 : x5_1 < (l0.length : Int) := of_decide_eq_true (by first | (with_reducible assumption) | assumption)
                obtain ⟨ad285, e285, hx285_0⟩ := Kd.at_int HR0.out x5_1 p285 q285
                cases e285
                replace p285 := eq_true p285
                replace q285 := eq_true q285
                have p286 : 0 ≤ (x5_1 : Int) := of_decide_eq_true (by first | (with_reducible assumption) | assumption)
                have q286 : x5_1 < (l1.length : Int) := of_decide_eq_true (by first | (with_reducible assumption) | assumption)
                obtain ⟨ad286, e286, hx286_0⟩ := Kd.at_int HR1.out x5_1 p286 q286
                cases e286
                replace p286 := eq_true p286
                replace q286 := eq_true q286
                go_wp2
                repeat (go_quiet (fail); try go_wp2)
                go_ret
                exact ⟨by first | rfl | (simp; done) | (simp [*]; done), by repeat (first | exact Drawn0.refl _ | apply Drawn0.step)⟩
            · rw [if_neg c6] at H
              exact absurd H (by simp)
          · rw [if_neg c5] at H
            exact absurd H (by simp)
        · rw [if_neg c4] at H
          have c4b0 : decide (x5_1 < (l0.length : Int)) = false := decide_eq_false c4
          clear c4
          obtain rfl := Option.some.inj H
          go_wp2
          repeat (go_quiet (fail); try go_wp2)
          go_ret
          exact ⟨by first | rfl | (simp; done) | (simp [*]; done), by repeat (first | exact Drawn0.refl _ | apply Drawn0.step)⟩
  · rw [if_neg c3] at H
    have c3b0 : ((l0.length : Int) == (l1.length : Int)) = false := beq_eq_false_iff_ne.mpr c3
    have c3b1 : ((l0.length : Int) != (l1.length : Int)) = true := bne_iff_ne.mpr c3
    have c3b2 : (l0.length == l1.length) = false := by first | simpa using c3 | (simp at c3 ⊢; omega)
    obtain rfl := Option.some.inj H
    go_enter Try.func26, Try.ntmps26
    go_wp2
    repeat (go_quiet (fail); try go_wp2)
    go_ret
    exact ⟨by first | rfl | (simp; done) | (simp [*]; done), by repeat (first | exact Drawn0.refl _ | apply Drawn0.step)⟩

end Go.Proofs.Ytkblcdpmdbofgaa.A
/- (*Desk).Drafts. -/
namespace Go.Proofs.Ytkblcdpmdbofgaa.A
open Go.RowKit Go.Proofs.YtkblcdpmdbofgaaW.PrintWords Go.Proofs.YtkblcdpmdbofgaaW.PrintLast Go.Proofs.YtkblcdpmdbofgaaW.PrintMore
set_option linter.unusedVariables false
set_option linter.unusedSimpArgs false

theorem Dk.get_at (D : Dk) (x : Int) (h1 : 1 ≤ x) (h2 : x ≤ D.drafts.length) : ∃ d, D.get x = some d ∧ D.drafts[(x - 1).toNat]? = some d := by
  have hlt : (x - 1).toNat < D.drafts.length := by omega
  refine ⟨D.drafts[(x - 1).toNat], ?_, List.getElem?_eq_getElem hlt⟩
  unfold Dk.get
  rw [if_pos h1, List.getElem?_eq_getElem hlt]
theorem Dk.opensTo_at (D : Dk) (x : Int) (h1 : 1 ≤ x) {d : Dr} (hd : D.drafts[(x - 1).toNat]? = some d) : D.opensTo (x + 1 - 1).toNat = D.opensTo (x - 1).toNat ++ (if d.closed then [] else [x]) := by
  have e : (x + 1 - 1).toNat = (x - 1).toNat + 1 := by omega
  rw [e, Dk.opensTo_succ, hd]
  have e2 : (((x - 1).toNat : Nat) : Int) + 1 = x := by omega
  simp only [e2]

set_option maxHeartbeats 1000000 in
set_option maxRecDepth 100000 in
theorem drafts_calls (w : World) (tag : Nat → Nat) (dp mb : Nat) (sb : List Nat) (D : Dk) (h : DeskAt w tag dp mb sb D) :
    Calls Try.prog 13 #[.pointer (some ⟨dp, 0, none⟩)] w fun e w' => ∃ v, e = .returned v ∧ (Kd.int .i64).R 3 w' w.heap.size (New w) v (D.opensTo D.drafts.length) ∧ Below w.heap.size w w' := by
  have H := Aside0.mk (fun (W : World) (hW : Below w.heap.size w W) => h.below hW)
  have hsl := h.len
  have hf := h.few
  have HB := Aside0.mk (Below.refl w.heap.size w)
  obtain ⟨Ae, ce, hbk, _, _⟩ := h.desk
  have HD := Aside0.mk hbk
  clear h hbk
  go_enter Try.func13, Try.ntmps13
  go_wp2
  go_loopw [3, 4] (fun v i w' => ∃ x : Int, i = .int .i64 x ∧ 1 ≤ x ∧ x ≤ D.drafts.length + 1 ∧ Aside0 ((Kd.int .i64).R 3 w' w.heap.size (New w) v (D.opensTo (x - 1).toNat)) ∧ Aside0 (Below w.heap.size w w')) (fun _ i _ => D.drafts.length + 1 - (intOf i).toNat)
  case atStart => exact ⟨1, rfl, Int.le_refl _, by omega, ⟨Kd.R_nil _ _ _ _ _⟩, HB⟩
  case round =>
    clear HB
    obtain ⟨x, rfl, hx, hk, HV, HB⟩ := hrel
    have c2 := blk_cell (blk_below HD.out HB.out) 2
    simp at c2
    have hn := (H.out _ HB.out).map.len 3
    rw [hsl] at hn
    by_cases hlt : x ≤ D.drafts.length
    · obtain ⟨d, hg, hd⟩ := D.get_at x hx hlt
      obtain ⟨i, g, hxi, hs, hd', hp⟩ := ptrOf_some hsl hg
      obtain ⟨At, ct, Ae', ce', Ap, cp, hbd⟩ := ((H.out _ HB.out).drafts i g d hs hd').cells
      have d4 := blk_cell hbd 4
      simp at d4
      have hl := (H.out _ HB.out).map.look x (wf_i64 (by omega) (by omega))
      rw [hp] at hl
      have HO := Aside0.mk (D.opensTo_at x hx hd)
      have q1 : decide (x ≤ (D.drafts.length : Int)) = true := decide_eq_true hlt
      have HL : Aside0 (((D.opensTo (x - 1).toNat).length + 1) * 8 ≤ 140737488355328) := ⟨by have := D.opensTo_len (x - 1).toNat; omega⟩
      have b1 : x ≤ 256 := by omega
      clear hg hs hd' hp hbd hd hxi
      cases hcl : d.closed with
      | true =>
        rw [hcl] at d4 HO
        go_wp2
        go_roundw
        case rel => exact ⟨x + 1, rfl, by omega, by omega, ⟨by rw [HO.out]; simpa using HV.out⟩, HB⟩
        case measure => simp [intOf]; omega
      | false =>
        rw [hcl] at d4 HO
        go_wp2_with (at_builtin; refine Kd.R_append (Kd.int .i64) (w0 := w) w.heap.size rfl _ _ 29 3 (.int .i64 0) 8 rfl Try.underlying29 info3 rfl (by decide) (by decide) u3 (D.opensTo (x - 1).toNat) x [.int .i64 x] (New w) (fun _ => False) rfl rfl (rfl) (fun _ hk => hk.elim) (fun _ hk => Nat.le_trans HB.out.size hk) HV.out HB.out HB.out.size HL.out ?_; intro v3 w3 hN hB hg _; have HN := Aside0.mk hN; have HB3 := Aside0.mk hB; clear hN hB hg)
        go_roundw
        case rel => exact ⟨x + 1, rfl, by omega, by omega, ⟨by rw [HO.out]; simpa using HN.out⟩, HB3⟩
        case measure => simp [intOf]; omega
    · have q1 : decide (x ≤ (D.drafts.length : Int)) = false := decide_eq_false hlt
      go_wp2
      go_ret
      refine ⟨_, rfl, ?_, HB.out⟩
      have := HV.out
      rwa [show (x - 1).toNat = D.drafts.length by omega] at this
end Go.Proofs.Ytkblcdpmdbofgaa.A
/- (*Desk).History. -/
namespace Go.Proofs.Ytkblcdpmdbofgaa.A
open Go.RowKit Go.Proofs.YtkblcdpmdbofgaaW.PrintWords Go.Proofs.YtkblcdpmdbofgaaW.PrintLast Go.Proofs.YtkblcdpmdbofgaaW.PrintMore
set_option linter.unusedVariables false
set_option linter.unusedSimpArgs false

def Dk.hist (D : Dk) (id : Int) : List (List S68) := match D.get id with
  | none => []
  | some d => d.earlier ++ [d.trees]
def Dk.has (D : Dk) (id : Int) : Int := match D.get id with
  | none => 4
  | some _ => 0
theorem take_rdL (l : List (List S68)) (x : Int) (h0 : 0 ≤ x) (h1 : x < l.length) : l.take (x + 1).toNat = l.take x.toNat ++ [rd_L4 l x] := by
  have e : (x + 1).toNat = x.toNat + 1 := by omega
  rw [e, List.take_succ_eq_append_getElem (by omega)]
  unfold rd_L4
  rw [List.getD_eq_getElem?_getD, List.getElem?_eq_getElem (by omega)]
  rfl
theorem rdL_mem (l : List (List S68)) (x : Int) (h0 : 0 ≤ x) (h1 : x < l.length) : rd_L4 l x ∈ l := by
  unfold rd_L4
  rw [List.getD_eq_getElem?_getD, List.getElem?_eq_getElem (by omega)]
  exact List.getElem_mem _
theorem cloned (ts : List S68) (A : Option Addr) (c : Nat) (w : World) (hb : bulkL ts ≤ 2000000) (hr : k68.C w A ts.length ts) (hc : ts.length ≤ c) :
    Calls Try.prog 38 #[.slice A ts.length c] w fun e w' => ∃ v, e = .returned v ∧ k68.R 68 w' w.heap.size (New w) v ts ∧ Below w.heap.size w w' :=
  cloneAll_calls ts A c w (Nat.le_trans (length_bulk ts) hb) (fun x hx => Nat.le_trans (mem_bulk hx) hb) hr hc
/-- A cloned list is apart from the row that it is appended to. -/
theorem hist_apart {w W w1 : World} {v0 : Value} {xs : List (List S68)} (o : Obj) (h0 : (Kd.slice 68 k68).R 33 W w.heap.size (New w) v0 xs) (hB : Below w.heap.size w W) (hB1 : Below W.heap.size W w1) : ∀ k, New W k → New w k ∧ some k ≠ v0.ownBlock := fun k hk => by
  refine ⟨Nat.le_trans hB.size hk, fun he => ?_⟩
  have := Kd.R_lt h0 k he.symm
  unfold New at hk
  omega

set_option maxHeartbeats 1000000 in
set_option maxRecDepth 100000 in
theorem history_some (w : World) (tag : Nat → Nat) (dp mb : Nat) (sb : List Nat) (D : Dk) (h : DeskAt w tag dp mb sb D) (hok : D.ok) (i g : Nat) (d : Dr) (hid : (Lit.int .i64 ((i : Int) + 1)).wf = true) (hs : sb[i]? = some g) (hd : D.drafts[i]? = some d) (hp : ptrOf sb ((i : Int) + 1) = some ⟨g, 0, none⟩) :
    Calls Try.prog 19 #[.pointer (some ⟨dp, 0, none⟩), .int .i64 ((i : Int) + 1)] w fun e w' => ∃ v, e = .returned (.tuple #[v, .int .i64 0]) ∧ (Kd.slice 68 k68).R 33 w' w.heap.size (New w) v (d.earlier ++ [d.trees]) ∧ Below w.heap.size w w' := by
  have hl := h.map.look ((i : Int) + 1) hid
  rw [hp] at hl
  obtain ⟨At, ct, Ae, ce, Ap, cp, hP⟩ := (h.drafts i g d hs hd).pre
  obtain ⟨Ad, cd, hbk, _, _⟩ := h.desk
  have c2 := blk_cell hbk 2
  have d2 := blk_cell hP.blk 2
  simp at c2 d2
  have HG := Aside0.mk hP.blk
  have HE := Aside0.mk hP.E.reads'.2.2
  have ho := hok.get hd
  have hlen : d.earlier.length ≤ 255 := ho.1
  have C1 := Aside0.mk (fun (W : World) (hW : Below w.heap.size w W) => cloned d.trees At ct W ho.2.2.1 (Kd.C_below (Kd.F_now hP.trees) hW) hP.ct)
  have HO := Aside0.mk ho.2.2.2
  have HB := Aside0.mk (Below.refl w.heap.size w)
  clear h hok hid hs hd hp hP hbk ho
  go_enter Try.func19, Try.ntmps19
  go_wp2
  go_loopw [7, 23] (fun v i w' => ∃ x : Int, i = .int .i64 x ∧ 0 ≤ x ∧ x ≤ d.earlier.length ∧ Aside0 ((Kd.slice 68 k68).R 33 w' w.heap.size (New w) v (d.earlier.take x.toNat)) ∧ Aside0 (Below w.heap.size w w')) (fun _ i _ => d.earlier.length - (intOf i).toNat)
  case atStart => exact ⟨0, rfl, Int.le_refl _, Int.natCast_nonneg _, ⟨Kd.R_nil _ _ _ _ _⟩, HB⟩
  case round =>
    clear HB
    obtain ⟨x, rfl, hx, hk, HV, HB⟩ := hrel
    by_cases hlt : x < d.earlier.length
    · obtain ⟨ad, A0, c0, e, hx0, hl0, hi0⟩ := at_L4 HE.out x hx hlt
      cases e
      have C2 := Aside0.mk (fun (W : World) (hW : Below w.heap.size w W) => cloned (rd_L4 d.earlier x) A0 c0 W (HO.out _ (rdL_mem _ x hx hlt)) (Kd.C_below hi0 hW) hl0)
      clear hi0 hl0
      replace hx0 := (HB.out.cell (World.block_lt_of_cell? w _ hx0)).trans hx0
      have p1 := eq_true hx
      have q1 := eq_true hlt
      have HL : Aside0 (((d.earlier.take x.toNat).length + 1) * 24 ≤ 140737488355328) := ⟨by rw [List.length_take]; omega⟩
      go_wp2_with (first | (go_at_call 38; refine (C2.out _ HB.out).mono ?_; rintro e w1 ⟨v, rfl, hR, hB⟩; obtain ⟨A3, c3, rfl⟩ := Kd.R_slice hR; have HA := Aside0.mk (hist_apart (.map #[] 0) HV.out HB.out hB); have HM := Aside0.mk (Kd.M_row (Kd.R_lower hR HB.out.size)); have HV1 := Aside0.mk (Kd.R_below HV.out hB); have HB1 := Aside0.mk (below_step HB.out hB); clear hR hB) | (at_builtin; refine Kd.R_append (Kd.slice 68 k68) (w0 := w) w.heap.size rfl _ _ 43 33 (.slice none 0 0) 24 rfl Try.underlying43 info33 rfl (by decide) (by decide) u7 (d.earlier.take x.toNat) (rd_L4 d.earlier x) [.slice A3 (rd_L4 d.earlier x).length c3] (New w) _ rfl rfl HM.out HA.out (fun _ hk => Nat.le_trans HB1.out.size hk) HV1.out HB1.out HB1.out.size HL.out ?_; intro v3 w3 hN hB hg _; have HN := Aside0.mk hN; have HB3 := Aside0.mk hB; clear hN hB hg))
      go_roundw
      case rel => exact ⟨x + 1, rfl, by omega, by omega, ⟨by rw [take_rdL _ x hx hlt]; exact HN.out⟩, HB3⟩
      case measure => simp [intOf]; omega
    · have HV0 : Aside0 ((Kd.slice 68 k68).R 33 wr w.heap.size (New w) u7 d.earlier) := ⟨by
        have := HV.out
        rwa [List.take_of_length_le (by omega)] at this⟩
      have d1 := blk_cell (blk_below HG.out HB.out) 1
      simp at d1
      have HL : Aside0 ((d.earlier.length + 1) * 24 ≤ 140737488355328) := ⟨by omega⟩
      go_wp2_with (first | (go_at_call 38; refine (C1.out _ HB.out).mono ?_; rintro e w1 ⟨v, rfl, hR, hB⟩; obtain ⟨A3, c3, rfl⟩ := Kd.R_slice hR; have HA := Aside0.mk (hist_apart (.map #[] 0) HV0.out HB.out hB); have HM := Aside0.mk (Kd.M_row (Kd.R_lower hR HB.out.size)); have HV1 := Aside0.mk (Kd.R_below HV0.out hB); have HB1 := Aside0.mk (below_step HB.out hB); clear hR hB) | (at_builtin; refine Kd.R_append (Kd.slice 68 k68) (w0 := w) w.heap.size rfl _ _ 43 33 (.slice none 0 0) 24 rfl Try.underlying43 info33 rfl (by decide) (by decide) u7 d.earlier d.trees [.slice A3 d.trees.length c3] (New w) _ rfl rfl HM.out HA.out (fun _ hk => Nat.le_trans HB1.out.size hk) HV1.out HB1.out HB1.out.size HL.out ?_; intro v3 w3 hN hB hg _; have HN := Aside0.mk hN; have HB3 := Aside0.mk hB; clear hN hB hg))
      go_ret2
      exact ⟨_, rfl, HN.out, HB3.out⟩

set_option maxHeartbeats 1000000 in
set_option maxRecDepth 100000 in
theorem history_none (w : World) (tag : Nat → Nat) (dp mb : Nat) (sb : List Nat) (D : Dk) (h : DeskAt w tag dp mb sb D) (id : Int) (hid : (Lit.int .i64 id).wf = true) (hn : D.get id = none) :
    Calls Try.prog 19 #[.pointer (some ⟨dp, 0, none⟩), .int .i64 id] w fun e w' => e = .returned (.tuple #[.slice none 0 0, .int .i64 4]) ∧ w = w' := by
  obtain ⟨Ae, ce, hb, _, _⟩ := h.desk
  have c2 := blk_cell hb 2
  simp at c2
  have hl := h.map.look id hid
  rw [ptrOf_none h.len hn] at hl
  clear hb h hn hid
  go_enter Try.func19, Try.ntmps19
  go_wp2
  go_ret2
  exact ⟨rfl, rfl⟩

theorem history_calls (w : World) (tag : Nat → Nat) (dp mb : Nat) (sb : List Nat) (D : Dk) (h : DeskAt w tag dp mb sb D) (hok : D.ok) (id : Int) (hid : (Lit.int .i64 id).wf = true) :
    Calls Try.prog 19 #[.pointer (some ⟨dp, 0, none⟩), .int .i64 id] w fun e w' => ∃ v, e = .returned (.tuple #[v, .int .i64 (D.has id)]) ∧ (Kd.slice 68 k68).R 33 w' w.heap.size (New w) v (D.hist id) ∧ Below w.heap.size w w' := by
  unfold Dk.has Dk.hist
  cases hg : D.get id with
  | none =>
    refine (history_none w tag dp mb sb D h id hid hg).mono ?_
    rintro e w' ⟨rfl, rfl⟩
    exact ⟨_, rfl, Kd.R_nil _ _ _ _ _, Below.refl _ _⟩
  | some d =>
    obtain ⟨i, g, rfl, hs, hd, hp⟩ := ptrOf_some h.len hg
    exact history_some w tag dp mb sb D h hok i g d hid hs hd hp
end Go.Proofs.Ytkblcdpmdbofgaa.A
/- A desk seen from outside: the blocks that are not the desk's stay. -/
namespace Go.Proofs.Ytkblcdpmdbofgaa.A
open Go.RowKit Go.Proofs.YtkblcdpmdbofgaaW.PrintWords Go.Proofs.YtkblcdpmdbofgaaW.PrintLast Go.Proofs.YtkblcdpmdbofgaaW.PrintMore
set_option linter.unusedVariables false
set_option linter.unusedSimpArgs false

/-- The lists of a desk are not too long: n bounds the approvals of a draft. -/
def Dr.good (n : Nat) (d : Dr) : Prop := d.earlier.length ≤ 255 ∧ d.approvals.length ≤ n ∧ bulkL d.trees ≤ 2000000 ∧ ∀ l ∈ d.earlier, bulkL l ≤ 2000000
def Dk.good (D : Dk) (n : Nat) : Prop := D.eds.length ≤ 1000000 ∧ ∀ d ∈ D.drafts, d.good n
theorem Dr.good.mono {d : Dr} {n m : Nat} (h : d.good n) (hn : n ≤ m) : d.good m := ⟨h.1, Nat.le_trans h.2.1 hn, h.2.2⟩
theorem Dk.good.mono {D : Dk} {n m : Nat} (h : D.good n) (hn : n ≤ m) : D.good m := ⟨h.1, fun d hd => (h.2 d hd).mono hn⟩
theorem Dk.good.ok {D : Dk} {n : Nat} (h : D.good n) (hn : n ≤ 90000) : D.ok := ⟨h.1, fun d hd => have := h.2 d hd; ⟨this.1, by have := this.2.1; omega, this.2.2.1, this.2.2.2⟩⟩
theorem Dk.good.low {D : Dk} {n : Nat} (h : D.good n) (hn : n ≤ 90000) : D.low := fun d hd => by have := (h.2 d hd).2.1; omega
theorem Dk.good.put {D : Dk} {n : Nat} (h : D.good n) (i : Nat) {d : Dr} (hd : d.good n) : (D.put i d).good n := by
  refine ⟨h.1, fun x hx => ?_⟩
  unfold Dk.put at hx
  rcases List.mem_or_eq_of_mem_set hx with hx | rfl
  · exact h.2 x hx
  · exact hd
theorem Dk.get_mem {D : Dk} {id : Int} {d : Dr} (h : D.get id = some d) : d ∈ D.drafts := by
  unfold Dk.get at h
  split at h
  · exact List.mem_of_getElem? h
  · cases h
theorem Dk.good.opens {D : Dk} {n : Nat} (h : D.good n) (ed : ByteArray) (ts : List S68) (hb : bulkL ts ≤ 2000000) : (D.opens ed ts).2.2.good n := by
  unfold Dk.opens
  split
  · exact h
  · split
    · exact h
    · refine ⟨h.1, fun x hx => ?_⟩
      unfold Dk.add at hx
      rcases List.mem_append.1 hx with hx | hx
      · exact h.2 x hx
      · rw [List.mem_singleton.1 hx]
        exact ⟨Nat.zero_le _, Nat.zero_le _, hb, fun l hl => by simp at hl⟩
theorem Dk.good.amend {D : Dk} {n : Nat} (h : D.good n) (ed : ByteArray) (id num : Int) (ts : List S68) (hb : bulkL ts ≤ 2000000) : (D.amend ed id num ts).2.2.good n := by
  unfold Dk.amend
  split
  · exact h
  · split
    · exact h
    · next hq =>
      split
      · exact h
      · next h2 =>
        obtain ⟨d, hg, _, he⟩ := Dk.cur_zero (Decidable.of_not_not hq)
        rw [hg]
        have hd := h.2 d (Dk.get_mem hg)
        refine h.put _ ⟨?_, Nat.zero_le _, hb, fun l hl => ?_⟩
        · have := hd.1
          simp only [List.length_append, List.length_cons, List.length_nil]
          omega
        · rcases List.mem_append.1 hl with hl | hl
          · exact hd.2.2.2 l hl
          · rw [List.mem_singleton.1 hl]; exact hd.2.2.1
theorem Dk.good.approve {D : Dk} {n : Nat} (h : D.good n) (ed : ByteArray) (id num : Int) : (D.approve ed id num).2.good (n + 1) := by
  have h1 := h.mono (Nat.le_succ n)
  unfold Dk.approve
  split
  · exact h1
  · split
    · exact h1
    · cases hg : D.get id with
      | none => exact h1
      | some d =>
        simp only
        split
        · exact h1
        · split
          · exact h1
          · have hd := h.2 d (Dk.get_mem hg)
            exact h1.put _ ⟨hd.1, by simp only [List.length_append, List.length_cons, List.length_nil]; have := hd.2.1; omega, hd.2.2⟩
theorem Dk.good.close {D : Dk} {n : Nat} (h : D.good n) (id : Int) : (D.close id).2.good n := by
  unfold Dk.close
  cases hg : D.get id with
  | none => exact h
  | some d =>
    simp only
    split
    · exact h
    · exact h.put _ (h.2 d (Dk.get_mem hg))

/-- The desk D lies at dp and mb; no block of 'free' is its own. -/
def At (w : World) (free : Nat → Prop) (dp mb : Nat) (D : Dk) (n : Nat) : Prop := D.good n ∧ ∃ tag sb, DeskAt w tag dp mb sb D ∧ ∀ k, free k → k < w.heap.size → tag k = 0
theorem At.mono {w : World} {free free' : Nat → Prop} {dp mb : Nat} {D : Dk} {n m : Nat} (h : At w free dp mb D n) (hf : ∀ k, free' k → free k) (hn : n ≤ m) : At w free' dp mb D m := by
  obtain ⟨hg, tag, sb, hD, ht⟩ := h
  exact ⟨hg.mono hn, tag, sb, hD, fun k hk hl => ht k (hf k hk) hl⟩
theorem At.grow {w w1 : World} {free : Nat → Prop} {dp mb : Nat} {D : Dk} {n : Nat} (h : At w free dp mb D n) (hB : Below w.heap.size w w1) : At w1 (fun k => free k ∨ w.heap.size ≤ k) dp mb D n := by
  obtain ⟨hg, tag, sb, hD, ht⟩ := h
  refine ⟨hg, newTag w tag 0, sb, hD.step (fun k hk _ => hB.block k hk) (fun k hk => newTag_old hk), fun k hk hl => ?_⟩
  by_cases hlt : k < w.heap.size
  · rw [newTag_old hlt]; exact ht k (hk.elim id (fun h => by omega)) hlt
  · exact newTag_new (by omega)
theorem At.keep {w w1 : World} {free : Nat → Prop} {dp mb : Nat} {D : Dk} {n : Nat} (h : At w free dp mb D n) (hK : Kp w w1 free) : At w1 (fun k => free k ∨ w.heap.size ≤ k) dp mb D n := by
  obtain ⟨hg, tag, sb, hD, ht⟩ := h
  refine ⟨hg, newTag w tag 0, sb, hD.step (fun k hk h0 => hK.block k hk (fun hf => h0 (ht k hf hk))) (fun k hk => newTag_old hk), fun k hk hl => ?_⟩
  by_cases hlt : k < w.heap.size
  · rw [newTag_old hlt]; exact ht k (hk.elim id (fun h => by omega)) hlt
  · exact newTag_new (by omega)
/-- What an operation does, seen from outside. -/
def Op1 (w : World) (free : Nat → Prop) (dp mb : Nat) (v : Value) (D1 : Dk) (n : Nat) (e : Ending) (w' : World) : Prop := e = .returned v ∧ At w' (fun k => free k ∧ k < w.heap.size) dp mb D1 n ∧ Kp w w' (fun k => ¬ free k)
theorem Does.op {w : World} {tag : Nat → Nat} {dp mb : Nat} {v : Value} {D1 : Dk} {e : Ending} {w' : World} {free : Nat → Prop} {n : Nat} (h : Does w tag dp mb v D1 e w') (ht : ∀ k, free k → k < w.heap.size → tag k = 0) (hg : D1.good n) : Op1 w free dp mb v D1 n e w' := by
  obtain ⟨h1, tag', sb', h2, h3, h4⟩ := h
  exact ⟨h1, ⟨hg, tag', sb', h3, fun k hk _ => (h2 k hk.2).trans (ht k hk.1 hk.2)⟩, h4.drop (fun k hl hk hf => by rw [ht k hf hl] at hk; omega)⟩

section
variable {w : World} {free : Nat → Prop} {dp mb : Nat} {D : Dk} {n : Nat}
theorem At.open_ (h : At w free dp mb D n) (hn : n ≤ 90000) (ed : ByteArray) (ts : List S68) (A : Option Addr) (c : Nat) (hb : bulkL ts ≤ 2000000) (hr : k68.C w A ts.length ts) (hc : ts.length ≤ c) :
    Calls Try.prog 31 #[.pointer (some ⟨dp, 0, none⟩), .string ed, .slice A ts.length c] w (Op1 w free dp mb (two (D.opens ed ts).1 (D.opens ed ts).2.1) (D.opens ed ts).2.2 n) := by
  obtain ⟨hg, tag, sb, hD, ht⟩ := h
  exact (open_calls w tag dp mb sb D hD (hg.ok hn) ed ts A c hb hr hc).mono (fun e w' hd => hd.op ht (hg.opens ed ts hb))
theorem At.amend (h : At w free dp mb D n) (hn : n ≤ 90000) (ed : ByteArray) (id num : Int) (ts : List S68) (A : Option Addr) (c : Nat) (hid : (Lit.int .i64 id).wf = true) (hb : bulkL ts ≤ 2000000) (hr : k68.F w free A ts.length ts) (hc : ts.length ≤ c) :
    Calls Try.prog 20 #[.pointer (some ⟨dp, 0, none⟩), .string ed, .int .i64 id, .int .i64 num, .slice A ts.length c] w (Op1 w free dp mb (two (D.amend ed id num ts).1 (D.amend ed id num ts).2.1) (D.amend ed id num ts).2.2 n) := by
  obtain ⟨hg, tag, sb, hD, ht⟩ := h
  exact (amend_calls w tag dp mb sb D hD (hg.ok hn) ed id num ts A c hb (Kd.F_mono (Kd.F_bound hr) (fun k hk => by rw [ht k hk.1 hk.2]; omega)) hc hid).mono (fun e w' hd => hd.does.op ht (hg.amend ed id num ts hb))
theorem At.approve (h : At w free dp mb D n) (hn : n ≤ 90000) (ed : ByteArray) (id num : Int) (hid : (Lit.int .i64 id).wf = true) :
    Calls Try.prog 30 #[.pointer (some ⟨dp, 0, none⟩), .string ed, .int .i64 id, .int .i64 num] w (Op1 w free dp mb (.int .i64 (D.approve ed id num).1) (D.approve ed id num).2 (n + 1)) := by
  obtain ⟨hg, tag, sb, hD, ht⟩ := h
  exact (approve_calls w tag dp mb sb D hD (hg.ok hn) (hg.low hn) ed id num hid).mono (fun e w' hd => hd.does.op ht (hg.approve ed id num))
theorem At.close (h : At w free dp mb D n) (id : Int) (hid : (Lit.int .i64 id).wf = true) :
    Calls Try.prog 29 #[.pointer (some ⟨dp, 0, none⟩), .int .i64 id] w (Op1 w free dp mb (.int .i64 (D.close id).1) (D.close id).2 n) := by
  obtain ⟨hg, tag, sb, hD, ht⟩ := h
  exact (close_calls w tag dp mb sb D hD id hid).mono (fun e w' hd => hd.does.op ht (hg.close id))
theorem At.ready (h : At w free dp mb D n) (hn : n ≤ 90000) (id num : Int) (hid : (Lit.int .i64 id).wf = true) :
    Calls Try.prog 17 #[.pointer (some ⟨dp, 0, none⟩), .int .i64 id, .int .i64 num] w fun e w' => e = .returned (.int .i64 (D.ready id num)) ∧ Drawn0 w w' := by
  obtain ⟨hg, tag, sb, hD, ht⟩ := h
  exact ready_calls w tag dp mb sb D hD (hg.ok hn) id num hid
theorem At.history (h : At w free dp mb D n) (hn : n ≤ 90000) (id : Int) (hid : (Lit.int .i64 id).wf = true) :
    Calls Try.prog 19 #[.pointer (some ⟨dp, 0, none⟩), .int .i64 id] w fun e w' => ∃ v, e = .returned (.tuple #[v, .int .i64 (D.has id)]) ∧ (Kd.slice 68 k68).R 33 w' w.heap.size (New w) v (D.hist id) ∧ Below w.heap.size w w' := by
  obtain ⟨hg, tag, sb, hD, ht⟩ := h
  exact history_calls w tag dp mb sb D hD (hg.ok hn) id hid
theorem At.drafts (h : At w free dp mb D n) :
    Calls Try.prog 13 #[.pointer (some ⟨dp, 0, none⟩)] w fun e w' => ∃ v, e = .returned v ∧ (Kd.int .i64).R 3 w' w.heap.size (New w) v (D.opensTo D.drafts.length) ∧ Below w.heap.size w w' := by
  obtain ⟨hg, tag, sb, hD, ht⟩ := h
  exact drafts_calls w tag dp mb sb D hD
end
end Go.Proofs.Ytkblcdpmdbofgaa.A
/- The chapter's example: its results. -/
namespace Go.Proofs.Ytkblcdpmdbofgaa.A
open Go.RowKit Go.Proofs.YtkblcdpmdbofgaaW.PrintWords Go.Proofs.YtkblcdpmdbofgaaW.PrintLast Go.Proofs.YtkblcdpmdbofgaaW.PrintMore
set_option linter.unusedVariables false
set_option linter.unusedSimpArgs false

def ann : ByteArray := ⟨#[97, 110, 110]⟩
def bob : ByteArray := ⟨#[98, 111, 98]⟩
def eve : ByteArray := ⟨#[101, 118, 101]⟩
def waitS : ByteArray := ⟨#[119, 97, 105, 116]⟩
def sleepS : ByteArray := ⟨#[115, 108, 101, 101, 112]⟩
def sent (a0 : ByteArray) : List S68 := [⟨⟨#[65, 115, 115, 101, 114, 116]⟩, [], [⟨⟨#[78, 97, 109, 101]⟩, [], [⟨⟨#[109, 97, 114, 116, 97]⟩, [], []⟩]⟩, ⟨⟨#[65, 99, 116]⟩, [], [⟨a0, [], []⟩]⟩]⟩]
theorem sent_f (a0 : ByteArray) : pentaglotlaw54_sentence.f a0 = some (sent a0) := rfl
def eds3 : List ByteArray := [ann, bob, eve]
def E0 : Dk := ⟨eds3, 1, []⟩
def E1 : Dk := (E0.opens ann (sent waitS)).2.2
def E2 : Dk := (E1.approve ann 1 1).2
def E3 : Dk := (E2.approve bob 1 1).2
def E4 : Dk := (E3.amend eve 1 1 (sent sleepS)).2.2
def E5 : Dk := (E4.amend bob 1 1 (sent waitS)).2.2
theorem e0 : canNew eds3 1 = true := by kernel_rfl
theorem n1 : noticeS (sent waitS) = true := by kernel_rfl
theorem n2 : noticeS (sent sleepS) = true := by kernel_rfl
theorem e1 : (E0.opens ann (sent waitS)).1 = 1 ∧ (E0.opens ann (sent waitS)).2.1 = 0 := ⟨by kernel_rfl, by kernel_rfl⟩
theorem e2 : E1.ready 1 1 = 10 := by kernel_rfl
theorem e3 : (E1.approve ann 1 1).1 = 10 := by kernel_rfl
theorem e4 : (E2.approve bob 1 1).1 = 0 := by kernel_rfl
theorem e5 : E3.ready 1 1 = 0 := by kernel_rfl
theorem e6 : (E3.amend eve 1 1 (sent sleepS)).1 = 2 ∧ (E3.amend eve 1 1 (sent sleepS)).2.1 = 0 := ⟨by kernel_rfl, by kernel_rfl⟩
theorem e7 : (E4.amend bob 1 1 (sent waitS)).2.1 = 11 := by kernel_rfl
theorem e8 : E5.has 1 = 0 := by kernel_rfl
theorem e9 : (E5.hist 1).length = 2 := by kernel_rfl
theorem b1 : bulkL (sent waitS) ≤ 2000000 := by
  have : bulkL (sent waitS) = 5 := by kernel_rfl
  omega
theorem b2 : bulkL (sent sleepS) ≤ 2000000 := by
  have : bulkL (sent sleepS) = 5 := by kernel_rfl
  omega
theorem C_lit3 (w : World) (x y z : ByteArray) : Kd.string.C (w.alloc (.cells #[.string x, .string y, .string z] 9)) (some ⟨w.heap.size, 0, none⟩) [x, y, z].length [x, y, z] := by
  have hb := heap_alloc_new w (.cells #[.string x, .string y, .string z] 9)
  refine ⟨rfl, show (3 : Nat) ≤ 9223372036854775807 by decide, fun _ => ⟨_, rfl, fun j p hj => ⟨[.string p], rfl, rfl, fun i u hi => ?_⟩⟩⟩
  have hi0 : i = 0 := by
    have := (List.getElem?_eq_some_iff.1 hi).1
    simp at this
    exact this
  subst hi0
  simp at hi
  subst hi
  have hj3 : j < 3 := (List.getElem?_eq_some_iff.1 hj).1
  have e := blk_cell hb j
  have ea : (Addr.add ⟨w.heap.size, 0, none⟩ (j * Kd.string.sz + 0)) = ⟨w.heap.size, j, none⟩ := by
    rw [show j * Kd.string.sz + 0 = j from (show j * 1 + 0 = j by omega)]
    unfold Addr.add
    by_cases h0 : j = 0
    · subst h0; rfl
    · simp [h0]
  rw [ea, e]
  rcases j with _ | _ | _ | j
  · simp at hj; subst hj; rfl
  · simp at hj; subst hj; rfl
  · simp at hj; subst hj; rfl
  · omega
end Go.Proofs.Ytkblcdpmdbofgaa.A
/- A desk over a base: what lay there before the desk stays; awake. -/
namespace Go.Proofs.Ytkblcdpmdbofgaa.A
open Go.RowKit Go.Proofs.YtkblcdpmdbofgaaW.PrintWords Go.Proofs.YtkblcdpmdbofgaaW.PrintLast Go.Proofs.YtkblcdpmdbofgaaW.PrintMore
set_option linter.unusedVariables false
set_option linter.unusedSimpArgs false

def Kept0 (w0 w : World) : Prop := Kp w0 w (fun _ => False)
theorem Kept0.refl (w : World) : Kept0 w w := Kp.refl _ _
theorem Kept0.below {w0 w w1 : World} (h : Kept0 w0 w) (hB : Below w.heap.size w w1) : Kept0 w0 w1 := Kp.below h hB
theorem Kept0.to {w0 w : World} (h : Kept0 w0 w) : Below w0.heap.size w0 w := Kp.toBelow h (Nat.le_refl _) (fun _ h => h.elim)
theorem Kept0.then_ {w0 w w1 : World} {S : Nat → Prop} (h : Kept0 w0 w) (hK : Kp w w1 S) (hs : ∀ k, S k → w0.heap.size ≤ k) : Kept0 w0 w1 := Kp.then_ h hK (fun k hk => .inr (hs k hk))

/-- The desk D at dp, mb; all that w0 held is as it was, and none of the desk's. -/
def Stand (w0 w : World) (dp mb : Nat) (D : Dk) (n : Nat) : Prop := At w (fun k => k < w0.heap.size) dp mb D n ∧ Kept0 w0 w
theorem Op1.stand {w0 w : World} {free : Nat → Prop} {dp mb : Nat} {v : Value} {D1 : Dk} {n : Nat} {e : Ending} {w' : World} (h : Op1 w free dp mb v D1 n e w') (hK : Kept0 w0 w) (hf : ∀ k, k < w0.heap.size → free k) : e = .returned v ∧ Stand w0 w' dp mb D1 n :=
  ⟨h.1, h.2.1.mono (fun k hk => ⟨hf k hk, Nat.lt_of_lt_of_le hk hK.size⟩) (Nat.le_refl _), hK.then_ h.2.2 (fun k hk => Nat.le_of_not_lt (fun hl => hk (hf k hl)))⟩
theorem Stand.below {w0 w w1 : World} {dp mb : Nat} {D : Dk} {n : Nat} (h : Stand w0 w dp mb D n) (hB : Below w.heap.size w w1) : Stand w0 w1 dp mb D n := ⟨(h.1.grow hB).mono (fun k hk => .inl hk) (Nat.le_refl _), h.2.below hB⟩
theorem Stand.drewN {w0 w : World} {dp mb : Nat} {D : Dk} {n : Nat} (h : Stand w0 w dp mb D n) (m : Nat) : Stand w0 (w.drewN m) dp mb D n := h.below (pw_below_drewN (Below.refl _ _) m)
theorem Stand.mono {w0 w : World} {dp mb : Nat} {D : Dk} {n m : Nat} (h : Stand w0 w dp mb D n) (hn : n ≤ m) : Stand w0 w dp mb D m := ⟨h.1.mono (fun _ hk => hk) hn, h.2⟩
section
variable {w0 w : World} {dp mb : Nat} {D : Dk} {n : Nat}
theorem Stand.open_ (h : Stand w0 w dp mb D n) (hn : n ≤ 90000) (ed : ByteArray) (ts : List S68) (A : Option Addr) (c : Nat) (hb : bulkL ts ≤ 2000000) (hr : k68.C w A ts.length ts) (hc : ts.length ≤ c) :
    Calls Try.prog 31 #[.pointer (some ⟨dp, 0, none⟩), .string ed, .slice A ts.length c] w fun e w' => e = .returned (two (D.opens ed ts).1 (D.opens ed ts).2.1) ∧ Stand w0 w' dp mb (D.opens ed ts).2.2 n :=
  (h.1.open_ hn ed ts A c hb hr hc).mono (fun e w' ho => ho.stand h.2 (fun _ hk => hk))
theorem Stand.amend {W : World} (h : Stand w0 W dp mb D n) (hB : Below W.heap.size W w) (hn : n ≤ 90000) (ed : ByteArray) (id num : Int) (ts : List S68) (A : Option Addr) (c : Nat) (hid : (Lit.int .i64 id).wf = true) (hb : bulkL ts ≤ 2000000) (hr : k68.F w (fun k => k < w0.heap.size ∨ W.heap.size ≤ k) A ts.length ts) (hc : ts.length ≤ c) :
    Calls Try.prog 20 #[.pointer (some ⟨dp, 0, none⟩), .string ed, .int .i64 id, .int .i64 num, .slice A ts.length c] w fun e w' => e = .returned (two (D.amend ed id num ts).1 (D.amend ed id num ts).2.1) ∧ Stand w0 w' dp mb (D.amend ed id num ts).2.2 n :=
  ((h.1.grow hB).amend hn ed id num ts A c hid hb hr hc).mono (fun e w' ho => ho.stand (h.2.below hB) (fun _ hk => .inl hk))
theorem Stand.approve (h : Stand w0 w dp mb D n) (hn : n ≤ 90000) (ed : ByteArray) (id num : Int) (hid : (Lit.int .i64 id).wf = true) :
    Calls Try.prog 30 #[.pointer (some ⟨dp, 0, none⟩), .string ed, .int .i64 id, .int .i64 num] w fun e w' => e = .returned (.int .i64 (D.approve ed id num).1) ∧ Stand w0 w' dp mb (D.approve ed id num).2 (n + 1) :=
  (h.1.approve hn ed id num hid).mono (fun e w' ho => ho.stand h.2 (fun _ hk => hk))
theorem Stand.close (h : Stand w0 w dp mb D n) (id : Int) (hid : (Lit.int .i64 id).wf = true) :
    Calls Try.prog 29 #[.pointer (some ⟨dp, 0, none⟩), .int .i64 id] w fun e w' => e = .returned (.int .i64 (D.close id).1) ∧ Stand w0 w' dp mb (D.close id).2 n :=
  (h.1.close id hid).mono (fun e w' ho => ho.stand h.2 (fun _ hk => hk))
theorem Stand.ready (h : Stand w0 w dp mb D n) (hn : n ≤ 90000) (id num : Int) (hid : (Lit.int .i64 id).wf = true) :
    Calls Try.prog 17 #[.pointer (some ⟨dp, 0, none⟩), .int .i64 id, .int .i64 num] w fun e w' => e = .returned (.int .i64 (D.ready id num)) ∧ Drawn0 w w' := h.1.ready hn id num hid
theorem Stand.history (h : Stand w0 w dp mb D n) (hn : n ≤ 90000) (id : Int) (hid : (Lit.int .i64 id).wf = true) :
    Calls Try.prog 19 #[.pointer (some ⟨dp, 0, none⟩), .int .i64 id] w fun e w' => ∃ v, e = .returned (.tuple #[v, .int .i64 (D.has id)]) ∧ (Kd.slice 68 k68).R 33 w' w.heap.size (New w) v (D.hist id) ∧ Below w.heap.size w w' := h.1.history hn id hid
end
theorem sent_calls (a0 : ByteArray) (w : World) : Calls Try.prog 32 #[.string a0] w fun e w' => ∃ A c, e = .returned (.slice A 1 c) ∧ (sent a0).length ≤ c ∧ k68.F w' (fun k => w.heap.size ≤ k) A (sent a0).length (sent a0) ∧ Below w.heap.size w w' := by
  refine (pentaglotlaw54_sentence.calls a0 (sent a0) w rfl).mono ?_
  rintro e w' ⟨v, rfl, hN, hB⟩
  obtain ⟨A, c, rfl⟩ := Kd.N_slice hN
  exact ⟨A, c, rfl, (Kd.N_reads' hN).2.1, Kd.N_F hN, hB⟩
theorem E0_good : E0.good 0 := ⟨by show (3 : Nat) ≤ 1000000; decide, fun d hd => by simp [E0] at hd⟩
theorem wf1 : (Lit.int .i64 1).wf = true := by decide
theorem new_stand {w0 w w' : World} {l : List ByteArray} {needed : Int} {e : Ending} (h : Made w l needed e w') (hc : canNew l needed = true) (hK : Kept0 w0 w) : ∃ dp mb, e = .returned (.tuple #[.pointer (some ⟨dp, 0, none⟩), .int .i64 0]) ∧ Stand w0 w' dp mb ⟨l, needed, []⟩ 0 := by
  unfold Made at h
  rw [if_pos hc] at h
  obtain ⟨dp, mb, he, hd, hm, hD, hB⟩ := h
  have hl : l.length ≤ 16 := by
    unfold canNew at hc
    simp only [Bool.and_eq_true, decide_eq_true_eq] at hc
    omega
  refine ⟨dp, mb, he, ⟨⟨by show l.length ≤ 1000000; omega, fun d hd => by simp at hd⟩, _, _, hD, fun k hk _ => ?_⟩, hK.below hB⟩
  unfold deskTag
  rw [if_pos (Nat.lt_of_lt_of_le hk hK.size)]

section
variable {w0 w W : World} {dp mb : Nat}
theorem s_open (h : Stand w0 w dp mb E0 0) (A : Option Addr) (c : Nat) (hr : k68.C w A (sent waitS).length (sent waitS)) (hc : (sent waitS).length ≤ c) :
    Calls Try.prog 31 #[.pointer (some ⟨dp, 0, none⟩), .string ⟨#[97, 110, 110]⟩, .slice A 1 c] w fun e w' => e = .returned (.tuple #[.int .i64 1, .int .i64 0]) ∧ Stand w0 w' dp mb E1 0 := by
  refine (h.open_ (Nat.zero_le _) ann (sent waitS) A c b1 hr hc).mono ?_
  rintro e w' ⟨rfl, hS⟩
  rw [e1.1, e1.2]
  exact ⟨rfl, hS⟩
theorem s_ready1 (h : Stand w0 w dp mb E1 0) : Calls Try.prog 17 #[.pointer (some ⟨dp, 0, none⟩), .int .i64 1, .int .i64 1] w fun e w' => e = .returned (.int .i64 10) ∧ Drawn0 w w' := by
  have := h.ready (Nat.zero_le _) 1 1 wf1
  rwa [e2] at this
theorem s_app1 (h : Stand w0 w dp mb E1 0) : Calls Try.prog 30 #[.pointer (some ⟨dp, 0, none⟩), .string ⟨#[97, 110, 110]⟩, .int .i64 1, .int .i64 1] w fun e w' => e = .returned (.int .i64 10) ∧ Stand w0 w' dp mb E2 1 := by
  have := h.approve (Nat.zero_le _) ann 1 1 wf1
  rwa [e3] at this
theorem s_app2 (h : Stand w0 w dp mb E2 1) : Calls Try.prog 30 #[.pointer (some ⟨dp, 0, none⟩), .string ⟨#[98, 111, 98]⟩, .int .i64 1, .int .i64 1] w fun e w' => e = .returned (.int .i64 0) ∧ Stand w0 w' dp mb E3 2 := by
  have := h.approve (by decide) bob 1 1 wf1
  rwa [e4] at this
theorem s_ready2 (h : Stand w0 w dp mb E3 2) : Calls Try.prog 17 #[.pointer (some ⟨dp, 0, none⟩), .int .i64 1, .int .i64 1] w fun e w' => e = .returned (.int .i64 0) ∧ Drawn0 w w' := by
  have := h.ready (by decide) 1 1 wf1
  rwa [e5] at this
theorem s_am1 (h : Stand w0 W dp mb E3 2) (hB : Below W.heap.size W w) (A : Option Addr) (c : Nat) (hr : k68.F w (fun k => W.heap.size ≤ k) A (sent sleepS).length (sent sleepS)) (hc : (sent sleepS).length ≤ c) :
    Calls Try.prog 20 #[.pointer (some ⟨dp, 0, none⟩), .string ⟨#[101, 118, 101]⟩, .int .i64 1, .int .i64 1, .slice A 1 c] w fun e w' => e = .returned (.tuple #[.int .i64 2, .int .i64 0]) ∧ Stand w0 w' dp mb E4 2 := by
  refine (h.amend hB (by decide) eve 1 1 (sent sleepS) A c wf1 b2 (Kd.F_mono hr (fun k hk => .inr hk)) hc).mono ?_
  rintro e w' ⟨rfl, hS⟩
  rw [e6.1, e6.2]
  exact ⟨rfl, hS⟩
theorem e70 : (E4.amend bob 1 1 (sent waitS)).1 = 0 := by kernel_rfl
theorem s_am2 (h : Stand w0 W dp mb E4 2) (hB : Below W.heap.size W w) (A : Option Addr) (c : Nat) (hr : k68.F w (fun k => W.heap.size ≤ k) A (sent waitS).length (sent waitS)) (hc : (sent waitS).length ≤ c) :
    Calls Try.prog 20 #[.pointer (some ⟨dp, 0, none⟩), .string ⟨#[98, 111, 98]⟩, .int .i64 1, .int .i64 1, .slice A 1 c] w fun e w' => e = .returned (.tuple #[.int .i64 0, .int .i64 11]) ∧ Stand w0 w' dp mb E5 2 := by
  refine (h.amend hB (by decide) bob 1 1 (sent waitS) A c wf1 b1 (Kd.F_mono hr (fun k hk => .inr hk)) hc).mono ?_
  rintro e w' ⟨rfl, hS⟩
  rw [e70, e7]
  exact ⟨rfl, hS⟩
theorem s_hist (h : Stand w0 w dp mb E5 2) : Calls Try.prog 19 #[.pointer (some ⟨dp, 0, none⟩), .int .i64 1] w fun e w' => ∃ A c, e = .returned (.tuple #[.slice A 2 c, .int .i64 0]) ∧ Below w0.heap.size w0 w' := by
  refine (h.history (by decide) 1 wf1).mono ?_
  rintro e w' ⟨v, rfl, hR, hB⟩
  obtain ⟨A, c, rfl⟩ := Kd.R_slice hR
  rw [e8, e9]
  exact ⟨A, c, rfl, (h.2.below hB).to⟩
end
end Go.Proofs.Ytkblcdpmdbofgaa.A
/- awake. -/
namespace Go.Proofs.Ytkblcdpmdbofgaa.A
open Go.RowKit Go.Proofs.YtkblcdpmdbofgaaW.PrintWords Go.Proofs.YtkblcdpmdbofgaaW.PrintLast Go.Proofs.YtkblcdpmdbofgaaW.PrintMore
set_option linter.unusedVariables false
set_option linter.unusedSimpArgs false

set_option maxHeartbeats 400000 in
set_option maxRecDepth 100000 in
theorem awake_calls (w : World) : Calls Try.prog 10 #[] w fun e w' => e = .returned (.bool true) ∧ Below w.heap.size w w' := by
  go_enter Try.func10, Try.ntmps10
  go_wp2_with (first
    | (go_at_call 11; refine (new_calls (some ⟨w.heap.size, 0, none⟩) 3 eds3 1 _ (C_lit3 w ann bob eve) (Nat.le_refl _) (by intro x hx; simp [eds3, ann, bob, eve] at hx; rcases hx with rfl | rfl | rfl <;> decide)).mono ?_; rintro e w1 hM; obtain ⟨dp, mb, rfl, hS⟩ := new_stand hM e0 ((Kept0.refl w).below (below_alloc (Below.refl _ _) _)); have S1 := Aside0.mk hS; clear hS hM)
    | (go_at_call 32; first
        | (have _ := S7.out; refine (sent_calls waitS _).mono ?_; rintro e w8 ⟨A3, c3, rfl, hc3, hF3, hB3⟩; have T3 := Aside0.mk (And.intro hc3 (And.intro hF3 (And.intro hB3 S7.out))); clear hc3 hF3 hB3)
        | (have _ := S5.out; refine (sent_calls sleepS _).mono ?_; rintro e w6 ⟨A2, c2, rfl, hc2, hF2, hB2⟩; have T2 := Aside0.mk (And.intro hc2 (And.intro hF2 (And.intro hB2 (S5.out.drewN m2)))); clear hc2 hF2 hB2)
        | (refine (sent_calls waitS _).mono ?_; rintro e w2 ⟨A1, c1, rfl, hc1, hF1, hB1⟩; have T1 := Aside0.mk (And.intro hc1 (And.intro hF1 (S1.out.below hB1))); clear hc1 hF1 hB1))
    | (go_at_call 31; refine (s_open T1.out.2.2 A1 c1 (Kd.F_now T1.out.2.1) T1.out.1).mono ?_; rintro e w3 ⟨rfl, hS⟩; have S3 := Aside0.mk hS; clear hS)
    | (go_at_call 17; first
        | (have _ := S5.out; refine (s_ready2 S5.out).mono ?_; rintro e w' ⟨rfl, ⟨m2, rfl⟩⟩)
        | (refine (s_ready1 S3.out).mono ?_; rintro e w' ⟨rfl, ⟨m1, rfl⟩⟩))
    | (go_at_call 30; first
        | (have _ := S4.out; refine (s_app2 S4.out).mono ?_; rintro e w5 ⟨rfl, hS⟩; have S5 := Aside0.mk hS; clear hS)
        | (refine (s_app1 (S3.out.drewN m1)).mono ?_; rintro e w4 ⟨rfl, hS⟩; have S4 := Aside0.mk hS; clear hS))
    | (go_at_call 20; first
        | (have _ := T3.out; refine (s_am2 T3.out.2.2.2 T3.out.2.2.1 A3 c3 T3.out.2.1 T3.out.1).mono ?_; rintro e w9 ⟨rfl, hS⟩; have S9 := Aside0.mk hS; clear hS)
        | (refine (s_am1 T2.out.2.2.2 T2.out.2.2.1 A2 c2 T2.out.2.1 T2.out.1).mono ?_; rintro e w7 ⟨rfl, hS⟩; have S7 := Aside0.mk hS; clear hS))
    | (go_at_call 19; refine (s_hist S9.out).mono ?_; rintro e w10 ⟨A4, c4, rfl, hB⟩; have HB := Aside0.mk hB; clear hB))
  go_ret
  exact ⟨rfl, HB.out⟩
end Go.Proofs.Ytkblcdpmdbofgaa.A
/- The reference's In, name and Editors. -/
namespace Go.Proofs.Ytkblcdpmdbofgaa.A
open Go.RowKit Go.Proofs.YtkblcdpmdbofgaaW.PrintWords Go.Proofs.YtkblcdpmdbofgaaW.PrintLast Go.Proofs.YtkblcdpmdbofgaaW.PrintMore
set_option linter.unusedVariables false
set_option linter.unusedSimpArgs false

theorem in_ev (x : ByteArray) : ∀ (post pre : List ByteArray), pre.length + post.length ≤ 2000000 →
    Ev (fun k => pentaglotref54_In.l0 k (pre ++ post) x (pre.length : Int)) (memS post x)
  | [], pre, hl => by
    refine Ev.step (f := fun _ => some false) (fun k => ?_) (by simpa [memS] using Ev.now _)
    rw [pentaglotref54_In.l0, if_neg (by simp)]
  | y :: r, pre, hl => by
    simp only [List.length_cons] at hl
    by_cases h : x.toList = y.toList
    · refine Ev.step (f := fun _ => some true) (fun k => ?_) (by simpa [memS, h] using Ev.now _)
      rw [pentaglotref54_In.l0, if_pos (by simp; omega), if_pos (by omega), rdOf_cons, if_pos h.symm]
    · have hq := in_ev x r (pre ++ [y]) (by simp; omega)
      have e1 : pre ++ [y] ++ r = pre ++ y :: r := by simp
      have e2 : ((pre ++ [y]).length : Int) = (pre.length : Int) + 1 := by simp
      rw [e1, e2] at hq
      have e3 : memS (y :: r) x = memS r x := by simp [memS, h]
      rw [e3]
      refine Ev.step (fun k => ?_) hq
      rw [pentaglotref54_In.l0, if_pos (by simp; omega), if_pos (by omega), rdOf_cons, if_neg (fun e => h e.symm), wrap_small (by omega) (by omega)]
theorem in_calls (A : Option Addr) (c : Nat) (l : List ByteArray) (x : ByteArray) (w : World) (hl : l.length ≤ 2000000) (hr : Kd.C Kd.string w A l.length l) (hc : l.length ≤ c) :
    Calls Try.prog 16 #[.slice A l.length c, .string x] w fun e w' => e = .returned (.bool (memS l x)) ∧ Drawn0 w w' := by
  obtain ⟨k, hk⟩ := (in_ev x l [] (by simpa using hl)).rounds
  exact pentaglotref54_In.calls k A c l x (memS l x) w hr hc hk

theorem bytes_some (x : ByteArray) : (x.toList != ([] : List UInt8)) = decide (0 < x.size) := by
  rw [ByteArray.toList_eq]
  obtain ⟨d⟩ := x
  obtain ⟨l⟩ := d
  cases l with
  | nil => rfl
  | cons a r => simp [ByteArray.size]

theorem lettersFrom_at (x : ByteArray) (n : Nat) (i : Int) (hn : 0 < n) : lettersFrom x n i = if bt x i < 97 then false else if bt x i > 122 then false else lettersFrom x (n - 1) (i + 1) := by
  cases n with
  | zero => omega
  | succ m => rfl

set_option maxHeartbeats 1000000 in
set_option maxRecDepth 100000 in
theorem name_calls (x : ByteArray) (w : World) (hx : x.size ≤ 2000000) : Calls Try.prog 36 #[.string x] w fun e w' => e = .returned (.bool (lettersS x)) ∧ Drawn0 w w' := by
  have HS : Aside0 (lettersS x = (lettersFrom x x.size 0 && decide (0 < x.size))) := ⟨by unfold lettersS; rw [bytes_some]⟩
  go_enter Try.func36, Try.ntmps36
  go_wp2
  go_loopw [3] (fun i w' => ∃ q : Int, i = .int .i64 q ∧ 0 ≤ q ∧ q ≤ x.size ∧ Aside0 (lettersS x = (lettersFrom x (x.size - q.toNat) q && decide (0 < x.size))) ∧ Drawn0 w w') (fun i _ => x.size - (intOf i).toNat)
  case atStart => exact ⟨0, rfl, Int.le_refl _, Int.natCast_nonneg _, HS, Drawn0.refl _⟩
  case round =>
    clear HS
    obtain ⟨q, rfl, h0, h1, HS, ⟨m, rfl⟩⟩ := hrel
    by_cases hlt : q < x.size
    · have hb := bt_at x q
      have p1 := eq_true h0
      have q1 := eq_true hlt
      have HE := Aside0.mk (HS.out.trans (by rw [lettersFrom_at x _ q (by omega)]))
      clear HS
      by_cases c1 : bt x q < 97
      · replace HE : Aside0 (lettersS x = false) := ⟨HE.out.trans (by rw [if_pos c1]; rfl)⟩
        have f1 : decide (bt x q < 97) = true := decide_eq_true c1
        clear c1
        go_wp2
        go_ret
        exact ⟨by rw [HE.out]; rfl, ⟨_, rfl⟩⟩
      · by_cases c2 : bt x q > 122
        · replace HE : Aside0 (lettersS x = false) := ⟨HE.out.trans (by rw [if_neg c1, if_pos c2]; rfl)⟩
          have f1 : decide (bt x q < 97) = false := decide_eq_false c1
          have f2 : decide (122 < bt x q) = true := decide_eq_true c2
          clear c1 c2
          go_wp2
          go_ret
          exact ⟨by rw [HE.out]; rfl, ⟨_, rfl⟩⟩
        · replace HE : Aside0 (lettersS x = (lettersFrom x (x.size - (q + 1).toNat) (q + 1) && decide (0 < x.size))) := ⟨HE.out.trans (by rw [if_neg c1, if_neg c2, show x.size - q.toNat - 1 = x.size - (q + 1).toNat by omega])⟩
          have f1 : decide (bt x q < 97) = false := decide_eq_false c1
          have f2 : decide (122 < bt x q) = false := decide_eq_false c2
          clear c1 c2
          go_wp2
          go_roundw
          case rel => exact ⟨q + 1, rfl, by omega, by omega, HE, ⟨_, rfl⟩⟩
          case measure => simp [intOf]; omega
    · have e0 : x.size - q.toNat = 0 := by omega
      replace HS : Aside0 (lettersS x = decide (0 < x.size)) := ⟨by rw [HS.out, e0]; simp [lettersFrom]⟩
      clear e0
      go_wp2
      go_ret
      exact ⟨by rw [HS.out]; rfl, ⟨_, rfl⟩⟩

set_option maxHeartbeats 1000000 in
set_option maxRecDepth 100000 in
theorem editors_calls (A : Option Addr) (c : Nat) (l : List ByteArray) (needed : Int) (w : World) (hr : Kd.string.C w A l.length l) (hcp : l.length ≤ c) (hl : l.length ≤ 2000000) (hsz : ∀ x ∈ l, x.size ≤ 2000000) :
    Calls Try.prog 12 #[.slice A l.length c, .int .i64 needed] w fun e w' => e = .returned (.bool (canNew l needed)) ∧ Drawn0 w w' := by
  have no : Aside0 (edsOk [] l = false → canNew l needed = false) := ⟨fun he => by unfold canNew; rw [he]; simp⟩
  have yes : Aside0 (edsOk [] l = true → canNew l needed = (decide (1 ≤ l.length) && decide (l.length ≤ 16) && decide (0 ≤ needed) && decide (needed < (l.length : Int)))) := ⟨fun he => by unfold canNew; rw [he]; simp⟩
  have HR := Aside0.mk hr
  have HC := Aside0.mk hcp
  have HS := Aside0.mk hsz
  clear hr hcp hsz
  go_enter Try.func12, Try.ntmps12
  go_wp2
  go_loopw [5] (fun i w' => ∃ x : Int, i = .int .i64 x ∧ 0 ≤ x ∧ x ≤ l.length ∧ Aside0 (edsOk [] l = edsOk (l.take x.toNat) (l.drop x.toNat)) ∧ Drawn0 w w') (fun i _ => l.length - (intOf i).toNat)
  case atStart => exact ⟨0, rfl, Int.le_refl _, Int.natCast_nonneg _, ⟨rfl⟩, Drawn0.refl _⟩
  case round =>
    obtain ⟨x, rfl, hx, hk, HV, ⟨m, rfl⟩⟩ := hrel
    by_cases hlt : x < l.length
    · obtain ⟨ad, e, hx0⟩ := Kd.at_string HR.out x hx hlt
      cases e
      have p1 := eq_true hx
      have q1 := eq_true hlt
      have q2 := eq_true hk
      have L1 := Aside0.mk (fun (W : World) => name_calls (rdOf ByteArray.empty l x) W (HS.out _ (rdOf_mem l x hx hlt)))
      obtain ⟨i0, hi0, _, hsz, _⟩ := info_parts info9
      obtain ⟨hcut, hA, hC⟩ := print_take_of (P := Try.prog) Value.string (⟨#[]⟩ : ByteArray) 22 9 .i64 Try.underlying22 hi0 hsz (some ad) c l x hx hk HC.out
      have HR2 := Aside0.mk (Kd.C_of_reads (h1 := fun _ => rfl) (hA _ (Kd.reads_of_C HR.out)))
      have hlen : (l.take x.toNat).length = x.toNat := by rw [List.length_take]; omega
      have C2 := Aside0.mk (fun (W : World) (hW : Below w.heap.size w W) => in_calls (some ad) c (l.take x.toNat) (rdOf ByteArray.empty l x) W (by rw [List.length_take]; omega) (Kd.C_below HR2.out hW) hC)
      simp only [hlen] at C2 hcut
      clear hlen
      have HE := HV.out.trans (edsOk_at l x hx hlt)
      clear hA hC hi0 hsz HV
      cases hl' : lettersS (rdOf ByteArray.empty l x) with
      | false =>
        rw [hl'] at HE L1
        replace HE := Aside0.mk (no.out (HE.trans (by simp)))
        clear hcut
        go_wp2_with (fail)
        go_quiet (first | (go_at_call 36; refine (L1.out _).mono ?_; rintro e w' ⟨rfl, ⟨nd, rfl⟩⟩; (try first | exact ⟨rfl, _, World.drewN_drewN _ _ _⟩ | exact ⟨rfl, _, Eq.trans (World.drewN_drewN _ _ _) (congrArg (World.drewN _) (Nat.add_assoc _ _ _))⟩)))
        go_wp2
        go_ret
        exact ⟨by rw [HE.out]; rfl, ⟨_, World.drewN_drewN _ _ _⟩⟩
      | true =>
        rw [hl'] at HE L1
        cases hm : memS (l.take x.toNat) (rdOf ByteArray.empty l x) with
        | true =>
          rw [hm] at HE C2
          replace HE := Aside0.mk (no.out (HE.trans (by simp)))
          go_wp2_with (fail)
          go_quiet (first | (go_at_call 36; refine (L1.out _).mono ?_; rintro e w' ⟨rfl, ⟨nd, rfl⟩⟩; (try first | exact ⟨rfl, _, World.drewN_drewN _ _ _⟩ | exact ⟨rfl, _, Eq.trans (World.drewN_drewN _ _ _) (congrArg (World.drewN _) (Nat.add_assoc _ _ _))⟩)) | (go_at_call 16; refine (C2.out _ (pw_below_drewN (Below.refl _ _) _)).mono ?_; rintro e w' ⟨rfl, ⟨nd2, rfl⟩⟩; (try first | exact ⟨rfl, _, World.drewN_drewN _ _ _⟩ | exact ⟨rfl, _, Eq.trans (World.drewN_drewN _ _ _) (congrArg (World.drewN _) (Nat.add_assoc _ _ _))⟩)))
          go_wp2
          go_ret
          exact ⟨by rw [HE.out]; rfl, ⟨_, World.drewN_drewN _ _ _⟩⟩
        | false =>
          rw [hm] at HE C2
          replace HE := Aside0.mk (HE.trans (show (true && !false && edsOk (l.take (x + 1).toNat) (l.drop (x + 1).toNat)) = edsOk (l.take (x + 1).toNat) (l.drop (x + 1).toNat) by simp))
          go_wp2_with (fail)
          go_quiet (first | (go_at_call 36; refine (L1.out _).mono ?_; rintro e w' ⟨rfl, ⟨nd, rfl⟩⟩; (try first | exact ⟨rfl, _, World.drewN_drewN _ _ _⟩ | exact ⟨rfl, _, Eq.trans (World.drewN_drewN _ _ _) (congrArg (World.drewN _) (Nat.add_assoc _ _ _))⟩)) | (go_at_call 16; refine (C2.out _ (pw_below_drewN (Below.refl _ _) _)).mono ?_; rintro e w' ⟨rfl, ⟨nd2, rfl⟩⟩; (try first | exact ⟨rfl, _, World.drewN_drewN _ _ _⟩ | exact ⟨rfl, _, Eq.trans (World.drewN_drewN _ _ _) (congrArg (World.drewN _) (Nat.add_assoc _ _ _))⟩)))
          go_wp2
          go_roundw
          case rel => exact ⟨x + 1, rfl, by omega, by omega, HE, ⟨_, rfl⟩⟩
          case measure => simp [intOf]; omega
    · have HE := Aside0.mk (yes.out (HV.out.trans (by rw [List.drop_eq_nil_of_le (by omega)]; rfl)))
      by_cases h1 : 1 ≤ l.length
      · have f1 : decide (1 ≤ (l.length : Int)) = true := decide_eq_true (by omega)
        by_cases h2 : l.length ≤ 16
        · have f2 : decide ((l.length : Int) ≤ 16) = true := decide_eq_true (by omega)
          by_cases h3 : 0 ≤ needed
          · have f3 : decide (0 ≤ needed) = true := decide_eq_true h3
            replace HE : Aside0 (canNew l needed = decide (needed < (l.length : Int))) := ⟨by rw [HE.out, decide_eq_true h1, decide_eq_true h2, f3]; simp⟩
            clear h1 h2 h3
            go_wp2
            go_ret
            exact ⟨by rw [HE.out]; rfl, ⟨_, rfl⟩⟩
          · have f3 : decide (0 ≤ needed) = false := decide_eq_false h3
            replace HE : Aside0 (canNew l needed = false) := ⟨by rw [HE.out, f3]; simp⟩
            clear h1 h2 h3
            go_wp2
            go_ret
            exact ⟨by rw [HE.out]; rfl, ⟨_, rfl⟩⟩
        · have f2 : decide ((l.length : Int) ≤ 16) = false := decide_eq_false (by omega)
          replace HE : Aside0 (canNew l needed = false) := ⟨by rw [HE.out, decide_eq_false h2]; simp⟩
          clear h1 h2
          go_wp2
          go_ret
          exact ⟨by rw [HE.out]; rfl, ⟨_, rfl⟩⟩
      · have f1 : decide (1 ≤ (l.length : Int)) = false := decide_eq_false (by omega)
        replace HE : Aside0 (canNew l needed = false) := ⟨by rw [HE.out, decide_eq_false h1]; simp⟩
        clear h1
        go_wp2
        go_ret
        exact ⟨by rw [HE.out]; rfl, ⟨_, rfl⟩⟩
end Go.Proofs.Ytkblcdpmdbofgaa.A
/- What a call is handed, out of its reading: lists of strings, of trees, of operations. -/
namespace Go.Proofs.Ytkblcdpmdbofgaa.A
open Go.RowKit Go.Proofs.YtkblcdpmdbofgaaW.PrintWords Go.Proofs.YtkblcdpmdbofgaaW.PrintLast Go.Proofs.YtkblcdpmdbofgaaW.PrintMore
set_option linter.unusedVariables false
set_option linter.unusedSimpArgs false
section
variable {H : Type} {enc : TypeId × Value → H} {w : World} {base : Nat} {spare : Nat → Bool} {held : Bool}

theorem opened {α : Type} [Inhabited α] {kd : Kd α} {Q : α → DataW H → Prop} {t e : TypeId} (ht : Try.prog.underlying t = some (.slice e)) (hc : Try.prog.cellsOf e = kd.sz) {fuel : Nat} {cs : List Value} {x : DataW H × List MemPlace}
    (h : DataW.trod enc Try.prog w base spare held fuel t cs = some x) (hel : ∀ n cs' y, n < fuel → DataW.trod enc Try.prog w base spare held n e cs' = some y → ∃ p, kd.K w p cs' ∧ Q p y.1) :
    ∃ A xs c ds, cs = [.slice A xs.length c] ∧ xs.length ≤ c ∧ kd.C w A xs.length xs ∧ ((∃ sp, x.1 = .slice ds sp) ∨ x.1 = .nil ∧ ds = []) ∧ ds.length = xs.length ∧ ∀ (i : Nat) p d, xs[i]? = some p → ds[i]? = some d → Q p d := by
  rcases DataW.trod_slice ht h with ⟨rfl, rfl⟩ | ⟨a, len, cap, elems, rest, n, rfl, rfl, rfl, hb, hl, hm, hlen, hel', _, _⟩
  · exact ⟨none, [], 0, [], rfl, Nat.le_refl _, ⟨rfl, Nat.zero_le _, fun h => by simp at h⟩, .inr ⟨rfl, rfl⟩, rfl, fun i p d hp => by simp at hp⟩
  · obtain ⟨V, hV⟩ := Go.Deep.choose_lt (α := α) (n := len) (p := fun i p => ∃ cs' y, w.cells? base (a.add (i * kd.sz)) kd.sz = some cs' ∧ elems[i]? = some y ∧ kd.K w p cs' ∧ Q p y.1) (fun i hi => by
      have he := hel' i hi
      rw [List.getElem?_eq_getElem (by omega)] at he
      obtain ⟨cs', h1, h2⟩ := Option.bind_eq_some_iff.1 he
      obtain ⟨p, hK, hQ⟩ := hel n cs' _ (Nat.lt_succ_self _) h2
      rw [hc] at h1
      exact ⟨p, cs', _, h1, List.getElem?_eq_getElem (by omega), hK, hQ⟩)
    refine ⟨some a, (List.range len).map V, cap, elems.map (·.1), by simp, by simpa using hl, ⟨rfl, ?_, fun hp => ⟨a, rfl, fun j p hj => ?_⟩⟩, .inl ⟨_, rfl⟩, by simp [hlen], fun i p d hp hd => ?_⟩
    · simp only [List.length_map, List.length_range]
      unfold maxLen at hm
      omega
    · have hlt : j < len := by
        have := (List.getElem?_eq_some_iff.1 hj).1
        simpa using this
      have hpj : p = V j := by
        rw [List.getElem?_map, List.getElem?_range hlt] at hj
        exact (Option.some.inj hj).symm
      subst hpj
      obtain ⟨cs', y, h1, _, hK, _⟩ := hV j hlt
      obtain ⟨_, hlen', hcell⟩ := World.cells?_some h1
      refine ⟨cs', hlen', hK, fun i u hu => ?_⟩
      have hi : i < kd.sz := by rw [← hlen']; exact (List.getElem?_eq_some_iff.1 hu).1
      have := hcell i hi
      rw [hu, Addr.add_add] at this
      exact this
    · have hlt : i < len := by
        have := (List.getElem?_eq_some_iff.1 hp).1
        simpa using this
      obtain ⟨cs', y, _, h2, _, hQ⟩ := hV i hlt
      have hpj : p = V i := by
        rw [List.getElem?_map, List.getElem?_range hlt] at hp
        exact (Option.some.inj hp).symm
      subst hpj
      rw [List.getElem?_map, h2] at hd
      rw [← Option.some.inj hd]
      exact hQ

theorem bulk_one (d : DataW H) : 1 ≤ Rows.uptoBulk d := by
  cases d with
  | lit l => cases l <;> simp [Rows.uptoBulk]
  | nil => simp [Rows.uptoBulk]
  | ptr d => simp [Rows.uptoBulk]
  | slice a b => simp [Rows.uptoBulk]
  | agg a => simp [Rows.uptoBulk]
  | iface a d => simp [Rows.uptoBulk]
  | map es => simp [Rows.uptoBulk]
  | held h => simp [Rows.uptoBulk]
def sumOf {α : Type} (f : α → Nat) : List α → Nat
  | [] => 0
  | x :: r => f x + sumOf f r
theorem bulk_all {α : Type} (f : α → Nat) : ∀ (xs : List α) (ds : List (DataW H)), ds.length = xs.length → (∀ (i : Nat) p d, xs[i]? = some p → ds[i]? = some d → f p ≤ Rows.uptoBulk d) → sumOf f xs ≤ Rows.uptoBulkAll ds
  | [], ds, _, _ => Nat.zero_le _
  | x :: r, [], hl, _ => by simp at hl
  | x :: r, d :: ds, hl, h => by
    have h0 := h 0 x d rfl rfl
    have h1 := bulk_all f r ds (by simpa using hl) (fun i p d' hp hd => h (i + 1) p d' (by simpa using hp) (by simpa using hd))
    show f x + sumOf f r ≤ Rows.uptoBulkAll (d :: ds)
    simp only [Rows.uptoBulkAll]
    omega
/-- The bulk of a slice that was opened. -/
theorem bulk_slice {α : Type} (f : α → Nat) {xs : List α} {ds : List (DataW H)} {d : DataW H} (hd : (∃ sp, d = .slice ds sp) ∨ d = .nil ∧ ds = []) (hl : ds.length = xs.length) (h : ∀ (i : Nat) p d, xs[i]? = some p → ds[i]? = some d → f p ≤ Rows.uptoBulk d) : sumOf f xs + 1 ≤ Rows.uptoBulk d := by
  have h1 := bulk_all f xs ds hl h
  rcases hd with ⟨sp, rfl⟩ | ⟨rfl, rfl⟩
  · simp only [Rows.uptoBulk]
    omega
  · simp only [Rows.uptoBulk]
    simp only [Rows.uptoBulkAll] at h1
    omega
theorem sum_len {α : Type} (l : List α) : sumOf (fun _ => 1) l = l.length := by
  induction l with
  | nil => rfl
  | cons x r ih => simp only [sumOf, ih, List.length_cons]; omega
theorem sum_bulkL (l : List S68) : sumOf bulk l = bulkL l := by
  induction l with
  | nil => rfl
  | cons x r ih => simp only [sumOf, ih, bulkL]
theorem sum_mem {α : Type} (f : α → Nat) {l : List α} {x : α} (h : x ∈ l) : f x ≤ sumOf f l := by
  induction l with
  | nil => cases h
  | cons y r ih =>
    rcases List.mem_cons.1 h with rfl | h
    · simp only [sumOf]; omega
    · have := ih h
      simp only [sumOf]; omega

theorem open_strsC {fuel : Nat} {cs : List Value} {x : DataW H × List MemPlace} (h : DataW.trod enc Try.prog w base spare held fuel 22 cs = some x) :
    ∃ A xs c, cs = [.slice A xs.length c] ∧ xs.length ≤ c ∧ Kd.string.C w A xs.length xs ∧ sumOf (fun s : ByteArray => s.size + 1) xs + 1 ≤ Rows.uptoBulk x.1 := by
  obtain ⟨A, xs, c, ds, h1, h2, h3, h4, h5, h6⟩ := opened (kd := Kd.string) (Q := fun (s : ByteArray) d => s.size + 1 ≤ Rows.uptoBulk d) Try.underlying22 (by kernel_rfl) h (fun n cs' y _ hy => by
    obtain ⟨s, rfl, rfl, hs⟩ := DataW.trod_string Try.underlying9 hy
    exact ⟨s, rfl, by simp only [Rows.uptoBulk, Array.length_toList]; exact Nat.le_refl _⟩)
  exact ⟨A, xs, c, h1, h2, h3, bulk_slice _ h4 h5 h6⟩
theorem open_intsC {fuel : Nat} {cs : List Value} {x : DataW H × List MemPlace} (h : DataW.trod enc Try.prog w base spare held fuel 29 cs = some x) :
    ∃ A xs c, cs = [.slice A xs.length c] ∧ xs.length ≤ c ∧ (Kd.int .i64).C w A xs.length xs ∧ xs.length + 1 ≤ Rows.uptoBulk x.1 := by
  obtain ⟨A, xs, c, ds, h1, h2, h3, h4, h5, h6⟩ := opened (kd := Kd.int .i64) (Q := fun (s : Int) d => 1 ≤ Rows.uptoBulk d) Try.underlying29 (by kernel_rfl) h (fun n cs' y _ hy => by
    obtain ⟨s, rfl, rfl, hs⟩ := DataW.trod_int Try.underlying3 hy
    exact ⟨s, rfl, bulk_one _⟩)
  have := bulk_slice (fun _ => 1) h4 h5 h6
  rw [sum_len] at this
  exact ⟨A, xs, c, h1, h2, h3, this⟩
instance inh68 : Inhabited S68 := ⟨z68⟩
instance inh35 : Inhabited S35 := ⟨z35⟩
theorem three {l : List Value} (h : l.length = 3) : ∃ a b c, l = [a, b, c] := by
  match l, h with
  | [a, b, c], _ => exact ⟨a, b, c, rfl⟩
set_option maxRecDepth 100000 in
theorem open_treesC (fuel : Nat) : (∀ cs (x : DataW H × List MemPlace), DataW.trod enc Try.prog w base spare held fuel 68 cs = some x → ∃ p, k68.K w p cs ∧ bulk p ≤ Rows.uptoBulk x.1) ∧
    ∀ cs (x : DataW H × List MemPlace), DataW.trod enc Try.prog w base spare held fuel 33 cs = some x → ∃ A xs c, cs = [.slice A xs.length c] ∧ xs.length ≤ c ∧ k68.C w A xs.length xs ∧ bulkL xs + 1 ≤ Rows.uptoBulk x.1 := by
  induction fuel using Nat.strongRecOn with
  | _ fuel ih =>
    have h33 : ∀ cs (x : DataW H × List MemPlace), DataW.trod enc Try.prog w base spare held fuel 33 cs = some x → ∃ A xs c, cs = [.slice A xs.length c] ∧ xs.length ≤ c ∧ k68.C w A xs.length xs ∧ bulkL xs + 1 ≤ Rows.uptoBulk x.1 := by
      intro cs x h
      obtain ⟨A, xs, c, ds, h1, h2, h3, h4, h5, h6⟩ := opened (kd := k68) (Q := fun p d => bulk p ≤ Rows.uptoBulk d) Try.underlying33 (by kernel_rfl) h (fun n cs' y hn hy => (ih n hn).1 cs' y hy)
      have := bulk_slice bulk h4 h5 h6
      rw [sum_bulkL] at this
      exact ⟨A, xs, c, h1, h2, h3, this⟩
    refine ⟨fun cs x h => ?_, h33⟩
    obtain ⟨xs, n, rfl, rfl, hl, hlen, hf⟩ := DataW.trod_struct Try.underlying68 h
    obtain ⟨a, b, c, rfl⟩ := three (hl.trans (by kernel_rfl))
    match xs, hlen with
    | [y0, y1, y2], _ =>
      have f0 := hf 0 _ rfl
      have f1 := hf 1 _ rfl
      have f2 := hf 2 _ rfl
      have g0 : DataW.trod enc Try.prog w base spare held n 9 [a] = some y0 := f0
      have g1 : DataW.trod enc Try.prog w base spare held n 29 [b] = some y1 := f1
      have g2 : DataW.trod enc Try.prog w base spare held n 33 [c] = some y2 := f2
      obtain ⟨s, hs, rfl, _⟩ := DataW.trod_string Try.underlying9 g0
      obtain ⟨A1, zs, c1, hz, l1, r1, b1⟩ := open_intsC g1
      obtain ⟨A2, ts, c2, ht, l2, r2, b2⟩ := (ih n (Nat.lt_succ_self _)).2 _ _ g2
      injection hs with hs
      injection hz with hz
      injection ht with ht
      subst hs
      subst hz
      subst ht
      refine ⟨⟨s, zs, ts⟩, k68_mk w ⟨s, zs, ts⟩ l1 r1 l2 r2, ?_⟩
      rw [bulk_eq]
      show zs.length + bulkL ts + 1 ≤ _
      simp only [List.map_cons, List.map_nil, Rows.uptoBulk, Rows.uptoBulkAll]
      omega
end
end Go.Proofs.Ytkblcdpmdbofgaa.A
/- (*Desk).Draft. -/
namespace Go.Proofs.Ytkblcdpmdbofgaa.A
open Go.RowKit Go.Proofs.YtkblcdpmdbofgaaW.PrintWords Go.Proofs.YtkblcdpmdbofgaaW.PrintLast Go.Proofs.YtkblcdpmdbofgaaW.PrintMore
set_option linter.unusedVariables false
set_option linter.unusedSimpArgs false

/-- What Draft shows. -/
structure Shown where
  id : Int
  rev : Int
  author : ByteArray
  trees : List S68
  approvals : List ByteArray
  closed : Bool
def Dk.show_ (D : Dk) (id : Int) : Shown := match D.get id with
  | none => ⟨0, 0, ⟨#[]⟩, [], [], false⟩
  | some d => ⟨id, (d.earlier.length : Int) + 1, d.author, d.trees, d.approvals, d.closed⟩
def shownV (s : Shown) (vt va : Value) : Value := .agg #[.int .i64 s.id, .int .i64 s.rev, .string s.author, vt, va, .bool s.closed]
theorem R_far1 {α : Type} {d : Kd α} {e g : Nat} {W w1 : World} {v : Value} {l : List α} {base : Nat} (h : d.R e w1 base (New W) v l) (hg : g < W.heap.size) (i : Nat) (x : Value) : d.R e (w1.setCell ⟨g, i, none⟩ x) base (New W) v l :=
  Kd.R_far (p := ⟨g, i, none⟩) h (fun _ hk => Nat.ne_of_gt (Nat.lt_of_lt_of_le hg hk)) x
def dW (w : World) (g : Nat) (a b c d e f : Value) : World := (((((w.setCell ⟨g, 0, none⟩ a).setCell ⟨g, 1, none⟩ b).setCell ⟨g, 2, none⟩ c).setCell ⟨g, 3, none⟩ d).setCell ⟨g, 4, none⟩ e).setCell ⟨g, 5, none⟩ f
theorem R_far6 {α : Type} {d : Kd α} {e g : Nat} {W w1 : World} {v : Value} {l : List α} {base : Nat} (h : d.R e w1 base (New W) v l) (hg : g < W.heap.size) (a b c x y z : Value) : d.R e (dW w1 g a b c x y z) base (New W) v l :=
  R_far1 (R_far1 (R_far1 (R_far1 (R_far1 (R_far1 h hg 0 a) hg 1 b) hg 2 c) hg 3 x) hg 4 y) hg 5 z
theorem dW_below {w w1 : World} {g : Nat} (h : Below w.heap.size w w1) (hg : w.heap.size ≤ g) (a b c d e f : Value) : Below w.heap.size w (dW w1 g a b c d e f) :=
  below_set (j := 5) (v := f) (below_set (j := 4) (v := e) (below_set (j := 3) (v := d) (below_set (j := 2) (v := c) (below_set (j := 1) (v := b) (below_set (j := 0) (v := a) h hg) hg) hg) hg) hg) hg
theorem dW_blk {w : World} {g t : Nat} {a b c d e f a' b' c' d' e' f' : Value} (h : w.heap[g]? = some (.cells #[a, b, c, d, e, f] t (0, 0))) : (dW w g a' b' c' d' e' f').heap[g]? = some (.cells #[a', b', c', d', e', f'] t (0, 0)) := by
  have := blk_set (blk_set (blk_set (blk_set (blk_set (blk_set h 0 a') 1 b') 2 c') 3 d') 4 e') 5 f'
  unfold dW
  simpa using this

set_option maxHeartbeats 1000000 in
set_option maxRecDepth 100000 in
theorem draft_none (w : World) (tag : Nat → Nat) (dp mb : Nat) (sb : List Nat) (D : Dk) (h : DeskAt w tag dp mb sb D) (id : Int) (hid : (Lit.int .i64 id).wf = true) (hn : D.get id = none) :
    Calls Try.prog 21 #[.pointer (some ⟨dp, 0, none⟩), .int .i64 id] w fun e w' => e = .returned (.tuple #[shownV ⟨0, 0, ⟨#[]⟩, [], [], false⟩ (.slice none 0 0) (.slice none 0 0), .int .i64 4]) ∧ Below w.heap.size w w' := by
  obtain ⟨Ae, ce, hb, _, _⟩ := h.desk
  have hd : ∀ W, Below w.heap.size w W → W.cell? ⟨dp, 2, none⟩ = some (.map (some mb)) := fun W hB => by
    have := blk_cell (blk_below hb hB) 2
    simpa using this
  have HD := Aside0.mk hd
  have HLk := Aside0.mk (fun (W : World) (hB : Below w.heap.size w W) => (show _ from (by have := (h.below hB).map.look id hid; rw [ptrOf_none h.len hn] at this; exact this) : (Instr.lookup 73 (.map (some mb)) (.int .i64 id) false).run Try.prog W = .ok (.pointer none) W))
  have c2 := HD.out _ (below_alloc (Below.refl _ w) (.cells #[.int .i64 0, .int .i64 0, .string ⟨#[]⟩, .slice none 0 0, .slice none 0 0, .bool false] 49 (0, 0)))
  have hl := HLk.out _ (below_alloc (Below.refl _ w) (.cells #[.int .i64 0, .int .i64 0, .string ⟨#[]⟩, .slice none 0 0, .slice none 0 0, .bool false] 49 (0, 0)))
  clear hb h hn hid hd HD HLk
  go_enter Try.func21, Try.ntmps21
  go_wp2
  refine bodyPost_ret (results_list (rs := [.cell 4 49, .tmp 5]) rfl (by simp) (.cell w.heap.size 49 _ (0, 0) _ rfl (heap_alloc_new w _) Try.underlying49 rfl (by kernel_rfl) (.tmp .nil))) rfl ?_
  exact ⟨rfl, below_alloc (Below.refl _ _) _⟩

theorem dW_blk_far {w : World} {g k t : Nat} {cs : Array Value} (h : w.heap[k]? = some (.cells cs t (0, 0))) (hk : k ≠ g) (a b c d e f : Value) : ((((((w.setCell ⟨g, 0, none⟩ a).setCell ⟨g, 1, none⟩ b).setCell ⟨g, 2, none⟩ c).setCell ⟨g, 3, none⟩ d).setCell ⟨g, 4, none⟩ e).setCell ⟨g, 5, none⟩ f).heap[k]? = some (.cells cs t (0, 0)) :=
  blk_far (blk_far (blk_far (blk_far (blk_far (blk_far h hk a) hk b) hk c) hk d) hk e) hk f
theorem four_cells {w : World} {g t : Nat} {a b c d e : Value} (h : w.heap[g]? = some (.cells #[a, b, c, d, e] t (0, 0))) : w.cell? ⟨g, 0, none⟩ = some a ∧ w.cell? ⟨g, 1, none⟩ = some b ∧ w.cell? ⟨g, 3, none⟩ = some d ∧ w.cell? ⟨g, 4, none⟩ = some e :=
  ⟨blk_cell h 0, blk_cell h 1, blk_cell h 3, blk_cell h 4⟩
set_option maxHeartbeats 2000000 in
set_option maxRecDepth 100000 in
theorem draft_some (w : World) (tag : Nat → Nat) (dp mb : Nat) (sb : List Nat) (D : Dk) (h : DeskAt w tag dp mb sb D) (hok : D.ok) (i g : Nat) (d : Dr) (hid : (Lit.int .i64 ((i : Int) + 1)).wf = true) (hs : sb[i]? = some g) (hd : D.drafts[i]? = some d) (hp : ptrOf sb ((i : Int) + 1) = some ⟨g, 0, none⟩) :
    Calls Try.prog 21 #[.pointer (some ⟨dp, 0, none⟩), .int .i64 ((i : Int) + 1)] w fun e w' => ∃ vt va, e = .returned (.tuple #[shownV ⟨(i : Int) + 1, (d.earlier.length : Int) + 1, d.author, d.trees, d.approvals, d.closed⟩ vt va, .int .i64 0]) ∧ k68.R 68 w' w.heap.size (New w) vt d.trees ∧ Kd.string.R 9 w' w.heap.size (New w) va d.approvals ∧ Below w.heap.size w w' := by
  obtain ⟨At, ct, Ae, ce, Ap, cp, hP⟩ := (h.drafts i g d hs hd).pre
  obtain ⟨Ad, cd, hbk, _, _⟩ := h.desk
  have ho := hok.get hd
  have hnew := heap_alloc_new w (.cells #[.int .i64 0, .int .i64 0, .string ⟨#[]⟩, .slice none 0 0, .slice none 0 0, .bool false] 49 (0, 0))
  have hBw := below_alloc (Below.refl w.heap.size w) (.cells #[.int .i64 0, .int .i64 0, .string ⟨#[]⟩, .slice none 0 0, .slice none 0 0, .bool false] 49 (0, 0))
  have c2 := blk_cell (blk_below hbk hBw) 2
  simp at c2
  have hl := (h.below hBw).map.look ((i : Int) + 1) hid
  rw [hp] at hl
  have HPB := Aside0.mk hP.blk
  have C40 := Aside0.mk (fun (W : World) (hW : W.cell? ⟨g, 2, none⟩ = some (.slice Ae d.earlier.length ce)) => newest_calls g d.earlier.length ce Ae W hW (by have := ho.1; omega))
  have C38 := Aside0.mk (fun (W : World) (hW : Below w.heap.size w W) => cloned d.trees At ct W ho.2.2.1 (Kd.C_below (Kd.F_now hP.trees) hW) hP.ct)
  have C35 := Aside0.mk (fun (W : World) (hW : Below w.heap.size w W) => clone_strs Ap cp d.approvals W (Kd.C_below hP.P.reads'.2.2 hW) (by have := ho.2.1; omega))
  clear h hok hid hs hd hp hP hbk ho
  go_enter Try.func21, Try.ntmps21
  go_wp2
  generalize (w.alloc (.cells #[.int .i64 0, .int .i64 0, .string ⟨#[]⟩, .slice none 0 0, .slice none 0 0, .bool false] 49 (0, 0))) = W at *
  have HB0 : Aside0 (Below w.heap.size w W.drew) := ⟨below_drew hBw⟩
  have HN0 : Aside0 (W.drew.heap[w.heap.size]? = some (.cells #[.int .i64 0, .int .i64 0, .string ⟨#[]⟩, .slice none 0 0, .slice none 0 0, .bool false] 49 (0, 0))) := ⟨hnew⟩
  have HG0 := Aside0.mk (blk_below HPB.out HB0.out)
  clear hBw hnew c2 hl
  have r2 := blk_cell HG0.out 2
  simp at r2
  have R2 := Aside0.mk r2
  clear r2
  have S0 := Aside0.mk (four_cells HG0.out)
  have hgl := Aside0.mk (blk_lt HPB.out)
  clear HPB
  go_region_held3 (fun w' => w'.cell? ⟨g, 0, none⟩ = some (.string d.author) ∧ w'.cell? ⟨g, 1, none⟩ = some (.slice At d.trees.length ct) ∧ w'.cell? ⟨g, 3, none⟩ = some (.slice Ap d.approvals.length cp) ∧ w'.cell? ⟨g, 4, none⟩ = some (.bool d.closed))
    (first
      | (with_reducible exact S0.out)
      | (with_reducible exact S1.out)
      | (with_reducible exact S2.out)
      | (with_reducible exact S3.out))
    (first
      | (go_at_call 40; refine (C40.out W.drew R2.out).mono ?_; rintro e w0 ⟨rfl, rfl⟩)
      | (go_at_call 38; refine (C38.out _ HB0.out).mono ?_; rintro e w1 ⟨v1, rfl, hR1, hB1⟩; obtain ⟨A3, c3, rfl⟩ := Kd.R_slice hR1; have HG1 := Aside0.mk (blk_below HG0.out hB1); have S1 := Aside0.mk (four_cells HG1.out); have HN1 := Aside0.mk (blk_below HN0.out hB1); have HB1 := Aside0.mk (below_step HB0.out hB1); have HR1 := Aside0.mk hR1; clear hR1 hB1)
      | (go_at_call 35; refine (C35.out _ HB1.out).mono ?_; rintro e w2 ⟨v2, rfl, hR2, hB2⟩; obtain ⟨A4, c4, rfl⟩ := Kd.R_slice hR2; have HG2 := Aside0.mk (blk_below HG1.out hB2); have S2 := Aside0.mk (four_cells HG2.out); have S3 := Aside0.mk (four_cells (dW_blk_far HG2.out (Nat.ne_of_lt hgl.out) (.int .i64 ((i : Int) + 1)) (.int .i64 ((d.earlier.length : Int) + 1)) (.string d.author) (.slice A3 d.trees.length c3) (.slice A4 d.approvals.length c4) (.bool d.closed))); have HN2 := Aside0.mk (blk_below HN1.out hB2); have HB2 := Aside0.mk (below_step HB1.out hB2); have HR3 := Aside0.mk (Kd.R_below HR1.out hB2); have HR2 := Aside0.mk hR2; clear hR2 hB2; have q0 := blk_cell HN2.out 0; have q1 := blk_cell HN2.out 1; have q2 := blk_cell HN2.out 2; have q3 := blk_cell HN2.out 3; have q4 := blk_cell HN2.out 4; have q5 := blk_cell HN2.out 5; have f0 := blk_frozen HN2.out 0; have f1 := blk_frozen HN2.out 1; have f2 := blk_frozen HN2.out 2; have f3 := blk_frozen HN2.out 3; have f4 := blk_frozen HN2.out 4; have f5 := blk_frozen HN2.out 5; simp at q0 q1 q2 q3 q4 q5))
  go_wp2
  have hlt0 : w.heap.size < W.drew.heap.size := blk_lt HN0.out
  have hlt1 : w.heap.size < w1.heap.size := blk_lt HN1.out
  refine bodyPost_ret (results_list (rs := [.cell 4 49, .tmp 5]) rfl (by simp) (.cell w.heap.size 49 _ (0, 0) _ rfl (dW_blk HN2.out) Try.underlying49 rfl (by kernel_rfl) (.tmp .nil))) rfl ?_
  exact ⟨_, _, rfl, R_new (R_far6 HR3.out hlt0 _ _ _ _ _ _) HB0.out, R_new (R_far6 HR2.out hlt1 _ _ _ _ _ _) HB1.out, dW_below HB2.out (Nat.le_refl _) _ _ _ _ _ _⟩

theorem draft_calls (w : World) (tag : Nat → Nat) (dp mb : Nat) (sb : List Nat) (D : Dk) (h : DeskAt w tag dp mb sb D) (hok : D.ok) (id : Int) (hid : (Lit.int .i64 id).wf = true) :
    Calls Try.prog 21 #[.pointer (some ⟨dp, 0, none⟩), .int .i64 id] w fun e w' => ∃ vt va, e = .returned (.tuple #[shownV (D.show_ id) vt va, .int .i64 (D.has id)]) ∧ k68.R 68 w' w.heap.size (New w) vt (D.show_ id).trees ∧ Kd.string.R 9 w' w.heap.size (New w) va (D.show_ id).approvals ∧ Below w.heap.size w w' := by
  unfold Dk.show_ Dk.has
  cases hg : D.get id with
  | none =>
    refine (draft_none w tag dp mb sb D h id hid hg).mono ?_
    rintro e w' ⟨rfl, hB⟩
    exact ⟨_, _, rfl, Kd.R_nil _ _ _ _ _, Kd.R_nil _ _ _ _ _, hB⟩
  | some d =>
    obtain ⟨i, g, rfl, hs, hd, hp⟩ := ptrOf_some h.len hg
    exact draft_some w tag dp mb sb D h hok i g d hid hs hd hp
theorem At.draft {w : World} {free : Nat → Prop} {dp mb : Nat} {D : Dk} {n : Nat} (h : At w free dp mb D n) (hn : n ≤ 90000) (id : Int) (hid : (Lit.int .i64 id).wf = true) :
    Calls Try.prog 21 #[.pointer (some ⟨dp, 0, none⟩), .int .i64 id] w fun e w' => ∃ vt va, e = .returned (.tuple #[shownV (D.show_ id) vt va, .int .i64 (D.has id)]) ∧ k68.R 68 w' w.heap.size (New w) vt (D.show_ id).trees ∧ Kd.string.R 9 w' w.heap.size (New w) va (D.show_ id).approvals ∧ Below w.heap.size w w' := by
  obtain ⟨hg, tag, sb, hD, ht⟩ := h
  exact draft_calls w tag dp mb sb D hD (hg.ok hn) id hid
end Go.Proofs.Ytkblcdpmdbofgaa.A
/- pentaglotlaw54.do: one operation. -/
namespace Go.Proofs.Ytkblcdpmdbofgaa.A
open Go.RowKit Go.Proofs.YtkblcdpmdbofgaaW.PrintWords Go.Proofs.YtkblcdpmdbofgaaW.PrintLast Go.Proofs.YtkblcdpmdbofgaaW.PrintMore
set_option linter.unusedVariables false
set_option linter.unusedSimpArgs false

def Dk.doOp (D : Dk) (x : S35) : Int × Int × Dk :=
  if x.f0 = 1 then D.opens x.f1 x.f4 else if x.f0 = 2 then D.amend x.f1 x.f2 x.f3 x.f4 else if x.f0 = 3 then (0, D.approve x.f1 x.f2 x.f3) else if x.f0 = 4 then (0, D.ready x.f2 x.f3, D) else if x.f0 = 5 then (0, D.close x.f2) else (0, 0, D)
def opOk (x : S35) : Prop := (Lit.int .i64 x.f0).wf = true ∧ (Lit.int .i64 x.f2).wf = true ∧ (Lit.int .i64 x.f3).wf = true ∧ bulkL x.f4 ≤ 2000000
/-- What 'do' does. -/
def Did (w : World) (free : Nat → Prop) (dp mb : Nat) (r : Int × Int × Dk) (n : Nat) (e : Ending) (w' : World) : Prop := e = .returned (.agg #[.int .i64 r.1, .int .i64 r.2.1]) ∧ At w' (fun k => free k ∧ k < w.heap.size) dp mb r.2.2 n ∧ Kp w w' (fun k => ¬ free k)
def atW (w : World) (x : S35) (A : Option Addr) (c : Nat) : World := (w.alloc (.cells #[.int .i64 x.f0, .string x.f1, .int .i64 x.f2, .int .i64 x.f3, .slice A x.f4.length c] 35 (0, 0))).alloc (.cells #[.int .i64 0, .int .i64 0] 37 (0, 0))
theorem atW_below (w : World) (x : S35) (A : Option Addr) (c : Nat) : Below w.heap.size w (atW w x A c) := below_alloc (below_alloc (Below.refl _ _) _) _
theorem atW_box (w : World) (x : S35) (A : Option Addr) (c : Nat) : (atW w x A c).heap[w.heap.size]? = some (.cells #[.int .i64 x.f0, .string x.f1, .int .i64 x.f2, .int .i64 x.f3, .slice A x.f4.length c] 35 (0, 0)) := blk_alloc (heap_alloc_new w _) _
theorem atW_res (w : World) (x : S35) (A : Option Addr) (c : Nat) : (atW w x A c).heap[w.heap.size + 1]? = some (.cells #[.int .i64 0, .int .i64 0] 37 (0, 0)) := by
  have h := heap_alloc_new (w.alloc (.cells #[.int .i64 x.f0, .string x.f1, .int .i64 x.f2, .int .i64 x.f3, .slice A x.f4.length c] 35 (0, 0))) (.cells #[.int .i64 0, .int .i64 0] 37 (0, 0))
  have e : (w.alloc (.cells #[.int .i64 x.f0, .string x.f1, .int .i64 x.f2, .int .i64 x.f3, .slice A x.f4.length c] 35 (0, 0))).heap.size = w.heap.size + 1 := by simp
  rw [e] at h
  exact h

theorem store_two {w w1 w2 : World} {free : Nat → Prop} {dp mb g : Nat} {D1 : Dk} {n : Nat} (hB : Below w.heap.size w w1) (hA : At w2 (fun k => (free k ∨ w.heap.size ≤ k) ∧ k < w1.heap.size) dp mb D1 n) (hK : Kp w1 w2 (fun k => ¬ (free k ∨ w.heap.size ≤ k))) (hg : w1.heap[g]? = some (.cells #[.int .i64 0, .int .i64 0] 37 (0, 0))) (h0 : w.heap.size ≤ g) (a b : Value) :
    w2.heap[g]? = some (.cells #[.int .i64 0, .int .i64 0] 37 (0, 0)) ∧ ((w2.setCell ⟨g, 0, none⟩ a).setCell ⟨g, 1, none⟩ b).heap[g]? = some (.cells #[a, b] 37 (0, 0)) ∧ At ((w2.setCell ⟨g, 0, none⟩ a).setCell ⟨g, 1, none⟩ b) (fun k => free k ∧ k < w.heap.size) dp mb D1 n ∧ Kp w ((w2.setCell ⟨g, 0, none⟩ a).setCell ⟨g, 1, none⟩ b) (fun k => ¬ free k) := by
  have hlt := blk_lt hg
  have hb2 : w2.heap[g]? = some (.cells #[.int .i64 0, .int .i64 0] 37 (0, 0)) := hK.blk hg (fun h => h (.inr h0))
  have hKs : Kp w2 ((w2.setCell ⟨g, 0, none⟩ a).setCell ⟨g, 1, none⟩ b) (fun k => k = g) := (Kp.setCell w2 ⟨g, 0, none⟩ a).then_ (Kp.setCell _ ⟨g, 1, none⟩ b) (fun k hk => .inl hk)
  refine ⟨hb2, ?_, ?_, ?_⟩
  · have := blk_set (blk_set hb2 0 a) 1 b
    simpa using this
  · exact (hA.keep (hKs.mono (fun k hk => by rw [hk]; exact ⟨.inr h0, hlt⟩))).mono (fun k hk => .inl ⟨.inl hk.1, Nat.lt_of_lt_of_le hk.2 hB.size⟩) (Nat.le_refl _)
  · exact (((Kp.of_below hB (fun _ => False)).mono (fun _ h => h.elim)).then_ (hK.mono (S' := fun k => ¬ free k) (fun k hk hf => hk (.inl hf))) (fun k hk => .inl hk)).then_ hKs (fun k hk => .inr (by rw [hk]; exact h0))

section
variable {w : World} {free : Nat → Prop} {dp mb : Nat} {D : Dk} {n : Nat}
set_option maxHeartbeats 1000000 in
set_option maxRecDepth 100000 in
theorem do_open (h : At w free dp mb D n) (hn : n ≤ 90000) (x : S35) (A : Option Addr) (c : Nat) (hx : opOk x) (h1 : x.f0 = 1) (hr : k68.F w free A x.f4.length x.f4) (hc : x.f4.length ≤ c) :
    Calls Try.prog 15 #[.pointer (some ⟨dp, 0, none⟩), .agg #[.int .i64 x.f0, .string x.f1, .int .i64 x.f2, .int .i64 x.f3, .slice A x.f4.length c]] w (Did w free dp mb (D.opens x.f1 x.f4) n) := by
  have HB := atW_below w x A c
  have HX := atW_box w x A c
  have HRs := atW_res w x A c
  have C0 := (h.grow HB).open_ hn x.f1 x.f4 A c hx.2.2.2 (Kd.C_below (Kd.F_now hr) HB) hc
  simp only [two] at C0
  have C := Aside0.mk C0
  have HS := Aside0.mk (fun (w2 : World) (D1 : Dk) hA hK => store_two (g := w.heap.size + 1) (w2 := w2) (free := free) (dp := dp) (mb := mb) (D1 := D1) (n := n) HB hA hK HRs (Nat.le_succ _))
  obtain ⟨x0, x1, x2, x3, x4⟩ := x
  simp only at *
  subst h1
  have k0 := blk_cell HX 0
  have k1 := blk_cell HX 1
  have k4 := blk_cell HX 4
  simp [atW] at k0 k1 k4
  clear h hx hr hc HX HRs C0
  go_enter Try.func15, Try.ntmps15
  go_wp2_with (go_at_call 31; refine C.out.mono ?_; rintro e w2 ⟨rfl, hA, hK⟩; have HE := Aside0.mk (HS.out _ _ hA hK); have q0 := blk_cell (HE.out (.int .i64 0) (.int .i64 0)).1 0; have q1 := blk_cell (HE.out (.int .i64 0) (.int .i64 0)).1 1; have f0 := blk_frozen (HE.out (.int .i64 0) (.int .i64 0)).1 0; have f1 := blk_frozen (HE.out (.int .i64 0) (.int .i64 0)).1 1; simp at q0 q1; clear hA hK)
  refine bodyPost_ret (results_single rfl (.cell (w.heap.size + 1) 37 _ (0, 0) _ rfl (HE.out _ _).2.1 Try.underlying37 rfl (by kernel_rfl) .nil)) rfl ?_
  exact ⟨rfl, (HE.out _ _).2.2.1, (HE.out _ _).2.2.2⟩
set_option maxHeartbeats 1000000 in
set_option maxRecDepth 100000 in
theorem do_amend (h : At w free dp mb D n) (hn : n ≤ 90000) (x : S35) (A : Option Addr) (c : Nat) (hx : opOk x) (h1 : x.f0 = 2) (hr : k68.F w free A x.f4.length x.f4) (hc : x.f4.length ≤ c) :
    Calls Try.prog 15 #[.pointer (some ⟨dp, 0, none⟩), .agg #[.int .i64 x.f0, .string x.f1, .int .i64 x.f2, .int .i64 x.f3, .slice A x.f4.length c]] w (Did w free dp mb (D.amend x.f1 x.f2 x.f3 x.f4) n) := by
  have HB := atW_below w x A c
  have HX := atW_box w x A c
  have HRs := atW_res w x A c
  have C0 := (h.grow HB).amend hn x.f1 x.f2 x.f3 x.f4 A c hx.2.1 hx.2.2.2 (Kd.F_mono (Kd.F_step (Kd.F_bound hr) (fun k hk _ => HB.block k hk.2)) (fun k hk => .inl hk.1)) hc
  simp only [two] at C0
  have C := Aside0.mk C0
  have HS := Aside0.mk (fun (w2 : World) (D1 : Dk) hA hK => store_two (g := w.heap.size + 1) (w2 := w2) (free := free) (dp := dp) (mb := mb) (D1 := D1) (n := n) HB hA hK HRs (Nat.le_succ _))
  obtain ⟨x0, x1, x2, x3, x4⟩ := x
  simp only at *
  subst h1
  have k0 := blk_cell HX 0
  have k1 := blk_cell HX 1
  have k2 := blk_cell HX 2
  have k3 := blk_cell HX 3
  have k4 := blk_cell HX 4
  simp [atW] at k0 k1 k2 k3 k4
  clear h hx hr hc HX HRs C0
  go_enter Try.func15, Try.ntmps15
  go_wp2_with (go_at_call 20; refine C.out.mono ?_; rintro e w2 ⟨rfl, hA, hK⟩; have HE := Aside0.mk (HS.out _ _ hA hK); have q0 := blk_cell (HE.out (.int .i64 0) (.int .i64 0)).1 0; have q1 := blk_cell (HE.out (.int .i64 0) (.int .i64 0)).1 1; have f0 := blk_frozen (HE.out (.int .i64 0) (.int .i64 0)).1 0; have f1 := blk_frozen (HE.out (.int .i64 0) (.int .i64 0)).1 1; simp at q0 q1; clear hA hK)
  refine bodyPost_ret (results_single rfl (.cell (w.heap.size + 1) 37 _ (0, 0) _ rfl (HE.out _ _).2.1 Try.underlying37 rfl (by kernel_rfl) .nil)) rfl ?_
  exact ⟨rfl, (HE.out _ _).2.2.1, (HE.out _ _).2.2.2⟩
set_option maxHeartbeats 1000000 in
set_option maxRecDepth 100000 in
theorem do_approve (h : At w free dp mb D n) (hn : n ≤ 90000) (x : S35) (A : Option Addr) (c : Nat) (hx : opOk x) (h1 : x.f0 = 3) (hr : k68.F w free A x.f4.length x.f4) (hc : x.f4.length ≤ c) :
    Calls Try.prog 15 #[.pointer (some ⟨dp, 0, none⟩), .agg #[.int .i64 x.f0, .string x.f1, .int .i64 x.f2, .int .i64 x.f3, .slice A x.f4.length c]] w (Did w free dp mb (0, D.approve x.f1 x.f2 x.f3) (n + 1)) := by
  have HB := atW_below w x A c
  have HX := atW_box w x A c
  have HRs := atW_res w x A c
  have C0 := (h.grow HB).approve hn x.f1 x.f2 x.f3 hx.2.1
  have C := Aside0.mk C0
  have HS := Aside0.mk (fun (w2 : World) (D1 : Dk) hA hK => store_two (g := w.heap.size + 1) (w2 := w2) (free := free) (dp := dp) (mb := mb) (D1 := D1) (n := n + 1) HB hA hK HRs (Nat.le_succ _))
  obtain ⟨x0, x1, x2, x3, x4⟩ := x
  simp only at *
  subst h1
  have k0 := blk_cell HX 0
  have k1 := blk_cell HX 1
  have k2 := blk_cell HX 2
  have k3 := blk_cell HX 3
  simp [atW] at k0 k1 k2 k3
  clear h hx hr hc HX HRs C0
  go_enter Try.func15, Try.ntmps15
  go_wp2_with (go_at_call 30; refine C.out.mono ?_; rintro e w2 ⟨rfl, hA, hK⟩; have HE := Aside0.mk (HS.out _ _ hA hK); have q0 := blk_cell (HE.out (.int .i64 0) (.int .i64 0)).1 0; have q1 := blk_cell (HE.out (.int .i64 0) (.int .i64 0)).1 1; have f0 := blk_frozen (HE.out (.int .i64 0) (.int .i64 0)).1 0; have f1 := blk_frozen (HE.out (.int .i64 0) (.int .i64 0)).1 1; simp at q0 q1; clear hA hK)
  refine bodyPost_ret (results_single rfl (.cell (w.heap.size + 1) 37 _ (0, 0) _ rfl (HE.out _ _).2.1 Try.underlying37 rfl (by kernel_rfl) .nil)) rfl ?_
  exact ⟨rfl, (HE.out _ _).2.2.1, (HE.out _ _).2.2.2⟩
set_option maxHeartbeats 1000000 in
set_option maxRecDepth 100000 in
theorem do_ready (h : At w free dp mb D n) (hn : n ≤ 90000) (x : S35) (A : Option Addr) (c : Nat) (hx : opOk x) (h1 : x.f0 = 4) (hr : k68.F w free A x.f4.length x.f4) (hc : x.f4.length ≤ c) :
    Calls Try.prog 15 #[.pointer (some ⟨dp, 0, none⟩), .agg #[.int .i64 x.f0, .string x.f1, .int .i64 x.f2, .int .i64 x.f3, .slice A x.f4.length c]] w (Did w free dp mb (0, D.ready x.f2 x.f3, D) n) := by
  have HB := atW_below w x A c
  have HX := atW_box w x A c
  have HRs := atW_res w x A c
  have C0 := (h.grow HB).ready hn x.f2 x.f3 hx.2.1
  have C := Aside0.mk C0
  have QQ := Aside0.mk (fun (w2 : World) (hd : Drawn0 (atW w x A c) w2) => (show At w2 (fun k => (free k ∨ w.heap.size ≤ k) ∧ k < (atW w x A c).heap.size) dp mb D n ∧ Kp (atW w x A c) w2 (fun k => ¬ (free k ∨ w.heap.size ≤ k)) from by
    obtain ⟨m, rfl⟩ := hd
    exact ⟨((h.grow HB).grow (pw_below_drewN (Below.refl _ _) m)).mono (fun k hk => .inl hk.1) (Nat.le_refl _), Kp.drewN _ _ _⟩))
  have HS := Aside0.mk (fun (w2 : World) (D1 : Dk) hA hK => store_two (g := w.heap.size + 1) (w2 := w2) (free := free) (dp := dp) (mb := mb) (D1 := D1) (n := n) HB hA hK HRs (Nat.le_succ _))
  obtain ⟨x0, x1, x2, x3, x4⟩ := x
  simp only at *
  subst h1
  have k0 := blk_cell HX 0
  have k2 := blk_cell HX 2
  have k3 := blk_cell HX 3
  simp [atW] at k0 k2 k3
  clear h hx hr hc HX HRs C0
  go_enter Try.func15, Try.ntmps15
  go_wp2_with (go_at_call 17; refine C.out.mono ?_; rintro e w2 ⟨rfl, hdr⟩; obtain ⟨hA, hK⟩ := QQ.out _ hdr; have HE := Aside0.mk (HS.out _ _ hA hK); have q0 := blk_cell (HE.out (.int .i64 0) (.int .i64 0)).1 0; have q1 := blk_cell (HE.out (.int .i64 0) (.int .i64 0)).1 1; have f0 := blk_frozen (HE.out (.int .i64 0) (.int .i64 0)).1 0; have f1 := blk_frozen (HE.out (.int .i64 0) (.int .i64 0)).1 1; simp at q0 q1; clear hA hK)
  refine bodyPost_ret (results_single rfl (.cell (w.heap.size + 1) 37 _ (0, 0) _ rfl (HE.out _ _).2.1 Try.underlying37 rfl (by kernel_rfl) .nil)) rfl ?_
  exact ⟨rfl, (HE.out _ _).2.2.1, (HE.out _ _).2.2.2⟩
set_option maxHeartbeats 1000000 in
set_option maxRecDepth 100000 in
theorem do_close (h : At w free dp mb D n) (hn : n ≤ 90000) (x : S35) (A : Option Addr) (c : Nat) (hx : opOk x) (h1 : x.f0 = 5) (hr : k68.F w free A x.f4.length x.f4) (hc : x.f4.length ≤ c) :
    Calls Try.prog 15 #[.pointer (some ⟨dp, 0, none⟩), .agg #[.int .i64 x.f0, .string x.f1, .int .i64 x.f2, .int .i64 x.f3, .slice A x.f4.length c]] w (Did w free dp mb (0, D.close x.f2) n) := by
  have HB := atW_below w x A c
  have HX := atW_box w x A c
  have HRs := atW_res w x A c
  have C0 := (h.grow HB).close x.f2 hx.2.1
  have C := Aside0.mk C0
  have HS := Aside0.mk (fun (w2 : World) (D1 : Dk) hA hK => store_two (g := w.heap.size + 1) (w2 := w2) (free := free) (dp := dp) (mb := mb) (D1 := D1) (n := n) HB hA hK HRs (Nat.le_succ _))
  obtain ⟨x0, x1, x2, x3, x4⟩ := x
  simp only at *
  subst h1
  have k0 := blk_cell HX 0
  have k2 := blk_cell HX 2
  simp [atW] at k0 k2
  clear h hx hr hc HX HRs C0
  go_enter Try.func15, Try.ntmps15
  go_wp2_with (go_at_call 29; refine C.out.mono ?_; rintro e w2 ⟨rfl, hA, hK⟩; have HE := Aside0.mk (HS.out _ _ hA hK); have q0 := blk_cell (HE.out (.int .i64 0) (.int .i64 0)).1 0; have q1 := blk_cell (HE.out (.int .i64 0) (.int .i64 0)).1 1; have f0 := blk_frozen (HE.out (.int .i64 0) (.int .i64 0)).1 0; have f1 := blk_frozen (HE.out (.int .i64 0) (.int .i64 0)).1 1; simp at q0 q1; clear hA hK)
  refine bodyPost_ret (results_single rfl (.cell (w.heap.size + 1) 37 _ (0, 0) _ rfl (HE.out _ _).2.1 Try.underlying37 rfl (by kernel_rfl) .nil)) rfl ?_
  exact ⟨rfl, (HE.out _ _).2.2.1, (HE.out _ _).2.2.2⟩
end
end Go.Proofs.Ytkblcdpmdbofgaa.A
/- pentaglotlaw54.do: the whole. -/
namespace Go.Proofs.Ytkblcdpmdbofgaa.A
open Go.RowKit Go.Proofs.YtkblcdpmdbofgaaW.PrintWords Go.Proofs.YtkblcdpmdbofgaaW.PrintLast Go.Proofs.YtkblcdpmdbofgaaW.PrintMore
set_option linter.unusedVariables false
set_option linter.unusedSimpArgs false
section
variable {w : World} {free : Nat → Prop} {dp mb : Nat} {D : Dk} {n : Nat}
set_option maxHeartbeats 1000000 in
set_option maxRecDepth 100000 in
theorem do_none (h : At w free dp mb D n) (x : S35) (A : Option Addr) (c : Nat) (h1 : x.f0 ≠ 1) (h2 : x.f0 ≠ 2) (h3 : x.f0 ≠ 3) (h4 : x.f0 ≠ 4) (h5 : x.f0 ≠ 5) :
    Calls Try.prog 15 #[.pointer (some ⟨dp, 0, none⟩), .agg #[.int .i64 x.f0, .string x.f1, .int .i64 x.f2, .int .i64 x.f3, .slice A x.f4.length c]] w (Did w free dp mb (0, 0, D) n) := by
  have HB := atW_below w x A c
  have HX := atW_box w x A c
  have HRs := atW_res w x A c
  have HE := Aside0.mk (store_two (g := w.heap.size + 1) (w2 := atW w x A c) HB ((h.grow HB).mono (fun k hk => hk.1) (Nat.le_refl _)) (Kp.refl _ _) HRs (Nat.le_succ _))
  have HW := Aside0.mk h
  obtain ⟨x0, x1, x2, x3, x4⟩ := x
  simp only at *
  have k0 := blk_cell HX 0
  have q0 := blk_cell HRs 0
  have q1 := blk_cell HRs 1
  have f0 := blk_frozen HRs 0
  have f1 := blk_frozen HRs 1
  simp [atW] at k0
  simp at q0 q1
  unfold atW at q0 q1 f0 f1
  have g1 : (x0 == 1) = false := beq_eq_false_iff_ne.mpr h1
  have g2 : (x0 == 2) = false := beq_eq_false_iff_ne.mpr h2
  have g3 : (x0 == 3) = false := beq_eq_false_iff_ne.mpr h3
  have g4 : (x0 == 4) = false := beq_eq_false_iff_ne.mpr h4
  have g5 : (x0 == 5) = false := beq_eq_false_iff_ne.mpr h5
  have HRR := Aside0.mk HRs
  clear h HX HRs h1 h2 h3 h4 h5
  go_enter Try.func15, Try.ntmps15
  go_wp2
  refine bodyPost_ret (results_single rfl (.cell (w.heap.size + 1) 37 _ (0, 0) _ rfl HRR.out Try.underlying37 rfl (by kernel_rfl) .nil)) rfl ?_
  exact ⟨rfl, ((HW.out.grow HB).mono (fun k hk => .inl hk.1) (Nat.le_refl _)), Kp.of_below HB _⟩

theorem Did.mono {r : Int × Int × Dk} {m : Nat} {e : Ending} {w' : World} (h : Did w free dp mb r n e w') (hn : n ≤ m) : Did w free dp mb r m e w' := ⟨h.1, h.2.1.mono (fun _ hk => hk) hn, h.2.2⟩
theorem do_calls (h : At w free dp mb D n) (hn : n ≤ 90000) (x : S35) (A : Option Addr) (c : Nat) (hx : opOk x) (hr : k68.F w free A x.f4.length x.f4) (hc : x.f4.length ≤ c) :
    Calls Try.prog 15 #[.pointer (some ⟨dp, 0, none⟩), .agg #[.int .i64 x.f0, .string x.f1, .int .i64 x.f2, .int .i64 x.f3, .slice A x.f4.length c]] w (Did w free dp mb (D.doOp x) (n + 1)) := by
  unfold Dk.doOp
  by_cases h1 : x.f0 = 1
  · rw [if_pos h1]; exact (do_open h hn x A c hx h1 hr hc).mono (fun e w' hd => hd.mono (Nat.le_succ n))
  rw [if_neg h1]
  by_cases h2 : x.f0 = 2
  · rw [if_pos h2]; exact (do_amend h hn x A c hx h2 hr hc).mono (fun e w' hd => hd.mono (Nat.le_succ n))
  rw [if_neg h2]
  by_cases h3 : x.f0 = 3
  · rw [if_pos h3]; exact do_approve h hn x A c hx h3 hr hc
  rw [if_neg h3]
  by_cases h4 : x.f0 = 4
  · rw [if_pos h4]; exact (do_ready h hn x A c hx h4 hr hc).mono (fun e w' hd => hd.mono (Nat.le_succ n))
  rw [if_neg h4]
  by_cases h5 : x.f0 = 5
  · rw [if_pos h5]; exact (do_close h hn x A c hx h5 hr hc).mono (fun e w' hd => hd.mono (Nat.le_succ n))
  rw [if_neg h5]
  exact (do_none h x A c h1 h2 h3 h4 h5).mono (fun e w' hd => hd.mono (Nat.le_succ n))
end
end Go.Proofs.Ytkblcdpmdbofgaa.A
/- pentaglotlaw54.few; the desk behind a list of operations. -/
namespace Go.Proofs.Ytkblcdpmdbofgaa.A
open Go.RowKit Go.Proofs.YtkblcdpmdbofgaaW.PrintWords Go.Proofs.YtkblcdpmdbofgaaW.PrintLast Go.Proofs.YtkblcdpmdbofgaaW.PrintMore
set_option linter.unusedVariables false
set_option linter.unusedSimpArgs false

theorem heap68 : Kd.Heap k68 := Kd.heap_fix (fun d hd => Kd.heap_iso _ (Kd.heap_pair Kd.heap_string (Kd.heap_pair (Kd.heap_slice 3 (Kd.heap_int _)) (Kd.heap_slice 68 hd))))

def fewS (l : List S35) : Bool := l.all (fun x => decide (x.f4.length ≤ 10)) && decide (l.length ≤ 40)
theorem rd35_cons (pre : List S35) (y : S35) (r : List S35) : rd_T35 (pre ++ y :: r) (pre.length : Int) = y := by
  unfold rd_T35
  rw [List.getD_eq_getElem?_getD, Int.toNat_natCast, List.getElem?_append_right (Nat.le_refl _)]
  simp
theorem few_ev : ∀ (post pre : List S35), pre.length + post.length ≤ 2000000 →
    Ev (fun k => pentaglotlaw54_few.l0 k (pre ++ post) (pre.length : Int)) (post.all (fun x => decide (x.f4.length ≤ 10)) && decide ((pre ++ post).length ≤ 40))
  | [], pre, hl => by
    refine Ev.step (f := fun _ => some (decide (((pre ++ []).length : Int) ≤ 40))) (fun k => ?_) ?_
    · rw [pentaglotlaw54_few.l0, if_neg (by simp)]
    · have e : decide (((pre ++ ([] : List S35)).length : Int) ≤ 40) = decide ((pre ++ ([] : List S35)).length ≤ 40) := by
        by_cases h : (pre ++ ([] : List S35)).length ≤ 40
        · rw [decide_eq_true h, decide_eq_true (by omega)]
        · rw [decide_eq_false h, decide_eq_false (by omega)]
      rw [e]
      simpa using Ev.now _
  | y :: r, pre, hl => by
    simp only [List.length_cons] at hl
    by_cases h : y.f4.length ≤ 10
    · have hq := few_ev r (pre ++ [y]) (by simp; omega)
      have e1 : pre ++ [y] ++ r = pre ++ y :: r := by simp
      have e2 : ((pre ++ [y]).length : Int) = (pre.length : Int) + 1 := by simp
      rw [e1, e2] at hq
      rw [List.all_cons, decide_eq_true h, Bool.true_and]
      refine Ev.step (fun k => ?_) hq
      rw [pentaglotlaw54_few.l0, if_pos (by simp; omega), if_pos (by omega), rd35_cons, if_neg (by omega), wrap_small (by omega) (by omega)]
    · refine Ev.step (f := fun _ => some false) (fun k => ?_) (by rw [List.all_cons, decide_eq_false h]; simpa using Ev.now _)
      rw [pentaglotlaw54_few.l0, if_pos (by simp; omega), if_pos (by omega), rd35_cons, if_pos (by omega)]
theorem few_calls (A : Option Addr) (c : Nat) (l : List S35) (w : World) (hl : l.length ≤ 2000000) (hr : k35.C w A l.length l) (hc : l.length ≤ c) :
    Calls Try.prog 14 #[.slice A l.length c] w fun e w' => e = .returned (.bool (fewS l)) ∧ Drawn0 w w' := by
  obtain ⟨k, hk⟩ := (few_ev l [] (by simpa using hl)).rounds
  exact pentaglotlaw54_few.calls k A c l (fewS l) w hr hc hk
theorem few_short {l : List S35} (h : fewS l = true) : l.length ≤ 40 := by
  unfold fewS at h
  simp only [Bool.and_eq_true, decide_eq_true_eq] at h
  exact h.2

/-- The desk behind a list of operations. -/
def Dk.run (D : Dk) : List S35 → Dk
  | [] => D
  | x :: r => (D.doOp x).2.2.run r
theorem Dk.run_append (D : Dk) (l : List S35) (x : S35) : D.run (l ++ [x]) = ((D.run l).doOp x).2.2 := by
  induction l generalizing D with
  | nil => rfl
  | cons y r ih => exact ih _
theorem take_rd35 (l : List S35) (x : Int) (h0 : 0 ≤ x) (h1 : x < l.length) : l.take (x + 1).toNat = l.take x.toNat ++ [rd_T35 l x] := by
  have e : (x + 1).toNat = x.toNat + 1 := by omega
  rw [e, List.take_succ_eq_append_getElem (by omega)]
  unfold rd_T35
  rw [List.getD_eq_getElem?_getD, List.getElem?_eq_getElem (by omega)]
  rfl
theorem rd35_mem (l : List S35) (x : Int) (h0 : 0 ≤ x) (h1 : x < l.length) : rd_T35 l x ∈ l := by
  unfold rd_T35
  rw [List.getD_eq_getElem?_getD, List.getElem?_eq_getElem (by omega)]
  exact List.getElem_mem _
end Go.Proofs.Ytkblcdpmdbofgaa.A
/- pentaglotlaw54.play. -/
namespace Go.Proofs.Ytkblcdpmdbofgaa.A
open Go.RowKit Go.Proofs.YtkblcdpmdbofgaaW.PrintWords Go.Proofs.YtkblcdpmdbofgaaW.PrintLast Go.Proofs.YtkblcdpmdbofgaaW.PrintMore
set_option linter.unusedVariables false
set_option linter.unusedSimpArgs false

/-- The operations of a list, handed to the desk. -/
theorem Did.stand {w0 w w' : World} {dp mb : Nat} {r : Int × Int × Dk} {n : Nat} {e : Ending} (h : Did w (fun k => k < w0.heap.size) dp mb r n e w') (hK : Kept0 w0 w) : e = .returned (.agg #[.int .i64 r.1, .int .i64 r.2.1]) ∧ Stand w0 w' dp mb r.2.2 n :=
  ⟨h.1, h.2.1.mono (fun k hk => ⟨hk, Nat.lt_of_lt_of_le hk hK.size⟩) (Nat.le_refl _), hK.then_ h.2.2 (fun k hk => Nat.le_of_not_lt hk)⟩
theorem Stand.do_ {w0 w : World} {dp mb : Nat} {D : Dk} {n : Nat} (h : Stand w0 w dp mb D n) (hn : n ≤ 90000) (x : S35) (A : Option Addr) (c : Nat) (hx : opOk x) (hr : k68.C w0 A x.f4.length x.f4) (hc : x.f4.length ≤ c) :
    Calls Try.prog 15 #[.pointer (some ⟨dp, 0, none⟩), .agg #[.int .i64 x.f0, .string x.f1, .int .i64 x.f2, .int .i64 x.f3, .slice A x.f4.length c]] w fun e w' => e = .returned (.agg #[.int .i64 (D.doOp x).1, .int .i64 (D.doOp x).2.1]) ∧ Stand w0 w' dp mb (D.doOp x).2.2 (n + 1) :=
  (do_calls h.1 hn x A c hx (Kd.F_step (Kd.C_F heap68 hr) (fun k hk hl => h.2.block k hk (fun f => f))) hc).mono (fun e w' hd => hd.stand h.2)

def Played (w : World) (l : List ByteArray) (needed : Int) (ops : List S35) (e : Ending) (w' : World) : Prop :=
  if (canNew l needed && fewS ops) = true then ∃ dp mb, e = .returned (.pointer (some ⟨dp, 0, none⟩)) ∧ Stand w w' dp mb (Dk.run ⟨l, needed, []⟩ ops) ops.length
  else e = .returned (.pointer none) ∧ Below w.heap.size w w'

set_option maxHeartbeats 1000000 in
set_option maxRecDepth 100000 in
theorem play_calls (A : Option Addr) (c : Nat) (l : List ByteArray) (needed : Int) (Ao : Option Addr) (co : Nat) (ops : List S35) (w : World) (hr : Kd.string.C w A l.length l) (hcp : l.length ≤ c) (hsz : ∀ x ∈ l, x.size ≤ 2000000)
    (hro : k35.C w Ao ops.length ops) (hco : ops.length ≤ co) (hlo : ops.length ≤ 2000000) (hok : ∀ x ∈ ops, opOk x) :
    Calls Try.prog 18 #[.slice A l.length c, .int .i64 needed, .slice Ao ops.length co] w (Played w l needed ops) := by
  have C11 := Aside0.mk (new_calls A c l needed w hr hcp hsz)
  have C14 := Aside0.mk (fun (W : World) (hW : Below w.heap.size w W) => few_calls Ao co ops W hlo (Kd.C_below hro hW) hco)
  have HR := Aside0.mk hro
  have HO := Aside0.mk hok
  clear hr hcp hsz hro hco hlo hok
  cases hn : canNew l needed with
  | false =>
    have HN := Aside0.mk (fun e w' (h : Made w l needed e w') => (show e = .returned (.tuple #[.pointer none, .int .i64 1]) ∧ Below w.heap.size w w' by unfold Made at h; rwa [hn, if_neg (by simp)] at h))
    have HF : Aside0 (∀ w', Below w.heap.size w w' → Played w l needed ops (.returned (.pointer none)) w') := ⟨fun w' hB => by unfold Played; rw [hn, if_neg (by simp)]; exact ⟨rfl, hB⟩⟩
    clear hn
    go_enter Try.func18, Try.ntmps18
    go_wp2_with (go_at_call 11; refine C11.out.mono ?_; rintro e w2 hM; obtain ⟨rfl, hB⟩ := HN.out _ _ hM; have HB2 := Aside0.mk hB; clear hM hB)
    go_ret
    exact HF.out _ HB2.out
  | true =>
    have HN := Aside0.mk hn
    cases hf : fewS ops with
    | false =>
      rw [hf] at C14
      have HF : Aside0 (∀ w', Below w.heap.size w w' → Played w l needed ops (.returned (.pointer none)) w') := ⟨fun w' hB => by unfold Played; rw [hf, hn, if_neg (by simp)]; exact ⟨rfl, hB⟩⟩
      clear hn hf
      go_enter Try.func18, Try.ntmps18
      go_wp2_with (first | (go_at_call 11; refine C11.out.mono ?_; rintro e w2 hM; obtain ⟨dp, mb, rfl, hS⟩ := new_stand hM HN.out (Kept0.refl _); have S := Aside0.mk hS; clear hM hS) | (go_at_call 14; refine (C14.out _ S.out.2.to).mono ?_; rintro e w3 ⟨rfl, ⟨m, rfl⟩⟩))
      go_ret
      exact HF.out _ (pw_below_drewN S.out.2.to _)
    | true =>
      rw [hf] at C14
      have HF : Aside0 (∀ dp mb w', Stand w w' dp mb (Dk.run ⟨l, needed, []⟩ ops) ops.length → Played w l needed ops (.returned (.pointer (some ⟨dp, 0, none⟩))) w') := ⟨fun dp mb w' hB => by unfold Played; rw [hf, hn, if_pos (by simp)]; exact ⟨dp, mb, rfl, hB⟩⟩
      have hl40 := few_short hf
      clear hn hf
      go_enter Try.func18, Try.ntmps18
      go_wp2_with (first | (go_at_call 11; refine C11.out.mono ?_; rintro e w2 hM; obtain ⟨dp, mb, rfl, hS⟩ := new_stand hM HN.out (Kept0.refl _); have S := Aside0.mk hS; clear hM hS) | (go_at_call 14; refine (C14.out _ S.out.2.to).mono ?_; rintro e w3 ⟨rfl, ⟨m, rfl⟩⟩))
      go_loopw [9] (fun i w' => ∃ x : Int, i = .int .i64 x ∧ 0 ≤ x ∧ x ≤ ops.length ∧ Aside0 (Stand w w' dp mb (Dk.run ⟨l, needed, []⟩ (ops.take x.toNat)) x.toNat)) (fun i _ => ops.length - (intOf i).toNat)
      case atStart => exact ⟨0, rfl, Int.le_refl _, Int.natCast_nonneg _, ⟨S.out.drewN m⟩⟩
      case round =>
        clear S
        obtain ⟨x, rfl, hx, hk, S⟩ := hrel
        by_cases hlt : x < ops.length
        · obtain ⟨ad, A4, c4, e, hx0, hx1, hx2, hx3, hx4, hl4, hi4⟩ := at_T35 HR.out x hx hlt
          cases e
          have D := Aside0.mk (S.out.do_ (by omega) (rd_T35 ops x) A4 c4 (HO.out _ (rd35_mem ops x hx hlt)) hi4 hl4)
          have HB := S.out.2.to
          clear hi4 hl4
          replace hx0 := (HB.cell (World.block_lt_of_cell? w _ hx0)).trans hx0
          replace hx1 := (HB.cell (World.block_lt_of_cell? w _ hx1)).trans hx1
          replace hx2 := (HB.cell (World.block_lt_of_cell? w _ hx2)).trans hx2
          replace hx3 := (HB.cell (World.block_lt_of_cell? w _ hx3)).trans hx3
          replace hx4 := (HB.cell (World.block_lt_of_cell? w _ hx4)).trans hx4
          have p1 := eq_true hx
          have q1 := eq_true hlt
          have HT := Aside0.mk (take_rd35 ops x hx hlt)
          clear HB
          go_wp2_with (go_at_call 15; refine D.out.mono ?_; rintro e w4 ⟨rfl, hS⟩; have S2 := Aside0.mk hS; clear hS)
          go_roundw
          case rel => exact ⟨x + 1, rfl, by omega, by omega, ⟨by rw [HT.out, Dk.run_append, show (x + 1).toNat = x.toNat + 1 by omega]; exact S2.out⟩⟩
          case measure => simp [intOf]; omega
        · go_wp2
          go_ret
          have e : x.toNat = ops.length := by omega
          have := S.out
          rw [e, List.take_length] at this
          exact HF.out _ _ _ this
end Go.Proofs.Ytkblcdpmdbofgaa.A
/- Lists that are equal are told to be the same. -/
namespace Go.Proofs.Ytkblcdpmdbofgaa.A
open Go.RowKit Go.Proofs.YtkblcdpmdbofgaaW.PrintWords Go.Proofs.YtkblcdpmdbofgaaW.PrintLast Go.Proofs.YtkblcdpmdbofgaaW.PrintMore
set_option linter.unusedVariables false
set_option linter.unusedSimpArgs false

theorem sameStrings_self (l : List ByteArray) (hl : l.length ≤ 2000000) : Ev (fun k => pentaglotref54_SameStrings.f k l l) true := by
  have h : ∀ (n : Nat) (x : Int), 0 ≤ x → x + n = (l.length : Int) → Ev (fun k => pentaglotref54_SameStrings.l0 k l l x) true := by
    intro n
    induction n with
    | zero =>
      intro x h0 hn
      refine Ev.step (f := fun _ => some true) (fun k => ?_) (Ev.now _)
      rw [pentaglotref54_SameStrings.l0, if_neg (by omega)]
    | succ n ih =>
      intro x h0 hn
      refine Ev.step (fun k => ?_) (ih (x + 1) (by omega) (by omega))
      rw [pentaglotref54_SameStrings.l0, if_pos (by omega), if_pos h0, if_pos (by omega), if_pos rfl, wrap_small (by omega) (by omega)]
  unfold pentaglotref54_SameStrings.f
  simp only [if_true]
  exact h l.length 0 (Int.le_refl _) (by omega)
theorem sameInts_self (l : List Int) (hl : l.length ≤ 2000000) : Ev (fun k => pentaglotref54_SameInts.f k l l) true := by
  have h : ∀ (n : Nat) (x : Int), 0 ≤ x → x + n = (l.length : Int) → Ev (fun k => pentaglotref54_SameInts.l0 k l l x) true := by
    intro n
    induction n with
    | zero =>
      intro x h0 hn
      refine Ev.step (f := fun _ => some true) (fun k => ?_) (Ev.now _)
      rw [pentaglotref54_SameInts.l0, if_neg (by omega)]
    | succ n ih =>
      intro x h0 hn
      refine Ev.step (fun k => ?_) (ih (x + 1) (by omega) (by omega))
      rw [pentaglotref54_SameInts.l0, if_pos (by omega), if_pos h0, if_pos (by omega), if_pos rfl, wrap_small (by omega) (by omega)]
  unfold pentaglotref54_SameInts.f
  simp only [if_true]
  exact h l.length 0 (Int.le_refl _) (by omega)

theorem same_kids (a : ByteArray) (vs : List Int) (l : List S68) (hl : l.length ≤ 2000000) (hk : ∀ t ∈ l, Ev (fun k => pentaglotref31_Same.f k t.f0 t.f1 t.f2 t.f0 t.f1 t.f2) true) :
    ∀ (n : Nat) (x : Int), 0 ≤ x → x + n = (l.length : Int) → Ev (fun k => pentaglotref31_Same.l1 k x a vs l a vs l) true := by
  intro n
  induction n with
  | zero =>
    intro x h0 hn
    refine Ev.step (f := fun _ => some true) (fun k => ?_) (Ev.now _)
    rw [pentaglotref31_Same.l1, if_neg (by omega)]
  | succ n ih =>
    intro x h0 hn
    refine Ev.step (f := fun k => (pentaglotref31_Same.f k (rd_T68 l x).f0 (rd_T68 l x).f1 (rd_T68 l x).f2 (rd_T68 l x).f0 (rd_T68 l x).f1 (rd_T68 l x).f2).bind fun t276 => if t276 = true then pentaglotref31_Same.l1 k (x + 1) a vs l a vs l else some false) (fun k => ?_) (Ev.bind (hk _ (rd_mem l x h0 (by omega))) ?_)
    · rw [pentaglotref31_Same.l1, if_pos (by omega), if_pos h0, if_pos (by omega), wrap_small (by omega) (by omega)]
    · simp only [if_true]
      exact ih (x + 1) (by omega) (by omega)
theorem same_ints (a : ByteArray) (vs : List Int) (l : List S68) (hv : vs.length ≤ 2000000) (h1 : Ev (fun k => pentaglotref31_Same.l1 k 0 a vs l a vs l) true) :
    ∀ (n : Nat) (x : Int), 0 ≤ x → x + n = (vs.length : Int) → Ev (fun k => pentaglotref31_Same.l0 k x a vs l a vs l) true := by
  intro n
  induction n with
  | zero =>
    intro x h0 hn
    refine Ev.step (fun k => ?_) h1
    rw [pentaglotref31_Same.l0, if_neg (by omega)]
  | succ n ih =>
    intro x h0 hn
    refine Ev.step (fun k => ?_) (ih (x + 1) (by omega) (by omega))
    rw [pentaglotref31_Same.l0, if_pos (by omega), if_pos h0, if_pos (by omega), if_pos rfl, wrap_small (by omega) (by omega)]
theorem same_self (n : Nat) : ∀ t : S68, tsz t < n → Bd t → Ev (fun k => pentaglotref31_Same.f k t.f0 t.f1 t.f2 t.f0 t.f1 t.f2) true := by
  induction n with
  | zero => exact fun _ h => absurd h (Nat.not_lt_zero _)
  | succ n ih =>
    intro t ht hb
    have hk : ∀ x ∈ t.f2, Ev (fun k => pentaglotref31_Same.f k x.f0 x.f1 x.f2 x.f0 x.f1 x.f2) true := fun x hx => ih x (by have := mem_lt hx; have := kids_lt t; omega) (hb.kid x hx)
    have h1 := same_kids t.f0 t.f1 t.f2 hb.kids hk t.f2.length 0 (Int.le_refl _) (by omega)
    have h0 := same_ints t.f0 t.f1 t.f2 hb.vals h1 t.f1.length 0 (Int.le_refl _) (by omega)
    refine Ev.step (fun k => ?_) (Ev.step (f := fun k => pentaglotref31_Same.l0 k 0 t.f0 t.f1 t.f2 t.f0 t.f1 t.f2) (g := fun k => pentaglotref31_Same.j0 k false t.f0 t.f1 t.f2 t.f0 t.f1 t.f2) (fun k => ?_) h0)
    · rw [pentaglotref31_Same.f, if_pos rfl, if_pos rfl, bne_self_eq_false]
    · rw [pentaglotref31_Same.j0, if_neg (by simp)]
theorem sameAll_self (l : List S68) (hb : bulkL l ≤ 2000000) : Ev (fun k => pentaglotref31_SameAll.f k l l) true := by
  have hl := Nat.le_trans (length_bulk l) hb
  have h : ∀ (n : Nat) (x : Int), 0 ≤ x → x + n = (l.length : Int) → Ev (fun k => pentaglotref31_SameAll.l0 k l l x) true := by
    intro n
    induction n with
    | zero =>
      intro x h0 hn
      refine Ev.step (f := fun _ => some true) (fun k => ?_) (Ev.now _)
      rw [pentaglotref31_SameAll.l0, if_neg (by omega)]
    | succ n ih =>
      intro x h0 hn
      refine Ev.step (f := fun k => (pentaglotref31_Same.f k (rd_T68 l x).f0 (rd_T68 l x).f1 (rd_T68 l x).f2 (rd_T68 l x).f0 (rd_T68 l x).f1 (rd_T68 l x).f2).bind fun t279 => if t279 = true then pentaglotref31_SameAll.l0 k l l (x + 1) else some false) (fun k => ?_) (Ev.bind (same_self (tsz (rd_T68 l x) + 1) _ (Nat.lt_succ_self _) (Nat.le_trans (mem_bulk (rd_mem l x h0 (by omega))) hb)) ?_)
      · rw [pentaglotref31_SameAll.l0, if_pos (by omega), if_pos h0, if_pos (by omega), wrap_small (by omega) (by omega)]
      · simp only [if_true]
        exact ih (x + 1) (by omega) (by omega)
  unfold pentaglotref31_SameAll.f
  simp only [if_true]
  exact h l.length 0 (Int.le_refl _) (by omega)
theorem sameHistory_self (l : List (List S68)) (hl : l.length ≤ 2000000) (hb : ∀ x ∈ l, bulkL x ≤ 2000000) : Ev (fun k => pentaglotref54_SameHistory.f k l l) true := by
  have h : ∀ (n : Nat) (x : Int), 0 ≤ x → x + n = (l.length : Int) → Ev (fun k => pentaglotref54_SameHistory.l0 k l l x) true := by
    intro n
    induction n with
    | zero =>
      intro x h0 hn
      refine Ev.step (f := fun _ => some true) (fun k => ?_) (Ev.now _)
      rw [pentaglotref54_SameHistory.l0, if_neg (by omega)]
    | succ n ih =>
      intro x h0 hn
      refine Ev.step (f := fun k => (pentaglotref31_SameAll.f k (rd_L4 l x) (rd_L4 l x)).bind fun t282 => if t282 = true then pentaglotref54_SameHistory.l0 k l l (x + 1) else some false) (fun k => ?_) (Ev.bind (sameAll_self _ (hb _ (rdL_mem l x h0 (by omega)))) ?_)
      · rw [pentaglotref54_SameHistory.l0, if_pos (by omega), if_pos h0, if_pos (by omega), wrap_small (by omega) (by omega)]
      · simp only [if_true]
        exact ih (x + 1) (by omega) (by omega)
  unfold pentaglotref54_SameHistory.f
  simp only [if_true]
  exact h l.length 0 (Int.le_refl _) (by omega)

section
variable {w : World} {A A' : Option Addr} {c c' : Nat}
theorem sameStrings_calls (l : List ByteArray) (hl : l.length ≤ 2000000) (h0 : Kd.string.C w A l.length l) (k0 : l.length ≤ c) (h1 : Kd.string.C w A' l.length l) (k1 : l.length ≤ c') :
    Calls Try.prog 47 #[.slice A l.length c, .slice A' l.length c'] w fun e w' => e = .returned (.bool true) ∧ Drawn0 w w' := by
  obtain ⟨k, hk⟩ := (sameStrings_self l hl).rounds
  exact pentaglotref54_SameStrings.calls k A c l A' c' l true w h0 k0 h1 k1 hk
theorem sameInts_calls (l : List Int) (hl : l.length ≤ 2000000) (h0 : (Kd.int .i64).C w A l.length l) (k0 : l.length ≤ c) (h1 : (Kd.int .i64).C w A' l.length l) (k1 : l.length ≤ c') :
    Calls Try.prog 26 #[.slice A l.length c, .slice A' l.length c'] w fun e w' => e = .returned (.bool true) ∧ Drawn0 w w' := by
  obtain ⟨k, hk⟩ := (sameInts_self l hl).rounds
  exact pentaglotref54_SameInts.calls k A c l A' c' l true w h0 k0 h1 k1 hk
theorem sameAll_calls (l : List S68) (hb : bulkL l ≤ 2000000) (h0 : k68.C w A l.length l) (k0 : l.length ≤ c) (h1 : k68.C w A' l.length l) (k1 : l.length ≤ c') :
    Calls Try.prog 23 #[.slice A l.length c, .slice A' l.length c'] w fun e w' => e = .returned (.bool true) ∧ Below w.heap.size w w' := by
  obtain ⟨k, hk⟩ := (sameAll_self l hb).rounds
  exact pentaglotref31_SameAll.calls k A c l A' c' l true w h0 k0 h1 k1 hk
theorem sameHistory_calls (l : List (List S68)) (hl : l.length ≤ 2000000) (hb : ∀ x ∈ l, bulkL x ≤ 2000000) (h0 : (Kd.slice 68 k68).C w A l.length l) (k0 : l.length ≤ c) (h1 : (Kd.slice 68 k68).C w A' l.length l) (k1 : l.length ≤ c') :
    Calls Try.prog 22 #[.slice A l.length c, .slice A' l.length c'] w fun e w' => e = .returned (.bool true) ∧ Below w.heap.size w w' := by
  obtain ⟨k, hk⟩ := (sameHistory_self l hl hb).rounds
  exact pentaglotref54_SameHistory.calls k A c l A' c' l true w h0 k0 h1 k1 hk
end
end Go.Proofs.Ytkblcdpmdbofgaa.A
/- What single operations do to a draft. -/
namespace Go.Proofs.Ytkblcdpmdbofgaa.A
open Go.RowKit Go.Proofs.YtkblcdpmdbofgaaW.PrintWords Go.Proofs.YtkblcdpmdbofgaaW.PrintLast Go.Proofs.YtkblcdpmdbofgaaW.PrintMore
set_option linter.unusedVariables false
set_option linter.unusedSimpArgs false

theorem get_put {D : Dk} {a : Int} {d : Dr} (h : D.get a = some d) (d1 : Dr) (b : Int) : (D.put (a - 1).toNat d1).get b = if a = b then some d1 else D.get b := by
  unfold Dk.get at h
  by_cases ha : 1 ≤ a
  · rw [if_pos ha] at h
    have hlt := (List.getElem?_eq_some_iff.1 h).1
    unfold Dk.get Dk.put
    simp only
    by_cases hab : a = b
    · subst hab
      rw [if_pos ha, if_pos rfl, List.getElem?_set_self hlt]
    · rw [if_neg hab]
      by_cases hb : 1 ≤ b
      · rw [if_pos hb, if_pos hb, List.getElem?_set_ne (by omega)]
      · rw [if_neg hb, if_neg hb]
  · rw [if_neg ha] at h
    cases h
theorem get_add (D : Dk) (ed : ByteArray) (ts : List S68) (b : Int) : (D.add ed ts).get b = if (D.drafts.length : Int) + 1 = b then some ⟨ed, ts, [], [], false⟩ else D.get b := by
  unfold Dk.get Dk.add
  simp only
  by_cases hb : 1 ≤ b
  · rw [if_pos hb, if_pos hb]
    by_cases he : (D.drafts.length : Int) + 1 = b
    · rw [if_pos he, show (b - 1).toNat = D.drafts.length by omega, List.getElem?_append_right (Nat.le_refl _)]
      simp
    · rw [if_neg he]
      rcases Nat.lt_or_ge (b - 1).toNat D.drafts.length with h | h
      · rw [List.getElem?_append_left h]
      · rw [List.getElem?_append_right h, List.getElem?_eq_none (l := D.drafts) (by omega)]
        exact List.getElem?_eq_none (by simp; omega)
  · rw [if_neg hb, if_neg hb, if_neg (by omega)]
theorem get_new (D : Dk) : D.get ((D.drafts.length : Int) + 1) = none := by
  unfold Dk.get
  rw [if_pos (by omega), List.getElem?_eq_none (by omega)]

theorem opens_cases (D : Dk) (ed : ByteArray) (ts : List S68) : (D.opens ed ts).2.1 ≠ 0 ∧ (D.opens ed ts).2.2 = D ∧ (D.opens ed ts).1 = 0 ∨ (D.opens ed ts) = ((D.drafts.length : Int) + 1, 0, D.add ed ts) ∧ D.valid ed ts = true ∧ D.drafts.length ≠ 256 := by
  unfold Dk.opens
  by_cases h1 : D.valid ed ts = false
  · rw [if_pos h1]; exact .inl ⟨by simp, rfl, rfl⟩
  · rw [if_neg h1]
    by_cases h2 : D.drafts.length = 256
    · rw [if_pos h2]; exact .inl ⟨by simp, rfl, rfl⟩
    · rw [if_neg h2]; exact .inr ⟨rfl, by simpa using h1, h2⟩
theorem amend_cases (D : Dk) (ed : ByteArray) (id num : Int) (ts : List S68) : (D.amend ed id num ts).2.1 ≠ 0 ∧ (D.amend ed id num ts).2.2 = D ∧ (D.amend ed id num ts).1 = 0 ∨
    ∃ d, D.get id = some d ∧ d.closed = false ∧ (d.earlier.length : Int) + 1 = num ∧ D.amend ed id num ts = ((d.earlier.length : Int) + 2, 0, D.put (id - 1).toNat ⟨ed, ts, d.earlier ++ [d.trees], [], d.closed⟩) ∧ D.valid ed ts = true ∧ num ≠ 256 := by
  unfold Dk.amend
  by_cases h1 : D.valid ed ts = false
  · rw [if_pos h1]; exact .inl ⟨by simp, rfl, rfl⟩
  · rw [if_neg h1]
    by_cases hq : D.cur id num = 0
    · rw [if_neg (fun hn => hn hq)]
      by_cases h2 : num = 256
      · rw [if_pos h2]; exact .inl ⟨by simp, rfl, rfl⟩
      · rw [if_neg h2]
        obtain ⟨d, hg, hc, he⟩ := Dk.cur_zero hq
        rw [hg]
        exact .inr ⟨d, rfl, hc, he, rfl, by simpa using h1, h2⟩
    · rw [if_pos hq]; exact .inl ⟨hq, rfl, rfl⟩
theorem approve_cases (D : Dk) (ed : ByteArray) (id num : Int) : (D.approve ed id num).1 ≠ 0 ∧ (D.approve ed id num).2 = D ∨
    ∃ d, D.get id = some d ∧ d.closed = false ∧ (d.earlier.length : Int) + 1 = num ∧ d.author.toList ≠ ed.toList ∧ memS d.approvals ed = false ∧ D.approve ed id num = (0, D.put (id - 1).toNat { d with approvals := d.approvals ++ [ed] }) := by
  unfold Dk.approve
  by_cases h1 : memS D.eds ed = false
  · rw [if_pos h1]; exact .inl ⟨by simp, rfl⟩
  · rw [if_neg h1]
    by_cases hq : D.cur id num = 0
    · rw [if_neg (fun hn => hn hq)]
      obtain ⟨d, hg, hc, he⟩ := Dk.cur_zero hq
      rw [hg]
      simp only
      by_cases ha : d.author.toList = ed.toList
      · rw [if_pos ha]; exact .inl ⟨by simp, rfl⟩
      · rw [if_neg ha]
        by_cases hp : memS d.approvals ed = true
        · rw [if_pos hp]; exact .inl ⟨by simp, rfl⟩
        · rw [if_neg hp]; exact .inr ⟨d, rfl, hc, he, ha, by simpa using hp, rfl⟩
    · rw [if_pos hq]; exact .inl ⟨hq, rfl⟩
theorem close_cases (D : Dk) (id : Int) : (D.close id).1 ≠ 0 ∧ (D.close id).2 = D ∨ ∃ d, D.get id = some d ∧ d.closed = false ∧ D.close id = (0, D.put (id - 1).toNat { d with closed := true }) := by
  unfold Dk.close
  cases hg : D.get id with
  | none => exact .inl ⟨by simp, rfl⟩
  | some d =>
    simp only
    by_cases hc : d.closed = true
    · rw [if_pos hc]; exact .inl ⟨by simp, rfl⟩
    · rw [if_neg hc]; exact .inr ⟨d, rfl, by simpa using hc, rfl⟩
theorem doOp_err (D : Dk) (x : S35) (h : (D.doOp x).2.1 ≠ 0) : (D.doOp x).2.2 = D := by
  unfold Dk.doOp at h ⊢
  split at h
  · rename_i h1
    rw [if_pos h1]
    rcases opens_cases D x.f1 x.f4 with h' | h'
    · exact h'.2.1
    · rw [h'.1] at h; exact absurd rfl h
  rename_i h1
  rw [if_neg h1]
  split at h
  · rename_i h2
    rw [if_pos h2]
    rcases amend_cases D x.f1 x.f2 x.f3 x.f4 with h' | ⟨d, _, _, _, h', _⟩
    · exact h'.2.1
    · rw [h'] at h; exact absurd rfl h
  rename_i h2
  rw [if_neg h2]
  split at h
  · rename_i h3
    rw [if_pos h3]
    rcases approve_cases D x.f1 x.f2 x.f3 with h' | ⟨d, _, _, _, _, _, h'⟩
    · exact h'.2
    · simp only [h'] at h; exact absurd rfl h
  rename_i h3
  rw [if_neg h3]
  split at h
  · rename_i h4
    rw [if_pos h4]
  rename_i h4
  rw [if_neg h4]
  split at h
  · rename_i h5
    rw [if_pos h5]
    rcases close_cases D x.f2 with h' | ⟨d, _, _, h'⟩
    · exact h'.2
    · simp only [h'] at h; exact absurd rfl h
  · exact absurd rfl h
theorem doOp_needed (D : Dk) (x : S35) : (D.doOp x).2.2.needed = D.needed ∧ (D.doOp x).2.2.eds = D.eds := by
  by_cases h : (D.doOp x).2.1 = 0
  · unfold Dk.doOp at h ⊢
    split at h
    · rename_i h1
      rw [if_pos h1]
      rcases opens_cases D x.f1 x.f4 with h' | h'
      · rw [h'.2.1]; exact ⟨rfl, rfl⟩
      · rw [h'.1]; exact ⟨rfl, rfl⟩
    rename_i h1
    rw [if_neg h1]
    split at h
    · rename_i h2
      rw [if_pos h2]
      rcases amend_cases D x.f1 x.f2 x.f3 x.f4 with h' | ⟨d, _, _, _, h', _⟩
      · rw [h'.2.1]; exact ⟨rfl, rfl⟩
      · rw [h']; exact ⟨rfl, rfl⟩
    rename_i h2
    rw [if_neg h2]
    split at h
    · rename_i h3
      rw [if_pos h3]
      rcases approve_cases D x.f1 x.f2 x.f3 with h' | ⟨d, _, _, _, _, _, h'⟩
      · rw [h'.2]; exact ⟨rfl, rfl⟩
      · rw [h']; exact ⟨rfl, rfl⟩
    rename_i h3
    rw [if_neg h3]
    split at h
    · rename_i h4
      rw [if_pos h4]; exact ⟨rfl, rfl⟩
    rename_i h4
    rw [if_neg h4]
    split at h
    · rename_i h5
      rw [if_pos h5]
      rcases close_cases D x.f2 with h' | ⟨d, _, _, h'⟩
      · rw [h'.2]; exact ⟨rfl, rfl⟩
      · rw [h']; exact ⟨rfl, rfl⟩
    · rename_i h5
      rw [if_neg h5]; exact ⟨rfl, rfl⟩
  · rw [doOp_err D x h]; exact ⟨rfl, rfl⟩
theorem run_needed (D : Dk) (l : List S35) : (D.run l).needed = D.needed ∧ (D.run l).eds = D.eds := by
  induction l generalizing D with
  | nil => exact ⟨rfl, rfl⟩
  | cons x r ih =>
    have h1 := ih (D.doOp x).2.2
    have h2 := doOp_needed D x
    exact ⟨h1.1.trans h2.1, h1.2.trans h2.2⟩

/-- What the law tracks of one draft. -/
def Inv (D : Dk) (id : Int) (au : ByteArray) (nw : Int) (ap : List ByteArray) : Prop := match D.get id with
  | none => nw = 0 ∧ ap = []
  | some d => nw = (d.earlier.length : Int) + 1 ∧ au = d.author ∧ ap = d.approvals
theorem Inv.get {D D' : Dk} {id : Int} {au : ByteArray} {nw : Int} {ap : List ByteArray} (h : Inv D id au nw ap) (hg : D'.get id = D.get id) : Inv D' id au nw ap := by
  unfold Inv at h ⊢
  rw [hg]
  exact h
theorem Inv.mk_some {D : Dk} {id : Int} {d : Dr} (h : D.get id = some d) : Inv D id d.author ((d.earlier.length : Int) + 1) d.approvals := by
  unfold Inv
  rw [h]
  exact ⟨rfl, rfl, rfl⟩
theorem Inv.of {D : Dk} {id : Int} {au : ByteArray} {nw : Int} {ap : List ByteArray} (h : Inv D id au nw ap) {d : Dr} (hg : D.get id = some d) : nw = (d.earlier.length : Int) + 1 ∧ au = d.author ∧ ap = d.approvals := by
  unfold Inv at h
  rw [hg] at h
  exact h
theorem Inv.at_none {D : Dk} {id : Int} {au : ByteArray} {nw : Int} {ap : List ByteArray} (h : Inv D id au nw ap) (hg : D.get id = none) : nw = 0 ∧ ap = [] := by
  unfold Inv at h
  rw [hg] at h
  exact h
theorem Inv.ready {D : Dk} {id rev : Int} {au : ByteArray} {nw : Int} {ap : List ByteArray} (h : Inv D id au nw ap) (hr : D.ready id rev = 0) : nw = rev ∧ D.needed ≤ (ap.length : Int) ∧ 0 < nw := by
  unfold Dk.ready at hr
  split at hr
  · cases hr
  · split at hr
    · rename_i h4 hq
      obtain ⟨d, hg, hc, he⟩ := Dk.cur_zero hq
      obtain ⟨h1, h2, h3⟩ := h.of hg
      rw [hg] at hr
      simp only at hr
      split at hr
      · cases hr
      · rw [h3]
        omega
    · cases hr
end Go.Proofs.Ytkblcdpmdbofgaa.A
/- What a call is handed: operations. -/
namespace Go.Proofs.Ytkblcdpmdbofgaa.A
open Go.RowKit Go.Proofs.YtkblcdpmdbofgaaW.PrintWords Go.Proofs.YtkblcdpmdbofgaaW.PrintLast Go.Proofs.YtkblcdpmdbofgaaW.PrintMore
set_option linter.unusedVariables false
set_option linter.unusedSimpArgs false
section
variable {H : Type} {enc : TypeId × Value → H} {w : World} {base : Nat} {spare : Nat → Bool} {held : Bool}
theorem five {l : List Value} (h : l.length = 5) : ∃ a b c d e, l = [a, b, c, d, e] := by
  match l, h with
  | [a, b, c, d, e], _ => exact ⟨a, b, c, d, e, rfl⟩
/-- An operation's numbers are numbers of the machine. -/
def opWf (y : S35) : Prop := (Lit.int .i64 y.f0).wf = true ∧ (Lit.int .i64 y.f2).wf = true ∧ (Lit.int .i64 y.f3).wf = true
set_option maxRecDepth 100000 in
theorem open_opC {fuel : Nat} {cs : List Value} {x : DataW H × List MemPlace} (h : DataW.trod enc Try.prog w base spare held fuel 35 cs = some x) :
    ∃ y A c, cs = [.int .i64 y.f0, .string y.f1, .int .i64 y.f2, .int .i64 y.f3, .slice A y.f4.length c] ∧ y.f4.length ≤ c ∧ k68.C w A y.f4.length y.f4 ∧ opWf y ∧ y.f1.size + bulkL y.f4 + 1 ≤ Rows.uptoBulk x.1 := by
  obtain ⟨xs, n, rfl, rfl, hl, hlen, hf⟩ := DataW.trod_struct Try.underlying35 h
  obtain ⟨a, b, c, d, e, rfl⟩ := five (hl.trans (by kernel_rfl))
  match xs, hlen with
  | [y0, y1, y2, y3, y4], _ =>
    have g0 : DataW.trod enc Try.prog w base spare held n 3 [a] = some y0 := hf 0 _ rfl
    have g1 : DataW.trod enc Try.prog w base spare held n 9 [b] = some y1 := hf 1 _ rfl
    have g2 : DataW.trod enc Try.prog w base spare held n 3 [c] = some y2 := hf 2 _ rfl
    have g3 : DataW.trod enc Try.prog w base spare held n 3 [d] = some y3 := hf 3 _ rfl
    have g4 : DataW.trod enc Try.prog w base spare held n 33 [e] = some y4 := hf 4 _ rfl
    obtain ⟨n0, h0, rfl, w0⟩ := DataW.trod_int Try.underlying3 g0
    obtain ⟨s1, h1, rfl, _⟩ := DataW.trod_string Try.underlying9 g1
    obtain ⟨n2, h2, rfl, w2⟩ := DataW.trod_int Try.underlying3 g2
    obtain ⟨n3, h3, rfl, w3⟩ := DataW.trod_int Try.underlying3 g3
    obtain ⟨A4, ts, c4, h4, l4, r4, b4⟩ := (open_treesC n).2 _ _ g4
    injection h0 with h0
    injection h1 with h1
    injection h2 with h2
    injection h3 with h3
    injection h4 with h4
    subst h0
    subst h1
    subst h2
    subst h3
    subst h4
    refine ⟨⟨n0, s1, n2, n3, ts⟩, A4, c4, rfl, l4, r4, ⟨w0, w2, w3⟩, ?_⟩
    show s1.size + bulkL ts + 1 ≤ _
    simp only [List.map_cons, List.map_nil, Rows.uptoBulk, Rows.uptoBulkAll, Array.length_toList]
    have : s1.data.size = s1.size := rfl
    omega
theorem open_opsC {fuel : Nat} {cs : List Value} {x : DataW H × List MemPlace} (h : DataW.trod enc Try.prog w base spare held fuel 31 cs = some x) :
    ∃ A xs c, cs = [.slice A xs.length c] ∧ xs.length ≤ c ∧ k35.C w A xs.length xs ∧ (∀ y ∈ xs, opWf y) ∧ sumOf (fun y : S35 => y.f1.size + bulkL y.f4 + 1) xs + 1 ≤ Rows.uptoBulk x.1 := by
  obtain ⟨A, xs, c, ds, h1, h2, h3, h4, h5, h6⟩ := opened (kd := k35) (Q := fun (y : S35) d => opWf y ∧ y.f1.size + bulkL y.f4 + 1 ≤ Rows.uptoBulk d) Try.underlying31 (by kernel_rfl) h (fun n cs' y _ hy => by
    obtain ⟨z, A, c, rfl, hl, hC, hw, hb⟩ := open_opC hy
    exact ⟨z, k35_mk w z hl hC, hw, hb⟩)
  refine ⟨A, xs, c, h1, h2, h3, fun y hy => ?_, bulk_slice _ h4 h5 (fun i p d hp hd => (h6 i p d hp hd).2)⟩
  obtain ⟨i, hi⟩ := List.getElem?_of_mem hy
  have hlt := (List.getElem?_eq_some_iff.1 hi).1
  exact (h6 i y _ hi (List.getElem?_eq_getElem (by omega))).1
theorem ops_small {xs : List S35} (hw : ∀ y ∈ xs, opWf y) {n : Nat} (hb : sumOf (fun y : S35 => y.f1.size + bulkL y.f4 + 1) xs + 1 ≤ n) (hn : n ≤ 1048576) : (∀ y ∈ xs, opOk y) ∧ xs.length ≤ 2000000 := by
  refine ⟨fun y hy => ⟨(hw y hy).1, (hw y hy).2.1, (hw y hy).2.2, ?_⟩, ?_⟩
  · have h2 : y.f1.size + bulkL y.f4 + 1 ≤ sumOf (fun y : S35 => y.f1.size + bulkL y.f4 + 1) xs := sum_mem (fun y : S35 => y.f1.size + bulkL y.f4 + 1) hy
    omega
  · have h1 : ∀ l : List S35, l.length ≤ sumOf (fun y : S35 => y.f1.size + bulkL y.f4 + 1) l := fun l => by
      induction l with
      | nil => exact Nat.le_refl _
      | cons a r ih => simp only [sumOf, List.length_cons]; omega
    have := h1 xs
    omega
theorem strs_small {xs : List ByteArray} {n : Nat} (hb : sumOf (fun s : ByteArray => s.size + 1) xs + 1 ≤ n) (hn : n ≤ 1048576) : (∀ y ∈ xs, y.size ≤ 2000000) ∧ xs.length ≤ 2000000 := by
  refine ⟨fun y hy => ?_, ?_⟩
  · have h2 : y.size + 1 ≤ sumOf (fun s : ByteArray => s.size + 1) xs := sum_mem (fun s : ByteArray => s.size + 1) hy
    omega
  · have h1 : ∀ l : List ByteArray, l.length ≤ sumOf (fun s : ByteArray => s.size + 1) l := fun l => by
      induction l with
      | nil => exact Nat.le_refl _
      | cons a r ih => simp only [sumOf, List.length_cons]; omega
    have := h1 xs
    omega
end
end Go.Proofs.Ytkblcdpmdbofgaa.A
