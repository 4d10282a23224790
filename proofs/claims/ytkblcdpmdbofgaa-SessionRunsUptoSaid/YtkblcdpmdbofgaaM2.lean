/- session.New: the walk of its loop, and the whole. -/
import Derived.Test.YtkblcdpmdbofgaaM0
import Derived.Maps.OwnSet
import Derived.Test.YtkblcdpmdbofgaaM1
import Derived.Deep.RegionLaw
/- What single Go functions of the seat compute, as Lean functions, and that the Go code computes it: the sections of the kit's print for these functions, taken into a text of this session's own, the faulty places proved anew. -/
namespace Go.Proofs.Ytkblcdpmdbofgaa.A
open Go.RowKit Go.Proofs.YtkblcdpmdbofgaaW.PrintWords Go.Proofs.YtkblcdpmdbofgaaW.PrintLast Go.Proofs.YtkblcdpmdbofgaaW.PrintMore
attribute [local go_sem] max2_int min2_int max_two min_two max_three min_three max_four min_four   -- for this text's walks alone
set_option linter.unusedVariables false
set_option linter.unusedSimpArgs false

/-! ### pentaglotlaw54_few: function 14 -/
def pentaglotlaw54_few.l0 : Nat → List (S35) → Int → Option (Bool)
  | 0, _, _ => none
  | k + 1, x0, x3 => if x3 < (x0.length : Int) then (if 0 ≤ x3 then (if (((rd_T35 x0 x3).f4).length : Int) > 10 then (some false) else (pentaglotlaw54_few.l0 k x0 (wrap64 (x3 + 1)))) else (none)) else (some (decide ((x0.length : Int) ≤ 40)))
def pentaglotlaw54_few.f (k : Nat) (l0 : List (S35)) : Option (Bool) := pentaglotlaw54_few.l0 k l0 0
theorem pentaglotlaw54_few.mono_l : ∀ k, (∀ y0 y1, LeO (pentaglotlaw54_few.l0 k y0 y1) (pentaglotlaw54_few.l0 (k + 1) y0 y1))
  | 0 => fun _ _ r h => by simp [pentaglotlaw54_few.l0] at h
  | k + 1 => by
    have ih0 := pentaglotlaw54_few.mono_l k
    · intro y0 y1
      unfold pentaglotlaw54_few.l0
      repeat' first
      | (with_reducible exact ih0 _ _)
      | (with_reducible exact LeO.refl _)
      | (with_reducible exact LeO.none _)
      | (with_reducible refine LeO.ite ?_ ?_)
      | (with_reducible refine LeO.bind ?_ (fun _ => ?_))
      | exact ih0 _ _
      | exact LeO.none _
      | refine LeO.ite ?_ ?_
      | refine LeO.bind ?_ (fun _ => ?_)
theorem pentaglotlaw54_few.mono : ∀ a0 k, LeO (pentaglotlaw54_few.f k a0) (pentaglotlaw54_few.f (k + 1) a0) := by
  intro a0 k
  have ih0 := pentaglotlaw54_few.mono_l k
  unfold pentaglotlaw54_few.f
  repeat' first
      | (with_reducible exact ih0 _ _)
      | (with_reducible exact LeO.refl _)
      | (with_reducible exact LeO.none _)
      | (with_reducible refine LeO.ite ?_ ?_)
      | (with_reducible refine LeO.bind ?_ (fun _ => ?_))
      | exact ih0 _ _
      | exact LeO.none _
      | refine LeO.ite ?_ ?_
      | refine LeO.bind ?_ (fun _ => ?_)
set_option maxHeartbeats 8000000 in
set_option maxRecDepth 100000 in
theorem pentaglotlaw54_few.calls (k : Nat) (A0 : Option Addr) (c0 : Nat) (l0 : List (S35)) (r : Bool) (w : World) (hr0 : Kd.C k35 w A0 l0.length l0) (hc0 : l0.length ≤ c0) (h : pentaglotlaw54_few.f k l0 = some r) :
    Calls Try.prog 14 #[.slice A0 l0.length c0] w fun e w' => e = .returned (.bool r) ∧ Drawn0 w w' := by
  have HR0 := Aside0.mk hr0
  have HC0 := Aside0.mk hc0
  clear hr0 hc0
  have H : (pentaglotlaw54_few.l0 k l0 0) = some r := h
  clear h
  have H' := Aside0.mk H
  clear H
  go_enter Try.func14, Try.ntmps14
  go_wp2
  go_loopg [3] k (fun kq v3 w' => ∃ (x3_1 : Int), v3 = .int .i64 x3_1 ∧ Aside0 (pentaglotlaw54_few.l0 kq l0 x3_1 = some r) ∧ Aside0 (kq ≤ k) ∧ Drawn0 w w')
  case atStart => exact ⟨(0), (by first | rfl | (simp; done) | (simp [*]; done)), H', ⟨Nat.le_refl _⟩, by repeat (first | exact Drawn0.refl _ | apply Drawn0.step)⟩
  case round =>
    clear H'
    try clear c1
    obtain ⟨x3_1, rfl, HA, HK1, ⟨m1, rfl⟩⟩ := hrel
    cases gk with
    | zero => exact absurd HA.out (by simp [pentaglotlaw54_few.l0])
    | succ k1 =>
      have H := HA.out
      clear HA
      simp only [pentaglotlaw54_few.l0] at H
      by_cases c2 : x3_1 < (l0.length : Int)
      · rw [if_pos c2] at H
        have c2b0 : decide (x3_1 < (l0.length : Int)) = true := decide_eq_true c2
        clear c2
        by_cases c3 : 0 ≤ x3_1
        · rw [if_pos c3] at H
          have c3b0 : decide (0 ≤ x3_1) = true := decide_eq_true c3
          clear c3
          by_cases c4 : (((rd_T35 l0 x3_1).f4).length : Int) > 10
          · rw [if_pos c4] at H
            have c4b0 : decide (10 < (((rd_T35 l0 x3_1).f4).length : Int)) = true := decide_eq_true c4
            have c4b1 : decide (10 < ((rd_T35 l0 x3_1).f4).length) = true := decide_eq_true (by omega)
            clear c4
            obtain rfl := Option.some.inj H
            have p226 : 0 ≤ (x3_1 : Int) := of_decide_eq_true (by first | (with_reducible assumption) | assumption)
            have q226 : x3_1 < (l0.length : Int) := of_decide_eq_true (by first | (with_reducible assumption) | assumption)
            obtain ⟨ad226, A226_4, c226_4, e226, hx226_0, hx226_1, hx226_2, hx226_3, hx226_4, hl226_4, hi226_4⟩ := at_T35 HR0.out x3_1 p226 q226
            cases e226
            have HR226_4 := Aside0.mk hi226_4
            have HC226_4 := Aside0.mk hl226_4
            clear hi226_4 hl226_4
            replace p226 := eq_true p226
            replace q226 := eq_true q226
            go_wp2
            go_ret
            exact ⟨by first | rfl | (simp; done) | (simp [*]; done), by repeat (first | exact Drawn0.refl _ | apply Drawn0.step)⟩
          · rw [if_neg c4] at H
            have c4b0 : decide (10 < (((rd_T35 l0 x3_1).f4).length : Int)) = false := decide_eq_false c4
            have c4b1 : decide (10 < ((rd_T35 l0 x3_1).f4).length) = false := decide_eq_false (by omega)
            clear c4
            have H' := Aside0.mk H
            clear H
            have p226 : 0 ≤ (x3_1 : Int) := of_decide_eq_true (by first | (with_reducible assumption) | assumption)
            have q226 : x3_1 < (l0.length : Int) := of_decide_eq_true (by first | (with_reducible assumption) | assumption)
            obtain ⟨ad226, A226_4, c226_4, e226, hx226_0, hx226_1, hx226_2, hx226_3, hx226_4, hl226_4, hi226_4⟩ := at_T35 HR0.out x3_1 p226 q226
            cases e226
            have HR226_4 := Aside0.mk hi226_4
            have HC226_4 := Aside0.mk hl226_4
            clear hi226_4 hl226_4
            replace p226 := eq_true p226
            replace q226 := eq_true q226
            go_wp2
            go_roundg k1
            case measure => have := HK1.out; omega
            case rel => exact ⟨(wrap64 (x3_1 + 1)), (by first | rfl | (simp; done) | (simp [*]; done)), H', ⟨by have := HK1.out; omega⟩, by repeat (first | exact Drawn0.refl _ | apply Drawn0.step)⟩
        · rw [if_neg c3] at H
          exact absurd H (by simp)
      · rw [if_neg c2] at H
        have c2b0 : decide (x3_1 < (l0.length : Int)) = false := decide_eq_false c2
        clear c2
        obtain rfl := Option.some.inj H
        go_wp2
        go_ret
        exact ⟨by first | rfl | (simp; done) | (simp [*]; done), by repeat (first | exact Drawn0.refl _ | apply Drawn0.step)⟩

/-! ### pentaglotref54_In: function 16 -/
def pentaglotref54_In.l0 : Nat → List ByteArray → ByteArray → Int → Option (Bool)
  | 0, _, _, _ => none
  | k + 1, x0, x1, x5 => if x5 < (x0.length : Int) then (if 0 ≤ x5 then (if (rdOf ByteArray.empty x0 x5).toList = x1.toList then (some true) else (pentaglotref54_In.l0 k x0 x1 (wrap64 (x5 + 1)))) else (none)) else (some false)
def pentaglotref54_In.f (k : Nat) (l0 : List ByteArray) (a1 : ByteArray) : Option (Bool) := pentaglotref54_In.l0 k l0 a1 0
theorem pentaglotref54_In.mono_l : ∀ k, (∀ y0 y1 y2, LeO (pentaglotref54_In.l0 k y0 y1 y2) (pentaglotref54_In.l0 (k + 1) y0 y1 y2))
  | 0 => fun _ _ _ r h => by simp [pentaglotref54_In.l0] at h
  | k + 1 => by
    have ih0 := pentaglotref54_In.mono_l k
    · intro y0 y1 y2
      unfold pentaglotref54_In.l0
      repeat' first
      | (with_reducible exact ih0 _ _ _)
      | (with_reducible exact LeO.refl _)
      | (with_reducible exact LeO.none _)
      | (with_reducible refine LeO.ite ?_ ?_)
      | (with_reducible refine LeO.bind ?_ (fun _ => ?_))
      | exact ih0 _ _ _
      | exact LeO.none _
      | refine LeO.ite ?_ ?_
      | refine LeO.bind ?_ (fun _ => ?_)
theorem pentaglotref54_In.mono : ∀ a0 a1 k, LeO (pentaglotref54_In.f k a0 a1) (pentaglotref54_In.f (k + 1) a0 a1) := by
  intro a0 a1 k
  have ih0 := pentaglotref54_In.mono_l k
  unfold pentaglotref54_In.f
  repeat' first
      | (with_reducible exact ih0 _ _ _)
      | (with_reducible exact LeO.refl _)
      | (with_reducible exact LeO.none _)
      | (with_reducible refine LeO.ite ?_ ?_)
      | (with_reducible refine LeO.bind ?_ (fun _ => ?_))
      | exact ih0 _ _ _
      | exact LeO.none _
      | refine LeO.ite ?_ ?_
      | refine LeO.bind ?_ (fun _ => ?_)
set_option maxHeartbeats 8000000 in
set_option maxRecDepth 100000 in
theorem pentaglotref54_In.calls (k : Nat) (A0 : Option Addr) (c0 : Nat) (l0 : List ByteArray) (a1 : ByteArray) (r : Bool) (w : World) (hr0 : Kd.C Kd.string w A0 l0.length l0) (hc0 : l0.length ≤ c0) (h : pentaglotref54_In.f k l0 a1 = some r) :
    Calls Try.prog 16 #[.slice A0 l0.length c0, .string a1] w fun e w' => e = .returned (.bool r) ∧ Drawn0 w w' := by
  have HR0 := Aside0.mk hr0
  have HC0 := Aside0.mk hc0
  clear hr0 hc0
  have H : (pentaglotref54_In.l0 k l0 a1 0) = some r := h
  clear h
  have H' := Aside0.mk H
  clear H
  go_enter Try.func16, Try.ntmps16
  go_wp2
  go_loopg [5] k (fun kq v5 w' => ∃ (x5_1 : Int), v5 = .int .i64 x5_1 ∧ Aside0 (pentaglotref54_In.l0 kq l0 a1 x5_1 = some r) ∧ Aside0 (kq ≤ k) ∧ Drawn0 w w')
  case atStart => exact ⟨(0), (by first | rfl | (simp; done) | (simp [*]; done)), H', ⟨Nat.le_refl _⟩, by repeat (first | exact Drawn0.refl _ | apply Drawn0.step)⟩
  case round =>
    clear H'
    try clear c1
    try clear p2
    obtain ⟨x5_1, rfl, HA, HK1, ⟨m1, rfl⟩⟩ := hrel
    cases gk with
    | zero => exact absurd HA.out (by simp [pentaglotref54_In.l0])
    | succ k1 =>
      have H := HA.out
      clear HA
      simp only [pentaglotref54_In.l0] at H
      by_cases c3 : x5_1 < (l0.length : Int)
      · rw [if_pos c3] at H
        have c3b0 : decide (x5_1 < (l0.length : Int)) = true := decide_eq_true c3
        clear c3
        by_cases c4 : 0 ≤ x5_1
        · rw [if_pos c4] at H
          have c4b0 : decide (0 ≤ x5_1) = true := decide_eq_true c4
          clear c4
          by_cases c5 : (rdOf ByteArray.empty l0 x5_1).toList = a1.toList
          · rw [if_pos c5] at H
            have c5b0 : ((rdOf ByteArray.empty l0 x5_1).toList == a1.toList) = true := beq_iff_eq.mpr c5
            have c5b1 : ((rdOf ByteArray.empty l0 x5_1).toList != a1.toList) = false := bne_eq_false_iff_eq.mpr c5
            clear c5
            obtain rfl := Option.some.inj H
            have p227 : 0 ≤ (x5_1 : Int) := of_decide_eq_true (by first | (with_reducible assumption) | assumption)
            have q227 : x5_1 < (l0.length : Int) := of_decide_eq_true (by first | (with_reducible assumption) | assumption)
            obtain ⟨ad227, e227, hx227_0⟩ := Kd.at_string HR0.out x5_1 p227 q227
            cases e227
            replace p227 := eq_true p227
            replace q227 := eq_true q227
            go_wp2
            go_ret
            exact ⟨by first | rfl | (simp; done) | (simp [*]; done), by repeat (first | exact Drawn0.refl _ | apply Drawn0.step)⟩
          · rw [if_neg c5] at H
            have c5b0 : ((rdOf ByteArray.empty l0 x5_1).toList == a1.toList) = false := beq_eq_false_iff_ne.mpr c5
            have c5b1 : ((rdOf ByteArray.empty l0 x5_1).toList != a1.toList) = true := bne_iff_ne.mpr c5
            have H' := Aside0.mk H
            clear H
            have p227 : 0 ≤ (x5_1 : Int) := of_decide_eq_true (by first | (with_reducible assumption) | assumption)
            have q227 : x5_1 < (l0.length : Int) := of_decide_eq_true (by first | (with_reducible assumption) | assumption)
            obtain ⟨ad227, e227, hx227_0⟩ := Kd.at_string HR0.out x5_1 p227 q227
            cases e227
            replace p227 := eq_true p227
            replace q227 := eq_true q227
            go_wp2
            go_roundg k1
            case measure => have := HK1.out; omega
            case rel => exact ⟨(wrap64 (x5_1 + 1)), (by first | rfl | (simp; done) | (simp [*]; done)), H', ⟨by have := HK1.out; omega⟩, by repeat (first | exact Drawn0.refl _ | apply Drawn0.step)⟩
        · rw [if_neg c4] at H
          exact absurd H (by simp)
      · rw [if_neg c3] at H
        have c3b0 : decide (x5_1 < (l0.length : Int)) = false := decide_eq_false c3
        clear c3
        obtain rfl := Option.some.inj H
        go_wp2
        go_ret
        exact ⟨by first | rfl | (simp; done) | (simp [*]; done), by repeat (first | exact Drawn0.refl _ | apply Drawn0.step)⟩

/-! ### pentaglotref31_Size: function 63 -/
mutual
def pentaglotref31_Size.l0 : Nat → Int → Int → ByteArray → List Int → List (S68) → Option (Int)
  | 0, _, _, _, _, _ => none
  | k + 1, x3, x4, x229000, x229001, x229002 => if x4 < (x229002.length : Int) then (if 0 ≤ x4 then ((pentaglotref31_Size.f k ((rd_T68 x229002 x4).f0) ((rd_T68 x229002 x4).f1) ((rd_T68 x229002 x4).f2)).bind fun t230 => (pentaglotref31_Size.l0 k (wrap64 (x3 + t230)) (wrap64 (x4 + 1)) x229000 x229001 x229002)) else (none)) else (some x3)
def pentaglotref31_Size.f : Nat → ByteArray → List Int → List (S68) → Option (Int)
  | 0, _, _, _ => none
  | k + 1, a0_0, l0_1, l0_2 => pentaglotref31_Size.l0 k 1 0 a0_0 l0_1 l0_2
end
theorem pentaglotref31_Size.mono_l : ∀ k, (∀ y0 y1 y2, LeO (pentaglotref31_Size.f k y0 y1 y2) (pentaglotref31_Size.f (k + 1) y0 y1 y2)) ∧ (∀ y0 y1 y2 y3 y4, LeO (pentaglotref31_Size.l0 k y0 y1 y2 y3 y4) (pentaglotref31_Size.l0 (k + 1) y0 y1 y2 y3 y4))
  | 0 => ⟨fun _ _ _ r h => by simp [pentaglotref31_Size.f] at h, fun _ _ _ _ _ r h => by simp [pentaglotref31_Size.l0] at h⟩
  | k + 1 => by
    obtain ⟨ih0, ih1⟩ := pentaglotref31_Size.mono_l k
    refine ⟨?_, ?_⟩
    · intro y0 y1 y2
      unfold pentaglotref31_Size.f
      repeat' first
      | (with_reducible exact ih0 _ _ _)
      | (with_reducible exact ih1 _ _ _ _ _)
      | (with_reducible exact LeO.refl _)
      | (with_reducible exact LeO.none _)
      | (with_reducible refine LeO.ite ?_ ?_)
      | (with_reducible refine LeO.bind ?_ (fun _ => ?_))
      | exact ih0 _ _ _
      | exact ih1 _ _ _ _ _
      | exact LeO.none _
      | refine LeO.ite ?_ ?_
      | refine LeO.bind ?_ (fun _ => ?_)
    · intro y0 y1 y2 y3 y4
      unfold pentaglotref31_Size.l0
      repeat' first
      | (with_reducible exact ih0 _ _ _)
      | (with_reducible exact ih1 _ _ _ _ _)
      | (with_reducible exact LeO.refl _)
      | (with_reducible exact LeO.none _)
      | (with_reducible refine LeO.ite ?_ ?_)
      | (with_reducible refine LeO.bind ?_ (fun _ => ?_))
      | exact ih0 _ _ _
      | exact ih1 _ _ _ _ _
      | exact LeO.none _
      | refine LeO.ite ?_ ?_
      | refine LeO.bind ?_ (fun _ => ?_)
theorem pentaglotref31_Size.mono : ∀ a0 a1 a2 k, LeO (pentaglotref31_Size.f k a0 a1 a2) (pentaglotref31_Size.f (k + 1) a0 a1 a2) := by
  intro a0 a1 a2 k
  obtain ⟨ih0, ih1⟩ := pentaglotref31_Size.mono_l k
  exact ih0 a0 a1 a2
set_option maxHeartbeats 8000000 in
set_option maxRecDepth 100000 in
theorem pentaglotref31_Size.calls (k : Nat) : ∀ (a0_0 : ByteArray) (A0_1 : Option Addr) (c0_1 : Nat) (l0_1 : List Int) (A0_2 : Option Addr) (c0_2 : Nat) (l0_2 : List (S68)) (r : Int) (w : World) (hr0_1 : Kd.C (Kd.int .i64) w A0_1 l0_1.length l0_1) (hc0_1 : l0_1.length ≤ c0_1) (hr0_2 : Kd.C k68 w A0_2 l0_2.length l0_2) (hc0_2 : l0_2.length ≤ c0_2) (h : pentaglotref31_Size.f k a0_0 l0_1 l0_2 = some r),
    Calls Try.prog 63 #[.agg #[.string a0_0, .slice A0_1 l0_1.length c0_1, .slice A0_2 l0_2.length c0_2]] w fun e w' => e = .returned (.int .i64 r) ∧ Below w.heap.size w w' := by
  induction k using Nat.strongRecOn with
  | _ k ih =>
  intro a0_0 A0_1 c0_1 l0_1 A0_2 c0_2 l0_2 r w hr0_1 hc0_1 hr0_2 hc0_2 h
  cases k with
  | zero => exact absurd h (by simp [pentaglotref31_Size.f])
  | succ k =>
  simp only [pentaglotref31_Size.f] at h
  have hu68 := Try.underlying68
  have HR0_1 := Aside0.mk hr0_1
  have HC0_1 := Aside0.mk hc0_1
  clear hr0_1 hc0_1
  have HR0_2 := Aside0.mk hr0_2
  have HC0_2 := Aside0.mk hc0_2
  clear hr0_2 hc0_2
  have HB := Aside0.mk (Below.refl w.heap.size w)
  have H : (pentaglotref31_Size.l0 k 1 0 a0_0 l0_1 l0_2) = some r := h
  clear h
  have H' := Aside0.mk H
  clear H
  go_enter Try.func63, Try.ntmps63
  go_wp2_with (first | ((with_reducible refine gate_dst (N := 1) rfl ?_); refine box_event ?hg (N := 1) ?hd (cs := #[.string a0_0, .slice A0_1 l0_1.length c0_1, .slice A0_2 l0_2.length c0_2]) (t := 68) ?hr ?_; (case hd => rfl); (case hg => rfl); (case hr => first | (go_simp; done) | (go_simp; rfl)); intro gb228 hg w2 hbox hb; have n0_ := Aside0.mk (below_step (by repeat (first | (with_reducible first | exact HB.out | apply below_alloc | apply pw_below_drewN | apply below_drew1) | exact HB.out)) hb); have n1_ := Aside0.mk (hbox); have n2_ := Aside0.mk ((by rw [hg]; exact (below_size (by repeat (first | (with_reducible first | exact HB.out | apply below_alloc | apply pw_below_drewN | apply below_drew1) | exact HB.out))) : w.heap.size ≤ gb228)); have n3_ := Aside0.mk ((by rw [hg]; exact (below_size (by repeat (first | (with_reducible first | exact HB.out | apply below_alloc | apply pw_below_drewN | apply below_drew1) | exact HB.out))) : w.heap.size ≤ gb228)); clear HB; have HB := n0_; have BK228 := n1_; have GW228 := n2_; have GE228 := n3_; clear n0_ n1_ n2_ n3_; clear hb hbox hg))
  go_loopg [3, 4] k (fun kq v3 v4 w' => ∃ (x3_1 : Int) (x4_1 : Int), v3 = .int .i64 x3_1 ∧ v4 = .int .i64 x4_1 ∧ Aside0 (pentaglotref31_Size.l0 kq x3_1 x4_1 a0_0 l0_1 l0_2 = some r) ∧ Aside0 (kq ≤ k) ∧ Aside0 (w'.heap[gb228]? = some (.cells #[.string a0_0, (.slice A0_1 l0_1.length c0_1), (.slice A0_2 l0_2.length c0_2)] 68 (0, 0))) ∧ Aside0 (Below w.heap.size w w'))
  case atStart => exact ⟨(1), (0), (by first | rfl | (simp; done) | (simp [*]; done)), (by first | rfl | (simp; done) | (simp [*]; done)), H', ⟨Nat.le_refl _⟩, ⟨by (with_reducible repeat (first | refine blk_drewN ?_ _ | refine blk_drew ?_ | refine blk_alloc ?_ _)); exact BK228.out⟩, ⟨by repeat (first | (with_reducible first | exact HB.out | apply below_alloc | apply pw_below_drewN | apply below_drew1 | refine below_set ?_ GE228.out) | exact HB.out)⟩⟩
  case round =>
    clear H'
    try clear p2
    obtain ⟨x3_1, x4_1, rfl, rfl, HA, HK1, BK228, HB⟩ := hrel
    cases gk with
    | zero => exact absurd HA.out (by simp [pentaglotref31_Size.l0])
    | succ k1 =>
      have H := HA.out
      clear HA
      simp only [pentaglotref31_Size.l0] at H
      by_cases c3 : x4_1 < (l0_2.length : Int)
      · rw [if_pos c3] at H
        have c3b0 : decide (x4_1 < (l0_2.length : Int)) = true := decide_eq_true c3
        clear c3
        by_cases c4 : 0 ≤ x4_1
        · rw [if_pos c4] at H
          have c4b0 : decide (0 ≤ x4_1) = true := decide_eq_true c4
          clear c4
          replace H := Option.bind_eq_some_iff.mp H
          obtain ⟨t230, A50, H⟩ := H
          replace H : (pentaglotref31_Size.l0 k1 (wrap64 (x3_1 + t230)) (wrap64 (x4_1 + 1)) a0_0 l0_1 l0_2) = some r := H
          have A5 := Aside0.mk A50
          clear A50
          have H' := Aside0.mk H
          clear H
          have hcz6_0 : wr.cell? ⟨gb228, 0, none⟩ = some (.string a0_0) := (blk_cell BK228.out 0).trans rfl
          have hcz6_1 : wr.cell? ⟨gb228, 1, none⟩ = some (.slice A0_1 l0_1.length c0_1) := (blk_cell BK228.out 1).trans rfl
          have hcz6_2 : wr.cell? ⟨gb228, 2, none⟩ = some (.slice A0_2 l0_2.length c0_2) := (blk_cell BK228.out 2).trans rfl
          have hfz6_0 := blk_frozen BK228.out 0
          have hfz6_1 := blk_frozen BK228.out 1
          have hfz6_2 := blk_frozen BK228.out 2
          have p229 : 0 ≤ (x4_1 : Int) := of_decide_eq_true (by first | (with_reducible assumption) | assumption)
          have q229 : x4_1 < (l0_2.length : Int) := of_decide_eq_true (by first | (with_reducible assumption) | assumption)
          obtain ⟨ad229, A229_1, c229_1, A229_2, c229_2, e229, hx229_0, hx229_1, hx229_2, hl229_1, hi229_1, hl229_2, hi229_2⟩ := at_T68 HR0_2.out x4_1 p229 q229
          cases e229
          replace hx229_0 := (HB.out.cell (World.block_lt_of_cell? w _ hx229_0)).trans hx229_0
          replace hx229_1 := (HB.out.cell (World.block_lt_of_cell? w _ hx229_1)).trans hx229_1
          replace hx229_2 := (HB.out.cell (World.block_lt_of_cell? w _ hx229_2)).trans hx229_2
          have HR229_1 := Aside0.mk hi229_1
          have HC229_1 := Aside0.mk hl229_1
          clear hi229_1 hl229_1
          have HR229_2 := Aside0.mk hi229_2
          have HC229_2 := Aside0.mk hl229_2
          clear hi229_2 hl229_2
          replace p229 := eq_true p229
          replace q229 := eq_true q229
          go_wp2_with (first | ((with_reducible refine gate_callee (f := 63) rfl ?_); refine goesL_ (some 18) rfl rfl Try.func63 (by kernel_rfl) rfl #[.agg #[.string ((rd_T68 l0_2 x4_1).f0), .slice A229_1 ((rd_T68 l0_2 x4_1).f1).length c229_1, .slice A229_2 ((rd_T68 l0_2 x4_1).f2).length c229_2]] rfl (by (try simp only [List.map_toArray, List.map_cons, List.map_nil]); first | done | rfl | (simp only [List.length_drop, List.length_take]; rfl)) ?_; (with_reducible refine (ih k1 (by have := HK1.out; omega) ((rd_T68 l0_2 x4_1).f0) _ _ ((rd_T68 l0_2 x4_1).f1) _ _ ((rd_T68 l0_2 x4_1).f2) t230 _ ?side1 ?side2 ?side3 ?side4 A5.out).mono ?_); (case side1 => repeat (first | exact (Kd.C_below HR229_1.out HB.out) | (with_reducible refine Kd.C_alloc ?_ _) | (with_reducible refine Kd.C_drewN ?_ _) | (with_reducible refine Kd.C_drew ?_))); (case side2 => exact HC229_1.out); (case side3 => repeat (first | exact (Kd.C_below HR229_2.out HB.out) | (with_reducible refine Kd.C_alloc ?_ _) | (with_reducible refine Kd.C_drewN ?_ _) | (with_reducible refine Kd.C_drew ?_))); (case side4 => exact HC229_2.out); rintro e w7 ⟨rfl, hb⟩; refine ⟨_, rfl, ?_⟩; have n0_ := Aside0.mk (blk_below (g := gb228) (o := .cells #[.string a0_0, .slice A0_1 l0_1.length c0_1, .slice (some ad229) l0_2.length c0_2] 68 (0, 0)) (by (with_reducible repeat (first | refine blk_drewN ?_ _ | refine blk_drew ?_ | refine blk_alloc ?_ _)); exact BK228.out) hb); have n1_ := Aside0.mk (below_step (by repeat (first | (with_reducible first | exact HB.out | apply below_alloc | apply pw_below_drewN | apply below_drew1 | refine below_set ?_ GE228.out) | exact HB.out)) hb); clear BK228; clear HB; have BK228 := n0_; have HB := n1_; clear n0_ n1_; (try clear hb); (try clear hb2); (try clear hk); (try clear hi)))
          go_roundg k1
          case measure => have := HK1.out; omega
          case rel => exact ⟨(wrap64 (x3_1 + t230)), (wrap64 (x4_1 + 1)), (by first | rfl | (simp; done) | (simp [*]; done)), (by first | rfl | (simp; done) | (simp [*]; done)), H', ⟨by have := HK1.out; omega⟩, ⟨by (with_reducible repeat (first | refine blk_drewN ?_ _ | refine blk_drew ?_ | refine blk_alloc ?_ _)); exact BK228.out⟩, ⟨by repeat (first | (with_reducible first | exact HB.out | apply below_alloc | apply pw_below_drewN | apply below_drew1 | refine below_set ?_ GE228.out) | exact HB.out)⟩⟩
        · rw [if_neg c4] at H
          exact absurd H (by simp)
      · rw [if_neg c3] at H
        have c3b0 : decide (x4_1 < (l0_2.length : Int)) = false := decide_eq_false c3
        clear c3
        obtain rfl := Option.some.inj H
        have hcz8_0 : wr.cell? ⟨gb228, 0, none⟩ = some (.string a0_0) := (blk_cell BK228.out 0).trans rfl
        have hcz8_1 : wr.cell? ⟨gb228, 1, none⟩ = some (.slice A0_1 l0_1.length c0_1) := (blk_cell BK228.out 1).trans rfl
        have hcz8_2 : wr.cell? ⟨gb228, 2, none⟩ = some (.slice A0_2 l0_2.length c0_2) := (blk_cell BK228.out 2).trans rfl
        have hfz8_0 := blk_frozen BK228.out 0
        have hfz8_1 := blk_frozen BK228.out 1
        have hfz8_2 := blk_frozen BK228.out 2
        go_wp2
        go_ret
        exact ⟨by first | rfl | (simp [errW_none, errW_some] <;> rfl) | (simp [*, errW_none, errW_some] <;> rfl), by repeat (first | (with_reducible first | exact HB.out | apply below_alloc | apply pw_below_drewN | apply below_drew1 | refine below_set ?_ GE228.out) | exact HB.out)⟩

/-! ### pentaglotref31_Index: function 65 -/
def pentaglotref31_Index.l0 : Nat → List (S105) → ByteArray → Int → Option (Int)
  | 0, _, _, _ => none
  | k + 1, x0, x1, x5 => if x5 < (x0.length : Int) then (if 0 ≤ x5 then (if ((rd_T105 x0 x5).f0).toList = x1.toList then (some x5) else (pentaglotref31_Index.l0 k x0 x1 (wrap64 (x5 + 1)))) else (none)) else (some (x0.length : Int))
def pentaglotref31_Index.f (k : Nat) (l0 : List (S105)) (a1 : ByteArray) : Option (Int) := pentaglotref31_Index.l0 k l0 a1 0
theorem pentaglotref31_Index.mono_l : ∀ k, (∀ y0 y1 y2, LeO (pentaglotref31_Index.l0 k y0 y1 y2) (pentaglotref31_Index.l0 (k + 1) y0 y1 y2))
  | 0 => fun _ _ _ r h => by simp [pentaglotref31_Index.l0] at h
  | k + 1 => by
    have ih0 := pentaglotref31_Index.mono_l k
    · intro y0 y1 y2
      unfold pentaglotref31_Index.l0
      repeat' first
      | (with_reducible exact ih0 _ _ _)
      | (with_reducible exact LeO.refl _)
      | (with_reducible exact LeO.none _)
      | (with_reducible refine LeO.ite ?_ ?_)
      | (with_reducible refine LeO.bind ?_ (fun _ => ?_))
      | exact ih0 _ _ _
      | exact LeO.none _
      | refine LeO.ite ?_ ?_
      | refine LeO.bind ?_ (fun _ => ?_)
theorem pentaglotref31_Index.mono : ∀ a0 a1 k, LeO (pentaglotref31_Index.f k a0 a1) (pentaglotref31_Index.f (k + 1) a0 a1) := by
  intro a0 a1 k
  have ih0 := pentaglotref31_Index.mono_l k
  unfold pentaglotref31_Index.f
  repeat' first
      | (with_reducible exact ih0 _ _ _)
      | (with_reducible exact LeO.refl _)
      | (with_reducible exact LeO.none _)
      | (with_reducible refine LeO.ite ?_ ?_)
      | (with_reducible refine LeO.bind ?_ (fun _ => ?_))
      | exact ih0 _ _ _
      | exact LeO.none _
      | refine LeO.ite ?_ ?_
      | refine LeO.bind ?_ (fun _ => ?_)
set_option maxHeartbeats 8000000 in
set_option maxRecDepth 100000 in
theorem pentaglotref31_Index.calls (k : Nat) (A0 : Option Addr) (c0 : Nat) (l0 : List (S105)) (a1 : ByteArray) (r : Int) (w : World) (hr0 : Kd.C k105 w A0 l0.length l0) (hc0 : l0.length ≤ c0) (h : pentaglotref31_Index.f k l0 a1 = some r) :
    Calls Try.prog 65 #[.slice A0 l0.length c0, .string a1] w fun e w' => e = .returned (.int .i64 r) ∧ Drawn0 w w' := by
  have HR0 := Aside0.mk hr0
  have HC0 := Aside0.mk hc0
  clear hr0 hc0
  have H : (pentaglotref31_Index.l0 k l0 a1 0) = some r := h
  clear h
  have H' := Aside0.mk H
  clear H
  go_enter Try.func65, Try.ntmps65
  go_wp2
  go_loopg [5] k (fun kq v5 w' => ∃ (x5_1 : Int), v5 = .int .i64 x5_1 ∧ Aside0 (pentaglotref31_Index.l0 kq l0 a1 x5_1 = some r) ∧ Aside0 (kq ≤ k) ∧ Drawn0 w w')
  case atStart => exact ⟨(0), (by first | rfl | (simp; done) | (simp [*]; done)), H', ⟨Nat.le_refl _⟩, by repeat (first | exact Drawn0.refl _ | apply Drawn0.step)⟩
  case round =>
    clear H'
    try clear p2
    obtain ⟨x5_1, rfl, HA, HK1, ⟨m1, rfl⟩⟩ := hrel
    cases gk with
    | zero => exact absurd HA.out (by simp [pentaglotref31_Index.l0])
    | succ k1 =>
      have H := HA.out
      clear HA
      simp only [pentaglotref31_Index.l0] at H
      by_cases c3 : x5_1 < (l0.length : Int)
      · rw [if_pos c3] at H
        have c3b0 : decide (x5_1 < (l0.length : Int)) = true := decide_eq_true c3
        clear c3
        by_cases c4 : 0 ≤ x5_1
        · rw [if_pos c4] at H
          have c4b0 : decide (0 ≤ x5_1) = true := decide_eq_true c4
          clear c4
          by_cases c5 : ((rd_T105 l0 x5_1).f0).toList = a1.toList
          · rw [if_pos c5] at H
            have c5b0 : (((rd_T105 l0 x5_1).f0).toList == a1.toList) = true := beq_iff_eq.mpr c5
            have c5b1 : (((rd_T105 l0 x5_1).f0).toList != a1.toList) = false := bne_eq_false_iff_eq.mpr c5
            clear c5
            obtain rfl := Option.some.inj H
            have p231 : 0 ≤ (x5_1 : Int) := of_decide_eq_true (by first | (with_reducible assumption) | assumption)
            have q231 : x5_1 < (l0.length : Int) := of_decide_eq_true (by first | (with_reducible assumption) | assumption)
            obtain ⟨ad231, A231_1, c231_1, e231, hx231_0, hx231_1, hx231_2, hx231_3, hl231_1, hi231_1⟩ := at_T105 HR0.out x5_1 p231 q231
            cases e231
            have HR231_1 := Aside0.mk hi231_1
            have HC231_1 := Aside0.mk hl231_1
            clear hi231_1 hl231_1
            replace p231 := eq_true p231
            replace q231 := eq_true q231
            go_wp2
            go_ret
            exact ⟨by first | rfl | (simp; done) | (simp [*]; done), by repeat (first | exact Drawn0.refl _ | apply Drawn0.step)⟩
          · rw [if_neg c5] at H
            have c5b0 : (((rd_T105 l0 x5_1).f0).toList == a1.toList) = false := beq_eq_false_iff_ne.mpr c5
            have c5b1 : (((rd_T105 l0 x5_1).f0).toList != a1.toList) = true := bne_iff_ne.mpr c5
            have H' := Aside0.mk H
            clear H
            have p231 : 0 ≤ (x5_1 : Int) := of_decide_eq_true (by first | (with_reducible assumption) | assumption)
            have q231 : x5_1 < (l0.length : Int) := of_decide_eq_true (by first | (with_reducible assumption) | assumption)
            obtain ⟨ad231, A231_1, c231_1, e231, hx231_0, hx231_1, hx231_2, hx231_3, hl231_1, hi231_1⟩ := at_T105 HR0.out x5_1 p231 q231
            cases e231
            have HR231_1 := Aside0.mk hi231_1
            have HC231_1 := Aside0.mk hl231_1
            clear hi231_1 hl231_1
            replace p231 := eq_true p231
            replace q231 := eq_true q231
            go_wp2
            go_roundg k1
            case measure => have := HK1.out; omega
            case rel => exact ⟨(wrap64 (x5_1 + 1)), (by first | rfl | (simp; done) | (simp [*]; done)), H', ⟨by have := HK1.out; omega⟩, by repeat (first | exact Drawn0.refl _ | apply Drawn0.step)⟩
        · rw [if_neg c4] at H
          exact absurd H (by simp)
      · rw [if_neg c3] at H
        have c3b0 : decide (x5_1 < (l0.length : Int)) = false := decide_eq_false c3
        clear c3
        obtain rfl := Option.some.inj H
        go_wp2
        go_ret
        exact ⟨by first | rfl | (simp; done) | (simp [*]; done), by repeat (first | exact Drawn0.refl _ | apply Drawn0.step)⟩

/-! ### pentaglotref31_Value: function 66 -/
def pentaglotref31_Value.f (a0 : Int) : Option (Bool) := if a0 ≥ 0 then (some (decide (a0 ≤ 1439999999))) else (some false)
set_option maxHeartbeats 8000000 in
set_option maxRecDepth 100000 in
theorem pentaglotref31_Value.calls (a0 : Int) (r : Bool) (w : World) (h : pentaglotref31_Value.f a0 = some r) :
    Calls Try.prog 66 #[.int .i64 a0] w fun e w' => e = .returned (.bool r) ∧ Drawn0 w w' := by
  have H : (if a0 ≥ 0 then (some (decide (a0 ≤ 1439999999))) else (some false)) = some r := h
  clear h
  by_cases c2 : a0 ≥ 0
  · rw [if_pos c2] at H
    have c2b0 : decide (0 ≤ a0) = true := decide_eq_true c2
    clear c2
    obtain rfl := Option.some.inj H
    go_enter Try.func66, Try.ntmps66
    go_wp2
    go_ret
    exact ⟨by first | rfl | (simp; done) | (simp [*]; done), by repeat (first | exact Drawn0.refl _ | apply Drawn0.step)⟩
  · rw [if_neg c2] at H
    have c2b0 : decide (0 ≤ a0) = false := decide_eq_false c2
    clear c2
    obtain rfl := Option.some.inj H
    go_enter Try.func66, Try.ntmps66
    go_wp2
    go_ret
    exact ⟨by first | rfl | (simp; done) | (simp [*]; done), by repeat (first | exact Drawn0.refl _ | apply Drawn0.step)⟩

end Go.Proofs.Ytkblcdpmdbofgaa.A
/- A desk in memory: what is kept, rows whose elements are only read, the map of drafts. -/
namespace Go.Proofs.Ytkblcdpmdbofgaa.A
open Go.RowKit Go.Proofs.YtkblcdpmdbofgaaW.PrintWords Go.Proofs.YtkblcdpmdbofgaaW.PrintLast Go.Proofs.YtkblcdpmdbofgaaW.PrintMore
set_option linter.unusedVariables false
set_option linter.unusedSimpArgs false

/-! ### what is kept -/
/-- w' is w, but for the blocks of S and what is new. -/
structure Kp (w w' : World) (S : Nat → Prop) : Prop where
  os : w'.os = w.os
  tape : w'.tape = w.tape
  output : w'.output = w.output
  size : w.heap.size ≤ w'.heap.size
  block : ∀ k, k < w.heap.size → ¬ S k → w'.heap[k]? = w.heap[k]?
theorem Kp.refl (w : World) (S : Nat → Prop) : Kp w w S := ⟨rfl, rfl, rfl, Nat.le_refl _, fun _ _ _ => rfl⟩
theorem Kp.of_below {w w' : World} (h : Below w.heap.size w w') (S : Nat → Prop) : Kp w w' S := ⟨h.os, h.tape, h.output, h.size, fun k hk _ => h.block k hk⟩
theorem Kp.mono {w w' : World} {S S' : Nat → Prop} (h : Kp w w' S) (hs : ∀ k, S k → S' k) : Kp w w' S' := ⟨h.os, h.tape, h.output, h.size, fun k hk hn => h.block k hk (fun hq => hn (hs k hq))⟩
theorem Kp.then_ {w w1 w2 : World} {S S2 : Nat → Prop} (h : Kp w w1 S) (k : Kp w1 w2 S2) (hs : ∀ k, S2 k → S k ∨ w.heap.size ≤ k) : Kp w w2 S :=
  ⟨k.os.trans h.os, k.tape.trans h.tape, k.output.trans h.output, Nat.le_trans h.size k.size, fun i hi hn => (k.block i (Nat.lt_of_lt_of_le hi h.size) (fun h2 => (hs i h2).elim hn (fun h3 => by omega))).trans (h.block i hi hn)⟩
theorem Kp.below {w w1 w2 : World} {S : Nat → Prop} (h : Kp w w1 S) (hb : Below w1.heap.size w1 w2) : Kp w w2 S := h.then_ (Kp.of_below hb (fun _ => False)) (fun _ hk => hk.elim)
theorem Kp.of_grown {w w1 : World} {row : Option Nat} (hg : w.grownBy w1 row) : Kp w w1 (fun k => row = some k) := ⟨hg.os, hg.tape, hg.output, hg.size, fun k hk hn => hg.block k hk (fun e => hn e.symm)⟩
theorem Kp.setCell (w : World) (p : Addr) (u : Value) : Kp w (w.setCell p u) (fun k => k = p.block) := ⟨rfl, rfl, rfl, by simp [World.setCell], fun k _ hn => Below.heap_setCell w p u k hn⟩
theorem Kp.toBelow {w w' : World} {S : Nat → Prop} {B : Nat} (h : Kp w w' S) (hB : B ≤ w.heap.size) (hs : ∀ k, S k → B ≤ k) : Below B w w' :=
  ⟨h.os, h.tape, h.output, h.size, fun k hk => h.block k (Nat.lt_of_lt_of_le hk hB) (fun hq => by have := hs k hq; omega)⟩
theorem Kp.blk {w w' : World} {S : Nat → Prop} {g : Nat} {o : Obj} (h : w.heap[g]? = some o) (hk : Kp w w' S) (hn : ¬ S g) : w'.heap[g]? = some o := (hk.block g (blk_lt h) hn).trans h

/-! ### a row of one's own, its elements only read -/
def Row {α : Type} (d : Kd α) (e : Nat) (w : World) (inn : Nat → Prop) (v : Value) (xs : List α) : Prop :=
  ∃ rows : List (List Value), rows.length = xs.length ∧ (Kd.raw d.sz).R e w 0 (fun k => some k = v.ownBlock) v rows ∧ ∀ (j : Nat) (x : α) (c : List Value), xs[j]? = some x → rows[j]? = some c → Kd.FK d w inn x c
section
variable {α : Type} {d : Kd α} {e : Nat} {w w1 W : World} {inn inn' ok : Nat → Prop} {v : Value} {xs : List α}
theorem Row.of_N {base : Nat} (h : Kd.N d e w base ok v xs) (hok : ∀ k, ok k → inn k) : Row d e w inn v xs := by
  obtain ⟨h0, rows, hl, hR, hf⟩ := h
  exact ⟨rows, hl, Kd.R_lower hR (Nat.zero_le _), fun j x c hx hc => Kd.FK_mono (hf j x c hx hc) (fun k hk => hok k hk.1)⟩
theorem Row.of_R {base : Nat} (h : d.R e w base ok v xs) (hok : ∀ k, ok k → inn k) : Row d e w inn v xs := Row.of_N (Kd.R_N h) hok
theorem Row.nil (d : Kd α) (e : Nat) (w : World) (inn : Nat → Prop) : Row d e w inn (.slice none 0 0) [] := ⟨[], rfl, Kd.R_nil _ _ _ _ _, fun _ _ _ h => by simp at h⟩
theorem Row.mono (h : Row d e w inn v xs) (hi : ∀ k, inn k → inn' k) : Row d e w inn' v xs := by
  obtain ⟨rows, hl, hR, hf⟩ := h
  exact ⟨rows, hl, hR, fun j x c hx hc => Kd.FK_mono (hf j x c hx hc) hi⟩
theorem Row.step (h : Row d e w inn v xs) (ho : ∀ k, v.ownBlock = some k → w1.heap[k]? = w.heap[k]?) (hi : ∀ k, inn k → k < w.heap.size → w1.heap[k]? = w.heap[k]?) : Row d e w1 inn v xs := by
  obtain ⟨rows, hl, hR, hf⟩ := h
  exact ⟨rows, hl, Kd.R_step hR (fun k hk _ => ho k hk.symm), fun j x c hx hc => Kd.FK_step (hf j x c hx hc) hi⟩
theorem Row.lt (h : Row d e w inn v xs) : ∀ k, v.ownBlock = some k → k < w.heap.size := by
  obtain ⟨rows, hl, hR, hf⟩ := h
  exact Kd.R_lt hR
theorem Row.typed (h : Row d e w inn v xs) : ∀ k, v.ownBlock = some k → ∃ cells, w.heap[k]? = some (.cells cells e (0, 0)) := by
  obtain ⟨rows, hl, hR, hf⟩ := h
  exact Kd.R_typed hR
theorem Row.bound (h : Row d e w inn v xs) : Row d e w (fun k => inn k ∧ k < w.heap.size) v xs := by
  obtain ⟨rows, hl, hR, hf⟩ := h
  exact ⟨rows, hl, hR, fun j x c hx hc => Kd.FK_bound (hf j x c hx hc)⟩
theorem Row.slice (h : Row d e w inn v xs) : ∃ A c, v = .slice A xs.length c := by
  obtain ⟨rows, hl, hR, _⟩ := h
  obtain ⟨A, c, he⟩ := Kd.R_slice hR
  exact ⟨A, c, by rw [he, hl]⟩
theorem Row.reads' {A : Option Addr} {n c : Nat} (h : Row d e w inn (.slice A n c) xs) : n = xs.length ∧ n ≤ c ∧ d.C w A xs.length xs := by
  obtain ⟨rows, hl, hR, hf⟩ := h
  obtain ⟨hn, hc, hC⟩ := Kd.R_reads' hR
  refine ⟨by omega, hc, ?_⟩
  rw [hl] at hC
  refine ⟨rfl, hC.2.1, fun hp => ?_⟩
  obtain ⟨ad, he, hcell⟩ := hC.2.2 hp
  refine ⟨ad, he, fun j p hj => ?_⟩
  have hjl : j < rows.length := by have := (List.getElem?_eq_some_iff.1 hj).1; omega
  obtain ⟨c', hcl, hK, hcc⟩ := hcell j _ (List.getElem?_eq_getElem hjl)
  have hk := Kd.FK_now (hf j p _ hj (List.getElem?_eq_getElem hjl))
  refine ⟨c', hcl, ?_, hcc⟩
  rw [show c' = rows[j] from hK.1]
  exact hk
theorem Row.reads (h : Row d e w inn v xs) : ∃ A c, v = .slice A xs.length c ∧ xs.length ≤ c ∧ d.C w A xs.length xs := by
  obtain ⟨A, c, rfl⟩ := h.slice
  exact ⟨A, c, rfl, h.reads'.2⟩
/-- Behind an append of raw cells. -/
theorem Row.appended {rows : List (List Value)} {x : α} {c : List Value} {v1 : Value} (hl : rows.length = xs.length) (hf : ∀ (j : Nat) (x : α) (c : List Value), xs[j]? = some x → rows[j]? = some c → Kd.FK d W inn x c)
    (hx : Kd.FK d W inn x c) (hR : (Kd.raw d.sz).R e w1 0 (fun _ => True) v1 (rows ++ [c])) (hg : W.grownBy w1 v.ownBlock) (hin : ∀ k, inn k → some k ≠ v.ownBlock) : Row d e w1 inn v1 (xs ++ [x]) := by
  refine ⟨rows ++ [c], by simp [hl], Kd.raw_tight hR, fun j y c' hy hc => ?_⟩
  rcases Nat.lt_or_ge j xs.length with hj | hj
  · rw [List.getElem?_append_left hj] at hy
    rw [List.getElem?_append_left (by omega)] at hc
    exact Kd.FK_grown (hf j y c' hy hc) hg hin
  · rw [List.getElem?_append_right hj] at hy
    rw [List.getElem?_append_right (by omega)] at hc
    have h0 : j - xs.length = 0 := by
      have := (List.getElem?_eq_some_iff.1 hy).1
      simp at this
      omega
    rw [h0] at hy
    rw [hl, h0] at hc
    simp at hy hc
    subst hy
    subst hc
    exact Kd.FK_grown hx hg hin
end
section
variable {P : Program} {ops : Array Oper} {rest : List Oper} {o : Oper} {a : Act} {Q : Exit → Act → World → Prop} {Kc : Act → World → Prop} {α : Type}
/-- append(v, x) at the operation; the goal's world is 'W.alloc' of x's cells. -/
theorem Row.append (d : Kd α) {W : World} (hgd : o.guard = none) (s x : Operand) (t e : TypeId) (z : Value) (bytes : Nat)
    (ho : o.op = .call { callee := .builtin .append, args := #[s, x], argTypes := #[t, t] })
    (ht : P.underlying t = some (.slice e)) (hinfo : (P.info? e).map (fun i => (i.zero, i.size, i.bytes)) = some (some z, d.sz, bytes)) (hz : z.cells.size = d.sz) (hs0 : 0 < d.sz) (hb0 : 0 < bytes)
    (v : Value) (xs : List α) (p : α) (cs : List Value) (inn : Nat → Prop) (hs : a.eval s = v) (hx : a.eval x = .slice (some ⟨W.heap.size, 0, none⟩) 1 1) (hp : Kd.FK d W inn p cs) (hin : ∀ k, inn k → some k ≠ v.ownBlock)
    (HO : Row d e W inn v xs) (hl : (xs.length + 1) * bytes ≤ 140737488355328)
    (h : ∀ v1 w1, Row d e w1 inn v1 (xs ++ [p]) → W.grownBy w1 v.ownBlock → (v1.ownBlock = v.ownBlock ∨ ∃ b, v1.ownBlock = some b ∧ W.heap.size ≤ b) → wpList P ops Q rest (a.put o.dst v1) w1) :
    wpList P ops Q (o :: rest) a (W.alloc (.cells cs.toArray e)) := by
  obtain ⟨rows, hlr, hR, hf⟩ := HO
  refine Kd.R_append (Kd.raw d.sz) (w0 := W) 0 hgd s x t e z bytes ho ht hinfo hz hs0 hb0 v rows cs cs (fun _ => True) (fun _ => False) hs hx (Kd.FK_raw hp) (fun _ hk => hk.elim) (fun _ _ => trivial) (Kd.raw_any hR) (Below.refl 0 W) (Nat.zero_le _) (by rw [hlr]; exact hl) ?_
  intro v1 w1 hR1 _ hg hat
  exact h v1 w1 (Row.appended hlr hf hp hR1 hg hin) hg hat
/-- The same as a step of a region that draws its order. -/
theorem Row.append_step (d : Kd α) {W : World} (hw : Region.wanted o (yielded ops a.tmps) = true) (s x : Operand) (t e : TypeId) (z : Value) (bytes : Nat)
    (ho : o.op = .call { callee := .builtin .append, args := #[s, x], argTypes := #[t, t] })
    (ht : P.underlying t = some (.slice e)) (hinfo : (P.info? e).map (fun i => (i.zero, i.size, i.bytes)) = some (some z, d.sz, bytes)) (hz : z.cells.size = d.sz) (hs0 : 0 < d.sz) (hb0 : 0 < bytes)
    (v : Value) (xs : List α) (p : α) (cs : List Value) (inn : Nat → Prop) (hs : a.eval s = v) (hx : a.eval x = .slice (some ⟨W.heap.size, 0, none⟩) 1 1) (hp : Kd.FK d W inn p cs) (hin : ∀ k, inn k → some k ≠ v.ownBlock)
    (HO : Row d e W inn v xs) (hl : (xs.length + 1) * bytes ≤ 140737488355328)
    (h : ∀ v1 w1, Row d e w1 inn v1 (xs ++ [p]) → W.grownBy w1 v.ownBlock → (v1.ownBlock = v.ownBlock ∨ ∃ b, v1.ownBlock = some b ∧ W.heap.size ≤ b) → Kc (a.put o.dst v1) w1) :
    if Region.wanted o (yielded ops a.tmps) = true then Oper.wp P o a (W.alloc (.cells cs.toArray e)) Kc Q else Kc (a.put o.dst undef) (W.alloc (.cells cs.toArray e)) := by
  obtain ⟨rows, hlr, hR, hf⟩ := HO
  refine Kd.R_append_step (Kd.raw d.sz) (w0 := W) 0 hw s x t e z bytes ho ht hinfo hz hs0 hb0 v rows cs cs (fun _ => True) (fun _ => False) hs hx (Kd.FK_raw hp) (fun _ hk => hk.elim) (fun _ _ => trivial) (Kd.raw_any hR) (Below.refl 0 W) (Nat.zero_le _) (by rw [hlr]; exact hl) ?_
  intro v1 w1 hR1 _ hg hat
  exact h v1 w1 (Row.appended hlr hf hp hR1 hg hin) hg hat
end

/-! ### the map of drafts: number to block -/
def ptrR : Value → Option (DataW Unit × List MemPlace)
  | .pointer none => some (.lit (.int .i64 (-1)), [])
  | .pointer (some ⟨b, 0, none⟩) => some (.lit (.int .i64 (b : Int)), [])
  | _ => none
def ptrOf (sb : List Nat) (id : Int) : Option Addr := if 1 ≤ id ∧ id ≤ (sb.length : Int) then some ⟨sb.getD (id - 1).toNat 0, 0, none⟩ else none
def numOf : Option Addr → Int
  | none => -1
  | some a => (a.block : Int)
theorem ptrR_inv {v : Value} {q : Option Addr} {ps : List MemPlace} (hq : ∀ a, q = some a → a.off = 0 ∧ a.spot = none) (h : ptrR v = some (.lit (.int .i64 (numOf q)), ps)) : v = .pointer q := by
  cases v with
  | pointer p =>
    cases p with
    | none =>
      cases q with
      | none => rfl
      | some a => simp [ptrR, numOf] at h
    | some b =>
      obtain ⟨bb, bo, bs⟩ := b
      cases bo with
      | succ n => simp [ptrR] at h
      | zero =>
        cases bs with
        | some s => simp [ptrR] at h
        | none =>
          cases q with
          | none => simp [ptrR, numOf] at h
          | some a =>
            obtain ⟨ab, ao, as_⟩ := a
            obtain ⟨h1, h2⟩ := hq _ rfl
            simp only at h1 h2
            subst h1
            subst h2
            simp [ptrR, numOf] at h
            obtain ⟨h, _⟩ := h
            have : bb = ab := by omega
            rw [this]
  | _ => simp [ptrR] at h
theorem ptrOf_form (sb : List Nat) (id : Int) : ∀ a, ptrOf sb id = some a → a.off = 0 ∧ a.spot = none := by
  intro a h
  unfold ptrOf at h
  split at h
  · cases h; exact ⟨rfl, rfl⟩
  · cases h

theorem keyed3 : Maps.Keyed Try.prog 3 := Maps.int_keyed Try.underlying3
theorem zero80 (w : World) : (zeroValue 80).run Try.prog w = .ok (.pointer none) w := by kernel_rfl

/-- Block mb is the map of the numbers 1, 2, .. to the blocks sb. -/
def MapAt (w : World) (mb : Nat) (sb : List Nat) : Prop := ∃ D : DataW Unit, w.ownsMap Try.prog 3 ptrR mb sb.length D ∧ Maps.size D = sb.length ∧
  ∀ id : Int, (Lit.int .i64 id).wf = true → D.atKey (.int .i64 id) (.lit (.int .i64 (-1))) = .lit (.int .i64 (numOf (ptrOf sb id))) ∧ Maps.has D (.int .i64 id) = (ptrOf sb id).isSome
theorem MapAt.step {w w1 : World} {mb : Nat} {sb : List Nat} (h : MapAt w mb sb) (hm : w1.heap[mb]? = w.heap[mb]?) : MapAt w1 mb sb := by
  obtain ⟨D, ⟨es, clock, hb, F, hs, hD⟩, h2, h3⟩ := h
  exact ⟨D, ⟨es, clock, hm.trans hb, F, hs, hD⟩, h2, h3⟩
theorem MapAt.lt {w : World} {mb : Nat} {sb : List Nat} (h : MapAt w mb sb) : mb < w.heap.size := by
  obtain ⟨D, h1, _⟩ := h
  exact h1.lt
theorem MapAt.notCells {w : World} {mb : Nat} {sb : List Nat} (h : MapAt w mb sb) {g : Nat} {cs : Array Value} {e : TypeId} {fr : Nat × Nat} (hg : w.heap[g]? = some (.cells cs e fr)) : g ≠ mb := by
  obtain ⟨D, ⟨es, clock, hb, _⟩, _⟩ := h
  intro e
  subst e
  rw [hb] at hg
  cases hg
theorem MapAt.look {w : World} {mb : Nat} {sb : List Nat} (h : MapAt w mb sb) (id : Int) (hid : (Lit.int .i64 id).wf = true) :
    (Instr.lookup 73 (.map (some mb)) (.int .i64 id) false).run Try.prog w = .ok (.pointer (ptrOf sb id)) w := by
  obtain ⟨D, h1, _, h3⟩ := h
  obtain ⟨v, ps, hrun, hv⟩ := h1.lookup keyed3 Try.underlying73 (zero80 w) (zd := .lit (.int .i64 (-1))) (zp := []) rfl (Maps.keyOf_int_mk Try.underlying3 hid)
  rw [(h3 id hid).1] at hv
  rw [hrun, ptrR_inv (ptrOf_form sb id) hv]
theorem MapAt.len {w : World} {mb : Nat} {sb : List Nat} (h : MapAt w mb sb) (ty : TypeId) : (Builtin.len_ #[73] ty #[.map (some mb)]).run Try.prog w = .ok (.int .i64 (sb.length : Int)) w := by
  obtain ⟨D, h1, h2, _⟩ := h
  rw [h1.len Try.underlying73 ty, h2]
theorem MapAt.made (w : World) : MapAt (w.alloc (.map #[] 0)) w.heap.size [] := by
  refine ⟨.map [], World.ownsMap_made w Try.prog 3 ptrR, rfl, fun id _ => ⟨?_, ?_⟩⟩
  · have : ptrOf [] id = none := by unfold ptrOf; rw [if_neg (by simp; omega)]
    rw [this]; rfl
  · have : ptrOf [] id = none := by unfold ptrOf; rw [if_neg (by simp; omega)]
    rw [this]; rfl
theorem wf_i64 {x : Int} (h0 : -9223372036854775808 ≤ x) (h1 : x ≤ 9223372036854775807) : (Lit.int .i64 x).wf = true := WalkArith.wf_i64 ⟨h0, h1⟩
theorem MapAt.store {w : World} {mb g : Nat} {sb : List Nat} (h : MapAt w mb sb) (hn : sb.length < 1000000) :
    ∃ w', (Instr.mapUpdate 73 (.map (some mb)) (.int .i64 ((sb.length : Int) + 1)) (.pointer (some ⟨g, 0, none⟩))).run Try.prog w = .ok () w' ∧ MapAt w' mb (sb ++ [g]) ∧ w.grownBy w' (some mb) := by
  obtain ⟨D, h1, h2, h3⟩ := h
  have hw : (Lit.int .i64 ((sb.length : Int) + 1)).wf = true := wf_i64 (by omega) (by omega)
  obtain ⟨w', hrun, hown, hg⟩ := h1.update keyed3 Try.underlying73 (by unfold maxLen; omega) (Maps.keyOf_int_mk Try.underlying3 hw) (show ptrR (.pointer (some ⟨g, 0, none⟩)) = some (.lit (.int .i64 (g : Int)), []) from rfl)
  have hno : Maps.has D (.int .i64 ((sb.length : Int) + 1)) = false := by
    rw [(h3 _ hw).2]
    unfold ptrOf
    rw [if_neg (by omega)]; rfl
  refine ⟨w', hrun, ⟨D.put (.int .i64 ((sb.length : Int) + 1)) (.lit (.int .i64 (g : Int))), ?_, ?_, fun id hid => ?_⟩, hg⟩
  · rw [List.length_append]; exact hown
  · rw [Maps.size_put (h1.tidy keyed3), hno, h2]; simp
  · by_cases he : id = (sb.length : Int) + 1
    · subst he
      have hp : ptrOf (sb ++ [g]) ((sb.length : Int) + 1) = some ⟨g, 0, none⟩ := by
        unfold ptrOf
        rw [if_pos (by simp; omega)]
        have : ((sb.length : Int) + 1 - 1).toNat = sb.length := by omega
        rw [this, List.getD_eq_getElem?_getD, List.getElem?_append_right (Nat.le_refl _)]
        simp
      rw [hp]
      exact ⟨Maps.atKey_put_same h1.isMap (by trivial) _ _, Maps.has_put_same h1.isMap (by trivial) _⟩
    · have hne : (Lit.int .i64 id) ≠ Lit.int .i64 ((sb.length : Int) + 1) := by
        intro e; injection e with e1 e2; exact he e2
      have hp : ptrOf (sb ++ [g]) id = ptrOf sb id := by
        unfold ptrOf
        by_cases h4 : 1 ≤ id ∧ id ≤ (sb.length : Int)
        · rw [if_pos h4, if_pos (by simp; omega), List.getD_eq_getElem?_getD, List.getD_eq_getElem?_getD, List.getElem?_append_left (by omega)]
        · rw [if_neg h4, if_neg (by simp; omega)]
      rw [hp, Maps.atKey_put_other hne, Maps.has_put_other hne]
      exact h3 id hid
end Go.Proofs.Ytkblcdpmdbofgaa.A
/- A desk as plain data, and as it lies in memory. -/
namespace Go.Proofs.Ytkblcdpmdbofgaa.A
open Go.RowKit Go.Proofs.YtkblcdpmdbofgaaW.PrintWords Go.Proofs.YtkblcdpmdbofgaaW.PrintLast Go.Proofs.YtkblcdpmdbofgaaW.PrintMore
set_option linter.unusedVariables false
set_option linter.unusedSimpArgs false

/-- A draft: its newest revision, the notices of the earlier ones, its approvals. -/
structure Dr where
  author : ByteArray
  trees : List S68
  earlier : List (List S68)
  approvals : List ByteArray
  closed : Bool
structure Dk where
  eds : List ByteArray
  needed : Int
  drafts : List Dr

/-- Draft number i (from 0) lies at block g: tags tell whose a block is: 1: what is only read, 2: the desk's own, i + 3: the draft's own. -/
def DraftAt (w : World) (tag : Nat → Nat) (i g : Nat) (d : Dr) : Prop :=
  ∃ At ct ve vp, w.heap[g]? = some (.cells #[.string d.author, .slice At d.trees.length ct, ve, vp, .bool d.closed] 79 (0, 0)) ∧ d.trees.length ≤ ct ∧ Kd.F k68 w (fun k => tag k = 1) At d.trees.length d.trees ∧
    Row (Kd.slice 68 k68) 33 w (fun k => tag k = 1) ve d.earlier ∧ Row Kd.string 9 w (fun _ => False) vp d.approvals ∧
    tag g = i + 3 ∧ (∀ k, ve.ownBlock = some k → tag k = i + 3) ∧ (∀ k, vp.ownBlock = some k → tag k = i + 3)
/-- The desk D lies at block dp, its map at mb, its drafts at the blocks sb. -/
structure DeskAt (w : World) (tag : Nat → Nat) (dp mb : Nat) (sb : List Nat) (D : Dk) : Prop where
  desk : ∃ Ae ce, w.heap[dp]? = some (.cells #[.slice Ae D.eds.length ce, .int .i64 D.needed, .map (some mb)] 75 (0, 0)) ∧ D.eds.length ≤ ce ∧ Kd.F Kd.string w (fun k => tag k = 1) Ae D.eds.length D.eds
  tagD : tag dp = 2
  tagM : tag mb = 2
  map : MapAt w mb sb
  len : sb.length = D.drafts.length
  drafts : ∀ i g d, sb[i]? = some g → D.drafts[i]? = some d → DraftAt w tag i g d
  few : D.drafts.length ≤ 256

theorem DraftAt.step {w w1 : World} {tag tag1 : Nat → Nat} {i g : Nat} {d : Dr} (h : DraftAt w tag i g d) (h1 : ∀ k, k < w.heap.size → tag k = 1 ∨ tag k = i + 3 → w1.heap[k]? = w.heap[k]?) (ht : ∀ k, k < w.heap.size → tag1 k = tag k) : DraftAt w1 tag1 i g d := by
  obtain ⟨At, ct, ve, vp, hb, hc, hF, hE, hP, hg, hve, hvp⟩ := h
  have hlt := blk_lt hb
  refine ⟨At, ct, ve, vp, (h1 g hlt (.inr hg)).trans hb, hc, ?_, ?_, ?_, (ht g hlt).trans hg, fun k hk => (ht k (hE.lt k hk)).trans (hve k hk), fun k hk => (ht k (hP.lt k hk)).trans (hvp k hk)⟩
  · refine Kd.F_mono (Kd.F_step (Kd.F_bound hF) (fun k hk hl => h1 k hl (.inl hk.1))) (fun k hk => (ht k hk.2).trans hk.1)
  · refine (hE.bound.step (fun k hk => h1 k (hE.lt k hk) (.inr (hve k hk))) (fun k hk hl => h1 k hl (.inl hk.1))).mono (fun k hk => (ht k hk.2).trans hk.1)
  · exact hP.step (fun k hk => h1 k (hP.lt k hk) (.inr (hvp k hk))) (fun k hk => hk.elim)

theorem DeskAt.step {w w1 : World} {tag tag1 : Nat → Nat} {dp mb : Nat} {sb : List Nat} {D : Dk} (h : DeskAt w tag dp mb sb D) (h1 : ∀ k, k < w.heap.size → tag k ≠ 0 → w1.heap[k]? = w.heap[k]?) (ht : ∀ k, k < w.heap.size → tag1 k = tag k) : DeskAt w1 tag1 dp mb sb D := by
  obtain ⟨Ae, ce, hb, hc, hF⟩ := h.desk
  refine ⟨⟨Ae, ce, (h1 dp (blk_lt hb) (by rw [h.tagD]; decide)).trans hb, hc, ?_⟩, (ht dp (blk_lt hb)).trans h.tagD, (ht mb h.map.lt).trans h.tagM, h.map.step (h1 mb h.map.lt (by rw [h.tagM]; decide)), h.len, fun i g d hg hd => (h.drafts i g d hg hd).step (fun k hk ht' => h1 k hk (by omega)) ht, h.few⟩
  exact Kd.F_mono (Kd.F_step (Kd.F_bound hF) (fun k hk hl => h1 k hl (by rw [hk.1]; decide))) (fun k hk => (ht k hk.2).trans hk.1)
theorem DeskAt.below {w w1 : World} {tag : Nat → Nat} {dp mb : Nat} {sb : List Nat} {D : Dk} (h : DeskAt w tag dp mb sb D) (hb : Below w.heap.size w w1) : DeskAt w1 tag dp mb sb D := h.step (fun k hk _ => hb.block k hk) (fun _ _ => rfl)

/-- The draft with a number, and its block. -/
def Dk.get (D : Dk) (id : Int) : Option Dr := if 1 ≤ id then D.drafts[(id - 1).toNat]? else none
theorem ptrOf_none {sb : List Nat} {D : Dk} (hl : sb.length = D.drafts.length) {id : Int} (h : D.get id = none) : ptrOf sb id = none := by
  unfold Dk.get at h
  unfold ptrOf
  by_cases h1 : 1 ≤ id
  · rw [if_pos h1, List.getElem?_eq_none_iff] at h
    rw [if_neg (by omega)]
  · rw [if_neg (by omega)]
theorem ptrOf_some {sb : List Nat} {D : Dk} (hl : sb.length = D.drafts.length) {id : Int} {d : Dr} (h : D.get id = some d) : ∃ (i g : Nat), id = (i : Int) + 1 ∧ sb[i]? = some g ∧ D.drafts[i]? = some d ∧ ptrOf sb id = some ⟨g, 0, none⟩ := by
  unfold Dk.get at h
  by_cases h1 : 1 ≤ id
  · rw [if_pos h1] at h
    have hlt := (List.getElem?_eq_some_iff.1 h).1
    refine ⟨(id - 1).toNat, sb[(id - 1).toNat], by omega, List.getElem?_eq_getElem (by omega), h, ?_⟩
    unfold ptrOf
    rw [if_pos (by omega), List.getD_eq_getElem?_getD, List.getElem?_eq_getElem (by omega)]
    rfl
  · rw [if_neg h1] at h
    cases h

/-- (*Desk).current: the error, or none. -/
def Dk.cur (D : Dk) (id num : Int) : Int := match D.get id with
  | none => 4
  | some d => if d.closed = true then 10 else if (d.earlier.length : Int) + 1 = num then 0 else 11
end Go.Proofs.Ytkblcdpmdbofgaa.A
/- (*Desk).current, Ready, Close, valid. -/
namespace Go.Proofs.Ytkblcdpmdbofgaa.A
open Go.RowKit Go.Proofs.YtkblcdpmdbofgaaW.PrintWords Go.Proofs.YtkblcdpmdbofgaaW.PrintLast Go.Proofs.YtkblcdpmdbofgaaW.PrintMore
set_option linter.unusedVariables false
set_option linter.unusedSimpArgs false

set_option maxHeartbeats 400000 in
set_option maxRecDepth 100000 in
theorem newest_calls (g n c : Nat) (A : Option Addr) (w : World) (hc : w.cell? ⟨g, 2, none⟩ = some (.slice A n c)) (hn : n ≤ 1000000) :
    Calls Try.prog 40 #[.pointer (some ⟨g, 0, none⟩)] w fun e w' => e = .returned (.int .i64 ((n : Int) + 1)) ∧ w = w' := by
  have hn' : (n : Int) ≤ 1000000 := by omega
  go_enter Try.func40, Try.ntmps40
  go_wp2
  go_ret
  exact ⟨rfl, rfl⟩

/-- What is read of a desk and one of its drafts. -/
theorem DraftAt.cells {w : World} {tag : Nat → Nat} {i g : Nat} {d : Dr} (h : DraftAt w tag i g d) : ∃ At ct Ae ce Ap cp, w.heap[g]? = some (.cells #[.string d.author, .slice At d.trees.length ct, .slice Ae d.earlier.length ce, .slice Ap d.approvals.length cp, .bool d.closed] 79 (0, 0)) := by
  obtain ⟨At, ct, ve, vp, hb, _, _, hE, hP, _⟩ := h
  obtain ⟨Ae, ce, rfl⟩ := hE.slice
  obtain ⟨Ap, cp, rfl⟩ := hP.slice
  exact ⟨At, ct, Ae, ce, Ap, cp, hb⟩

set_option maxHeartbeats 400000 in
set_option maxRecDepth 100000 in
theorem current_none (w : World) (tag : Nat → Nat) (dp mb : Nat) (sb : List Nat) (D : Dk) (h : DeskAt w tag dp mb sb D) (id num : Int) (hid : (Lit.int .i64 id).wf = true) (hn : D.get id = none) :
    Calls Try.prog 37 #[.pointer (some ⟨dp, 0, none⟩), .int .i64 id, .int .i64 num] w fun e w' => e = .returned (.tuple #[.pointer none, .int .i64 4]) ∧ w = w' := by
  obtain ⟨Ae, ce, hb, _, _⟩ := h.desk
  have c2 := blk_cell hb 2
  simp at c2
  have hl := h.map.look id hid
  rw [ptrOf_none h.len hn] at hl
  clear hb h hn hid
  go_enter Try.func37, Try.ntmps37
  go_wp2
  go_ret2
  exact ⟨rfl, rfl⟩

def curRes (d : Dr) (g : Nat) (num : Int) : Value := if d.closed = true then .tuple #[.pointer none, .int .i64 10] else if (d.earlier.length : Int) + 1 = num then .tuple #[.pointer (some ⟨g, 0, none⟩), .int .i64 0] else .tuple #[.pointer none, .int .i64 11]
set_option maxHeartbeats 400000 in
set_option maxRecDepth 100000 in
theorem current_some (w : World) (tag : Nat → Nat) (dp mb : Nat) (sb : List Nat) (D : Dk) (h : DeskAt w tag dp mb sb D) (i g : Nat) (d : Dr) (num : Int) (hi : i < 256) (hg : sb[i]? = some g) (hd : D.drafts[i]? = some d) (hp : ptrOf sb ((i : Int) + 1) = some ⟨g, 0, none⟩) (he : d.earlier.length ≤ 1000000) :
    Calls Try.prog 37 #[.pointer (some ⟨dp, 0, none⟩), .int .i64 ((i : Int) + 1), .int .i64 num] w fun e w' => e = .returned (curRes d g num) ∧ w = w' := by
  obtain ⟨Ae, ce, hb, _, _⟩ := h.desk
  have c2 := blk_cell hb 2
  simp at c2
  have hl := h.map.look ((i : Int) + 1) (wf_i64 (by omega) (by omega))
  rw [hp] at hl
  obtain ⟨At, ct, Ae', ce', Ap, cp, hbd⟩ := (h.drafts i g d hg hd).cells
  have d2 := blk_cell hbd 2
  have d4 := blk_cell hbd 4
  simp at d2 d4
  have N := Aside0.mk (fun W (hW : W.cell? ⟨g, 2, none⟩ = some (.slice Ae' d.earlier.length ce')) => newest_calls g d.earlier.length ce' Ae' W hW he)
  clear hb h hg hd hp hbd he hi
  cases hcl : d.closed with
  | true =>
    rw [hcl] at d4
    have HF : Aside0 (curRes d g num = .tuple #[.pointer none, .int .i64 10]) := ⟨by unfold curRes; rw [if_pos hcl]⟩
    clear hcl
    go_enter Try.func37, Try.ntmps37
    go_wp2
    go_ret2
    exact ⟨by rw [HF.out]; rfl, rfl⟩
  | false =>
    rw [hcl] at d4
    by_cases hn : (d.earlier.length : Int) + 1 = num
    · have f1 : ((d.earlier.length : Int) + 1 != num) = false := bne_eq_false_iff_eq.mpr hn
      have HF : Aside0 (curRes d g num = .tuple #[.pointer (some ⟨g, 0, none⟩), .int .i64 0]) := ⟨by unfold curRes; rw [if_neg (by rw [hcl]; simp), if_pos hn]⟩
      clear hn hcl
      go_enter Try.func37, Try.ntmps37
      go_wp2_with (go_at_call 40; refine (N.out _ d2).mono ?_; rintro e w' ⟨rfl, rfl⟩)
      go_ret2
      exact ⟨by rw [HF.out]; rfl, rfl⟩
    · have f1 : ((d.earlier.length : Int) + 1 != num) = true := bne_iff_ne.mpr hn
      have HF : Aside0 (curRes d g num = .tuple #[.pointer none, .int .i64 11]) := ⟨by unfold curRes; rw [if_neg (by rw [hcl]; simp), if_neg hn]⟩
      clear hn hcl
      go_enter Try.func37, Try.ntmps37
      go_wp2_with (go_at_call 40; refine (N.out _ d2).mono ?_; rintro e w' ⟨rfl, rfl⟩)
      go_ret2
      exact ⟨by rw [HF.out]; rfl, rfl⟩

/-- The drafts' lists are not too long for the machine. -/
def Dr.ok (d : Dr) : Prop := d.earlier.length ≤ 255 ∧ d.approvals.length ≤ 100000 ∧ bulkL d.trees ≤ 2000000 ∧ ∀ l ∈ d.earlier, bulkL l ≤ 2000000
def Dk.ok (D : Dk) : Prop := D.eds.length ≤ 1000000 ∧ ∀ d ∈ D.drafts, d.ok
theorem Dk.ok.get {D : Dk} (h : D.ok) {i : Nat} {d : Dr} (hd : D.drafts[i]? = some d) : d.ok := h.2 d (List.mem_of_getElem? hd)

/-- (*Desk).current: an open draft whose newest revision is this one, or an error. -/
theorem current_calls (w : World) (tag : Nat → Nat) (dp mb : Nat) (sb : List Nat) (D : Dk) (h : DeskAt w tag dp mb sb D) (hok : D.ok) (id num : Int) (hid : (Lit.int .i64 id).wf = true) :
    Calls Try.prog 37 #[.pointer (some ⟨dp, 0, none⟩), .int .i64 id, .int .i64 num] w fun e w' => e = .returned (.tuple #[.pointer (if D.cur id num = 0 then ptrOf sb id else none), .int .i64 (D.cur id num)]) ∧ w = w' := by
  cases hg : D.get id with
  | none =>
    refine (current_none w tag dp mb sb D h id num hid hg).mono ?_
    rintro e w' ⟨rfl, rfl⟩
    have hc : D.cur id num = 4 := by unfold Dk.cur; rw [hg]
    rw [hc]
    exact ⟨rfl, rfl⟩
  | some d =>
    obtain ⟨i, g, rfl, hs, hd, hp⟩ := ptrOf_some h.len hg
    have hlt := (List.getElem?_eq_some_iff.1 hd).1
    have hf := h.few
    have ho := (hok.get hd).1
    refine (current_some w tag dp mb sb D h i g d num (by omega) hs hd hp (by omega)).mono ?_
    rintro e w' ⟨rfl, rfl⟩
    refine ⟨?_, rfl⟩
    unfold Dk.cur curRes
    rw [hg]
    simp only [hp]
    by_cases h1 : d.closed = true
    · rw [if_pos h1, if_pos h1]; rfl
    · rw [if_neg h1, if_neg h1]
      by_cases h2 : (d.earlier.length : Int) + 1 = num
      · rw [if_pos h2, if_pos h2]; rfl
      · rw [if_neg h2, if_neg h2]; rfl
end Go.Proofs.Ytkblcdpmdbofgaa.A
/- slices.Contains at strings; (*Desk).Ready, valid, Close. -/
namespace Go.Proofs.Ytkblcdpmdbofgaa.A
open Go.RowKit Go.Proofs.YtkblcdpmdbofgaaW.PrintWords Go.Proofs.YtkblcdpmdbofgaaW.PrintLast Go.Proofs.YtkblcdpmdbofgaaW.PrintMore
set_option linter.unusedVariables false
set_option linter.unusedSimpArgs false

/-- Is a string in a list? -/
def memS (l : List ByteArray) (x : ByteArray) : Bool := l.any fun y => decide (x.toList = y.toList)
theorem index_ev (x : ByteArray) : ∀ (post pre : List ByteArray), pre.length + post.length ≤ 2000000 →
    ∃ r, Ev (fun k => slices_Index_string_string.l0 k (pre ++ post) x ((pre ++ post).length : Int) (pre.length : Int)) r ∧ decide (r ≥ 0) = memS post x
  | [], pre, hl => by
    refine ⟨-1, Ev.step (f := fun _ => some (-1)) (fun k => ?_) (Ev.now _), by simp [memS]⟩
    rw [slices_Index_string_string.l0, if_neg (by simp)]
  | y :: r, pre, hl => by
    simp only [List.length_cons] at hl
    by_cases h : x.toList = y.toList
    · refine ⟨(pre.length : Int), Ev.step (f := fun _ => some (pre.length : Int)) (fun k => ?_) (Ev.now _), ?_⟩
      · rw [slices_Index_string_string.l0, if_pos (by simp; omega), if_pos (by omega), if_pos (by simp; omega), rdOf_cons, if_pos h]
      · simp [memS, h]
    · obtain ⟨q, hq, hm⟩ := index_ev x r (pre ++ [y]) (by simp; omega)
      have e1 : pre ++ [y] ++ r = pre ++ y :: r := by simp
      have e2 : ((pre ++ [y]).length : Int) = (pre.length : Int) + 1 := by simp
      rw [e1, e2] at hq
      refine ⟨q, Ev.step (fun k => ?_) hq, by rw [hm]; simp [memS, h]⟩
      rw [slices_Index_string_string.l0, if_pos (by simp; omega), if_pos (by omega), if_pos (by simp; omega), rdOf_cons, if_neg h, wrap_small (by omega) (by omega)]
theorem contains_ev (l : List ByteArray) (x : ByteArray) (hl : l.length ≤ 2000000) : Ev (fun k => slices_Contains_string_string.f k l x) (memS l x) := by
  obtain ⟨q, hq, hm⟩ := index_ev x l [] (by simpa using hl)
  unfold slices_Contains_string_string.f slices_Index_string_string.f
  simp only [List.nil_append, List.length_nil] at hq
  rw [← hm]
  exact Ev.bind hq (Ev.now _)
theorem contains_calls (A : Option Addr) (c : Nat) (l : List ByteArray) (x : ByteArray) (w : World) (hl : l.length ≤ 2000000) (hr : Kd.C Kd.string w A l.length l) (hc : l.length ≤ c) :
    Calls Try.prog 34 #[.slice A l.length c, .string x] w fun e w' => e = .returned (.bool (memS l x)) ∧ Drawn0 w w' := by
  obtain ⟨k, hk⟩ := (contains_ev l x hl).rounds
  exact slices_Contains_string_string.calls k A c l x (memS l x) w hr hc hk

def Dk.valid (D : Dk) (ed : ByteArray) (ts : List S68) : Bool := memS D.eds ed && noticeS ts

set_option maxHeartbeats 400000 in
set_option maxRecDepth 100000 in
theorem valid_calls (w : World) (tag : Nat → Nat) (dp mb : Nat) (sb : List Nat) (D : Dk) (h : DeskAt w tag dp mb sb D) (hok : D.ok) (ed : ByteArray) (ts : List S68) (A : Option Addr) (c : Nat) (hb : bulkL ts ≤ 2000000) (hr : k68.C w A ts.length ts) (hc : ts.length ≤ c) :
    Calls Try.prog 39 #[.pointer (some ⟨dp, 0, none⟩), .string ed, .slice A ts.length c] w fun e w' => e = .returned (.bool (D.valid ed ts)) ∧ Below w.heap.size w w' := by
  obtain ⟨Ae, ce, hbk, hce, hF⟩ := h.desk
  have c0 := blk_cell hbk 0
  simp at c0
  have C1 := Aside0.mk (contains_calls Ae ce D.eds ed w (by have := hok.1; omega) (Kd.F_now hF) hce)
  have C2 := Aside0.mk (fun (W : World) (hW : Below w.heap.size w W) => notice_calls ts A c W hb (Kd.C_below hr hW) hc)
  clear h hok hb hr hc hbk hce hF
  cases hm : memS D.eds ed with
  | false =>
    rw [hm] at C1
    have HF : Aside0 (D.valid ed ts = false) := ⟨by unfold Dk.valid; rw [hm]; rfl⟩
    clear hm C2
    go_enter Try.func39, Try.ntmps39
    go_wp2_with (go_at_call 34; refine C1.out.mono ?_; rintro e w1 ⟨rfl, ⟨n, rfl⟩⟩)
    go_ret
    exact ⟨by rw [HF.out]; rfl, pw_below_drewN (Below.refl _ _) _⟩
  | true =>
    rw [hm] at C1
    have HF : Aside0 (D.valid ed ts = noticeS ts) := ⟨by unfold Dk.valid; rw [hm]; rfl⟩
    clear hm
    go_enter Try.func39, Try.ntmps39
    go_wp2_with (first | (go_at_call 34; refine C1.out.mono ?_; rintro e w1 ⟨rfl, ⟨n, rfl⟩⟩) | (go_at_call 50; refine (C2.out _ (pw_below_drewN (Below.refl _ _) _)).mono ?_; rintro e w2 ⟨rfl, hB⟩))
    go_ret
    exact ⟨by rw [HF.out]; rfl, below_step (pw_below_drewN (Below.refl _ _) _) hB⟩

theorem Dk.cur_zero {D : Dk} {id num : Int} (h : D.cur id num = 0) : ∃ d, D.get id = some d ∧ d.closed = false ∧ (d.earlier.length : Int) + 1 = num := by
  unfold Dk.cur at h
  cases hg : D.get id with
  | none => rw [hg] at h; simp at h
  | some d =>
    rw [hg] at h
    simp only at h
    by_cases h1 : d.closed = true
    · rw [if_pos h1] at h; simp at h
    · rw [if_neg h1] at h
      by_cases h2 : (d.earlier.length : Int) + 1 = num
      · exact ⟨d, rfl, by simpa using h1, h2⟩
      · rw [if_neg h2] at h; simp at h
def Dk.ready (D : Dk) (id num : Int) : Int := if D.cur id num = 4 then 4 else if D.cur id num = 0 then (match D.get id with | some d => if (d.approvals.length : Int) < D.needed then 10 else 0 | none => 10) else 10

set_option maxHeartbeats 400000 in
set_option maxRecDepth 100000 in
theorem ready_calls (w : World) (tag : Nat → Nat) (dp mb : Nat) (sb : List Nat) (D : Dk) (h : DeskAt w tag dp mb sb D) (hok : D.ok) (id num : Int) (hid : (Lit.int .i64 id).wf = true) :
    Calls Try.prog 17 #[.pointer (some ⟨dp, 0, none⟩), .int .i64 id, .int .i64 num] w fun e w' => e = .returned (.int .i64 (D.ready id num)) ∧ Drawn0 w w' := by
  have C1 := Aside0.mk (current_calls w tag dp mb sb D h hok id num hid)
  by_cases h4 : D.cur id num = 4
  · have HF : Aside0 (D.ready id num = 4) := ⟨by unfold Dk.ready; rw [if_pos h4]⟩
    rw [h4] at C1
    clear h hok hid h4
    go_enter Try.func17, Try.ntmps17
    go_wp2_with (go_at_call 37; refine C1.out.mono ?_; rintro e w1 ⟨rfl, rfl⟩)
    go_ret
    exact ⟨by rw [HF.out]; rfl, Drawn0.refl _⟩
  · by_cases h0 : D.cur id num = 0
    · obtain ⟨d, hd, _, _⟩ := Dk.cur_zero h0
      obtain ⟨i, g, rfl, hs, hdi, hp⟩ := ptrOf_some h.len hd
      obtain ⟨At, ct, Ae', ce', Ap, cp, hbd⟩ := (h.drafts i g d hs hdi).cells
      obtain ⟨Ae, ce, hbk, _, _⟩ := h.desk
      have d3 := blk_cell hbd 3
      have d1 := blk_cell hbk 1
      simp at d3 d1
      rw [h0, hp, if_pos rfl] at C1
      have HF : Aside0 (D.ready ((i : Int) + 1) num = if (d.approvals.length : Int) < D.needed then 10 else 0) := ⟨by unfold Dk.ready; rw [if_neg h4, if_pos h0, hd]⟩
      clear h hok hid h4 h0 hd hs hdi hp hbd hbk
      by_cases hl : (d.approvals.length : Int) < D.needed
      · have f1 : decide ((d.approvals.length : Int) < D.needed) = true := decide_eq_true hl
        replace HF : Aside0 (D.ready ((i : Int) + 1) num = 10) := ⟨by rw [HF.out, if_pos hl]⟩
        clear hl
        go_enter Try.func17, Try.ntmps17
        go_wp2_with (go_at_call 37; refine C1.out.mono ?_; rintro e w1 ⟨rfl, rfl⟩)
        go_quiet (fail)
        go_wp2
        go_ret
        exact ⟨by rw [HF.out]; rfl, ⟨_, rfl⟩⟩
      · have f1 : decide ((d.approvals.length : Int) < D.needed) = false := decide_eq_false hl
        replace HF : Aside0 (D.ready ((i : Int) + 1) num = 0) := ⟨by rw [HF.out, if_neg hl]⟩
        clear hl
        go_enter Try.func17, Try.ntmps17
        go_wp2_with (go_at_call 37; refine C1.out.mono ?_; rintro e w1 ⟨rfl, rfl⟩)
        go_quiet (fail)
        go_wp2
        go_ret
        exact ⟨by rw [HF.out]; rfl, ⟨_, rfl⟩⟩
    · have HF : Aside0 (D.ready id num = 10) := ⟨by unfold Dk.ready; rw [if_neg h4, if_neg h0]⟩
      rw [if_neg h0] at C1
      generalize D.cur id num = q at C1 h4 h0
      have f1 : (q == 4) = false := beq_eq_false_iff_ne.mpr h4
      have f2 : (q != 0) = true := bne_iff_ne.mpr h0
      clear h hok hid h4 h0
      go_enter Try.func17, Try.ntmps17
      go_wp2_with (go_at_call 37; refine C1.out.mono ?_; rintro e w1 ⟨rfl, rfl⟩)
      go_quiet (fail)
      go_wp2
      go_ret
      exact ⟨by rw [HF.out]; rfl, ⟨_, rfl⟩⟩
end Go.Proofs.Ytkblcdpmdbofgaa.A
/- (*Desk).Close, Approve. -/
namespace Go.Proofs.Ytkblcdpmdbofgaa.A
open Go.RowKit Go.Proofs.YtkblcdpmdbofgaaW.PrintWords Go.Proofs.YtkblcdpmdbofgaaW.PrintLast Go.Proofs.YtkblcdpmdbofgaaW.PrintMore
set_option linter.unusedVariables false
set_option linter.unusedSimpArgs false

def Dk.put (D : Dk) (i : Nat) (d : Dr) : Dk := { D with drafts := D.drafts.set i d }
theorem DeskAt.update {w w1 : World} {tag tag1 : Nat → Nat} {dp mb : Nat} {sb : List Nat} {D : Dk} (h : DeskAt w tag dp mb sb D) (i g : Nat) (d1 : Dr) (hg : sb[i]? = some g)
    (h1 : ∀ k, k < w.heap.size → tag k ≠ 0 → tag k ≠ i + 3 → w1.heap[k]? = w.heap[k]?) (ht : ∀ k, k < w.heap.size → tag1 k = tag k) (hd : DraftAt w1 tag1 i g d1) : DeskAt w1 tag1 dp mb sb (D.put i d1) := by
  obtain ⟨Ae, ce, hb, hc, hF⟩ := h.desk
  refine ⟨⟨Ae, ce, (h1 dp (blk_lt hb) (by rw [h.tagD]; decide) (by rw [h.tagD]; omega)).trans hb, hc, ?_⟩, (ht dp (blk_lt hb)).trans h.tagD, (ht mb h.map.lt).trans h.tagM, h.map.step (h1 mb h.map.lt (by rw [h.tagM]; decide) (by rw [h.tagM]; omega)), by unfold Dk.put; simp [h.len], fun j g' d' hg' hd' => ?_, by unfold Dk.put; simp [h.few]⟩
  · exact Kd.F_mono (Kd.F_step (Kd.F_bound hF) (fun k hk hl => h1 k hl (by rw [hk.1]; decide) (by rw [hk.1]; omega))) (fun k hk => (ht k hk.2).trans hk.1)
  · unfold Dk.put at hd'
    simp only at hd'
    by_cases hj : i = j
    · subst hj
      rw [List.getElem?_set] at hd'
      simp only [if_true] at hd'
      split at hd'
      · injection hd' with hd'
        subst hd'
        rw [hg] at hg'
        injection hg' with hg'
        subst hg'
        exact hd
      · cases hd'
    · rw [List.getElem?_set_ne hj] at hd'
      exact (h.drafts j g' d' hg' hd').step (fun k hk htk => h1 k hk (by omega) (by omega)) ht

/-- An own row of another type is another block. -/
theorem Row.ne {α : Type} {d : Kd α} {e : Nat} {w : World} {inn : Nat → Prop} {v : Value} {xs : List α} (h : Row d e w inn v xs) {g t : Nat} {cells : Array Value} (hb : w.heap[g]? = some (.cells cells t (0, 0))) (ht : e ≠ t) : v.ownBlock ≠ some g := by
  intro he
  obtain ⟨cs, hc⟩ := h.typed g he
  rw [hc] at hb
  injection hb with hb
  injection hb with _ hb
  exact ht hb

def Dk.close (D : Dk) (id : Int) : Int × Dk := match D.get id with
  | none => (4, D)
  | some d => if d.closed = true then (10, D) else (0, D.put (id - 1).toNat { d with closed := true })

def Tell (w : World) (tag : Nat → Nat) (dp mb : Nat) (sb : List Nat) (v : Value) (D1 : Dk) (e : Ending) (w' : World) : Prop := e = .returned v ∧ ∃ tag', (∀ k, k < w.heap.size → tag' k = tag k) ∧ DeskAt w' tag' dp mb sb D1 ∧ Kp w w' (fun k => 2 ≤ tag k)

set_option maxHeartbeats 400000 in
set_option maxRecDepth 100000 in
theorem close_calls (w : World) (tag : Nat → Nat) (dp mb : Nat) (sb : List Nat) (D : Dk) (h : DeskAt w tag dp mb sb D) (id : Int) (hid : (Lit.int .i64 id).wf = true) :
    Calls Try.prog 29 #[.pointer (some ⟨dp, 0, none⟩), .int .i64 id] w (Tell w tag dp mb sb (.int .i64 (D.close id).1) (D.close id).2) := by
  have H := Aside0.mk h
  obtain ⟨Ae, ce, hbk, _, _⟩ := h.desk
  have c2 := blk_cell hbk 2
  simp at c2
  have hl := h.map.look id hid
  cases hg : D.get id with
  | none =>
    rw [ptrOf_none h.len hg] at hl
    have HF : Aside0 (D.close id = (4, D)) := ⟨by unfold Dk.close; rw [hg]⟩
    clear h hid hg hbk
    go_enter Try.func29, Try.ntmps29
    go_wp2
    go_ret
    exact ⟨by rw [HF.out]; rfl, tag, fun _ _ => rfl, by rw [HF.out]; exact H.out, Kp.refl _ _⟩
  | some d =>
    obtain ⟨i, g, rfl, hs, hd, hp⟩ := ptrOf_some h.len hg
    rw [hp] at hl
    have hda := h.drafts i g d hs hd
    obtain ⟨At, ct, ve, vp, hb, hc, hF, hE, hP, htg, hve, hvp⟩ := hda
    have d4 := blk_cell hb 4
    have f4 := blk_frozen hb 4
    simp at d4
    cases hcl : d.closed with
    | true =>
      rw [hcl] at d4
      have HF : Aside0 (D.close ((i : Int) + 1) = (10, D)) := ⟨by unfold Dk.close; rw [hg]; simp only; rw [if_pos hcl]⟩
      clear h hid hg hbk hs hd hp hcl hb hc hF hE hP htg hve hvp
      go_enter Try.func29, Try.ntmps29
      go_wp2
      go_ret
      exact ⟨by rw [HF.out]; rfl, tag, fun _ _ => rfl, by rw [HF.out]; exact H.out, Kp.refl _ _⟩
    | false =>
      rw [hcl] at d4
      have HF : Aside0 (D.close ((i : Int) + 1) = (0, D.put i { d with closed := true })) := ⟨by
        unfold Dk.close; rw [hg]; simp only; rw [if_neg (by rw [hcl]; simp)]
        have : ((i : Int) + 1 - 1).toNat = i := by omega
        rw [this]⟩
      have HD : Aside0 (DeskAt (w.setCell ⟨g, 4, none⟩ (.bool true)) tag dp mb sb (D.put i { d with closed := true })) := ⟨by
        have far : ∀ k, k ≠ g → (w.setCell ⟨g, 4, none⟩ (.bool true)).heap[k]? = w.heap[k]? := fun k hk => Below.heap_setCell w ⟨g, 4, none⟩ _ k hk
        refine h.update i g _ hs (fun k _ _ hne => far k (fun e => hne (e ▸ htg))) (fun _ _ => rfl) ?_
        refine ⟨At, ct, ve, vp, ?_, hc, ?_, ?_, ?_, htg, hve, hvp⟩
        · have := blk_set hb 4 (.bool true)
          simpa using this
        · exact Kd.F_step hF (fun k hk _ => far k (fun e => by rw [e] at hk; omega))
        · exact hE.step (fun k hk => far k (fun e => hE.ne hb (by decide) (e ▸ hk))) (fun k hk _ => far k (fun e => by rw [e] at hk; omega))
        · exact hP.step (fun k hk => far k (fun e => hP.ne hb (by decide) (e ▸ hk))) (fun k hk _ => hk.elim)⟩
      have HK : Aside0 (Kp w (w.setCell ⟨g, 4, none⟩ (.bool true)) (fun k => 2 ≤ tag k)) := ⟨(Kp.setCell w ⟨g, 4, none⟩ (.bool true)).mono (fun k hk => by simp only at hk; rw [hk, htg]; omega)⟩
      clear h hid hg hbk hs hd hp hcl hb hc hF hE hP htg hve hvp H
      go_enter Try.func29, Try.ntmps29
      go_wp2
      go_ret
      exact ⟨by rw [HF.out]; rfl, tag, fun _ _ => rfl, by rw [HF.out]; exact HD.out, HK.out⟩
end Go.Proofs.Ytkblcdpmdbofgaa.A
/- (*Desk).Approve. -/
namespace Go.Proofs.Ytkblcdpmdbofgaa.A
open Go.RowKit Go.Proofs.YtkblcdpmdbofgaaW.PrintWords Go.Proofs.YtkblcdpmdbofgaaW.PrintLast Go.Proofs.YtkblcdpmdbofgaaW.PrintMore
set_option linter.unusedVariables false
set_option linter.unusedSimpArgs false

/-- The tags behind an operation: the new blocks have one tag. -/
def newTag (w : World) (tag : Nat → Nat) (t : Nat) (k : Nat) : Nat := if k < w.heap.size then tag k else t
theorem newTag_old {w : World} {tag : Nat → Nat} {t k : Nat} (h : k < w.heap.size) : newTag w tag t k = tag k := if_pos h
theorem newTag_new {w : World} {tag : Nat → Nat} {t k : Nat} (h : w.heap.size ≤ k) : newTag w tag t k = t := if_neg (by omega)
theorem DeskAt.wrote {w w1 : World} {tag : Nat → Nat} {dp mb : Nat} {sb : List Nat} {D : Dk} (h : DeskAt w tag dp mb sb D) (i g : Nat) (d1 : Dr) (hg : sb[i]? = some g) (hk : Kp w w1 (fun k => tag k = i + 3))
    (tag1 : Nat → Nat) (ht : ∀ k, k < w.heap.size → tag1 k = tag k) (hd : DraftAt w1 tag1 i g d1) : DeskAt w1 tag1 dp mb sb (D.put i d1) ∧ Kp w w1 (fun k => 2 ≤ tag k) :=
  ⟨h.update i g d1 hg (fun k hlt _ hne => hk.block k hlt hne) ht hd, hk.mono (fun k hk => by omega)⟩
theorem Kp.drop {w w1 : World} {S : Nat → Prop} (h : Kp w w1 S) {T : Nat → Prop} (hs : ∀ k, k < w.heap.size → S k → T k) : Kp w w1 T :=
  ⟨h.os, h.tape, h.output, h.size, fun k hk hn => h.block k hk (fun hS => hn (hs k hk hS))⟩

theorem approvals_row {w : World} {tag : Nat → Nat} {i g : Nat} {d : Dr} (h : DraftAt w tag i g d) : ∃ vp, w.cell? ⟨g, 3, none⟩ = some vp ∧ Row Kd.string 9 w (fun _ => False) vp d.approvals := by
  obtain ⟨At, ct, ve, vp, hb, hc, hF, hE, hP, htg, hve, hvp⟩ := h
  have := blk_cell hb 3
  simp at this
  exact ⟨vp, this, hP⟩

/-- A draft behind an appended approval. -/
theorem DraftAt.approved {w W w1 : World} {tag : Nat → Nat} {i g : Nat} {d : Dr} {vp v1 : Value} {x : ByteArray} (h : DraftAt w tag i g d) (hvp : w.cell? ⟨g, 3, none⟩ = some vp) (hB : Below w.heap.size w W)
    (hN : Row Kd.string 9 w1 (fun _ => False) v1 (d.approvals ++ [x])) (hG : W.grownBy w1 vp.ownBlock) (hat : v1.ownBlock = vp.ownBlock ∨ ∃ b, v1.ownBlock = some b ∧ W.heap.size ≤ b) :
    DraftAt (w1.setCell ⟨g, 3, none⟩ v1) (newTag w tag (i + 3)) i g { d with approvals := d.approvals ++ [x] } ∧ Kp w (w1.setCell ⟨g, 3, none⟩ v1) (fun k => tag k = i + 3) ∧ (∃ cells, w1.heap[g]? = some (.cells cells 79 (0, 0)) ∧ w1.cell? ⟨g, 3, none⟩ = some vp) := by
  obtain ⟨At, ct, ve, vp', hb, hc, hF, hE, hP, htg, hve, hvp'⟩ := h
  have e3 := blk_cell hb 3
  simp at e3
  rw [hvp] at e3
  injection e3 with e3
  subst e3
  have hgl := blk_lt hb
  have hng : vp.ownBlock ≠ some g := hP.ne hb (by decide)
  have hKB : Kp w W (fun _ => False) := Kp.of_below hB _
  have hK0 : Kp w w1 (fun k => vp.ownBlock = some k) := (hKB.mono (fun _ h => h.elim)).then_ (Kp.of_grown hG) (fun k hk => .inl hk)
  have hb1 : w1.heap[g]? = some (.cells #[.string d.author, .slice At d.trees.length ct, ve, vp, .bool d.closed] 79 (0, 0)) := hK0.blk hb hng
  have hK1 : Kp w (w1.setCell ⟨g, 3, none⟩ v1) (fun k => tag k = i + 3) := by
    refine (hK0.mono (fun k hk => hvp' k hk)).then_ (Kp.setCell w1 ⟨g, 3, none⟩ v1) (fun k hk => .inl ?_)
    rw [hk]; exact htg
  have far : ∀ k, k < w.heap.size → k ≠ g → vp.ownBlock ≠ some k → (w1.setCell ⟨g, 3, none⟩ v1).heap[k]? = w.heap[k]? := fun k hk h1 h2 =>
    (Below.heap_setCell w1 ⟨g, 3, none⟩ v1 k h1).trans (hK0.block k hk h2)
  have hv1 : v1.ownBlock ≠ some g := hN.ne hb1 (by decide)
  refine ⟨⟨At, ct, ve, v1, ?_, hc, ?_, ?_, ?_, (newTag_old hgl).trans htg, fun k hk => (newTag_old (hE.lt k hk)).trans (hve k hk), fun k hk => ?_⟩, hK1, _, hb1, ?_⟩
  · have := blk_set hb1 3 v1
    simpa using this
  · refine Kd.F_mono (Kd.F_step (Kd.F_bound hF) (fun k hk _ => far k hk.2 (fun e => ?_) (fun e => ?_))) (fun k hk => (newTag_old hk.2).trans hk.1)
    · have := hk.1; rw [e, htg] at this; omega
    · have := hk.1; rw [hvp' k e] at this; omega
  · refine (hE.bound.step (fun k hk => far k (hE.lt k hk) (fun e => hE.ne hb (by decide) (e ▸ hk)) (fun e => ?_)) (fun k hk _ => far k hk.2 (fun e => ?_) (fun e => ?_))).mono (fun k hk => (newTag_old hk.2).trans hk.1)
    · obtain ⟨c1, h1⟩ := hE.typed k hk
      obtain ⟨c2, h2⟩ := hP.typed k e
      exact blk_ne h1 h2 (by decide) rfl
    · have := hk.1; rw [e, htg] at this; omega
    · have := hk.1; rw [hvp' k e] at this; omega
  · exact hN.step (fun k hk => Below.heap_setCell w1 ⟨g, 3, none⟩ v1 k (fun e => hv1 (by rw [hk, e]))) (fun k hk _ => hk.elim)
  · rcases hat with he | ⟨b, he, hb'⟩
    · rw [he] at hk
      exact (newTag_old (hP.lt k hk)).trans (hvp' k hk)
    · rw [he] at hk
      injection hk with hk
      subst hk
      exact newTag_new (Nat.le_trans hB.size hb')
  · rw [blk_cell hb1 3]; rfl

def Dk.approve (D : Dk) (ed : ByteArray) (id num : Int) : Int × Dk :=
  if memS D.eds ed = false then (1, D) else if D.cur id num ≠ 0 then (D.cur id num, D) else match D.get id with
    | none => (4, D)
    | some d => if d.author.toList = ed.toList then (10, D) else if memS d.approvals ed = true then (5, D) else (0, D.put (id - 1).toNat { d with approvals := d.approvals ++ [ed] })

theorem Kp.drewN (w : World) (n : Nat) (S : Nat → Prop) : Kp w (w.drewN n) S := Kp.of_below (pw_below_drewN (Below.refl _ _) n) S
theorem Row.slice1 {α : Type} {d : Kd α} {e : Nat} {w : World} {inn : Nat → Prop} {v : Value} {xs : List α} {x : α} (h : Row d e w inn v (xs ++ [x])) : ∃ A c, v = .slice A (xs.length + 1) c := by
  obtain ⟨A, c, he⟩ := h.slice
  exact ⟨A, c, by rw [he]; simp⟩
theorem FK_str (W : World) (inn : Nat → Prop) (x : ByteArray) : Kd.FK Kd.string W inn x [.string x] := fun _ _ => rfl

set_option maxHeartbeats 1000000 in
set_option maxRecDepth 100000 in
theorem approve_ok (w : World) (tag : Nat → Nat) (dp mb : Nat) (sb : List Nat) (D : Dk) (h : DeskAt w tag dp mb sb D) (hok : D.ok) (ed : ByteArray) (i g : Nat) (d : Dr) (num : Int) (hid : (Lit.int .i64 ((i : Int) + 1)).wf = true)
    (hm : memS D.eds ed = true) (hcur : D.cur ((i : Int) + 1) num = 0) (hs : sb[i]? = some g) (hd : D.drafts[i]? = some d) (hp : ptrOf sb ((i : Int) + 1) = some ⟨g, 0, none⟩)
    (ha : (d.author.toList == ed.toList) = false) (hap : memS d.approvals ed = false) (hn : d.approvals.length ≤ 90000) :
    Calls Try.prog 30 #[.pointer (some ⟨dp, 0, none⟩), .string ed, .int .i64 ((i : Int) + 1), .int .i64 num] w (Tell w tag dp mb sb (.int .i64 0) (D.put i { d with approvals := d.approvals ++ [ed] })) := by
  obtain ⟨Ae, ce, hbk, hce, hF⟩ := h.desk
  have c0 := blk_cell hbk 0
  simp at c0
  have C1 := Aside0.mk (contains_calls Ae ce D.eds ed w (by have := hok.1; omega) (Kd.F_now hF) hce)
  rw [hm] at C1
  have C2 := Aside0.mk (fun (W : World) (hW : Below w.heap.size w W) => current_calls W tag dp mb sb D (h.below hW) hok ((i : Int) + 1) num hid)
  rw [hcur, hp, if_pos rfl] at C2
  have hda := h.drafts i g d hs hd
  obtain ⟨At, ct, ve, vp, hb, _, _, _, hP, htg, _, hvp⟩ := hda
  obtain ⟨Ap, cp, rfl⟩ := hP.slice
  have d0 := blk_cell hb 0
  have d3 := blk_cell hb 3
  simp at d0 d3
  have C3 := Aside0.mk (fun (W : World) (hW : Below w.heap.size w W) => contains_calls Ap cp d.approvals ed W (by omega) (Kd.C_below hP.reads'.2.2 hW) hP.reads'.2.1)
  rw [hap] at C3
  have HP := Aside0.mk (fun (W : World) (hW : Below w.heap.size w W) => hP.step (w1 := W) (fun k hk => hW.block k (hP.lt k hk)) (fun k hk => hk.elim))
  have HL : Aside0 ((d.approvals.length + 1) * 16 ≤ 140737488355328) := ⟨by omega⟩
  have HDA := Aside0.mk (h.drafts i g d hs hd)
  have HW := Aside0.mk (fun (w1 : World) => h.wrote (w1 := w1) i g { d with approvals := d.approvals ++ [ed] } hs)
  clear h hok hid hm hcur hs hd hp hap hn hbk hce hF hb hP htg hvp
  go_enter Try.func30, Try.ntmps30
  go_wp2_with (first
    | (go_at_call 37; refine (C2.out _ (pw_below_drewN (Below.refl _ _) _)).mono ?_; rintro e w1 ⟨rfl, rfl⟩)
    | (go_at_call 34; first
        | (refine C1.out.mono ?_; rintro e w1 ⟨rfl, ⟨n, rfl⟩⟩)
        | (refine (C3.out _ (pw_below_drewN (Below.refl _ _) _)).mono ?_; rintro e w1 ⟨rfl, ⟨m, rfl⟩⟩))
    | (at_builtin; refine Row.append Kd.string rfl _ _ 22 9 (.string ⟨#[]⟩) 16 rfl Try.underlying22 info9 rfl (by decide) (by decide) (.slice Ap d.approvals.length cp) d.approvals ed [.string ed] (fun _ => False) rfl rfl (FK_str _ _ _) (fun _ hk => hk.elim) (HP.out _ (pw_below_drewN (Below.refl _ _) _)) HL.out ?_; intro v1 w1 hN hG hat; obtain ⟨A1, c1, rfl⟩ := hN.slice1; have H1 := Aside0.mk (HDA.out.approved d3 (pw_below_drewN (Below.refl _ _) _) hN hG hat); have q3 := H1.out.2.2; obtain ⟨cc, hcc, q3⟩ := q3; have f3 := blk_frozen hcc 3; clear hN hG hat hcc))

  go_ret
  have := HW.out _ H1.out.2.1 _ (fun k hk => newTag_old hk) H1.out.1
  exact ⟨rfl, _, fun k hk => newTag_old hk, this.1, this.2⟩
end Go.Proofs.Ytkblcdpmdbofgaa.A
/- (*Desk).Approve: its errors, and the whole. -/
namespace Go.Proofs.Ytkblcdpmdbofgaa.A
open Go.RowKit Go.Proofs.YtkblcdpmdbofgaaW.PrintWords Go.Proofs.YtkblcdpmdbofgaaW.PrintLast Go.Proofs.YtkblcdpmdbofgaaW.PrintMore
set_option linter.unusedVariables false
set_option linter.unusedSimpArgs false

theorem Tell.same {w w' : World} {tag : Nat → Nat} {dp mb : Nat} {sb : List Nat} {D : Dk} (h : DeskAt w tag dp mb sb D) (hB : Below w.heap.size w w') (v : Value) : Tell w tag dp mb sb v D (.returned v) w' :=
  ⟨rfl, tag, fun _ _ => rfl, h.below hB, Kp.of_below hB _⟩

set_option maxHeartbeats 1000000 in
set_option maxRecDepth 100000 in
theorem approve_no (w : World) (tag : Nat → Nat) (dp mb : Nat) (sb : List Nat) (D : Dk) (h : DeskAt w tag dp mb sb D) (hok : D.ok) (ed : ByteArray) (id num : Int) (hid : (Lit.int .i64 id).wf = true) (hm : memS D.eds ed = false) :
    Calls Try.prog 30 #[.pointer (some ⟨dp, 0, none⟩), .string ed, .int .i64 id, .int .i64 num] w (Tell w tag dp mb sb (.int .i64 1) D) := by
  obtain ⟨Ae, ce, hbk, hce, hF⟩ := h.desk
  have c0 := blk_cell hbk 0
  simp at c0
  have C1 := Aside0.mk (contains_calls Ae ce D.eds ed w (by have := hok.1; omega) (Kd.F_now hF) hce)
  rw [hm] at C1
  have HT := Aside0.mk (fun (w' : World) hB v => Tell.same (w' := w') h hB v)
  clear h hok hid hm hbk hce hF
  go_enter Try.func30, Try.ntmps30
  go_wp2_with (go_at_call 34; refine C1.out.mono ?_; rintro e w1 ⟨rfl, ⟨n, rfl⟩⟩)
  go_ret
  exact HT.out _ (pw_below_drewN (Below.refl _ _) _) _

set_option maxHeartbeats 1000000 in
set_option maxRecDepth 100000 in
theorem approve_err (w : World) (tag : Nat → Nat) (dp mb : Nat) (sb : List Nat) (D : Dk) (h : DeskAt w tag dp mb sb D) (hok : D.ok) (ed : ByteArray) (id num : Int) (hid : (Lit.int .i64 id).wf = true) (hm : memS D.eds ed = true) (hq : D.cur id num ≠ 0) :
    Calls Try.prog 30 #[.pointer (some ⟨dp, 0, none⟩), .string ed, .int .i64 id, .int .i64 num] w (Tell w tag dp mb sb (.int .i64 (D.cur id num)) D) := by
  obtain ⟨Ae, ce, hbk, hce, hF⟩ := h.desk
  have c0 := blk_cell hbk 0
  simp at c0
  have C1 := Aside0.mk (contains_calls Ae ce D.eds ed w (by have := hok.1; omega) (Kd.F_now hF) hce)
  rw [hm] at C1
  have C2 := Aside0.mk (fun (W : World) (hW : Below w.heap.size w W) => current_calls W tag dp mb sb D (h.below hW) hok id num hid)
  rw [if_neg hq] at C2
  generalize D.cur id num = q at C2 hq
  have f1 : (q != 0) = true := bne_iff_ne.mpr hq
  have HT := Aside0.mk (fun (w' : World) hB v => Tell.same (w' := w') h hB v)
  clear h hok hid hm hbk hce hF hq
  go_enter Try.func30, Try.ntmps30
  go_wp2_with (first | (go_at_call 34; refine C1.out.mono ?_; rintro e w1 ⟨rfl, ⟨n, rfl⟩⟩) | (go_at_call 37; refine (C2.out _ (pw_below_drewN (Below.refl _ _) _)).mono ?_; rintro e w1 ⟨rfl, rfl⟩))
  go_ret
  exact HT.out _ (pw_below_drewN (Below.refl _ _) _) _

set_option maxHeartbeats 1000000 in
set_option maxRecDepth 100000 in
theorem approve_own (w : World) (tag : Nat → Nat) (dp mb : Nat) (sb : List Nat) (D : Dk) (h : DeskAt w tag dp mb sb D) (hok : D.ok) (ed : ByteArray) (i g : Nat) (d : Dr) (num : Int) (hid : (Lit.int .i64 ((i : Int) + 1)).wf = true)
    (hm : memS D.eds ed = true) (hcur : D.cur ((i : Int) + 1) num = 0) (hs : sb[i]? = some g) (hd : D.drafts[i]? = some d) (hp : ptrOf sb ((i : Int) + 1) = some ⟨g, 0, none⟩)
    (r : Int) (hr : (d.author.toList == ed.toList) = true ∧ r = 10 ∨ (d.author.toList == ed.toList) = false ∧ memS d.approvals ed = true ∧ r = 5) :
    Calls Try.prog 30 #[.pointer (some ⟨dp, 0, none⟩), .string ed, .int .i64 ((i : Int) + 1), .int .i64 num] w (Tell w tag dp mb sb (.int .i64 r) D) := by
  obtain ⟨Ae, ce, hbk, hce, hF⟩ := h.desk
  have c0 := blk_cell hbk 0
  simp at c0
  have C1 := Aside0.mk (contains_calls Ae ce D.eds ed w (by have := hok.1; omega) (Kd.F_now hF) hce)
  rw [hm] at C1
  have C2 := Aside0.mk (fun (W : World) (hW : Below w.heap.size w W) => current_calls W tag dp mb sb D (h.below hW) hok ((i : Int) + 1) num hid)
  rw [hcur, hp, if_pos rfl] at C2
  have hda := h.drafts i g d hs hd
  obtain ⟨At, ct, ve, vp, hb, _, _, _, hP, htg, _, hvp⟩ := hda
  obtain ⟨Ap, cp, rfl⟩ := hP.slice
  have d0 := blk_cell hb 0
  have d3 := blk_cell hb 3
  simp at d0 d3
  have C3 := Aside0.mk (fun (W : World) (hW : Below w.heap.size w W) => contains_calls Ap cp d.approvals ed W (by have := (hok.get hd).2.1; omega) (Kd.C_below hP.reads'.2.2 hW) hP.reads'.2.1)
  have HT := Aside0.mk (fun (w' : World) hB v => Tell.same (w' := w') h hB v)
  clear h hok hid hm hcur hs hd hp hbk hce hF hb hP htg hvp
  rcases hr with ⟨ha, rfl⟩ | ⟨ha, hap, rfl⟩
  · clear C3
    go_enter Try.func30, Try.ntmps30
    go_wp2_with (first
      | (go_at_call 37; refine (C2.out _ (pw_below_drewN (Below.refl _ _) _)).mono ?_; rintro e w1 ⟨rfl, rfl⟩)
      | (go_at_call 34; (refine C1.out.mono ?_; rintro e w1 ⟨rfl, ⟨n, rfl⟩⟩)))
    go_ret
    exact HT.out _ (pw_below_drewN (Below.refl _ _) _) _
  · rw [hap] at C3
    clear hap
    go_enter Try.func30, Try.ntmps30
    go_wp2_with (first
      | (go_at_call 37; refine (C2.out _ (pw_below_drewN (Below.refl _ _) _)).mono ?_; rintro e w1 ⟨rfl, rfl⟩)
      | (go_at_call 34; first
          | (refine C1.out.mono ?_; rintro e w1 ⟨rfl, ⟨n, rfl⟩⟩)
          | (refine (C3.out _ (pw_below_drewN (Below.refl _ _) _)).mono ?_; rintro e w1 ⟨rfl, ⟨m, rfl⟩⟩)))
    go_ret
    exact HT.out _ (pw_below_drewN (Below.refl _ _) _) _

/-- What a draft's approvals stay under. -/
def Dk.low (D : Dk) : Prop := ∀ d ∈ D.drafts, d.approvals.length ≤ 90000

theorem approve_calls (w : World) (tag : Nat → Nat) (dp mb : Nat) (sb : List Nat) (D : Dk) (h : DeskAt w tag dp mb sb D) (hok : D.ok) (hlow : D.low) (ed : ByteArray) (id num : Int) (hid : (Lit.int .i64 id).wf = true) :
    Calls Try.prog 30 #[.pointer (some ⟨dp, 0, none⟩), .string ed, .int .i64 id, .int .i64 num] w (Tell w tag dp mb sb (.int .i64 (D.approve ed id num).1) (D.approve ed id num).2) := by
  unfold Dk.approve
  cases hm : memS D.eds ed with
  | false => rw [if_pos rfl]; exact approve_no w tag dp mb sb D h hok ed id num hid hm
  | true =>
    rw [if_neg (by simp)]
    by_cases hq : D.cur id num = 0
    · rw [if_neg (fun hn => hn hq)]
      obtain ⟨d, hg, _, _⟩ := Dk.cur_zero hq
      obtain ⟨i, g, rfl, hs, hd, hp⟩ := ptrOf_some h.len hg
      rw [hg]
      have e1 : ((i : Int) + 1 - 1).toNat = i := by omega
      simp only [e1]
      by_cases ha : d.author.toList = ed.toList
      · rw [if_pos ha]
        exact approve_own w tag dp mb sb D h hok ed i g d num hid hm hq hs hd hp 10 (.inl ⟨beq_iff_eq.mpr ha, rfl⟩)
      · rw [if_neg ha]
        cases hap : memS d.approvals ed with
        | true => rw [if_pos rfl]; exact approve_own w tag dp mb sb D h hok ed i g d num hid hm hq hs hd hp 5 (.inr ⟨beq_eq_false_iff_ne.mpr ha, hap, rfl⟩)
        | false => rw [if_neg (by simp)]; exact approve_ok w tag dp mb sb D h hok ed i g d num hid hm hq hs hd hp (beq_eq_false_iff_ne.mpr ha) hap (hlow d (List.mem_of_getElem? hd))
    · rw [if_pos hq]
      exact approve_err w tag dp mb sb D h hok ed id num hid hm hq
end Go.Proofs.Ytkblcdpmdbofgaa.A
/- (*Desk).Amend: the memory behind its stores. -/
namespace Go.Proofs.Ytkblcdpmdbofgaa.A
open Go.RowKit Go.Proofs.YtkblcdpmdbofgaaW.PrintWords Go.Proofs.YtkblcdpmdbofgaaW.PrintLast Go.Proofs.YtkblcdpmdbofgaaW.PrintMore
set_option linter.unusedVariables false
set_option linter.unusedSimpArgs false

theorem info33 : (Try.prog.info? 33).map (fun i => (i.zero, i.size, i.bytes)) = some (some (.slice none 0 0), 1, 24) := by kernel_rfl

/-- What the walk of region 8 needs of a draft. -/
structure PreAm (w : World) (tag : Nat → Nat) (i g : Nat) (d : Dr) (At : Option Addr) (ct : Nat) (ve vp : Value) : Prop where
  blk : w.heap[g]? = some (.cells #[.string d.author, .slice At d.trees.length ct, ve, vp, .bool d.closed] 79 (0, 0))
  tagG : tag g = i + 3
  ct : d.trees.length ≤ ct
  trees : Kd.F k68 w (fun k => tag k = 1) At d.trees.length d.trees
  E : Row (Kd.slice 68 k68) 33 w (fun k => tag k = 1) ve d.earlier
  P : Row Kd.string 9 w (fun _ => False) vp d.approvals
  tagE : ∀ k, ve.ownBlock = some k → tag k = i + 3
  tagP : ∀ k, vp.ownBlock = some k → tag k = i + 3
theorem DraftAt.pre {w : World} {tag : Nat → Nat} {i g : Nat} {d : Dr} (h : DraftAt w tag i g d) : ∃ At ct Ae ce Ap cp, PreAm w tag i g d At ct (.slice Ae d.earlier.length ce) (.slice Ap d.approvals.length cp) := by
  obtain ⟨At, ct, ve, vp, hb, hc, hF, hE, hP, htg, hve, hvp⟩ := h
  obtain ⟨Ae, ce, rfl⟩ := hE.slice
  obtain ⟨Ap, cp, rfl⟩ := hP.slice
  exact ⟨At, ct, Ae, ce, Ap, cp, hb, htg, hc, hF, hE, hP, hve, hvp⟩
def In1 (w : World) (tag : Nat → Nat) (k : Nat) : Prop := tag k = 1 ∧ k < w.heap.size
/-- Ahead of the append. -/
theorem PreAm.ahead {w W : World} {tag : Nat → Nat} {i g : Nat} {d : Dr} {At : Option Addr} {ct : Nat} {ve vp : Value} (h : PreAm w tag i g d At ct ve vp) (hB : Below w.heap.size w W) :
    Row (Kd.slice 68 k68) 33 W (In1 w tag) ve d.earlier ∧ Kd.FK (Kd.slice 68 k68) W (In1 w tag) d.trees [.slice At d.trees.length ct] ∧ ∀ k, In1 w tag k → some k ≠ ve.ownBlock := by
  refine ⟨?_, ?_, fun k hk e => ?_⟩
  · exact h.E.bound.step (fun k hk => hB.block k (h.E.lt k hk)) (fun k hk _ => hB.block k hk.2)
  · exact Kd.FK_slice_mk h.ct (Kd.F_step (Kd.F_bound h.trees) (fun k hk _ => hB.block k hk.2))
  · have := h.tagE k e.symm
    have := hk.1
    omega
/-- Behind the append and its store. -/
structure MidAm (w w2 : World) (tag : Nat → Nat) (i g : Nat) (d : Dr) (At : Option Addr) (ct : Nat) (v1 vp : Value) : Prop where
  keep : Kp w w2 (fun k => tag k = i + 3)
  blk : w2.heap[g]? = some (.cells #[.string d.author, .slice At d.trees.length ct, v1, vp, .bool d.closed] 79 (0, 0))
  E : Row (Kd.slice 68 k68) 33 w2 (In1 w tag) v1 (d.earlier ++ [d.trees])
  own : ∀ k, v1.ownBlock = some k → (k < w.heap.size → tag k = i + 3) ∧ k < w2.heap.size
theorem PreAm.cell {w W w1 : World} {tag : Nat → Nat} {i g : Nat} {d : Dr} {At : Option Addr} {ct : Nat} {ve vp v1 : Value} (h : PreAm w tag i g d At ct ve vp) (hB : Below w.heap.size w W) (hG : W.grownBy w1 ve.ownBlock) :
    w1.heap[g]? = some (.cells #[.string d.author, .slice At d.trees.length ct, ve, vp, .bool d.closed] 79 (0, 0)) ∧ Kp w w1 (fun k => ve.ownBlock = some k) := by
  have hKB : Kp w W (fun _ => False) := Kp.of_below hB _
  have hK0 : Kp w w1 (fun k => ve.ownBlock = some k) := (hKB.mono (fun _ h => h.elim)).then_ (Kp.of_grown hG) (fun k hk => .inl hk)
  exact ⟨hK0.blk h.blk (h.E.ne h.blk (by decide)), hK0⟩
theorem PreAm.mid {w W w1 : World} {tag : Nat → Nat} {i g : Nat} {d : Dr} {At : Option Addr} {ct : Nat} {ve vp v1 : Value} (h : PreAm w tag i g d At ct ve vp) (hB : Below w.heap.size w W)
    (hN : Row (Kd.slice 68 k68) 33 w1 (In1 w tag) v1 (d.earlier ++ [d.trees])) (hG : W.grownBy w1 ve.ownBlock) (hat : v1.ownBlock = ve.ownBlock ∨ ∃ b, v1.ownBlock = some b ∧ W.heap.size ≤ b) :
    MidAm w (w1.setCell ⟨g, 2, none⟩ v1) tag i g d At ct v1 vp := by
  obtain ⟨hb1, hK0⟩ := h.cell hB (v1 := v1) hG
  have hgl := blk_lt h.blk
  refine ⟨(hK0.mono (fun k hk => h.tagE k hk)).then_ (Kp.setCell w1 ⟨g, 2, none⟩ v1) (fun k hk => .inl (by rw [hk]; exact h.tagG)), ?_, ?_, fun k hk => ?_⟩
  · have := blk_set hb1 2 v1
    simpa using this
  · have hv1 : v1.ownBlock ≠ some g := hN.ne hb1 (by decide)
    exact hN.step (fun k hk => Below.heap_setCell w1 ⟨g, 2, none⟩ v1 k (fun e => hv1 (by rw [hk, e]))) (fun k hk _ => Below.heap_setCell w1 ⟨g, 2, none⟩ v1 k (fun e => by have := hk.1; rw [e] at this; have := h.tagG; simp only at *; omega))
  · refine ⟨fun hlt => ?_, ?_⟩
    · rcases hat with he | ⟨b, he, hb'⟩
      · exact h.tagE k (he ▸ hk)
      · rw [he] at hk
        injection hk with hk
        have := hB.size
        omega
    · have := hN.lt k hk
      simpa [World.setCell] using this

/-- The tags behind an Amend. -/
def amTag (w w2 : World) (tag : Nat → Nat) (t : Nat) (k : Nat) : Nat := if k < w.heap.size then tag k else if k < w2.heap.size then t else 1
def amW (w3 : World) (g : Nat) (ed : ByteArray) (v : Value) : World := ((w3.setCell ⟨g, 0, none⟩ (.string ed)).setCell ⟨g, 1, none⟩ v).setCell ⟨g, 3, none⟩ (.slice none 0 0)
theorem amW_far (w3 : World) (g : Nat) (ed : ByteArray) (v : Value) (k : Nat) (h : k ≠ g) : (amW w3 g ed v).heap[k]? = w3.heap[k]? := by
  unfold amW
  rw [Below.heap_setCell _ _ _ k h, Below.heap_setCell _ _ _ k h, Below.heap_setCell _ _ _ k h]
theorem MidAm.amended {w w2 w3 : World} {tag : Nat → Nat} {i g : Nat} {d : Dr} {At A4 : Option Addr} {ct c4 : Nat} {v1 vp : Value} {ed : ByteArray} {ts : List S68} (h : MidAm w w2 tag i g d At ct v1 vp) (hg : g < w.heap.size) (htg : tag g = i + 3)
    (hR : k68.R 68 w3 w2.heap.size (New w2) (.slice A4 ts.length c4) ts) (hB : Below w2.heap.size w2 w3) :
    DraftAt (amW w3 g ed (.slice A4 ts.length c4)) (amTag w w2 tag (i + 3)) i g ⟨ed, ts, d.earlier ++ [d.trees], [], d.closed⟩ ∧ Kp w (amW w3 g ed (.slice A4 ts.length c4)) (fun k => tag k = i + 3) := by
  have hs2 := h.keep.size
  have hb3 := blk_below h.blk hB
  have far := amW_far w3 g ed (.slice A4 ts.length c4)
  refine ⟨⟨A4, c4, v1, .slice none 0 0, ?_, (Kd.R_reads' hR).2.1, ?_, ?_, Row.nil _ _ _ _, ?_, fun k hk => ?_, fun k hk => by simp [Value.ownBlock] at hk⟩, ?_⟩
  · have := blk_set (blk_set (blk_set hb3 0 (.string ed)) 1 (.slice A4 ts.length c4)) 3 (.slice none 0 0)
    unfold amW
    simpa using this
  · refine Kd.F_mono (Kd.F_step (Kd.R_F hR) (fun k hk _ => far k (by unfold New at hk; omega))) (fun k hk => ?_)
    unfold New at hk
    unfold amTag
    rw [if_neg (by omega), if_neg (by omega)]
  · refine (h.E.step (w1 := amW w3 g ed (.slice A4 ts.length c4)) (fun k hk => (far k (fun e => h.E.ne h.blk (by decide) (e ▸ hk))).trans (hB.block k (h.own k hk).2)) (fun k hk _ => (far k (fun e => by have := hk.1; rw [e, htg] at this; omega)).trans (hB.block k (by have := hk.2; omega)))).mono (fun k hk => ?_)
    unfold amTag
    rw [if_pos hk.2]
    exact hk.1
  · unfold amTag
    rw [if_pos hg]
    exact htg
  · unfold amTag
    by_cases hlt : k < w.heap.size
    · rw [if_pos hlt]; exact (h.own k hk).1 hlt
    · rw [if_neg hlt, if_pos (h.own k hk).2]
  · refine (h.keep.below hB).then_ (w1 := w3) (S2 := fun k => k = g) ⟨rfl, rfl, rfl, by unfold amW; simp [World.setCell], fun k hk hn => far k hn⟩ (fun k hk => .inl (by rw [hk]; exact htg))

def Dk.amend (D : Dk) (ed : ByteArray) (id num : Int) (ts : List S68) : Int × Int × Dk :=
  if D.valid ed ts = false then (0, 1, D) else if D.cur id num ≠ 0 then (0, D.cur id num, D) else if num = 256 then (0, 12, D) else match D.get id with
    | none => (0, 4, D)
    | some d => ((d.earlier.length : Int) + 2, 0, D.put (id - 1).toNat ⟨ed, ts, d.earlier ++ [d.trees], [], d.closed⟩)
def two (x y : Int) : Value := .tuple #[.int .i64 x, .int .i64 y]
end Go.Proofs.Ytkblcdpmdbofgaa.A
/- (*Desk).Amend: the walk. -/
namespace Go.Proofs.Ytkblcdpmdbofgaa.A
open Go.RowKit Go.Proofs.YtkblcdpmdbofgaaW.PrintWords Go.Proofs.YtkblcdpmdbofgaaW.PrintLast Go.Proofs.YtkblcdpmdbofgaaW.PrintMore
set_option linter.unusedVariables false
set_option linter.unusedSimpArgs false

set_option maxHeartbeats 2000000 in
set_option maxRecDepth 100000 in
theorem amend_ok (w : World) (tag : Nat → Nat) (dp mb : Nat) (sb : List Nat) (D : Dk) (h : DeskAt w tag dp mb sb D) (hok : D.ok) (ed : ByteArray) (i g : Nat) (d : Dr) (num : Int) (ts : List S68) (A : Option Addr) (c : Nat) (hb : bulkL ts ≤ 2000000)
    (hr : k68.F w (fun k => tag k < 2) A ts.length ts) (hc : ts.length ≤ c) (hid : (Lit.int .i64 ((i : Int) + 1)).wf = true)
    (hm : D.valid ed ts = true) (hcur : D.cur ((i : Int) + 1) num = 0) (hn : (num == 256) = false) (hs : sb[i]? = some g) (hd : D.drafts[i]? = some d) (hp : ptrOf sb ((i : Int) + 1) = some ⟨g, 0, none⟩) :
    Calls Try.prog 20 #[.pointer (some ⟨dp, 0, none⟩), .string ed, .int .i64 ((i : Int) + 1), .int .i64 num, .slice A ts.length c] w (Tell w tag dp mb sb (two (((d.earlier.length + 1 : Nat) : Int) + 1) 0) (D.put i ⟨ed, ts, d.earlier ++ [d.trees], [], d.closed⟩)) := by
  have C1 := Aside0.mk (valid_calls w tag dp mb sb D h hok ed ts A c hb (Kd.F_now hr) hc)
  rw [hm] at C1
  have C2 := Aside0.mk (fun (W : World) (hW : Below w.heap.size w W) => current_calls W tag dp mb sb D (h.below hW) hok ((i : Int) + 1) num hid)
  rw [hcur, hp, if_pos rfl] at C2
  obtain ⟨At, ct, Ae, ce, Ap, cp, hP⟩ := (h.drafts i g d hs hd).pre
  have HP := Aside0.mk hP
  have hgl := Aside0.mk (blk_lt hP.blk)
  have C3 := Aside0.mk (fun (W : World) (hK : Kp w W (fun k => tag k = i + 3)) => cloneAll_calls ts A c W (Nat.le_trans (length_bulk ts) hb) (fun x hx => Nat.le_trans (mem_bulk hx) hb) (Kd.F_now (Kd.F_step hr (fun k hk hlt => hK.block k hlt (by omega)))) hc)
  have C4 := Aside0.mk (fun (W : World) (Ax : Option Addr) (cx : Nat) (hW : W.cell? ⟨g, 2, none⟩ = some (.slice Ax (d.earlier.length + 1) cx)) => newest_calls g (d.earlier.length + 1) cx Ax W hW (by have := (hok.get hd).1; omega))
  have HL : Aside0 ((d.earlier.length + 1) * 24 ≤ 140737488355328) := ⟨by have := (hok.get hd).1; omega⟩
  have HW := Aside0.mk (fun (w1 : World) => h.wrote (w1 := w1) i g ⟨ed, ts, d.earlier ++ [d.trees], [], d.closed⟩ hs)
  clear h hok hid hm hcur hs hd hp hb hr hc hP
  go_enter Try.func20, Try.ntmps20
  go_wp2_with (first
    | (go_at_call 37; refine (C2.out _ HB1.out).mono ?_; rintro e w2 ⟨rfl, rfl⟩)
    | (go_at_call 39; refine C1.out.mono ?_; rintro e w1 ⟨rfl, hB1⟩; have HB1 := Aside0.mk hB1; clear hB1))
  have HB2 : Aside0 (Below w.heap.size w w1.drew) := ⟨below_drew HB1.out⟩
  have HA := Aside0.mk (HP.out.ahead HB2.out)
  have HG2 := Aside0.mk (blk_below HP.out.blk HB2.out)
  have HG3 := Aside0.mk (fun (o : Obj) => blk_alloc (blk_below HP.out.blk HB1.out) o)
  have G1 := blk_cell HG2.out 1
  have G2 := blk_cell HG2.out 2
  simp at G1 G2
  have G3 : (w1.alloc (.cells #[.slice At d.trees.length ct] 33)).drew.cell? ⟨g, 1, none⟩ = some (.slice At d.trees.length ct) := blk_cell (HG3.out _) 1
  have G4 : (w1.alloc (.cells #[.slice At d.trees.length ct] 33)).drew.cell? ⟨g, 2, none⟩ = some (.slice Ae d.earlier.length ce) := blk_cell (HG3.out _) 2
  go_region_law
    (first | (refine Row.append_step (W := w1.drew) (Kd.slice 68 k68) rfl (.tmp 35) (.tmp 41) 43 33 (.slice none 0 0) 24 rfl Try.underlying43 info33 rfl (by decide) (by decide) (.slice Ae d.earlier.length ce) d.earlier d.trees [.slice At d.trees.length ct] (In1 w tag) (by simp [Act.eval, Act.put]) (by simp [Act.eval, Act.put]) HA.out.2.1 HA.out.2.2 HA.out.1 HL.out ?_; intro v1 w2 hN hG hat; obtain ⟨A1, c1, rfl⟩ := hN.slice1; have HM := Aside0.mk (HP.out.mid HB2.out hN hG hat); have q2 := HP.out.cell HB2.out (v1 := .slice none 0 0) hG; obtain ⟨q2, _⟩ := q2; have f2 := blk_frozen q2 2; have q1 := blk_cell q2 1; replace q2 := blk_cell q2 2; simp at q1 q2; clear hN hG hat))
  all_goals clear G1 G2 G3 G4 q1 q2 f2
  all_goals (
    go_wp2_with (first
      | (go_at_call 38; refine (C3.out _ HM.out.keep).mono ?_; rintro e w3 ⟨v, rfl, hR, hB⟩; obtain ⟨A4, c4, rfl⟩ := Kd.R_slice hR; have HE := Aside0.mk (HM.out.amended (ed := ed) hgl.out HP.out.tagG hR hB); have q3 := blk_below HM.out.blk hB; have q4 := blk_set (blk_set q3 0 (.string ed)) 1 (.slice A4 ts.length c4); have q5 := blk_set q4 3 (.slice none 0 0); have f0 := blk_frozen q3 0; have f1 := blk_frozen q3 1; have f3 := blk_frozen q4 3; have r0 := blk_cell q3 0; have r1 := blk_cell q3 1; have r3 := blk_cell q4 3; have r2 := blk_cell q5 2; simp at r0 r1 r2 r3; clear hR hB q3 q4 q5)
      | (go_at_call 40; refine (C4.out _ A1 c1 r2).mono ?_; rintro e w4 ⟨rfl, rfl⟩))
    go_ret2
    have := HW.out _ HE.out.2 _ (fun k hk => if_pos hk) HE.out.1
    exact ⟨rfl, _, fun k hk => if_pos hk, this.1, this.2⟩)
end Go.Proofs.Ytkblcdpmdbofgaa.A
/- (*Desk).Amend: its errors, and the whole. -/
namespace Go.Proofs.Ytkblcdpmdbofgaa.A
open Go.RowKit Go.Proofs.YtkblcdpmdbofgaaW.PrintWords Go.Proofs.YtkblcdpmdbofgaaW.PrintLast Go.Proofs.YtkblcdpmdbofgaaW.PrintMore
set_option linter.unusedVariables false
set_option linter.unusedSimpArgs false

set_option maxHeartbeats 1000000 in
set_option maxRecDepth 100000 in
theorem amend_no (w : World) (tag : Nat → Nat) (dp mb : Nat) (sb : List Nat) (D : Dk) (h : DeskAt w tag dp mb sb D) (hok : D.ok) (ed : ByteArray) (id num : Int) (ts : List S68) (A : Option Addr) (c : Nat) (hb : bulkL ts ≤ 2000000)
    (hr : k68.C w A ts.length ts) (hc : ts.length ≤ c) (hm : D.valid ed ts = false) :
    Calls Try.prog 20 #[.pointer (some ⟨dp, 0, none⟩), .string ed, .int .i64 id, .int .i64 num, .slice A ts.length c] w (Tell w tag dp mb sb (two 0 1) D) := by
  have C1 := Aside0.mk (valid_calls w tag dp mb sb D h hok ed ts A c hb hr hc)
  rw [hm] at C1
  have HT := Aside0.mk (fun (w' : World) hB v => Tell.same (w' := w') h hB v)
  clear h hok hm hb hr hc
  go_enter Try.func20, Try.ntmps20
  go_wp2_with (go_at_call 39; refine C1.out.mono ?_; rintro e w1 ⟨rfl, hB1⟩; have HB1 := Aside0.mk hB1; clear hB1)
  go_ret2
  exact HT.out _ HB1.out _

set_option maxHeartbeats 1000000 in
set_option maxRecDepth 100000 in
theorem amend_err (w : World) (tag : Nat → Nat) (dp mb : Nat) (sb : List Nat) (D : Dk) (h : DeskAt w tag dp mb sb D) (hok : D.ok) (ed : ByteArray) (id num : Int) (ts : List S68) (A : Option Addr) (c : Nat) (hb : bulkL ts ≤ 2000000)
    (hr : k68.C w A ts.length ts) (hc : ts.length ≤ c) (hid : (Lit.int .i64 id).wf = true) (hm : D.valid ed ts = true) (r : Int) (hq : D.cur id num ≠ 0 ∧ r = D.cur id num ∨ D.cur id num = 0 ∧ num = 256 ∧ r = 12) :
    Calls Try.prog 20 #[.pointer (some ⟨dp, 0, none⟩), .string ed, .int .i64 id, .int .i64 num, .slice A ts.length c] w (Tell w tag dp mb sb (two 0 r) D) := by
  have C1 := Aside0.mk (valid_calls w tag dp mb sb D h hok ed ts A c hb hr hc)
  rw [hm] at C1
  have C2 := Aside0.mk (fun (W : World) (hW : Below w.heap.size w W) => current_calls W tag dp mb sb D (h.below hW) hok id num hid)
  have HT := Aside0.mk (fun (w' : World) hB v => Tell.same (w' := w') h hB v)
  clear h hok hm hb hr hc hid
  rcases hq with ⟨hq, rfl⟩ | ⟨hq, rfl, rfl⟩
  · rw [if_neg hq] at C2
    generalize D.cur id num = q at C2 hq HT
    have f1 : (q != 0) = true := bne_iff_ne.mpr hq
    clear hq
    go_enter Try.func20, Try.ntmps20
    go_wp2_with (first
      | (go_at_call 37; refine (C2.out _ HB1.out).mono ?_; rintro e w2 ⟨rfl, rfl⟩)
      | (go_at_call 39; refine C1.out.mono ?_; rintro e w1 ⟨rfl, hB1⟩; have HB1 := Aside0.mk hB1; clear hB1))
    go_ret2
    exact HT.out _ HB1.out _
  · rw [hq, if_pos rfl] at C2
    clear hq
    go_enter Try.func20, Try.ntmps20
    go_wp2_with (first
      | (go_at_call 37; refine (C2.out _ HB1.out).mono ?_; rintro e w2 ⟨rfl, rfl⟩)
      | (go_at_call 39; refine C1.out.mono ?_; rintro e w1 ⟨rfl, hB1⟩; have HB1 := Aside0.mk hB1; clear hB1))
    go_ret2
    exact HT.out _ HB1.out _

theorem amend_calls (w : World) (tag : Nat → Nat) (dp mb : Nat) (sb : List Nat) (D : Dk) (h : DeskAt w tag dp mb sb D) (hok : D.ok) (ed : ByteArray) (id num : Int) (ts : List S68) (A : Option Addr) (c : Nat) (hb : bulkL ts ≤ 2000000)
    (hr : k68.F w (fun k => tag k < 2) A ts.length ts) (hc : ts.length ≤ c) (hid : (Lit.int .i64 id).wf = true) :
    Calls Try.prog 20 #[.pointer (some ⟨dp, 0, none⟩), .string ed, .int .i64 id, .int .i64 num, .slice A ts.length c] w (Tell w tag dp mb sb (two (D.amend ed id num ts).1 (D.amend ed id num ts).2.1) (D.amend ed id num ts).2.2) := by
  unfold Dk.amend
  cases hm : D.valid ed ts with
  | false => rw [if_pos rfl]; exact amend_no w tag dp mb sb D h hok ed id num ts A c hb (Kd.F_now hr) hc hm
  | true =>
    rw [if_neg (by simp)]
    by_cases hq : D.cur id num = 0
    · rw [if_neg (fun hn => hn hq)]
      by_cases h2 : num = 256
      · rw [if_pos h2]
        exact amend_err w tag dp mb sb D h hok ed id num ts A c hb (Kd.F_now hr) hc hid hm 12 (.inr ⟨hq, h2, rfl⟩)
      · rw [if_neg h2]
        obtain ⟨d, hg, _, _⟩ := Dk.cur_zero hq
        obtain ⟨i, g, rfl, hs, hd, hp⟩ := ptrOf_some h.len hg
        rw [hg]
        have e1 : ((i : Int) + 1 - 1).toNat = i := by omega
        simp only [e1]
        have := amend_ok w tag dp mb sb D h hok ed i g d num ts A c hb hr hc hid hm hq (beq_eq_false_iff_ne.mpr h2) hs hd hp
        rw [show (((d.earlier.length + 1 : Nat) : Int) + 1) = (d.earlier.length : Int) + 2 by omega] at this
        exact this
    · rw [if_pos hq]
      exact amend_err w tag dp mb sb D h hok ed id num ts A c hb (Kd.F_now hr) hc hid hm _ (.inl ⟨hq, rfl⟩)
end Go.Proofs.Ytkblcdpmdbofgaa.A
/- (*Desk).Open. -/
namespace Go.Proofs.Ytkblcdpmdbofgaa.A
open Go.RowKit Go.Proofs.YtkblcdpmdbofgaaW.PrintWords Go.Proofs.YtkblcdpmdbofgaaW.PrintLast Go.Proofs.YtkblcdpmdbofgaaW.PrintMore
set_option linter.unusedVariables false
set_option linter.unusedSimpArgs false

/-- What an operation does: as Tell; the drafts may be more. -/
def Does (w : World) (tag : Nat → Nat) (dp mb : Nat) (v : Value) (D1 : Dk) (e : Ending) (w' : World) : Prop := e = .returned v ∧ ∃ tag' sb', (∀ k, k < w.heap.size → tag' k = tag k) ∧ DeskAt w' tag' dp mb sb' D1 ∧ Kp w w' (fun k => 2 ≤ tag k)
theorem Tell.does {w : World} {tag : Nat → Nat} {dp mb : Nat} {sb : List Nat} {v : Value} {D1 : Dk} {e : Ending} {w' : World} (h : Tell w tag dp mb sb v D1 e w') : Does w tag dp mb v D1 e w' := by
  obtain ⟨h1, tag', h2, h3, h4⟩ := h
  exact ⟨h1, tag', sb, h2, h3, h4⟩
theorem Does.same {w w' : World} {tag : Nat → Nat} {dp mb : Nat} {sb : List Nat} {D : Dk} (h : DeskAt w tag dp mb sb D) (hB : Below w.heap.size w w') (v : Value) : Does w tag dp mb v D (.returned v) w' := (Tell.same h hB v).does

def Dk.add (D : Dk) (ed : ByteArray) (ts : List S68) : Dk := { D with drafts := D.drafts ++ [⟨ed, ts, [], [], false⟩] }
def Dk.opens (D : Dk) (ed : ByteArray) (ts : List S68) : Int × Int × Dk :=
  if D.valid ed ts = false then (0, 1, D) else if D.drafts.length = 256 then (0, 12, D) else ((D.drafts.length : Int) + 1, 0, D.add ed ts)

def opTag (w : World) (tag : Nat → Nat) (g t : Nat) (k : Nat) : Nat := if k < w.heap.size then tag k else if k = g then t else 1
theorem DeskAt.opened {w w1 w2 w4 : World} {tag : Nat → Nat} {dp mb : Nat} {sb : List Nat} {D : Dk} {ed : ByteArray} {ts : List S68} {A4 : Option Addr} {c4 : Nat} (h : DeskAt w tag dp mb sb D) (hn : D.drafts.length ≠ 256)
    (hB1 : Below w.heap.size w w1) (hR : k68.R 68 w2 w1.heap.size (New w1) (.slice A4 ts.length c4) ts) (hB2 : Below w1.heap.size w1 w2)
    (hM : MapAt w4 mb (sb ++ [w2.heap.size])) (hG : (w2.alloc (.cells #[.string ed, .slice A4 ts.length c4, .slice none 0 0, .slice none 0 0, .bool false] 79 (0, 0))).grownBy w4 (some mb)) :
    DeskAt w4 (opTag w tag w2.heap.size (sb.length + 3)) dp mb (sb ++ [w2.heap.size]) (D.add ed ts) ∧ Kp w w4 (fun k => 2 ≤ tag k) := by
  have hB : Below w.heap.size w (w2.alloc (.cells #[.string ed, .slice A4 ts.length c4, .slice none 0 0, .slice none 0 0, .bool false] 79 (0, 0))) := below_alloc (below_step hB1 hB2) _
  have hs1 := hB1.size
  have hs2 := hB2.size
  have hmb := h.map.lt
  have hK : Kp w w4 (fun k => k = mb) := ((Kp.of_below hB (fun _ => False)).mono (fun _ h => h.elim)).then_ ((Kp.of_grown hG).mono (fun k hk => by injection hk with hk; exact hk.symm)) (fun k hk => .inl hk)
  have ht : ∀ k, k < w.heap.size → opTag w tag w2.heap.size (sb.length + 3) k = tag k := fun k hk => if_pos hk
  have hgb : w4.heap[w2.heap.size]? = some (.cells #[.string ed, .slice A4 ts.length c4, .slice none 0 0, .slice none 0 0, .bool false] 79 (0, 0)) :=
    blk_grown (heap_alloc_new w2 _) hG (fun e => by injection e with e; omega)
  refine ⟨?_, hK.mono (fun k hk => by rw [hk, h.tagM]; exact Nat.le_refl _)⟩
  obtain ⟨Ae, ce, hb, hc, hF⟩ := h.desk
  refine ⟨⟨Ae, ce, hK.blk hb (h.map.notCells hb), hc, ?_⟩, (ht dp (blk_lt hb)).trans h.tagD, (ht mb hmb).trans h.tagM, hM, by unfold Dk.add; simp [h.len], fun j g' d' hg' hd' => ?_, ?_⟩
  · exact Kd.F_mono (Kd.F_step (Kd.F_bound hF) (fun k hk hl => hK.block k hl (fun e => by rw [e] at hk; have := hk.1; have := h.tagM; omega))) (fun k hk => (ht k hk.2).trans hk.1)
  · unfold Dk.add at hd'
    simp only at hd'
    rcases Nat.lt_or_ge j sb.length with hj | hj
    · rw [List.getElem?_append_left hj] at hg'
      rw [List.getElem?_append_left (by rw [← h.len]; exact hj)] at hd'
      exact (h.drafts j g' d' hg' hd').step (fun k hk htk => hK.block k hk (fun e => by rw [e, h.tagM] at htk; omega)) ht
    · rw [List.getElem?_append_right hj] at hg'
      have hj0 : j - sb.length = 0 := by
        have := (List.getElem?_eq_some_iff.1 hg').1
        simp at this
        omega
      have hj1 : j = sb.length := by omega
      subst hj1
      simp at hg'
      rw [h.len, List.getElem?_append_right (Nat.le_refl _)] at hd'
      simp at hd'
      subst hg'
      subst hd'
      refine ⟨A4, c4, .slice none 0 0, .slice none 0 0, hgb, (Kd.R_reads' hR).2.1, ?_, Row.nil _ _ _ _, Row.nil _ _ _ _, ?_, fun k hk => by simp [Value.ownBlock] at hk, fun k hk => by simp [Value.ownBlock] at hk⟩
      · refine Kd.F_mono (Kd.F_step (Kd.F_bound (Kd.R_F hR)) (fun k hk hl => ?_)) (fun k hk => ?_)
        · rw [hG.block k (by simp; omega) (fun e => by injection e with e; have := hk.1; unfold New at this; omega)]
          exact heap_alloc_old w2 _ hl
        · have h1 := hk.1
          have h2 := hk.2
          unfold New at h1
          unfold opTag
          rw [if_neg (by omega), if_neg (by omega)]
      · unfold opTag
        rw [if_neg (by omega), if_pos rfl]
  · have := h.few
    unfold Dk.add
    simp
    omega

set_option maxHeartbeats 2000000 in
set_option maxRecDepth 100000 in
theorem open_ok (w : World) (tag : Nat → Nat) (dp mb : Nat) (sb : List Nat) (D : Dk) (h : DeskAt w tag dp mb sb D) (hok : D.ok) (ed : ByteArray) (ts : List S68) (A : Option Addr) (c : Nat) (hb : bulkL ts ≤ 2000000)
    (hr : k68.C w A ts.length ts) (hc : ts.length ≤ c) (hm : D.valid ed ts = true) (hn : D.drafts.length ≠ 256) :
    Calls Try.prog 31 #[.pointer (some ⟨dp, 0, none⟩), .string ed, .slice A ts.length c] w (Does w tag dp mb (two ((D.drafts.length : Int) + 1) 0) (D.add ed ts)) := by
  have C1 := Aside0.mk (valid_calls w tag dp mb sb D h hok ed ts A c hb hr hc)
  rw [hm] at C1
  have C3 := Aside0.mk (fun (W : World) (hK : Below w.heap.size w W) => cloneAll_calls ts A c W (Nat.le_trans (length_bulk ts) hb) (fun x hx => Nat.le_trans (mem_bulk hx) hb) (Kd.C_below hr hK) hc)
  have H := Aside0.mk h
  have HN := Aside0.mk hn
  have HL := Aside0.mk (fun (W : World) (hK : Below w.heap.size w W) => (h.below hK).map.len 3)
  obtain ⟨Ae, ce, hbk, _, _⟩ := h.desk
  have HD := Aside0.mk hbk
  have hl : sb.length ≤ 256 := by rw [h.len]; exact h.few
  have f1 : ((sb.length : Int) == 256) = false := beq_eq_false_iff_ne.mpr (by rw [h.len]; omega)
  rw [← h.len]
  clear h hok hm hb hr hc hbk hn
  go_enter Try.func31, Try.ntmps31
  go_wp2_with (first
    | (go_at_call 39; refine C1.out.mono ?_; rintro e w1 ⟨rfl, hB1⟩; have HB1 := Aside0.mk hB1; have c2 := blk_cell (blk_below HD.out hB1) 2; simp at c2; have l1 := HL.out _ hB1; clear hB1))
  have HB2 : Aside0 (Below w.heap.size w w1.drew) := ⟨below_drew HB1.out⟩
  have HD2 := Aside0.mk (blk_below HD.out HB2.out)
  go_region_held3 (fun w' => w'.cell? ⟨dp, 2, none⟩ = some (.map (some mb)))
    (first
      | exact blk_cell HD2.out 2
      | exact q2
      | exact q3
      | exact q4
      | go_keep)
    (first
      | (go_at_call 38; refine (C3.out _ HB2.out).mono ?_; rintro e w2 ⟨v, rfl, hR, hB2⟩; obtain ⟨A4, c4, rfl⟩ := Kd.R_slice hR; have hs2 := HB2.out.size; have hs3 := hB2.size; have hD3 := blk_below HD2.out hB2; have q2 := blk_cell hD3 2; have q3 := blk_cell (blk_alloc hD3 (.cells #[.string ed, .slice A4 ts.length c4, .slice none 0 0, .slice none 0 0, .bool false] 79)) 2; obtain ⟨w4, hrun, hM, hG⟩ := (H.out.map.step (w1 := w2.alloc (.cells #[.string ed, .slice A4 ts.length c4, .slice none 0 0, .slice none 0 0, .bool false] 79)) ((below_alloc (below_step HB2.out hB2) _).block _ H.out.map.lt)).store (g := w2.heap.size) (by omega); have HE := Aside0.mk (H.out.opened (ed := ed) HN.out HB2.out hR hB2 hM hG); have q4 := blk_cell (blk_grown (blk_alloc hD3 (.cells #[.string ed, .slice A4 ts.length c4, .slice none 0 0, .slice none 0 0, .bool false] 79)) hG (fun e => by injection e with e; exact H.out.map.notCells HD.out e)) 2; simp at q2 q3 q4; clear hM hG hR hB2 hD3 hs2 hs3))
  go_wp2
  go_ret2
  exact ⟨rfl, _, _, fun k hk => if_pos hk, HE.out.1, HE.out.2⟩
end Go.Proofs.Ytkblcdpmdbofgaa.A
/- (*Desk).Open: its errors, and the whole; Drafts. -/
namespace Go.Proofs.Ytkblcdpmdbofgaa.A
open Go.RowKit Go.Proofs.YtkblcdpmdbofgaaW.PrintWords Go.Proofs.YtkblcdpmdbofgaaW.PrintLast Go.Proofs.YtkblcdpmdbofgaaW.PrintMore
set_option linter.unusedVariables false
set_option linter.unusedSimpArgs false

set_option maxHeartbeats 1000000 in
set_option maxRecDepth 100000 in
theorem open_err (w : World) (tag : Nat → Nat) (dp mb : Nat) (sb : List Nat) (D : Dk) (h : DeskAt w tag dp mb sb D) (hok : D.ok) (ed : ByteArray) (ts : List S68) (A : Option Addr) (c : Nat) (hb : bulkL ts ≤ 2000000)
    (hr : k68.C w A ts.length ts) (hc : ts.length ≤ c) (r : Int) (hq : D.valid ed ts = false ∧ r = 1 ∨ D.valid ed ts = true ∧ D.drafts.length = 256 ∧ r = 12) :
    Calls Try.prog 31 #[.pointer (some ⟨dp, 0, none⟩), .string ed, .slice A ts.length c] w (Does w tag dp mb (two 0 r) D) := by
  have C1 := Aside0.mk (valid_calls w tag dp mb sb D h hok ed ts A c hb hr hc)
  have HT := Aside0.mk (fun (w' : World) hB v => Does.same (w' := w') h hB v)
  have HL := Aside0.mk (fun (W : World) (hK : Below w.heap.size w W) => (h.below hK).map.len 3)
  obtain ⟨Ae, ce, hbk, _, _⟩ := h.desk
  have HD := Aside0.mk hbk
  have hl := h.len
  rcases hq with ⟨hm, rfl⟩ | ⟨hm, h2, rfl⟩
  · rw [hm] at C1
    clear h hok hm hb hr hc hl hbk
    go_enter Try.func31, Try.ntmps31
    go_wp2_with (go_at_call 39; refine C1.out.mono ?_; rintro e w1 ⟨rfl, hB1⟩; have HB1 := Aside0.mk hB1; clear hB1)
    go_ret2
    exact HT.out _ HB1.out _
  · rw [hm] at C1
    have f1 : ((sb.length : Int) == 256) = true := beq_iff_eq.mpr (by rw [hl]; omega)
    clear h hok hm hb hr hc hl hbk h2
    go_enter Try.func31, Try.ntmps31
    go_wp2_with (first
      | (go_at_call 39; refine C1.out.mono ?_; rintro e w1 ⟨rfl, hB1⟩; have HB1 := Aside0.mk hB1; have c2 := blk_cell (blk_below HD.out hB1) 2; simp at c2; have l1 := HL.out _ hB1; clear hB1))
    go_ret2
    exact HT.out _ HB1.out _

theorem open_calls (w : World) (tag : Nat → Nat) (dp mb : Nat) (sb : List Nat) (D : Dk) (h : DeskAt w tag dp mb sb D) (hok : D.ok) (ed : ByteArray) (ts : List S68) (A : Option Addr) (c : Nat) (hb : bulkL ts ≤ 2000000)
    (hr : k68.C w A ts.length ts) (hc : ts.length ≤ c) :
    Calls Try.prog 31 #[.pointer (some ⟨dp, 0, none⟩), .string ed, .slice A ts.length c] w (Does w tag dp mb (two (D.opens ed ts).1 (D.opens ed ts).2.1) (D.opens ed ts).2.2) := by
  unfold Dk.opens
  cases hm : D.valid ed ts with
  | false => rw [if_pos rfl]; exact open_err w tag dp mb sb D h hok ed ts A c hb hr hc 1 (.inl ⟨hm, rfl⟩)
  | true =>
    rw [if_neg (by simp)]
    by_cases h2 : D.drafts.length = 256
    · rw [if_pos h2]; exact open_err w tag dp mb sb D h hok ed ts A c hb hr hc 12 (.inr ⟨hm, h2, rfl⟩)
    · rw [if_neg h2]; exact open_ok w tag dp mb sb D h hok ed ts A c hb hr hc hm h2

/-- The numbers of the open drafts among the first n. -/
def Dk.opensTo (D : Dk) (n : Nat) : List Int := ((List.range n).filter fun i => match D.drafts[i]? with | some d => !d.closed | none => false).map fun (i : Nat) => (i : Int) + 1
theorem Dk.opensTo_succ (D : Dk) (n : Nat) : D.opensTo (n + 1) = D.opensTo n ++ (match D.drafts[n]? with | some d => if d.closed then [] else [(n : Int) + 1] | none => []) := by
  unfold Dk.opensTo
  rw [List.range_succ, List.filter_append, List.map_append]
  congr 1
  cases h : D.drafts[n]? with
  | none => simp [h]
  | some d => cases hc : d.closed <;> simp [h, hc]
theorem Dk.opensTo_len (D : Dk) (n : Nat) : (D.opensTo n).length ≤ n := by
  unfold Dk.opensTo
  rw [List.length_map]
  exact Nat.le_trans (List.length_filter_le _ _) (by simp)
end Go.Proofs.Ytkblcdpmdbofgaa.A
/- session.New. -/
namespace Go.Proofs.Ytkblcdpmdbofgaa.A
open Go.RowKit Go.Proofs.YtkblcdpmdbofgaaW.PrintWords Go.Proofs.YtkblcdpmdbofgaaW.PrintLast Go.Proofs.YtkblcdpmdbofgaaW.PrintMore
set_option linter.unusedVariables false
set_option linter.unusedSimpArgs false

/-- Are the n letters from i on between a and z? -/
def lettersFrom (x : ByteArray) : Nat → Int → Bool
  | 0, _ => true
  | n + 1, i => if bt x i < 97 then false else if bt x i > 122 then false else lettersFrom x n (i + 1)
def lettersS (x : ByteArray) : Bool := lettersFrom x x.size 0 && (x.toList != ([] : List UInt8))
theorem letters_ev (x : ByteArray) (hx : x.size ≤ 2000000) : ∀ (n : Nat) (i : Int), 0 ≤ i → i + n = (x.size : Int) → Ev (fun k => session_letters.l0 k x (x.size : Int) i) (lettersFrom x n i && (x.toList != ([] : List UInt8)))
  | 0, i, h0, hn => by
    refine Ev.step (f := fun _ => some (x.toList != ([] : List UInt8))) (fun k => ?_) (by simpa [lettersFrom] using Ev.now _)
    rw [session_letters.l0, if_neg (by omega)]
  | n + 1, i, h0, hn => by
    have hlt : i < (x.size : Int) := by omega
    by_cases h1 : bt x i < 97
    · refine Ev.step (f := fun _ => some false) (fun k => ?_) (by simpa [lettersFrom, h1] using Ev.now _)
      rw [session_letters.l0, if_pos hlt, if_pos h0, if_pos hlt, if_pos h1]
    · by_cases h2 : bt x i > 122
      · refine Ev.step (f := fun _ => some false) (fun k => ?_) (by simpa [lettersFrom, h1, h2] using Ev.now _)
        rw [session_letters.l0, if_pos hlt, if_pos h0, if_pos hlt, if_neg h1, if_pos h2]
      · have := letters_ev x hx n (i + 1) (by omega) (by omega)
        refine Ev.step (fun k => ?_) (by simpa only [lettersFrom, if_neg h1, if_neg h2] using this)
        rw [session_letters.l0, if_pos hlt, if_pos h0, if_pos hlt, if_neg h1, if_neg h2, wrap_small (by omega) (by omega)]
theorem letters_calls (x : ByteArray) (w : World) (hx : x.size ≤ 2000000) : Calls Try.prog 33 #[.string x] w fun e w' => e = .returned (.bool (lettersS x)) ∧ Drawn0 w w' := by
  obtain ⟨k, hk⟩ := (letters_ev x hx x.size 0 (Int.le_refl _) (by omega)).rounds
  exact session_letters.calls k x (lettersS x) w hk

/-- Names of a to z, none twice. -/
def edsOk (pre : List ByteArray) : List ByteArray → Bool
  | [] => true
  | x :: r => lettersS x && !memS pre x && edsOk (pre ++ [x]) r
def canNew (l : List ByteArray) (needed : Int) : Bool := decide (1 ≤ l.length) && decide (l.length ≤ 16) && decide (0 ≤ needed) && decide (needed < (l.length : Int)) && edsOk [] l
def deskTag (w : World) (dp mb k : Nat) : Nat := if k < w.heap.size then 0 else if k = dp ∨ k = mb then 2 else 1
/-- What New returns and leaves. -/
def Made (w : World) (l : List ByteArray) (needed : Int) (e : Ending) (w' : World) : Prop :=
  if canNew l needed = true then ∃ dp mb, e = .returned (.tuple #[.pointer (some ⟨dp, 0, none⟩), .int .i64 0]) ∧ w.heap.size ≤ dp ∧ w.heap.size ≤ mb ∧ DeskAt w' (deskTag w dp mb) dp mb [] ⟨l, needed, []⟩ ∧ Below w.heap.size w w'
  else e = .returned (.tuple #[.pointer none, .int .i64 1]) ∧ Below w.heap.size w w'

set_option maxHeartbeats 1000000 in
set_option maxRecDepth 100000 in
theorem new_bad (A : Option Addr) (c : Nat) (l : List ByteArray) (needed : Int) (w : World) (h : l.length < 1 ∨ 1 ≤ l.length ∧ 16 < l.length ∨ 1 ≤ l.length ∧ l.length ≤ 16 ∧ needed < 0 ∨ 1 ≤ l.length ∧ l.length ≤ 16 ∧ 0 ≤ needed ∧ (l.length : Int) ≤ needed) :
    Calls Try.prog 11 #[.slice A l.length c, .int .i64 needed] w (Made w l needed) := by
  have hc : Aside0 (canNew l needed = false) := ⟨by
    unfold canNew
    rcases h with h | ⟨h1, h2⟩ | ⟨h1, h2, h3⟩ | ⟨h1, h2, h3, h4⟩
    · rw [decide_eq_false (show ¬ 1 ≤ l.length by omega)]; simp
    · rw [decide_eq_false (show ¬ l.length ≤ 16 by omega)]; simp
    · rw [decide_eq_false (show ¬ 0 ≤ needed by omega)]; simp
    · rw [decide_eq_false (show ¬ needed < (l.length : Int) by omega)]; simp⟩
  have fin : ∀ w', Below w.heap.size w w' → Made w l needed (.returned (.tuple #[.pointer none, .int .i64 1])) w' := fun w' hB => by
    unfold Made
    rw [hc.out, if_neg (by simp)]
    exact ⟨rfl, hB⟩
  have FIN := Aside0.mk fin
  clear fin
  rcases h with h | ⟨h1, h2⟩ | ⟨h1, h2, h3⟩ | ⟨h1, h2, h3, h4⟩
  · have f1 : decide ((l.length : Int) < 1) = true := decide_eq_true (by omega)
    clear h hc
    go_enter Try.func11, Try.ntmps11
    go_wp2
    go_ret2
    exact FIN.out _ (Below.refl _ _)
  · have f1 : decide ((l.length : Int) < 1) = false := decide_eq_false (by omega)
    have f2 : decide (16 < (l.length : Int)) = true := decide_eq_true (by omega)
    clear h1 h2 hc
    go_enter Try.func11, Try.ntmps11
    go_wp2
    go_ret2
    exact FIN.out _ (Below.refl _ _)
  · have f1 : decide ((l.length : Int) < 1) = false := decide_eq_false (by omega)
    have f2 : decide (16 < (l.length : Int)) = false := decide_eq_false (by omega)
    have f3 : decide (needed < 0) = true := decide_eq_true (by omega)
    clear h1 h2 h3 hc
    go_enter Try.func11, Try.ntmps11
    go_wp2
    go_ret2
    exact FIN.out _ (Below.refl _ _)
  · have f1 : decide ((l.length : Int) < 1) = false := decide_eq_false (by omega)
    have f2 : decide (16 < (l.length : Int)) = false := decide_eq_false (by omega)
    have f3 : decide (needed < 0) = false := decide_eq_false (by omega)
    have f4 : decide ((l.length : Int) - 1 < needed) = true := decide_eq_true (by omega)
    have f5 : (l.length : Int) ≤ 16 := by omega
    have f6 : (1 : Int) ≤ (l.length : Int) := by omega
    clear h1 h2 h3 h4 hc
    go_enter Try.func11, Try.ntmps11
    go_wp2
    go_ret2
    exact FIN.out _ (Below.refl _ _)
end Go.Proofs.Ytkblcdpmdbofgaa.A
/- session.New: the walk of its loop, and the whole. -/
namespace Go.Proofs.Ytkblcdpmdbofgaa.A
open Go.RowKit Go.Proofs.YtkblcdpmdbofgaaW.PrintWords Go.Proofs.YtkblcdpmdbofgaaW.PrintLast Go.Proofs.YtkblcdpmdbofgaaW.PrintMore
set_option linter.unusedVariables false
set_option linter.unusedSimpArgs false

theorem desk_made {w w1 : World} {Ae : Option Addr} {ce : Nat} {l : List ByteArray} {needed : Int} (hR : Kd.string.R 9 w1 w.heap.size (fun k => w.heap.size ≤ k) (.slice Ae l.length ce) l) (hB : Below w.heap.size w w1) :
    DeskAt ((w1.alloc (.map #[] 0)).alloc (.cells #[.slice Ae l.length ce, .int .i64 needed, .map (some w1.heap.size)] 75 (0, 0))) (deskTag w (w1.heap.size + 1) w1.heap.size) (w1.heap.size + 1) w1.heap.size [] ⟨l, needed, []⟩ := by
  have hs := hB.size
  have hb : ((w1.alloc (.map #[] 0)).alloc (.cells #[.slice Ae l.length ce, .int .i64 needed, .map (some w1.heap.size)] 75 (0, 0))).heap[w1.heap.size + 1]? = some (.cells #[.slice Ae l.length ce, .int .i64 needed, .map (some w1.heap.size)] 75 (0, 0)) := by
    have := heap_alloc_new (w1.alloc (.map #[] 0)) (.cells #[.slice Ae l.length ce, .int .i64 needed, .map (some w1.heap.size)] 75 (0, 0))
    simpa using this
  refine ⟨⟨Ae, ce, hb, (Kd.R_reads' hR).2.1, ?_⟩, ?_, ?_, ?_, rfl, fun i g d hg hd => by simp at hd, by simp⟩
  · refine Kd.F_mono (Kd.F_alloc (Kd.F_alloc (Kd.F_bound (Kd.R_F hR)) _) _) (fun k hk => ?_)
    have h1 := hk.1
    have h2 := hk.2
    unfold deskTag
    rw [if_neg (by omega), if_neg (by omega)]
  · unfold deskTag
    rw [if_neg (by omega), if_pos (.inl rfl)]
  · unfold deskTag
    rw [if_neg (by omega), if_pos (.inr rfl)]
  · refine (MapAt.made w1).step ?_
    exact heap_alloc_old (w1.alloc (.map #[] 0)) _ (by simp)

theorem makeMap73 (w : World) : (Instr.makeMap 73 none).run Try.prog w = .ok (.map (some w.heap.size)) (w.alloc (.map #[] 0)) := by
  first | rfl | kernel_rfl | simp [Instr.run, Try.underlying73]
theorem edsOk_at (l : List ByteArray) (x : Int) (h0 : 0 ≤ x) (h1 : x < l.length) : edsOk (l.take x.toNat) (l.drop x.toNat) = (lettersS (rdOf ByteArray.empty l x) && !memS (l.take x.toNat) (rdOf ByteArray.empty l x) && edsOk (l.take (x + 1).toNat) (l.drop (x + 1).toNat)) := by
  have hlt : x.toNat < l.length := by omega
  have e : (x + 1).toNat = x.toNat + 1 := by omega
  have hd : l.drop x.toNat = l[x.toNat] :: l.drop (x.toNat + 1) := List.drop_eq_getElem_cons hlt
  have hr : rdOf ByteArray.empty l x = l[x.toNat] := by
    unfold rdOf
    rw [List.getD_eq_getElem?_getD, List.getElem?_eq_getElem hlt]
    rfl
  rw [hd, e, hr, List.take_succ_eq_append_getElem hlt]
  rfl
theorem rdOf_mem (l : List ByteArray) (x : Int) (h0 : 0 ≤ x) (h1 : x < l.length) : rdOf ByteArray.empty l x ∈ l := by
  unfold rdOf
  rw [List.getD_eq_getElem?_getD, List.getElem?_eq_getElem (by omega)]
  exact List.getElem_mem _

set_option maxHeartbeats 1000000 in
set_option maxRecDepth 100000 in
theorem new_good (A : Option Addr) (c : Nat) (l : List ByteArray) (needed : Int) (w : World) (hr : Kd.string.C w A l.length l) (hcp : l.length ≤ c) (hsz : ∀ x ∈ l, x.size ≤ 2000000) (h1 : 1 ≤ l.length) (h2 : l.length ≤ 16) (h3 : 0 ≤ needed) (h4 : needed < (l.length : Int)) :
    Calls Try.prog 11 #[.slice A l.length c, .int .i64 needed] w (Made w l needed) := by
  have hc : canNew l needed = edsOk [] l := by
    unfold canNew
    rw [decide_eq_true h1, decide_eq_true h2, decide_eq_true h3, decide_eq_true h4]
    simp
  have no : Aside0 (edsOk [] l = false → ∀ w', Below w.heap.size w w' → Made w l needed (.returned (.tuple #[.pointer none, .int .i64 1])) w') := ⟨fun he w' hB => by
    unfold Made
    rw [hc, he, if_neg (by simp)]
    exact ⟨rfl, hB⟩⟩
  have yes : Aside0 (edsOk [] l = true → ∀ dp mb w', w.heap.size ≤ dp → w.heap.size ≤ mb → DeskAt w' (deskTag w dp mb) dp mb [] ⟨l, needed, []⟩ → Below w.heap.size w w' → Made w l needed (.returned (.tuple #[.pointer (some ⟨dp, 0, none⟩), .int .i64 0])) w') := ⟨fun he dp mb w' hd hm hD hB => by
    unfold Made
    rw [hc, he, if_pos rfl]
    exact ⟨dp, mb, rfl, hd, hm, hD, hB⟩⟩
  have f1 : decide ((l.length : Int) < 1) = false := decide_eq_false (by omega)
  have f2 : decide (16 < (l.length : Int)) = false := decide_eq_false (by omega)
  have f3 : decide (needed < 0) = false := decide_eq_false (by omega)
  have f4 : decide ((l.length : Int) - 1 < needed) = false := decide_eq_false (by omega)
  have f5 : (l.length : Int) ≤ 16 := by omega
  have f6 : (1 : Int) ≤ (l.length : Int) := by omega
  have HR := Aside0.mk hr
  have HC := Aside0.mk hcp
  have HS := Aside0.mk hsz
  have C5 := Aside0.mk (fun (W : World) (hW : Below w.heap.size w W) => clone_strs A c l W (Kd.C_below hr hW) (by omega))
  clear hr hcp hsz h1 h2 h3 h4 hc
  go_enter Try.func11, Try.ntmps11
  go_wp2
  go_loopw [29] (fun i w' => ∃ x : Int, i = .int .i64 x ∧ 0 ≤ x ∧ x ≤ l.length ∧ Aside0 (edsOk [] l = edsOk (l.take x.toNat) (l.drop x.toNat)) ∧ Drawn0 w w') (fun i _ => l.length - (intOf i).toNat)
  case atStart => exact ⟨0, rfl, Int.le_refl _, Int.natCast_nonneg _, ⟨rfl⟩, Drawn0.refl _⟩
  case round =>
    obtain ⟨x, rfl, hx, hk, HV, ⟨m, rfl⟩⟩ := hrel
    by_cases hlt : x < l.length
    · obtain ⟨ad, e, hx0⟩ := Kd.at_string HR.out x hx hlt
      cases e
      have p1 := eq_true hx
      have q1 := eq_true hlt
      have L1 := Aside0.mk (fun (W : World) => letters_calls (rdOf ByteArray.empty l x) W (HS.out _ (rdOf_mem l x hx hlt)))
      obtain ⟨i0, hi0, _, hsz, _⟩ := info_parts info9
      obtain ⟨hcut, hA, hC⟩ := print_take_of (P := Try.prog) Value.string (⟨#[]⟩ : ByteArray) 22 9 .i64 Try.underlying22 hi0 hsz (some ad) c l x hx hk HC.out
      have HR2 := Aside0.mk (Kd.C_of_reads (h1 := fun _ => rfl) (hA _ (Kd.reads_of_C HR.out)))
      have hlen : (l.take x.toNat).length = x.toNat := by rw [List.length_take]; omega
      have C2 := Aside0.mk (fun (W : World) (hW : Below w.heap.size w W) => contains_calls (some ad) c (l.take x.toNat) (rdOf ByteArray.empty l x) W (by rw [List.length_take]; omega) (Kd.C_below HR2.out hW) hC)
      simp only [hlen] at C2 hcut
      clear hlen
      have HE := HV.out.trans (edsOk_at l x hx hlt)
      clear hA hC hi0 hsz HV
      cases hl : lettersS (rdOf ByteArray.empty l x) with
      | false =>
        rw [hl] at HE L1
        replace HE := Aside0.mk (no.out (HE.trans (by simp)))
        clear hcut
        go_wp2_with (go_at_call 33; refine (L1.out _).mono ?_; rintro e w' ⟨rfl, ⟨nd, rfl⟩⟩)
        go_ret2
        exact HE.out _ (pw_below_drewN (Below.refl _ _) _)
      | true =>
        rw [hl] at HE L1
        cases hm : memS (l.take x.toNat) (rdOf ByteArray.empty l x) with
        | true =>
          rw [hm] at HE C2
          replace HE := Aside0.mk (no.out (HE.trans (by simp)))
          go_wp2_with (first | (go_at_call 33; refine (L1.out _).mono ?_; rintro e w' ⟨rfl, ⟨nd, rfl⟩⟩) | (go_at_call 34; refine (C2.out _ (pw_below_drewN (Below.refl _ _) _)).mono ?_; rintro e w' ⟨rfl, ⟨nd2, rfl⟩⟩))
          go_ret2
          exact HE.out _ (pw_below_drewN (Below.refl _ _) _)
        | false =>
          rw [hm] at HE C2
          replace HE := Aside0.mk (HE.trans (show (true && !false && edsOk (l.take (x + 1).toNat) (l.drop (x + 1).toNat)) = edsOk (l.take (x + 1).toNat) (l.drop (x + 1).toNat) by simp))
          go_wp2_with (first | (go_at_call 33; refine (L1.out _).mono ?_; rintro e w' ⟨rfl, ⟨nd, rfl⟩⟩) | (go_at_call 34; refine (C2.out _ (pw_below_drewN (Below.refl _ _) _)).mono ?_; rintro e w' ⟨rfl, ⟨nd2, rfl⟩⟩))
          go_roundw
          case rel => exact ⟨x + 1, rfl, by omega, by omega, HE, ⟨_, rfl⟩⟩
          case measure => simp [intOf]; omega
    · have HE : Aside0 (edsOk [] l = true) := ⟨by rw [HV.out, List.drop_eq_nil_of_le (by omega)]; rfl⟩
      replace HE := Aside0.mk (yes.out HE.out)
      go_wp2_with (go_at_call 35; refine (C5.out _ (pw_below_drewN (Below.refl _ _) _)).mono ?_; rintro e w1 ⟨v, rfl, hR, hB⟩; obtain ⟨Ae, ce, rfl⟩ := Kd.R_slice hR; have hmm := makeMap73 w1; have HD := Aside0.mk (desk_made (needed := needed) hR hB); have hs := hB.size; have HB := Aside0.mk hB; clear hR hB)
      go_ret2
      exact HE.out _ _ _ (Nat.le_succ_of_le hs) hs HD.out (below_alloc (below_alloc (below_step (pw_below_drewN (Below.refl _ _) _) HB.out) _) _)

theorem new_calls (A : Option Addr) (c : Nat) (l : List ByteArray) (needed : Int) (w : World) (hr : Kd.string.C w A l.length l) (hcp : l.length ≤ c) (hsz : ∀ x ∈ l, x.size ≤ 2000000) :
    Calls Try.prog 11 #[.slice A l.length c, .int .i64 needed] w (Made w l needed) := by
  by_cases h1 : 1 ≤ l.length
  · by_cases h2 : l.length ≤ 16
    · by_cases h3 : 0 ≤ needed
      · by_cases h4 : needed < (l.length : Int)
        · exact new_good A c l needed w hr hcp hsz h1 h2 h3 h4
        · exact new_bad A c l needed w (.inr (.inr (.inr ⟨h1, h2, h3, by omega⟩)))
      · exact new_bad A c l needed w (.inr (.inr (.inl ⟨h1, h2, by omega⟩)))
    · exact new_bad A c l needed w (.inr (.inl ⟨h1, by omega⟩))
  · exact new_bad A c l needed w (.inl (by omega))

end Go.Proofs.Ytkblcdpmdbofgaa.A
