/- What single Go functions of the seat compute, as Lean functions, and that the Go code computes it: the sections of the kit's print for these functions, taken into a text of this session's own, the faulty places proved anew. -/
import Derived.Test.YtkblcdpmdbofgaaA0
namespace Go.Proofs.Ytkblcdpmdbofgaa.A
open Go.RowKit Go.Proofs.YtkblcdpmdbofgaaW.PrintWords Go.Proofs.YtkblcdpmdbofgaaW.PrintLast Go.Proofs.YtkblcdpmdbofgaaW.PrintMore
attribute [local go_sem] max2_int min2_int max_two min_two max_three min_three max_four min_four   -- for this text's walks alone
set_option linter.unusedVariables false
set_option linter.unusedSimpArgs false

/-! ### pentaglotlaw54_few: function 14 -/
def pentaglotlaw54_few.l0 : Nat → List (S35) → Int → Option (Bool)
  | 0, _, _ => none
  | k + 1, x0, x3 => if x3 < (x0.length : Int) then (if 0 ≤ x3 then (if (((rd_T35 x0 x3).f4).length : Int) > 10 then (some false) else (pentaglotlaw54_few.l0 k x0 (wrap64 (x3 + 1)))) else (none)) else (some (decide ((x0.length : Int) ≤ 40)))
def pentaglotlaw54_few.f (k : Nat) (l0 : List (S35)) : Option (Bool) := pentaglotlaw54_few.l0 k l0 0
theorem pentaglotlaw54_few.mono_l : ∀ k, (∀ y0 y1, LeO (pentaglotlaw54_few.l0 k y0 y1) (pentaglotlaw54_few.l0 (k + 1) y0 y1))
  | 0 => fun _ _ r h => by simp [pentaglotlaw54_few.l0] at h
  | k + 1 => by
    have ih0 := pentaglotlaw54_few.mono_l k
    · intro y0 y1
      unfold pentaglotlaw54_few.l0
      repeat' first
      | (with_reducible exact ih0 _ _)
      | (with_reducible exact LeO.refl _)
      | (with_reducible exact LeO.none _)
      | (with_reducible refine LeO.ite ?_ ?_)
      | (with_reducible refine LeO.bind ?_ (fun _ => ?_))
      | exact ih0 _ _
      | exact LeO.none _
      | refine LeO.ite ?_ ?_
      | refine LeO.bind ?_ (fun _ => ?_)
theorem pentaglotlaw54_few.mono : ∀ a0 k, LeO (pentaglotlaw54_few.f k a0) (pentaglotlaw54_few.f (k + 1) a0) := by
  intro a0 k
  have ih0 := pentaglotlaw54_few.mono_l k
  unfold pentaglotlaw54_few.f
  repeat' first
      | (with_reducible exact ih0 _ _)
      | (with_reducible exact LeO.refl _)
      | (with_reducible exact LeO.none _)
      | (with_reducible refine LeO.ite ?_ ?_)
      | (with_reducible refine LeO.bind ?_ (fun _ => ?_))
      | exact ih0 _ _
      | exact LeO.none _
      | refine LeO.ite ?_ ?_
      | refine LeO.bind ?_ (fun _ => ?_)
set_option maxHeartbeats 8000000 in
set_option maxRecDepth 100000 in
theorem pentaglotlaw54_few.calls (k : Nat) (A0 : Option Addr) (c0 : Nat) (l0 : List (S35)) (r : Bool) (w : World) (hr0 : Kd.C k35 w A0 l0.length l0) (hc0 : l0.length ≤ c0) (h : pentaglotlaw54_few.f k l0 = some r) :
    Calls Try.prog 14 #[.slice A0 l0.length c0] w fun e w' => e = .returned (.bool r) ∧ Drawn0 w w' := by
  have HR0 := Aside0.mk hr0
  have HC0 := Aside0.mk hc0
  clear hr0 hc0
  have H : (pentaglotlaw54_few.l0 k l0 0) = some r := h
  clear h
  have H' := Aside0.mk H
  clear H
  go_enter Try.func14, Try.ntmps14
  go_wp2
  go_loopg [3] k (fun kq v3 w' => ∃ (x3_1 : Int), v3 = .int .i64 x3_1 ∧ Aside0 (pentaglotlaw54_few.l0 kq l0 x3_1 = some r) ∧ Aside0 (kq ≤ k) ∧ Drawn0 w w')
  case atStart => exact ⟨(0), (by first | rfl | (simp; done) | (simp [*]; done)), H', ⟨Nat.le_refl _⟩, by repeat (first | exact Drawn0.refl _ | apply Drawn0.step)⟩
  case round =>
    clear H'
    try clear c1
    obtain ⟨x3_1, rfl, HA, HK1, ⟨m1, rfl⟩⟩ := hrel
    cases gk with
    | zero => exact absurd HA.out (by simp [pentaglotlaw54_few.l0])
    | succ k1 =>
      have H := HA.out
      clear HA
      simp only [pentaglotlaw54_few.l0] at H
      by_cases c2 : x3_1 < (l0.length : Int)
      · rw [if_pos c2] at H
        have c2b0 : decide (x3_1 < (l0.length : Int)) = true := decide_eq_true c2
        clear c2
        by_cases c3 : 0 ≤ x3_1
        · rw [if_pos c3] at H
          have c3b0 : decide (0 ≤ x3_1) = true := decide_eq_true c3
          clear c3
          by_cases c4 : (((rd_T35 l0 x3_1).f4).length : Int) > 10
          · rw [if_pos c4] at H
            have c4b0 : decide (10 < (((rd_T35 l0 x3_1).f4).length : Int)) = true := decide_eq_true c4
            have c4b1 : decide (10 < ((rd_T35 l0 x3_1).f4).length) = true := decide_eq_true (by omega)
            clear c4
            obtain rfl := Option.some.inj H
            have p226 : 0 ≤ (x3_1 : Int) := of_decide_eq_true (by first | (with_reducible assumption) | assumption)
            have q226 : x3_1 < (l0.length : Int) := of_decide_eq_true (by first | (with_reducible assumption) | assumption)
            obtain ⟨ad226, A226_4, c226_4, e226, hx226_0, hx226_1, hx226_2, hx226_3, hx226_4, hl226_4, hi226_4⟩ := at_T35 HR0.out x3_1 p226 q226
            cases e226
            have HR226_4 := Aside0.mk hi226_4
            have HC226_4 := Aside0.mk hl226_4
            clear hi226_4 hl226_4
            replace p226 := eq_true p226
            replace q226 := eq_true q226
            go_wp2
            go_ret
            exact ⟨by first | rfl | (simp; done) | (simp [*]; done), by repeat (first | exact Drawn0.refl _ | apply Drawn0.step)⟩
          · rw [if_neg c4] at H
            have c4b0 : decide (10 < (((rd_T35 l0 x3_1).f4).length : Int)) = false := decide_eq_false c4
            have c4b1 : decide (10 < ((rd_T35 l0 x3_1).f4).length) = false := decide_eq_false (by omega)
            clear c4
            have H' := Aside0.mk H
            clear H
            have p226 : 0 ≤ (x3_1 : Int) := of_decide_eq_true (by first | (with_reducible assumption) | assumption)
            have q226 : x3_1 < (l0.length : Int) := of_decide_eq_true (by first | (with_reducible assumption) | assumption)
            obtain ⟨ad226, A226_4, c226_4, e226, hx226_0, hx226_1, hx226_2, hx226_3, hx226_4, hl226_4, hi226_4⟩ := at_T35 HR0.out x3_1 p226 q226
            cases e226
            have HR226_4 := Aside0.mk hi226_4
            have HC226_4 := Aside0.mk hl226_4
            clear hi226_4 hl226_4
            replace p226 := eq_true p226
            replace q226 := eq_true q226
            go_wp2
            go_roundg k1
            case measure => have := HK1.out; omega
            case rel => exact ⟨(wrap64 (x3_1 + 1)), (by first | rfl | (simp; done) | (simp [*]; done)), H', ⟨by have := HK1.out; omega⟩, by repeat (first | exact Drawn0.refl _ | apply Drawn0.step)⟩
        · rw [if_neg c3] at H
          exact absurd H (by simp)
      · rw [if_neg c2] at H
        have c2b0 : decide (x3_1 < (l0.length : Int)) = false := decide_eq_false c2
        clear c2
        obtain rfl := Option.some.inj H
        go_wp2
        go_ret
        exact ⟨by first | rfl | (simp; done) | (simp [*]; done), by repeat (first | exact Drawn0.refl _ | apply Drawn0.step)⟩

/-! ### pentaglotref54_In: function 16 -/
def pentaglotref54_In.l0 : Nat → List ByteArray → ByteArray → Int → Option (Bool)
  | 0, _, _, _ => none
  | k + 1, x0, x1, x5 => if x5 < (x0.length : Int) then (if 0 ≤ x5 then (if (rdOf ByteArray.empty x0 x5).toList = x1.toList then (some true) else (pentaglotref54_In.l0 k x0 x1 (wrap64 (x5 + 1)))) else (none)) else (some false)
def pentaglotref54_In.f (k : Nat) (l0 : List ByteArray) (a1 : ByteArray) : Option (Bool) := pentaglotref54_In.l0 k l0 a1 0
theorem pentaglotref54_In.mono_l : ∀ k, (∀ y0 y1 y2, LeO (pentaglotref54_In.l0 k y0 y1 y2) (pentaglotref54_In.l0 (k + 1) y0 y1 y2))
  | 0 => fun _ _ _ r h => by simp [pentaglotref54_In.l0] at h
  | k + 1 => by
    have ih0 := pentaglotref54_In.mono_l k
    · intro y0 y1 y2
      unfold pentaglotref54_In.l0
      repeat' first
      | (with_reducible exact ih0 _ _ _)
      | (with_reducible exact LeO.refl _)
      | (with_reducible exact LeO.none _)
      | (with_reducible refine LeO.ite ?_ ?_)
      | (with_reducible refine LeO.bind ?_ (fun _ => ?_))
      | exact ih0 _ _ _
      | exact LeO.none _
      | refine LeO.ite ?_ ?_
      | refine LeO.bind ?_ (fun _ => ?_)
theorem pentaglotref54_In.mono : ∀ a0 a1 k, LeO (pentaglotref54_In.f k a0 a1) (pentaglotref54_In.f (k + 1) a0 a1) := by
  intro a0 a1 k
  have ih0 := pentaglotref54_In.mono_l k
  unfold pentaglotref54_In.f
  repeat' first
      | (with_reducible exact ih0 _ _ _)
      | (with_reducible exact LeO.refl _)
      | (with_reducible exact LeO.none _)
      | (with_reducible refine LeO.ite ?_ ?_)
      | (with_reducible refine LeO.bind ?_ (fun _ => ?_))
      | exact ih0 _ _ _
      | exact LeO.none _
      | refine LeO.ite ?_ ?_
      | refine LeO.bind ?_ (fun _ => ?_)
set_option maxHeartbeats 8000000 in
set_option maxRecDepth 100000 in
theorem pentaglotref54_In.calls (k : Nat) (A0 : Option Addr) (c0 : Nat) (l0 : List ByteArray) (a1 : ByteArray) (r : Bool) (w : World) (hr0 : Kd.C Kd.string w A0 l0.length l0) (hc0 : l0.length ≤ c0) (h : pentaglotref54_In.f k l0 a1 = some r) :
    Calls Try.prog 16 #[.slice A0 l0.length c0, .string a1] w fun e w' => e = .returned (.bool r) ∧ Drawn0 w w' := by
  have HR0 := Aside0.mk hr0
  have HC0 := Aside0.mk hc0
  clear hr0 hc0
  have H : (pentaglotref54_In.l0 k l0 a1 0) = some r := h
  clear h
  have H' := Aside0.mk H
  clear H
  go_enter Try.func16, Try.ntmps16
  go_wp2
  go_loopg [5] k (fun kq v5 w' => ∃ (x5_1 : Int), v5 = .int .i64 x5_1 ∧ Aside0 (pentaglotref54_In.l0 kq l0 a1 x5_1 = some r) ∧ Aside0 (kq ≤ k) ∧ Drawn0 w w')
  case atStart => exact ⟨(0), (by first | rfl | (simp; done) | (simp [*]; done)), H', ⟨Nat.le_refl _⟩, by repeat (first | exact Drawn0.refl _ | apply Drawn0.step)⟩
  case round =>
    clear H'
    try clear c1
    try clear p2
    obtain ⟨x5_1, rfl, HA, HK1, ⟨m1, rfl⟩⟩ := hrel
    cases gk with
    | zero => exact absurd HA.out (by simp [pentaglotref54_In.l0])
    | succ k1 =>
      have H := HA.out
      clear HA
      simp only [pentaglotref54_In.l0] at H
      by_cases c3 : x5_1 < (l0.length : Int)
      · rw [if_pos c3] at H
        have c3b0 : decide (x5_1 < (l0.length : Int)) = true := decide_eq_true c3
        clear c3
        by_cases c4 : 0 ≤ x5_1
        · rw [if_pos c4] at H
          have c4b0 : decide (0 ≤ x5_1) = true := decide_eq_true c4
          clear c4
          by_cases c5 : (rdOf ByteArray.empty l0 x5_1).toList = a1.toList
          · rw [if_pos c5] at H
            have c5b0 : ((rdOf ByteArray.empty l0 x5_1).toList == a1.toList) = true := beq_iff_eq.mpr c5
            have c5b1 : ((rdOf ByteArray.empty l0 x5_1).toList != a1.toList) = false := bne_eq_false_iff_eq.mpr c5
            clear c5
            obtain rfl := Option.some.inj H
            have p227 : 0 ≤ (x5_1 : Int) := of_decide_eq_true (by first | (with_reducible assumption) | assumption)
            have q227 : x5_1 < (l0.length : Int) := of_decide_eq_true (by first | (with_reducible assumption) | assumption)
            obtain ⟨ad227, e227, hx227_0⟩ := Kd.at_string HR0.out x5_1 p227 q227
            cases e227
            replace p227 := eq_true p227
            replace q227 := eq_true q227
            go_wp2
            go_ret
            exact ⟨by first | rfl | (simp; done) | (simp [*]; done), by repeat (first | exact Drawn0.refl _ | apply Drawn0.step)⟩
          · rw [if_neg c5] at H
            have c5b0 : ((rdOf ByteArray.empty l0 x5_1).toList == a1.toList) = false := beq_eq_false_iff_ne.mpr c5
            have c5b1 : ((rdOf ByteArray.empty l0 x5_1).toList != a1.toList) = true := bne_iff_ne.mpr c5
            have H' := Aside0.mk H
            clear H
            have p227 : 0 ≤ (x5_1 : Int) := of_decide_eq_true (by first | (with_reducible assumption) | assumption)
            have q227 : x5_1 < (l0.length : Int) := of_decide_eq_true (by first | (with_reducible assumption) | assumption)
            obtain ⟨ad227, e227, hx227_0⟩ := Kd.at_string HR0.out x5_1 p227 q227
            cases e227
            replace p227 := eq_true p227
            replace q227 := eq_true q227
            go_wp2
            go_roundg k1
            case measure => have := HK1.out; omega
            case rel => exact ⟨(wrap64 (x5_1 + 1)), (by first | rfl | (simp; done) | (simp [*]; done)), H', ⟨by have := HK1.out; omega⟩, by repeat (first | exact Drawn0.refl _ | apply Drawn0.step)⟩
        · rw [if_neg c4] at H
          exact absurd H (by simp)
      · rw [if_neg c3] at H
        have c3b0 : decide (x5_1 < (l0.length : Int)) = false := decide_eq_false c3
        clear c3
        obtain rfl := Option.some.inj H
        go_wp2
        go_ret
        exact ⟨by first | rfl | (simp; done) | (simp [*]; done), by repeat (first | exact Drawn0.refl _ | apply Drawn0.step)⟩

/-! ### pentaglotref31_Size: function 63 -/
mutual
def pentaglotref31_Size.l0 : Nat → Int → Int → ByteArray → List Int → List (S68) → Option (Int)
  | 0, _, _, _, _, _ => none
  | k + 1, x3, x4, x229000, x229001, x229002 => if x4 < (x229002.length : Int) then (if 0 ≤ x4 then ((pentaglotref31_Size.f k ((rd_T68 x229002 x4).f0) ((rd_T68 x229002 x4).f1) ((rd_T68 x229002 x4).f2)).bind fun t230 => (pentaglotref31_Size.l0 k (wrap64 (x3 + t230)) (wrap64 (x4 + 1)) x229000 x229001 x229002)) else (none)) else (some x3)
def pentaglotref31_Size.f : Nat → ByteArray → List Int → List (S68) → Option (Int)
  | 0, _, _, _ => none
  | k + 1, a0_0, l0_1, l0_2 => pentaglotref31_Size.l0 k 1 0 a0_0 l0_1 l0_2
end
theorem pentaglotref31_Size.mono_l : ∀ k, (∀ y0 y1 y2, LeO (pentaglotref31_Size.f k y0 y1 y2) (pentaglotref31_Size.f (k + 1) y0 y1 y2)) ∧ (∀ y0 y1 y2 y3 y4, LeO (pentaglotref31_Size.l0 k y0 y1 y2 y3 y4) (pentaglotref31_Size.l0 (k + 1) y0 y1 y2 y3 y4))
  | 0 => ⟨fun _ _ _ r h => by simp [pentaglotref31_Size.f] at h, fun _ _ _ _ _ r h => by simp [pentaglotref31_Size.l0] at h⟩
  | k + 1 => by
    obtain ⟨ih0, ih1⟩ := pentaglotref31_Size.mono_l k
    refine ⟨?_, ?_⟩
    · intro y0 y1 y2
      unfold pentaglotref31_Size.f
      repeat' first
      | (with_reducible exact ih0 _ _ _)
      | (with_reducible exact ih1 _ _ _ _ _)
      | (with_reducible exact LeO.refl _)
      | (with_reducible exact LeO.none _)
      | (with_reducible refine LeO.ite ?_ ?_)
      | (with_reducible refine LeO.bind ?_ (fun _ => ?_))
      | exact ih0 _ _ _
      | exact ih1 _ _ _ _ _
      | exact LeO.none _
      | refine LeO.ite ?_ ?_
      | refine LeO.bind ?_ (fun _ => ?_)
    · intro y0 y1 y2 y3 y4
      unfold pentaglotref31_Size.l0
      repeat' first
      | (with_reducible exact ih0 _ _ _)
      | (with_reducible exact ih1 _ _ _ _ _)
      | (with_reducible exact LeO.refl _)
      | (with_reducible exact LeO.none _)
      | (with_reducible refine LeO.ite ?_ ?_)
      | (with_reducible refine LeO.bind ?_ (fun _ => ?_))
      | exact ih0 _ _ _
      | exact ih1 _ _ _ _ _
      | exact LeO.none _
      | refine LeO.ite ?_ ?_
      | refine LeO.bind ?_ (fun _ => ?_)
theorem pentaglotref31_Size.mono : ∀ a0 a1 a2 k, LeO (pentaglotref31_Size.f k a0 a1 a2) (pentaglotref31_Size.f (k + 1) a0 a1 a2) := by
  intro a0 a1 a2 k
  obtain ⟨ih0, ih1⟩ := pentaglotref31_Size.mono_l k
  exact ih0 a0 a1 a2
set_option maxHeartbeats 8000000 in
set_option maxRecDepth 100000 in
theorem pentaglotref31_Size.calls (k : Nat) : ∀ (a0_0 : ByteArray) (A0_1 : Option Addr) (c0_1 : Nat) (l0_1 : List Int) (A0_2 : Option Addr) (c0_2 : Nat) (l0_2 : List (S68)) (r : Int) (w : World) (hr0_1 : Kd.C (Kd.int .i64) w A0_1 l0_1.length l0_1) (hc0_1 : l0_1.length ≤ c0_1) (hr0_2 : Kd.C k68 w A0_2 l0_2.length l0_2) (hc0_2 : l0_2.length ≤ c0_2) (h : pentaglotref31_Size.f k a0_0 l0_1 l0_2 = some r),
    Calls Try.prog 63 #[.agg #[.string a0_0, .slice A0_1 l0_1.length c0_1, .slice A0_2 l0_2.length c0_2]] w fun e w' => e = .returned (.int .i64 r) ∧ Below w.heap.size w w' := by
  induction k using Nat.strongRecOn with
  | _ k ih =>
  intro a0_0 A0_1 c0_1 l0_1 A0_2 c0_2 l0_2 r w hr0_1 hc0_1 hr0_2 hc0_2 h
  cases k with
  | zero => exact absurd h (by simp [pentaglotref31_Size.f])
  | succ k =>
  simp only [pentaglotref31_Size.f] at h
  have hu68 := Try.underlying68
  have HR0_1 := Aside0.mk hr0_1
  have HC0_1 := Aside0.mk hc0_1
  clear hr0_1 hc0_1
  have HR0_2 := Aside0.mk hr0_2
  have HC0_2 := Aside0.mk hc0_2
  clear hr0_2 hc0_2
  have HB := Aside0.mk (Below.refl w.heap.size w)
  have H : (pentaglotref31_Size.l0 k 1 0 a0_0 l0_1 l0_2) = some r := h
  clear h
  have H' := Aside0.mk H
  clear H
  go_enter Try.func63, Try.ntmps63
  go_wp2_with (first | ((with_reducible refine gate_dst (N := 1) rfl ?_); refine box_event ?hg (N := 1) ?hd (cs := #[.string a0_0, .slice A0_1 l0_1.length c0_1, .slice A0_2 l0_2.length c0_2]) (t := 68) ?hr ?_; (case hd => rfl); (case hg => rfl); (case hr => first | (go_simp; done) | (go_simp; rfl)); intro gb228 hg w2 hbox hb; have n0_ := Aside0.mk (below_step (by repeat (first | (with_reducible first | exact HB.out | apply below_alloc | apply pw_below_drewN | apply below_drew1) | exact HB.out)) hb); have n1_ := Aside0.mk (hbox); have n2_ := Aside0.mk ((by rw [hg]; exact (below_size (by repeat (first | (with_reducible first | exact HB.out | apply below_alloc | apply pw_below_drewN | apply below_drew1) | exact HB.out))) : w.heap.size ≤ gb228)); have n3_ := Aside0.mk ((by rw [hg]; exact (below_size (by repeat (first | (with_reducible first | exact HB.out | apply below_alloc | apply pw_below_drewN | apply below_drew1) | exact HB.out))) : w.heap.size ≤ gb228)); clear HB; have HB := n0_; have BK228 := n1_; have GW228 := n2_; have GE228 := n3_; clear n0_ n1_ n2_ n3_; clear hb hbox hg))
  go_loopg [3, 4] k (fun kq v3 v4 w' => ∃ (x3_1 : Int) (x4_1 : Int), v3 = .int .i64 x3_1 ∧ v4 = .int .i64 x4_1 ∧ Aside0 (pentaglotref31_Size.l0 kq x3_1 x4_1 a0_0 l0_1 l0_2 = some r) ∧ Aside0 (kq ≤ k) ∧ Aside0 (w'.heap[gb228]? = some (.cells #[.string a0_0, (.slice A0_1 l0_1.length c0_1), (.slice A0_2 l0_2.length c0_2)] 68 (0, 0))) ∧ Aside0 (Below w.heap.size w w'))
  case atStart => exact ⟨(1), (0), (by first | rfl | (simp; done) | (simp [*]; done)), (by first | rfl | (simp; done) | (simp [*]; done)), H', ⟨Nat.le_refl _⟩, ⟨by (with_reducible repeat (first | refine blk_drewN ?_ _ | refine blk_drew ?_ | refine blk_alloc ?_ _)); exact BK228.out⟩, ⟨by repeat (first | (with_reducible first | exact HB.out | apply below_alloc | apply pw_below_drewN | apply below_drew1 | refine below_set ?_ GE228.out) | exact HB.out)⟩⟩
  case round =>
    clear H'
    try clear p2
    obtain ⟨x3_1, x4_1, rfl, rfl, HA, HK1, BK228, HB⟩ := hrel
    cases gk with
    | zero => exact absurd HA.out (by simp [pentaglotref31_Size.l0])
    | succ k1 =>
      have H := HA.out
      clear HA
      simp only [pentaglotref31_Size.l0] at H
      by_cases c3 : x4_1 < (l0_2.length : Int)
      · rw [if_pos c3] at H
        have c3b0 : decide (x4_1 < (l0_2.length : Int)) = true := decide_eq_true c3
        clear c3
        by_cases c4 : 0 ≤ x4_1
        · rw [if_pos c4] at H
          have c4b0 : decide (0 ≤ x4_1) = true := decide_eq_true c4
          clear c4
          replace H := Option.bind_eq_some_iff.mp H
          obtain ⟨t230, A50, H⟩ := H
          replace H : (pentaglotref31_Size.l0 k1 (wrap64 (x3_1 + t230)) (wrap64 (x4_1 + 1)) a0_0 l0_1 l0_2) = some r := H
          have A5 := Aside0.mk A50
          clear A50
          have H' := Aside0.mk H
          clear H
          have hcz6_0 : wr.cell? ⟨gb228, 0, none⟩ = some (.string a0_0) := (blk_cell BK228.out 0).trans rfl
          have hcz6_1 : wr.cell? ⟨gb228, 1, none⟩ = some (.slice A0_1 l0_1.length c0_1) := (blk_cell BK228.out 1).trans rfl
          have hcz6_2 : wr.cell? ⟨gb228, 2, none⟩ = some (.slice A0_2 l0_2.length c0_2) := (blk_cell BK228.out 2).trans rfl
          have hfz6_0 := blk_frozen BK228.out 0
          have hfz6_1 := blk_frozen BK228.out 1
          have hfz6_2 := blk_frozen BK228.out 2
          have p229 : 0 ≤ (x4_1 : Int) := of_decide_eq_true (by first | (with_reducible assumption) | assumption)
          have q229 : x4_1 < (l0_2.length : Int) := of_decide_eq_true (by first | (with_reducible assumption) | assumption)
          obtain ⟨ad229, A229_1, c229_1, A229_2, c229_2, e229, hx229_0, hx229_1, hx229_2, hl229_1, hi229_1, hl229_2, hi229_2⟩ := at_T68 HR0_2.out x4_1 p229 q229
          cases e229
          replace hx229_0 := (HB.out.cell (World.block_lt_of_cell? w _ hx229_0)).trans hx229_0
          replace hx229_1 := (HB.out.cell (World.block_lt_of_cell? w _ hx229_1)).trans hx229_1
          replace hx229_2 := (HB.out.cell (World.block_lt_of_cell? w _ hx229_2)).trans hx229_2
          have HR229_1 := Aside0.mk hi229_1
          have HC229_1 := Aside0.mk hl229_1
          clear hi229_1 hl229_1
          have HR229_2 := Aside0.mk hi229_2
          have HC229_2 := Aside0.mk hl229_2
          clear hi229_2 hl229_2
          replace p229 := eq_true p229
          replace q229 := eq_true q229
          go_wp2_with (first | ((with_reducible refine gate_callee (f := 63) rfl ?_); refine goesL_ (some 18) rfl rfl Try.func63 (by kernel_rfl) rfl #[.agg #[.string ((rd_T68 l0_2 x4_1).f0), .slice A229_1 ((rd_T68 l0_2 x4_1).f1).length c229_1, .slice A229_2 ((rd_T68 l0_2 x4_1).f2).length c229_2]] rfl (by (try simp only [List.map_toArray, List.map_cons, List.map_nil]); first | done | rfl | (simp only [List.length_drop, List.length_take]; rfl)) ?_; (with_reducible refine (ih k1 (by have := HK1.out; omega) ((rd_T68 l0_2 x4_1).f0) _ _ ((rd_T68 l0_2 x4_1).f1) _ _ ((rd_T68 l0_2 x4_1).f2) t230 _ ?side1 ?side2 ?side3 ?side4 A5.out).mono ?_); (case side1 => repeat (first | exact (Kd.C_below HR229_1.out HB.out) | (with_reducible refine Kd.C_alloc ?_ _) | (with_reducible refine Kd.C_drewN ?_ _) | (with_reducible refine Kd.C_drew ?_))); (case side2 => exact HC229_1.out); (case side3 => repeat (first | exact (Kd.C_below HR229_2.out HB.out) | (with_reducible refine Kd.C_alloc ?_ _) | (with_reducible refine Kd.C_drewN ?_ _) | (with_reducible refine Kd.C_drew ?_))); (case side4 => exact HC229_2.out); rintro e w7 ⟨rfl, hb⟩; refine ⟨_, rfl, ?_⟩; have n0_ := Aside0.mk (blk_below (g := gb228) (o := .cells #[.string a0_0, .slice A0_1 l0_1.length c0_1, .slice (some ad229) l0_2.length c0_2] 68 (0, 0)) (by (with_reducible repeat (first | refine blk_drewN ?_ _ | refine blk_drew ?_ | refine blk_alloc ?_ _)); exact BK228.out) hb); have n1_ := Aside0.mk (below_step (by repeat (first | (with_reducible first | exact HB.out | apply below_alloc | apply pw_below_drewN | apply below_drew1 | refine below_set ?_ GE228.out) | exact HB.out)) hb); clear BK228; clear HB; have BK228 := n0_; have HB := n1_; clear n0_ n1_; (try clear hb); (try clear hb2); (try clear hk); (try clear hi)))
          go_roundg k1
          case measure => have := HK1.out; omega
          case rel => exact ⟨(wrap64 (x3_1 + t230)), (wrap64 (x4_1 + 1)), (by first | rfl | (simp; done) | (simp [*]; done)), (by first | rfl | (simp; done) | (simp [*]; done)), H', ⟨by have := HK1.out; omega⟩, ⟨by (with_reducible repeat (first | refine blk_drewN ?_ _ | refine blk_drew ?_ | refine blk_alloc ?_ _)); exact BK228.out⟩, ⟨by repeat (first | (with_reducible first | exact HB.out | apply below_alloc | apply pw_below_drewN | apply below_drew1 | refine below_set ?_ GE228.out) | exact HB.out)⟩⟩
        · rw [if_neg c4] at H
          exact absurd H (by simp)
      · rw [if_neg c3] at H
        have c3b0 : decide (x4_1 < (l0_2.length : Int)) = false := decide_eq_false c3
        clear c3
        obtain rfl := Option.some.inj H
        have hcz8_0 : wr.cell? ⟨gb228, 0, none⟩ = some (.string a0_0) := (blk_cell BK228.out 0).trans rfl
        have hcz8_1 : wr.cell? ⟨gb228, 1, none⟩ = some (.slice A0_1 l0_1.length c0_1) := (blk_cell BK228.out 1).trans rfl
        have hcz8_2 : wr.cell? ⟨gb228, 2, none⟩ = some (.slice A0_2 l0_2.length c0_2) := (blk_cell BK228.out 2).trans rfl
        have hfz8_0 := blk_frozen BK228.out 0
        have hfz8_1 := blk_frozen BK228.out 1
        have hfz8_2 := blk_frozen BK228.out 2
        go_wp2
        go_ret
        exact ⟨by first | rfl | (simp [errW_none, errW_some] <;> rfl) | (simp [*, errW_none, errW_some] <;> rfl), by repeat (first | (with_reducible first | exact HB.out | apply below_alloc | apply pw_below_drewN | apply below_drew1 | refine below_set ?_ GE228.out) | exact HB.out)⟩

/-! ### pentaglotref31_Index: function 65 -/
def pentaglotref31_Index.l0 : Nat → List (S105) → ByteArray → Int → Option (Int)
  | 0, _, _, _ => none
  | k + 1, x0, x1, x5 => if x5 < (x0.length : Int) then (if 0 ≤ x5 then (if ((rd_T105 x0 x5).f0).toList = x1.toList then (some x5) else (pentaglotref31_Index.l0 k x0 x1 (wrap64 (x5 + 1)))) else (none)) else (some (x0.length : Int))
def pentaglotref31_Index.f (k : Nat) (l0 : List (S105)) (a1 : ByteArray) : Option (Int) := pentaglotref31_Index.l0 k l0 a1 0
theorem pentaglotref31_Index.mono_l : ∀ k, (∀ y0 y1 y2, LeO (pentaglotref31_Index.l0 k y0 y1 y2) (pentaglotref31_Index.l0 (k + 1) y0 y1 y2))
  | 0 => fun _ _ _ r h => by simp [pentaglotref31_Index.l0] at h
  | k + 1 => by
    have ih0 := pentaglotref31_Index.mono_l k
    · intro y0 y1 y2
      unfold pentaglotref31_Index.l0
      repeat' first
      | (with_reducible exact ih0 _ _ _)
      | (with_reducible exact LeO.refl _)
      | (with_reducible exact LeO.none _)
      | (with_reducible refine LeO.ite ?_ ?_)
      | (with_reducible refine LeO.bind ?_ (fun _ => ?_))
      | exact ih0 _ _ _
      | exact LeO.none _
      | refine LeO.ite ?_ ?_
      | refine LeO.bind ?_ (fun _ => ?_)
theorem pentaglotref31_Index.mono : ∀ a0 a1 k, LeO (pentaglotref31_Index.f k a0 a1) (pentaglotref31_Index.f (k + 1) a0 a1) := by
  intro a0 a1 k
  have ih0 := pentaglotref31_Index.mono_l k
  unfold pentaglotref31_Index.f
  repeat' first
      | (with_reducible exact ih0 _ _ _)
      | (with_reducible exact LeO.refl _)
      | (with_reducible exact LeO.none _)
      | (with_reducible refine LeO.ite ?_ ?_)
      | (with_reducible refine LeO.bind ?_ (fun _ => ?_))
      | exact ih0 _ _ _
      | exact LeO.none _
      | refine LeO.ite ?_ ?_
      | refine LeO.bind ?_ (fun _ => ?_)
set_option maxHeartbeats 8000000 in
set_option maxRecDepth 100000 in
theorem pentaglotref31_Index.calls (k : Nat) (A0 : Option Addr) (c0 : Nat) (l0 : List (S105)) (a1 : ByteArray) (r : Int) (w : World) (hr0 : Kd.C k105 w A0 l0.length l0) (hc0 : l0.length ≤ c0) (h : pentaglotref31_Index.f k l0 a1 = some r) :
    Calls Try.prog 65 #[.slice A0 l0.length c0, .string a1] w fun e w' => e = .returned (.int .i64 r) ∧ Drawn0 w w' := by
  have HR0 := Aside0.mk hr0
  have HC0 := Aside0.mk hc0
  clear hr0 hc0
  have H : (pentaglotref31_Index.l0 k l0 a1 0) = some r := h
  clear h
  have H' := Aside0.mk H
  clear H
  go_enter Try.func65, Try.ntmps65
  go_wp2
  go_loopg [5] k (fun kq v5 w' => ∃ (x5_1 : Int), v5 = .int .i64 x5_1 ∧ Aside0 (pentaglotref31_Index.l0 kq l0 a1 x5_1 = some r) ∧ Aside0 (kq ≤ k) ∧ Drawn0 w w')
  case atStart => exact ⟨(0), (by first | rfl | (simp; done) | (simp [*]; done)), H', ⟨Nat.le_refl _⟩, by repeat (first | exact Drawn0.refl _ | apply Drawn0.step)⟩
  case round =>
    clear H'
    try clear p2
    obtain ⟨x5_1, rfl, HA, HK1, ⟨m1, rfl⟩⟩ := hrel
    cases gk with
    | zero => exact absurd HA.out (by simp [pentaglotref31_Index.l0])
    | succ k1 =>
      have H := HA.out
      clear HA
      simp only [pentaglotref31_Index.l0] at H
      by_cases c3 : x5_1 < (l0.length : Int)
      · rw [if_pos c3] at H
        have c3b0 : decide (x5_1 < (l0.length : Int)) = true := decide_eq_true c3
        clear c3
        by_cases c4 : 0 ≤ x5_1
        · rw [if_pos c4] at H
          have c4b0 : decide (0 ≤ x5_1) = true := decide_eq_true c4
          clear c4
          by_cases c5 : ((rd_T105 l0 x5_1).f0).toList = a1.toList
          · rw [if_pos c5] at H
            have c5b0 : (((rd_T105 l0 x5_1).f0).toList == a1.toList) = true := beq_iff_eq.mpr c5
            have c5b1 : (((rd_T105 l0 x5_1).f0).toList != a1.toList) = false := bne_eq_false_iff_eq.mpr c5
            clear c5
            obtain rfl := Option.some.inj H
            have p231 : 0 ≤ (x5_1 : Int) := of_decide_eq_true (by first | (with_reducible assumption) | assumption)
            have q231 : x5_1 < (l0.length : Int) := of_decide_eq_true (by first | (with_reducible assumption) | assumption)
            obtain ⟨ad231, A231_1, c231_1, e231, hx231_0, hx231_1, hx231_2, hx231_3, hl231_1, hi231_1⟩ := at_T105 HR0.out x5_1 p231 q231
            cases e231
            have HR231_1 := Aside0.mk hi231_1
            have HC231_1 := Aside0.mk hl231_1
            clear hi231_1 hl231_1
            replace p231 := eq_true p231
            replace q231 := eq_true q231
            go_wp2
            go_ret
            exact ⟨by first | rfl | (simp; done) | (simp [*]; done), by repeat (first | exact Drawn0.refl _ | apply Drawn0.step)⟩
          · rw [if_neg c5] at H
            have c5b0 : (((rd_T105 l0 x5_1).f0).toList == a1.toList) = false := beq_eq_false_iff_ne.mpr c5
            have c5b1 : (((rd_T105 l0 x5_1).f0).toList != a1.toList) = true := bne_iff_ne.mpr c5
            have H' := Aside0.mk H
            clear H
            have p231 : 0 ≤ (x5_1 : Int) := of_decide_eq_true (by first | (with_reducible assumption) | assumption)
            have q231 : x5_1 < (l0.length : Int) := of_decide_eq_true (by first | (with_reducible assumption) | assumption)
            obtain ⟨ad231, A231_1, c231_1, e231, hx231_0, hx231_1, hx231_2, hx231_3, hl231_1, hi231_1⟩ := at_T105 HR0.out x5_1 p231 q231
            cases e231
            have HR231_1 := Aside0.mk hi231_1
            have HC231_1 := Aside0.mk hl231_1
            clear hi231_1 hl231_1
            replace p231 := eq_true p231
            replace q231 := eq_true q231
            go_wp2
            go_roundg k1
            case measure => have := HK1.out; omega
            case rel => exact ⟨(wrap64 (x5_1 + 1)), (by first | rfl | (simp; done) | (simp [*]; done)), H', ⟨by have := HK1.out; omega⟩, by repeat (first | exact Drawn0.refl _ | apply Drawn0.step)⟩
        · rw [if_neg c4] at H
          exact absurd H (by simp)
      · rw [if_neg c3] at H
        have c3b0 : decide (x5_1 < (l0.length : Int)) = false := decide_eq_false c3
        clear c3
        obtain rfl := Option.some.inj H
        go_wp2
        go_ret
        exact ⟨by first | rfl | (simp; done) | (simp [*]; done), by repeat (first | exact Drawn0.refl _ | apply Drawn0.step)⟩

/-! ### pentaglotref31_Value: function 66 -/
def pentaglotref31_Value.f (a0 : Int) : Option (Bool) := if a0 ≥ 0 then (some (decide (a0 ≤ 1439999999))) else (some false)
set_option maxHeartbeats 8000000 in
set_option maxRecDepth 100000 in
theorem pentaglotref31_Value.calls (a0 : Int) (r : Bool) (w : World) (h : pentaglotref31_Value.f a0 = some r) :
    Calls Try.prog 66 #[.int .i64 a0] w fun e w' => e = .returned (.bool r) ∧ Drawn0 w w' := by
  have H : (if a0 ≥ 0 then (some (decide (a0 ≤ 1439999999))) else (some false)) = some r := h
  clear h
  by_cases c2 : a0 ≥ 0
  · rw [if_pos c2] at H
    have c2b0 : decide (0 ≤ a0) = true := decide_eq_true c2
    clear c2
    obtain rfl := Option.some.inj H
    go_enter Try.func66, Try.ntmps66
    go_wp2
    go_ret
    exact ⟨by first | rfl | (simp; done) | (simp [*]; done), by repeat (first | exact Drawn0.refl _ | apply Drawn0.step)⟩
  · rw [if_neg c2] at H
    have c2b0 : decide (0 ≤ a0) = false := decide_eq_false c2
    clear c2
    obtain rfl := Option.some.inj H
    go_enter Try.func66, Try.ntmps66
    go_wp2
    go_ret
    exact ⟨by first | rfl | (simp; done) | (simp [*]; done), by repeat (first | exact Drawn0.refl _ | apply Drawn0.step)⟩

end Go.Proofs.Ytkblcdpmdbofgaa.A
