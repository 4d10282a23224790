/- The reference's In, name and Editors. -/
import Derived.Test.YtkblcdpmdbofgaaB25
import Derived.Test.YtkblcdpmdbofgaaA3
import Derived.Laws.Strings
namespace Go.Proofs.Ytkblcdpmdbofgaa.A
open Go.RowKit Go.Proofs.YtkblcdpmdbofgaaW.PrintWords Go.Proofs.YtkblcdpmdbofgaaW.PrintLast Go.Proofs.YtkblcdpmdbofgaaW.PrintMore
set_option linter.unusedVariables false
set_option linter.unusedSimpArgs false

theorem in_ev (x : ByteArray) : ∀ (post pre : List ByteArray), pre.length + post.length ≤ 2000000 →
    Ev (fun k => pentaglotref54_In.l0 k (pre ++ post) x (pre.length : Int)) (memS post x)
  | [], pre, hl => by
    refine Ev.step (f := fun _ => some false) (fun k => ?_) (by simpa [memS] using Ev.now _)
    rw [pentaglotref54_In.l0, if_neg (by simp)]
  | y :: r, pre, hl => by
    simp only [List.length_cons] at hl
    by_cases h : x.toList = y.toList
    · refine Ev.step (f := fun _ => some true) (fun k => ?_) (by simpa [memS, h] using Ev.now _)
      rw [pentaglotref54_In.l0, if_pos (by simp; omega), if_pos (by omega), rdOf_cons, if_pos h.symm]
    · have hq := in_ev x r (pre ++ [y]) (by simp; omega)
      have e1 : pre ++ [y] ++ r = pre ++ y :: r := by simp
      have e2 : ((pre ++ [y]).length : Int) = (pre.length : Int) + 1 := by simp
      rw [e1, e2] at hq
      have e3 : memS (y :: r) x = memS r x := by simp [memS, h]
      rw [e3]
      refine Ev.step (fun k => ?_) hq
      rw [pentaglotref54_In.l0, if_pos (by simp; omega), if_pos (by omega), rdOf_cons, if_neg (fun e => h e.symm), wrap_small (by omega) (by omega)]
theorem in_calls (A : Option Addr) (c : Nat) (l : List ByteArray) (x : ByteArray) (w : World) (hl : l.length ≤ 2000000) (hr : Kd.C Kd.string w A l.length l) (hc : l.length ≤ c) :
    Calls Try.prog 16 #[.slice A l.length c, .string x] w fun e w' => e = .returned (.bool (memS l x)) ∧ Drawn0 w w' := by
  obtain ⟨k, hk⟩ := (in_ev x l [] (by simpa using hl)).rounds
  exact pentaglotref54_In.calls k A c l x (memS l x) w hr hc hk

theorem bytes_some (x : ByteArray) : (x.toList != ([] : List UInt8)) = decide (0 < x.size) := by
  rw [ByteArray.toList_eq]
  obtain ⟨d⟩ := x
  obtain ⟨l⟩ := d
  cases l with
  | nil => rfl
  | cons a r => simp [ByteArray.size]

theorem lettersFrom_at (x : ByteArray) (n : Nat) (i : Int) (hn : 0 < n) : lettersFrom x n i = if bt x i < 97 then false else if bt x i > 122 then false else lettersFrom x (n - 1) (i + 1) := by
  cases n with
  | zero => omega
  | succ m => rfl

set_option maxHeartbeats 1000000 in
set_option maxRecDepth 100000 in
theorem name_calls (x : ByteArray) (w : World) (hx : x.size ≤ 2000000) : Calls Try.prog 36 #[.string x] w fun e w' => e = .returned (.bool (lettersS x)) ∧ Drawn0 w w' := by
  have HS : Aside0 (lettersS x = (lettersFrom x x.size 0 && decide (0 < x.size))) := ⟨by unfold lettersS; rw [bytes_some]⟩
  go_enter Try.func36, Try.ntmps36
  go_wp2
  go_loopw [3] (fun i w' => ∃ q : Int, i = .int .i64 q ∧ 0 ≤ q ∧ q ≤ x.size ∧ Aside0 (lettersS x = (lettersFrom x (x.size - q.toNat) q && decide (0 < x.size))) ∧ Drawn0 w w') (fun i _ => x.size - (intOf i).toNat)
  case atStart => exact ⟨0, rfl, Int.le_refl _, Int.natCast_nonneg _, HS, Drawn0.refl _⟩
  case round =>
    clear HS
    obtain ⟨q, rfl, h0, h1, HS, ⟨m, rfl⟩⟩ := hrel
    by_cases hlt : q < x.size
    · have hb := bt_at x q
      have p1 := eq_true h0
      have q1 := eq_true hlt
      have HE := Aside0.mk (HS.out.trans (by rw [lettersFrom_at x _ q (by omega)]))
      clear HS
      by_cases c1 : bt x q < 97
      · replace HE : Aside0 (lettersS x = false) := ⟨HE.out.trans (by rw [if_pos c1]; rfl)⟩
        have f1 : decide (bt x q < 97) = true := decide_eq_true c1
        clear c1
        go_wp2
        go_ret
        exact ⟨by rw [HE.out]; rfl, ⟨_, rfl⟩⟩
      · by_cases c2 : bt x q > 122
        · replace HE : Aside0 (lettersS x = false) := ⟨HE.out.trans (by rw [if_neg c1, if_pos c2]; rfl)⟩
          have f1 : decide (bt x q < 97) = false := decide_eq_false c1
          have f2 : decide (122 < bt x q) = true := decide_eq_true c2
          clear c1 c2
          go_wp2
          go_ret
          exact ⟨by rw [HE.out]; rfl, ⟨_, rfl⟩⟩
        · replace HE : Aside0 (lettersS x = (lettersFrom x (x.size - (q + 1).toNat) (q + 1) && decide (0 < x.size))) := ⟨HE.out.trans (by rw [if_neg c1, if_neg c2, show x.size - q.toNat - 1 = x.size - (q + 1).toNat by omega])⟩
          have f1 : decide (bt x q < 97) = false := decide_eq_false c1
          have f2 : decide (122 < bt x q) = false := decide_eq_false c2
          clear c1 c2
          go_wp2
          go_roundw
          case rel => exact ⟨q + 1, rfl, by omega, by omega, HE, ⟨_, rfl⟩⟩
          case measure => simp [intOf]; omega
    · have e0 : x.size - q.toNat = 0 := by omega
      replace HS : Aside0 (lettersS x = decide (0 < x.size)) := ⟨by rw [HS.out, e0]; simp [lettersFrom]⟩
      clear e0
      go_wp2
      go_ret
      exact ⟨by rw [HS.out]; rfl, ⟨_, rfl⟩⟩

set_option maxHeartbeats 1000000 in
set_option maxRecDepth 100000 in
theorem editors_calls (A : Option Addr) (c : Nat) (l : List ByteArray) (needed : Int) (w : World) (hr : Kd.string.C w A l.length l) (hcp : l.length ≤ c) (hl : l.length ≤ 2000000) (hsz : ∀ x ∈ l, x.size ≤ 2000000) :
    Calls Try.prog 12 #[.slice A l.length c, .int .i64 needed] w fun e w' => e = .returned (.bool (canNew l needed)) ∧ Drawn0 w w' := by
  have no : Aside0 (edsOk [] l = false → canNew l needed = false) := ⟨fun he => by unfold canNew; rw [he]; simp⟩
  have yes : Aside0 (edsOk [] l = true → canNew l needed = (decide (1 ≤ l.length) && decide (l.length ≤ 16) && decide (0 ≤ needed) && decide (needed < (l.length : Int)))) := ⟨fun he => by unfold canNew; rw [he]; simp⟩
  have HR := Aside0.mk hr
  have HC := Aside0.mk hcp
  have HS := Aside0.mk hsz
  clear hr hcp hsz
  go_enter Try.func12, Try.ntmps12
  go_wp2
  go_loopw [5] (fun i w' => ∃ x : Int, i = .int .i64 x ∧ 0 ≤ x ∧ x ≤ l.length ∧ Aside0 (edsOk [] l = edsOk (l.take x.toNat) (l.drop x.toNat)) ∧ Drawn0 w w') (fun i _ => l.length - (intOf i).toNat)
  case atStart => exact ⟨0, rfl, Int.le_refl _, Int.natCast_nonneg _, ⟨rfl⟩, Drawn0.refl _⟩
  case round =>
    obtain ⟨x, rfl, hx, hk, HV, ⟨m, rfl⟩⟩ := hrel
    by_cases hlt : x < l.length
    · obtain ⟨ad, e, hx0⟩ := Kd.at_string HR.out x hx hlt
      cases e
      have p1 := eq_true hx
      have q1 := eq_true hlt
      have q2 := eq_true hk
      have L1 := Aside0.mk (fun (W : World) => name_calls (rdOf ByteArray.empty l x) W (HS.out _ (rdOf_mem l x hx hlt)))
      obtain ⟨i0, hi0, _, hsz, _⟩ := info_parts info9
      obtain ⟨hcut, hA, hC⟩ := print_take_of (P := Try.prog) Value.string (⟨#[]⟩ : ByteArray) 22 9 .i64 Try.underlying22 hi0 hsz (some ad) c l x hx hk HC.out
      have HR2 := Aside0.mk (Kd.C_of_reads (h1 := fun _ => rfl) (hA _ (Kd.reads_of_C HR.out)))
      have hlen : (l.take x.toNat).length = x.toNat := by rw [List.length_take]; omega
      have C2 := Aside0.mk (fun (W : World) (hW : Below w.heap.size w W) => in_calls (some ad) c (l.take x.toNat) (rdOf ByteArray.empty l x) W (by rw [List.length_take]; omega) (Kd.C_below HR2.out hW) hC)
      simp only [hlen] at C2 hcut
      clear hlen
      have HE := HV.out.trans (edsOk_at l x hx hlt)
      clear hA hC hi0 hsz HV
      cases hl' : lettersS (rdOf ByteArray.empty l x) with
      | false =>
        rw [hl'] at HE L1
        replace HE := Aside0.mk (no.out (HE.trans (by simp)))
        clear hcut
        go_wp2_with (fail)
        go_quiet (first | (go_at_call 36; refine (L1.out _).mono ?_; rintro e w' ⟨rfl, ⟨nd, rfl⟩⟩; (try first | exact ⟨rfl, _, World.drewN_drewN _ _ _⟩ | exact ⟨rfl, _, Eq.trans (World.drewN_drewN _ _ _) (congrArg (World.drewN _) (Nat.add_assoc _ _ _))⟩)))
        go_wp2
        go_ret
        exact ⟨by rw [HE.out]; rfl, ⟨_, World.drewN_drewN _ _ _⟩⟩
      | true =>
        rw [hl'] at HE L1
        cases hm : memS (l.take x.toNat) (rdOf ByteArray.empty l x) with
        | true =>
          rw [hm] at HE C2
          replace HE := Aside0.mk (no.out (HE.trans (by simp)))
          go_wp2_with (fail)
          go_quiet (first | (go_at_call 36; refine (L1.out _).mono ?_; rintro e w' ⟨rfl, ⟨nd, rfl⟩⟩; (try first | exact ⟨rfl, _, World.drewN_drewN _ _ _⟩ | exact ⟨rfl, _, Eq.trans (World.drewN_drewN _ _ _) (congrArg (World.drewN _) (Nat.add_assoc _ _ _))⟩)) | (go_at_call 16; refine (C2.out _ (pw_below_drewN (Below.refl _ _) _)).mono ?_; rintro e w' ⟨rfl, ⟨nd2, rfl⟩⟩; (try first | exact ⟨rfl, _, World.drewN_drewN _ _ _⟩ | exact ⟨rfl, _, Eq.trans (World.drewN_drewN _ _ _) (congrArg (World.drewN _) (Nat.add_assoc _ _ _))⟩)))
          go_wp2
          go_ret
          exact ⟨by rw [HE.out]; rfl, ⟨_, World.drewN_drewN _ _ _⟩⟩
        | false =>
          rw [hm] at HE C2
          replace HE := Aside0.mk (HE.trans (show (true && !false && edsOk (l.take (x + 1).toNat) (l.drop (x + 1).toNat)) = edsOk (l.take (x + 1).toNat) (l.drop (x + 1).toNat) by simp))
          go_wp2_with (fail)
          go_quiet (first | (go_at_call 36; refine (L1.out _).mono ?_; rintro e w' ⟨rfl, ⟨nd, rfl⟩⟩; (try first | exact ⟨rfl, _, World.drewN_drewN _ _ _⟩ | exact ⟨rfl, _, Eq.trans (World.drewN_drewN _ _ _) (congrArg (World.drewN _) (Nat.add_assoc _ _ _))⟩)) | (go_at_call 16; refine (C2.out _ (pw_below_drewN (Below.refl _ _) _)).mono ?_; rintro e w' ⟨rfl, ⟨nd2, rfl⟩⟩; (try first | exact ⟨rfl, _, World.drewN_drewN _ _ _⟩ | exact ⟨rfl, _, Eq.trans (World.drewN_drewN _ _ _) (congrArg (World.drewN _) (Nat.add_assoc _ _ _))⟩)))
          go_wp2
          go_roundw
          case rel => exact ⟨x + 1, rfl, by omega, by omega, HE, ⟨_, rfl⟩⟩
          case measure => simp [intOf]; omega
    · have HE := Aside0.mk (yes.out (HV.out.trans (by rw [List.drop_eq_nil_of_le (by omega)]; rfl)))
      by_cases h1 : 1 ≤ l.length
      · have f1 : decide (1 ≤ (l.length : Int)) = true := decide_eq_true (by omega)
        by_cases h2 : l.length ≤ 16
        · have f2 : decide ((l.length : Int) ≤ 16) = true := decide_eq_true (by omega)
          by_cases h3 : 0 ≤ needed
          · have f3 : decide (0 ≤ needed) = true := decide_eq_true h3
            replace HE : Aside0 (canNew l needed = decide (needed < (l.length : Int))) := ⟨by rw [HE.out, decide_eq_true h1, decide_eq_true h2, f3]; simp⟩
            clear h1 h2 h3
            go_wp2
            go_ret
            exact ⟨by rw [HE.out]; rfl, ⟨_, rfl⟩⟩
          · have f3 : decide (0 ≤ needed) = false := decide_eq_false h3
            replace HE : Aside0 (canNew l needed = false) := ⟨by rw [HE.out, f3]; simp⟩
            clear h1 h2 h3
            go_wp2
            go_ret
            exact ⟨by rw [HE.out]; rfl, ⟨_, rfl⟩⟩
        · have f2 : decide ((l.length : Int) ≤ 16) = false := decide_eq_false (by omega)
          replace HE : Aside0 (canNew l needed = false) := ⟨by rw [HE.out, decide_eq_false h2]; simp⟩
          clear h1 h2
          go_wp2
          go_ret
          exact ⟨by rw [HE.out]; rfl, ⟨_, rfl⟩⟩
      · have f1 : decide (1 ≤ (l.length : Int)) = false := decide_eq_false (by omega)
        replace HE : Aside0 (canNew l needed = false) := ⟨by rw [HE.out, decide_eq_false h1]; simp⟩
        clear h1
        go_wp2
        go_ret
        exact ⟨by rw [HE.out]; rfl, ⟨_, rfl⟩⟩
end Go.Proofs.Ytkblcdpmdbofgaa.A
