/- session.New. -/
import Derived.Test.YtkblcdpmdbofgaaB17
namespace Go.Proofs.Ytkblcdpmdbofgaa.A
open Go.RowKit Go.Proofs.YtkblcdpmdbofgaaW.PrintWords Go.Proofs.YtkblcdpmdbofgaaW.PrintLast Go.Proofs.YtkblcdpmdbofgaaW.PrintMore
set_option linter.unusedVariables false
set_option linter.unusedSimpArgs false

/-- Are the n letters from i on between a and z? -/
def lettersFrom (x : ByteArray) : Nat → Int → Bool
  | 0, _ => true
  | n + 1, i => if bt x i < 97 then false else if bt x i > 122 then false else lettersFrom x n (i + 1)
def lettersS (x : ByteArray) : Bool := lettersFrom x x.size 0 && (x.toList != ([] : List UInt8))
theorem letters_ev (x : ByteArray) (hx : x.size ≤ 2000000) : ∀ (n : Nat) (i : Int), 0 ≤ i → i + n = (x.size : Int) → Ev (fun k => session_letters.l0 k x (x.size : Int) i) (lettersFrom x n i && (x.toList != ([] : List UInt8)))
  | 0, i, h0, hn => by
    refine Ev.step (f := fun _ => some (x.toList != ([] : List UInt8))) (fun k => ?_) (by simpa [lettersFrom] using Ev.now _)
    rw [session_letters.l0, if_neg (by omega)]
  | n + 1, i, h0, hn => by
    have hlt : i < (x.size : Int) := by omega
    by_cases h1 : bt x i < 97
    · refine Ev.step (f := fun _ => some false) (fun k => ?_) (by simpa [lettersFrom, h1] using Ev.now _)
      rw [session_letters.l0, if_pos hlt, if_pos h0, if_pos hlt, if_pos h1]
    · by_cases h2 : bt x i > 122
      · refine Ev.step (f := fun _ => some false) (fun k => ?_) (by simpa [lettersFrom, h1, h2] using Ev.now _)
        rw [session_letters.l0, if_pos hlt, if_pos h0, if_pos hlt, if_neg h1, if_pos h2]
      · have := letters_ev x hx n (i + 1) (by omega) (by omega)
        refine Ev.step (fun k => ?_) (by simpa only [lettersFrom, if_neg h1, if_neg h2] using this)
        rw [session_letters.l0, if_pos hlt, if_pos h0, if_pos hlt, if_neg h1, if_neg h2, wrap_small (by omega) (by omega)]
theorem letters_calls (x : ByteArray) (w : World) (hx : x.size ≤ 2000000) : Calls Try.prog 33 #[.string x] w fun e w' => e = .returned (.bool (lettersS x)) ∧ Drawn0 w w' := by
  obtain ⟨k, hk⟩ := (letters_ev x hx x.size 0 (Int.le_refl _) (by omega)).rounds
  exact session_letters.calls k x (lettersS x) w hk

/-- Names of a to z, none twice. -/
def edsOk (pre : List ByteArray) : List ByteArray → Bool
  | [] => true
  | x :: r => lettersS x && !memS pre x && edsOk (pre ++ [x]) r
def canNew (l : List ByteArray) (needed : Int) : Bool := decide (1 ≤ l.length) && decide (l.length ≤ 16) && decide (0 ≤ needed) && decide (needed < (l.length : Int)) && edsOk [] l
def deskTag (w : World) (dp mb k : Nat) : Nat := if k < w.heap.size then 0 else if k = dp ∨ k = mb then 2 else 1
/-- What New returns and leaves. -/
def Made (w : World) (l : List ByteArray) (needed : Int) (e : Ending) (w' : World) : Prop :=
  if canNew l needed = true then ∃ dp mb, e = .returned (.tuple #[.pointer (some ⟨dp, 0, none⟩), .int .i64 0]) ∧ w.heap.size ≤ dp ∧ w.heap.size ≤ mb ∧ DeskAt w' (deskTag w dp mb) dp mb [] ⟨l, needed, []⟩ ∧ Below w.heap.size w w'
  else e = .returned (.tuple #[.pointer none, .int .i64 1]) ∧ Below w.heap.size w w'

set_option maxHeartbeats 1000000 in
set_option maxRecDepth 100000 in
theorem new_bad (A : Option Addr) (c : Nat) (l : List ByteArray) (needed : Int) (w : World) (h : l.length < 1 ∨ 1 ≤ l.length ∧ 16 < l.length ∨ 1 ≤ l.length ∧ l.length ≤ 16 ∧ needed < 0 ∨ 1 ≤ l.length ∧ l.length ≤ 16 ∧ 0 ≤ needed ∧ (l.length : Int) ≤ needed) :
    Calls Try.prog 11 #[.slice A l.length c, .int .i64 needed] w (Made w l needed) := by
  have hc : Aside0 (canNew l needed = false) := ⟨by
    unfold canNew
    rcases h with h | ⟨h1, h2⟩ | ⟨h1, h2, h3⟩ | ⟨h1, h2, h3, h4⟩
    · rw [decide_eq_false (show ¬ 1 ≤ l.length by omega)]; simp
    · rw [decide_eq_false (show ¬ l.length ≤ 16 by omega)]; simp
    · rw [decide_eq_false (show ¬ 0 ≤ needed by omega)]; simp
    · rw [decide_eq_false (show ¬ needed < (l.length : Int) by omega)]; simp⟩
  have fin : ∀ w', Below w.heap.size w w' → Made w l needed (.returned (.tuple #[.pointer none, .int .i64 1])) w' := fun w' hB => by
    unfold Made
    rw [hc.out, if_neg (by simp)]
    exact ⟨rfl, hB⟩
  have FIN := Aside0.mk fin
  clear fin
  rcases h with h | ⟨h1, h2⟩ | ⟨h1, h2, h3⟩ | ⟨h1, h2, h3, h4⟩
  · have f1 : decide ((l.length : Int) < 1) = true := decide_eq_true (by omega)
    clear h hc
    go_enter Try.func11, Try.ntmps11
    go_wp2
    go_ret2
    exact FIN.out _ (Below.refl _ _)
  · have f1 : decide ((l.length : Int) < 1) = false := decide_eq_false (by omega)
    have f2 : decide (16 < (l.length : Int)) = true := decide_eq_true (by omega)
    clear h1 h2 hc
    go_enter Try.func11, Try.ntmps11
    go_wp2
    go_ret2
    exact FIN.out _ (Below.refl _ _)
  · have f1 : decide ((l.length : Int) < 1) = false := decide_eq_false (by omega)
    have f2 : decide (16 < (l.length : Int)) = false := decide_eq_false (by omega)
    have f3 : decide (needed < 0) = true := decide_eq_true (by omega)
    clear h1 h2 h3 hc
    go_enter Try.func11, Try.ntmps11
    go_wp2
    go_ret2
    exact FIN.out _ (Below.refl _ _)
  · have f1 : decide ((l.length : Int) < 1) = false := decide_eq_false (by omega)
    have f2 : decide (16 < (l.length : Int)) = false := decide_eq_false (by omega)
    have f3 : decide (needed < 0) = false := decide_eq_false (by omega)
    have f4 : decide ((l.length : Int) - 1 < needed) = true := decide_eq_true (by omega)
    have f5 : (l.length : Int) ≤ 16 := by omega
    have f6 : (1 : Int) ≤ (l.length : Int) := by omega
    clear h1 h2 h3 h4 hc
    go_enter Try.func11, Try.ntmps11
    go_wp2
    go_ret2
    exact FIN.out _ (Below.refl _ _)
end Go.Proofs.Ytkblcdpmdbofgaa.A
