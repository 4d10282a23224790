/- awake. -/
import Derived.Test.YtkblcdpmdbofgaaB24
namespace Go.Proofs.Ytkblcdpmdbofgaa.A
open Go.RowKit Go.Proofs.YtkblcdpmdbofgaaW.PrintWords Go.Proofs.YtkblcdpmdbofgaaW.PrintLast Go.Proofs.YtkblcdpmdbofgaaW.PrintMore
set_option linter.unusedVariables false
set_option linter.unusedSimpArgs false

set_option maxHeartbeats 400000 in
set_option maxRecDepth 100000 in
theorem awake_calls (w : World) : Calls Try.prog 10 #[] w fun e w' => e = .returned (.bool true) ∧ Below w.heap.size w w' := by
  go_enter Try.func10, Try.ntmps10
  go_wp2_with (first
    | (go_at_call 11; refine (new_calls (some ⟨w.heap.size, 0, none⟩) 3 eds3 1 _ (C_lit3 w ann bob eve) (Nat.le_refl _) (by intro x hx; simp [eds3, ann, bob, eve] at hx; rcases hx with rfl | rfl | rfl <;> decide)).mono ?_; rintro e w1 hM; obtain ⟨dp, mb, rfl, hS⟩ := new_stand hM e0 ((Kept0.refl w).below (below_alloc (Below.refl _ _) _)); have S1 := Aside0.mk hS; clear hS hM)
    | (go_at_call 32; first
        | (have _ := S7.out; refine (sent_calls waitS _).mono ?_; rintro e w8 ⟨A3, c3, rfl, hc3, hF3, hB3⟩; have T3 := Aside0.mk (And.intro hc3 (And.intro hF3 (And.intro hB3 S7.out))); clear hc3 hF3 hB3)
        | (have _ := S5.out; refine (sent_calls sleepS _).mono ?_; rintro e w6 ⟨A2, c2, rfl, hc2, hF2, hB2⟩; have T2 := Aside0.mk (And.intro hc2 (And.intro hF2 (And.intro hB2 (S5.out.drewN m2)))); clear hc2 hF2 hB2)
        | (refine (sent_calls waitS _).mono ?_; rintro e w2 ⟨A1, c1, rfl, hc1, hF1, hB1⟩; have T1 := Aside0.mk (And.intro hc1 (And.intro hF1 (S1.out.below hB1))); clear hc1 hF1 hB1))
    | (go_at_call 31; refine (s_open T1.out.2.2 A1 c1 (Kd.F_now T1.out.2.1) T1.out.1).mono ?_; rintro e w3 ⟨rfl, hS⟩; have S3 := Aside0.mk hS; clear hS)
    | (go_at_call 17; first
        | (have _ := S5.out; refine (s_ready2 S5.out).mono ?_; rintro e w' ⟨rfl, ⟨m2, rfl⟩⟩)
        | (refine (s_ready1 S3.out).mono ?_; rintro e w' ⟨rfl, ⟨m1, rfl⟩⟩))
    | (go_at_call 30; first
        | (have _ := S4.out; refine (s_app2 S4.out).mono ?_; rintro e w5 ⟨rfl, hS⟩; have S5 := Aside0.mk hS; clear hS)
        | (refine (s_app1 (S3.out.drewN m1)).mono ?_; rintro e w4 ⟨rfl, hS⟩; have S4 := Aside0.mk hS; clear hS))
    | (go_at_call 20; first
        | (have _ := T3.out; refine (s_am2 T3.out.2.2.2 T3.out.2.2.1 A3 c3 T3.out.2.1 T3.out.1).mono ?_; rintro e w9 ⟨rfl, hS⟩; have S9 := Aside0.mk hS; clear hS)
        | (refine (s_am1 T2.out.2.2.2 T2.out.2.2.1 A2 c2 T2.out.2.1 T2.out.1).mono ?_; rintro e w7 ⟨rfl, hS⟩; have S7 := Aside0.mk hS; clear hS))
    | (go_at_call 19; refine (s_hist S9.out).mono ?_; rintro e w10 ⟨A4, c4, rfl, hB⟩; have HB := Aside0.mk hB; clear hB))
  go_ret
  exact ⟨rfl, HB.out⟩
end Go.Proofs.Ytkblcdpmdbofgaa.A
