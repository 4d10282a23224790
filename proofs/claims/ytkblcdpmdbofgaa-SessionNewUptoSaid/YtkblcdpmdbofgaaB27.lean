/- SessionNew: the walk. -/
import Derived.Test.YtkblcdpmdbofgaaB26
namespace Go.Proofs.Ytkblcdpmdbofgaa.A
open Go.RowKit Go.Proofs.YtkblcdpmdbofgaaW.PrintWords Go.Proofs.YtkblcdpmdbofgaaW.PrintLast Go.Proofs.YtkblcdpmdbofgaaW.PrintMore
set_option linter.unusedVariables false
set_option linter.unusedSimpArgs false

theorem eds_short {l : List ByteArray} {needed : Int} (h : canNew l needed = true) : l.length ≤ 16 := by
  unfold canNew at h
  simp only [Bool.and_eq_true, decide_eq_true_eq] at h
  omega
set_option maxHeartbeats 1000000 in
set_option maxRecDepth 100000 in
theorem sessionNew_calls (A : Option Addr) (c : Nat) (l : List ByteArray) (needed : Int) (w : World) (hr : Kd.string.C w A l.length l) (hcp : l.length ≤ c) (hl : l.length ≤ 2000000) (hsz : ∀ x ∈ l, x.size ≤ 2000000) :
    Calls Try.prog 3 #[.slice A l.length c, .int .i64 needed] w fun e w' => e = .returned (.bool true) ∧ Below w.heap.size w w' := by
  have C10 := Aside0.mk (fun (W : World) => awake_calls W)
  have C11 := Aside0.mk (fun (W : World) (hW : Below w.heap.size w W) => new_calls A c l needed W (Kd.C_below hr hW) hcp hsz)
  have C12 := Aside0.mk (fun (W : World) (hW : Below w.heap.size w W) => editors_calls A c l needed W (Kd.C_below hr hW) hcp hl hsz)
  clear hr hcp hl hsz
  cases hn : canNew l needed with
  | true =>
    rw [hn] at C12
    have HN := Aside0.mk hn
    clear hn
    go_enter Try.func3, Try.ntmps3
    go_wp2_with (first
      | (go_at_call 10; refine (C10.out _).mono ?_; rintro e w1 ⟨rfl, hB⟩; have HB1 := Aside0.mk hB; clear hB)
      | (go_at_call 11; refine (C11.out _ HB1.out).mono ?_; rintro e w2 hM; obtain ⟨dp, mb, rfl, hS⟩ := new_stand hM HN.out (Kept0.refl _); have HB2 := Aside0.mk (below_step HB1.out hS.2.to); have S := Aside0.mk hS.1; clear hM hS)
      | (go_at_call 12; refine (C12.out _ HB2.out).mono ?_; rintro e w3 ⟨rfl, ⟨m, rfl⟩⟩)
      | (go_at_call 13; refine ((S.out.grow (pw_below_drewN (Below.refl _ _) m)).drafts).mono ?_; rintro e w4 ⟨v, rfl, hR, hB⟩; obtain ⟨A4, c4, rfl⟩ := Kd.R_slice hR; have HB4 := Aside0.mk (below_step (pw_below_drewN HB2.out m) hB); clear hR hB))
    go_ret
    exact ⟨rfl, HB4.out⟩
  | false =>
    rw [hn] at C12
    have HN := Aside0.mk (fun (W : World) e w' (h : Made W l needed e w') => (show e = .returned (.tuple #[.pointer none, .int .i64 1]) ∧ Below W.heap.size W w' by unfold Made at h; rwa [hn, if_neg (by simp)] at h))
    clear hn
    go_enter Try.func3, Try.ntmps3
    go_wp2_with (first
      | (go_at_call 10; refine (C10.out _).mono ?_; rintro e w1 ⟨rfl, hB⟩; have HB1 := Aside0.mk hB; clear hB)
      | (go_at_call 11; refine (C11.out _ HB1.out).mono ?_; rintro e w2 hM; obtain ⟨rfl, hB⟩ := HN.out _ _ _ hM; have HB2 := Aside0.mk (below_step HB1.out hB); clear hM hB)
      | (go_at_call 12; refine (C12.out _ HB2.out).mono ?_; rintro e w3 ⟨rfl, ⟨m, rfl⟩⟩))
    go_ret
    exact ⟨rfl, pw_below_drewN HB2.out m⟩
end Go.Proofs.Ytkblcdpmdbofgaa.A
