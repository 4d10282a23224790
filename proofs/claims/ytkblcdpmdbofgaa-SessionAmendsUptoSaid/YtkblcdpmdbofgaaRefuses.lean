/- The law SessionRefuses returns true for every list of editors, every number, every list of operations and every last operation, and leaves its arguments as they were: where the arguments are of bulk at most 1048576 (the second form of the statement, SessionRefusesUptoSaid). -/
import Derived.Test.YtkblcdpmdbofgaaM4
import Derived.WalkKit
import Derived.ProofKit
import Derived.OpenShut
import Derived.ShutString
import Derived.ChangeOld
import Derived.Below
import Derived.SizedLaws
import Derived.JoinedCond
/- pentaglotlaw54.same: two desks that show the same. -/
namespace Go.Proofs.Ytkblcdpmdbofgaa.A
open Go.RowKit Go.Proofs.YtkblcdpmdbofgaaW.PrintWords Go.Proofs.YtkblcdpmdbofgaaW.PrintLast Go.Proofs.YtkblcdpmdbofgaaW.PrintMore
set_option linter.unusedVariables false
set_option linter.unusedSimpArgs false

theorem shown_small {D : Dk} {n : Nat} (h : D.good n) (hn : n ≤ 90000) (id : Int) : bulkL (D.show_ id).trees ≤ 2000000 ∧ (D.show_ id).approvals.length ≤ 2000000 := by
  unfold Dk.show_
  cases hg : D.get id with
  | none => exact ⟨Nat.zero_le _, Nat.zero_le _⟩
  | some d =>
    have := h.2 d (Dk.get_mem hg)
    exact ⟨this.2.2.1, by have := this.2.1; simp only; omega⟩
theorem hist_small {D : Dk} {n : Nat} (h : D.good n) (id : Int) : (D.hist id).length ≤ 2000000 ∧ ∀ l ∈ D.hist id, bulkL l ≤ 2000000 := by
  unfold Dk.hist
  cases hg : D.get id with
  | none => exact ⟨Nat.zero_le _, fun l hl => by simp at hl⟩
  | some d =>
    have := h.2 d (Dk.get_mem hg)
    refine ⟨by have := this.1; simp only [List.length_append, List.length_cons, List.length_nil]; omega, fun l hl => ?_⟩
    rcases List.mem_append.1 hl with hl | hl
    · exact this.2.2.2 l hl
    · rw [List.mem_singleton.1 hl]; exact this.2.2.1

set_option maxHeartbeats 2000000 in
set_option maxRecDepth 100000 in
theorem same_calls (w : World) (f1 f2 : Nat → Prop) (dp1 mb1 dp2 mb2 : Nat) (D : Dk) (n : Nat) (hn : n ≤ 90000) (h1 : At w f1 dp1 mb1 D n) (h2 : At w f2 dp2 mb2 D n) :
    Calls Try.prog 28 #[.pointer (some ⟨dp1, 0, none⟩), .pointer (some ⟨dp2, 0, none⟩)] w fun e w' => e = .returned (.bool true) ∧ Below w.heap.size w w' := by
  have H1 := Aside0.mk (fun (W : World) (hB : Below w.heap.size w W) => h1.grow hB)
  have H2 := Aside0.mk (fun (W : World) (hB : Below w.heap.size w W) => h2.grow hB)
  have HG := Aside0.mk h1.1
  have HB0 := Aside0.mk (Below.refl w.heap.size w)
  have hn' := Aside0.mk hn
  have hfew : Aside0 ((D.opensTo D.drafts.length).length ≤ 2000000) := ⟨by
    obtain ⟨_, tag, sb, hD, _⟩ := h1
    have := D.opensTo_len D.drafts.length
    have := hD.few
    omega⟩
  clear h1 h2 hn
  go_enter Try.func28, Try.ntmps28
  go_wp2
  go_loopw [5] (fun i w' => ∃ x : Int, i = .int .i64 x ∧ 0 ≤ x ∧ x ≤ 43 ∧ Aside0 (Below w.heap.size w w')) (fun i _ => 43 - (intOf i).toNat)
  case atStart => exact ⟨0, rfl, Int.le_refl _, by decide, HB0⟩
  case round =>
    clear HB0
    obtain ⟨x, rfl, hx, hk, HB⟩ := hrel
    by_cases hlt : x ≤ 42
    · have q1 : decide (x ≤ 42) = true := decide_eq_true hlt
      have hid : Aside0 ((Lit.int .i64 x).wf = true) := ⟨wf_i64 (by omega) (by omega)⟩
      have D1 := Aside0.mk (fun (W : World) (hB : Below w.heap.size w W) => (H1.out W hB).draft hn'.out x hid.out)
      have D2 := Aside0.mk (fun (W : World) (hB : Below w.heap.size w W) => (H2.out W hB).draft hn'.out x hid.out)
      have K1 := Aside0.mk (fun (W : World) (hB : Below w.heap.size w W) => (H1.out W hB).history hn'.out x hid.out)
      have K2 := Aside0.mk (fun (W : World) (hB : Below w.heap.size w W) => (H2.out W hB).history hn'.out x hid.out)
      have SM := Aside0.mk (shown_small HG.out hn'.out x)
      have HM := Aside0.mk (hist_small HG.out x)
      generalize D.show_ x = s at D1 D2 SM
      generalize D.hist x = hh at K1 K2 HM
      generalize D.has x = q at D1 D2 K1 K2
      obtain ⟨s0, s1, s2, s3, s4, s5⟩ := s
      simp only [shownV] at D1 D2 SM
      go_wp2_with (first
        | (go_at_call 21; first
            | (have _ := HA1.out; refine (D2.out _ HA1.out).mono ?_; rintro e w2 ⟨vt, va, rfl, hT, hA, hB⟩; obtain ⟨At2, ct2, rfl⟩ := Kd.R_slice hT; obtain ⟨Aa2, ca2, rfl⟩ := Kd.R_slice hA; have hBx := below_alloc hB (.cells #[.int .i64 s0, .int .i64 s1, .string s2, .slice At2 s3.length ct2, .slice Aa2 s4.length ca2, .bool s5] 49); have HA2 := Aside0.mk (below_step HA1.out hBx); have T2 := Aside0.mk (Kd.R_alloc hT (.cells #[.int .i64 s0, .int .i64 s1, .string s2, .slice At2 s3.length ct2, .slice Aa2 s4.length ca2, .bool s5] 49)); have P2 := Aside0.mk (Kd.R_alloc hA (.cells #[.int .i64 s0, .int .i64 s1, .string s2, .slice At2 s3.length ct2, .slice Aa2 s4.length ca2, .bool s5] 49)); have T1b := Aside0.mk (Kd.R_below T1.out hBx); have P1b := Aside0.mk (Kd.R_below P1.out hBx); have X1b := Aside0.mk (blk_below X1.out hBx); have X2 := Aside0.mk (heap_alloc_new w2 (.cells #[.int .i64 s0, .int .i64 s1, .string s2, .slice At2 s3.length ct2, .slice Aa2 s4.length ca2, .bool s5] 49)); clear hT hA hB hBx)
            | (refine (D1.out _ HB.out).mono ?_; rintro e w1 ⟨vt, va, rfl, hT, hA, hB⟩; obtain ⟨At1, ct1, rfl⟩ := Kd.R_slice hT; obtain ⟨Aa1, ca1, rfl⟩ := Kd.R_slice hA; have HA1 := Aside0.mk (below_alloc (below_step HB.out hB) (.cells #[.int .i64 s0, .int .i64 s1, .string s2, .slice At1 s3.length ct1, .slice Aa1 s4.length ca1, .bool s5] 49)); have T1 := Aside0.mk (Kd.R_alloc hT (.cells #[.int .i64 s0, .int .i64 s1, .string s2, .slice At1 s3.length ct1, .slice Aa1 s4.length ca1, .bool s5] 49)); have P1 := Aside0.mk (Kd.R_alloc hA (.cells #[.int .i64 s0, .int .i64 s1, .string s2, .slice At1 s3.length ct1, .slice Aa1 s4.length ca1, .bool s5] 49)); have X1 := Aside0.mk (heap_alloc_new w1 (.cells #[.int .i64 s0, .int .i64 s1, .string s2, .slice At1 s3.length ct1, .slice Aa1 s4.length ca1, .bool s5] 49)); clear hT hA hB))
        | (go_at_call 19; first
            | (have _ := HA3.out; refine (K2.out _ HA3.out).mono ?_; rintro e w4 ⟨vh, rfl, hR, hB⟩; obtain ⟨Ah2, ch2, rfl⟩ := Kd.R_slice hR; have HA4 := Aside0.mk (below_step HA3.out hB); have T1d := Aside0.mk (Kd.R_reads' (Kd.R_below T1c.out hB)); have P1d := Aside0.mk (Kd.R_below P1c.out hB); have T2d := Aside0.mk (Kd.R_reads' (Kd.R_below T2c.out hB)); have P2d := Aside0.mk (Kd.R_below P2c.out hB); have R1d := Aside0.mk (Kd.R_below R1.out hB); have R2 := Aside0.mk hR; have X1d := Aside0.mk (blk_below X1c.out hB); have X2d := Aside0.mk (blk_below X2c.out hB); have a0 := blk_cell X1d.out 0; have a1 := blk_cell X1d.out 1; have a2 := blk_cell X1d.out 2; have a3 := blk_cell X1d.out 3; have a5 := blk_cell X1d.out 5; have b0 := blk_cell X2d.out 0; have b1 := blk_cell X2d.out 1; have b2 := blk_cell X2d.out 2; have b3 := blk_cell X2d.out 3; have b5 := blk_cell X2d.out 5; simp at a0 a1 a2 a3 a5 b0 b1 b2 b3 b5; clear hR hB)
            | (refine (K1.out _ HA2.out).mono ?_; rintro e w3 ⟨vh, rfl, hR, hB⟩; obtain ⟨Ah1, ch1, rfl⟩ := Kd.R_slice hR; have HA3 := Aside0.mk (below_step HA2.out hB); have T1c := Aside0.mk (Kd.R_below T1b.out hB); have P1c := Aside0.mk (Kd.R_below P1b.out hB); have T2c := Aside0.mk (Kd.R_below T2.out hB); have P2c := Aside0.mk (Kd.R_below P2.out hB); have X1c := Aside0.mk (blk_below X1b.out hB); have X2c := Aside0.mk (blk_below X2.out hB); have R1 := Aside0.mk hR; clear hR hB))
        | (go_at_call 23; refine (sameAll_calls s3 SM.out.1 T1d.out.2.2 T1d.out.2.1 T2d.out.2.2 T2d.out.2.1).mono ?_; rintro e w5 ⟨rfl, hB⟩; have HA5 := Aside0.mk (below_step HA4.out hB); have P1e := Aside0.mk (Kd.R_reads' (Kd.R_below P1d.out hB)); have P2e := Aside0.mk (Kd.R_reads' (Kd.R_below P2d.out hB)); have R1e := Aside0.mk (Kd.R_below R1d.out hB); have R2e := Aside0.mk (Kd.R_below R2.out hB); have a4 := blk_cell (blk_below X1d.out hB) 4; have b4 := blk_cell (blk_below X2d.out hB) 4; simp at a4 b4; clear hB)
        | (go_at_call 47; refine (sameStrings_calls s4 SM.out.2 P1e.out.2.2 P1e.out.2.1 P2e.out.2.2 P2e.out.2.1).mono ?_; rintro e w6 ⟨rfl, ⟨m6, rfl⟩⟩; have R1f := Aside0.mk (Kd.R_reads' (Kd.R_drewN R1e.out m6)); have R2f := Aside0.mk (Kd.R_reads' (Kd.R_drewN R2e.out m6)))
        | (go_at_call 22; refine (sameHistory_calls hh HM.out.1 HM.out.2 R1f.out.2.2 R1f.out.2.1 R2f.out.2.2 R2f.out.2.1).mono ?_; rintro e w7 ⟨rfl, hB⟩; have HA7 := Aside0.mk (below_step (pw_below_drewN HA5.out m6) hB); clear hB))
      go_roundw
      case rel => exact ⟨x + 1, rfl, by omega, by omega, HA7⟩
      case measure => simp [intOf]; omega
    · have q1 : decide (x ≤ 42) = false := decide_eq_false hlt
      have N1 := Aside0.mk (H1.out _ HB.out).drafts
      have N2 := Aside0.mk (fun (W : World) (hB : Below w.heap.size w W) => (H2.out W hB).drafts)
      generalize D.opensTo D.drafts.length = ls at N1 N2 hfew
      go_wp2_with (first
        | (go_at_call 13; first
            | (have _ := HA1.out; refine (N2.out _ HA1.out).mono ?_; rintro e w2 ⟨v, rfl, hR, hB⟩; obtain ⟨An2, cn2, rfl⟩ := Kd.R_slice hR; have HA2 := Aside0.mk (below_step HA1.out hB); have R1b := Aside0.mk (Kd.R_reads' (Kd.R_below R1.out hB)); have R2 := Aside0.mk (Kd.R_reads' hR); clear hR hB)
            | (refine N1.out.mono ?_; rintro e w1 ⟨v, rfl, hR, hB⟩; obtain ⟨An1, cn1, rfl⟩ := Kd.R_slice hR; have HA1 := Aside0.mk (below_step HB.out hB); have R1 := Aside0.mk hR; clear hR hB))
        | (go_at_call 26; refine (sameInts_calls ls hfew.out R1b.out.2.2 R1b.out.2.1 R2.out.2.2 R2.out.2.1).mono ?_; rintro e w3 ⟨rfl, ⟨m3, rfl⟩⟩))
      go_ret
      exact ⟨rfl, pw_below_drewN HA2.out m3⟩
end Go.Proofs.Ytkblcdpmdbofgaa.A
/- SessionRefuses: the walk. -/
namespace Go.Proofs.Ytkblcdpmdbofgaa.A
open Go.RowKit Go.Proofs.YtkblcdpmdbofgaaW.PrintWords Go.Proofs.YtkblcdpmdbofgaaW.PrintLast Go.Proofs.YtkblcdpmdbofgaaW.PrintMore
set_option linter.unusedVariables false
set_option linter.unusedSimpArgs false

theorem Played.no {w w' : World} {l : List ByteArray} {needed : Int} {ops : List S35} {e : Ending} (h : Played w l needed ops e w') (hc : (canNew l needed && fewS ops) = false) : e = .returned (.pointer none) ∧ Below w.heap.size w w' := by
  unfold Played at h
  rwa [hc, if_neg (by simp)] at h
theorem Played.yes {w w' : World} {l : List ByteArray} {needed : Int} {ops : List S35} {e : Ending} (h : Played w l needed ops e w') (hc : (canNew l needed && fewS ops) = true) : ∃ dp mb, e = .returned (.pointer (some ⟨dp, 0, none⟩)) ∧ Stand w w' dp mb (Dk.run ⟨l, needed, []⟩ ops) ops.length := by
  unfold Played at h
  rwa [hc, if_pos rfl] at h
theorem field37 (N E : Int) (w : World) : (Instr.field 37 (.agg #[.int .i64 N, .int .i64 E]) 1).run Try.prog w = .ok (.int .i64 E) w := by
  kernel_rfl
theorem Kp.bel {w w' : World} {S : Nat → Prop} {B : Nat} {u : World} (hB : Below B u w) (h : Kp w w' S) (hs : ∀ k, k < B → ¬ S k) (hl : B ≤ w.heap.size) : Below B u w' :=
  ⟨h.os.trans hB.os, h.tape.trans hB.tape, h.output.trans hB.output, Nat.le_trans hB.size h.size, fun k hk => (h.block k (Nat.lt_of_lt_of_le hk hl) (hs k hk)).trans (hB.block k hk)⟩

set_option maxHeartbeats 2000000 in
set_option maxRecDepth 100000 in
theorem refuses_walk (w0 : World) (A : Option Addr) (c : Nat) (l : List ByteArray) (needed : Int) (Ao : Option Addr) (co : Nat) (ops : List S35) (y : S35) (Ay : Option Addr) (cy : Nat)
    (hr : Kd.string.C w0 A l.length l) (hcp : l.length ≤ c) (hsz : ∀ x ∈ l, x.size ≤ 2000000) (hro : k35.C w0 Ao ops.length ops) (hco : ops.length ≤ co) (hlo : ops.length ≤ 2000000) (hok : ∀ x ∈ ops, opOk x)
    (hy : opOk y) (hry : k68.C w0 Ay y.f4.length y.f4) (hcy : y.f4.length ≤ cy) :
    Calls Try.prog 7 #[.slice A l.length c, .int .i64 needed, .slice Ao ops.length co, .agg #[.int .i64 y.f0, .string y.f1, .int .i64 y.f2, .int .i64 y.f3, .slice Ay y.f4.length cy]] w0 fun e w' => e = .returned (.bool true) ∧ Below w0.heap.size w0 w' := by
  have C10 := Aside0.mk (fun (W : World) => awake_calls W)
  have C18 := Aside0.mk (fun (W : World) (hW : Below w0.heap.size w0 W) => play_calls A c l needed Ao co ops W (Kd.C_below hr hW) hcp hsz (Kd.C_below hro hW) hco hlo hok)
  have HY := Aside0.mk hy
  have HRY := Aside0.mk hry
  have HCY := Aside0.mk hcy
  have HBX := Aside0.mk (below_alloc (Below.refl w0.heap.size w0) (.cells #[.int .i64 y.f0, .string y.f1, .int .i64 y.f2, .int .i64 y.f3, .slice Ay y.f4.length cy] 35))
  have HX := Aside0.mk (heap_alloc_new w0 (.cells #[.int .i64 y.f0, .string y.f1, .int .i64 y.f2, .int .i64 y.f3, .slice Ay y.f4.length cy] 35))
  clear hr hcp hsz hro hco hlo hok hy hry hcy
  cases hc : (canNew l needed && fewS ops) with
  | false =>
    have HC := Aside0.mk hc
    clear hc
    go_enter Try.func7, Try.ntmps7
    go_wp2_with (first
      | (go_at_call 10; refine (C10.out _).mono ?_; rintro e w1 ⟨rfl, hB⟩; have HB1 := Aside0.mk (below_step HBX.out hB); clear hB)
      | (go_at_call 18; first
          | (have _ := HB2.out; refine (C18.out _ HB2.out).mono ?_; rintro e w3 hP; obtain ⟨rfl, hB⟩ := hP.no HC.out; have HB3 := Aside0.mk (below_step HB2.out hB); clear hP hB)
          | (refine (C18.out _ HB1.out).mono ?_; rintro e w2 hP; obtain ⟨rfl, hB⟩ := hP.no HC.out; have HB2 := Aside0.mk (below_step HB1.out hB); clear hP hB)))
    go_ret
    exact ⟨rfl, HB3.out⟩
  | true =>
    have HC := Aside0.mk hc
    have hn40 : Aside0 (ops.length ≤ 40) := ⟨few_short (by rw [Bool.and_eq_true] at hc; exact hc.2)⟩
    clear hc
    generalize hDR : Dk.run ⟨l, needed, []⟩ ops = DR
    have HDR := Aside0.mk hDR
    clear hDR
    obtain ⟨N, E, D1, hr⟩ : ∃ N E D1, DR.doOp y = (N, E, D1) := ⟨_, _, _, rfl⟩
    have HE := Aside0.mk (doOp_err DR y)
    have HR := Aside0.mk hr
    clear hr
    by_cases h10 : y.f4.length ≤ 10
    · have t10 : decide (10 < (y.f4.length : Int)) = false := decide_eq_false (by omega)
      by_cases hE : E = 0
      · subst hE
        clear h10
        go_enter Try.func7, Try.ntmps7
        go_wp2_with (first | (go_at_call 10; refine (C10.out _).mono ?_; rintro e w1 ⟨rfl, hB⟩; have HX1 := Aside0.mk (blk_below HX.out hB); have HB1 := Aside0.mk (below_step HBX.out hB); clear hB) | (go_at_call 18; first | (have _ := S1.out; refine (C18.out _ HB2.out).mono ?_; rintro e w3 hP; obtain ⟨dp2, mb2, rfl, hS⟩ := hP.yes HC.out; rw [HDR.out] at hS; have S2 := Aside0.mk hS; have A1 := Aside0.mk (S1.out.1.grow hS.2.to); have HB3 := Aside0.mk (below_step HB2.out hS.2.to); have x0 := blk_cell (blk_below HX2.out hS.2.to) 0; have x1 := blk_cell (blk_below HX2.out hS.2.to) 1; have x2 := blk_cell (blk_below HX2.out hS.2.to) 2; have x3 := blk_cell (blk_below HX2.out hS.2.to) 3; have x4 := blk_cell (blk_below HX2.out hS.2.to) 4; simp at x0 x1 x2 x3 x4; have FY := Aside0.mk (Kd.F_mono (Kd.F_step (Kd.C_F heap68 HRY.out) (fun k hk hl => HB3.out.block k hk)) (fun k hk => (Or.inl (Nat.lt_of_lt_of_le hk HB1.out.size) : k < w1.heap.size ∨ w2.heap.size ≤ k))); clear hP hS) | (refine (C18.out _ HB1.out).mono ?_; rintro e w2 hP; obtain ⟨dp1, mb1, rfl, hS⟩ := hP.yes HC.out; rw [HDR.out] at hS; have S1 := Aside0.mk hS; have HX2 := Aside0.mk (blk_below HX1.out hS.2.to); have HB2 := Aside0.mk (below_step HB1.out hS.2.to); clear hP hS)) | (go_at_call 15; refine (do_calls A1.out (by have := hn40.out; omega) y Ay cy HY.out FY.out HCY.out).mono ?_; rintro e w4 hd; rw [HR.out] at hd; obtain ⟨rfl, hA, hK⟩ := hd; have fld := field37 N 0 w4; have HB4 := Aside0.mk (Kp.bel HB3.out hK (fun k hk h => h (.inl (Nat.lt_of_lt_of_le hk HB1.out.size))) HB3.out.size); have B1 := Aside0.mk hA; have B2 := Aside0.mk (S2.out.1.keep (hK.mono (fun k hk => Nat.lt_of_not_le (fun h => hk (.inr h))))); clear hA hK))
        go_ret
        exact ⟨rfl, HB4.out⟩
      · have hDD : Aside0 (D1 = DR) := ⟨by
          have h1 := HE.out
          rw [HR.out] at h1
          exact h1 hE⟩
        have tE : (E == 0) = false := beq_eq_false_iff_ne.mpr hE
        clear h10 hE
        go_enter Try.func7, Try.ntmps7
        go_wp2_with (first | (go_at_call 10; refine (C10.out _).mono ?_; rintro e w1 ⟨rfl, hB⟩; have HX1 := Aside0.mk (blk_below HX.out hB); have HB1 := Aside0.mk (below_step HBX.out hB); clear hB) | (go_at_call 18; first | (have _ := S1.out; refine (C18.out _ HB2.out).mono ?_; rintro e w3 hP; obtain ⟨dp2, mb2, rfl, hS⟩ := hP.yes HC.out; rw [HDR.out] at hS; have S2 := Aside0.mk hS; have A1 := Aside0.mk (S1.out.1.grow hS.2.to); have HB3 := Aside0.mk (below_step HB2.out hS.2.to); have x0 := blk_cell (blk_below HX2.out hS.2.to) 0; have x1 := blk_cell (blk_below HX2.out hS.2.to) 1; have x2 := blk_cell (blk_below HX2.out hS.2.to) 2; have x3 := blk_cell (blk_below HX2.out hS.2.to) 3; have x4 := blk_cell (blk_below HX2.out hS.2.to) 4; simp at x0 x1 x2 x3 x4; have FY := Aside0.mk (Kd.F_mono (Kd.F_step (Kd.C_F heap68 HRY.out) (fun k hk hl => HB3.out.block k hk)) (fun k hk => (Or.inl (Nat.lt_of_lt_of_le hk HB1.out.size) : k < w1.heap.size ∨ w2.heap.size ≤ k))); clear hP hS) | (refine (C18.out _ HB1.out).mono ?_; rintro e w2 hP; obtain ⟨dp1, mb1, rfl, hS⟩ := hP.yes HC.out; rw [HDR.out] at hS; have S1 := Aside0.mk hS; have HX2 := Aside0.mk (blk_below HX1.out hS.2.to); have HB2 := Aside0.mk (below_step HB1.out hS.2.to); clear hP hS)) | (go_at_call 15; refine (do_calls A1.out (by have := hn40.out; omega) y Ay cy HY.out FY.out HCY.out).mono ?_; rintro e w4 hd; rw [HR.out] at hd; obtain ⟨rfl, hA, hK⟩ := hd; have fld := field37 N E w4; have HB4 := Aside0.mk (Kp.bel HB3.out hK (fun k hk h => h (.inl (Nat.lt_of_lt_of_le hk HB1.out.size))) HB3.out.size); have B1 := Aside0.mk hA; have B2 := Aside0.mk (S2.out.1.keep (hK.mono (fun k hk => Nat.lt_of_not_le (fun h => hk (.inr h))))); clear hA hK) | (go_at_call 28; refine (same_calls w4 _ _ dp1 mb1 dp2 mb2 DR (ops.length + 1) (by have := hn40.out; omega) (hDD.out ▸ B1.out) (B2.out.mono (fun _ hk => hk) (Nat.le_succ _))).mono ?_; rintro e w5 ⟨rfl, hB⟩; have HB5 := Aside0.mk (below_step HB4.out hB); clear hB))
        go_ret
        exact ⟨rfl, HB5.out⟩
    · have t10 : decide (10 < (y.f4.length : Int)) = true := decide_eq_true (by omega)
      clear h10
      go_enter Try.func7, Try.ntmps7
      go_wp2_with (first
        | (go_at_call 10; refine (C10.out _).mono ?_; rintro e w1 ⟨rfl, hB⟩; have HX1 := Aside0.mk (blk_below HX.out hB); have HB1 := Aside0.mk (below_step HBX.out hB); clear hB)
        | (go_at_call 18; first
            | (have _ := S1.out; refine (C18.out _ HB2.out).mono ?_; rintro e w3 hP; obtain ⟨dp2, mb2, rfl, hS⟩ := hP.yes HC.out; have S2 := Aside0.mk hS; have HB3 := Aside0.mk (below_step HB2.out hS.2.to); have x4 := blk_cell (blk_below HX2.out hS.2.to) 4; simp at x4; clear hP hS)
            | (refine (C18.out _ HB1.out).mono ?_; rintro e w2 hP; obtain ⟨dp1, mb1, rfl, hS⟩ := hP.yes HC.out; have S1 := Aside0.mk hS; have HX2 := Aside0.mk (blk_below HX1.out hS.2.to); have HB2 := Aside0.mk (below_step HB1.out hS.2.to); clear hP hS)))
      go_ret
      exact ⟨rfl, HB3.out⟩
end Go.Proofs.Ytkblcdpmdbofgaa.A
/- The law SessionRefuses returns true for every list of editors, every number, every list of operations and every last operation, and leaves its arguments as they were: where the arguments are of bulk at most 1048576 (the second form of the statement, SessionRefusesUptoSaid). -/
namespace Go.Proofs.Ytkblcdpmdbofgaa.sessionRefuses
open Go.ChangeShapes Go.WideShapes Go.ChangeAt Go.RowKit
open Go.Proofs.Ytkblcdpmdbofgaa.A
set_option linter.unusedVariables false
theorem own : ownKnob Try.prog.godebug = none := by kernel_rfl
theorem laidOut : laidOutB Try.prog = true := by kernel_rfl
theorem agg5 {v a b c d e : Value} (h : v.cells.toList = [a, b, c, d, e]) : v = .agg #[a, b, c, d, e] := by
  cases v <;> simp [Value.cells] at h
  rename_i xs
  obtain ⟨l⟩ := xs
  simp at h
  rw [h]
set_option maxRecDepth 100000 in
theorem contract (H : Type) (enc : TypeId × Value → H) (W : World) (base : Nat) (args : Array Value) (ds gs : List (DataW H)) (before : List MemPlace)
    (hval : ∀ (j : Nat) t v, Try.f7.params[j]? = some t → args[j]? = some v → Value.okWide Try.prog W .any base t v)
    (hW : DataW.Whole enc Try.prog Try.f7.params.toList Rows.sessionRefusesSpec.vars false W args.toList ds gs before) (hk : Rows.uptoSmall H (ds ++ gs) = true) :
    Calls Try.prog 7 args W fun e W' => ∃ v, e = .returned v ∧ Rows.sessionRefusesSpec.post enc Try.prog Try.f7 false true false false W args v W' := by
  have hW' := hW
  obtain ⟨p, q, hA0, hV, rfl, hfz, hnd⟩ := hW
  have hA : DataW.TrodAll enc Try.prog W 0 (fun _ => true) true Try.f7.params.toList args.toList ds p := hA0
  rw [Try.params7] at hA hval
  obtain ⟨v0, vs0, d0, ds0, p0, q0, hargs, rfl, rfl, h0, r0⟩ := trodAll_cons hA
  obtain ⟨v1, vs1, d1, ds1, p1, q1, rfl, rfl, rfl, h1, r1⟩ := trodAll_cons r0
  obtain ⟨v2, vs2, d2, ds2, p2, q2, rfl, rfl, rfl, h2, r2⟩ := trodAll_cons r1
  obtain ⟨v3, vs3, d3, ds3, p3, q3, rfl, rfl, rfl, h3, r3⟩ := trodAll_cons r2
  obtain ⟨rfl, rfl, rfl⟩ := trodAll_nil r3
  obtain rfl : args = #[v0, v1, v2, v3] := by cases args; simp_all
  obtain ⟨rfl, rfl⟩ := trodVars_none hV
  have hsm : Rows.uptoBulk d0 + Rows.uptoBulk d1 + Rows.uptoBulk d2 + Rows.uptoBulk d3 ≤ 1048576 := by
    have := of_decide_eq_true hk
    simp only [List.append_nil, Rows.uptoBulkAll] at this
    omega
  simp only [List.append_nil] at hW'
  have k0 := h0
  have lt0 : ∀ x ∈ p0, x.block < W.heap.size := by obtain ⟨m, hm⟩ := k0; exact DataW.trod_lt m _ _ _ hm
  obtain ⟨A0, len0, c0, rfl⟩ := okWide_slice Try.underlying22 (hval 0 22 v0 rfl rfl)
  obtain ⟨fuel0, hf0⟩ := h0
  obtain ⟨A0', x0, c0', hcs0, hl0, hC0, hb0⟩ := open_strsC hf0
  simp [Value.cells] at hcs0
  obtain ⟨rfl, rfl, rfl⟩ := hcs0
  have hbk0 : sumOf (fun s : ByteArray => s.size + 1) x0 + 1 ≤ Rows.uptoBulk d0 := hb0
  have sm0 := strs_small (n := Rows.uptoBulk d0) hbk0 (by omega)
  obtain ⟨x1, rfl, rfl, rfl, w1⟩ := open_int Try.underlying3 (hval 1 3 v1 rfl rfl) h1
  have k2 := h2
  have lt2 : ∀ x ∈ p2, x.block < W.heap.size := by obtain ⟨m, hm⟩ := k2; exact DataW.trod_lt m _ _ _ hm
  obtain ⟨A2, len2, c2, rfl⟩ := okWide_slice Try.underlying31 (hval 2 31 v2 rfl rfl)
  obtain ⟨fuel2, hf2⟩ := h2
  obtain ⟨A2', x2, c2', hcs2, hl2, hC2, hw2, hb2⟩ := open_opsC hf2
  simp [Value.cells] at hcs2
  obtain ⟨rfl, rfl, rfl⟩ := hcs2
  have hbk2 : sumOf (fun y : S35 => y.f1.size + Go.Proofs.Ytkblcdpmdbofgaa.A.bulkL y.f4 + 1) x2 + 1 ≤ Rows.uptoBulk d2 := hb2
  have sm2 := ops_small hw2 (n := Rows.uptoBulk d2) hbk2 (by omega)
  have k3 := h3
  have lt3 : ∀ x ∈ p3, x.block < W.heap.size := by obtain ⟨m, hm⟩ := k3; exact DataW.trod_lt m _ _ _ hm
  obtain ⟨fuel3, hf3⟩ := h3
  obtain ⟨x3, A3, c3, hcs3, hl3, hC3, hw3, hb3⟩ := open_opC hf3
  obtain rfl := agg5 hcs3
  have hbk3 : x3.f1.size + Go.Proofs.Ytkblcdpmdbofgaa.A.bulkL x3.f4 + 1 ≤ Rows.uptoBulk d3 := hb3
  have sm3 : opOk x3 := ⟨hw3.1, hw3.2.1, hw3.2.2, by omega⟩
  refine (refuses_walk W A0 c0 x0 x1 A2 c2 x2 x3 A3 c3 hC0 hl0 sm0.1 hC2 hl2 sm2.2 sm2.1 sm3 hC3 hl3).mono fun e W' ⟨he, bel⟩ => ?_
  subst he
  exact ⟨_, rfl, _, _, _, [], _, [], hW', trodAll_mk1 (shut_bool Try.underlying4 _), (trodAll_cons_mk (Below.trod laidOut (by kernel_rfl) (of_decide_eq_true (by kernel_rfl)) k0 bel lt0) (trodAll_cons_mk (shut_int Try.underlying3 w1) (trodAll_cons_mk (Below.trod laidOut (by kernel_rfl) (of_decide_eq_true (by kernel_rfl)) k2 bel lt2) (trodAll_cons_mk (Below.trod laidOut (by kernel_rfl) (of_decide_eq_true (by kernel_rfl)) k3 bel lt3) trodAll_mk0)))), rfl, bel.frame _, fun h => by cases h⟩

set_option maxRecDepth 100000 in
theorem lifted (os : Os) (started : os.Started) (H : Type) (enc : TypeId × Value → H) (F : Stop.Interp) :
    ReturnsInHanded {} Try.checked os 7 .any ((Rows.OpenSpec.upto Rows.sessionRefusesSpec).pre6 enc Try.prog Try.f7 Rows.sessionRefusesUptoRow.domain false) (((Rows.OpenSpec.upto Rows.sessionRefusesSpec).at F).post enc Try.prog Try.f7 false true false false) := by
  refine returnsInHanded_of_cond (C := Try.checked) (s := Rows.OpenSpec.upto Rows.sessionRefusesSpec) (k := Rows.uptoSmall) rfl own started (by kernel_rfl) Try.func7
    (OpenSpec.witness (enc := enc) (C := Try.checked) (s := Rows.OpenSpec.upto Rows.sessionRefusesSpec) (k := Rows.uptoSmall) rfl false ⟨#[], #[.slice none 0 0, .int .i64 0, .slice none 0 0, .agg #[.int .i64 0, .string ⟨#[]⟩, .int .i64 0, .int .i64 0, .slice none 0 0]], []⟩ 8 (by kernel_rfl) (by kernel_rfl) (by kernel_rfl)
      (x := ([.nil, .lit (.int .i64 0), .nil, .agg [.lit (.int .i64 0), .lit (.string []), .lit (.int .i64 0), .lit (.int .i64 0), .nil]], [], [])) (by kernel_rfl) rfl (by kernel_rfl)) ?_
  intro W base args ds gs before hval hW _ hk _
  exact contract H enc W base args ds gs before hval hW hk

theorem over : Rows.sessionRefusesUptoRow.holds Try.pinned (Rows.OpenSpec.upto Rows.sessionRefusesSpec) :=
  OpenClaim.holds_of_cond 7 Try.f7 rfl rfl rfl rfl rfl rfl rfl ⟨rfl, rfl, rfl, rfl, rfl⟩ rfl rfl rfl rfl rfl (by kernel_rfl) Try.func7 (by kernel_rfl)
    (of_decide_eq_true (by kernel_rfl)) (by unfold Func.isWrapper; first | (rw [if_pos (by decide +kernel)]; kernel_rfl) | (rw [if_neg (by decide +kernel)]; exact ⟨rfl, rfl⟩))
    (fun os started H enc _ F => lifted os started H enc F)

theorem proved : Rows.SessionRefusesUptoSaid := over
end Go.Proofs.Ytkblcdpmdbofgaa.sessionRefuses
namespace Go.Proofs.Ytkblcdpmdbofgaa
/-- The row, under a short name, for the claim. -/
theorem sessionRefuses_upto : Rows.SessionRefusesUptoSaid := sessionRefuses.proved
end Go.Proofs.Ytkblcdpmdbofgaa
