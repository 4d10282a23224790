/- The law SessionOwns returns true for every list of editors, every number and every list of operations, and leaves its arguments as they were: where the arguments are of bulk at most 1048576 (the second form of the statement, SessionOwnsUptoSaid). -/
import Derived.Test.YtkblcdpmdbofgaaM4
import Derived.WalkKit
import Derived.ProofKit
import Derived.OpenShut
import Derived.ShutString
import Derived.ChangeOld
import Derived.Below
import Derived.SizedLaws
import Derived.JoinedCond
/- pentaglotlaw54.same: two desks that show the same. -/
namespace Go.Proofs.Ytkblcdpmdbofgaa.A
open Go.RowKit Go.Proofs.YtkblcdpmdbofgaaW.PrintWords Go.Proofs.YtkblcdpmdbofgaaW.PrintLast Go.Proofs.YtkblcdpmdbofgaaW.PrintMore
set_option linter.unusedVariables false
set_option linter.unusedSimpArgs false

theorem shown_small {D : Dk} {n : Nat} (h : D.good n) (hn : n ≤ 90000) (id : Int) : bulkL (D.show_ id).trees ≤ 2000000 ∧ (D.show_ id).approvals.length ≤ 2000000 := by
  unfold Dk.show_
  cases hg : D.get id with
  | none => exact ⟨Nat.zero_le _, Nat.zero_le _⟩
  | some d =>
    have := h.2 d (Dk.get_mem hg)
    exact ⟨this.2.2.1, by have := this.2.1; simp only; omega⟩
theorem hist_small {D : Dk} {n : Nat} (h : D.good n) (id : Int) : (D.hist id).length ≤ 2000000 ∧ ∀ l ∈ D.hist id, bulkL l ≤ 2000000 := by
  unfold Dk.hist
  cases hg : D.get id with
  | none => exact ⟨Nat.zero_le _, fun l hl => by simp at hl⟩
  | some d =>
    have := h.2 d (Dk.get_mem hg)
    refine ⟨by have := this.1; simp only [List.length_append, List.length_cons, List.length_nil]; omega, fun l hl => ?_⟩
    rcases List.mem_append.1 hl with hl | hl
    · exact this.2.2.2 l hl
    · rw [List.mem_singleton.1 hl]; exact this.2.2.1

set_option maxHeartbeats 2000000 in
set_option maxRecDepth 100000 in
theorem same_calls (w : World) (f1 f2 : Nat → Prop) (dp1 mb1 dp2 mb2 : Nat) (D : Dk) (n : Nat) (hn : n ≤ 90000) (h1 : At w f1 dp1 mb1 D n) (h2 : At w f2 dp2 mb2 D n) :
    Calls Try.prog 28 #[.pointer (some ⟨dp1, 0, none⟩), .pointer (some ⟨dp2, 0, none⟩)] w fun e w' => e = .returned (.bool true) ∧ Below w.heap.size w w' := by
  have H1 := Aside0.mk (fun (W : World) (hB : Below w.heap.size w W) => h1.grow hB)
  have H2 := Aside0.mk (fun (W : World) (hB : Below w.heap.size w W) => h2.grow hB)
  have HG := Aside0.mk h1.1
  have HB0 := Aside0.mk (Below.refl w.heap.size w)
  have hn' := Aside0.mk hn
  have hfew : Aside0 ((D.opensTo D.drafts.length).length ≤ 2000000) := ⟨by
    obtain ⟨_, tag, sb, hD, _⟩ := h1
    have := D.opensTo_len D.drafts.length
    have := hD.few
    omega⟩
  clear h1 h2 hn
  go_enter Try.func28, Try.ntmps28
  go_wp2
  go_loopw [5] (fun i w' => ∃ x : Int, i = .int .i64 x ∧ 0 ≤ x ∧ x ≤ 43 ∧ Aside0 (Below w.heap.size w w')) (fun i _ => 43 - (intOf i).toNat)
  case atStart => exact ⟨0, rfl, Int.le_refl _, by decide, HB0⟩
  case round =>
    clear HB0
    obtain ⟨x, rfl, hx, hk, HB⟩ := hrel
    by_cases hlt : x ≤ 42
    · have q1 : decide (x ≤ 42) = true := decide_eq_true hlt
      have hid : Aside0 ((Lit.int .i64 x).wf = true) := ⟨wf_i64 (by omega) (by omega)⟩
      have D1 := Aside0.mk (fun (W : World) (hB : Below w.heap.size w W) => (H1.out W hB).draft hn'.out x hid.out)
      have D2 := Aside0.mk (fun (W : World) (hB : Below w.heap.size w W) => (H2.out W hB).draft hn'.out x hid.out)
      have K1 := Aside0.mk (fun (W : World) (hB : Below w.heap.size w W) => (H1.out W hB).history hn'.out x hid.out)
      have K2 := Aside0.mk (fun (W : World) (hB : Below w.heap.size w W) => (H2.out W hB).history hn'.out x hid.out)
      have SM := Aside0.mk (shown_small HG.out hn'.out x)
      have HM := Aside0.mk (hist_small HG.out x)
      generalize D.show_ x = s at D1 D2 SM
      generalize D.hist x = hh at K1 K2 HM
      generalize D.has x = q at D1 D2 K1 K2
      obtain ⟨s0, s1, s2, s3, s4, s5⟩ := s
      simp only [shownV] at D1 D2 SM
      go_wp2_with (first
        | (go_at_call 21; first
            | (have _ := HA1.out; refine (D2.out _ HA1.out).mono ?_; rintro e w2 ⟨vt, va, rfl, hT, hA, hB⟩; obtain ⟨At2, ct2, rfl⟩ := Kd.R_slice hT; obtain ⟨Aa2, ca2, rfl⟩ := Kd.R_slice hA; have hBx := below_alloc hB (.cells #[.int .i64 s0, .int .i64 s1, .string s2, .slice At2 s3.length ct2, .slice Aa2 s4.length ca2, .bool s5] 49); have HA2 := Aside0.mk (below_step HA1.out hBx); have T2 := Aside0.mk (Kd.R_alloc hT (.cells #[.int .i64 s0, .int .i64 s1, .string s2, .slice At2 s3.length ct2, .slice Aa2 s4.length ca2, .bool s5] 49)); have P2 := Aside0.mk (Kd.R_alloc hA (.cells #[.int .i64 s0, .int .i64 s1, .string s2, .slice At2 s3.length ct2, .slice Aa2 s4.length ca2, .bool s5] 49)); have T1b := Aside0.mk (Kd.R_below T1.out hBx); have P1b := Aside0.mk (Kd.R_below P1.out hBx); have X1b := Aside0.mk (blk_below X1.out hBx); have X2 := Aside0.mk (heap_alloc_new w2 (.cells #[.int .i64 s0, .int .i64 s1, .string s2, .slice At2 s3.length ct2, .slice Aa2 s4.length ca2, .bool s5] 49)); clear hT hA hB hBx)
            | (refine (D1.out _ HB.out).mono ?_; rintro e w1 ⟨vt, va, rfl, hT, hA, hB⟩; obtain ⟨At1, ct1, rfl⟩ := Kd.R_slice hT; obtain ⟨Aa1, ca1, rfl⟩ := Kd.R_slice hA; have HA1 := Aside0.mk (below_alloc (below_step HB.out hB) (.cells #[.int .i64 s0, .int .i64 s1, .string s2, .slice At1 s3.length ct1, .slice Aa1 s4.length ca1, .bool s5] 49)); have T1 := Aside0.mk (Kd.R_alloc hT (.cells #[.int .i64 s0, .int .i64 s1, .string s2, .slice At1 s3.length ct1, .slice Aa1 s4.length ca1, .bool s5] 49)); have P1 := Aside0.mk (Kd.R_alloc hA (.cells #[.int .i64 s0, .int .i64 s1, .string s2, .slice At1 s3.length ct1, .slice Aa1 s4.length ca1, .bool s5] 49)); have X1 := Aside0.mk (heap_alloc_new w1 (.cells #[.int .i64 s0, .int .i64 s1, .string s2, .slice At1 s3.length ct1, .slice Aa1 s4.length ca1, .bool s5] 49)); clear hT hA hB))
        | (go_at_call 19; first
            | (have _ := HA3.out; refine (K2.out _ HA3.out).mono ?_; rintro e w4 ⟨vh, rfl, hR, hB⟩; obtain ⟨Ah2, ch2, rfl⟩ := Kd.R_slice hR; have HA4 := Aside0.mk (below_step HA3.out hB); have T1d := Aside0.mk (Kd.R_reads' (Kd.R_below T1c.out hB)); have P1d := Aside0.mk (Kd.R_below P1c.out hB); have T2d := Aside0.mk (Kd.R_reads' (Kd.R_below T2c.out hB)); have P2d := Aside0.mk (Kd.R_below P2c.out hB); have R1d := Aside0.mk (Kd.R_below R1.out hB); have R2 := Aside0.mk hR; have X1d := Aside0.mk (blk_below X1c.out hB); have X2d := Aside0.mk (blk_below X2c.out hB); have a0 := blk_cell X1d.out 0; have a1 := blk_cell X1d.out 1; have a2 := blk_cell X1d.out 2; have a3 := blk_cell X1d.out 3; have a5 := blk_cell X1d.out 5; have b0 := blk_cell X2d.out 0; have b1 := blk_cell X2d.out 1; have b2 := blk_cell X2d.out 2; have b3 := blk_cell X2d.out 3; have b5 := blk_cell X2d.out 5; simp at a0 a1 a2 a3 a5 b0 b1 b2 b3 b5; clear hR hB)
            | (refine (K1.out _ HA2.out).mono ?_; rintro e w3 ⟨vh, rfl, hR, hB⟩; obtain ⟨Ah1, ch1, rfl⟩ := Kd.R_slice hR; have HA3 := Aside0.mk (below_step HA2.out hB); have T1c := Aside0.mk (Kd.R_below T1b.out hB); have P1c := Aside0.mk (Kd.R_below P1b.out hB); have T2c := Aside0.mk (Kd.R_below T2.out hB); have P2c := Aside0.mk (Kd.R_below P2.out hB); have X1c := Aside0.mk (blk_below X1b.out hB); have X2c := Aside0.mk (blk_below X2.out hB); have R1 := Aside0.mk hR; clear hR hB))
        | (go_at_call 23; refine (sameAll_calls s3 SM.out.1 T1d.out.2.2 T1d.out.2.1 T2d.out.2.2 T2d.out.2.1).mono ?_; rintro e w5 ⟨rfl, hB⟩; have HA5 := Aside0.mk (below_step HA4.out hB); have P1e := Aside0.mk (Kd.R_reads' (Kd.R_below P1d.out hB)); have P2e := Aside0.mk (Kd.R_reads' (Kd.R_below P2d.out hB)); have R1e := Aside0.mk (Kd.R_below R1d.out hB); have R2e := Aside0.mk (Kd.R_below R2.out hB); have a4 := blk_cell (blk_below X1d.out hB) 4; have b4 := blk_cell (blk_below X2d.out hB) 4; simp at a4 b4; clear hB)
        | (go_at_call 47; refine (sameStrings_calls s4 SM.out.2 P1e.out.2.2 P1e.out.2.1 P2e.out.2.2 P2e.out.2.1).mono ?_; rintro e w6 ⟨rfl, ⟨m6, rfl⟩⟩; have R1f := Aside0.mk (Kd.R_reads' (Kd.R_drewN R1e.out m6)); have R2f := Aside0.mk (Kd.R_reads' (Kd.R_drewN R2e.out m6)))
        | (go_at_call 22; refine (sameHistory_calls hh HM.out.1 HM.out.2 R1f.out.2.2 R1f.out.2.1 R2f.out.2.2 R2f.out.2.1).mono ?_; rintro e w7 ⟨rfl, hB⟩; have HA7 := Aside0.mk (below_step (pw_below_drewN HA5.out m6) hB); clear hB))
      go_roundw
      case rel => exact ⟨x + 1, rfl, by omega, by omega, HA7⟩
      case measure => simp [intOf]; omega
    · have q1 : decide (x ≤ 42) = false := decide_eq_false hlt
      have N1 := Aside0.mk (H1.out _ HB.out).drafts
      have N2 := Aside0.mk (fun (W : World) (hB : Below w.heap.size w W) => (H2.out W hB).drafts)
      generalize D.opensTo D.drafts.length = ls at N1 N2 hfew
      go_wp2_with (first
        | (go_at_call 13; first
            | (have _ := HA1.out; refine (N2.out _ HA1.out).mono ?_; rintro e w2 ⟨v, rfl, hR, hB⟩; obtain ⟨An2, cn2, rfl⟩ := Kd.R_slice hR; have HA2 := Aside0.mk (below_step HA1.out hB); have R1b := Aside0.mk (Kd.R_reads' (Kd.R_below R1.out hB)); have R2 := Aside0.mk (Kd.R_reads' hR); clear hR hB)
            | (refine N1.out.mono ?_; rintro e w1 ⟨v, rfl, hR, hB⟩; obtain ⟨An1, cn1, rfl⟩ := Kd.R_slice hR; have HA1 := Aside0.mk (below_step HB.out hB); have R1 := Aside0.mk hR; clear hR hB))
        | (go_at_call 26; refine (sameInts_calls ls hfew.out R1b.out.2.2 R1b.out.2.1 R2.out.2.2 R2.out.2.1).mono ?_; rintro e w3 ⟨rfl, ⟨m3, rfl⟩⟩))
      go_ret
      exact ⟨rfl, pw_below_drewN HA2.out m3⟩
end Go.Proofs.Ytkblcdpmdbofgaa.A
/- SessionRefuses: the walk. -/
namespace Go.Proofs.Ytkblcdpmdbofgaa.A
open Go.RowKit Go.Proofs.YtkblcdpmdbofgaaW.PrintWords Go.Proofs.YtkblcdpmdbofgaaW.PrintLast Go.Proofs.YtkblcdpmdbofgaaW.PrintMore
set_option linter.unusedVariables false
set_option linter.unusedSimpArgs false

theorem Played.no {w w' : World} {l : List ByteArray} {needed : Int} {ops : List S35} {e : Ending} (h : Played w l needed ops e w') (hc : (canNew l needed && fewS ops) = false) : e = .returned (.pointer none) ∧ Below w.heap.size w w' := by
  unfold Played at h
  rwa [hc, if_neg (by simp)] at h
theorem Played.yes {w w' : World} {l : List ByteArray} {needed : Int} {ops : List S35} {e : Ending} (h : Played w l needed ops e w') (hc : (canNew l needed && fewS ops) = true) : ∃ dp mb, e = .returned (.pointer (some ⟨dp, 0, none⟩)) ∧ Stand w w' dp mb (Dk.run ⟨l, needed, []⟩ ops) ops.length := by
  unfold Played at h
  rwa [hc, if_pos rfl] at h
theorem field37 (N E : Int) (w : World) : (Instr.field 37 (.agg #[.int .i64 N, .int .i64 E]) 1).run Try.prog w = .ok (.int .i64 E) w := by
  kernel_rfl
theorem Kp.bel {w w' : World} {S : Nat → Prop} {B : Nat} {u : World} (hB : Below B u w) (h : Kp w w' S) (hs : ∀ k, k < B → ¬ S k) (hl : B ≤ w.heap.size) : Below B u w' :=
  ⟨h.os.trans hB.os, h.tape.trans hB.tape, h.output.trans hB.output, Nat.le_trans hB.size h.size, fun k hk => (h.block k (Nat.lt_of_lt_of_le hk hl) (hs k hk)).trans (hB.block k hk)⟩

set_option maxHeartbeats 2000000 in
set_option maxRecDepth 100000 in
theorem refuses_walk (w0 : World) (A : Option Addr) (c : Nat) (l : List ByteArray) (needed : Int) (Ao : Option Addr) (co : Nat) (ops : List S35) (y : S35) (Ay : Option Addr) (cy : Nat)
    (hr : Kd.string.C w0 A l.length l) (hcp : l.length ≤ c) (hsz : ∀ x ∈ l, x.size ≤ 2000000) (hro : k35.C w0 Ao ops.length ops) (hco : ops.length ≤ co) (hlo : ops.length ≤ 2000000) (hok : ∀ x ∈ ops, opOk x)
    (hy : opOk y) (hry : k68.C w0 Ay y.f4.length y.f4) (hcy : y.f4.length ≤ cy) :
    Calls Try.prog 7 #[.slice A l.length c, .int .i64 needed, .slice Ao ops.length co, .agg #[.int .i64 y.f0, .string y.f1, .int .i64 y.f2, .int .i64 y.f3, .slice Ay y.f4.length cy]] w0 fun e w' => e = .returned (.bool true) ∧ Below w0.heap.size w0 w' := by
  have C10 := Aside0.mk (fun (W : World) => awake_calls W)
  have C18 := Aside0.mk (fun (W : World) (hW : Below w0.heap.size w0 W) => play_calls A c l needed Ao co ops W (Kd.C_below hr hW) hcp hsz (Kd.C_below hro hW) hco hlo hok)
  have HY := Aside0.mk hy
  have HRY := Aside0.mk hry
  have HCY := Aside0.mk hcy
  have HBX := Aside0.mk (below_alloc (Below.refl w0.heap.size w0) (.cells #[.int .i64 y.f0, .string y.f1, .int .i64 y.f2, .int .i64 y.f3, .slice Ay y.f4.length cy] 35))
  have HX := Aside0.mk (heap_alloc_new w0 (.cells #[.int .i64 y.f0, .string y.f1, .int .i64 y.f2, .int .i64 y.f3, .slice Ay y.f4.length cy] 35))
  clear hr hcp hsz hro hco hlo hok hy hry hcy
  cases hc : (canNew l needed && fewS ops) with
  | false =>
    have HC := Aside0.mk hc
    clear hc
    go_enter Try.func7, Try.ntmps7
    go_wp2_with (first
      | (go_at_call 10; refine (C10.out _).mono ?_; rintro e w1 ⟨rfl, hB⟩; have HB1 := Aside0.mk (below_step HBX.out hB); clear hB)
      | (go_at_call 18; first
          | (have _ := HB2.out; refine (C18.out _ HB2.out).mono ?_; rintro e w3 hP; obtain ⟨rfl, hB⟩ := hP.no HC.out; have HB3 := Aside0.mk (below_step HB2.out hB); clear hP hB)
          | (refine (C18.out _ HB1.out).mono ?_; rintro e w2 hP; obtain ⟨rfl, hB⟩ := hP.no HC.out; have HB2 := Aside0.mk (below_step HB1.out hB); clear hP hB)))
    go_ret
    exact ⟨rfl, HB3.out⟩
  | true =>
    have HC := Aside0.mk hc
    have hn40 : Aside0 (ops.length ≤ 40) := ⟨few_short (by rw [Bool.and_eq_true] at hc; exact hc.2)⟩
    clear hc
    generalize hDR : Dk.run ⟨l, needed, []⟩ ops = DR
    have HDR := Aside0.mk hDR
    clear hDR
    obtain ⟨N, E, D1, hr⟩ : ∃ N E D1, DR.doOp y = (N, E, D1) := ⟨_, _, _, rfl⟩
    have HE := Aside0.mk (doOp_err DR y)
    have HR := Aside0.mk hr
    clear hr
    by_cases h10 : y.f4.length ≤ 10
    · have t10 : decide (10 < (y.f4.length : Int)) = false := decide_eq_false (by omega)
      by_cases hE : E = 0
      · subst hE
        clear h10
        go_enter Try.func7, Try.ntmps7
        go_wp2_with (first | (go_at_call 10; refine (C10.out _).mono ?_; rintro e w1 ⟨rfl, hB⟩; have HX1 := Aside0.mk (blk_below HX.out hB); have HB1 := Aside0.mk (below_step HBX.out hB); clear hB) | (go_at_call 18; first | (have _ := S1.out; refine (C18.out _ HB2.out).mono ?_; rintro e w3 hP; obtain ⟨dp2, mb2, rfl, hS⟩ := hP.yes HC.out; rw [HDR.out] at hS; have S2 := Aside0.mk hS; have A1 := Aside0.mk (S1.out.1.grow hS.2.to); have HB3 := Aside0.mk (below_step HB2.out hS.2.to); have x0 := blk_cell (blk_below HX2.out hS.2.to) 0; have x1 := blk_cell (blk_below HX2.out hS.2.to) 1; have x2 := blk_cell (blk_below HX2.out hS.2.to) 2; have x3 := blk_cell (blk_below HX2.out hS.2.to) 3; have x4 := blk_cell (blk_below HX2.out hS.2.to) 4; simp at x0 x1 x2 x3 x4; have FY := Aside0.mk (Kd.F_mono (Kd.F_step (Kd.C_F heap68 HRY.out) (fun k hk hl => HB3.out.block k hk)) (fun k hk => (Or.inl (Nat.lt_of_lt_of_le hk HB1.out.size) : k < w1.heap.size ∨ w2.heap.size ≤ k))); clear hP hS) | (refine (C18.out _ HB1.out).mono ?_; rintro e w2 hP; obtain ⟨dp1, mb1, rfl, hS⟩ := hP.yes HC.out; rw [HDR.out] at hS; have S1 := Aside0.mk hS; have HX2 := Aside0.mk (blk_below HX1.out hS.2.to); have HB2 := Aside0.mk (below_step HB1.out hS.2.to); clear hP hS)) | (go_at_call 15; refine (do_calls A1.out (by have := hn40.out; omega) y Ay cy HY.out FY.out HCY.out).mono ?_; rintro e w4 hd; rw [HR.out] at hd; obtain ⟨rfl, hA, hK⟩ := hd; have fld := field37 N 0 w4; have HB4 := Aside0.mk (Kp.bel HB3.out hK (fun k hk h => h (.inl (Nat.lt_of_lt_of_le hk HB1.out.size))) HB3.out.size); have B1 := Aside0.mk hA; have B2 := Aside0.mk (S2.out.1.keep (hK.mono (fun k hk => Nat.lt_of_not_le (fun h => hk (.inr h))))); clear hA hK))
        go_ret
        exact ⟨rfl, HB4.out⟩
      · have hDD : Aside0 (D1 = DR) := ⟨by
          have h1 := HE.out
          rw [HR.out] at h1
          exact h1 hE⟩
        have tE : (E == 0) = false := beq_eq_false_iff_ne.mpr hE
        clear h10 hE
        go_enter Try.func7, Try.ntmps7
        go_wp2_with (first | (go_at_call 10; refine (C10.out _).mono ?_; rintro e w1 ⟨rfl, hB⟩; have HX1 := Aside0.mk (blk_below HX.out hB); have HB1 := Aside0.mk (below_step HBX.out hB); clear hB) | (go_at_call 18; first | (have _ := S1.out; refine (C18.out _ HB2.out).mono ?_; rintro e w3 hP; obtain ⟨dp2, mb2, rfl, hS⟩ := hP.yes HC.out; rw [HDR.out] at hS; have S2 := Aside0.mk hS; have A1 := Aside0.mk (S1.out.1.grow hS.2.to); have HB3 := Aside0.mk (below_step HB2.out hS.2.to); have x0 := blk_cell (blk_below HX2.out hS.2.to) 0; have x1 := blk_cell (blk_below HX2.out hS.2.to) 1; have x2 := blk_cell (blk_below HX2.out hS.2.to) 2; have x3 := blk_cell (blk_below HX2.out hS.2.to) 3; have x4 := blk_cell (blk_below HX2.out hS.2.to) 4; simp at x0 x1 x2 x3 x4; have FY := Aside0.mk (Kd.F_mono (Kd.F_step (Kd.C_F heap68 HRY.out) (fun k hk hl => HB3.out.block k hk)) (fun k hk => (Or.inl (Nat.lt_of_lt_of_le hk HB1.out.size) : k < w1.heap.size ∨ w2.heap.size ≤ k))); clear hP hS) | (refine (C18.out _ HB1.out).mono ?_; rintro e w2 hP; obtain ⟨dp1, mb1, rfl, hS⟩ := hP.yes HC.out; rw [HDR.out] at hS; have S1 := Aside0.mk hS; have HX2 := Aside0.mk (blk_below HX1.out hS.2.to); have HB2 := Aside0.mk (below_step HB1.out hS.2.to); clear hP hS)) | (go_at_call 15; refine (do_calls A1.out (by have := hn40.out; omega) y Ay cy HY.out FY.out HCY.out).mono ?_; rintro e w4 hd; rw [HR.out] at hd; obtain ⟨rfl, hA, hK⟩ := hd; have fld := field37 N E w4; have HB4 := Aside0.mk (Kp.bel HB3.out hK (fun k hk h => h (.inl (Nat.lt_of_lt_of_le hk HB1.out.size))) HB3.out.size); have B1 := Aside0.mk hA; have B2 := Aside0.mk (S2.out.1.keep (hK.mono (fun k hk => Nat.lt_of_not_le (fun h => hk (.inr h))))); clear hA hK) | (go_at_call 28; refine (same_calls w4 _ _ dp1 mb1 dp2 mb2 DR (ops.length + 1) (by have := hn40.out; omega) (hDD.out ▸ B1.out) (B2.out.mono (fun _ hk => hk) (Nat.le_succ _))).mono ?_; rintro e w5 ⟨rfl, hB⟩; have HB5 := Aside0.mk (below_step HB4.out hB); clear hB))
        go_ret
        exact ⟨rfl, HB5.out⟩
    · have t10 : decide (10 < (y.f4.length : Int)) = true := decide_eq_true (by omega)
      clear h10
      go_enter Try.func7, Try.ntmps7
      go_wp2_with (first
        | (go_at_call 10; refine (C10.out _).mono ?_; rintro e w1 ⟨rfl, hB⟩; have HX1 := Aside0.mk (blk_below HX.out hB); have HB1 := Aside0.mk (below_step HBX.out hB); clear hB)
        | (go_at_call 18; first
            | (have _ := S1.out; refine (C18.out _ HB2.out).mono ?_; rintro e w3 hP; obtain ⟨dp2, mb2, rfl, hS⟩ := hP.yes HC.out; have S2 := Aside0.mk hS; have HB3 := Aside0.mk (below_step HB2.out hS.2.to); have x4 := blk_cell (blk_below HX2.out hS.2.to) 4; simp at x4; clear hP hS)
            | (refine (C18.out _ HB1.out).mono ?_; rintro e w2 hP; obtain ⟨dp1, mb1, rfl, hS⟩ := hP.yes HC.out; have S1 := Aside0.mk hS; have HX2 := Aside0.mk (blk_below HX1.out hS.2.to); have HB2 := Aside0.mk (below_step HB1.out hS.2.to); clear hP hS)))
      go_ret
      exact ⟨rfl, HB3.out⟩
end Go.Proofs.Ytkblcdpmdbofgaa.A
/- Closed drafts; the drafts' trees are notices. -/
namespace Go.Proofs.Ytkblcdpmdbofgaa.A
open Go.RowKit Go.Proofs.YtkblcdpmdbofgaaW.PrintWords Go.Proofs.YtkblcdpmdbofgaaW.PrintLast Go.Proofs.YtkblcdpmdbofgaaW.PrintMore
set_option linter.unusedVariables false
set_option linter.unusedSimpArgs false

section
variable {D : Dk} {id : Int} {d : Dr}
theorem closed_cur (hg : D.get id = some d) (hc : d.closed = true) (num : Int) : D.cur id num = 10 := by
  unfold Dk.cur
  rw [hg]
  simp only
  rw [if_pos hc]
theorem closed_amend (hg : D.get id = some d) (hc : d.closed = true) (ed : ByteArray) (num : Int) (ts : List S68) (hv : D.valid ed ts = true) : D.amend ed id num ts = (0, 10, D) := by
  unfold Dk.amend
  rw [hv, if_neg (by simp), closed_cur hg hc, if_pos (by decide)]
theorem closed_approve (hg : D.get id = some d) (hc : d.closed = true) (ed : ByteArray) (num : Int) (hm : memS D.eds ed = true) : D.approve ed id num = (10, D) := by
  unfold Dk.approve
  rw [hm, if_neg (by simp), closed_cur hg hc, if_pos (by decide)]
theorem closed_ready (hg : D.get id = some d) (hc : d.closed = true) (num : Int) : D.ready id num = 10 := by
  unfold Dk.ready
  rw [closed_cur hg hc, if_neg (by decide), if_neg (by decide)]
theorem closed_close (hg : D.get id = some d) (hc : d.closed = true) : D.close id = (10, D) := by
  unfold Dk.close
  rw [hg]
  simp only
  rw [if_pos hc]
theorem closed_opens (hg : D.get id = some d) (hc : d.closed = true) (n : Nat) : ∀ x ∈ D.opensTo n, x ≠ id := by
  intro x hx he
  subst he
  unfold Dk.opensTo at hx
  obtain ⟨i, hi, hxi⟩ := List.mem_map.1 hx
  have hf := (List.mem_filter.1 hi).2
  unfold Dk.get at hg
  rw [if_pos (by omega), show (x - 1).toNat = i by omega] at hg
  rw [hg] at hf
  simp [hc] at hf
end

def Dk.notices (D : Dk) : Prop := ∀ d ∈ D.drafts, noticeS d.trees = true
theorem valid_notice {D : Dk} {ed : ByteArray} {ts : List S68} (h : D.valid ed ts = true) : noticeS ts = true := by
  unfold Dk.valid at h
  rw [Bool.and_eq_true] at h
  exact h.2
theorem put_notices {D : Dk} (h : D.notices) (i : Nat) {d : Dr} (hd : noticeS d.trees = true) : (D.put i d).notices := by
  intro x hx
  unfold Dk.put at hx
  rcases List.mem_or_eq_of_mem_set hx with hx | rfl
  · exact h x hx
  · exact hd
theorem doOp_notices {D : Dk} (h : D.notices) (x : S35) : (D.doOp x).2.2.notices := by
  unfold Dk.doOp
  split
  · rcases opens_cases D x.f1 x.f4 with h' | ⟨h', hv, _⟩
    · rw [h'.2.1]; exact h
    · rw [h']
      intro y hy
      unfold Dk.add at hy
      rcases List.mem_append.1 hy with hy | hy
      · exact h y hy
      · rw [List.mem_singleton.1 hy]; exact valid_notice hv
  split
  · rcases amend_cases D x.f1 x.f2 x.f3 x.f4 with h' | ⟨d, _, _, _, h', hv, _⟩
    · rw [h'.2.1]; exact h
    · rw [h']; exact put_notices h _ (valid_notice hv)
  split
  · rcases approve_cases D x.f1 x.f2 x.f3 with h' | ⟨d, hg, _, _, _, _, h'⟩
    · rw [show (0, D.approve x.f1 x.f2 x.f3).2.2 = (D.approve x.f1 x.f2 x.f3).2 from rfl, h'.2]; exact h
    · rw [show (0, D.approve x.f1 x.f2 x.f3).2.2 = (D.approve x.f1 x.f2 x.f3).2 from rfl, h']; exact put_notices h _ (h d (Dk.get_mem hg))
  split
  · exact h
  split
  · rcases close_cases D x.f2 with h' | ⟨d, hg, _, h'⟩
    · rw [show (0, D.close x.f2).2.2 = (D.close x.f2).2 from rfl, h'.2]; exact h
    · rw [show (0, D.close x.f2).2.2 = (D.close x.f2).2 from rfl, h']; exact put_notices h _ (h d (Dk.get_mem hg))
  · exact h
theorem run_notices {D : Dk} (h : D.notices) (l : List S35) : (D.run l).notices := by
  induction l generalizing D with
  | nil => exact h
  | cons x r ih => exact ih (doOp_notices h x)
end Go.Proofs.Ytkblcdpmdbofgaa.A
/- SessionAmends: the walks that end early. -/
namespace Go.Proofs.Ytkblcdpmdbofgaa.A
open Go.RowKit Go.Proofs.YtkblcdpmdbofgaaW.PrintWords Go.Proofs.YtkblcdpmdbofgaaW.PrintLast Go.Proofs.YtkblcdpmdbofgaaW.PrintMore
set_option linter.unusedVariables false
set_option linter.unusedSimpArgs false

set_option maxHeartbeats 2000000 in
set_option maxRecDepth 100000 in
theorem amends_early (w0 : World) (A : Option Addr) (c : Nat) (l : List ByteArray) (needed : Int) (Ao : Option Addr) (co : Nat) (ops : List S35) (y : S35) (Ay : Option Addr) (cy : Nat)
    (hr : Kd.string.C w0 A l.length l) (hcp : l.length ≤ c) (hsz : ∀ x ∈ l, x.size ≤ 2000000) (hro : k35.C w0 Ao ops.length ops) (hco : ops.length ≤ co) (hlo : ops.length ≤ 2000000) (hok : ∀ x ∈ ops, opOk x)
    (hy : opOk y) (hry : k68.C w0 Ay y.f4.length y.f4) (hcy : y.f4.length ≤ cy) (hc : (canNew l needed && fewS ops) = false ∨ (canNew l needed && fewS ops) = true ∧ 10 < y.f4.length ∨ (canNew l needed && fewS ops) = true ∧ y.f4.length ≤ 10 ∧ ((Dk.run ⟨l, needed, []⟩ ops).amend y.f1 y.f2 y.f3 y.f4).2.1 ≠ 0) :
    Calls Try.prog 5 #[.slice A l.length c, .int .i64 needed, .slice Ao ops.length co, .agg #[.int .i64 y.f0, .string y.f1, .int .i64 y.f2, .int .i64 y.f3, .slice Ay y.f4.length cy]] w0 fun e w' => e = .returned (.bool true) ∧ Below w0.heap.size w0 w' := by
  have C10 := Aside0.mk (fun (W : World) => awake_calls W)
  have C18 := Aside0.mk (fun (W : World) (hW : Below w0.heap.size w0 W) => play_calls A c l needed Ao co ops W (Kd.C_below hr hW) hcp hsz (Kd.C_below hro hW) hco hlo hok)
  have HY := Aside0.mk hy
  have HRY := Aside0.mk hry
  have HCY := Aside0.mk hcy
  have HBX := Aside0.mk (below_alloc (Below.refl w0.heap.size w0) (.cells #[.int .i64 y.f0, .string y.f1, .int .i64 y.f2, .int .i64 y.f3, .slice Ay y.f4.length cy] 35))
  have HX := Aside0.mk (heap_alloc_new w0 (.cells #[.int .i64 y.f0, .string y.f1, .int .i64 y.f2, .int .i64 y.f3, .slice Ay y.f4.length cy] 35))
  clear hr hcp hsz hro hco hlo hok hy hry hcy
  rcases hc with hc | ⟨hc, h10⟩ | ⟨hc, h10, hE⟩
  · have HC := Aside0.mk hc
    clear hc
    go_enter Try.func5, Try.ntmps5
    go_wp2_with (first
      | (go_at_call 10; refine (C10.out _).mono ?_; rintro e w1 ⟨rfl, hB⟩; have HB1 := Aside0.mk (below_step HBX.out hB); clear hB)
      | (go_at_call 18; refine (C18.out _ HB1.out).mono ?_; rintro e w2 hP; obtain ⟨rfl, hB⟩ := hP.no HC.out; have HB2 := Aside0.mk (below_step HB1.out hB); clear hP hB))
    go_ret
    exact ⟨rfl, HB2.out⟩
  · have HC := Aside0.mk hc
    have t10 : decide (10 < (y.f4.length : Int)) = true := decide_eq_true (by omega)
    clear hc h10
    go_enter Try.func5, Try.ntmps5
    go_wp2_with (first
      | (go_at_call 10; refine (C10.out _).mono ?_; rintro e w1 ⟨rfl, hB⟩; have HX1 := Aside0.mk (blk_below HX.out hB); have HB1 := Aside0.mk (below_step HBX.out hB); clear hB)
      | (go_at_call 18; refine (C18.out _ HB1.out).mono ?_; rintro e w2 hP; obtain ⟨dp, mb, rfl, hS⟩ := hP.yes HC.out; have HB2 := Aside0.mk (below_step HB1.out hS.2.to); have x4 := blk_cell (blk_below HX1.out hS.2.to) 4; simp at x4; clear hP hS))
    go_ret
    exact ⟨rfl, HB2.out⟩
  · have HC := Aside0.mk hc
    have hn40 : Aside0 (ops.length ≤ 40) := ⟨few_short (by rw [Bool.and_eq_true] at hc; exact hc.2)⟩
    have t10 : decide (10 < (y.f4.length : Int)) = false := decide_eq_false (by omega)
    obtain ⟨DR, hDR⟩ : ∃ DR, Dk.run ⟨l, needed, []⟩ ops = DR := ⟨_, rfl⟩
    have HDR := Aside0.mk hDR
    rw [hDR] at hE
    obtain ⟨E, D1, hr, hE'⟩ : ∃ E D1, DR.amend y.f1 y.f2 y.f3 y.f4 = (0, E, D1) ∧ E ≠ 0 := by
      rcases amend_cases DR y.f1 y.f2 y.f3 y.f4 with hh | ⟨d, _, _, _, hh, _⟩
      · exact ⟨_, _, by rw [← hh.2.2], hh.1⟩
      · rw [hh] at hE; exact absurd rfl hE
    have HR := Aside0.mk hr
    have tE : (E != 0) = true := bne_iff_ne.mpr hE'
    clear hc h10 hE hr hE' hDR
    go_enter Try.func5, Try.ntmps5
    go_wp2_with (first
      | (go_at_call 10; refine (C10.out _).mono ?_; rintro e w1 ⟨rfl, hB⟩; have HX1 := Aside0.mk (blk_below HX.out hB); have HB1 := Aside0.mk (below_step HBX.out hB); clear hB)
      | (go_at_call 18; refine (C18.out _ HB1.out).mono ?_; rintro e w2 hP; obtain ⟨dp, mb, rfl, hS⟩ := hP.yes HC.out; rw [HDR.out] at hS; have S := Aside0.mk hS; have HX2 := Aside0.mk (blk_below HX1.out hS.2.to); have HB2 := Aside0.mk (below_step HB1.out hS.2.to); have x2 := blk_cell HX2.out 2; have x4 := blk_cell HX2.out 4; simp at x2 x4; clear hP hS)
      | (go_at_call 19; refine (S.out.1.history (by have := hn40.out; omega) y.f2 HY.out.2.1).mono ?_; rintro e w3 ⟨v, rfl, hR, hB⟩; have A3 := Aside0.mk (S.out.1.grow hB); have HB3 := Aside0.mk (below_step HB2.out hB); have z1 := blk_cell (blk_below HX2.out hB) 1; have z2 := blk_cell (blk_below HX2.out hB) 2; have z3 := blk_cell (blk_below HX2.out hB) 3; have z4 := blk_cell (blk_below HX2.out hB) 4; simp at z1 z2 z3 z4; clear hR hB)
      | (go_at_call 20; refine (A3.out.amend (by have := hn40.out; omega) y.f1 y.f2 y.f3 y.f4 Ay cy HY.out.2.1 HY.out.2.2.2 (Kd.F_mono (Kd.F_step (Kd.C_F heap68 HRY.out) (fun k hk hl => HB3.out.block k hk)) (fun k hk => .inl (Nat.lt_of_lt_of_le hk HB1.out.size))) HCY.out).mono ?_; rintro e w4 ⟨rfl, _, hK⟩; rw [HR.out]; simp only [two]; have HB4 := Aside0.mk (Kp.bel HB3.out hK (fun k hk hn => hn (.inl (Nat.lt_of_lt_of_le hk HB1.out.size))) HB3.out.size); clear hK))
    go_ret
    exact ⟨rfl, HB4.out⟩
end Go.Proofs.Ytkblcdpmdbofgaa.A
/- Rows that are only written to; two desks beside them. -/
namespace Go.Proofs.Ytkblcdpmdbofgaa.A
open Go.RowKit Go.Proofs.YtkblcdpmdbofgaaW.PrintWords Go.Proofs.YtkblcdpmdbofgaaW.PrintLast Go.Proofs.YtkblcdpmdbofgaaW.PrintMore
set_option linter.unusedVariables false
set_option linter.unusedSimpArgs false

/-- A row of n elements of sz cells, of type e, in a block g that is in S: what it holds is not told. -/
def Slab (w : World) (S : Nat → Prop) (e sz : Nat) (A : Option Addr) (n : Nat) : Prop :=
  n = 0 ∨ ∃ g cells, A = some ⟨g, 0, none⟩ ∧ S g ∧ w.heap[g]? = some (.cells cells e (0, 0)) ∧ n * sz ≤ cells.size
theorem Slab.step {w w1 : World} {S : Nat → Prop} {e sz n : Nat} {A : Option Addr} (h : Slab w S e sz A n) (hk : ∀ k, S k → k < w.heap.size → w1.heap[k]? = w.heap[k]?) : Slab w1 S e sz A n := by
  rcases h with h | ⟨g, cells, rfl, hg, hb, hn⟩
  · exact .inl h
  · exact .inr ⟨g, cells, rfl, hg, (hk g hg (blk_lt hb)).trans hb, hn⟩
theorem Slab.mono {w : World} {S S' : Nat → Prop} {e sz n : Nat} {A : Option Addr} (h : Slab w S e sz A n) (hs : ∀ k, S k → S' k) : Slab w S' e sz A n := by
  rcases h with h | ⟨g, cells, hA, hg, hb, hn⟩
  · exact .inl h
  · exact .inr ⟨g, cells, hA, hs g hg, hb, hn⟩
theorem Slab.of_R {α : Type} {d : Kd α} {e n c base : Nat} {w : World} {ok : Nat → Prop} {A : Option Addr} {xs : List α} (h : d.R e w base ok (.slice A n c) xs) (hs : 0 < d.sz) : Slab w ok e d.sz A n := by
  obtain ⟨hn, hc, hC⟩ := Kd.R_reads' h
  rcases Nat.eq_zero_or_pos n with h0 | hp
  · exact .inl h0
  · obtain ⟨g, cap, hv, hb, hlt, cells, hcell⟩ := Kd.N_form (Kd.R_N h) (by omega)
    injection hv with hA _ _
    subst hA
    refine .inr ⟨g, cells, rfl, h.1 g rfl, hcell, ?_⟩
    obtain ⟨ad, e1, hx⟩ := hC.2.2 (by omega)
    injection e1 with e1
    subst e1
    obtain ⟨cs, hl, _, hcc⟩ := hx (n - 1) _ (List.getElem?_eq_getElem (by omega))
    have h3 := hcc (d.sz - 1) _ (List.getElem?_eq_getElem (by omega))
    rw [add_plain g ((n - 1) * d.sz + (d.sz - 1))] at h3
    rw [blk_cell hcell] at h3
    have h4 := (Array.getElem?_eq_some_iff.1 h3).1
    have h5 : (n - 1) * d.sz + d.sz = n * d.sz := by
      have : n = (n - 1) + 1 := by omega
      rw [this, Nat.add_mul, Nat.one_mul]
      simp
    omega
end Go.Proofs.Ytkblcdpmdbofgaa.A
/- Two desks and what their caller keeps. -/
namespace Go.Proofs.Ytkblcdpmdbofgaa.A
open Go.RowKit Go.Proofs.YtkblcdpmdbofgaaW.PrintWords Go.Proofs.YtkblcdpmdbofgaaW.PrintLast Go.Proofs.YtkblcdpmdbofgaaW.PrintMore
set_option linter.unusedVariables false
set_option linter.unusedSimpArgs false

/-- Desk 1 (D) and desk 2 (D2); F1 and F2: blocks that are not theirs. -/
structure Two (w0 w : World) (F1 F2 : Nat → Prop) (dp mb : Nat) (D : Dk) (n : Nat) (dp2 mb2 : Nat) (D2 : Dk) (n2 : Nat) : Prop where
  d1 : At w F1 dp mb D n
  d2 : At w F2 dp2 mb2 D2 n2
  below : Below w0.heap.size w0 w
  base : ∀ k, k < w0.heap.size → F1 k
  one : ∀ k, F1 k ∨ F2 k
section
variable {w0 w w1 : World} {F1 F2 : Nat → Prop} {dp mb : Nat} {D : Dk} {n dp2 mb2 : Nat} {D2 : Dk} {n2 : Nat}
theorem Two.grow (h : Two w0 w F1 F2 dp mb D n dp2 mb2 D2 n2) (hB : Below w.heap.size w w1) : Two w0 w1 (fun k => F1 k ∨ w.heap.size ≤ k) (fun k => F2 k ∨ w.heap.size ≤ k) dp mb D n dp2 mb2 D2 n2 :=
  ⟨h.d1.grow hB, h.d2.grow hB, below_step h.below hB, fun k hk => .inl (h.base k hk), fun k => (h.one k).elim (fun h => .inl (.inl h)) (fun h => .inr (.inl h))⟩
theorem Two.weak {F1' F2' : Nat → Prop} (h : Two w0 w F1 F2 dp mb D n dp2 mb2 D2 n2) (h1 : ∀ k, F1' k → F1 k) (h2 : ∀ k, F2' k → F2 k) (hb : ∀ k, k < w0.heap.size → F1' k) (ho : ∀ k, F1' k ∨ F2' k) : Two w0 w F1' F2' dp mb D n dp2 mb2 D2 n2 :=
  ⟨h.d1.mono h1 (Nat.le_refl _), h.d2.mono h2 (Nat.le_refl _), h.below, hb, ho⟩
theorem Two.did {r : Int × Int × Dk} {m : Nat} {e : Ending} (h : Two w0 w F1 F2 dp mb D n dp2 mb2 D2 n2) (hd : Did w F1 dp mb r m e w1) (hl : w0.heap.size ≤ w.heap.size) : At w1 (fun k => F1 k ∧ k < w.heap.size) dp mb r.2.2 m ∧ At w1 F2 dp2 mb2 D2 n2 ∧ Below w0.heap.size w0 w1 ∧ Kp w w1 (fun k => ¬ F1 k) := by
  obtain ⟨_, hA, hK⟩ := hd
  refine ⟨hA, (h.d2.keep (hK.mono (fun k hk => (h.one k).resolve_left hk))).mono (fun k hk => .inl hk) (Nat.le_refl _), Kp.bel h.below hK (fun k hk hn => hn (h.base k hk)) hl, hK⟩
theorem Two.store (h : Two w0 w F1 F2 dp mb D n dp2 mb2 D2 n2) {g : Nat} (h1 : F1 g) (h2 : F2 g) (h0 : w0.heap.size ≤ g) (hl : w0.heap.size ≤ w.heap.size) (hK : Kp w w1 (fun k => k = g)) : Two w0 w1 F1 F2 dp mb D n dp2 mb2 D2 n2 :=
  ⟨(h.d1.keep (hK.mono (fun k hk => hk ▸ h1))).mono (fun k hk => .inl hk) (Nat.le_refl _), (h.d2.keep (hK.mono (fun k hk => hk ▸ h2))).mono (fun k hk => .inl hk) (Nat.le_refl _), Kp.bel h.below hK (fun k hk hn => by rw [hn] at hk; omega) hl, h.base, h.one⟩
end
end Go.Proofs.Ytkblcdpmdbofgaa.A
/- SessionOwns: the walk. -/
namespace Go.Proofs.Ytkblcdpmdbofgaa.A
open Go.RowKit Go.Proofs.YtkblcdpmdbofgaaW.PrintWords Go.Proofs.YtkblcdpmdbofgaaW.PrintLast Go.Proofs.YtkblcdpmdbofgaaW.PrintMore
set_option linter.unusedVariables false
set_option linter.unusedSimpArgs false

set_option maxHeartbeats 4000000 in
set_option maxRecDepth 100000 in
theorem owns_no (w0 : World) (A : Option Addr) (c : Nat) (l : List ByteArray) (needed : Int) (Ao : Option Addr) (co : Nat) (ops : List S35)
    (hr : Kd.string.C w0 A l.length l) (hcp : l.length ≤ c) (hl : l.length ≤ 2000000) (hsz : ∀ x ∈ l, x.size ≤ 2000000) (hro : k35.C w0 Ao ops.length ops) (hco : ops.length ≤ co) (hlo : ops.length ≤ 2000000) (hok : ∀ x ∈ ops, opOk x) (hc : (canNew l needed && fewS ops) = false) :
    Calls Try.prog 9 #[.slice A l.length c, .int .i64 needed, .slice Ao ops.length co] w0 fun e w' => e = .returned (.bool true) ∧ Below w0.heap.size w0 w' := by
  have C10 := Aside0.mk (fun (W : World) => awake_calls W)
  have C18 := Aside0.mk (fun (W : World) (hW : Below w0.heap.size w0 W) => play_calls A c l needed Ao co ops W (Kd.C_below hr hW) hcp hsz (Kd.C_below hro hW) hco hlo hok)
  have HSZ := Aside0.mk hsz
  have HC := Aside0.mk hc
  have HRL := Aside0.mk hr
  have HL : Aside0 ((([] : List ByteArray).length + l.length) * 16 ≤ 140737488355328) := ⟨by simp; omega⟩
  clear hr hcp hsz hro hco hlo hok hc hl
  cases hn : canNew l needed with
  | false =>
    have HN := Aside0.mk (fun (W : World) e w' (h : Made W l needed e w') => (show e = .returned (.tuple #[.pointer none, .int .i64 1]) ∧ Below W.heap.size W w' by unfold Made at h; rwa [hn, if_neg (by simp)] at h))
    clear hn
    go_enter Try.func9, Try.ntmps9
    go_wp2_with (first
      | (go_at_call 10; refine (C10.out _).mono ?_; rintro e w1 ⟨rfl, hB⟩; have HB1 := Aside0.mk hB; have HE := Aside0.mk (R_empty Kd.string 9 w1 w1.heap.size (fun k => w1.heap.size ≤ k) (Nat.le_refl _) (Nat.le_refl _)); have HEB := Aside0.mk (below_alloc (Below.refl w1.heap.size w1) (.cells #[] 9)); clear hB)
      | (at_builtin; refine Kd.R_append_rows Kd.string (w0 := w1) w1.heap.size rfl _ _ 22 9 (.string ⟨#[]⟩) 16 rfl Try.underlying22 info9 rfl (by decide) (by decide) _ [] l A l.length c (fun k => w1.heap.size ≤ k) (fun _ => False) rfl rfl HE.out (Kd.C_below HRL.out (below_step HB1.out HEB.out)) (fun _ _ h => h) (fun _ h => h.elim) (fun _ h => Nat.le_trans (by simp) h) HEB.out HEB.out.size HL.out ?_; intro v1 w2 hN hB hg _; obtain ⟨Av, cv, rfl⟩ := Kd.R_slice hN; have HN1 := Aside0.mk (Kd.R_reads' hN); have HB2 := Aside0.mk (below_step HB1.out hB); clear hN hB hg)
      | (go_at_call 11; refine (new_calls Av cv l needed w2 HN1.out.2.2 HN1.out.2.1 HSZ.out).mono ?_; rintro e w3 hM; obtain ⟨rfl, hB⟩ := HN.out _ _ _ hM; have HB3 := Aside0.mk (below_step HB2.out hB); clear hM hB)
      | (go_at_call 18; refine (C18.out _ HB3.out).mono ?_; rintro e w4 hP; obtain ⟨rfl, hB⟩ := hP.no HC.out; have HB4 := Aside0.mk (below_step HB3.out hB); clear hP hB))
    go_ret
    exact ⟨rfl, HB4.out⟩
  | true =>
    have HN := Aside0.mk hn
    clear hn
    go_enter Try.func9, Try.ntmps9
    go_wp2_with (first
      | (go_at_call 10; refine (C10.out _).mono ?_; rintro e w1 ⟨rfl, hB⟩; have HB1 := Aside0.mk hB; have HE := Aside0.mk (R_empty Kd.string 9 w1 w1.heap.size (fun k => w1.heap.size ≤ k) (Nat.le_refl _) (Nat.le_refl _)); have HEB := Aside0.mk (below_alloc (Below.refl w1.heap.size w1) (.cells #[] 9)); clear hB)
      | (at_builtin; refine Kd.R_append_rows Kd.string (w0 := w1) w1.heap.size rfl _ _ 22 9 (.string ⟨#[]⟩) 16 rfl Try.underlying22 info9 rfl (by decide) (by decide) _ [] l A l.length c (fun k => w1.heap.size ≤ k) (fun _ => False) rfl rfl HE.out (Kd.C_below HRL.out (below_step HB1.out HEB.out)) (fun _ _ h => h) (fun _ h => h.elim) (fun _ h => Nat.le_trans (by simp) h) HEB.out HEB.out.size HL.out ?_; intro v1 w2 hN hB hg _; obtain ⟨Av, cv, rfl⟩ := Kd.R_slice hN; have HN1 := Aside0.mk (Kd.R_reads' hN); have HB2 := Aside0.mk (below_step HB1.out hB); clear hN hB hg)
      | (go_at_call 11; refine (new_calls Av cv l needed w2 HN1.out.2.2 HN1.out.2.1 HSZ.out).mono ?_; rintro e w3 hM; obtain ⟨dp, mb, rfl, hS⟩ := new_stand (w0 := w2) hM HN.out (Kept0.refl w2); have HB3 := Aside0.mk (below_step HB2.out hS.2.to); clear hM hS)
      | (go_at_call 18; refine (C18.out _ HB3.out).mono ?_; rintro e w4 hP; obtain ⟨rfl, hB⟩ := hP.no HC.out; have HB4 := Aside0.mk (below_step HB3.out hB); clear hP hB))
    go_ret
    exact ⟨rfl, HB4.out⟩
end Go.Proofs.Ytkblcdpmdbofgaa.A
/- SessionOwns: the caller's state between operations. -/
namespace Go.Proofs.Ytkblcdpmdbofgaa.A
open Go.RowKit Go.Proofs.YtkblcdpmdbofgaaW.PrintWords Go.Proofs.YtkblcdpmdbofgaaW.PrintLast Go.Proofs.YtkblcdpmdbofgaaW.PrintMore
set_option linter.unusedVariables false
set_option linter.unusedSimpArgs false

/-- Desk 1 (D) and desk 2 (D2); the blocks from m to M are the caller's own. -/
structure Own (w0 : World) (b1 b3 b4 dp mb dp2 mb2 : Nat) (D2 : Dk) (n2 : Nat) (w : World) (m M : Nat) (D : Dk) (n : Nat) : Prop where
  d1 : At w (fun k => k < b1 ∨ (b3 ≤ k ∧ k < b4) ∨ (m ≤ k ∧ k < M)) dp mb D n
  d2 : At w (fun k => k < b3 ∨ b4 ≤ k) dp2 mb2 D2 n2
  below : Below w0.heap.size w0 w
  big : b4 ≤ w.heap.size
  ord : w0.heap.size ≤ b1 ∧ b1 ≤ b3 ∧ b3 ≤ b4
  lo : m < M → b4 ≤ m
section
variable {w0 : World} {b1 b3 b4 dp mb dp2 mb2 : Nat} {D2 : Dk} {n2 : Nat} {w w1 : World} {m M : Nat} {D : Dk} {n : Nat}
theorem Own.reset (h : Own w0 b1 b3 b4 dp mb dp2 mb2 D2 n2 w m M D n) : Own w0 b1 b3 b4 dp mb dp2 mb2 D2 n2 w 0 0 D n :=
  ⟨h.d1.mono (fun k hk => by omega) (Nat.le_refl _), h.d2, h.below, h.big, h.ord, fun h => by omega⟩
theorem Own.grow (h : Own w0 b1 b3 b4 dp mb dp2 mb2 D2 n2 w 0 0 D n) (hB : Below w.heap.size w w1) : Own w0 b1 b3 b4 dp mb dp2 mb2 D2 n2 w1 w.heap.size w1.heap.size D n :=
  ⟨(h.d1.grow hB).mono (fun k hk => by omega) (Nat.le_refl _), (h.d2.grow hB).mono (fun k hk => .inl hk) (Nat.le_refl _), below_step h.below hB, Nat.le_trans h.big hB.size, h.ord, fun _ => h.big⟩
theorem Own.more (h : Own w0 b1 b3 b4 dp mb dp2 mb2 D2 n2 w m w.heap.size D n) (hB : Below w.heap.size w w1) (hm : m ≤ w.heap.size) (hb : b4 ≤ m) : Own w0 b1 b3 b4 dp mb dp2 mb2 D2 n2 w1 m w1.heap.size D n :=
  ⟨(h.d1.grow hB).mono (fun k hk => by omega) (Nat.le_refl _), (h.d2.grow hB).mono (fun k hk => .inl hk) (Nat.le_refl _), below_step h.below hB, Nat.le_trans h.big hB.size, h.ord, fun _ => hb⟩
theorem Own.did {r : Int × Int × Dk} {n' : Nat} {e : Ending} (h : Own w0 b1 b3 b4 dp mb dp2 mb2 D2 n2 w m w.heap.size D n) (hd : Did w (fun k => k < b1 ∨ (b3 ≤ k ∧ k < b4) ∨ (m ≤ k ∧ k < w.heap.size)) dp mb r n' e w1) :
    Own w0 b1 b3 b4 dp mb dp2 mb2 D2 n2 w1 m w.heap.size r.2.2 n' ∧ Kp w w1 (fun k => ¬ (k < b1 ∨ (b3 ≤ k ∧ k < b4) ∨ (m ≤ k ∧ k < w.heap.size))) := by
  obtain ⟨_, hA, hK⟩ := hd
  have hb := h.big
  have ho := h.ord
  refine ⟨⟨hA.mono (fun k hk => by omega) (Nat.le_refl _), (h.d2.keep (hK.mono (fun k hk => by omega))).mono (fun k hk => .inl hk) (Nat.le_refl _), Kp.bel h.below hK (fun k hk hn => by omega) (by omega), Nat.le_trans h.big hK.size, ho, h.lo⟩, hK⟩
theorem Own.store (h : Own w0 b1 b3 b4 dp mb dp2 mb2 D2 n2 w m M D n) {g : Nat} (h1 : (w0.heap.size ≤ g ∧ g < b1) ∨ (m ≤ g ∧ g < M)) (hK : Kp w w1 (fun k => k = g)) : Own w0 b1 b3 b4 dp mb dp2 mb2 D2 n2 w1 m M D n := by
  have ho := h.ord
  have hl := h.lo
  have hb := h.big
  exact ⟨(h.d1.keep (hK.mono (fun k hk => by omega))).mono (fun k hk => .inl hk) (Nat.le_refl _), (h.d2.keep (hK.mono (fun k hk => by omega))).mono (fun k hk => .inl hk) (Nat.le_refl _), Kp.bel h.below hK (fun k hk hn => by omega) (by omega), Nat.le_trans hb hK.size, ho, hl⟩
theorem Own.drew (h : Own w0 b1 b3 b4 dp mb dp2 mb2 D2 n2 w m M D n) : Own w0 b1 b3 b4 dp mb dp2 mb2 D2 n2 w.drew m M D n := by
  have hB : Below w.heap.size w w.drew := below_drew (Below.refl _ _)
  exact ⟨(h.d1.grow hB).mono (fun k hk => .inl hk) (Nat.le_refl _), (h.d2.grow hB).mono (fun k hk => .inl hk) (Nat.le_refl _), below_step h.below hB, h.big, h.ord, h.lo⟩
end
theorem Slab.put {w : World} {S : Nat → Prop} {e sz n : Nat} {A : Option Addr} (h : Slab w S e sz A n) (g i : Nat) (u : Value) : Slab (w.setCell ⟨g, i, none⟩ u) S e sz A n := by
  rcases h with h | ⟨g', cells, rfl, hg, hb, hn⟩
  · exact .inl h
  · by_cases he : g' = g
    · subst he
      exact .inr ⟨g', _, rfl, hg, blk_set hb i u, by simpa using hn⟩
    · exact .inr ⟨g', _, rfl, hg, blk_far hb he u, hn⟩
theorem Slab.bound {w : World} {S : Nat → Prop} {e sz n : Nat} {A : Option Addr} (h : Slab w S e sz A n) : Slab w (fun k => S k ∧ k < w.heap.size) e sz A n := by
  rcases h with h | ⟨g, cells, hA, hg, hb, hn⟩
  · exact .inl h
  · exact .inr ⟨g, cells, hA, ⟨hg, blk_lt hb⟩, hb, hn⟩
theorem Slab.of_NC {α : Type} {d : Kd α} {e n c base : Nat} {w : World} {ok : Nat → Prop} {A : Option Addr} {xs : List α} (h : Kd.N d e w base ok (.slice A n c) xs) (hs : 0 < d.sz) : Slab w (fun k => ok k ∧ base ≤ k) e d.sz A n := by
  obtain ⟨hn, hc, hC⟩ := Kd.N_reads' h
  rcases Nat.eq_zero_or_pos n with h0 | hp
  · exact .inl h0
  · obtain ⟨g, cap, hv, hb, hlt, cells, hcell⟩ := Kd.N_form h (by omega)
    injection hv with hA _ _
    subst hA
    refine .inr ⟨g, cells, rfl, ⟨h.1 g rfl, hb⟩, hcell, ?_⟩
    obtain ⟨ad, e1, hx⟩ := hC.2.2 (by omega)
    injection e1 with e1
    subst e1
    obtain ⟨cs, hl, _, hcc⟩ := hx (n - 1) _ (List.getElem?_eq_getElem (by omega))
    have h3 := hcc (d.sz - 1) _ (List.getElem?_eq_getElem (by omega))
    rw [add_plain g ((n - 1) * d.sz + (d.sz - 1))] at h3
    rw [blk_cell hcell] at h3
    have h4 := (Array.getElem?_eq_some_iff.1 h3).1
    have h5 : (n - 1) * d.sz + d.sz = n * d.sz := by
      have : n = (n - 1) + 1 := by omega
      rw [this, Nat.add_mul, Nat.one_mul]
      simp
    omega
/-- The cells of an element, and that none is frozen. -/
theorem Slab.at1 {w : World} {S : Nat → Prop} {e n : Nat} {A : Option Addr} (h : Slab w S e 1 A n) (x : Int) (h0 : 0 ≤ x) (h1 : x < n) : ∃ g v, A = some ⟨g, 0, none⟩ ∧ S g ∧ w.cell? ⟨g, x.toNat, none⟩ = some v ∧ w.frozen? ⟨g, x.toNat, none⟩ = false := by
  rcases h with h | ⟨g, cells, rfl, hg, hb, hn⟩
  · omega
  · exact ⟨g, cells[x.toNat], rfl, hg, (blk_cell hb _).trans (Array.getElem?_eq_getElem (by omega)), blk_frozen hb _⟩
theorem Slab.at1b {w : World} {S : Nat → Prop} {e n : Nat} {A : Option Addr} (h : Slab w S e 1 A n) (x : Int) (h0 : 0 ≤ x) (h1 : x < n) : ∃ g v cells, A = some ⟨g, 0, none⟩ ∧ S g ∧ w.heap[g]? = some (.cells cells e (0, 0)) ∧ w.cell? ⟨g, x.toNat, none⟩ = some v ∧ w.frozen? ⟨g, x.toNat, none⟩ = false := by
  rcases h with h | ⟨g, cells, rfl, hg, hb, hn⟩
  · omega
  · exact ⟨g, cells[x.toNat], cells, rfl, hg, hb, (blk_cell hb _).trans (Array.getElem?_eq_getElem (by omega)), blk_frozen hb _⟩
theorem Slab.at3 {w : World} {S : Nat → Prop} {e n : Nat} {A : Option Addr} (h : Slab w S e 3 A n) (x : Int) (h0 : 0 ≤ x) (h1 : x < n) : ∃ g a b c cells, A = some ⟨g, 0, none⟩ ∧ S g ∧ w.heap[g]? = some (.cells cells e (0, 0)) ∧ w.cell? ⟨g, x.toNat * 3, none⟩ = some a ∧ w.cell? ⟨g, x.toNat * 3 + 1, none⟩ = some b ∧ w.cell? ⟨g, x.toNat * 3 + 2, none⟩ = some c ∧ w.frozen? ⟨g, x.toNat * 3, none⟩ = false ∧ w.frozen? ⟨g, x.toNat * 3 + 1, none⟩ = false ∧ w.frozen? ⟨g, x.toNat * 3 + 2, none⟩ = false := by
  rcases h with h | ⟨g, cells, rfl, hg, hb, hn⟩
  · omega
  · exact ⟨g, cells[x.toNat * 3]'(by omega), cells[x.toNat * 3 + 1]'(by omega), cells[x.toNat * 3 + 2]'(by omega), cells, rfl, hg, hb, (blk_cell hb _).trans (Array.getElem?_eq_getElem (by omega)), (blk_cell hb _).trans (Array.getElem?_eq_getElem (by omega)), (blk_cell hb _).trans (Array.getElem?_eq_getElem (by omega)), blk_frozen hb _, blk_frozen hb _, blk_frozen hb _⟩
/-- Three cells that are written. -/
def put3 (w : World) (g i : Nat) (a b c : Value) : World := ((w.setCell ⟨g, i, none⟩ a).setCell ⟨g, i + 1, none⟩ b).setCell ⟨g, i + 2, none⟩ c
theorem Slab.put3 {w : World} {S : Nat → Prop} {e sz n : Nat} {A : Option Addr} (h : Slab w S e sz A n) (g i : Nat) (a b c : Value) : Slab (put3 w g i a b c) S e sz A n := ((h.put g i a).put g (i + 1) b).put g (i + 2) c
theorem Kp.put3 (w : World) (g i : Nat) (a b c : Value) : Kp w (put3 w g i a b c) (fun k => k = g) := ((Kp.setCell w ⟨g, i, none⟩ a).then_ (Kp.setCell _ ⟨g, i + 1, none⟩ b) (fun k hk => .inl hk)).then_ (Kp.setCell _ ⟨g, i + 2, none⟩ c) (fun k hk => .inl hk)
theorem blk_put3 {w : World} {k g : Nat} {t : TypeId} {cs : Array Value} (h : w.heap[k]? = some (.cells cs t (0, 0))) (hne : k ≠ g) (i : Nat) (a b c : Value) : (put3 w g i a b c).heap[k]? = some (.cells cs t (0, 0)) := blk_far (p := ⟨g, i + 2, none⟩) (blk_far (p := ⟨g, i + 1, none⟩) (blk_far (p := ⟨g, i, none⟩) h hne a) hne b) hne c
end Go.Proofs.Ytkblcdpmdbofgaa.A
/- SessionOwns: the walk of two desks. -/
namespace Go.Proofs.Ytkblcdpmdbofgaa.A
open Go.RowKit Go.Proofs.YtkblcdpmdbofgaaW.PrintWords Go.Proofs.YtkblcdpmdbofgaaW.PrintLast Go.Proofs.YtkblcdpmdbofgaaW.PrintMore
set_option linter.unusedVariables false
set_option linter.unusedSimpArgs false

theorem At.mono' {w : World} {free free' : Nat → Prop} {dp mb : Nat} {D : Dk} {n : Nat} (h : At w free dp mb D n) (hf : ∀ k, free' k → k < w.heap.size → free k) : At w free' dp mb D n := by
  obtain ⟨hg, tag, sb, hD, ht⟩ := h
  exact ⟨hg, tag, sb, hD, fun k hk hl => ht k (hf k hk hl) hl⟩
theorem Own.start {w0 w2 w3 w4 : World} {dp mb dp2 mb2 n n2 : Nat} {D D2 : Dk} (h1 : Stand w2 w3 dp mb D n) (h2 : Stand w3 w4 dp2 mb2 D2 n2) (hB : Below w0.heap.size w0 w2) : Own w0 w2.heap.size w3.heap.size w4.heap.size dp mb dp2 mb2 D2 n2 w4 0 0 D n := by
  have hB1 := h1.2.to
  have hB2 := h2.2.to
  exact ⟨(h1.1.grow hB2).mono (fun k hk => by omega) (Nat.le_refl _), h2.1.mono' (fun k hk hl => by omega), below_step (below_step hB hB1) hB2, Nat.le_refl _, ⟨hB.size, hB1.size, hB2.size⟩, fun h => by omega⟩
def zoe : ByteArray := ⟨#[122, 111, 101]⟩
def other : ByteArray := ⟨#[111, 116, 104, 101, 114]⟩
def opBox (y : S35) (A : Option Addr) (c : Nat) : Obj := .cells #[.int .i64 y.f0, .string y.f1, .int .i64 y.f2, .int .i64 y.f3, .slice A y.f4.length c] 35 (0, 0)
/-- The world ahead of the append, and what is asked of it. -/
def apW (w : World) (y : S35) (A : Option Addr) (c : Nat) : World := (w.alloc (opBox y A c)).alloc (.cells #[] 68 (0, 0))
theorem apW_below (w : World) (y : S35) (A : Option Addr) (c : Nat) : Below w.heap.size w (apW w y A c) := below_alloc (below_alloc (Below.refl _ _) _) _
theorem apW_size (w : World) (y : S35) (A : Option Addr) (c : Nat) : (apW w y A c).heap.size = w.heap.size + 2 := by simp [apW]
theorem apW_box (w : World) (y : S35) (A : Option Addr) (c : Nat) : (apW w y A c).heap[w.heap.size]? = some (opBox y A c) := blk_alloc (heap_alloc_new w _) _
theorem apW_N (w w0 : World) (y : S35) (A : Option Addr) (c : Nat) : Kd.N k68 68 (apW w y A c) w.heap.size (fun k => k < w0.heap.size ∨ w.heap.size + 1 ≤ k) (.slice (some ⟨w.heap.size + 1, 0, none⟩) 0 0) [] := by
  have h := Kd.R_N (R_empty k68 68 (w.alloc (opBox y A c)) w.heap.size (fun k => k < w0.heap.size ∨ w.heap.size + 1 ≤ k) (by simp) (.inr (by simp)))
  have e : (w.alloc (opBox y A c)).heap.size = w.heap.size + 1 := by simp
  rw [e] at h
  exact h
section
variable {w0 : World} {b1 b3 b4 dp mb dp2 mb2 : Nat} {D2 : Dk} {n2 : Nat} {w w5 : World} {D : Dk} {n : Nat} {y : S35} {A Ax : Option Addr} {c cx : Nat}
/-- Behind the append and the store of its result. -/
theorem ap_after (HO : Own w0 b1 b3 b4 dp mb dp2 mb2 D2 n2 w 0 0 D n) (hN : Kd.N k68 68 w5 w.heap.size (fun k => k < w0.heap.size ∨ w.heap.size + 1 ≤ k) (.slice Ax y.f4.length cx) y.f4) (hB : Below w.heap.size w w5) (hg : (apW w y A c).grownBy w5 (some (w.heap.size + 1))) (v : Value) (hv : v = .slice Ax y.f4.length cx) :
    w5.heap[w.heap.size]? = some (opBox y A c) ∧ (w5.setCell ⟨w.heap.size, 4, none⟩ v).heap[w.heap.size]? = some (opBox y Ax cx) ∧
    Own w0 b1 b3 b4 dp mb dp2 mb2 D2 n2 (w5.setCell ⟨w.heap.size, 4, none⟩ v) w.heap.size (w5.setCell ⟨w.heap.size, 4, none⟩ v).heap.size D n ∧
    k68.F (w5.setCell ⟨w.heap.size, 4, none⟩ v) (fun k => k < b1 ∨ (b3 ≤ k ∧ k < b4) ∨ (w.heap.size ≤ k ∧ k < (w5.setCell ⟨w.heap.size, 4, none⟩ v).heap.size)) Ax y.f4.length y.f4 ∧
    y.f4.length ≤ cx ∧ Slab (w5.setCell ⟨w.heap.size, 4, none⟩ v) (fun k => w.heap.size ≤ k ∧ k < (w5.setCell ⟨w.heap.size, 4, none⟩ v).heap.size) 68 3 Ax y.f4.length := by
  have hb := blk_grown (apW_box w y A c) hg (by simp)
  have hord := HO.ord
  have hsl := HO.below.size
  have hF := Kd.F_bound (Kd.F_far (p := ⟨w.heap.size, 4, none⟩) (Kd.N_F hN) (fun k hk => by have := HO.big; show k ≠ w.heap.size; omega) v)
  subst hv
  refine ⟨hb, by have := blk_set hb 4 (.slice Ax y.f4.length cx); simpa [opBox] using this, HO.grow (below_set hB (Nat.le_refl _)), Kd.F_mono hF (fun k hk => ?_), (Kd.N_reads' hN).2.1, ?_⟩
  · have := HO.big
    have := hk.2
    rcases hk.1 with h | h <;> omega
  · exact (((Slab.of_NC hN (by decide)).put _ _ _).bound).mono (fun k hk => ⟨hk.1.2, hk.2⟩)
/-- Behind the operation. -/
theorem op_after {w3 w6 : World} {m : Nat} {r : Int × Int × Dk} {n' : Nat} {e : Ending} (HO : Own w0 b1 b3 b4 dp mb dp2 mb2 D2 n2 w3 m w3.heap.size D n) (hd : Did w3 (fun k => k < b1 ∨ (b3 ≤ k ∧ k < b4) ∨ (m ≤ k ∧ k < w3.heap.size)) dp mb r n' e w6)
    (hx : w3.heap[m]? = some (opBox y Ax cx)) (hs : Slab w3 (fun k => m ≤ k ∧ k < w3.heap.size) 68 3 Ax y.f4.length) :
    ∃ M, Own w0 b1 b3 b4 dp mb dp2 mb2 D2 n2 w6 m M r.2.2 n' ∧ w6.heap[m]? = some (opBox y Ax cx) ∧ Slab w6 (fun k => m ≤ k ∧ k < M) 68 3 Ax y.f4.length := by
  obtain ⟨hO, hK⟩ := HO.did hd
  exact ⟨_, hO, hK.blk hx (fun hn => hn (.inr (.inr ⟨Nat.le_refl _, blk_lt hx⟩))), hs.step (fun k hk hl => hK.block k hl (fun hn => hn (.inr (.inr hk))))⟩
end
end Go.Proofs.Ytkblcdpmdbofgaa.A
/- SessionOwns: the walk of two desks. -/
namespace Go.Proofs.Ytkblcdpmdbofgaa.A
open Go.RowKit Go.Proofs.YtkblcdpmdbofgaaW.PrintWords Go.Proofs.YtkblcdpmdbofgaaW.PrintLast Go.Proofs.YtkblcdpmdbofgaaW.PrintMore
set_option linter.unusedVariables false
set_option linter.unusedSimpArgs false

set_option maxHeartbeats 4000000 in
set_option maxRecDepth 100000 in
theorem owns_yes (w0 : World) (A : Option Addr) (c : Nat) (l : List ByteArray) (needed : Int) (Ao : Option Addr) (co : Nat) (ops : List S35)
    (hr : Kd.string.C w0 A l.length l) (hcp : l.length ≤ c) (hl : l.length ≤ 2000000) (hsz : ∀ x ∈ l, x.size ≤ 2000000) (hro : k35.C w0 Ao ops.length ops) (hco : ops.length ≤ co) (hlo : ops.length ≤ 2000000) (hok : ∀ x ∈ ops, opOk x) (hc : (canNew l needed && fewS ops) = true) :
    Calls Try.prog 9 #[.slice A l.length c, .int .i64 needed, .slice Ao ops.length co] w0 fun e w' => e = .returned (.bool true) ∧ Below w0.heap.size w0 w' := by
  have C10 := Aside0.mk (fun (W : World) => awake_calls W)
  have C18 := Aside0.mk (fun (W : World) (hW : Below w0.heap.size w0 W) => play_calls A c l needed Ao co ops W (Kd.C_below hr hW) hcp hsz (Kd.C_below hro hW) hco hlo hok)
  have HSZ := Aside0.mk hsz
  have HC := Aside0.mk hc
  have HRL := Aside0.mk hr
  have HRO := Aside0.mk hro
  have HOK := Aside0.mk hok
  have HL : Aside0 ((([] : List ByteArray).length + l.length) * 16 ≤ 140737488355328) := ⟨by simp; omega⟩
  have hn40 : Aside0 (ops.length ≤ 40) := ⟨few_short (by rw [Bool.and_eq_true] at hc; exact hc.2)⟩
  have HN : Aside0 (canNew l needed = true) := ⟨by rw [Bool.and_eq_true] at hc; exact hc.1⟩
  clear hr hcp hsz hro hco hok hc
  go_enter Try.func9, Try.ntmps9
  go_wp2_with (first
    | (go_at_call 10; refine (C10.out _).mono ?_; rintro e w1 ⟨rfl, hB⟩; have HB1 := Aside0.mk hB; have HE := Aside0.mk (R_empty Kd.string 9 w1 w1.heap.size (fun k => w1.heap.size ≤ k) (Nat.le_refl _) (Nat.le_refl _)); have HEB := Aside0.mk (below_alloc (Below.refl w1.heap.size w1) (.cells #[] 9)); clear hB)
    | (at_builtin; refine Kd.R_append_rows Kd.string (w0 := w1) w1.heap.size rfl _ _ 22 9 (.string ⟨#[]⟩) 16 rfl Try.underlying22 info9 rfl (by decide) (by decide) _ [] l A l.length c (fun k => w1.heap.size ≤ k) (fun _ => False) rfl rfl HE.out (Kd.C_below HRL.out (below_step HB1.out HEB.out)) (fun _ _ h => h) (fun _ h => h.elim) (fun _ h => Nat.le_trans (by simp) h) HEB.out HEB.out.size HL.out ?_; intro v1 w2 hN hB hg _; obtain ⟨Av, cv, rfl⟩ := Kd.R_slice hN; have HN1 := Aside0.mk (Kd.R_reads' hN); have HS2 := Aside0.mk (show Slab w2 (fun k => w0.heap.size ≤ k ∧ k < w2.heap.size) 9 1 Av l.length from (Slab.of_R hN (by decide)).bound.mono (fun k hk => ⟨Nat.le_trans HB1.out.size hk.1, hk.2⟩)); have HB2 := Aside0.mk (below_step HB1.out hB); clear hN hB hg)
    | (go_at_call 11; refine (new_calls Av cv l needed w2 HN1.out.2.2 HN1.out.2.1 HSZ.out).mono ?_; rintro e w3 hM; obtain ⟨dp, mb, rfl, hS⟩ := new_stand (w0 := w2) hM HN.out (Kept0.refl w2); have HB3 := Aside0.mk (below_step HB2.out hS.2.to); have ST3 := Aside0.mk hS; clear hM hS)
    | (go_at_call 18; refine (C18.out _ HB3.out).mono ?_; rintro e w4 hP; obtain ⟨dp2, mb2, rfl, hS⟩ := hP.yes HC.out; have OW := Aside0.mk (Own.start ST3.out hS HB2.out); have HS4 := Aside0.mk (HS2.out.step (fun k hk hl => (below_step ST3.out.2.to hS.2.to).block k hl)); clear hP hS))
  generalize hb3 : w3.heap.size = b3 at *
  generalize hb4 : w4.heap.size = b4 at *
  generalize hb1 : w2.heap.size = b1 at *
  clear hb1 hb3 hb4
  go_loopw [11] (fun i w' => ∃ x : Int, i = .int .i64 x ∧ 0 ≤ x ∧ x ≤ l.length ∧ Aside0 (Own w0 b1 b3 b4 dp mb dp2 mb2 (Dk.run ⟨l, needed, []⟩ ops) ops.length w' 0 0 ⟨l, needed, []⟩ 0) ∧ Aside0 (Slab w' (fun k => w0.heap.size ≤ k ∧ k < b1) 9 1 Av l.length)) (fun i _ => l.length - (intOf i).toNat)
  case atStart => exact ⟨0, rfl, Int.le_refl _, Int.natCast_nonneg _, OW, HS4⟩
  case round =>
    clear OW HS4
    obtain ⟨x, rfl, hx, hk, HO, HS⟩ := hrel
    by_cases hlt : x < l.length
    · obtain ⟨g, v, rfl, hg, hx0, hf0⟩ := HS.out.at1 x hx hlt
      have p1 := eq_true hx
      have q1 := eq_true hlt
      have HO2 := Aside0.mk (HO.out.store (.inl hg) (Kp.setCell wr ⟨g, x.toNat, none⟩ (.string ⟨#[122, 111, 101]⟩)))
      have HSS := Aside0.mk (HS.out.put g x.toNat (.string ⟨#[122, 111, 101]⟩))
      clear hg
      go_wp2
      go_roundw
      case rel => exact ⟨x + 1, rfl, by omega, by omega, HO2, HSS⟩
      case measure => simp [intOf]; omega
    · have q1 := eq_false hlt
      have HOW := Aside0.mk HO.out
      clear HS HO
      go_wp2
      go_loopw [12] (fun i w' => ∃ x : Int, i = .int .i64 x ∧ 0 ≤ x ∧ x ≤ ops.length ∧ Aside0 (Own w0 b1 b3 b4 dp mb dp2 mb2 (Dk.run ⟨l, needed, []⟩ ops) ops.length w' 0 0 (Dk.run ⟨l, needed, []⟩ (ops.take x.toNat)) x.toNat)) (fun i _ => ops.length - (intOf i).toNat)
      case atStart => exact ⟨0, rfl, Int.le_refl _, Int.natCast_nonneg _, HOW⟩
      case round =>
        clear HOW
        obtain ⟨z, rfl, hz, hzk, HO⟩ := hrel
        by_cases hzl : z < ops.length
        · obtain ⟨ad, A4, c4, e, hx0, hx1, hx2, hx3, hx4, hl4, hi4⟩ := at_T35 HRO.out z hz hzl
          cases e
          have HB := HO.out.below
          replace hx0 := (HB.cell (World.block_lt_of_cell? w0 _ hx0)).trans hx0
          replace hx1 := (HB.cell (World.block_lt_of_cell? w0 _ hx1)).trans hx1
          replace hx2 := (HB.cell (World.block_lt_of_cell? w0 _ hx2)).trans hx2
          replace hx3 := (HB.cell (World.block_lt_of_cell? w0 _ hx3)).trans hx3
          replace hx4 := (HB.cell (World.block_lt_of_cell? w0 _ hx4)).trans hx4
          have p2 := eq_true hz
          have q2 := eq_true hzl
          have HY := Aside0.mk (HOK.out _ (rd35_mem ops z hz hzl))
          have HT : Aside0 (Dk.run ⟨l, needed, []⟩ (ops.take (z + 1).toNat) = ((Dk.run ⟨l, needed, []⟩ (ops.take z.toNat)).doOp (rd_T35 ops z)).2.2) := ⟨by rw [take_rd35 ops z hz hzl, Dk.run_append]⟩
          generalize rd_T35 ops z = y at *
          generalize Dk.run ⟨l, needed, []⟩ (ops.take z.toNat) = D at *
          have HN0 := Aside0.mk (apW_N wr w0 y A4 c4)
          have HBW := Aside0.mk (apW_below wr y A4 c4)
          have HF := Aside0.mk (Kd.F_step (W1 := apW wr y A4 c4) (Kd.C_F heap68 hi4) (fun k hk hl => (below_step HB HBW.out).block k hk))
          have HAP : Aside0 (∀ k, k < w0.heap.size → (k < w0.heap.size ∨ wr.heap.size + 1 ≤ k) ∧ some k ≠ (Value.slice (some ⟨wr.heap.size + 1, 0, none⟩) 0 0).ownBlock) := ⟨fun k hk => ⟨.inl hk, by have := HB.size; simp [Value.ownBlock]; omega⟩⟩
          have HFR : Aside0 (∀ k, (apW wr y A4 c4).heap.size ≤ k → k < w0.heap.size ∨ wr.heap.size + 1 ≤ k) := ⟨fun k hk => .inr (by rw [apW_size] at hk; omega)⟩
          have HL4 : Aside0 ((([] : List S68).length + y.f4.length) * 64 ≤ 140737488355328) := ⟨by have := length_bulk y.f4; have := HY.out.2.2.2; simp; omega⟩
          clear hi4 HB
          go_wp2_with (first
            | (at_builtin; refine Kd.N_append_rows k68 (w0 := wr) wr.heap.size rfl _ _ 33 68 (.agg #[.string ⟨#[]⟩, .slice none 0 0, .slice none 0 0]) 64 rfl Try.underlying33 info68 rfl (by decide) (by decide) _ [] y.f4 A4 y.f4.length c4 _ _ rfl rfl HN0.out HF.out HAP.out HFR.out HBW.out HBW.out.size HL4.out ?_; intro v5 w5 hN hB hg _; obtain ⟨Ax, cx, rfl⟩ := Kd.N_slice hN; have HA5 := Aside0.mk (ap_after HO.out hN hB hg _ rfl); have q4 := blk_cell HA5.out.1 4; have f4 := blk_frozen HA5.out.1 4; have y0 := blk_cell HA5.out.1 0; have y1 := blk_cell HA5.out.1 1; have y2 := blk_cell HA5.out.1 2; have y3 := blk_cell HA5.out.1 3; simp at q4 y0 y1 y2 y3; clear hN hB hg)
            | (go_at_call 15; refine (do_calls HA5.out.2.2.1.d1 (by have := hn40.out; omega) y Ax cx HY.out HA5.out.2.2.2.1 HA5.out.2.2.2.2.1).mono ?_; rintro e w6 hd; obtain rfl := hd.1; obtain ⟨M, hO, hX, hS⟩ := op_after HA5.out.2.2.1 hd HA5.out.2.1 HA5.out.2.2.2.2.2; have HO6 := Aside0.mk hO; have HX6 := Aside0.mk hX; have HS6 := Aside0.mk hS; clear hd hO hX hS))
          have HT2 : Aside0 (Own w0 b1 b3 b4 dp mb dp2 mb2 (Dk.run ⟨l, needed, []⟩ ops) ops.length w6 wr.heap.size M (Dk.run ⟨l, needed, []⟩ (ops.take (z + 1).toNat)) (z.toNat + 1)) := ⟨by rw [HT.out]; exact HO6.out⟩
          generalize hD : Dk.run ⟨l, needed, []⟩ (ops.take (z + 1).toNat) = D1 at *
          have hD1 := Aside0.mk hD
          clear hD
          clear HO6 HO HA5 q4 f4 y0 y1 y2 y3 HN0 HBW HF HAP HFR HL4 hx0 hx1 hx2 hx3 hx4 hl4
          have hy4 : y.f4.length ≤ 2000000 := Nat.le_trans (length_bulk y.f4) HY.out.2.2.2
          generalize hm : wr.heap.size = m at *
          clear hm
          go_loopw [14] (fun i w' => ∃ x : Int, i = .int .i64 x ∧ 0 ≤ x ∧ x ≤ y.f4.length ∧ Aside0 (Own w0 b1 b3 b4 dp mb dp2 mb2 (Dk.run ⟨l, needed, []⟩ ops) ops.length w' m M D1 (z.toNat + 1)) ∧ Aside0 (w'.heap[m]? = some (opBox y Ax cx)) ∧ Aside0 (Slab w' (fun k => m ≤ k ∧ k < M) 68 3 Ax y.f4.length)) (fun i _ => y.f4.length - (intOf i).toNat)
          case atStart => exact ⟨0, rfl, Int.le_refl _, Int.natCast_nonneg _, HT2, HX6, HS6⟩
          case round =>
            clear HT2 HX6 HS6
            obtain ⟨x3, rfl, hx3, hk3, HO3, HX3, HS3⟩ := hrel
            have b4_ := blk_cell HX3.out 4
            simp at b4_
            by_cases hl3 : x3 < y.f4.length
            · obtain ⟨g, a0, a1, a2, cells, rfl, hg, hgb, ha0, ha1, ha2, fr0, fr1, fr2⟩ := HS3.out.at3 x3 hx3 hl3
              have p3 := eq_true hx3
              have q3 := eq_true hl3
              have HO4 := Aside0.mk (HO3.out.store (.inr hg) (Kp.put3 wr g (x3.toNat * 3) (.string other) (.slice none 0 0) (.slice none 0 0)))
              have HX4 := Aside0.mk (blk_put3 HX3.out (blk_ne HX3.out hgb (by decide)) (x3.toNat * 3) (.string other) (.slice none 0 0) (.slice none 0 0))
              have HS4 := Aside0.mk (HS3.out.put3 g (x3.toNat * 3) (.string other) (.slice none 0 0) (.slice none 0 0))
              clear hg hgb
              go_wp2
              go_roundw
              case rel => exact ⟨x3 + 1, rfl, by omega, by omega, HO4, HX4, HS4⟩
              case measure => simp [intOf]; omega
            · have q3 := eq_false hl3
              have HR3 := Aside0.mk HO3.out.reset
              have HD3 := Aside0.mk (HR3.out.d1.draft (by have := hn40.out; omega) 1 (by kernel_rfl))
              have HG3 := Aside0.mk (shown_small HR3.out.d1.1 (by have := hn40.out; omega) 1)
              have HG4 := Aside0.mk (hist_small HR3.out.d1.1 1)
              have HH3 := Aside0.mk (fun (W : World) (hW : Below wr.heap.size wr W) => (HR3.out.grow hW).d1.history (by have := hn40.out; omega) 1 (by kernel_rfl))
              have hbig := Aside0.mk HO3.out.big
              generalize D1.show_ 1 = s at HD3 HG3
              generalize D1.hist 1 = hh at HH3 HG4
              generalize D1.has 1 = hq at HH3 HD3
              obtain ⟨s0, s1, s2, s3, s4, s5⟩ := s
              simp only [shownV] at HD3 HG3
              have hs3 : s3.length ≤ 2000000 := Nat.le_trans (length_bulk s3) HG3.out.1
              have hs4 : s4.length ≤ 2000000 := HG3.out.2
              have hhl : hh.length ≤ 2000000 := HG4.out.1
              clear HO3 HX3 HS3
              go_wp2_with (first
                | (go_at_call 21; refine HD3.out.mono ?_; rintro e w7 ⟨vt, va, rfl, hT, hA, hB⟩; obtain ⟨At7, ct7, rfl⟩ := Kd.R_slice hT; obtain ⟨Aa7, ca7, rfl⟩ := Kd.R_slice hA; have hBx := below_alloc hB (.cells #[.int .i64 s0, .int .i64 s1, .string s2, .slice At7 s3.length ct7, .slice Aa7 s4.length ca7, .bool s5] 49); have B7 := Aside0.mk hBx; have T7 := Aside0.mk ((show Slab w7 _ 68 3 At7 s3.length from Slab.of_R hT (by decide)).step (w1 := w7.alloc (.cells #[.int .i64 s0, .int .i64 s1, .string s2, .slice At7 s3.length ct7, .slice Aa7 s4.length ca7, .bool s5] 49)) (fun k hk hl => Below.heap_alloc w7 _ k hl)); have P7 := Aside0.mk ((show Slab w7 _ 9 1 Aa7 s4.length from Slab.of_R hA (by decide)).step (w1 := w7.alloc (.cells #[.int .i64 s0, .int .i64 s1, .string s2, .slice At7 s3.length ct7, .slice Aa7 s4.length ca7, .bool s5] 49)) (fun k hk hl => Below.heap_alloc w7 _ k hl)); have X7 := Aside0.mk (heap_alloc_new w7 (.cells #[.int .i64 s0, .int .i64 s1, .string s2, .slice At7 s3.length ct7, .slice Aa7 s4.length ca7, .bool s5] 49)); have L7 := Aside0.mk hB.size; clear hT hA hB hBx)
                | (go_at_call 19; refine (HH3.out _ B7.out).mono ?_; rintro e w8 ⟨vh, rfl, hR, hB⟩; obtain ⟨Ah8, ch8, rfl⟩ := Kd.R_slice hR; have O8 := Aside0.mk ((HR3.out.grow B7.out).more hB B7.out.size hbig.out); have T8 := Aside0.mk ((T7.out.step (fun k hk hl => hB.block k hl)).bound); have P8 := Aside0.mk ((P7.out.step (fun k hk hl => hB.block k hl)).bound); have H8 := Aside0.mk ((show Slab w8 _ 33 1 Ah8 hh.length from Slab.of_R hR (by decide)).bound.mono (S' := fun k => New wr k ∧ k < w8.heap.size) (fun k hk => ⟨Nat.le_trans B7.out.size hk.1, hk.2⟩)); have X8 := Aside0.mk (blk_below X7.out hB); clear hR hB))
              have T9 := Aside0.mk (T8.out.mono (S' := fun k => wr.heap.size ≤ k ∧ k < w8.heap.size) (fun k hk => hk))
              have P9 := Aside0.mk (P8.out.mono (S' := fun k => wr.heap.size ≤ k ∧ k < w8.heap.size) (fun k hk => hk))
              have H9 := Aside0.mk (H8.out.mono (S' := fun k => wr.heap.size ≤ k ∧ k < w8.heap.size) (fun k hk => hk))
              clear T8 P8 H8 T7 P7 B7 X7 L7 HR3 HD3 HG3 HH3 HG4 hbig
              generalize hm2 : wr.heap.size = m2 at *
              generalize hM2 : w8.heap.size = M2 at *
              generalize hbb : w7.heap.size = bb at *
              clear hm2 hM2 hbb
              go_loopw [19] (fun i w' => ∃ x : Int, i = .int .i64 x ∧ 0 ≤ x ∧ x ≤ s3.length ∧ Aside0 (Own w0 b1 b3 b4 dp mb dp2 mb2 (Dk.run ⟨l, needed, []⟩ ops) ops.length w' m2 M2 D1 (z.toNat + 1)) ∧ Aside0 (w'.heap[bb]? = some (.cells #[.int .i64 s0, .int .i64 s1, .string s2, .slice At7 s3.length ct7, .slice Aa7 s4.length ca7, .bool s5] 49 (0, 0))) ∧ Aside0 (Slab w' (fun k => m2 ≤ k ∧ k < M2) 68 3 At7 s3.length) ∧ Aside0 (Slab w' (fun k => m2 ≤ k ∧ k < M2) 9 1 Aa7 s4.length) ∧ Aside0 (Slab w' (fun k => m2 ≤ k ∧ k < M2) 33 1 Ah8 hh.length)) (fun i _ => s3.length - (intOf i).toNat)
              case atStart => exact ⟨0, rfl, Int.le_refl _, Int.natCast_nonneg _, O8, X8, T9, P9, H9⟩
              case round =>
                clear O8 X8 T9 P9 H9
                obtain ⟨x5, rfl, hx5, hk5, HO5, HX5, HT5, HP5, HH5⟩ := hrel
                have b5 := blk_cell HX5.out 3
                simp at b5
                by_cases hl5 : x5 < s3.length
                · obtain ⟨g, a0, a1, a2, cells, rfl, hg, hgb, ha0, ha1, ha2, fr0, fr1, fr2⟩ := HT5.out.at3 x5 hx5 hl5
                  have p5 := eq_true hx5
                  have q5 := eq_true hl5
                  have HO6 := Aside0.mk (HO5.out.store (.inr hg) (Kp.put3 wr g (x5.toNat * 3) (.string ⟨#[]⟩) (.slice none 0 0) (.slice none 0 0)))
                  have HX6 := Aside0.mk (blk_put3 HX5.out (blk_ne HX5.out hgb (by decide)) (x5.toNat * 3) (.string ⟨#[]⟩) (.slice none 0 0) (.slice none 0 0))
                  have HT6 := Aside0.mk (HT5.out.put3 g (x5.toNat * 3) (.string ⟨#[]⟩) (.slice none 0 0) (.slice none 0 0))
                  have HP6 := Aside0.mk (HP5.out.put3 g (x5.toNat * 3) (.string ⟨#[]⟩) (.slice none 0 0) (.slice none 0 0))
                  have HH6 := Aside0.mk (HH5.out.put3 g (x5.toNat * 3) (.string ⟨#[]⟩) (.slice none 0 0) (.slice none 0 0))
                  clear hg hgb
                  go_wp2
                  go_roundw
                  case rel => exact ⟨x5 + 1, rfl, by omega, by omega, HO6, HX6, HT6, HP6, HH6⟩
                  case measure => simp [intOf]; omega
                · have q5 := eq_false hl5
                  have O6 := Aside0.mk HO5.out
                  have X6 := Aside0.mk HX5.out
                  have P6 := Aside0.mk HP5.out
                  have H6 := Aside0.mk HH5.out
                  clear HO5 HX5 HT5 HP5 HH5
                  go_wp2
                  go_loopw [20] (fun i w' => ∃ x : Int, i = .int .i64 x ∧ 0 ≤ x ∧ x ≤ s4.length ∧ Aside0 (Own w0 b1 b3 b4 dp mb dp2 mb2 (Dk.run ⟨l, needed, []⟩ ops) ops.length w' m2 M2 D1 (z.toNat + 1)) ∧ Aside0 (w'.heap[bb]? = some (.cells #[.int .i64 s0, .int .i64 s1, .string s2, .slice At7 s3.length ct7, .slice Aa7 s4.length ca7, .bool s5] 49 (0, 0))) ∧ Aside0 (Slab w' (fun k => m2 ≤ k ∧ k < M2) 9 1 Aa7 s4.length) ∧ Aside0 (Slab w' (fun k => m2 ≤ k ∧ k < M2) 33 1 Ah8 hh.length)) (fun i _ => s4.length - (intOf i).toNat)
                  case atStart => exact ⟨0, rfl, Int.le_refl _, Int.natCast_nonneg _, O6, X6, P6, H6⟩
                  case round =>
                    clear O6 X6 P6 H6 b5
                    obtain ⟨x6, rfl, hx6, hk6, HO6, HX6, HP6, HH6⟩ := hrel
                    have b6 := blk_cell HX6.out 4
                    simp at b6
                    by_cases hl6 : x6 < s4.length
                    · obtain ⟨g, v, cells, rfl, hg, hgb, ha0, fr0⟩ := HP6.out.at1b x6 hx6 hl6
                      have p6 := eq_true hx6
                      have q6 := eq_true hl6
                      have HO7 := Aside0.mk (HO6.out.store (.inr hg) (Kp.setCell wr ⟨g, x6.toNat, none⟩ (.string ⟨#[122, 111, 101]⟩)))
                      have HX7 := Aside0.mk (blk_far (p := ⟨g, x6.toNat, none⟩) HX6.out (blk_ne HX6.out hgb (by decide)) (.string ⟨#[122, 111, 101]⟩))
                      have HP7 := Aside0.mk (HP6.out.put g x6.toNat (.string ⟨#[122, 111, 101]⟩))
                      have HH7 := Aside0.mk (HH6.out.put g x6.toNat (.string ⟨#[122, 111, 101]⟩))
                      clear hg hgb
                      go_wp2
                      go_roundw
                      case rel => exact ⟨x6 + 1, rfl, by omega, by omega, HO7, HX7, HP7, HH7⟩
                      case measure => simp [intOf]; omega
                    · have q6 := eq_false hl6
                      have O7 := Aside0.mk HO6.out
                      have H7 := Aside0.mk HH6.out
                      clear HO6 HX6 HP6 HH6
                      go_wp2
                      go_loopw [21] (fun i w' => ∃ x : Int, i = .int .i64 x ∧ 0 ≤ x ∧ x ≤ hh.length ∧ Aside0 (Own w0 b1 b3 b4 dp mb dp2 mb2 (Dk.run ⟨l, needed, []⟩ ops) ops.length w' m2 M2 D1 (z.toNat + 1)) ∧ Aside0 (Slab w' (fun k => m2 ≤ k ∧ k < M2) 33 1 Ah8 hh.length)) (fun i _ => hh.length - (intOf i).toNat)
                      case atStart => exact ⟨0, rfl, Int.le_refl _, Int.natCast_nonneg _, O7, H7⟩
                      case round =>
                        clear O7 H7 b6
                        obtain ⟨x7, rfl, hx7, hk7, HO7, HH7⟩ := hrel
                        by_cases hl7 : x7 < hh.length
                        · obtain ⟨g, v, cells, rfl, hg, hgb, ha0, fr0⟩ := HH7.out.at1b x7 hx7 hl7
                          have p7 := eq_true hx7
                          have q7 := eq_true hl7
                          have HO8 := Aside0.mk (HO7.out.store (.inr hg) (Kp.setCell wr ⟨g, x7.toNat, none⟩ (.slice none 0 0)))
                          have HH8 := Aside0.mk (HH7.out.put g x7.toNat (.slice none 0 0))
                          clear hg hgb
                          go_wp2
                          go_roundw
                          case rel => exact ⟨x7 + 1, rfl, by omega, by omega, HO8, HH8⟩
                          case measure => simp [intOf]; omega
                        · have q7 := eq_false hl7
                          have HE : Aside0 (Own w0 b1 b3 b4 dp mb dp2 mb2 (Dk.run ⟨l, needed, []⟩ ops) ops.length wr 0 0 (Dk.run ⟨l, needed, []⟩ (ops.take (z + 1).toNat)) (z + 1).toNat) := ⟨by rw [hD1.out, show (z + 1).toNat = z.toNat + 1 by omega]; exact HO7.out.reset⟩
                          clear HO7 HH7
                          go_wp2
                          go_roundw
                          case rel => exact ⟨z + 1, rfl, by omega, by omega, HE⟩
                          case measure => simp [intOf]; omega
        · have q2 := eq_false hzl
          have e : z.toNat = ops.length := by omega
          have HE := HO.out
          rw [e, List.take_length] at HE
          have C28 := Aside0.mk (same_calls wr _ _ dp mb dp2 mb2 _ ops.length (by have := hn40.out; omega) HE.d1 HE.d2)
          have HBF := Aside0.mk HE.below
          clear HE HO e
          go_wp2_with (go_at_call 28; refine C28.out.mono ?_; rintro e w9 ⟨rfl, hB⟩; have HB9 := Aside0.mk (below_step HBF.out hB); clear hB)
          go_ret
          exact ⟨rfl, HB9.out⟩
theorem owns_walk (w0 : World) (A : Option Addr) (c : Nat) (l : List ByteArray) (needed : Int) (Ao : Option Addr) (co : Nat) (ops : List S35)
    (hr : Kd.string.C w0 A l.length l) (hcp : l.length ≤ c) (hl : l.length ≤ 2000000) (hsz : ∀ x ∈ l, x.size ≤ 2000000) (hro : k35.C w0 Ao ops.length ops) (hco : ops.length ≤ co) (hlo : ops.length ≤ 2000000) (hok : ∀ x ∈ ops, opOk x) :
    Calls Try.prog 9 #[.slice A l.length c, .int .i64 needed, .slice Ao ops.length co] w0 fun e w' => e = .returned (.bool true) ∧ Below w0.heap.size w0 w' := by
  cases hc : (canNew l needed && fewS ops) with
  | false => exact owns_no w0 A c l needed Ao co ops hr hcp hl hsz hro hco hlo hok hc
  | true => exact owns_yes w0 A c l needed Ao co ops hr hcp hl hsz hro hco hlo hok hc
end Go.Proofs.Ytkblcdpmdbofgaa.A
/- The law SessionOwns returns true for every list of editors, every number and every list of operations, and leaves its arguments as they were: where the arguments are of bulk at most 1048576 (the second form of the statement, SessionOwnsUptoSaid). -/
namespace Go.Proofs.Ytkblcdpmdbofgaa.sessionOwns
open Go.ChangeShapes Go.WideShapes Go.ChangeAt Go.RowKit
open Go.Proofs.Ytkblcdpmdbofgaa.A
set_option linter.unusedVariables false
theorem own : ownKnob Try.prog.godebug = none := by kernel_rfl
theorem laidOut : laidOutB Try.prog = true := by kernel_rfl
set_option maxRecDepth 100000 in
theorem contract (H : Type) (enc : TypeId × Value → H) (W : World) (base : Nat) (args : Array Value) (ds gs : List (DataW H)) (before : List MemPlace)
    (hval : ∀ (j : Nat) t v, Try.f9.params[j]? = some t → args[j]? = some v → Value.okWide Try.prog W .any base t v)
    (hW : DataW.Whole enc Try.prog Try.f9.params.toList Rows.sessionOwnsSpec.vars false W args.toList ds gs before) (hk : Rows.uptoSmall H (ds ++ gs) = true) :
    Calls Try.prog 9 args W fun e W' => ∃ v, e = .returned v ∧ Rows.sessionOwnsSpec.post enc Try.prog Try.f9 false true false false W args v W' := by
  have hW' := hW
  obtain ⟨p, q, hA0, hV, rfl, hfz, hnd⟩ := hW
  have hA : DataW.TrodAll enc Try.prog W 0 (fun _ => true) true Try.f9.params.toList args.toList ds p := hA0
  rw [Try.params9] at hA hval
  obtain ⟨v0, vs0, d0, ds0, p0, q0, hargs, rfl, rfl, h0, r0⟩ := trodAll_cons hA
  obtain ⟨v1, vs1, d1, ds1, p1, q1, rfl, rfl, rfl, h1, r1⟩ := trodAll_cons r0
  obtain ⟨v2, vs2, d2, ds2, p2, q2, rfl, rfl, rfl, h2, r2⟩ := trodAll_cons r1
  obtain ⟨rfl, rfl, rfl⟩ := trodAll_nil r2
  obtain rfl : args = #[v0, v1, v2] := by cases args; simp_all
  obtain ⟨rfl, rfl⟩ := trodVars_none hV
  have hsm : Rows.uptoBulk d0 + Rows.uptoBulk d1 + Rows.uptoBulk d2 ≤ 1048576 := by
    have := of_decide_eq_true hk
    simp only [List.append_nil, Rows.uptoBulkAll] at this
    omega
  simp only [List.append_nil] at hW'
  have k0 := h0
  have lt0 : ∀ x ∈ p0, x.block < W.heap.size := by obtain ⟨m, hm⟩ := k0; exact DataW.trod_lt m _ _ _ hm
  obtain ⟨A0, len0, c0, rfl⟩ := okWide_slice Try.underlying22 (hval 0 22 v0 rfl rfl)
  obtain ⟨fuel0, hf0⟩ := h0
  obtain ⟨A0', x0, c0', hcs0, hl0, hC0, hb0⟩ := open_strsC hf0
  simp [Value.cells] at hcs0
  obtain ⟨rfl, rfl, rfl⟩ := hcs0
  have hbk0 : sumOf (fun s : ByteArray => s.size + 1) x0 + 1 ≤ Rows.uptoBulk d0 := hb0
  have sm0 := strs_small (n := Rows.uptoBulk d0) hbk0 (by omega)
  obtain ⟨x1, rfl, rfl, rfl, w1⟩ := open_int Try.underlying3 (hval 1 3 v1 rfl rfl) h1
  have k2 := h2
  have lt2 : ∀ x ∈ p2, x.block < W.heap.size := by obtain ⟨m, hm⟩ := k2; exact DataW.trod_lt m _ _ _ hm
  obtain ⟨A2, len2, c2, rfl⟩ := okWide_slice Try.underlying31 (hval 2 31 v2 rfl rfl)
  obtain ⟨fuel2, hf2⟩ := h2
  obtain ⟨A2', x2, c2', hcs2, hl2, hC2, hw2, hb2⟩ := open_opsC hf2
  simp [Value.cells] at hcs2
  obtain ⟨rfl, rfl, rfl⟩ := hcs2
  have hbk2 : sumOf (fun y : S35 => y.f1.size + Go.Proofs.Ytkblcdpmdbofgaa.A.bulkL y.f4 + 1) x2 + 1 ≤ Rows.uptoBulk d2 := hb2
  have sm2 := ops_small hw2 (n := Rows.uptoBulk d2) hbk2 (by omega)
  refine (owns_walk W A0 c0 x0 x1 A2 c2 x2 hC0 hl0 sm0.2 sm0.1 hC2 hl2 sm2.2 sm2.1).mono fun e W' ⟨he, bel⟩ => ?_
  subst he
  exact ⟨_, rfl, _, _, _, [], _, [], hW', trodAll_mk1 (shut_bool Try.underlying4 _), (trodAll_cons_mk (Below.trod laidOut (by kernel_rfl) (of_decide_eq_true (by kernel_rfl)) k0 bel lt0) (trodAll_cons_mk (shut_int Try.underlying3 w1) (trodAll_cons_mk (Below.trod laidOut (by kernel_rfl) (of_decide_eq_true (by kernel_rfl)) k2 bel lt2) trodAll_mk0))), rfl, bel.frame _, fun h => by cases h⟩

set_option maxRecDepth 100000 in
theorem lifted (os : Os) (started : os.Started) (H : Type) (enc : TypeId × Value → H) (F : Stop.Interp) :
    ReturnsInHanded {} Try.checked os 9 .any ((Rows.OpenSpec.upto Rows.sessionOwnsSpec).pre6 enc Try.prog Try.f9 Rows.sessionOwnsUptoRow.domain false) (((Rows.OpenSpec.upto Rows.sessionOwnsSpec).at F).post enc Try.prog Try.f9 false true false false) := by
  refine returnsInHanded_of_cond (C := Try.checked) (s := Rows.OpenSpec.upto Rows.sessionOwnsSpec) (k := Rows.uptoSmall) rfl own started (by kernel_rfl) Try.func9
    (OpenSpec.witness (enc := enc) (C := Try.checked) (s := Rows.OpenSpec.upto Rows.sessionOwnsSpec) (k := Rows.uptoSmall) rfl false ⟨#[], #[.slice none 0 0, .int .i64 0, .slice none 0 0], []⟩ 8 (by kernel_rfl) (by kernel_rfl) (by kernel_rfl)
      (x := ([.nil, .lit (.int .i64 0), .nil], [], [])) (by kernel_rfl) rfl (by kernel_rfl)) ?_
  intro W base args ds gs before hval hW _ hk _
  exact contract H enc W base args ds gs before hval hW hk

theorem over : Rows.sessionOwnsUptoRow.holds Try.pinned (Rows.OpenSpec.upto Rows.sessionOwnsSpec) :=
  OpenClaim.holds_of_cond 9 Try.f9 rfl rfl rfl rfl rfl rfl rfl ⟨rfl, rfl, rfl, rfl, rfl⟩ rfl rfl rfl rfl rfl (by kernel_rfl) Try.func9 (by kernel_rfl)
    (of_decide_eq_true (by kernel_rfl)) (by unfold Func.isWrapper; first | (rw [if_pos (by decide +kernel)]; kernel_rfl) | (rw [if_neg (by decide +kernel)]; exact ⟨rfl, rfl⟩))
    (fun os started H enc _ F => lifted os started H enc F)

theorem proved : Rows.SessionOwnsUptoSaid := over
end Go.Proofs.Ytkblcdpmdbofgaa.sessionOwns
namespace Go.Proofs.Ytkblcdpmdbofgaa
/-- The row, under a short name, for the claim. -/
theorem sessionOwns_upto : Rows.SessionOwnsUptoSaid := sessionOwns.proved
end Go.Proofs.Ytkblcdpmdbofgaa
