/- The law SessionAmends returns true for every list of editors, every number, every list of operations and every further operation, and leaves its arguments as they were: where the arguments are of bulk at most 1048576 (the second form of the statement, SessionAmendsUptoSaid). -/
import Derived.Test.YtkblcdpmdbofgaaCloses
import Derived.Test.YtkblcdpmdbofgaaRefuses
import Derived.Test.YtkblcdpmdbofgaaM4
import Derived.WalkKit
import Derived.ProofKit
import Derived.OpenShut
import Derived.ShutString
import Derived.ChangeOld
import Derived.Below
import Derived.SizedLaws
import Derived.JoinedCond
/- SessionAmends: the walks that end early. -/
namespace Go.Proofs.Ytkblcdpmdbofgaa.A
open Go.RowKit Go.Proofs.YtkblcdpmdbofgaaW.PrintWords Go.Proofs.YtkblcdpmdbofgaaW.PrintLast Go.Proofs.YtkblcdpmdbofgaaW.PrintMore
set_option linter.unusedVariables false
set_option linter.unusedSimpArgs false

set_option maxHeartbeats 2000000 in
set_option maxRecDepth 100000 in
theorem amends_early (w0 : World) (A : Option Addr) (c : Nat) (l : List ByteArray) (needed : Int) (Ao : Option Addr) (co : Nat) (ops : List S35) (y : S35) (Ay : Option Addr) (cy : Nat)
    (hr : Kd.string.C w0 A l.length l) (hcp : l.length ≤ c) (hsz : ∀ x ∈ l, x.size ≤ 2000000) (hro : k35.C w0 Ao ops.length ops) (hco : ops.length ≤ co) (hlo : ops.length ≤ 2000000) (hok : ∀ x ∈ ops, opOk x)
    (hy : opOk y) (hry : k68.C w0 Ay y.f4.length y.f4) (hcy : y.f4.length ≤ cy) (hc : (canNew l needed && fewS ops) = false ∨ (canNew l needed && fewS ops) = true ∧ 10 < y.f4.length ∨ (canNew l needed && fewS ops) = true ∧ y.f4.length ≤ 10 ∧ ((Dk.run ⟨l, needed, []⟩ ops).amend y.f1 y.f2 y.f3 y.f4).2.1 ≠ 0) :
    Calls Try.prog 5 #[.slice A l.length c, .int .i64 needed, .slice Ao ops.length co, .agg #[.int .i64 y.f0, .string y.f1, .int .i64 y.f2, .int .i64 y.f3, .slice Ay y.f4.length cy]] w0 fun e w' => e = .returned (.bool true) ∧ Below w0.heap.size w0 w' := by
  have C10 := Aside0.mk (fun (W : World) => awake_calls W)
  have C18 := Aside0.mk (fun (W : World) (hW : Below w0.heap.size w0 W) => play_calls A c l needed Ao co ops W (Kd.C_below hr hW) hcp hsz (Kd.C_below hro hW) hco hlo hok)
  have HY := Aside0.mk hy
  have HRY := Aside0.mk hry
  have HCY := Aside0.mk hcy
  have HBX := Aside0.mk (below_alloc (Below.refl w0.heap.size w0) (.cells #[.int .i64 y.f0, .string y.f1, .int .i64 y.f2, .int .i64 y.f3, .slice Ay y.f4.length cy] 35))
  have HX := Aside0.mk (heap_alloc_new w0 (.cells #[.int .i64 y.f0, .string y.f1, .int .i64 y.f2, .int .i64 y.f3, .slice Ay y.f4.length cy] 35))
  clear hr hcp hsz hro hco hlo hok hy hry hcy
  rcases hc with hc | ⟨hc, h10⟩ | ⟨hc, h10, hE⟩
  · have HC := Aside0.mk hc
    clear hc
    go_enter Try.func5, Try.ntmps5
    go_wp2_with (first
      | (go_at_call 10; refine (C10.out _).mono ?_; rintro e w1 ⟨rfl, hB⟩; have HB1 := Aside0.mk (below_step HBX.out hB); clear hB)
      | (go_at_call 18; refine (C18.out _ HB1.out).mono ?_; rintro e w2 hP; obtain ⟨rfl, hB⟩ := hP.no HC.out; have HB2 := Aside0.mk (below_step HB1.out hB); clear hP hB))
    go_ret
    exact ⟨rfl, HB2.out⟩
  · have HC := Aside0.mk hc
    have t10 : decide (10 < (y.f4.length : Int)) = true := decide_eq_true (by omega)
    clear hc h10
    go_enter Try.func5, Try.ntmps5
    go_wp2_with (first
      | (go_at_call 10; refine (C10.out _).mono ?_; rintro e w1 ⟨rfl, hB⟩; have HX1 := Aside0.mk (blk_below HX.out hB); have HB1 := Aside0.mk (below_step HBX.out hB); clear hB)
      | (go_at_call 18; refine (C18.out _ HB1.out).mono ?_; rintro e w2 hP; obtain ⟨dp, mb, rfl, hS⟩ := hP.yes HC.out; have HB2 := Aside0.mk (below_step HB1.out hS.2.to); have x4 := blk_cell (blk_below HX1.out hS.2.to) 4; simp at x4; clear hP hS))
    go_ret
    exact ⟨rfl, HB2.out⟩
  · have HC := Aside0.mk hc
    have hn40 : Aside0 (ops.length ≤ 40) := ⟨few_short (by rw [Bool.and_eq_true] at hc; exact hc.2)⟩
    have t10 : decide (10 < (y.f4.length : Int)) = false := decide_eq_false (by omega)
    obtain ⟨DR, hDR⟩ : ∃ DR, Dk.run ⟨l, needed, []⟩ ops = DR := ⟨_, rfl⟩
    have HDR := Aside0.mk hDR
    rw [hDR] at hE
    obtain ⟨E, D1, hr, hE'⟩ : ∃ E D1, DR.amend y.f1 y.f2 y.f3 y.f4 = (0, E, D1) ∧ E ≠ 0 := by
      rcases amend_cases DR y.f1 y.f2 y.f3 y.f4 with hh | ⟨d, _, _, _, hh, _⟩
      · exact ⟨_, _, by rw [← hh.2.2], hh.1⟩
      · rw [hh] at hE; exact absurd rfl hE
    have HR := Aside0.mk hr
    have tE : (E != 0) = true := bne_iff_ne.mpr hE'
    clear hc h10 hE hr hE' hDR
    go_enter Try.func5, Try.ntmps5
    go_wp2_with (first
      | (go_at_call 10; refine (C10.out _).mono ?_; rintro e w1 ⟨rfl, hB⟩; have HX1 := Aside0.mk (blk_below HX.out hB); have HB1 := Aside0.mk (below_step HBX.out hB); clear hB)
      | (go_at_call 18; refine (C18.out _ HB1.out).mono ?_; rintro e w2 hP; obtain ⟨dp, mb, rfl, hS⟩ := hP.yes HC.out; rw [HDR.out] at hS; have S := Aside0.mk hS; have HX2 := Aside0.mk (blk_below HX1.out hS.2.to); have HB2 := Aside0.mk (below_step HB1.out hS.2.to); have x2 := blk_cell HX2.out 2; have x4 := blk_cell HX2.out 4; simp at x2 x4; clear hP hS)
      | (go_at_call 19; refine (S.out.1.history (by have := hn40.out; omega) y.f2 HY.out.2.1).mono ?_; rintro e w3 ⟨v, rfl, hR, hB⟩; have A3 := Aside0.mk (S.out.1.grow hB); have HB3 := Aside0.mk (below_step HB2.out hB); have z1 := blk_cell (blk_below HX2.out hB) 1; have z2 := blk_cell (blk_below HX2.out hB) 2; have z3 := blk_cell (blk_below HX2.out hB) 3; have z4 := blk_cell (blk_below HX2.out hB) 4; simp at z1 z2 z3 z4; clear hR hB)
      | (go_at_call 20; refine (A3.out.amend (by have := hn40.out; omega) y.f1 y.f2 y.f3 y.f4 Ay cy HY.out.2.1 HY.out.2.2.2 (Kd.F_mono (Kd.F_step (Kd.C_F heap68 HRY.out) (fun k hk hl => HB3.out.block k hk)) (fun k hk => .inl (Nat.lt_of_lt_of_le hk HB1.out.size))) HCY.out).mono ?_; rintro e w4 ⟨rfl, _, hK⟩; rw [HR.out]; simp only [two]; have HB4 := Aside0.mk (Kp.bel HB3.out hK (fun k hk hn => hn (.inl (Nat.lt_of_lt_of_le hk HB1.out.size))) HB3.out.size); clear hK))
    go_ret
    exact ⟨rfl, HB4.out⟩
end Go.Proofs.Ytkblcdpmdbofgaa.A
/- SessionAmends: the walk of an Amend that succeeds. -/
namespace Go.Proofs.Ytkblcdpmdbofgaa.A
open Go.RowKit Go.Proofs.YtkblcdpmdbofgaaW.PrintWords Go.Proofs.YtkblcdpmdbofgaaW.PrintLast Go.Proofs.YtkblcdpmdbofgaaW.PrintMore
set_option linter.unusedVariables false
set_option linter.unusedSimpArgs false

theorem wrap_i64 {x : Int} (h0 : -9000000000000000000 ≤ x) (h1 : x ≤ 9000000000000000000) : IntKind.i64.wrap x = x := by
  simp [IntKind.wrap, IntKind.signed, IntKind.bits]
  omega
theorem am_cells {W W' : World} {bx by_ n1 n2 n3 c1 c2 c3 : Nat} {y0 y2 b r y2' : Int} {y1 y1' : ByteArray} {A1 A2 A3 At : Option Addr} {c4 n4 : Nat} {cl : Bool} {ad : Addr} (h1 : W.heap[bx]? = some (.cells #[.int .i64 y0, .string y1, .int .i64 y2, .int .i64 r, .slice A1 n1 c1] 35 (0, 0))) (h2 : W.heap[by_]? = some (.cells #[.int .i64 y2', .int .i64 b, .string y1', .slice At n4 c4, .slice A2 n2 c2, .bool cl] 49 (0, 0))) (h3 : W.cell? ad = some (.slice A3 n3 c3)) (hB : Below W.heap.size W W') :
    W'.cell? ⟨bx, 1, none⟩ = some (.string y1) ∧ W'.cell? ⟨bx, 3, none⟩ = some (.int .i64 r) ∧ W'.cell? ⟨bx, 4, none⟩ = some (.slice A1 n1 c1) ∧ W'.cell? ⟨by_, 1, none⟩ = some (.int .i64 b) ∧ W'.cell? ⟨by_, 2, none⟩ = some (.string y1') ∧ W'.cell? ⟨by_, 4, none⟩ = some (.slice A2 n2 c2) ∧ W'.cell? ad = some (.slice A3 n3 c3) := by
  have g1 := blk_below h1 hB
  have g2 := blk_below h2 hB
  exact ⟨blk_cell g1 1, blk_cell g1 3, blk_cell g1 4, blk_cell g2 1, blk_cell g2 2, blk_cell g2 4, (hB.cell (World.block_lt_of_cell? W _ h3)).trans h3⟩

set_option maxHeartbeats 4000000 in
set_option maxRecDepth 100000 in
theorem amends_good (w0 : World) (A : Option Addr) (c : Nat) (l : List ByteArray) (needed : Int) (Ao : Option Addr) (co : Nat) (ops : List S35) (y0 : Int) (y1 : ByteArray) (y2 : Int) (y4 : List S68) (Ay : Option Addr) (cy : Nat)
    (hr : Kd.string.C w0 A l.length l) (hcp : l.length ≤ c) (hsz : ∀ x ∈ l, x.size ≤ 2000000) (hro : k35.C w0 Ao ops.length ops) (hco : ops.length ≤ co) (hlo : ops.length ≤ 2000000) (hok : ∀ x ∈ ops, opOk x)
    (hw2 : (Lit.int .i64 y2).wf = true) (hby : bulkL y4 ≤ 2000000) (hry : k68.C w0 Ay y4.length y4) (hcy : y4.length ≤ cy) (hc : (canNew l needed && fewS ops) = true) (h10 : y4.length ≤ 10)
    (DR D1 : Dk) (hDR : Dk.run ⟨l, needed, []⟩ ops = DR) (before : List (List S68)) (hk : before.length ≤ 256) (hbe : DR.hist y2 = before) (ham : DR.amend y1 y2 (before.length : Int) y4 = ((before.length : Int) + 1, 0, D1)) (hh0 : DR.has y2 = 0) (hh1 : D1.has y2 = 0) (haf : D1.hist y2 = before ++ [y4]) (cl : Bool) (hsh : D1.show_ y2 = ⟨y2, (before.length : Int) + 1, y1, y4, [], cl⟩) (hbb : ∀ x ∈ before, bulkL x ≤ 2000000) :
    Calls Try.prog 5 #[.slice A l.length c, .int .i64 needed, .slice Ao ops.length co, .agg #[.int .i64 y0, .string y1, .int .i64 y2, .int .i64 (before.length : Int), .slice Ay y4.length cy]] w0 fun e w' => e = .returned (.bool true) ∧ Below w0.heap.size w0 w' := by
  have C10 := Aside0.mk (fun (W : World) => awake_calls W)
  have C18 := Aside0.mk (fun (W : World) (hW : Below w0.heap.size w0 W) => play_calls A c l needed Ao co ops W (Kd.C_below hr hW) hcp hsz (Kd.C_below hro hW) hco hlo hok)
  have HRY := Aside0.mk hry
  have HCY := Aside0.mk hcy
  have HBY := Aside0.mk hby
  have HW2 := Aside0.mk hw2
  have HBX := Aside0.mk (below_alloc (Below.refl w0.heap.size w0) (.cells #[.int .i64 y0, .string y1, .int .i64 y2, .int .i64 (before.length : Int), .slice Ay y4.length cy] 35))
  have HX := Aside0.mk (heap_alloc_new w0 (.cells #[.int .i64 y0, .string y1, .int .i64 y2, .int .i64 (before.length : Int), .slice Ay y4.length cy] 35))
  have HC := Aside0.mk hc
  have hn40 : Aside0 (ops.length ≤ 40) := ⟨few_short (by rw [Bool.and_eq_true] at hc; exact hc.2)⟩
  have t10 : decide (10 < (y4.length : Int)) = false := decide_eq_false (by omega)
  have HDR := Aside0.mk hDR
  have F1 := Aside0.mk (And.intro hbe (And.intro hh0 (And.intro ham (And.intro hh1 (And.intro haf hsh)))))
  have HBB := Aside0.mk hbb
  have hkk := hk
  clear hr hcp hsz hro hco hlo hok hw2 hby hry hcy hc h10 hDR hbe ham hh0 hh1 haf hsh hbb hk
  go_enter Try.func5, Try.ntmps5
  go_wp2_with (first
    | (go_at_call 10; refine (C10.out _).mono ?_; rintro e w1 ⟨rfl, hB⟩; have HX1 := Aside0.mk (blk_below HX.out hB); have HB1 := Aside0.mk (below_step HBX.out hB); clear hB)
    | (go_at_call 18; refine (C18.out _ HB1.out).mono ?_; rintro e w2 hP; obtain ⟨dp, mb, rfl, hS⟩ := hP.yes HC.out; rw [HDR.out] at hS; have S := Aside0.mk hS; have HX2 := Aside0.mk (blk_below HX1.out hS.2.to); have HB2 := Aside0.mk (below_step HB1.out hS.2.to); have x2 := blk_cell HX2.out 2; have x4 := blk_cell HX2.out 4; simp at x2 x4; clear hP hS)
    | (go_at_call 19; first
        | (have _ := A4.out; refine (A4.out.history (by have := hn40.out; omega) y2 HW2.out).mono ?_; rintro e w5 ⟨v, rfl, hR, hB⟩; rw [F1.out.2.2.2.2.1] at hR; rw [F1.out.2.2.2.1]; obtain ⟨Av5, cv5, rfl⟩ := Kd.R_slice hR; have R5 := Aside0.mk hR; have A5 := Aside0.mk (A4.out.grow hB); have HB5 := Aside0.mk (below_step HB4.out hB); have HX5 := Aside0.mk (blk_below HX4.out hB); have R3b := Aside0.mk (Kd.R_below R3a.out hB); have u2 := blk_cell (blk_below HX4.out hB) 2; simp at u2; clear hR hB)
        | (refine (S.out.1.history (by have := hn40.out; omega) y2 HW2.out).mono ?_; rintro e w3 ⟨v, rfl, hR, hB⟩; rw [F1.out.1] at hR; rw [F1.out.2.1]; obtain ⟨Av3, cv3, rfl⟩ := Kd.R_slice hR; have R3 := Aside0.mk hR; have A3 := Aside0.mk (S.out.1.grow hB); have HB3 := Aside0.mk (below_step HB2.out hB); have HX3 := Aside0.mk (blk_below HX2.out hB); have z1 := blk_cell (blk_below HX2.out hB) 1; have z2 := blk_cell (blk_below HX2.out hB) 2; have z3 := blk_cell (blk_below HX2.out hB) 3; have z4 := blk_cell (blk_below HX2.out hB) 4; simp at z1 z2 z3 z4; clear hR hB))
    | (go_at_call 20; refine (A3.out.amend (by have := hn40.out; omega) y1 y2 (before.length : Int) y4 Ay cy HW2.out HBY.out (Kd.F_mono (Kd.F_step (Kd.C_F heap68 HRY.out) (fun k hk hl => HB3.out.block k hk)) (fun k hk => .inl (Nat.lt_of_lt_of_le hk HB1.out.size))) HCY.out).mono ?_; rintro e w4 ⟨rfl, hA, hK⟩; rw [F1.out.2.2.1] at hA; rw [F1.out.2.2.1]; simp only [two]; have HB4 := Aside0.mk (Kp.bel HB3.out hK (fun k hk hn => hn (.inl (Nat.lt_of_lt_of_le hk HB1.out.size))) HB3.out.size); have A4 := Aside0.mk hA; have HX4 := Aside0.mk (hK.blk HX3.out (fun hn => hn (.inl (Nat.lt_of_lt_of_le (Nat.lt_succ_self _) (by have := HB1.out.size; have := blk_lt HX1.out; omega))))); have R3a := Aside0.mk (Kd.R_step R3.out (fun k hk hl => hK.block k hl (fun hn => hn (.inr hk)))); have v2 := blk_cell HX4.out 2; simp at v2; clear hA hK)
    | (go_at_call 21; refine (A5.out.draft (by have := hn40.out; omega) y2 HW2.out).mono ?_; rintro e w6 ⟨vt, va, rfl, hT, hA, hB⟩; rw [F1.out.2.2.2.2.2] at hT hA; rw [F1.out.2.2.2.2.2, F1.out.2.2.2.1]; simp only [shownV]; obtain ⟨At6, ct6, rfl⟩ := Kd.R_slice hT; obtain ⟨Aa6, ca6, rfl⟩ := Kd.R_slice hA; have hBx := below_alloc hB (.cells #[.int .i64 y2, .int .i64 ((before.length : Int) + 1), .string y1, .slice At6 y4.length ct6, .slice Aa6 ([] : List ByteArray).length ca6, .bool cl] 49); have HB7 := Aside0.mk (below_step HB5.out hBx); have HX7 := Aside0.mk (blk_below HX5.out hBx); have HD7 := Aside0.mk (heap_alloc_new w6 (.cells #[.int .i64 y2, .int .i64 ((before.length : Int) + 1), .string y1, .slice At6 y4.length ct6, .slice Aa6 ([] : List ByteArray).length ca6, .bool cl] 49)); have R5b := Aside0.mk (Kd.R_below R5.out hBx); have R3c := Aside0.mk (Kd.R_below R3b.out hBx); clear hT hA hB hBx))
  generalize hW7 : (w6.alloc (.cells #[.int .i64 y2, .int .i64 ((before.length : Int) + 1), .string y1, .slice At6 y4.length ct6, .slice Aa6 ([] : List ByteArray).length ca6, .bool cl] 49)) = W7 at *
  have R5c := Kd.R_reads' R5b.out
  obtain ⟨adv, A9, c9, eAv, hx9, hl9, hC9⟩ := at_L4 R5c.2.2 (before.length : Int) (Int.natCast_nonneg _) (by simp; omega)
  have he : rd_L4 (before ++ [y4]) (before.length : Int) = y4 := by
    unfold rd_L4
    rw [List.getD_eq_getElem?_getD, Int.toNat_natCast, List.getElem?_append_right (Nat.le_refl _)]
    simp
  rw [he] at hx9 hl9 hC9
  rw [Int.toNat_natCast] at hx9
  subst eAv
  obtain ⟨i0, hi0, _, hsz0, _⟩ := info_parts info33
  obtain ⟨hcut, _, _⟩ := print_take_of (P := Try.prog) (fun (_ : List S68) => Value.int .i64 0) ([] : List S68) 43 33 .i64 Try.underlying43 hi0 hsz0 (some adv) cv5 (before ++ [y4]) (before.length : Int) (Int.natCast_nonneg _) (by simp; omega) R5c.2.1
  have htk : (before ++ [y4]).take ((before.length : Int)).toNat = before := by rw [Int.toNat_natCast, List.take_left']; rfl
  rw [htk] at hcut
  simp only [List.length_append, List.length_cons, List.length_nil, Nat.zero_add] at hcut
  have CT := Kd.C_take R5c.2.2 (m := before.length) (by simp)
  rw [show (before ++ [y4]).take before.length = before from by rw [List.take_left']; rfl] at CT
  have HCT := Aside0.mk CT
  have HC5 : Aside0 (before.length ≤ cv5) := ⟨by have := R5c.2.1; simp at this; omega⟩
  have HC9 := Aside0.mk hC9
  have HL9 := Aside0.mk hl9
  have HX9 := Aside0.mk hx9
  have R3d := Aside0.mk (Kd.R_reads' R3c.out)
  have HBdr : Aside0 (Below W7.heap.size W7 W7.drew) := ⟨below_drew (Below.refl _ _)⟩
  have HRY7 := Aside0.mk (Kd.C_below HRY.out HB7.out)
  have lb : before.length ≤ 2000000 := by omega
  have HLB := Aside0.mk lb
  have HD8 : Aside0 (W7.heap[w6.heap.size]? = some (.cells #[.int .i64 y2, .int .i64 ((before.length : Int) + 1), .string y1, .slice At6 y4.length ct6, .slice Aa6 0 ca6, .bool cl] 49 (0, 0))) := ⟨HD7.out⟩
  have fw1 : wrap64 ((before.length : Int) + 1) = (before.length : Int) + 1 := wrap_small (by omega) (by omega)
  have fw2 : IntKind.i64.wrap ((before.length : Int) + 1) = (before.length : Int) + 1 := wrap_i64 (by omega) (by omega)
  have fw3 : wrap64 ((before.length : Int) + 1 - 1) = (before.length : Int) := (wrap_small (by omega) (by omega)).trans (by omega)
  have fw4 : IntKind.i64.wrap ((before.length : Int) + 1 - 1) = (before.length : Int) := (wrap_i64 (by omega) (by omega)).trans (by omega)
  have fw5 : IntKind.i64.wrap (before.length : Int) = (before.length : Int) := wrap_i64 (by omega) (by omega)
  have fi1 : (0 : Int) ≤ (before.length : Int) := Int.natCast_nonneg _
  have fi2 : (before.length : Int) < (before.length : Int) + 1 := by omega
  have fe1 : ((before.length : Int) + 1 == (before.length : Int) + 1) = true := beq_self_eq_true _
  have S7 := Aside0.mk (am_cells HX7.out HD8.out HX9.out HBdr.out)
  clear R5c hC9 hl9 hx9 CT he htk hi0 hsz0 hW7
  go_region_held3 (fun w' => w'.cell? ⟨w0.heap.size, 1, none⟩ = some (.string y1) ∧ w'.cell? ⟨w0.heap.size, 3, none⟩ = some (.int .i64 (before.length : Int)) ∧ w'.cell? ⟨w0.heap.size, 4, none⟩ = some (.slice Ay y4.length cy) ∧ w'.cell? ⟨w6.heap.size, 1, none⟩ = some (.int .i64 ((before.length : Int) + 1)) ∧ w'.cell? ⟨w6.heap.size, 2, none⟩ = some (.string y1) ∧ w'.cell? ⟨w6.heap.size, 4, none⟩ = some (.slice Aa6 0 ca6) ∧ w'.cell? (adv.add before.length) = some (.slice A9 y4.length c9))
    (first
      | (with_reducible exact S7.out)
      | (with_reducible exact S9.out)
      | (with_reducible exact S8.out))
    (first
      | (go_at_call 22; refine (sameHistory_calls before HLB.out HBB.out (Kd.C_below HCT.out HBdr.out) HC5.out (Kd.C_below R3d.out.2.2 HBdr.out) R3d.out.2.1).mono ?_; rintro e w8 ⟨rfl, hB⟩; have HB8 := Aside0.mk (below_step HBdr.out hB); have S8 := Aside0.mk (am_cells HX7.out HD8.out HX9.out HB8.out); clear hB)
      | (go_at_call 23; refine (sameAll_calls y4 HBY.out (Kd.C_below HC9.out HB8.out) HL9.out (Kd.C_below HRY7.out HB8.out) HCY.out).mono ?_; rintro e w9 ⟨rfl, hB⟩; have HB9 := Aside0.mk (below_step HB8.out hB); have S9 := Aside0.mk (am_cells HX7.out HD8.out HX9.out HB9.out); clear hB))
  go_wp2
  go_ret
  exact ⟨rfl, below_step HB7.out HB9.out⟩
end Go.Proofs.Ytkblcdpmdbofgaa.A
/- SessionAmends: the whole walk. -/
namespace Go.Proofs.Ytkblcdpmdbofgaa.A
open Go.RowKit Go.Proofs.YtkblcdpmdbofgaaW.PrintWords Go.Proofs.YtkblcdpmdbofgaaW.PrintLast Go.Proofs.YtkblcdpmdbofgaaW.PrintMore
set_option linter.unusedVariables false
set_option linter.unusedSimpArgs false

theorem good_run {D : Dk} {n : Nat} (h : D.good n) (ops : List S35) (hok : ∀ x ∈ ops, opOk x) : (D.run ops).good (n + ops.length) := by
  induction ops generalizing D n with
  | nil => exact h
  | cons x r ih =>
    have h1 : ((D.doOp x).2.2).good (n + 1) := by
      have hm := h.mono (Nat.le_succ n)
      have hx := (hok x (List.mem_cons_self ..)).2.2.2
      unfold Dk.doOp
      split
      · exact hm.opens _ _ hx
      split
      · exact hm.amend _ _ _ _ hx
      split
      · exact h.approve _ _ _
      split
      · exact hm
      split
      · exact hm.close _
      · exact hm
    have := ih h1 (fun y hy => hok y (List.mem_cons_of_mem _ hy))
    rw [List.length_cons, show n + (r.length + 1) = n + 1 + r.length by omega]
    exact this

theorem amends_walk (w0 : World) (A : Option Addr) (c : Nat) (l : List ByteArray) (needed : Int) (Ao : Option Addr) (co : Nat) (ops : List S35) (y : S35) (Ay : Option Addr) (cy : Nat)
    (hr : Kd.string.C w0 A l.length l) (hcp : l.length ≤ c) (hsz : ∀ x ∈ l, x.size ≤ 2000000) (hro : k35.C w0 Ao ops.length ops) (hco : ops.length ≤ co) (hlo : ops.length ≤ 2000000) (hok : ∀ x ∈ ops, opOk x)
    (hy : opOk y) (hry : k68.C w0 Ay y.f4.length y.f4) (hcy : y.f4.length ≤ cy) :
    Calls Try.prog 5 #[.slice A l.length c, .int .i64 needed, .slice Ao ops.length co, .agg #[.int .i64 y.f0, .string y.f1, .int .i64 y.f2, .int .i64 y.f3, .slice Ay y.f4.length cy]] w0 fun e w' => e = .returned (.bool true) ∧ Below w0.heap.size w0 w' := by
  cases hc : (canNew l needed && fewS ops) with
  | false => exact amends_early w0 A c l needed Ao co ops y Ay cy hr hcp hsz hro hco hlo hok hy hry hcy (.inl hc)
  | true =>
    by_cases h10 : y.f4.length ≤ 10
    · rcases amend_cases (Dk.run ⟨l, needed, []⟩ ops) y.f1 y.f2 y.f3 y.f4 with hh | ⟨d, hg, _, hrev, ham, _, _⟩
      · exact amends_early w0 A c l needed Ao co ops y Ay cy hr hcp hsz hro hco hlo hok hy hry hcy (.inr (.inr ⟨hc, h10, hh.1⟩))
      · have hl16 : l.length ≤ 16 := by
          rw [Bool.and_eq_true] at hc
          have h1 := hc.1
          unfold canNew at h1
          simp only [Bool.and_eq_true, decide_eq_true_eq] at h1
          omega
        have hgood := good_run (D := ⟨l, needed, []⟩) (n := 0) ⟨by show l.length ≤ 1000000; omega, fun d hd => by simp at hd⟩ ops hok
        have hd := hgood.2 d (Dk.get_mem hg)
        have hg1 := get_put hg ⟨y.f1, y.f4, d.earlier ++ [d.trees], [], d.closed⟩ y.f2
        rw [if_pos rfl] at hg1
        have hbl : (d.earlier ++ [d.trees]).length = d.earlier.length + 1 := by simp
        obtain ⟨z0, z1, z2, z3, z4⟩ := y
        simp only at *
        have hz3 : z3 = ((d.earlier ++ [d.trees]).length : Int) := by rw [hbl]; omega
        subst hz3
        refine amends_good w0 A c l needed Ao co ops z0 z1 z2 z4 Ay cy hr hcp hsz hro hco hlo hok hy.2.1 hy.2.2.2 hry hcy hc h10 (Dk.run ⟨l, needed, []⟩ ops) _ rfl (d.earlier ++ [d.trees]) (by rw [hbl]; have := hd.1; omega) (by unfold Dk.hist; rw [hg]) (ham.trans ?_) (by unfold Dk.has; rw [hg]) (by unfold Dk.has; rw [hg1]) (by unfold Dk.hist; rw [hg1]) d.closed ?_ ?_
        · rw [hbl, show (((d.earlier.length + 1 : Nat) : Int) + 1) = (d.earlier.length : Int) + 2 by omega]
        · unfold Dk.show_
          rw [hg1]
        · intro x hx
          rcases List.mem_append.1 hx with hx | hx
          · exact hd.2.2.2 x hx
          · rw [List.mem_singleton.1 hx]; exact hd.2.2.1
    · exact amends_early w0 A c l needed Ao co ops y Ay cy hr hcp hsz hro hco hlo hok hy hry hcy (.inr (.inl ⟨hc, by omega⟩))
end Go.Proofs.Ytkblcdpmdbofgaa.A
/- The law SessionAmends returns true for every list of editors, every number, every list of operations and every further operation, and leaves its arguments as they were: where the arguments are of bulk at most 1048576 (the second form of the statement, SessionAmendsUptoSaid). -/
namespace Go.Proofs.Ytkblcdpmdbofgaa.sessionAmends
open Go.ChangeShapes Go.WideShapes Go.ChangeAt Go.RowKit
open Go.Proofs.Ytkblcdpmdbofgaa.A
set_option linter.unusedVariables false
theorem own : ownKnob Try.prog.godebug = none := by kernel_rfl
theorem laidOut : laidOutB Try.prog = true := by kernel_rfl
theorem agg5 {v a b c d e : Value} (h : v.cells.toList = [a, b, c, d, e]) : v = .agg #[a, b, c, d, e] := by
  cases v <;> simp [Value.cells] at h
  rename_i xs
  obtain ⟨l⟩ := xs
  simp at h
  rw [h]
set_option maxRecDepth 100000 in
theorem contract (H : Type) (enc : TypeId × Value → H) (W : World) (base : Nat) (args : Array Value) (ds gs : List (DataW H)) (before : List MemPlace)
    (hval : ∀ (j : Nat) t v, Try.f5.params[j]? = some t → args[j]? = some v → Value.okWide Try.prog W .any base t v)
    (hW : DataW.Whole enc Try.prog Try.f5.params.toList Rows.sessionAmendsSpec.vars false W args.toList ds gs before) (hk : Rows.uptoSmall H (ds ++ gs) = true) :
    Calls Try.prog 5 args W fun e W' => ∃ v, e = .returned v ∧ Rows.sessionAmendsSpec.post enc Try.prog Try.f5 false true false false W args v W' := by
  have hW' := hW
  obtain ⟨p, q, hA0, hV, rfl, hfz, hnd⟩ := hW
  have hA : DataW.TrodAll enc Try.prog W 0 (fun _ => true) true Try.f5.params.toList args.toList ds p := hA0
  rw [Try.params5] at hA hval
  obtain ⟨v0, vs0, d0, ds0, p0, q0, hargs, rfl, rfl, h0, r0⟩ := trodAll_cons hA
  obtain ⟨v1, vs1, d1, ds1, p1, q1, rfl, rfl, rfl, h1, r1⟩ := trodAll_cons r0
  obtain ⟨v2, vs2, d2, ds2, p2, q2, rfl, rfl, rfl, h2, r2⟩ := trodAll_cons r1
  obtain ⟨v3, vs3, d3, ds3, p3, q3, rfl, rfl, rfl, h3, r3⟩ := trodAll_cons r2
  obtain ⟨rfl, rfl, rfl⟩ := trodAll_nil r3
  obtain rfl : args = #[v0, v1, v2, v3] := by cases args; simp_all
  obtain ⟨rfl, rfl⟩ := trodVars_none hV
  have hsm : Rows.uptoBulk d0 + Rows.uptoBulk d1 + Rows.uptoBulk d2 + Rows.uptoBulk d3 ≤ 1048576 := by
    have := of_decide_eq_true hk
    simp only [List.append_nil, Rows.uptoBulkAll] at this
    omega
  simp only [List.append_nil] at hW'
  have k0 := h0
  have lt0 : ∀ x ∈ p0, x.block < W.heap.size := by obtain ⟨m, hm⟩ := k0; exact DataW.trod_lt m _ _ _ hm
  obtain ⟨A0, len0, c0, rfl⟩ := okWide_slice Try.underlying22 (hval 0 22 v0 rfl rfl)
  obtain ⟨fuel0, hf0⟩ := h0
  obtain ⟨A0', x0, c0', hcs0, hl0, hC0, hb0⟩ := open_strsC hf0
  simp [Value.cells] at hcs0
  obtain ⟨rfl, rfl, rfl⟩ := hcs0
  have hbk0 : sumOf (fun s : ByteArray => s.size + 1) x0 + 1 ≤ Rows.uptoBulk d0 := hb0
  have sm0 := strs_small (n := Rows.uptoBulk d0) hbk0 (by omega)
  obtain ⟨x1, rfl, rfl, rfl, w1⟩ := open_int Try.underlying3 (hval 1 3 v1 rfl rfl) h1
  have k2 := h2
  have lt2 : ∀ x ∈ p2, x.block < W.heap.size := by obtain ⟨m, hm⟩ := k2; exact DataW.trod_lt m _ _ _ hm
  obtain ⟨A2, len2, c2, rfl⟩ := okWide_slice Try.underlying31 (hval 2 31 v2 rfl rfl)
  obtain ⟨fuel2, hf2⟩ := h2
  obtain ⟨A2', x2, c2', hcs2, hl2, hC2, hw2, hb2⟩ := open_opsC hf2
  simp [Value.cells] at hcs2
  obtain ⟨rfl, rfl, rfl⟩ := hcs2
  have hbk2 : sumOf (fun y : S35 => y.f1.size + Go.Proofs.Ytkblcdpmdbofgaa.A.bulkL y.f4 + 1) x2 + 1 ≤ Rows.uptoBulk d2 := hb2
  have sm2 := ops_small hw2 (n := Rows.uptoBulk d2) hbk2 (by omega)
  have k3 := h3
  have lt3 : ∀ x ∈ p3, x.block < W.heap.size := by obtain ⟨m, hm⟩ := k3; exact DataW.trod_lt m _ _ _ hm
  obtain ⟨fuel3, hf3⟩ := h3
  obtain ⟨x3, A3, c3, hcs3, hl3, hC3, hw3, hb3⟩ := open_opC hf3
  obtain rfl := agg5 hcs3
  have hbk3 : x3.f1.size + Go.Proofs.Ytkblcdpmdbofgaa.A.bulkL x3.f4 + 1 ≤ Rows.uptoBulk d3 := hb3
  have sm3 : opOk x3 := ⟨hw3.1, hw3.2.1, hw3.2.2, by omega⟩
  refine (amends_walk W A0 c0 x0 x1 A2 c2 x2 x3 A3 c3 hC0 hl0 sm0.1 hC2 hl2 sm2.2 sm2.1 sm3 hC3 hl3).mono fun e W' ⟨he, bel⟩ => ?_
  subst he
  exact ⟨_, rfl, _, _, _, [], _, [], hW', trodAll_mk1 (shut_bool Try.underlying4 _), (trodAll_cons_mk (Below.trod laidOut (by kernel_rfl) (of_decide_eq_true (by kernel_rfl)) k0 bel lt0) (trodAll_cons_mk (shut_int Try.underlying3 w1) (trodAll_cons_mk (Below.trod laidOut (by kernel_rfl) (of_decide_eq_true (by kernel_rfl)) k2 bel lt2) (trodAll_cons_mk (Below.trod laidOut (by kernel_rfl) (of_decide_eq_true (by kernel_rfl)) k3 bel lt3) trodAll_mk0)))), rfl, bel.frame _, fun h => by cases h⟩

set_option maxRecDepth 100000 in
theorem lifted (os : Os) (started : os.Started) (H : Type) (enc : TypeId × Value → H) (F : Stop.Interp) :
    ReturnsInHanded {} Try.checked os 5 .any ((Rows.OpenSpec.upto Rows.sessionAmendsSpec).pre6 enc Try.prog Try.f5 Rows.sessionAmendsUptoRow.domain false) (((Rows.OpenSpec.upto Rows.sessionAmendsSpec).at F).post enc Try.prog Try.f5 false true false false) := by
  refine returnsInHanded_of_cond (C := Try.checked) (s := Rows.OpenSpec.upto Rows.sessionAmendsSpec) (k := Rows.uptoSmall) rfl own started (by kernel_rfl) Try.func5
    (OpenSpec.witness (enc := enc) (C := Try.checked) (s := Rows.OpenSpec.upto Rows.sessionAmendsSpec) (k := Rows.uptoSmall) rfl false ⟨#[], #[.slice none 0 0, .int .i64 0, .slice none 0 0, .agg #[.int .i64 0, .string ⟨#[]⟩, .int .i64 0, .int .i64 0, .slice none 0 0]], []⟩ 8 (by kernel_rfl) (by kernel_rfl) (by kernel_rfl)
      (x := ([.nil, .lit (.int .i64 0), .nil, .agg [.lit (.int .i64 0), .lit (.string []), .lit (.int .i64 0), .lit (.int .i64 0), .nil]], [], [])) (by kernel_rfl) rfl (by kernel_rfl)) ?_
  intro W base args ds gs before hval hW _ hk _
  exact contract H enc W base args ds gs before hval hW hk

theorem over : Rows.sessionAmendsUptoRow.holds Try.pinned (Rows.OpenSpec.upto Rows.sessionAmendsSpec) :=
  OpenClaim.holds_of_cond 5 Try.f5 rfl rfl rfl rfl rfl rfl rfl ⟨rfl, rfl, rfl, rfl, rfl⟩ rfl rfl rfl rfl rfl (by kernel_rfl) Try.func5 (by kernel_rfl)
    (of_decide_eq_true (by kernel_rfl)) (by unfold Func.isWrapper; first | (rw [if_pos (by decide +kernel)]; kernel_rfl) | (rw [if_neg (by decide +kernel)]; exact ⟨rfl, rfl⟩))
    (fun os started H enc _ F => lifted os started H enc F)

theorem proved : Rows.SessionAmendsUptoSaid := over
end Go.Proofs.Ytkblcdpmdbofgaa.sessionAmends
namespace Go.Proofs.Ytkblcdpmdbofgaa
/-- The row, under a short name, for the claim. -/
theorem sessionAmends_upto : Rows.SessionAmendsUptoSaid := sessionAmends.proved
end Go.Proofs.Ytkblcdpmdbofgaa
