/- api.Functions returns the lexicon's functions: its one statement is run by the kernel. -/
import Derived.Test.YtkblcdpmdbofgaaB1
namespace Go.Proofs.Ytkblcdpmdbofgaa.A
open Go.RowKit Go.Proofs.YtkblcdpmdbofgaaW.PrintWords Go.Proofs.YtkblcdpmdbofgaaW.PrintLast Go.Proofs.YtkblcdpmdbofgaaW.PrintMore
set_option linter.unusedVariables false
set_option linter.unusedSimpArgs false

/-- Plain operations, run one behind the other. -/
def runL (P : Program) : List Oper → Act → World → Option (Act × World)
  | [], a, w => some (a, w)
  | o :: r, a, w => match o.guard with
    | none => match (execOp a.eval o).run P w with
      | .ok (.value v) w' => runL P r (a.put o.dst v) w'
      | _ => none
    | some _ => none

theorem wpList_run {P : Program} {ops : Array Oper} {Q : Exit → Act → World → Prop} : ∀ (l : List Oper) (a : Act) (w : World) (a' : Act) (w' : World), runL P l a w = some (a', w') → Q .normal a' w' → wpList P ops Q l a w
  | [], a, w, a', w', h, hq => by
    simp only [runL, Option.some.injEq, Prod.mk.injEq] at h
    obtain ⟨rfl, rfl⟩ := h
    exact wpList_nil hq
  | o :: r, a, w, a', w', h, hq => by
    unfold runL at h
    cases hg : o.guard with
    | some g => simp [hg] at h
    | none =>
      simp only [hg] at h
      refine wpList_plain hg fun K hK => ?_
      unfold Oper.wp
      split at h
      · rename_i v w1 hr
        rw [hr]
        exact hK _ _ (wpList_run r _ _ _ _ h hq)
      · cases h

theorem runL_append {P : Program} : ∀ (l1 l2 : List Oper) (a : Act) (w : World), runL P (l1 ++ l2) a w = (runL P l1 a w).bind fun p => runL P l2 p.1 p.2
  | [], l2, a, w => rfl
  | o :: r, l2, a, w => by
    rw [List.cons_append]
    cases hg : o.guard with
    | some g => simp only [runL, hg, Option.bind_none]
    | none =>
      simp only [runL, hg]
      split
      · exact runL_append r l2 _ _
      · rfl

/-- A list of functions, laid: a block for each list of arguments that is not empty; the cells of them all. -/
def layF (w : World) : List S105 → World × List Value
  | [] => (w, [])
  | f :: r => match f.f1 with
    | [] => let q := layF w r; (q.1, [.string f.f0, .slice none 0 0, .string f.f2, .int .i64 f.f3] ++ q.2)
    | x :: xs =>
      let q := layF (w.alloc (.cells ((x :: xs).map Value.string).toArray 9)) r
      (q.1, [.string f.f0, .slice (some ⟨w.heap.size, 0, none⟩) (xs.length + 1) (xs.length + 1), .string f.f2, .int .i64 f.f3] ++ q.2)

def fn (n : List UInt8) (args : List (List UInt8)) (r : List UInt8) (v : Int) : S105 := ⟨⟨n.toArray⟩, args.map fun l => ⟨l.toArray⟩, ⟨r.toArray⟩, v⟩
/-- The lexicon's functions. -/
def lexicon : List S105 := [
  fn [78, 97, 109, 101] [[80, 78]] [78, 80] 0,
  fn [69, 118, 101, 114, 121] [[67, 78]] [78, 80] 0,
  fn [83, 111, 109, 101] [[67, 78]] [78, 80] 0,
  fn [78, 111] [[67, 78]] [78, 80] 0,
  fn [69, 118, 101, 114, 121, 69, 120, 99, 101, 112, 116] [[67, 78], [67, 78]] [78, 80] 0,
  fn [66, 111, 116, 104] [[78, 80], [78, 80]] [78, 80] 0,
  fn [73, 116] [] [78, 80] 0,
  fn [84, 104, 101, 121] [] [78, 80] 0,
  fn [78, 111, 117, 110] [[78]] [67, 78] 0,
  fn [65, 100, 106] [[65], [67, 78]] [67, 78] 0,
  fn [87, 104, 111] [[67, 78], [86, 80]] [67, 78] 0,
  fn [65, 99, 116] [[86, 49]] [86, 80] 0,
  fn [68, 111] [[86, 50], [78, 80]] [86, 80] 0,
  fn [71, 105, 118, 101] [[86, 51], [78, 80], [78, 80]] [86, 80] 0,
  fn [67, 111, 115, 116] [[86, 81]] [86, 80] 1,
  fn [65, 110, 100, 86, 80] [[86, 80], [86, 80]] [86, 80] 0,
  fn [65, 115, 115, 101, 114, 116] [[78, 80], [86, 80]] [83] 0,
  fn [77, 117, 115, 116] [[78, 80], [86, 80]] [83] 0,
  fn [77, 117, 115, 116, 78, 111, 116] [[78, 80], [86, 80]] [83] 0,
  fn [77, 97, 121] [[78, 80], [86, 80]] [83] 0,
  fn [68, 117, 114, 105, 110, 103] [[83]] [83] 2,
  fn [83, 105, 110, 99, 101] [[83]] [83] 1,
  fn [85, 110, 116, 105, 108] [[83]] [83] 1,
  fn [65, 110, 100] [[83], [83]] [83] 0,
  fn [79, 114] [[83], [83]] [83] 0,
  fn [73, 102] [[83], [83]] [83] 0,
  fn [65, 108, 115, 111] [[83], [78, 80]] [83] 0,
  fn [80, 108, 101, 97, 115, 101] [[83]] [83] 0,
  fn [112, 97, 115, 115, 101, 110, 103, 101, 114] [] [78] 0,
  fn [99, 104, 105, 108, 100] [] [78] 0,
  fn [103, 117, 97, 114, 100] [] [78] 0,
  fn [100, 111, 103] [] [78] 0,
  fn [102, 101, 114, 114, 121] [] [78] 0,
  fn [116, 105, 99, 107, 101, 116] [] [78] 0,
  fn [98, 97, 103] [] [78] 0,
  fn [100, 111, 111, 114] [] [78] 0,
  fn [116, 105, 114, 101, 100] [] [65] 0,
  fn [111, 108, 100] [] [65] 0,
  fn [119, 101, 116] [] [65] 0,
  fn [115, 109, 97, 108, 108] [] [65] 0,
  fn [108, 111, 99, 107, 101, 100] [] [65] 0,
  fn [119, 97, 105, 116] [] [86, 49] 0,
  fn [115, 108, 101, 101, 112] [] [86, 49] 0,
  fn [115, 109, 111, 107, 101] [] [86, 49] 0,
  fn [100, 101, 112, 97, 114, 116] [] [86, 49] 0,
  fn [97, 114, 114, 105, 118, 101] [] [86, 49] 0,
  fn [99, 97, 114, 114, 121] [] [86, 50] 0,
  fn [111, 112, 101, 110] [] [86, 50] 0,
  fn [116, 111, 117, 99, 104] [] [86, 50] 0,
  fn [98, 111, 97, 114, 100] [] [86, 50] 0,
  fn [101, 110, 116, 101, 114] [] [86, 50] 0,
  fn [115, 104, 111, 119] [] [86, 51] 0,
  fn [103, 105, 118, 101] [] [86, 51] 0,
  fn [114, 101, 116, 117, 114, 110] [] [86, 51] 0,
  fn [99, 111, 115, 116] [] [86, 81] 0,
  fn [119, 101, 105, 103, 104] [] [86, 81] 0,
  fn [109, 97, 114, 116, 97] [] [80, 78] 0,
  fn [99, 97, 112, 116, 97, 105, 110] [] [80, 78] 0,
  fn [110, 111, 114, 116, 104, 45, 102, 101, 114, 114, 121] [] [80, 78] 0,
  fn [115, 111, 117, 116, 104, 45, 102, 101, 114, 114, 121] [] [80, 78] 0,
  fn [111, 108, 100, 45, 113, 117, 97, 121] [] [80, 78] 0]

theorem body55 : Try.f55.body = some (.seq (.region 0 (opsOf Try.f55 0) false) (.seq (.region 1 (opsOf Try.f55 1) false) .ret)) := by kernel_rfl
theorem run55 (w : World) : ((runL Try.prog ((opsOf Try.f55 0).toList ++ (opsOf Try.f55 1).toList) { tmps := #[] ++ Array.replicate (Try.f55.ntmps - 0) undef, defers := [] } w).map fun r => (r.1.tmps.getD 0 undef, r.1.defers, r.2)) =
    some (.slice (some ⟨(layF w lexicon).1.heap.size, 0, none⟩) 61 61, [], (layF w lexicon).1.alloc (.cells (layF w lexicon).2.toArray 105)) := by kernel_rfl

theorem block_own {w : World} {g e size n : Nat} {cs : List Value} (h : w.heap[g]? = some (.cells cs.toArray e)) (hl : cs.length = n * size) (hn : n ≤ 9223372036854775807) : w.ownsRow 0 e size (.slice (some ⟨g, 0, none⟩) n n) n cs :=
  ⟨hl, .inr ⟨g, n, cs.toArray, rfl, Nat.zero_le _, h, Nat.le_refl _, by simpa [maxLen] using hn, by simpa using hl, by
    show cs.take (n * size) = cs
    rw [← hl, List.take_length]⟩⟩

theorem layF_below : ∀ (l : List S105) (w : World), Below w.heap.size w (layF w l).1
  | [], w => Below.refl _ _
  | f :: r, w => by
    unfold layF
    split
    · exact layF_below r w
    · exact below_step (below_alloc (Below.refl _ _) _) (layF_below r _)

theorem layF_reads : ∀ (l : List S105) (w W : World), (∀ f ∈ l, f.f1.length ≤ 9223372036854775807) → Below (layF w l).1.heap.size (layF w l).1 W → Reps (fun x c => k105.K W x c) 4 l (layF w l).2
  | [], w, W, hl, hb => Reps.none _ _
  | f :: r, w, W, hl, hb => by
    have one : ∀ (x : S105) (c : List Value), k105.K W x c → Reps (fun x c => k105.K W x c) 4 [x] c := fun x c hc => by
      have h := (Reps.none (fun x c => k105.K W x c) 4).snoc hc (by rw [k105.K_len hc]; rfl)
      simpa using h
    have hr : ∀ w', Below (layF w' r).1.heap.size (layF w' r).1 W → Reps (fun x c => k105.K W x c) 4 r (layF w' r).2 := fun w' hb' => layF_reads r w' W (fun f hf => hl f (List.mem_cons_of_mem _ hf)) hb'
    unfold layF at hb ⊢
    split at hb
    · rename_i h0
      refine Kd.reps_append (one f _ ?_) (hr w hb)
      have := k105_mk W f (A1 := none) (c1 := 0) (by rw [h0]; exact Nat.le_refl _) (by rw [h0]; exact Kd.C_nil _ _)
      rwa [h0] at this
    · rename_i x xs h0
      refine Kd.reps_append (one f _ ?_) (hr _ hb)
      have hg : W.heap[w.heap.size]? = some (.cells ((x :: xs).map Value.string).toArray 9) := blk_below (blk_below (heap_alloc_new w _) (layF_below r _)) hb
      have hlen : (x :: xs).length ≤ 9223372036854775807 := by have := hl f List.mem_cons_self; rwa [h0] at this
      obtain ⟨A, c, he, hC⟩ := own_reads_row (R := fun (x : ByteArray) (cs : List Value) => cs = [.string x]) (block_own (size := 1) (n := (x :: xs).length) hg (by simp) hlen) (Kd.reps_scalar (enc := Value.string) (x :: xs)) rfl
      injection he with he1 he2 he3
      subst he1
      have := k105_mk W f (A1 := some ⟨w.heap.size, 0, none⟩) (c1 := xs.length + 1) (by rw [h0]; exact Nat.le_refl _) (by rw [h0]; exact hC)
      rwa [h0] at this

theorem lexicon_short : ∀ f ∈ lexicon, f.f1.length ≤ 9223372036854775807 := by
  have h : lexicon.all (fun f => decide (f.f1.length ≤ 3)) = true := by decide +kernel
  intro f hf
  have := List.all_eq_true.1 h f hf
  have := of_decide_eq_true this
  omega

/-- api.Functions: a new list that reads as the lexicon's functions. -/
theorem functions_calls (w : World) : Calls Try.prog 55 #[] w fun e w' => ∃ A c, e = .returned (.slice A lexicon.length c) ∧ lexicon.length ≤ c ∧ k105.C w' A lexicon.length lexicon ∧ Below w.heap.size w w' := by
  have h := run55 w
  cases hr : runL Try.prog ((opsOf Try.f55 0).toList ++ (opsOf Try.f55 1).toList) { tmps := #[] ++ Array.replicate (Try.f55.ntmps - 0) undef, defers := [] } w with
  | none => rw [hr] at h; cases h
  | some p =>
    obtain ⟨a', w'⟩ := p
    rw [hr] at h
    simp only [Option.map_some, Option.some.injEq, Prod.mk.injEq] at h
    obtain ⟨h0, hd, rfl⟩ := h
    rw [runL_append] at hr
    cases h1 : runL Try.prog (opsOf Try.f55 0).toList { tmps := #[] ++ Array.replicate (Try.f55.ntmps - 0) undef, defers := [] } w with
    | none => rw [h1] at hr; cases hr
    | some q =>
      obtain ⟨a1, w1⟩ := q
      rw [h1] at hr
      simp only [Option.bind_some] at hr
      refine calls_of_wp Try.func55 body55 ?_
      refine wp_seq (wp_region_list (wpList_run _ _ _ _ _ h1 ?_))
      refine wp_seq (wp_region_list (wpList_run _ _ _ _ _ hr ?_))
      refine wp_ret ?_
      refine bodyPost_ret (results_tmp rfl _ _ _) hd ?_
      have hl : lexicon.length = 61 := by decide +kernel
      refine ⟨_, _, congrArg Ending.returned h0, ?_, ?_, below_step (layF_below lexicon w) (below_alloc (Below.refl _ _) _)⟩
      · rw [hl]; exact Nat.le_refl _
      · have hb : Below (layF w lexicon).1.heap.size (layF w lexicon).1 ((layF w lexicon).1.alloc (.cells (layF w lexicon).2.toArray 105)) := below_alloc (Below.refl _ _) _
        have hR := layF_reads lexicon w _ lexicon_short hb
        obtain ⟨A, c, he, hC⟩ := own_reads_row (block_own (size := 4) (n := 61) (heap_alloc_new (layF w lexicon).1 _) (by rw [hR.1, hl]) (by omega)) hR hl
        injection he with he1 he2 he3
        subst he1
        rw [hl]
        exact hC
end Go.Proofs.Ytkblcdpmdbofgaa.A
