/-
  A part of the proof: R78, R79, R81, R82, R83, R85, R86, R88, R89, R90, R91, R93.
-/
import Derived.Lib.Builder
import Derived.Lib.UnsafeStr
import Derived.Laws.Externs
import Derived.OwnWalk
import Derived.Lib.AppendStr
import Derived.Lib.OthersKept
import Derived.Lib.OwnKind
import Derived.StillTailTactics
import Derived.Deep.RegionLaw
import Derived.BigQuiet
import Derived.BigRegion
import Derived.Test.YtcfjomnihhdpaaaGreatDoorSb15
namespace Go.Proofs.YtcfjomnihhdpaaaGreatDoor.A
open Go.RowKit Go.Proofs.YtcfjomnihhdpaaaGreatDoorW.PrintWords Go.Proofs.YtcfjomnihhdpaaaGreatDoorW.PrintLast Go.Proofs.YtcfjomnihhdpaaaGreatDoorW.PrintMore
set_option linter.unusedVariables false
set_option linter.unusedSimpArgs false
def set6 (W : World) (g : Nat) (a0 a1 a2 a3 a4 a5 : Value) : World := (((((W.setCell ⟨g, 0, none⟩ a0).setCell ⟨g, 1, none⟩ a1).setCell ⟨g, 2, none⟩ a2).setCell ⟨g, 3, none⟩ a3).setCell ⟨g, 4, none⟩ a4).setCell ⟨g, 5, none⟩ a5
theorem fin6 {W : World} {g : Nat} {e : TypeId} {x0 x1 x2 x3 x4 x5 : Value} (h : W.heap[g]? = some (.cells #[x0, x1, x2, x3, x4, x5] e (0, 0))) (a0 a1 a2 a3 a4 a5 : Value) : (set6 W g a0 a1 a2 a3 a4 a5).heap[g]? = some (.cells #[a0, a1, a2, a3, a4, a5] e (0, 0)) := by
 have := blk_set (blk_set (blk_set (blk_set (blk_set (blk_set h 0 a0) 1 a1) 2 a2) 3 a3) 4 a4) 5 a5
 unfold set6
 simpa using this
theorem kp_set6 {W : World} {g : Nat} (a0 a1 a2 a3 a4 a5 : Value) : Kp W (set6 W g a0 a1 a2 a3 a4 a5) (fun k => k = g) := by
 unfold set6
 have hs : ∀ k, k = g → k = g ∨ W.heap.size ≤ k := fun _ h => .inl h
 exact (((((Kp.setCell W ⟨g, 0, none⟩ a0).then_ (Kp.setCell _ ⟨g, 1, none⟩ a1) hs).then_ (Kp.setCell _ ⟨g, 2, none⟩ a2) hs).then_ (Kp.setCell _ ⟨g, 3, none⟩ a3) hs).then_ (Kp.setCell _ ⟨g, 4, none⟩ a4) hs).then_ (Kp.setCell _ ⟨g, 5, none⟩ a5) hs
def zeroF : Value := .agg #[.int .i64 0, .string ⟨#[]⟩, .slice none 0 0, .int .i64 0, .int .i64 0, .slice none 0 0]
def FmV (w : World) (ok : Nat → Prop) (v : Value) (m : S70) : Prop := ∃ A2 c2 A5 c5, v = .agg #[.int .i64 m.f0.f0, .string m.f0.f1, .slice A2 m.f0.f2.length c2, .int .i64 m.f0.f3, .int .i64 m.f0.f4, .slice A5 m.f0.f5.length c5] ∧ m.f0.f2.length ≤ c2 ∧ Kd.F k59 w ok A2 m.f0.f2.length m.f0.f2 ∧ m.f0.f5.length ≤ c5 ∧ Kd.F k37 w ok A5 m.f0.f5.length m.f0.f5
def senP (s : Sg) (t : S30) : Except Int S70 := chP (sigOk s.ss s.cs s.ps && decide (nodes t ≤ 60) && formedP structL t cS) (resP t) (sentP s 60 t)
def SenRet (w : World) (o : Except Int S70) (e : Ending) (w' : World) : Prop := Below w.heap.size w w' ∧ match o with
 | .ok m => ∃ v, e = .returned (.tuple #[v, .int .i64 0]) ∧ FmV w' (fun k => w.heap.size ≤ k) v m
 | .error c => e = .returned (.tuple #[zeroF, .int .i64 c])
theorem checked_sent (T : Lib.PrintTabs) (s : Sg) (t : S30) (w : World) (Bt : Nat) (A1 : Option Addr) (c1 : Nat) (A2 : Option Addr) (c2 : Nat) (hT : Tabs T w) (hC : s.C w) (tv : TreeAt w Bt t A1 c1 A2 c2) (hsm : Sm t) (hn : nodes t ≤ 500) :
  Calls Tryz.prog 41 #[.agg #[.slice s.A0 s.ss.length s.c0, .slice s.A1 s.cs.length s.c1, .slice s.A2 s.ps.length s.c2], .agg #[.string t.f0, .slice A1 t.f1.length c1, .slice A2 t.f2.length c2], .string cS, .func (.func 55) #[] #[.pointer (some ⟨Bt, 0, none⟩)]] w (ChRet (fun _ => False) (fun _ => True) w (senP s t)) := by
 refine checked_calls s t cS w A1 c1 A2 c2 55 #[.pointer (some ⟨Bt, 0, none⟩)] hC ⟨tv.l1, tv.v, tv.l2, tv.k⟩ hsm hn (sigOk s.ss s.cs s.ps) (decide (nodes t ≤ 60)) (formedP structL t cS) rfl ?_ rfl (fun _ => False) (fun k h => h.elim) (fun _ => True) (fun _ _ _ _ => trivial) (sentP s 60 t) (enters_of Tryz.func55 (by kernel_rfl) rfl) ?_
 ·by_cases h : nodes t ≤ 60
  ·rw [decide_eq_true h, decide_eq_false (by omega)]; rfl
  ·rw [decide_eq_false h, decide_eq_true (by omega)]; rfl
 ·intro h1 h2 h3 h4 W bp mb hB hbp hm hge hlt
  exact sent55 T s t w W bp mb Bt A1 c1 A2 c2 hT hC h1 (of_decide_eq_true h2) h3 h4 hsm hB hbp hm hge hlt (tv.below hB)
theorem MnV.fm {w : World} {ok : Nat → Prop} {m : S70} {A2 A5 : Option Addr} {c2 c5 : Nat} (h : MnV w ok (mnW m A2 c2 A5 c5) m) : FmV w ok (.agg #[.int .i64 m.f0.f0, .string m.f0.f1, .slice A2 m.f0.f2.length c2, .int .i64 m.f0.f3, .int .i64 m.f0.f4, .slice A5 m.f0.f5.length c5]) m := by
 obtain ⟨B2, d2, B5, d5, e, l2, g2, l5, g5⟩ := h
 obtain ⟨rfl, rfl, rfl, rfl⟩ := mnW_inj e
 exact ⟨A2, c2, A5, c5, rfl, l2, g2, l5, g5⟩
theorem sen_below {w W3 w5 : World} {g : Nat} {o : Obj} (hB : Below w.heap.size w W3) (hk : Kp W3 w5 (fun _ => False)) (hg : w.heap.size ≤ g) (a0 a1 a2 a3 a4 a5 : Value) : Below w.heap.size w (set6 (w5.alloc o) g a0 a1 a2 a3 a4 a5) :=
 ((((Kp.of_below hB (fun _ => False)).then_ hk (fun _ h => h.elim)).below (below_alloc (Below.refl _ _) o)).then_ (kp_set6 a0 a1 a2 a3 a4 a5) (fun k hk => .inr (by omega))).toBelow (Nat.le_refl _) (fun k h => h.elim)
set_option maxHeartbeats 2000000 in
set_option maxRecDepth 100000 in
theorem sentence_calls (T : Lib.PrintTabs) (s : Sg) (t : S30) (w : World) (A1 : Option Addr) (c1 : Nat) (A2 : Option Addr) (c2 : Nat) (hT : Tabs T w) (hC : s.C w) (tv : TreeV w t A1 c1 A2 c2) (hsm : Sm t) (hn : nodes t ≤ 500) :
  Calls Tryz.prog 26 #[.agg #[.slice s.A0 s.ss.length s.c0, .slice s.A1 s.cs.length s.c1, .slice s.A2 s.ps.length s.c2], .agg #[.string t.f0, .slice A1 t.f1.length c1, .slice A2 t.f2.length c2]] w (SenRet w (senP s t)) := by
 have HB1 := Aside0.mk (below_alloc (below_alloc (below_alloc (Below.refl w.heap.size w) (.cells #[.slice s.A0 s.ss.length s.c0, .slice s.A1 s.cs.length s.c1, .slice s.A2 s.ps.length s.c2] 26)) (.cells #[.string t.f0, .slice A1 t.f1.length c1, .slice A2 t.f2.length c2] 30)) (.cells #[.int .i64 0, .string ⟨#[]⟩, .slice none 0 0, .int .i64 0, .int .i64 0, .slice none 0 0] 37))
 have hbs := blk_alloc (blk_alloc (blk_new w (.cells #[.slice s.A0 s.ss.length s.c0, .slice s.A1 s.cs.length s.c1, .slice s.A2 s.ps.length s.c2] 26)) (.cells #[.string t.f0, .slice A1 t.f1.length c1, .slice A2 t.f2.length c2] 30)) (.cells #[.int .i64 0, .string ⟨#[]⟩, .slice none 0 0, .int .i64 0, .int .i64 0, .slice none 0 0] 37)
 have hbt := blk_alloc (blk_new (w.alloc (.cells #[.slice s.A0 s.ss.length s.c0, .slice s.A1 s.cs.length s.c1, .slice s.A2 s.ps.length s.c2] 26)) (.cells #[.string t.f0, .slice A1 t.f1.length c1, .slice A2 t.f2.length c2] 30)) (.cells #[.int .i64 0, .string ⟨#[]⟩, .slice none 0 0, .int .i64 0, .int .i64 0, .slice none 0 0] 37)
 have hbf := blk_new ((w.alloc (.cells #[.slice s.A0 s.ss.length s.c0, .slice s.A1 s.cs.length s.c1, .slice s.A2 s.ps.length s.c2] 26)).alloc (.cells #[.string t.f0, .slice A1 t.f1.length c1, .slice A2 t.f2.length c2] 30)) (.cells #[.int .i64 0, .string ⟨#[]⟩, .slice none 0 0, .int .i64 0, .int .i64 0, .slice none 0 0] 37)
 simp only [World.size_alloc] at hbt hbf
 have hsz3 : (((w.alloc (.cells #[.slice s.A0 s.ss.length s.c0, .slice s.A1 s.cs.length s.c1, .slice s.A2 s.ps.length s.c2] 26)).alloc (.cells #[.string t.f0, .slice A1 t.f1.length c1, .slice A2 t.f2.length c2] 30)).alloc (.cells #[.int .i64 0, .string ⟨#[]⟩, .slice none 0 0, .int .i64 0, .int .i64 0, .slice none 0 0] 37)).heap.size = w.heap.size + 3 := by simp
 have tv' := tv.below HB1.out
 have C := Aside0.mk (checked_sent T s t (((w.alloc (.cells #[.slice s.A0 s.ss.length s.c0, .slice s.A1 s.cs.length s.c1, .slice s.A2 s.ps.length s.c2] 26)).alloc (.cells #[.string t.f0, .slice A1 t.f1.length c1, .slice A2 t.f2.length c2] 30)).alloc (.cells #[.int .i64 0, .string ⟨#[]⟩, .slice none 0 0, .int .i64 0, .int .i64 0, .slice none 0 0] 37)) (w.heap.size + 1) A1 c1 A2 c2 (hT.below HB1.out) (SigC.below hC HB1.out) ⟨hbt, tv'.l1, tv'.v, tv'.l2, tv'.k⟩ hsm hn)
 have HF := Aside0.mk hbf
 have HS3 := Aside0.mk hsz3
 clear tv' hT hC tv hsm hn hsz3
 have s0 := blk_cell hbs 0
 have s1 := blk_cell hbs 1
 have s2 := blk_cell hbs 2
 have t0 := blk_cell hbt 0
 have t1 := blk_cell hbt 1
 have t2 := blk_cell hbt 2
 simp at s0 s1 s2 t0 t1 t2
 clear hbs hbt hbf
 have hmf : ∀ (fn : Fn) (first cap : Array Value) (w : World), (Instr.makeFunc fn first cap).run Tryz.prog w = .ok (.func fn first cap) w := fun _ _ _ _ => rfl
 cases ho : senP s t with
 | error c =>
  rw [ho] at C
  clear ho
  go_enter Tryz.func26, Tryz.ntmps26
  go_wp2_with (go_at_call 41; refine C.out.mono ?_; rintro e w5 ⟨hk, rfl⟩; have HK5 := Aside0.mk hk; have RR := Aside0.mk (fun (o : Obj) => blk_alloc (hk.blk HF.out (fun h => h)) o); clear hk; unfold zeroM; have zc0 := fun (o : Obj) => blk_cell (RR.out o) 0; have zf0 := fun (o : Obj) => blk_frozen (RR.out o) 0; have zc1 := fun (o : Obj) => blk_cell (RR.out o) 1; have zf1 := fun (o : Obj) => blk_frozen (RR.out o) 1; have zc2 := fun (o : Obj) => blk_cell (RR.out o) 2; have zf2 := fun (o : Obj) => blk_frozen (RR.out o) 2; have zc3 := fun (o : Obj) => blk_cell (RR.out o) 3; have zf3 := fun (o : Obj) => blk_frozen (RR.out o) 3; have zc4 := fun (o : Obj) => blk_cell (RR.out o) 4; have zf4 := fun (o : Obj) => blk_frozen (RR.out o) 4; have zc5 := fun (o : Obj) => blk_cell (RR.out o) 5; have zf5 := fun (o : Obj) => blk_frozen (RR.out o) 5; simp at zc0 zc1 zc2 zc3 zc4 zc5)
  refine bodyPost_ret (results_list (rs := [.cell 4 37, .tmp 5]) rfl (by simp) (.cell (w.heap.size + 1 + 1) 37 _ (0, 0) _ rfl (fin6 (RR.out _) (.int .i64 0) (.string ⟨#[]⟩) (.slice none 0 0) (.int .i64 0) (.int .i64 0) (.slice none 0 0)) Tryz.underlying37 rfl (by kernel_rfl) (.tmp .nil))) rfl ?_
  exact ⟨sen_below HB1.out HK5.out (by omega) (.int .i64 0) (.string ⟨#[]⟩) (.slice none 0 0) (.int .i64 0) (.int .i64 0) (.slice none 0 0), rfl⟩
 | ok m =>
  rw [ho] at C
  clear ho
  go_enter Tryz.func26, Tryz.ntmps26
  go_wp2_with (go_at_call 41; refine C.out.mono ?_; rintro e w5 ⟨hk, v5, rfl, hm5, _⟩; have HM5 := Aside0.mk hm5; obtain ⟨E2, e2, E5, e5, rfl, hrest⟩ := id hm5; clear hm5 hrest; have HK5 := Aside0.mk hk; have RR := Aside0.mk (fun (o : Obj) => blk_alloc (hk.blk HF.out (fun h => h)) o); clear hk; unfold mnW; have zc0 := fun (o : Obj) => blk_cell (RR.out o) 0; have zf0 := fun (o : Obj) => blk_frozen (RR.out o) 0; have zc1 := fun (o : Obj) => blk_cell (RR.out o) 1; have zf1 := fun (o : Obj) => blk_frozen (RR.out o) 1; have zc2 := fun (o : Obj) => blk_cell (RR.out o) 2; have zf2 := fun (o : Obj) => blk_frozen (RR.out o) 2; have zc3 := fun (o : Obj) => blk_cell (RR.out o) 3; have zf3 := fun (o : Obj) => blk_frozen (RR.out o) 3; have zc4 := fun (o : Obj) => blk_cell (RR.out o) 4; have zf4 := fun (o : Obj) => blk_frozen (RR.out o) 4; have zc5 := fun (o : Obj) => blk_cell (RR.out o) 5; have zf5 := fun (o : Obj) => blk_frozen (RR.out o) 5; simp at zc0 zc1 zc2 zc3 zc4 zc5)
  refine bodyPost_ret (results_list (rs := [.cell 4 37, .tmp 5]) rfl (by simp) (.cell (w.heap.size + 1 + 1) 37 _ (0, 0) _ rfl (fin6 (RR.out _) (.int .i64 m.f0.f0) (.string m.f0.f1) (.slice E2 m.f0.f2.length e2) (.int .i64 m.f0.f3) (.int .i64 m.f0.f4) (.slice E5 m.f0.f5.length e5)) Tryz.underlying37 rfl (by kernel_rfl) (.tmp .nil))) rfl ?_
  refine ⟨sen_below HB1.out HK5.out (by omega) (.int .i64 m.f0.f0) (.string m.f0.f1) (.slice E2 m.f0.f2.length e2) (.int .i64 m.f0.f3) (.int .i64 m.f0.f4) (.slice E5 m.f0.f5.length e5), _, rfl, ?_⟩
  have hs3 := HS3.out
  refine ((MnV.step (HM5.out.below (below_alloc (Below.refl _ _) _)) (fun k hk hlt => (kp_set6 (g := w.heap.size + 1 + 1) (.int .i64 m.f0.f0) (.string m.f0.f1) (.slice E2 m.f0.f2.length e2) (.int .i64 m.f0.f3) (.int .i64 m.f0.f4) (.slice E5 m.f0.f5.length e5)).block k hlt (fun h => ?_))).mono (fun k hk => ?_)).fm
  ·have hk' : (((w.alloc (.cells #[.slice s.A0 s.ss.length s.c0, .slice s.A1 s.cs.length s.c1, .slice s.A2 s.ps.length s.c2] 26)).alloc (.cells #[.string t.f0, .slice A1 t.f1.length c1, .slice A2 t.f2.length c2] 30)).alloc (.cells #[.int .i64 0, .string ⟨#[]⟩, .slice none 0 0, .int .i64 0, .int .i64 0, .slice none 0 0] 37)).heap.size ≤ k := hk
   omega
  ·have hk' : (((w.alloc (.cells #[.slice s.A0 s.ss.length s.c0, .slice s.A1 s.cs.length s.c1, .slice s.A2 s.ps.length s.c2] 26)).alloc (.cells #[.string t.f0, .slice A1 t.f1.length c1, .slice A2 t.f2.length c2] 30)).alloc (.cells #[.int .i64 0, .string ⟨#[]⟩, .slice none 0 0, .int .i64 0, .int .i64 0, .slice none 0 0] 37)).heap.size ≤ k := hk
   omega
theorem chP_err {ok res : Bool} {r : Option S70} {c : Int} (h : chP ok res r = .error c) : c = 1 ∨ c = 10 ∨ c = 6 ∨ c = 2 := by
 unfold chP at h
 split at h
 ·injection h with h; exact .inl h.symm
 ·split at h
  ·injection h with h; exact .inr (.inl h.symm)
  ·split at h
   ·injection h with h; exact .inr (.inr (.inl h.symm))
   ·split at h
    ·injection h with h; exact .inr (.inr (.inl h.symm))
    ·split at h
     ·injection h with h; exact .inr (.inr (.inr h.symm))
     ·cases h
section
attribute [local go_sem] Oper.semAt_some
def nounVar (y : ByteArray) : Tm := ⟨1, ⟨#[]⟩, 0, y⟩
def fr42 (t : S30) (A1 : Option Addr) (c1 : Nat) (A2 : Option Addr) (c2 : Nat) (bp Bt Bs g : Nat) (y : ByteArray) (x : Nat → Value) : Act := { tmps := #[.pointer (some ⟨bp, 0, none⟩), .pointer (some ⟨Bt, 0, none⟩), .pointer (some ⟨Bs, 0, none⟩), undef, .pointer (some ⟨g, 0, none⟩), .pointer (some ⟨bp, 0, none⟩), .agg #[.string t.f0, .slice A1 t.f1.length c1, .slice A2 t.f2.length c2], .string y, x 0, x 1, x 2, x 3, x 4, x 5], defers := [] }
def C42 (s : Sg) (t : S30) (A1 : Option Addr) (c1 : Nat) (A2 : Option Addr) (c2 : Nat) (bp Bt Bs g : Nat) (y : ByteArray) (W2 : World) : Nat → Value → World → Prop
 | 0, v, _ => v = .pointer (some ⟨bp, 0, none⟩)
 | 1, v, _ => v = .agg #[.string t.f0, .slice A1 t.f1.length c1, .slice A2 t.f2.length c2]
 | 2, v, w => ∃ f, nounP s 60 t = some f ∧ PrdV w (fun _ => True) v f
 | 3, v, _ => v = .string y
 | 4, v, _ => v = tmV (nounVar y)
 | 5, v, w => ∃ f m, nounP s 60 t = some f ∧ f 1 (nounVar y) = some m ∧ MnV w (fun k => W2.heap.size ≤ k) v m
 | _, _, _ => True
def Got42 (s : Sg) (t : S30) (A1 : Option Addr) (c1 : Nat) (A2 : Option Addr) (c2 : Nat) (bp Bt Bs g : Nat) (y : ByteArray) (W2 : World) (w' : World) : Prop := ∃ f m w5 E2 e2 E5 e5, nounP s 60 t = some f ∧ f 1 (nounVar y) = some m ∧ Below W2.heap.size W2 w5 ∧ MnV w5 (fun k => W2.heap.size ≤ k) (mnW m E2 e2 E5 e5) m ∧ w' = set9 w5 g (.int .i64 m.f0.f0) (.string m.f0.f1) (.slice E2 m.f0.f2.length e2) (.int .i64 m.f0.f3) (.int .i64 m.f0.f4) (.slice E5 m.f0.f5.length e5) (.int .i64 m.f1) (.int .i64 m.f2) (.bool m.f3)
def Not42 (s : Sg) (t : S30) (y : ByteArray) (W2 : World) (w' : World) : Prop := ((nounP s 60 t).bind fun f => f 1 (nounVar y)) = none ∧ Below W2.heap.size W2 w'
set_option maxHeartbeats 2000000 in
set_option maxRecDepth 100000 in
theorem reg42 (s : Sg) (t : S30) (A1 : Option Addr) (c1 : Nat) (A2 : Option Addr) (c2 : Nat) (bp Bt Bs g : Nat) (y : ByteArray) (mb : Nat) (W2 : World) (hb : Bld W2 bp mb s) (tv : TreeV W2 t A1 c1 A2 c2) (hT : W2.heap[Bt]? = some (.cells #[.string t.f0, .slice A1 t.f1.length c1, .slice A2 t.f2.length c2] 30 (0, 0))) (hS : W2.heap[Bs]? = some (.cells #[.string y] 9 (0, 0))) (hG : W2.heap[g]? = some (.cells #[.int .i64 0, .string ⟨#[]⟩, .slice none 0 0, .int .i64 0, .int .i64 0, .slice none 0 0, .int .i64 0, .int .i64 0, .bool false] 70 (0, 0))) (hn : nodes t ≤ 60) (hf : formedP structL t cCN = true) (hr : resP t = true) (hps : ∀ p ∈ s.ps, 1 ≤ p.f1.length) :
  Code.wp Tryz.prog (.region 2 (opsOf Tryz.f42 2) true) (OnNP (fun a w' => (∃ x, a = fr42 t A1 c1 A2 c2 bp Bt Bs g y x) ∧ Got42 s t A1 c1 A2 c2 bp Bt Bs g y W2 w') (Not42 s t y W2)) (fr42 t A1 c1 A2 c2 bp Bt Bs g y (fun _ => undef)) W2 := by
 have HD := Aside0.mk (below_drew (Below.refl W2.heap.size W2))
 have HT := Aside0.mk (blk_below hT HD.out)
 have HS := Aside0.mk (blk_below hS HD.out)
 have HG := Aside0.mk (blk_below hG HD.out)
 have HBL := Aside0.mk hb
 have TV := Aside0.mk tv
 have C44 := Aside0.mk (fun (V : World) (hV : Below W2.heap.size W2 V) => (mean_calls s hps 60).1 t hn hf hr W2 V bp mb A1 c1 A2 c2 hV hb tv)
 clear hb tv hT hS hG hn hf hr hps
 simp only [opsOf, Tryz.f42, Option.bind_some, opsIn, Option.getD_some, Option.orElse, reduceIte, Nat.reduceEqDiff, Option.or_some, Option.none_or, Option.some_or, beq_iff_eq, Nat.reduceBEq, Bool.false_eq_true]
 refine wp_region_any (by kernel_rfl) (region_last 6 rfl (fr42 t A1 c1 A2 c2 bp Bt Bs g y) (C42 s t A1 c1 A2 c2 bp Bt Bs g y W2) W2.drew (by kernel_rfl) (by kernel_rfl) ?_ ?_ ?_ ?_ _)
 ·intro i op x v hi ho
  match i, hi, ho with
  | 0, _, ho => injection ho with ho; subst ho; rfl
  | 1, _, ho => injection ho with ho; subst ho; rfl
  | 2, _, ho => injection ho with ho; subst ho; rfl
  | 3, _, ho => injection ho with ho; subst ho; rfl
  | 4, _, ho => injection ho with ho; subst ho; rfl
  | 5, _, ho => injection ho with ho; subst ho; rfl
  | i + 6, hi, ho => exact absurd hi (by omega)
 ·intro i v w w' h hB
  match i, h with
  | 0, h => exact h
  | 1, h => exact h
  | 2, h => exact h.imp fun f hf => ⟨hf.1, hf.2.below hB⟩
  | 3, h => exact h
  | 4, h => exact h
  | 5, h => exact h.imp fun f hf => hf.imp fun m hm => ⟨hm.1, hm.2.1, hm.2.2.below hB⟩
  | i + 6, h => trivial
 ·intro i op x w J hi ho hB hdep h
  match i, hi, ho, hdep, h with
  | 0, _, ho, hdep, h =>
   simp at ho
   subst ho
   refine op_value (o := _) rfl (wanted_none rfl) (w' := w) (v := .pointer (some ⟨bp, 0, none⟩)) ?_ (h _ _ rfl (Below.refl _ _))
   unfold fr42
   go_simp
  | 1, _, ho, hdep, h =>
   simp at ho
   subst ho
   have t0 := blk_cell (blk_below HT.out hB) 0
   have t1 := blk_cell (blk_below HT.out hB) 1
   have t2 := blk_cell (blk_below HT.out hB) 2
   simp at t0 t1 t2
   refine op_value (o := _) rfl (wanted_none rfl) (w' := w) (v := .agg #[.string t.f0, .slice A1 t.f1.length c1, .slice A2 t.f2.length c2]) ?_ (h _ _ rfl (Below.refl _ _))
   unfold fr42
   go_simp
  | 2, _, ho, hdep, h =>
   simp at ho
   subst ho
   have d0 : x 0 = .pointer (some ⟨bp, 0, none⟩) := hdep ⟨0, .data⟩ (by simp) rfl
   have d1 : x 1 = _ := hdep ⟨1, .data⟩ (by simp) rfl
   refine op_callP (f := 44) (args := #[.pointer (some ⟨bp, 0, none⟩), .agg #[.string t.f0, .slice A1 t.f1.length c1, .slice A2 t.f2.length c2]]) rfl (wanted_none rfl) ?_ ?_
   ·have he := enters_of Tryz.func44 (by kernel_rfl) rfl #[.pointer (some ⟨bp, 0, none⟩), .agg #[.string t.f0, .slice A1 t.f1.length c1, .slice A2 t.f2.length c2]] w
    unfold fr42
    go_simp
   ·have hBW := below_step HD.out hB
    refine (C44.out w hBW).mono ?_
    intro e w' hr
    cases hq : nounP s 60 t with
    | none =>
     rw [hq] at hr
     obtain ⟨hb, rfl⟩ := hr
     exact .inr ⟨_, rfl, rfl, rfl, by rw [hq]; rfl, below_step hBW hb⟩
    | some f =>
     rw [hq] at hr
     obtain ⟨hb, v, rfl, hv⟩ := hr
     exact .inl ⟨_, rfl, h _ _ ⟨f, hq, hv.mono (fun _ _ _ => trivial)⟩ hb⟩
  | 3, _, ho, hdep, h =>
   simp at ho
   subst ho
   have s0 := blk_cell (blk_below HS.out hB) 0
   simp at s0
   refine op_value (o := _) rfl (wanted_none rfl) (w' := w) (v := .string y) ?_ (h _ _ rfl (Below.refl _ _))
   unfold fr42
   go_simp
  | 4, _, ho, hdep, h =>
   simp at ho
   subst ho
   have d3 : x 3 = .string y := hdep ⟨3, .data⟩ (by simp) rfl
   refine op_value (o := _) rfl (wanted_none rfl) (w' := w) (v := tmV (nounVar y)) ?_ (h _ _ rfl (Below.refl _ _))
   unfold fr42 tmV nounVar
   go_simp
  | 5, _, ho, hdep, h =>
   simp at ho
   subst ho
   obtain ⟨f, hq, gg, cap, d2, hen, hfr⟩ := hdep ⟨2, .data⟩ (by simp) rfl
   have d2 : x 2 = .func (.func gg) #[] cap := d2
   have d4 : x 4 = tmV (nounVar y) := hdep ⟨4, .data⟩ (by simp) rfl
   refine op_callP (f := gg) (args := #[.int .i64 1, tmV (nounVar y)] ++ cap) rfl (wanted_none rfl) ?_ ?_
   ·have he := hen (#[.int .i64 1, tmV (nounVar y)] ++ cap) w
    unfold fr42
    go_simp
   ·have hBW := below_step HD.out hB
    refine (hfr.now 1 (nounVar y)).mono ?_
    intro e w' hr
    cases hm : f 1 (nounVar y) with
    | none =>
     rw [hm] at hr
     obtain ⟨hb, rfl⟩ := hr
     exact .inr ⟨_, rfl, rfl, rfl, by rw [hq]; exact hm, below_step hBW hb⟩
    | some m =>
     rw [hm] at hr
     obtain ⟨hb, v, rfl, hv⟩ := hr
     exact .inl ⟨_, rfl, h _ _ ⟨f, m, hq, hm, hv.mono (fun k hk => Nat.le_trans hBW.size hk)⟩ hb⟩
  | i + 6, hi, ho, hdep, h => exact absurd hi (by omega)
 ·intro op x w ho hB hx
  simp at ho
  subst ho
  obtain ⟨f, m, hq, hm, E2, e2, E5, e5, d5, hrest⟩ := hx 5 (by omega)
  have hBW := below_step HD.out hB
  have HGW := Aside0.mk (blk_below HG.out hB)
  have zc0 := blk_cell HGW.out 0
  have zf0 := blk_frozen HGW.out 0
  have zc1 := blk_cell HGW.out 1
  have zf1 := blk_frozen HGW.out 1
  have zc2 := blk_cell HGW.out 2
  have zf2 := blk_frozen HGW.out 2
  have zc3 := blk_cell HGW.out 3
  have zf3 := blk_frozen HGW.out 3
  have zc4 := blk_cell HGW.out 4
  have zf4 := blk_frozen HGW.out 4
  have zc5 := blk_cell HGW.out 5
  have zf5 := blk_frozen HGW.out 5
  have zc6 := blk_cell HGW.out 6
  have zf6 := blk_frozen HGW.out 6
  have zc7 := blk_cell HGW.out 7
  have zf7 := blk_frozen HGW.out 7
  have zc8 := blk_cell HGW.out 8
  have zf8 := blk_frozen HGW.out 8
  simp at zc0 zc1 zc2 zc3 zc4 zc5 zc6 zc7 zc8
  unfold mnW at d5
  have HF := Aside0.mk (show Got42 s t A1 c1 A2 c2 bp Bt Bs g y W2 (set9 w g (.int .i64 m.f0.f0) (.string m.f0.f1) (.slice E2 m.f0.f2.length e2) (.int .i64 m.f0.f3) (.int .i64 m.f0.f4) (.slice E5 m.f0.f5.length e5) (.int .i64 m.f1) (.int .i64 m.f2) (.bool m.f3)) from ⟨f, m, w, E2, e2, E5, e5, hq, hm, hBW, ⟨E2, e2, E5, e5, rfl, hrest⟩, rfl⟩)
  refine wpOp_step rfl (fun K hK => ?_)
  have hK' := Aside0.mk (hK (fr42 t A1 c1 A2 c2 bp Bt Bs g y x) (set9 w g (.int .i64 m.f0.f0) (.string m.f0.f1) (.slice E2 m.f0.f2.length e2) (.int .i64 m.f0.f3) (.int .i64 m.f0.f4) (.slice E5 m.f0.f5.length e5) (.int .i64 m.f1) (.int .i64 m.f2) (.bool m.f3)) ⟨⟨x, rfl⟩, HF.out⟩)
  rw [if_pos (wanted_none rfl)]
  unfold Oper.wp
  unfold fr42
  go_simp
  have hk := hK'.out
  unfold set9 fr42 at hk
  rw [d5] at hk
  exact hk
end
def nounQ (s : Sg) (t : S30) : Option S70 := (sortP s.ps 60 t).bind fun y => (nounP s 60 t).bind fun f => f 1 (nounVar y)
def XN (s : Sg) (t : S30) (Bs : Nat) (V : World) : Prop := ∃ y, sortP s.ps 60 t = some y ∧ V.heap[Bs]? = some (.cells #[.string y] 9 (0, 0))
set_option maxHeartbeats 2000000 in
set_option maxRecDepth 100000 in
theorem noun42 (s : Sg) (t : S30) (w00 W : World) (bp mb Bt Bs : Nat) (v0 : Value) (A1 : Option Addr) (c1 : Nat) (A2 : Option Addr) (c2 : Nat) (hC : s.C w00) (hok : sigOk s.ss s.cs s.ps = true) (tv : TreeV w00 t A1 c1 A2 c2) (hn : nodes t ≤ 60) (hf : formedP structL t cCN = true) (hr : resP t = true) (hB : Below w00.heap.size w00 W)
  (hbp : W.heap[bp]? = some (.cells #[.slice s.A0 s.ss.length s.c0, .slice s.A1 s.cs.length s.c1, .slice s.A2 s.ps.length s.c2, .map (some mb)] 121 (0, 0))) (hT : W.heap[Bt]? = some (.cells #[.string t.f0, .slice A1 t.f1.length c1, .slice A2 t.f2.length c2] 30 (0, 0))) (hS : W.heap[Bs]? = some (.cells #[v0] 9 (0, 0))) (hBs : w00.heap.size ≤ Bs) (hbs : bp ≠ Bs) (hts : Bt ≠ Bs) :
  Calls Tryz.prog 42 #[.pointer (some ⟨bp, 0, none⟩), .pointer (some ⟨Bt, 0, none⟩), .pointer (some ⟨Bs, 0, none⟩)] W (BRet (fun k => k = Bs) (XN s t Bs) W mb (nounQ s t)) := by
 have hsig := sig_ok hok
 have HBW := Aside0.mk (below_alloc (Below.refl W.heap.size W) (.cells #[.int .i64 0, .string ⟨#[]⟩, .slice none 0 0, .int .i64 0, .int .i64 0, .slice none 0 0, .int .i64 0, .int .i64 0, .bool false] 70))
 have HG := Aside0.mk (blk_new W (.cells #[.int .i64 0, .string ⟨#[]⟩, .slice none 0 0, .int .i64 0, .int .i64 0, .slice none 0 0, .int .i64 0, .int .i64 0, .bool false] 70))
 have HT := Aside0.mk (blk_below hT HBW.out)
 have HS := Aside0.mk (blk_below hS HBW.out)
 have HP := Aside0.mk (blk_below hbp HBW.out)
 have HB := Aside0.mk (below_step hB HBW.out)
 have HLS := Aside0.mk (blk_lt hS)
 have HC := Aside0.mk hC
 have TV := Aside0.mk tv
 have HSZ := Aside0.mk (show (W.alloc (.cells #[.int .i64 0, .string ⟨#[]⟩, .slice none 0 0, .int .i64 0, .int .i64 0, .slice none 0 0, .int .i64 0, .int .i64 0, .bool false] 70)).heap.size = W.heap.size + 1 by simp)
 have C := Aside0.mk (sort_calls 60 t hn hf (W.alloc (.cells #[.int .i64 0, .string ⟨#[]⟩, .slice none 0 0, .int .i64 0, .int .i64 0, .slice none 0 0, .int .i64 0, .int .i64 0, .bool false] 70)) bp mb s A1 c1 A2 c2 ⟨HP.out, SigC.below hC HB.out⟩ (tv.below HB.out) hsig.2)
 have R := Aside0.mk (fun (y : ByteArray) (W2 : World) (hb : Bld W2 bp mb s) (tv2 : TreeV W2 t A1 c1 A2 c2) (hT2 : W2.heap[Bt]? = some (.cells #[.string t.f0, .slice A1 t.f1.length c1, .slice A2 t.f2.length c2] 30 (0, 0))) (hS2 : W2.heap[Bs]? = some (.cells #[.string y] 9 (0, 0))) (hG2 : W2.heap[W.heap.size]? = some (.cells #[.int .i64 0, .string ⟨#[]⟩, .slice none 0 0, .int .i64 0, .int .i64 0, .slice none 0 0, .int .i64 0, .int .i64 0, .bool false] 70 (0, 0))) => reg42 s t A1 c1 A2 c2 bp Bt Bs W.heap.size y mb W2 hb tv2 hT2 hS2 hG2 hn hf hr hsig.2)
 clear hC hok tv hn hf hr hB hbp hT hS hsig
 have t0 := blk_cell HT.out 0
 have t1 := blk_cell HT.out 1
 have t2 := blk_cell HT.out 2
 simp at t0 t1 t2
 cases hq : sortP s.ps 60 t with
 | none =>
  rw [hq] at C
  rw [show nounQ s t = none by unfold nounQ; rw [hq]; rfl]
  go_enter Tryz.func42, Tryz.ntmps42
  go_wp2_with (go_at_call 43; refine C.out.mono ?_; rintro e w1 ⟨hk, rfl⟩)
  exact ⟨rfl, Kp.of_below (below_step HBW.out hk) _, rfl⟩
 | some y =>
  rw [hq] at C
  rw [show nounQ s t = (nounP s 60 t).bind (fun f => f 1 (nounVar y)) by unfold nounQ; rw [hq]; rfl]
  go_enter Tryz.func42, Tryz.ntmps42
  go_wp2_with (go_at_call 43; refine C.out.mono ?_; rintro e w1 ⟨hk, rfl⟩; have HK1 := Aside0.mk hk; have HS1 := Aside0.mk (blk_below HS.out hk); have y0 := blk_cell HS1.out 0; have yf := blk_frozen HS1.out 0; simp at y0; clear hk)
  have hne : W.heap.size ≠ Bs := by have := HLS.out; omega
  have hKs := Kp.setCell w1 ⟨Bs, 0, none⟩ (.string y)
  have hS2 : (w1.setCell ⟨Bs, 0, none⟩ (.string y)).heap[Bs]? = some (.cells #[.string y] 9 (0, 0)) := by
   have := blk_set HS1.out 0 (.string y)
   simpa using this
  have hT2 := hKs.blk (blk_below HT.out HK1.out) hts
  have hP2 := hKs.blk (blk_below HP.out HK1.out) hbs
  have hG2 := hKs.blk (blk_below HG.out HK1.out) hne
  have hB2 : Below w00.heap.size w00 (w1.setCell ⟨Bs, 0, none⟩ (.string y)) := below_set (below_step HB.out HK1.out) hBs
  have hK2 : Kp W (w1.setCell ⟨Bs, 0, none⟩ (.string y)) (fun k => k = mb ∨ k = Bs) := (Kp.of_below (below_step HBW.out HK1.out) _).then_ hKs (fun k hk => .inl (.inr hk))
  have hsz2 : W.heap.size + 1 ≤ (w1.setCell ⟨Bs, 0, none⟩ (.string y)).heap.size := by have := hKs.size; have := HK1.out.size; have := HSZ.out; omega
  clear y0 yf
  generalize w1.setCell ⟨Bs, 0, none⟩ (.string y) = W2 at *
  refine wp_onNP _ _ (R.out y W2 ⟨hP2, SigC.below HC.out hB2⟩ (TV.out.below hB2) hT2 hS2 hG2) ?_ ?_
  ·rintro a w' ⟨⟨x, rfl⟩, f, m, w5, E2, e2, E5, e5, hq2, hm, hB5, hM, rfl⟩
   have hG5 := blk_below hG2 hB5
   have hS5 := blk_below hS2 hB5
   have HM := Aside0.mk hM
   have HF := Aside0.mk (show BRet (fun k => k = Bs) (XN s t Bs) W mb ((nounP s 60 t).bind (fun f => f 1 (nounVar y))) (.returned (mnW m E2 e2 E5 e5)) (set9 w5 W.heap.size (.int .i64 m.f0.f0) (.string m.f0.f1) (.slice E2 m.f0.f2.length e2) (.int .i64 m.f0.f3) (.int .i64 m.f0.f4) (.slice E5 m.f0.f5.length e5) (.int .i64 m.f1) (.int .i64 m.f2) (.bool m.f3)) from by
    rw [show (nounP s 60 t).bind (fun f => f 1 (nounVar y)) = some m by rw [hq2]; exact hm]
    refine ⟨(hK2.below hB5).then_ (kp_set9 (g := W.heap.size) (.int .i64 m.f0.f0) (.string m.f0.f1) (.slice E2 m.f0.f2.length e2) (.int .i64 m.f0.f3) (.int .i64 m.f0.f4) (.slice E5 m.f0.f5.length e5) (.int .i64 m.f1) (.int .i64 m.f2) (.bool m.f3)) (fun k hk => .inr (by omega)), _, rfl, ?_, y, hq, (fin9_far (g := W.heap.size) (by omega) (.int .i64 m.f0.f0) (.string m.f0.f1) (.slice E2 m.f0.f2.length e2) (.int .i64 m.f0.f3) (.int .i64 m.f0.f4) (.slice E5 m.f0.f5.length e5) (.int .i64 m.f1) (.int .i64 m.f2) (.bool m.f3)).trans hS5⟩
    exact (HM.out.stored (g := W.heap.size) (fun k hk => by have hk' : W2.heap.size ≤ k := hk; omega) (.int .i64 m.f0.f0) (.string m.f0.f1) (.slice E2 m.f0.f2.length e2) (.int .i64 m.f0.f3) (.int .i64 m.f0.f4) (.slice E5 m.f0.f5.length e5) (.int .i64 m.f1) (.int .i64 m.f2) (.bool m.f3)).mono (fun k hk => by have hk' : W2.heap.size ≤ k := hk; omega))
   have HG5 := Aside0.mk hG5
   clear hM hq2 hm hB5 hG5 hS5 hT2 hP2 hG2 hS2 hB2 hK2 hsz2 hKs
   unfold fr42
   generalize hW6 : set9 w5 W.heap.size (.int .i64 m.f0.f0) (.string m.f0.f1) (.slice E2 m.f0.f2.length e2) (.int .i64 m.f0.f3) (.int .i64 m.f0.f4) (.slice E5 m.f0.f5.length e5) (.int .i64 m.f1) (.int .i64 m.f2) (.bool m.f3) = W6 at *
   have HG6 := Aside0.mk (show W6.heap[W.heap.size]? = _ from hW6 ▸ fin9 HG5.out (.int .i64 m.f0.f0) (.string m.f0.f1) (.slice E2 m.f0.f2.length e2) (.int .i64 m.f0.f3) (.int .i64 m.f0.f4) (.slice E5 m.f0.f5.length e5) (.int .i64 m.f1) (.int .i64 m.f2) (.bool m.f3))
   clear hW6
   go_wp2
   refine bodyPost_ret (results_single rfl (.cell W.heap.size 70 _ (0, 0) _ rfl HG6.out Tryz.underlying70 rfl (by kernel_rfl) .nil)) rfl ?_
   exact HF.out
  ·rintro a w' hd ⟨hno, hB5⟩
   have hfin : BRet (fun k => k = Bs) (XN s t Bs) W mb ((nounP s 60 t).bind (fun f => f 1 (nounVar y))) (.panicked failV) w' := by
    rw [hno]
    exact ⟨hK2.below hB5, rfl⟩
   exact ⟨hd, hfin⟩
def nouP (s : Sg) (t : S30) : Except Int S70 := chP (sigOk s.ss s.cs s.ps && decide (nodes t ≤ 60) && formedP structL t cCN) (resP t) (nounQ s t)
def NouRet (s : Sg) (t : S30) (w : World) (o : Except Int S70) (e : Ending) (w' : World) : Prop := Below w.heap.size w w' ∧ match o with
 | .ok m => ∃ v y, sortP s.ps 60 t = some y ∧ e = .returned (.tuple #[v, .string y, .int .i64 0]) ∧ FmV w' (fun k => w.heap.size ≤ k) v m
 | .error c => e = .returned (.tuple #[zeroF, .string ⟨#[]⟩, .int .i64 c])
theorem checked_noun (s : Sg) (t : S30) (w00 w : World) (Bt Bs : Nat) (A1 : Option Addr) (c1 : Nat) (A2 : Option Addr) (c2 : Nat) (hB : Below w00.heap.size w00 w) (hC : s.C w00) (tv : TreeV w00 t A1 c1 A2 c2) (hT : w.heap[Bt]? = some (.cells #[.string t.f0, .slice A1 t.f1.length c1, .slice A2 t.f2.length c2] 30 (0, 0))) (hS : w.heap[Bs]? = some (.cells #[.string ⟨#[]⟩] 9 (0, 0))) (hBs : w00.heap.size ≤ Bs) (hsm : Sm t) (hn : nodes t ≤ 500) :
  Calls Tryz.prog 41 #[.agg #[.slice s.A0 s.ss.length s.c0, .slice s.A1 s.cs.length s.c1, .slice s.A2 s.ps.length s.c2], .agg #[.string t.f0, .slice A1 t.f1.length c1, .slice A2 t.f2.length c2], .string cCN, .func (.func 42) #[] #[.pointer (some ⟨Bt, 0, none⟩), .pointer (some ⟨Bs, 0, none⟩)]] w (ChRet (fun k => k = Bs) (XN s t Bs) w (nouP s t)) := by
 refine checked_calls s t cCN w A1 c1 A2 c2 42 #[.pointer (some ⟨Bt, 0, none⟩), .pointer (some ⟨Bs, 0, none⟩)] (SigC.below hC hB) (tv.below hB) hsm hn (sigOk s.ss s.cs s.ps) (decide (nodes t ≤ 60)) (formedP structL t cCN) rfl ?_ rfl (fun k => k = Bs) (fun k h => h ▸ blk_lt hS) (XN s t Bs) (fun V V' hx hk => by
  obtain ⟨y, h1, h2⟩ := hx
  exact ⟨y, h1, (hk Bs (blk_lt hS)).trans h2⟩) (nounQ s t) (enters_of Tryz.func42 (by kernel_rfl) rfl) ?_
 ·by_cases h : nodes t ≤ 60
  ·rw [decide_eq_true h, decide_eq_false (by omega)]; rfl
  ·rw [decide_eq_false h, decide_eq_true (by omega)]; rfl
 ·intro h1 h2 h3 h4 W bp mb hBW hbp hm hge hlt
  have hSW := blk_below hS hBW
  have hTW := blk_below hT hBW
  exact noun42 s t w00 W bp mb Bt Bs _ A1 c1 A2 c2 hC h1 tv (of_decide_eq_true h2) h3 h4 (below_step hB hBW) hbp hTW hSW hBs (fun e => by
   subst e
   rw [hSW] at hbp
   simp at hbp) (fun e => by
   subst e
   rw [hSW] at hTW
   simp at hTW)
theorem nou_below {w W3 w5 : World} {g b : Nat} {o : Obj} (hB : Below w.heap.size w W3) (hk : Kp W3 w5 (fun k => k = b)) (hb : w.heap.size ≤ b) (hg : w.heap.size ≤ g) (a0 a1 a2 a3 a4 a5 : Value) : Below w.heap.size w (set6 (w5.alloc o) g a0 a1 a2 a3 a4 a5) :=
 ((((Kp.of_below hB (fun _ => False)).then_ hk (fun k h => .inr (by omega))).below (below_alloc (Below.refl _ _) o)).then_ (kp_set6 a0 a1 a2 a3 a4 a5) (fun k hk => .inr (by omega))).toBelow (Nat.le_refl _) (fun k h => h.elim)
set_option maxHeartbeats 2000000 in
set_option maxRecDepth 100000 in
theorem noun_calls (s : Sg) (t : S30) (w : World) (A1 : Option Addr) (c1 : Nat) (A2 : Option Addr) (c2 : Nat) (hC : s.C w) (tv : TreeV w t A1 c1 A2 c2) (hsm : Sm t) (hn : nodes t ≤ 500) :
  Calls Tryz.prog 16 #[.agg #[.slice s.A0 s.ss.length s.c0, .slice s.A1 s.cs.length s.c1, .slice s.A2 s.ps.length s.c2], .agg #[.string t.f0, .slice A1 t.f1.length c1, .slice A2 t.f2.length c2]] w (NouRet s t w (nouP s t)) := by
 have HB1 := Aside0.mk (below_alloc (below_alloc (below_alloc (below_alloc (Below.refl w.heap.size w) (.cells #[.slice s.A0 s.ss.length s.c0, .slice s.A1 s.cs.length s.c1, .slice s.A2 s.ps.length s.c2] 26)) (.cells #[.string t.f0, .slice A1 t.f1.length c1, .slice A2 t.f2.length c2] 30)) (.cells #[.int .i64 0, .string ⟨#[]⟩, .slice none 0 0, .int .i64 0, .int .i64 0, .slice none 0 0] 37)) (.cells #[.string ⟨#[]⟩] 9))
 have hbs := blk_alloc (blk_alloc (blk_alloc (blk_new w (.cells #[.slice s.A0 s.ss.length s.c0, .slice s.A1 s.cs.length s.c1, .slice s.A2 s.ps.length s.c2] 26)) (.cells #[.string t.f0, .slice A1 t.f1.length c1, .slice A2 t.f2.length c2] 30)) (.cells #[.int .i64 0, .string ⟨#[]⟩, .slice none 0 0, .int .i64 0, .int .i64 0, .slice none 0 0] 37)) (.cells #[.string ⟨#[]⟩] 9)
 have hbt := blk_alloc (blk_alloc (blk_new (w.alloc (.cells #[.slice s.A0 s.ss.length s.c0, .slice s.A1 s.cs.length s.c1, .slice s.A2 s.ps.length s.c2] 26)) (.cells #[.string t.f0, .slice A1 t.f1.length c1, .slice A2 t.f2.length c2] 30)) (.cells #[.int .i64 0, .string ⟨#[]⟩, .slice none 0 0, .int .i64 0, .int .i64 0, .slice none 0 0] 37)) (.cells #[.string ⟨#[]⟩] 9)
 have hbf := blk_alloc (blk_new ((w.alloc (.cells #[.slice s.A0 s.ss.length s.c0, .slice s.A1 s.cs.length s.c1, .slice s.A2 s.ps.length s.c2] 26)).alloc (.cells #[.string t.f0, .slice A1 t.f1.length c1, .slice A2 t.f2.length c2] 30)) (.cells #[.int .i64 0, .string ⟨#[]⟩, .slice none 0 0, .int .i64 0, .int .i64 0, .slice none 0 0] 37)) (.cells #[.string ⟨#[]⟩] 9)
 have hby := blk_new (((w.alloc (.cells #[.slice s.A0 s.ss.length s.c0, .slice s.A1 s.cs.length s.c1, .slice s.A2 s.ps.length s.c2] 26)).alloc (.cells #[.string t.f0, .slice A1 t.f1.length c1, .slice A2 t.f2.length c2] 30)).alloc (.cells #[.int .i64 0, .string ⟨#[]⟩, .slice none 0 0, .int .i64 0, .int .i64 0, .slice none 0 0] 37)) (.cells #[.string ⟨#[]⟩] 9)
 simp only [World.size_alloc] at hbt hbf hby
 have HS4 := Aside0.mk (show ((((w.alloc (.cells #[.slice s.A0 s.ss.length s.c0, .slice s.A1 s.cs.length s.c1, .slice s.A2 s.ps.length s.c2] 26)).alloc (.cells #[.string t.f0, .slice A1 t.f1.length c1, .slice A2 t.f2.length c2] 30)).alloc (.cells #[.int .i64 0, .string ⟨#[]⟩, .slice none 0 0, .int .i64 0, .int .i64 0, .slice none 0 0] 37)).alloc (.cells #[.string ⟨#[]⟩] 9)).heap.size = w.heap.size + 4 by simp)
 have C := Aside0.mk (checked_noun s t w ((((w.alloc (.cells #[.slice s.A0 s.ss.length s.c0, .slice s.A1 s.cs.length s.c1, .slice s.A2 s.ps.length s.c2] 26)).alloc (.cells #[.string t.f0, .slice A1 t.f1.length c1, .slice A2 t.f2.length c2] 30)).alloc (.cells #[.int .i64 0, .string ⟨#[]⟩, .slice none 0 0, .int .i64 0, .int .i64 0, .slice none 0 0] 37)).alloc (.cells #[.string ⟨#[]⟩] 9)) (w.heap.size + 1) (w.heap.size + 1 + 1 + 1) A1 c1 A2 c2 HB1.out hC tv hbt hby (by omega) hsm hn)
 have HF := Aside0.mk hbf
 clear hC tv hsm hn
 have s0 := blk_cell hbs 0
 have s1 := blk_cell hbs 1
 have s2 := blk_cell hbs 2
 have t0 := blk_cell hbt 0
 have t1 := blk_cell hbt 1
 have t2 := blk_cell hbt 2
 simp at s0 s1 s2 t0 t1 t2
 clear hbs hbt hbf hby
 have hmf : ∀ (fn : Fn) (first cap : Array Value) (w : World), (Instr.makeFunc fn first cap).run Tryz.prog w = .ok (.func fn first cap) w := fun _ _ _ _ => rfl
 cases ho : nouP s t with
 | error c =>
  rw [ho] at C
  rcases chP_err (show chP _ _ _ = .error c from ho) with rfl | rfl | rfl | rfl
  all_goals clear ho
  all_goals (
   go_enter Tryz.func16, Tryz.ntmps16
   go_wp2_with (go_at_call 41; refine C.out.mono ?_; rintro e w5 ⟨hk, rfl⟩; have HK5 := Aside0.mk hk; have RR := Aside0.mk (fun (o : Obj) => blk_alloc (hk.blk HF.out (by omega)) o); clear hk; unfold zeroM; have zc0 := fun (o : Obj) => blk_cell (RR.out o) 0; have zf0 := fun (o : Obj) => blk_frozen (RR.out o) 0; have zc1 := fun (o : Obj) => blk_cell (RR.out o) 1; have zf1 := fun (o : Obj) => blk_frozen (RR.out o) 1; have zc2 := fun (o : Obj) => blk_cell (RR.out o) 2; have zf2 := fun (o : Obj) => blk_frozen (RR.out o) 2; have zc3 := fun (o : Obj) => blk_cell (RR.out o) 3; have zf3 := fun (o : Obj) => blk_frozen (RR.out o) 3; have zc4 := fun (o : Obj) => blk_cell (RR.out o) 4; have zf4 := fun (o : Obj) => blk_frozen (RR.out o) 4; have zc5 := fun (o : Obj) => blk_cell (RR.out o) 5; have zf5 := fun (o : Obj) => blk_frozen (RR.out o) 5; simp at zc0 zc1 zc2 zc3 zc4 zc5)
   refine bodyPost_ret (results_list (rs := [.cell 4 37, .tmp 5, .tmp 6]) rfl (by simp) (.cell (w.heap.size + 1 + 1) 37 _ (0, 0) _ rfl (fin6 (RR.out _) (.int .i64 0) (.string ⟨#[]⟩) (.slice none 0 0) (.int .i64 0) (.int .i64 0) (.slice none 0 0)) Tryz.underlying37 rfl (by kernel_rfl) (.tmp (.tmp .nil)))) rfl ?_
   exact ⟨nou_below HB1.out HK5.out (by omega) (by omega) (.int .i64 0) (.string ⟨#[]⟩) (.slice none 0 0) (.int .i64 0) (.int .i64 0) (.slice none 0 0), rfl⟩)
 | ok m =>
  rw [ho] at C
  clear ho
  go_enter Tryz.func16, Tryz.ntmps16
  go_wp2_with (go_at_call 41; refine C.out.mono ?_; rintro e w5 ⟨hk, v5, rfl, hm5, y, hy, hy5⟩; have HM5 := Aside0.mk hm5; obtain ⟨E2, e2, E5, e5, rfl, hrest⟩ := id hm5; clear hm5 hrest; have yy := fun (o : Obj) => blk_cell (blk_alloc hy5 o) 0; simp at yy; have HY := Aside0.mk hy; have HK5 := Aside0.mk hk; have RR := Aside0.mk (fun (o : Obj) => blk_alloc (hk.blk HF.out (by omega)) o); clear hk hy hy5; unfold mnW; have zc0 := fun (o : Obj) => blk_cell (RR.out o) 0; have zf0 := fun (o : Obj) => blk_frozen (RR.out o) 0; have zc1 := fun (o : Obj) => blk_cell (RR.out o) 1; have zf1 := fun (o : Obj) => blk_frozen (RR.out o) 1; have zc2 := fun (o : Obj) => blk_cell (RR.out o) 2; have zf2 := fun (o : Obj) => blk_frozen (RR.out o) 2; have zc3 := fun (o : Obj) => blk_cell (RR.out o) 3; have zf3 := fun (o : Obj) => blk_frozen (RR.out o) 3; have zc4 := fun (o : Obj) => blk_cell (RR.out o) 4; have zf4 := fun (o : Obj) => blk_frozen (RR.out o) 4; have zc5 := fun (o : Obj) => blk_cell (RR.out o) 5; have zf5 := fun (o : Obj) => blk_frozen (RR.out o) 5; simp at zc0 zc1 zc2 zc3 zc4 zc5)
  go_region
  all_goals (
   go_wp2
   refine bodyPost_ret (results_list (rs := [.cell 4 37, .tmp 5, .tmp 6]) rfl (by simp) (.cell (w.heap.size + 1 + 1) 37 _ (0, 0) _ rfl (blk_drew (fin6 (RR.out _) (.int .i64 m.f0.f0) (.string m.f0.f1) (.slice E2 m.f0.f2.length e2) (.int .i64 m.f0.f3) (.int .i64 m.f0.f4) (.slice E5 m.f0.f5.length e5))) Tryz.underlying37 rfl (by kernel_rfl) (.tmp (.tmp .nil)))) rfl ?_
   refine ⟨below_drew (nou_below HB1.out HK5.out (by omega) (by omega) (.int .i64 m.f0.f0) (.string m.f0.f1) (.slice E2 m.f0.f2.length e2) (.int .i64 m.f0.f3) (.int .i64 m.f0.f4) (.slice E5 m.f0.f5.length e5)), _, y, HY.out, rfl, ?_⟩
   have hs4 := HS4.out
   refine (((MnV.step (HM5.out.below (below_alloc (Below.refl _ _) _)) (fun k hk hlt => (kp_set6 (g := w.heap.size + 1 + 1) (.int .i64 m.f0.f0) (.string m.f0.f1) (.slice E2 m.f0.f2.length e2) (.int .i64 m.f0.f3) (.int .i64 m.f0.f4) (.slice E5 m.f0.f5.length e5)).block k hlt (fun h => ?_))).mono (fun k hk => ?_)).below (below_drew (Below.refl _ _))).fm
   ·have hk' : ((((w.alloc (.cells #[.slice s.A0 s.ss.length s.c0, .slice s.A1 s.cs.length s.c1, .slice s.A2 s.ps.length s.c2] 26)).alloc (.cells #[.string t.f0, .slice A1 t.f1.length c1, .slice A2 t.f2.length c2] 30)).alloc (.cells #[.int .i64 0, .string ⟨#[]⟩, .slice none 0 0, .int .i64 0, .int .i64 0, .slice none 0 0] 37)).alloc (.cells #[.string ⟨#[]⟩] 9)).heap.size ≤ k := hk
    omega
   ·have hk' : ((((w.alloc (.cells #[.slice s.A0 s.ss.length s.c0, .slice s.A1 s.cs.length s.c1, .slice s.A2 s.ps.length s.c2] 26)).alloc (.cells #[.string t.f0, .slice A1 t.f1.length c1, .slice A2 t.f2.length c2] 30)).alloc (.cells #[.int .i64 0, .string ⟨#[]⟩, .slice none 0 0, .int .i64 0, .int .i64 0, .slice none 0 0] 37)).alloc (.cells #[.string ⟨#[]⟩] 9)).heap.size ≤ k := hk
    omega)
set_option maxHeartbeats 400000 in
set_option maxRecDepth 100000 in
theorem copy_next (B : Nat) (v : Value) (w : World) (h : w.heap[B]? = some (.cells #[.pointer (some ⟨B, 0, none⟩), v] 111 (0, 0))) :
  Calls Tryz.prog 156 #[.pointer (some ⟨B, 0, none⟩)] w fun e w' => e = .returned (.tuple #[]) ∧ w' = w := by
 have x0 := blk_cell h 0
 simp at x0
 go_enter Tryz.func156, Tryz.ntmps156
 obtain ⟨j, hj, hjs⟩ := Option.map_eq_some_iff.1 (show (Tryz.prog.info? 111).map (·.size) = some 2 by kernel_rfl)
 go_wp2
 rw [Lib.run_neq_ptr_same w _ Tryz.underlying108 hj]
 go_wp2
 go_end0
 exact ⟨rfl, rfl⟩
set_option maxHeartbeats 400000 in
set_option maxRecDepth 100000 in
theorem copy_first (B : Nat) (v : Value) (w : World) (h : w.heap[B]? = some (.cells #[.pointer none, v] 111 (0, 0))) :
  Calls Tryz.prog 156 #[.pointer (some ⟨B, 0, none⟩)] w fun e w' => e = .returned (.tuple #[]) ∧ w' = w.setCell ⟨B, 0, none⟩ (.pointer (some ⟨B, 0, none⟩)) := by
 have x0 := blk_cell h 0
 have f0 := blk_frozen h 0
 simp at x0
 go_enter Tryz.func156, Tryz.ntmps156
 obtain ⟨j, hj, hjs⟩ := Option.map_eq_some_iff.1 (show (Tryz.prog.info? 111).map (·.size) = some 2 by kernel_rfl)
 have hsh : w.shape? B = some (111, 2) := by simp [World.shape?, h]
 go_wp2
 rw [Lib.run_to_unsafe w ⟨B, 0, none⟩ Tryz.underlying108 Tryz.underlying192 hj (by rw [hjs]; decide) hsh (Nat.zero_lt_succ 1)]
 simp only [Result.andThen]
 rw [Oper.upon_value]
 go_wp2
 rw [run_callFunc_extern Tryz.func174 (by kernel_rfl) (by kernel_rfl) (by kernel_rfl) (e := Extern.AbiNoEscape.same) (by kernel_rfl)]
 rw [Lib.run_noEscape]
 simp only [Result.andThen]
 rw [Oper.upon_value]
 go_wp2
 rw [Lib.run_from_unsafe w ⟨B, 0, none⟩ Tryz.underlying192 Tryz.underlying108 hj hsh (by kernel_rfl)]
 simp only [Result.andThen]
 rw [Oper.upon_value]
 go_wp2
 go_end0
 exact ⟨rfl, rfl⟩
theorem info5_ : (Tryz.prog.info? 5).map (fun i => (i.zero, i.size, i.bytes)) = some (some (.int .u8 0), 1, 1) := by kernel_rfl
theorem copy_callsK (B b : Nat) (bs : List Value) (w : World) (h : Lib.IsBuilder 111 5 B b bs w) :
  Calls Tryz.prog 156 #[.pointer (some ⟨b, 0, none⟩)] w fun e w' => e = .returned (.tuple #[]) ∧ Lib.BuilderAt 111 5 B b (.pointer (some ⟨b, 0, none⟩)) bs w' ∧ Below B w w' ∧ Lib.OthersKept 5 (some b) w w' := by
 rcases h with h | h
 ·obtain ⟨hB, v, hb, hr⟩ := id h
  exact (copy_first b v w hb).mono (by rintro e w' ⟨rfl, rfl⟩; exact ⟨rfl, h.used _, (Below.refl B w).setCell (p := ⟨b, 0, none⟩) hB _, (Lib.OthersKept.refl 5 (some b) w).setCell ⟨b, 0, none⟩ rfl _⟩)
 ·obtain ⟨hB, v, hb, hr⟩ := id h
  exact (copy_next b v w hb).mono (by rintro e w' ⟨rfl, rfl⟩; exact ⟨rfl, h, Below.refl B _, Lib.OthersKept.refl 5 (some b) _⟩)
theorem own_kind {w : World} {B n : Nat} {v : Value} {xs : List Value} (h : w.ownsRow B 5 1 v n xs) : ∀ g, v.ownBlock = some g → ∃ c fz, w.heap[g]? = some (.cells c 5 fz) := by
 intro g hg
 rcases h.2 with ⟨rfl, _⟩ | ⟨g', cap, cur, rfl, _, hh, _⟩
 ·simp [Value.ownBlock] at hg
 ·simp only [Value.ownBlock, Option.some.injEq] at hg
  subst hg
  exact ⟨_, _, hh⟩
set_option maxHeartbeats 2000000 in
set_option maxRecDepth 100000 in
theorem wbyte_callsK (B b : Nat) (bs : List Value) (c : Int) (w : World) (h : Lib.IsBuilder 111 5 B b bs w) (hlen : bs.length + 1 ≤ 140737488355328) (hBw : B ≤ w.heap.size) :
  Calls Tryz.prog 125 #[.pointer (some ⟨b, 0, none⟩), .int .u8 c] w fun e w' => e = .returned .nilIface ∧ Lib.IsBuilder 111 5 B b (bs ++ [.int .u8 c]) w' ∧ Below B w w' ∧ Lib.OthersKept 5 (some b) w w' := by
 obtain ⟨i0, hi, hz0, hz1, hz2⟩ := info_parts info5_
 have C := Aside0.mk (copy_callsK B b bs w h)
 clear h
 go_enter Tryz.func125, Tryz.ntmps125
 go_wp2_with (go_at_call 156; refine C.out.mono ?_)
 rintro e w1 ⟨rfl, ⟨hB, v, hbk, hown, hne⟩, hb1, ho1⟩
 have HBK := Aside0.mk hbk
 have HO1 := Aside0.mk ho1
 have y0 := blk_cell hbk 0
 have y1 := blk_cell hbk 1
 simp at y0 y1
 clear hbk ho1
 go_wp2_with (at_builtin; refine wpList_append_own _ rfl _ _ 109 rfl B 5 i0 (.int .u8 0) 1 1 Tryz.underlying109 hi hz0 hz1 hz2 rfl (by decide) _ _ _ rfl (hown.alloc _) ⟨w1.heap.size, 0, none⟩ 1 1 [.int .u8 c] rfl rfl ?c1 ?c2 ?c3 ?c4 ?c5 ?_)
 case c1 =>
  intro k u hk
  cases k with
  | zero => simp at hk; subst hk; simp [Addr.add]
  | succ k => simp at hk
 case c2 => intro u hu; simp at hu; subst hu; rfl
 case c3 => unfold maxLen; omega
 case c4 => omega
 case c5 => have := hb1.size; simp; omega
 intro v' w2 hown' hgrow _
 have hlt := blk_lt HBK.out
 have hb2 := (hgrow.block b (by simp; omega) (fun e => hne e.symm)).trans (blk_alloc HBK.out (.cells #[.int .u8 c] 5))
 have z0 := blk_cell hb2 0
 have z1 := blk_cell hb2 1
 have f1 := blk_frozen hb2 1
 simp at z0 z1
 obtain ⟨g, cap, rfl⟩ : ∃ g cap, v' = .slice (some ⟨g, 0, none⟩) (bs.length + 1) cap := by
  rcases hown'.2 with ⟨_, h0⟩ | ⟨g, cap, cur, hv, _⟩
  ·omega
  ·exact ⟨g, cap, hv⟩
 have HB2 := Aside0.mk hb2
 have HO2 := Aside0.mk (((HO1.out.alloc (.cells #[.int .u8 c] 5)).grown hgrow (own_kind (hown.alloc _))).setCell ⟨b, 1, none⟩ rfl (.slice (some ⟨g, 0, none⟩) (bs.length + 1) cap))
 clear hb2
 go_wp2
 go_ret
 refine ⟨rfl, .inr (Lib.BuilderAt.put hB HB2.out (by simpa using hown') (by decide)), ?_, HO2.out⟩
 exact ((hb1.alloc (by have := hb1.size; omega) _).grown hgrow (by have := hb1.size; simp; omega) (fun k hk => (hown.lt k hk).1)).setCell (p := ⟨b, 1, none⟩) hB _
set_option maxHeartbeats 2000000 in
set_option maxRecDepth 100000 in
theorem wstr_callsK (B b : Nat) (bs : List Value) (s : ByteArray) (w : World) (h : Lib.IsBuilder 111 5 B b bs w) (hlen : bs.length + s.size ≤ 140737488355328) (hBw : B ≤ w.heap.size) :
  Calls Tryz.prog 122 #[.pointer (some ⟨b, 0, none⟩), .string s] w fun e w' => e = .returned (.tuple #[.int .i64 s.size, .nilIface]) ∧ Lib.IsBuilder 111 5 B b (bs ++ Lib.strCells s) w' ∧ Below B w w' ∧ Lib.OthersKept 5 (some b) w w' := by
 obtain ⟨i0, hi, hz0, hz1, hz2⟩ := info_parts info5_
 have C := Aside0.mk (copy_callsK B b bs w h)
 clear h
 go_enter Tryz.func122, Tryz.ntmps122
 go_wp2_with (go_at_call 156; refine C.out.mono ?_)
 rintro e w1 ⟨rfl, ⟨hB, v, hbk, hown, hne⟩, hb1, ho1⟩
 have HBK := Aside0.mk hbk
 have HO1 := Aside0.mk ho1
 have y0 := blk_cell hbk 0
 have y1 := blk_cell hbk 1
 simp at y0 y1
 clear hbk ho1
 go_wp2_with (at_builtin; refine Lib.wpList_append_own_string _ rfl _ _ 109 9 rfl B 5 i0 Tryz.underlying109 Tryz.underlying9 hi hz0 hz1 hz2 _ _ _ rfl hown s rfl ?c3 ?c4 ?c5 ?_)
 case c3 => unfold maxLen; omega
 case c4 => omega
 case c5 => have := hb1.size; omega
 intro v' w2 hown' hgrow _
 have hlt := blk_lt HBK.out
 have hb2 := (hgrow.block b hlt (fun e => hne e.symm)).trans HBK.out
 have z0 := blk_cell hb2 0
 have z1 := blk_cell hb2 1
 have f1 := blk_frozen hb2 1
 simp at z0 z1
 obtain ⟨ao, n', cap, rfl⟩ : ∃ ao n' cap, v' = .slice ao n' cap := by
  rcases hown'.2 with ⟨hv, _⟩ | ⟨g, cap, cur, hv, _⟩
  ·exact ⟨_, _, _, hv⟩
  ·exact ⟨_, _, _, hv⟩
 have HB2 := Aside0.mk hb2
 have HO2 := Aside0.mk ((HO1.out.grown hgrow (own_kind hown)).setCell ⟨b, 1, none⟩ rfl (.slice ao n' cap))
 clear hb2
 go_wp2
 go_ret2
 refine ⟨rfl, .inr (Lib.BuilderAt.put hB HB2.out (by simpa [Lib.strCells_length] using hown') (by decide)), ?_, HO2.out⟩
 exact (hb1.grown hgrow (by have := hb1.size; omega) (fun k hk => (hown.lt k hk).1)).setCell (p := ⟨b, 1, none⟩) hB _
structure FmC (w : World) (f : S37) (A2 : Option Addr) (c2 : Nat) (A5 : Option Addr) (c5 : Nat) : Prop where
 l2 : f.f2.length ≤ c2
 a : k59.C w A2 f.f2.length f.f2
 l5 : f.f5.length ≤ c5
 k : k37.C w A5 f.f5.length f.f5
theorem FmC.below {w w' : World} {f : S37} {A2 A5 : Option Addr} {c2 c5 : Nat} (h : FmC w f A2 c2 A5 c5) (hB : Below w.heap.size w w') : FmC w' f A2 c2 A5 c5 :=
 ⟨h.l2, Kd.C_below h.a hB, h.l5, Kd.C_below h.k hB⟩
def kwB (op : Int) : ByteArray := (formula_keyword.f op).getD ⟨#[]⟩
theorem kw_some (op : Int) : formula_keyword.f op = some (kwB op) := by
 cases h : formula_keyword.f op with
 | some r => simp [kwB, h]
 | none =>
  exfalso
  have one : ∀ (c : Prop) [Decidable c] (a : ByteArray) (e : Option ByteArray), e ≠ none → (if c then some a else e) ≠ none := by
   intro c _ a e he
   by_cases hc : c
   ·rw [if_pos hc]; exact Option.some_ne_none _
   ·rw [if_neg hc]; exact he
  refine absurd h ?_
  unfold formula_keyword.f
  repeat refine one _ _ _ ?_
  exact Option.some_ne_none _
def refB (r : S59) : ByteArray := if r.f0 = 1 then ⟨#[35]⟩ ++ itoaB r.f1 else if r.f0 = 3 then ⟨#[64]⟩ ++ itoaB r.f1 else if r.f0 = 4 then itoaB r.f1 else r.f2
def sepB (y : Int) : ByteArray := if 0 < y then ⟨#[44, 32]⟩ else ⟨#[]⟩
def argsW (y : Int) : List S59 → ByteArray
 | [] => ⟨#[]⟩
 | r :: l => sepB y ++ (refB r ++ argsW (y + 1) l)
def headB (op : Int) (nm : ByteArray) : ByteArray := if op = 3 then nm else if op = 8 ∨ op = 9 then kwB op ++ ⟨#[32]⟩ ++ nm else kwB op
mutual
/-- A formula's text (formulas without During). -/
def wrP : S37 → ByteArray
 | ⟨op, nm, ar, _, _, ks⟩ => if op = 1 ∨ op = 2 then kwB op else headB op nm ++ (⟨#[40]⟩ ++ (argsW 0 ar ++ (kidsW 0 ks ++ ⟨#[41]⟩)))
def kidsW (y : Int) : List S37 → ByteArray
 | [] => ⟨#[]⟩
 | k :: r => sepB y ++ (wrP k ++ kidsW (y + 1) r)
end
theorem wrP_eq (f : S37) : wrP f = if f.f0 = 1 ∨ f.f0 = 2 then kwB f.f0 else headB f.f0 f.f1 ++ (⟨#[40]⟩ ++ (argsW 0 f.f2 ++ (kidsW 0 f.f5 ++ ⟨#[41]⟩))) := by cases f; simp only [wrP]
theorem strCells_append (a b : ByteArray) : Lib.strCells (a ++ b) = Lib.strCells a ++ Lib.strCells b := by
 unfold Lib.strCells
 rw [show (a ++ b).data = a.data ++ b.data from ByteArray.data_append ..]
 simp
theorem bassoc (a b c : ByteArray) : a ++ b ++ c = a ++ (b ++ c) := by
 apply ByteArray.ext
 simp only [ByteArray.data_append, Array.append_assoc]
theorem bnil (a : ByteArray) : (⟨#[]⟩ : ByteArray) ++ a = a := by
 apply ByteArray.ext
 simp [ByteArray.data_append]
theorem isB_below {B b : Nat} {bs : List Value} {w w' : World} (h : Lib.IsBuilder 111 5 B b bs w) (hB : Below w.heap.size w w') : Lib.IsBuilder 111 5 B b bs w' := by
 have one : ∀ {p}, Lib.BuilderAt 111 5 B b p bs w → Lib.BuilderAt 111 5 B b p bs w' := by
  rintro p ⟨h1, v, h2, h3, h4⟩
  exact ⟨h1, v, blk_below h2 hB, h3.kept (row := none) ⟨hB.os, hB.tape, hB.output, hB.size, fun k hk _ => hB.block k hk⟩ (by cases hv : v.ownBlock <;> simp), h4⟩
 rcases h with h | h
 ·exact .inl (one h)
 ·exact .inr (one h)
theorem isB_lt {B b : Nat} {bs : List Value} {w : World} (h : Lib.IsBuilder 111 5 B b bs w) : b < w.heap.size := by
 rcases h with h | h
 ·exact h.lt
 ·exact h.lt
theorem ok_below {b : Nat} {a w w' : World} (h : Lib.OthersKept 5 (some b) a w) (hB : Below w.heap.size w w') : Lib.OthersKept 5 (some b) a w' := by
 intro k x hk hb hx
 have h1 := h k x hk hb hx
 exact (hB.block k (Array.getElem?_eq_some_iff.1 h1).1).trans h1
theorem ok_box {k b : Nat} {w w' : World} {cs : Array Value} {T : TypeId} (h : Lib.OthersKept 5 (some b) w w') (hk : w.heap[k]? = some (.cells cs T (0, 0))) (hT : T ≠ 5) (hkb : k ≠ b) : w'.heap[k]? = some (.cells cs T (0, 0)) :=
 h k _ hk (by simp [hkb]) (fun c fz e => by injection e with e1 e2 e3; exact hT e2)
structure WrSt (w0 w : World) (b : Nat) (bs : List Value) (acc : ByteArray) (W : World) : Prop where
 ib : Lib.IsBuilder 111 5 w0.heap.size b (bs ++ Lib.strCells acc) W
 below : Below w0.heap.size w W
 ok : Lib.OthersKept 5 (some b) w W
theorem WrSt.step {w0 w W W' : World} {b : Nat} {bs : List Value} {acc : ByteArray} (h : WrSt w0 w b bs acc W) (hw : w0.heap.size ≤ W.heap.size) (hB : Below W.heap.size W W') : WrSt w0 w b bs acc W' :=
 ⟨isB_below h.ib hB, h.below.trans (hB.mono hw), ok_below h.ok hB⟩
theorem WrSt.sz {w0 w W : World} {b : Nat} {bs : List Value} {acc : ByteArray} (h : WrSt w0 w b bs acc W) (hB : Below w0.heap.size w0 w) : Below w0.heap.size w0 W := hB.trans h.below
theorem wr_str {w0 w W : World} {b : Nat} {bs : List Value} {acc s R X : ByteArray} (hB : Below w0.heap.size w0 w) (hX : bs.length + X.size ≤ 1099511627776) (h : WrSt w0 w b bs acc W) (heq : acc ++ (s ++ R) = X) :
  Calls Tryz.prog 122 #[.pointer (some ⟨b, 0, none⟩), .string s] W fun e w' => e = .returned (.tuple #[.int .i64 s.size, .nilIface]) ∧ WrSt w0 w b bs (acc ++ s) w' ∧ Lib.OthersKept 5 (some b) W w' ∧ (acc ++ s) ++ R = X := by
 have hl : acc.size + (s.size + R.size) = X.size := by rw [← heq, ByteArray.size_append, ByteArray.size_append]
 refine (wstr_callsK w0.heap.size b _ s W h.ib (by simp [Lib.strCells_length]; omega) (h.sz hB).size).mono ?_
 rintro e w' ⟨rfl, h1, h2, h3⟩
 exact ⟨rfl, ⟨by rw [strCells_append, ← List.append_assoc]; exact h1, h.below.trans h2, h.ok.trans h3⟩, h3, by rw [bassoc]; exact heq⟩
theorem wr_byte {w0 w W : World} {b : Nat} {bs : List Value} {acc R X : ByteArray} (c : UInt8) (hB : Below w0.heap.size w0 w) (hX : bs.length + X.size ≤ 1099511627776) (h : WrSt w0 w b bs acc W) (heq : acc ++ (⟨#[c]⟩ ++ R) = X) :
  Calls Tryz.prog 125 #[.pointer (some ⟨b, 0, none⟩), .int .u8 c.toNat] W fun e w' => e = .returned .nilIface ∧ WrSt w0 w b bs (acc ++ ⟨#[c]⟩) w' ∧ Lib.OthersKept 5 (some b) W w' ∧ (acc ++ ⟨#[c]⟩) ++ R = X := by
 have hl : acc.size + (1 + R.size) = X.size := by rw [← heq, ByteArray.size_append, ByteArray.size_append]; rfl
 refine (wbyte_callsK w0.heap.size b _ c.toNat W h.ib (by simp [Lib.strCells_length]; omega) (h.sz hB).size).mono ?_
 rintro e w' ⟨rfl, h1, h2, h3⟩
 exact ⟨rfl, ⟨by rw [strCells_append, ← List.append_assoc]; exact h1, h.below.trans h2, h.ok.trans h3⟩, h3, by rw [bassoc]; exact heq⟩
def WrRet (w0 : World) (b : Nat) (bs : List Value) (f : S37) (w : World) (e : Ending) (w' : World) : Prop := e = .returned (.tuple #[]) ∧ WrSt w0 w b bs (wrP f) w'
theorem drop_get {α : Type} (d : α) (l : List α) (y : Int) (h0 : 0 ≤ y) (h1 : y < l.length) : l.drop y.toNat = l.getD y.toNat d :: l.drop (y + 1).toNat := by
 have e : (y + 1).toNat = y.toNat + 1 := by omega
 rw [e, List.drop_eq_getElem_cons (by omega), List.getD_eq_getElem?_getD, List.getElem?_eq_getElem (by omega), Option.getD_some]
theorem mem_get {α : Type} (d : α) (l : List α) (y : Int) (h0 : 0 ≤ y) (h1 : y < l.length) : l.getD y.toNat d ∈ l := by
 rw [List.getD_eq_getElem?_getD, List.getElem?_eq_getElem (by omega), Option.getD_some]
 exact List.getElem_mem _
theorem piece_len {acc s R X : ByteArray} {n : Nat} (h : acc ++ (s ++ R) = X) (hX : n + X.size ≤ 1099511627776) : acc.size + (s.size + R.size) ≤ 1099511627776 := by
 have hl : acc.size + (s.size + R.size) = X.size := by rw [← h, ByteArray.size_append, ByteArray.size_append]
 omega
theorem kw_size (op : Int) : (kwB op).size ≤ 9 := by
 have h := kw_some op
 have one : ∀ (c : Prop) [Decidable c] (a : ByteArray) (e : Option ByteArray), a.size ≤ 9 → (∀ r, e = some r → r.size ≤ 9) → ∀ r, (if c then some a else e) = some r → r.size ≤ 9 := by
  intro c _ a e ha he r hr
  by_cases hc : c
  ·rw [if_pos hc] at hr; exact Option.some.inj hr ▸ ha
  ·rw [if_neg hc] at hr; exact he r hr
 revert h
 generalize kwB op = r
 unfold formula_keyword.f
 revert r
 repeat refine one _ _ _ (by decide) ?_
 intro r hr
 exact Option.some.inj hr ▸ (by decide)
theorem head_cases (f : S37) (h1 : f.f0 ≠ 1) (h2 : f.f0 ≠ 2) : ((f.f0 == 3) = true ∧ headB f.f0 f.f1 = f.f1) ∨ ((f.f0 == 3) = false ∧ (f.f0 == 8) = true ∧ headB f.f0 f.f1 = kwB f.f0 ++ ⟨#[32]⟩ ++ f.f1) ∨ ((f.f0 == 3) = false ∧ (f.f0 == 8) = false ∧ (f.f0 == 9) = true ∧ headB f.f0 f.f1 = kwB f.f0 ++ ⟨#[32]⟩ ++ f.f1) ∨ ((f.f0 == 3) = false ∧ (f.f0 == 8) = false ∧ (f.f0 == 9) = false ∧ headB f.f0 f.f1 = kwB f.f0) := by
 unfold headB
 by_cases h3 : f.f0 = 3
 ·exact .inl ⟨beq_iff_eq.mpr h3, if_pos h3⟩
 ·refine .inr ?_
  have b3 : (f.f0 == 3) = false := beq_eq_false_iff_ne.mpr h3
  rw [if_neg h3]
  by_cases h8 : f.f0 = 8
  ·exact .inl ⟨b3, beq_iff_eq.mpr h8, if_pos (.inl h8)⟩
  ·refine .inr ?_
   have b8 : (f.f0 == 8) = false := beq_eq_false_iff_ne.mpr h8
   by_cases h9 : f.f0 = 9
   ·exact .inl ⟨b3, b8, beq_iff_eq.mpr h9, if_pos (.inr h9)⟩
   ·exact .inr ⟨b3, b8, beq_eq_false_iff_ne.mpr h9, if_neg (fun h => h.elim h8 h9)⟩
theorem sep_cases (y : Int) : ((0 < y) = True ∧ sepB y = ⟨#[44, 32]⟩) ∨ ((0 < y) = False ∧ sepB y = ⟨#[]⟩) := by
 by_cases h : 0 < y
 ·exact .inl ⟨eq_true h, if_pos h⟩
 ·exact .inr ⟨eq_false h, if_neg h⟩
theorem ref_cases (r : S59) : ((r.f0 == 1) = true ∧ refB r = ⟨#[35]⟩ ++ itoaB r.f1) ∨ ((r.f0 == 1) = false ∧ (r.f0 == 3) = true ∧ refB r = ⟨#[64]⟩ ++ itoaB r.f1) ∨ ((r.f0 == 1) = false ∧ (r.f0 == 3) = false ∧ (r.f0 == 4) = true ∧ refB r = itoaB r.f1) ∨ ((r.f0 == 1) = false ∧ (r.f0 == 3) = false ∧ (r.f0 == 4) = false ∧ refB r = r.f2) := by
 unfold refB
 by_cases h1 : r.f0 = 1
 ·exact .inl ⟨beq_iff_eq.mpr h1, if_pos h1⟩
 ·rw [if_neg h1]
  have b1 : (r.f0 == 1) = false := beq_eq_false_iff_ne.mpr h1
  by_cases h3 : r.f0 = 3
  ·exact .inr (.inl ⟨b1, beq_iff_eq.mpr h3, if_pos h3⟩)
  ·rw [if_neg h3]
   have b3 : (r.f0 == 3) = false := beq_eq_false_iff_ne.mpr h3
   by_cases h4 : r.f0 = 4
   ·exact .inr (.inr (.inl ⟨b1, b3, beq_iff_eq.mpr h4, if_pos h4⟩))
   ·exact .inr (.inr (.inr ⟨b1, b3, beq_eq_false_iff_ne.mpr h4, if_neg h4⟩))
theorem wr_kid {w0 w W W' : World} {b : Nat} {bs : List Value} {ac s : ByteArray} (h : WrSt w0 w b bs ac W) (h1 : WrSt w0 W b (bs ++ Lib.strCells ac) s W') : WrSt w0 w b bs (ac ++ s) W' :=
 ⟨by rw [strCells_append, ← List.append_assoc]; exact h1.ib, h.below.trans h1.below, h.ok.trans h1.ok⟩
set_option maxHeartbeats 8000000 in
set_option maxRecDepth 100000 in
theorem write_step (T : Lib.PrintTabs) (f : S37) (w0 w : World) (b : Nat) (bs : List Value) (A2 : Option Addr) (c2 : Nat) (A5 : Option Addr) (c5 : Nat) (fv : FmC w0 f A2 c2 A5 c5) (hT : Tabs T w0) (hB : Below w0.heap.size w0 w) (hb : Lib.IsBuilder 111 5 w0.heap.size b bs w) (hlen : bs.length + (wrP f).size ≤ 1099511627776)
  (hd : f.f0 ≠ 10) (hnm : f.f1.size ≤ 2000000) (hl2 : f.f2.length ≤ 2000000) (hl5 : f.f5.length ≤ 2000000) (hr : ∀ r ∈ f.f2, 0 ≤ r.f1 ∧ r.f1 ≤ 9223372036854775807)
  (ih : ∀ (x : S37) (W : World) (cs : List Value) (B2 : Option Addr) (d2 : Nat) (B5 : Option Addr) (d5 : Nat), x ∈ f.f5 → FmC w0 x B2 d2 B5 d5 → Below w0.heap.size w0 W → Lib.IsBuilder 111 5 w0.heap.size b cs W → cs.length + (wrP x).size ≤ 1099511627776 → Calls Tryz.prog 75 #[.pointer (some ⟨b, 0, none⟩), .agg #[.int .i64 x.f0, .string x.f1, .slice B2 x.f2.length d2, .int .i64 x.f3, .int .i64 x.f4, .slice B5 x.f5.length d5]] W (WrRet w0 b cs x W)) :
  Calls Tryz.prog 75 #[.pointer (some ⟨b, 0, none⟩), .agg #[.int .i64 f.f0, .string f.f1, .slice A2 f.f2.length c2, .int .i64 f.f3, .int .i64 f.f4, .slice A5 f.f5.length c5]] w (WrRet w0 b bs f w) := by
 have HB := Aside0.mk hB
 have FV := Aside0.mk fv
 have HT := Aside0.mk hT
 have IH := Aside0.mk ih
 have HR := Aside0.mk hr
 have hbw := isB_lt hb
 have HS0 : Aside0 (WrSt w0 w b bs ⟨#[]⟩ (w.alloc (.cells #[.int .i64 f.f0, .string f.f1, .slice A2 f.f2.length c2, .int .i64 f.f3, .int .i64 f.f4, .slice A5 f.f5.length c5] 37))) := ⟨WrSt.step ⟨by rw [show Lib.strCells ⟨#[]⟩ = [] from rfl, List.append_nil]; exact hb, Below.refl _ _, Lib.OthersKept.refl _ _ _⟩ hB.size (below_alloc (Below.refl _ _) _)⟩
 have HX0 := Aside0.mk (blk_new w (.cells #[.int .i64 f.f0, .string f.f1, .slice A2 f.f2.length c2, .int .i64 f.f3, .int .i64 f.f4, .slice A5 f.f5.length c5] 37))
 have HE := Aside0.mk (wrP_eq f)
 have HLEN := Aside0.mk hlen
 have hbg : w.heap.size ≠ b := by omega
 clear fv hT ih hr hB hb hlen
 have x0 := blk_cell HX0.out 0
 have x1 := blk_cell HX0.out 1
 simp at x0 x1
 have K := Aside0.mk (fun (W : World) => formula_keyword.calls f.f0 (kwB f.f0) W (kw_some f.f0))
 generalize hW1 : w.alloc (.cells #[.int .i64 f.f0, .string f.f1, .slice A2 f.f2.length c2, .int .i64 f.f3, .int .i64 f.f4, .slice A5 f.f5.length c5] 37) = W1 at *
 by_cases h12 : f.f0 = 1 ∨ f.f0 = 2
 ·have HEQ : Aside0 ((⟨#[]⟩ : ByteArray) ++ (kwB f.f0 ++ ⟨#[]⟩) = wrP f) := ⟨by rw [HE.out, if_pos h12, bnil]; apply ByteArray.ext; simp [ByteArray.data_append]⟩
  have q0 : (f.f0 == 1) = true ∨ (f.f0 == 1) = false ∧ (f.f0 == 2) = true := by rcases h12 with h | h <;> simp [h]
  clear h12 HE
  rcases q0 with q1 | ⟨q1, q2⟩
  all_goals (
   subst hW1
   go_enter Tryz.func75, Tryz.ntmps75
   go_wp2_with (first | (go_at_call 123; refine (K.out _).mono ?_; rintro e w2 ⟨rfl, hD⟩; have HS1 := Aside0.mk (HS0.out.step (HS0.out.sz HB.out).size hD.below); clear hD) | (go_at_call 122; refine (wr_str HB.out HLEN.out HS1.out HEQ.out).mono ?_; rintro e w3 ⟨rfl, h1, _, h3⟩; have HS2 := Aside0.mk h1; have HEQ2 := Aside0.mk h3; clear h1 h3))
   go_end0
   refine ⟨rfl, ?_⟩
   have he := HEQ2.out
   rw [show ((⟨#[]⟩ : ByteArray) ++ kwB f.f0 ++ ⟨#[]⟩) = (⟨#[]⟩ : ByteArray) ++ kwB f.f0 by apply ByteArray.ext; simp [ByteArray.data_append]] at he
   rw [← he]
   exact HS2.out)
 ·have h1 : f.f0 ≠ 1 := fun h => h12 (.inl h)
  have h2 : f.f0 ≠ 2 := fun h => h12 (.inr h)
  have p1 : (f.f0 == 1) = false := beq_eq_false_iff_ne.mpr h1
  have p2 : (f.f0 == 2) = false := beq_eq_false_iff_ne.mpr h2
  have p10 : (f.f0 == 10) = false := beq_eq_false_iff_ne.mpr hd
  rw [if_neg h12] at HE
  clear h12 hd
  have hc := head_cases f h1 h2
  clear h1 h2
  have HEQ0 : Aside0 ((⟨#[]⟩ : ByteArray) ++ (headB f.f0 f.f1 ++ (⟨#[40]⟩ ++ (argsW 0 f.f2 ++ (kidsW 0 f.f5 ++ ⟨#[41]⟩)))) = wrP f) := ⟨by rw [HE.out, bnil]⟩
  clear HE
  subst hW1
  rcases hc with ⟨b3, hh⟩ | ⟨b3, b8, hh⟩ | ⟨b3, b8, b9, hh⟩ | ⟨b3, b8, b9, hh⟩
  all_goals (
   rw [hh] at HEQ0
   clear hh
   have hz1 : (9223372036854775807 < (kwB f.f0).size + 1) = False := eq_false (by have := kw_size f.f0; omega)
   have hz2 : (9223372036854775807 < (kwB f.f0).size + 1 + f.f1.size) = False := eq_false (by have := kw_size f.f0; omega)
   have hz3 : (9223372036854775807 < (kwB f.f0 ++ ⟨#[32]⟩).size + f.f1.size) = False := eq_false (by have := kw_size f.f0; rw [ByteArray.size_append]; have : (⟨#[32]⟩ : ByteArray).size = 1 := rfl; omega)
   go_enter Tryz.func75, Tryz.ntmps75
   go_wp2_with (first | (go_at_call 123; refine (K.out _).mono ?_; rintro e w1 ⟨rfl, hD⟩; have HS0 := Aside0.mk (HS0.out.step (HS0.out.sz HB.out).size hD.below); have HX0 := Aside0.mk (blk_below HX0.out hD.below); clear hD) | (go_at_call 122; refine (wr_str HB.out HLEN.out HS0.out HEQ0.out).mono ?_; rintro e w2 ⟨rfl, h1, h2, h3⟩; have HS1 := Aside0.mk h1; have HEQ1 := Aside0.mk h3; have HX1 := Aside0.mk (ok_box h2 HX0.out (by decide) hbg); clear h1 h2 h3) | (go_at_call 125; refine (wr_byte 40 HB.out HLEN.out HS1.out HEQ1.out).mono ?_; rintro e w3 ⟨rfl, h1, h2, h3⟩; have HS2 := Aside0.mk h1; have HEQ2 := Aside0.mk h3; have HX2 := Aside0.mk (ok_box h2 HX1.out (by decide) hbg); have x2 := blk_cell HX2.out 2; simp at x2; clear h1 h2 h3)))
  rotate_left
  iterate 2 (
   focus
    have SX := Aside0.mk (fun (W : World) (hX : W.heap[w.heap.size]? = some (.cells #[.int .i64 f.f0, .string f.f1, .slice A2 f.f2.length c2, .int .i64 f.f3, .int .i64 f.f4, .slice A5 f.f5.length c5] 37 (0, 0))) => (show W.cell? ⟨w.heap.size, 0, none⟩ = some (.int .i64 f.f0) ∧ W.cell? ⟨w.heap.size, 1, none⟩ = some (.string f.f1) from ⟨blk_cell hX 0, blk_cell hX 1⟩))
    have HS0 := Aside0.mk (HS0.out.step (HS0.out.sz HB.out).size (below_drew (Below.refl _ _)))
    have HX0 := Aside0.mk (blk_drew HX0.out)
    go_region_held3 (fun w' => w'.cell? ⟨w.heap.size, 0, none⟩ = some (.int .i64 f.f0) ∧ w'.cell? ⟨w.heap.size, 1, none⟩ = some (.string f.f1))
     (first | (with_reducible exact SX.out _ HX0.out) | (with_reducible exact SX.out _ HX1.out))
     (first | (go_at_call 123; refine (K.out _).mono ?_; rintro e w1 ⟨rfl, hD⟩; have HS0 := Aside0.mk (HS0.out.step (HS0.out.sz HB.out).size hD.below); have HX0 := Aside0.mk (blk_below HX0.out hD.below); clear hD) | (go_at_call 122; refine (wr_str HB.out HLEN.out HS0.out HEQ0.out).mono ?_; rintro e w2 ⟨rfl, h1, h2, h3⟩; have HS1 := Aside0.mk h1; have HEQ1 := Aside0.mk h3; have HX1 := Aside0.mk (ok_box h2 HX0.out (by decide) hbg); clear h1 h2 h3))
    clear SX
    go_wp2_with (first | (go_at_call 125; refine (wr_byte 40 HB.out HLEN.out HS1.out HEQ1.out).mono ?_; rintro e w3 ⟨rfl, h1, h2, h3⟩; have HS2 := Aside0.mk h1; have HEQ2 := Aside0.mk h3; have HX2 := Aside0.mk (ok_box h2 HX1.out (by decide) hbg); have x2 := blk_cell HX2.out 2; simp at x2; clear h1 h2 h3))
   rotate_left)
  all_goals (
   clear x0 x1 x2 K HX0 HS0 HS1 HEQ0 HEQ1 HX1 hz1 hz2 hz3
   generalize hacc : _ ++ (⟨#[40]⟩ : ByteArray) = acc0 at HS2 HEQ2
   clear hacc
   generalize hX : wrP f = X at *
   generalize hR1 : kidsW 0 f.f5 ++ ⟨#[41]⟩ = R1 at *
   go_loopw [68] (fun i w' => ∃ (y : Int) (acc : ByteArray), i = .int .i64 y ∧ 0 ≤ y ∧ y ≤ f.f2.length ∧ Aside0 (WrSt w0 w b bs acc w') ∧ Aside0 (Lib.OthersKept 5 (some b) w3 w') ∧ Aside0 (acc ++ (argsW y (f.f2.drop y.toNat) ++ R1) = X)) (fun i _ => f.f2.length - (intOf i).toNat)
   case atStart => exact ⟨0, _, rfl, Int.le_refl _, Int.natCast_nonneg _, HS2, ⟨Lib.OthersKept.refl _ _ _⟩, HEQ2⟩
   case round =>
    obtain ⟨y, acc, rfl, hy, hyk, HSL, HOL, HQL⟩ := hrel
    clear HS2 HEQ2
    by_cases hyl : y < f.f2.length
    ·obtain ⟨ad, e, x0, x1, x2⟩ := at_T59 FV.out.a y hy hyl
     cases e
     have hBq := HSL.out.sz HB.out
     replace x0 := (hBq.cell (World.block_lt_of_cell? w0 _ x0)).trans x0
     replace x1 := (hBq.cell (World.block_lt_of_cell? w0 _ x1)).trans x1
     replace x2 := (hBq.cell (World.block_lt_of_cell? w0 _ x2)).trans x2
     have p1 := eq_true hy
     have q1 := eq_true hyl
     have hdr : f.f2.drop y.toNat = rd_T59 f.f2 y :: f.f2.drop (y + 1).toNat := drop_get z59 f.f2 y hy hyl
     have hrr := HR.out (rd_T59 f.f2 y) (mem_get z59 f.f2 y hy hyl)
     generalize rd_T59 f.f2 y = r at *
     have HQ0 : Aside0 (acc ++ (sepB y ++ (refB r ++ (argsW (y + 1) (f.f2.drop (y + 1).toNat) ++ R1))) = X) := ⟨by have h := HQL.out; rw [hdr, argsW, bassoc, bassoc] at h; exact h⟩
     clear HQL hdr
     have HS := Aside0.mk (HSL.out.step hBq.size (below_alloc (Below.refl _ _) (.cells #[.int .i64 r.f0, .int .i64 r.f1, .string r.f2] 59)))
     have HXA := Aside0.mk (blk_new wr (.cells #[.int .i64 r.f0, .int .i64 r.f1, .string r.f2] 59))
     have HO := Aside0.mk (ok_below HOL.out (below_alloc (Below.refl _ _) (.cells #[.int .i64 r.f0, .int .i64 r.f1, .string r.f2] 59)))
     have hgb : wr.heap.size ≠ b := by have := isB_lt HSL.out.ib; omega
     have z0 := blk_cell HXA.out 0
     have z1 := blk_cell HXA.out 1
     have z2 := blk_cell HXA.out 2
     simp at z0 z1 z2
     generalize hR2 : argsW (y + 1) (f.f2.drop (y + 1).toNat) ++ R1 = R2 at *
     replace hR2 := Aside0.mk hR2
     have HI := Aside0.mk (fun (W : World) (hW : Below w0.heap.size w0 W) => itoa_calls T r.f1 W hrr.1 hrr.2 (HT.out.below hW))
     clear HSL HOL hBq hrr
     have hs := sep_cases y
     have hk := ref_cases r
     rcases hk with ⟨b1, hk⟩ | ⟨b1, b3, hk⟩ | ⟨b1, b3, b4, hk⟩ | ⟨b1, b3, b4, hk⟩
     all_goals (
      rw [hk] at HQ0
      clear hk
      try have hz : (9223372036854775807 < 1 + (itoaB r.f1).size) = False := eq_false (by have h := piece_len (acc := acc ++ sepB y) (by rw [bassoc]; exact HQ0.out) HLEN.out; simp only [ByteArray.size_append] at h; have : (⟨#[35]⟩ : ByteArray).size = 1 := rfl; have : (⟨#[64]⟩ : ByteArray).size = 1 := rfl; omega)
      rcases hs with ⟨py, hs⟩ | ⟨py, hs⟩
      all_goals (
       rw [hs] at HQ0
       clear hs
       try (have HQ := Aside0.mk (show acc ++ (_ ++ R2) = X from by have h := HQ0.out; rw [bnil] at h; exact h); clear HQ0)
       go_wp2_with (first | (go_at_call 122; refine (wr_str HB.out HLEN.out HS.out HQ0.out).mono ?_; rintro e w5 ⟨rfl, h1, h2, h3⟩; have HS := Aside0.mk h1; have HQ := Aside0.mk h3; have HO := Aside0.mk (HO.out.trans h2); have HXB := Aside0.mk (ok_box h2 HXA.out (by decide) hgb); have k0 := blk_cell HXB.out 0; have k1 := blk_cell HXB.out 1; have k2 := blk_cell HXB.out 2; simp at k0 k1 k2; clear h1 h2 h3 HQ0) | (go_at_call 124; refine (HI.out _ (HS.out.sz HB.out)).mono ?_; rintro e w6 ⟨rfl, hD⟩; have HO := Aside0.mk (ok_below HO.out hD); have HS := Aside0.mk (HS.out.step (HS.out.sz HB.out).size hD); clear hD) | (go_at_call 122; refine (wr_str HB.out HLEN.out HS.out HQ.out).mono ?_; rintro e w7 ⟨rfl, h1, h2, h3⟩; have HS := Aside0.mk h1; have HQ := Aside0.mk h3; have HO := Aside0.mk (HO.out.trans h2); clear h1 h2 h3))
       go_roundw
       case rel => exact ⟨y + 1, _, rfl, by omega, by omega, HS, HO, ⟨by rw [hR2.out]; exact HQ.out⟩⟩
       case measure => simp [intOf]; omega))
    ·have HQ5 : Aside0 (acc ++ R1 = X) := ⟨by have h := HQL.out; rw [List.drop_eq_nil_of_le (by omega), argsW, bnil] at h; exact h⟩
     have HX5 := Aside0.mk (ok_box HOL.out HX2.out (by decide) hbg)
     have x5 := blk_cell HX5.out 5
     simp at x5
     clear HQL HX2 HOL
     go_wp2
     clear x5 HX5
     generalize wr = w9 at *
     generalize acc = acc9 at *
     subst hR1
     go_loopw [110] (fun i w' => ∃ (y : Int) (acc : ByteArray), i = .int .i64 y ∧ 0 ≤ y ∧ y ≤ f.f5.length ∧ Aside0 (WrSt w0 w b bs acc w') ∧ Aside0 (acc ++ (kidsW y (f.f5.drop y.toNat) ++ ⟨#[41]⟩) = X)) (fun i _ => f.f5.length - (intOf i).toNat)
     case atStart => exact ⟨0, _, rfl, Int.le_refl _, Int.natCast_nonneg _, HSL, HQ5⟩
     case round =>
      clear HSL HQ5
      obtain ⟨y, acc, rfl, hy, hyk, HSL, HQL⟩ := hrel
      by_cases hyl : y < f.f5.length
      ·obtain ⟨ad, B2, d2, B5, d5, e, x0, x1, x2, x3, x4, x5, l2, g2, l5, g5⟩ := at_T37 FV.out.k y hy hyl
       cases e
       have hBq := HSL.out.sz HB.out
       replace x0 := (hBq.cell (World.block_lt_of_cell? w0 _ x0)).trans x0
       replace x1 := (hBq.cell (World.block_lt_of_cell? w0 _ x1)).trans x1
       replace x2 := (hBq.cell (World.block_lt_of_cell? w0 _ x2)).trans x2
       replace x3 := (hBq.cell (World.block_lt_of_cell? w0 _ x3)).trans x3
       replace x4 := (hBq.cell (World.block_lt_of_cell? w0 _ x4)).trans x4
       replace x5 := (hBq.cell (World.block_lt_of_cell? w0 _ x5)).trans x5
       have p1 := eq_true hy
       have q1 := eq_true hyl
       have hdr : f.f5.drop y.toNat = rd_T37 f.f5 y :: f.f5.drop (y + 1).toNat := drop_get z37 f.f5 y hy hyl
       have hmm : rd_T37 f.f5 y ∈ f.f5 := mem_get z37 f.f5 y hy hyl
       generalize rd_T37 f.f5 y = kid at *
       have FK : Aside0 (FmC w0 kid B2 d2 B5 d5) := ⟨⟨l2, g2, l5, g5⟩⟩
       have HQ0 : Aside0 (acc ++ (sepB y ++ (wrP kid ++ (kidsW (y + 1) (f.f5.drop (y + 1).toNat) ++ ⟨#[41]⟩))) = X) := ⟨by have h := HQL.out; rw [hdr, kidsW, bassoc, bassoc] at h; exact h⟩
       clear HQL hdr l2 g2 l5 g5
       have HS := Aside0.mk (HSL.out.step hBq.size (below_alloc (Below.refl _ _) (.cells #[.int .i64 kid.f0, .string kid.f1, .slice B2 kid.f2.length d2, .int .i64 kid.f3, .int .i64 kid.f4, .slice B5 kid.f5.length d5] 37)))
       have HXA := Aside0.mk (blk_new wr (.cells #[.int .i64 kid.f0, .string kid.f1, .slice B2 kid.f2.length d2, .int .i64 kid.f3, .int .i64 kid.f4, .slice B5 kid.f5.length d5] 37))
       have hgb : wr.heap.size ≠ b := by have := isB_lt HSL.out.ib; omega
       have z0 := blk_cell HXA.out 0
       have z1 := blk_cell HXA.out 1
       have z2 := blk_cell HXA.out 2
       have z3 := blk_cell HXA.out 3
       have z4 := blk_cell HXA.out 4
       have z5 := blk_cell HXA.out 5
       simp at z0 z1 z2 z3 z4 z5
       generalize hR2 : kidsW (y + 1) (f.f5.drop (y + 1).toNat) ++ ⟨#[41]⟩ = R2 at *
       replace hR2 := Aside0.mk hR2
       have HI := Aside0.mk (fun (W : World) (ac : ByteArray) (hS : WrSt w0 w b bs ac W) (hq : ac ++ (wrP kid ++ R2) = X) => IH.out kid W (bs ++ Lib.strCells ac) B2 d2 B5 d5 hmm FK.out (hS.sz HB.out) hS.ib (by have h := piece_len hq HLEN.out; simp [Lib.strCells_length]; have h2 := HLEN.out; rw [← hq, ByteArray.size_append, ByteArray.size_append] at h2; omega))
       clear HSL hBq FK hmm
       have hs := sep_cases y
       rcases hs with ⟨py, hs⟩ | ⟨py, hs⟩
       all_goals (
        rw [hs] at HQ0
        clear hs
        try (have HQ := Aside0.mk (show acc ++ (wrP kid ++ R2) = X from by have h := HQ0.out; rw [bnil] at h; exact h); clear HQ0)
        go_wp2_with (first | (go_at_call 122; refine (wr_str HB.out HLEN.out HS.out HQ0.out).mono ?_; rintro e w5 ⟨rfl, h1, h2, h3⟩; have HS := Aside0.mk h1; have HQ := Aside0.mk h3; have HXB := Aside0.mk (ok_box h2 HXA.out (by decide) hgb); have k0 := blk_cell HXB.out 0; have k1 := blk_cell HXB.out 1; have k2 := blk_cell HXB.out 2; have k3 := blk_cell HXB.out 3; have k4 := blk_cell HXB.out 4; have k5 := blk_cell HXB.out 5; simp at k0 k1 k2 k3 k4 k5; clear h1 h2 h3 HQ0) | (go_at_call 75; refine (HI.out _ _ HS.out HQ.out).mono ?_; rintro e w6 ⟨rfl, h1⟩; have HS := Aside0.mk (wr_kid HS.out h1); clear h1))
        go_roundw
        case rel => exact ⟨y + 1, _, rfl, by omega, by omega, HS, ⟨by rw [hR2.out, bassoc]; exact HQ.out⟩⟩
        case measure => simp [intOf]; omega)
      ·have HQ6 : Aside0 (acc ++ ((⟨#[41]⟩ : ByteArray) ++ ⟨#[]⟩) = X) := ⟨by have h := HQL.out; rw [List.drop_eq_nil_of_le (by omega), kidsW, bnil] at h; rw [← h]; congr 1⟩
       clear HQL
       go_wp2_with (go_at_call 125; refine (wr_byte 41 HB.out HLEN.out HSL.out HQ6.out).mono ?_; rintro e w8 ⟨rfl, h1, h2, h3⟩; have HSZ := Aside0.mk h1; have HQ7 := Aside0.mk h3; clear h1 h2 h3)
       go_end0
       refine ⟨rfl, ?_⟩
       have he := HQ7.out
       rw [show (acc ++ ⟨#[41]⟩ ++ ⟨#[]⟩) = acc ++ (⟨#[41]⟩ : ByteArray) by apply ByteArray.ext; simp [ByteArray.data_append]] at he
       rw [hX, ← he]
       exact HSZ.out)
mutual
/-- Formulas that write is asked for: no During, no index below zero. -/
def wrOk : S37 → Bool
 | ⟨op, nm, ar, _, _, ks⟩ => !(op == 10) && decide (nm.size ≤ 2000000) && decide (ar.length ≤ 2000000) && decide (ks.length ≤ 2000000) && ar.all (fun r => decide (0 ≤ r.f1 ∧ r.f1 ≤ 9223372036854775807)) && wrOkL ks
def wrOkL : List S37 → Bool
 | [] => true
 | k :: r => wrOk k && wrOkL r
end
theorem wrOk_parts (f : S37) (h : wrOk f = true) : f.f0 ≠ 10 ∧ f.f1.size ≤ 2000000 ∧ f.f2.length ≤ 2000000 ∧ f.f5.length ≤ 2000000 ∧ (∀ r ∈ f.f2, 0 ≤ r.f1 ∧ r.f1 ≤ 9223372036854775807) ∧ wrOkL f.f5 = true := by
 cases f
 simp only [wrOk, Bool.and_eq_true, Bool.not_eq_true', beq_eq_false_iff_ne, decide_eq_true_eq] at h
 exact ⟨h.1.1.1.1.1, h.1.1.1.1.2, h.1.1.1.2, h.1.1.2, fun r hr => of_decide_eq_true (List.all_eq_true.1 h.1.2 r hr), h.2⟩
theorem wrOkL_mem : ∀ {l : List S37}, wrOkL l = true → ∀ {x}, x ∈ l → wrOk x = true
 | t :: r, h, x, hx => by
  rw [wrOkL, Bool.and_eq_true] at h
  rcases List.mem_cons.1 hx with rfl | hx
  ·exact h.1
  ·exact wrOkL_mem h.2 hx
theorem sizeOf_mem {l : List S37} {x : S37} (h : x ∈ l) : SizeOf.sizeOf x < SizeOf.sizeOf l := List.sizeOf_lt_of_mem h
theorem write_aux (T : Lib.PrintTabs) (w0 : World) (b : Nat) (hT : Tabs T w0) : ∀ (n : Nat) (f : S37), SizeOf.sizeOf f ≤ n → wrOk f = true → ∀ (w : World) (bs : List Value) (A2 : Option Addr) (c2 : Nat) (A5 : Option Addr) (c5 : Nat), FmC w0 f A2 c2 A5 c5 → Below w0.heap.size w0 w → Lib.IsBuilder 111 5 w0.heap.size b bs w → bs.length + (wrP f).size ≤ 1099511627776 →
  Calls Tryz.prog 75 #[.pointer (some ⟨b, 0, none⟩), .agg #[.int .i64 f.f0, .string f.f1, .slice A2 f.f2.length c2, .int .i64 f.f3, .int .i64 f.f4, .slice A5 f.f5.length c5]] w (WrRet w0 b bs f w)
 | 0, f, hn, _ => absurd hn (by cases f; simp)
 | n + 1, f, hn, hok => fun w bs A2 c2 A5 c5 fv hB hb hlen => by
  obtain ⟨h1, h0, h2, h3, h4, h5⟩ := wrOk_parts f hok
  exact write_step T f w0 w b bs A2 c2 A5 c5 fv hT hB hb hlen h1 h0 h2 h3 h4 (fun x W cs B2 d2 B5 d5 hx hv hW hi hl => write_aux T w0 b hT n x (by
   have := sizeOf_mem hx
   have : SizeOf.sizeOf f.f5 < SizeOf.sizeOf f := by cases f; simp; omega
   omega) (wrOkL_mem h5 hx) W cs B2 d2 B5 d5 hv hW hi hl)
theorem ib_nil {B b : Nat} {s : ByteArray} {w : World} (h : Lib.IsBuilder 111 5 B b ([] ++ Lib.strCells s) w) : Lib.IsBuilder 111 5 B b (Lib.byteCells s.data.toList) w := by
 rwa [List.nil_append, Lib.strCells_eq] at h
set_option maxHeartbeats 2000000 in
set_option maxRecDepth 100000 in
/-- formula.Text. -/
theorem text_calls (T : Lib.PrintTabs) (f : S37) (w : World) (A2 : Option Addr) (c2 : Nat) (A5 : Option Addr) (c5 : Nat) (fv : FmC w f A2 c2 A5 c5) (hT : Tabs T w) (hok : wrOk f = true) (hlen : (wrP f).size ≤ 1099511627776) :
  Calls Tryz.prog 39 #[.agg #[.int .i64 f.f0, .string f.f1, .slice A2 f.f2.length c2, .int .i64 f.f3, .int .i64 f.f4, .slice A5 f.f5.length c5]] w fun e w' => e = .returned (.string (wrP f)) ∧ Below w.heap.size w w' := by
 have HB0 := Aside0.mk (below_alloc (Below.refl w.heap.size w) (.cells #[.int .i64 f.f0, .string f.f1, .slice A2 f.f2.length c2, .int .i64 f.f3, .int .i64 f.f4, .slice A5 f.f5.length c5] 37))
 have HB1 := Aside0.mk (below_alloc (Below.refl (w.alloc (.cells #[.int .i64 f.f0, .string f.f1, .slice A2 f.f2.length c2, .int .i64 f.f3, .int .i64 f.f4, .slice A5 f.f5.length c5] 37)).heap.size (w.alloc (.cells #[.int .i64 f.f0, .string f.f1, .slice A2 f.f2.length c2, .int .i64 f.f3, .int .i64 f.f4, .slice A5 f.f5.length c5] 37))) (.cells #[.pointer none, .slice none 0 0] 111))
 have HX := Aside0.mk (blk_alloc (blk_new w (.cells #[.int .i64 f.f0, .string f.f1, .slice A2 f.f2.length c2, .int .i64 f.f3, .int .i64 f.f4, .slice A5 f.f5.length c5] 37)) (.cells #[.pointer none, .slice none 0 0] 111))
 have C := Aside0.mk (write_aux T (w.alloc (.cells #[.int .i64 f.f0, .string f.f1, .slice A2 f.f2.length c2, .int .i64 f.f3, .int .i64 f.f4, .slice A5 f.f5.length c5] 37)) (w.alloc (.cells #[.int .i64 f.f0, .string f.f1, .slice A2 f.f2.length c2, .int .i64 f.f3, .int .i64 f.f4, .slice A5 f.f5.length c5] 37)).heap.size (hT.below HB0.out) (SizeOf.sizeOf f) f (Nat.le_refl _) hok ((w.alloc (.cells #[.int .i64 f.f0, .string f.f1, .slice A2 f.f2.length c2, .int .i64 f.f3, .int .i64 f.f4, .slice A5 f.f5.length c5] 37)).alloc (.cells #[.pointer none, .slice none 0 0] 111)) [] A2 c2 A5 c5 (fv.below HB0.out) HB1.out (Lib.fresh_isBuilder 111 5 (w.alloc (.cells #[.int .i64 f.f0, .string f.f1, .slice A2 f.f2.length c2, .int .i64 f.f3, .int .i64 f.f4, .slice A5 f.f5.length c5] 37))) (by simpa using hlen))
 have HE1 := Aside0.mk (show (w.alloc (.cells #[.int .i64 f.f0, .string f.f1, .slice A2 f.f2.length c2, .int .i64 f.f3, .int .i64 f.f4, .slice A5 f.f5.length c5] 37)).heap.size = w.heap.size + 1 by simp)
 rw [HE1.out] at C HB1
 clear fv hT hok
 have x0 := blk_cell HX.out 0
 have x1 := blk_cell HX.out 1
 have x2 := blk_cell HX.out 2
 have x3 := blk_cell HX.out 3
 have x4 := blk_cell HX.out 4
 have x5 := blk_cell HX.out 5
 simp at x0 x1 x2 x3 x4 x5
 go_enter Tryz.func39, Tryz.ntmps39
 go_wp2_with (first | (go_at_call 75; go_loud (refine C.out.mono ?_); rintro e w3 ⟨rfl, hS⟩; have hib := ib_nil hS.ib; have hsb := hS.below; rw [HE1.out] at hib hsb; have HIB := Aside0.mk hib; have HSB := Aside0.mk hsb; clear hS hib hsb) | (go_at_call 76; go_loud (refine (Tryz.Builder_String_any (w.heap.size + 1) (w.heap.size + 1) (wrP f).data.toList w3 HIB.out (by have h1 := HSB.out.size; have h2 := HB1.out.size; rw [HE1.out] at h2; omega)).mono ?_); rintro e w4 ⟨rfl, hB⟩; have HBZ := Aside0.mk hB; clear hB))
 go_ret
 refine ⟨rfl, (HB0.out.trans ((HB1.out.trans (HSB.out.trans HBZ.out)).mono (by simp)))⟩
def IsT (w : World) (t : S30) (v : Value) : Prop := ∃ A1 c1 A2 c2, v = .agg #[.string t.f0, .slice A1 t.f1.length c1, .slice A2 t.f2.length c2] ∧ TreeV w t A1 c1 A2 c2
def IsL (w : World) (l : List S30) (v : Value) : Prop := ∃ A c, v = .slice A l.length c ∧ l.length ≤ c ∧ k30.C w A l.length l
theorem IsT.below {w w' : World} {t : S30} {v : Value} (h : IsT w t v) (hB : Below w.heap.size w w') : IsT w' t v := by
 obtain ⟨A1, c1, A2, c2, e, h⟩ := h
 exact ⟨A1, c1, A2, c2, e, h.below hB⟩
theorem IsL.below {w w' : World} {l : List S30} {v : Value} (h : IsL w l v) (hB : Below w.heap.size w w') : IsL w' l v := by
 obtain ⟨A, c, e, h1, h2⟩ := h
 exact ⟨A, c, e, h1, Kd.C_below h2 hB⟩
theorem IsL.nil (w : World) : IsL w [] (.slice none 0 0) := ⟨none, 0, rfl, Nat.le_refl _, Kd.C_nil _ _⟩
theorem TreeV.kcells {w : World} {t : S30} {A1 : Option Addr} {c1 : Nat} {A2 : Option Addr} {c2 : Nat} (h : TreeV w t A1 c1 A2 c2) : k30.K w t [.string t.f0, .slice A1 t.f1.length c1, .slice A2 t.f2.length c2] := k30_mk w t h.l1 h.v h.l2 h.k
theorem isL_blk {W : World} {g : Nat} (l : List S30) (cs : List Value) (hg : W.heap[g]? = some (.cells cs.toArray 30)) (hR : Reps (fun x c => k30.K W x c) 3 l cs) (hn : l.length ≤ 1000) : IsL W l (.slice (some ⟨g, 0, none⟩) l.length l.length) := by
 obtain ⟨A, c, he, hC⟩ := own_reads_row (block_own (size := 3) (n := l.length) hg (by rw [hR.1]) (by omega)) hR rfl
 injection he with he1 he2 he3
 subst he1
 exact ⟨_, _, rfl, Nat.le_refl _, hC⟩
theorem reps1 {W : World} {t : S30} {cs : List Value} (h : k30.K W t cs) : Reps (fun x c => k30.K W x c) 3 [t] cs := by
 have hl : cs.length = 3 := by
  obtain ⟨A1, c1, A2, c2, rfl, _⟩ := k30_open h
  rfl
 have h := (Reps.none (fun (x : S30) c => k30.K W x c) 3).snoc h hl
 simpa using h
theorem isL1 {w : World} {t : S30} {A1 : Option Addr} {c1 : Nat} {A2 : Option Addr} {c2 : Nat} (h : TreeV w t A1 c1 A2 c2) : IsL (w.alloc (.cells #[.string t.f0, .slice A1 t.f1.length c1, .slice A2 t.f2.length c2] 30)) [t] (.slice (some ⟨w.heap.size, 0, none⟩) 1 1) :=
 isL_blk [t] [.string t.f0, .slice A1 t.f1.length c1, .slice A2 t.f2.length c2] (heap_alloc_new w _) (reps1 (h.below (below_alloc (Below.refl _ _) _)).kcells) (by simp)
theorem isL2 {w : World} {t u : S30} {A1 : Option Addr} {c1 : Nat} {A2 : Option Addr} {c2 : Nat} {B1 : Option Addr} {d1 : Nat} {B2 : Option Addr} {d2 : Nat} (h : TreeV w t A1 c1 A2 c2) (k : TreeV w u B1 d1 B2 d2) :
  IsL (w.alloc (.cells #[.string t.f0, .slice A1 t.f1.length c1, .slice A2 t.f2.length c2, .string u.f0, .slice B1 u.f1.length d1, .slice B2 u.f2.length d2] 30)) [t, u] (.slice (some ⟨w.heap.size, 0, none⟩) 2 2) :=
 isL_blk [t, u] [.string t.f0, .slice A1 t.f1.length c1, .slice A2 t.f2.length c2, .string u.f0, .slice B1 u.f1.length d1, .slice B2 u.f2.length d2] (heap_alloc_new w _) (Kd.reps_append (reps1 (h.below (below_alloc (Below.refl _ _) _)).kcells) (reps1 (k.below (below_alloc (Below.refl _ _) _)).kcells)) (by simp)
theorem isI1 (w : World) (n : Int) : (Kd.int .i64).C (w.alloc (.cells #[.int .i64 n] 3)) (some ⟨w.heap.size, 0, none⟩) 1 [n] := by
 obtain ⟨A, c, he, hC⟩ := own_reads_row (R := fun (x : Int) (cs : List Value) => cs = [.int .i64 x]) (block_own (w := w.alloc (.cells #[.int .i64 n] 3)) (cs := [.int .i64 n]) (size := 1) (n := 1) (heap_alloc_new w _) (by simp) (by omega)) (Kd.reps_scalar (enc := Value.int .i64) [n]) rfl
 injection he with he1 he2 he3
 subst he1
 exact hC
set_option maxHeartbeats 2000000 in
set_option maxRecDepth 100000 in
/-- tree (32): a tree without values. -/
theorem tree_callsT (nm : ByteArray) (l : List S30) (v : Value) (w : World) (h : IsL w l v) : Calls Tryz.prog 32 #[.string nm, v] w fun e w' => ∃ u, e = .returned u ∧ IsT w' ⟨nm, [], l⟩ u ∧ Below w.heap.size w w' := by
 obtain ⟨A, c, rfl, hl, hC⟩ := h
 have HC := Aside0.mk hC
 clear hC
 go_enter Tryz.func32, Tryz.ntmps32
 go_wp2
 refine bodyPost_ret (results_single rfl (.cell w.heap.size 30 _ (0, 0) _ rfl (blk_new w (.cells #[.string nm, .slice none 0 0, .slice A l.length c] 30)) Tryz.underlying30 rfl (by kernel_rfl) .nil)) rfl ?_
 have hB := below_alloc (Below.refl w.heap.size w) (.cells #[.string nm, .slice none 0 0, .slice A l.length c] 30)
 exact ⟨_, rfl, ⟨none, 0, A, c, rfl, Nat.le_refl _, Kd.C_nil _ _, hl, Kd.C_below HC.out hB⟩, hB⟩
end Go.Proofs.YtcfjomnihhdpaaaGreatDoor.A
