/-
  A part of the proof: R100, Q28, Q29, Q30, Q31, Tie.
-/
import Derived.Test.YtcfjomnihhdpaaaGreatDoorRows
import Derived.Deep.Slices
import Derived.ChangeArms
import Derived.PinnedBridge
import Derived.Lib.LaidU8
import Derived.Lib.LaidPrint
import Derived.Lib.LaidTab
import Derived.Stop.LaidErr
import Derived.Lay
import Derived.WalkKit
import Derived.ProofKit
import Derived.OpenShut
import Derived.ShutString
import Derived.ChangeOld
import Derived.Below
import Derived.SizedLaws
import Derived.LaidLaws
import Derived.MakeChecks
import Derived.Deep.DeepHandedRow
import Derived.LaidByTextLater
import Derived.SevenTiedAt
import Derived.LaidSub
import Derived.LaidOnce
import Derived.Test.YtcfjomnihhdpaaaGreatDoorSb15
import Derived.Test.YtcfjomnihhdpaaaGreatDoorSb17
namespace Go.Proofs.YtcfjomnihhdpaaaGreatDoor.A
open Go.RowKit Go.Proofs.YtcfjomnihhdpaaaGreatDoorW.PrintWords Go.Proofs.YtcfjomnihhdpaaaGreatDoorW.PrintLast Go.Proofs.YtcfjomnihhdpaaaGreatDoorW.PrintMore
set_option linter.unusedVariables false
set_option linter.unusedSimpArgs false
set_option maxHeartbeats 4000000 in
set_option maxRecDepth 100000 in
/-- awake: the examples hold. -/
theorem awake_calls (T : Lib.PrintTabs) (w : World) (hT : Tabs T w) : Calls Tryz.prog 13 #[] w fun e w' => e = .returned (.bool true) ∧ Below w.heap.size w w' := by
 refine calls_of_wp Tryz.func13 body13 ?_
 have e0 : ({ tmps := #[] ++ Array.replicate (Tryz.f13.ntmps - 0) undef, defers := [] } : Act) = fr13 (fun _ => undef) := by kernel_rfl
 show Code.wp _ _ _ ({ tmps := #[] ++ Array.replicate (Tryz.f13.ntmps - 0) undef, defers := [] } : Act) w
 rw [e0]
 refine wp_seq (wp_onN _ (reg13_0 _ w) ?_)
 rintro a w0 ⟨rfl, rfl⟩
 refine wp_seq (wp_onN _ (reg13_1 _ w0) ?_)
 rintro a w1 ⟨f1, g1, s, rfl, a1, S1, hs, B1⟩
 refine wp_seq (wp_onN _ (reg13_2 f1 w1) ?_)
 rintro a w2 ⟨f2, g2, rfl, b1, b2, M2, B2⟩
 refine wp_seq (wp_onN _ (reg13_3 f2 w2) ?_)
 rintro a w3 ⟨f3, g3, rfl, c1, c2, c3, M3, B3⟩
 have T3 := hT.below (below_step (below_step B1 B2) B3)
 have S3 := (S1.below B2).below B3
 have q1 : f3 1 = _ := c1.trans (b1.trans a1)
 have q2 : f3 2 = _ := c2.trans b2
 refine wp_seq (wp_onN _ (reg13_4 T s f3 w3 g1 g3 q1 c3 S3 M3 T3) ?_)
 rintro a w4 ⟨f4, rfl, d1, d2, d4, d5, B4⟩
 refine wp_seq (wp_onN _ (reg13_5 T s f4 w4 g1 g2 (d1.trans q1) (d2.trans q2) (S3.below B4) ((M2.below B3).below B4) (T3.below B4)) ?_)
 rintro a w5 ⟨f5, rfl, i1, i2, i4, i5, i6, i7, B5⟩
 have B45 := below_step B4 B5
 refine wp_seq (wp_onN _ (reg13_6 T s f5 w5 g1 g2 (i1.trans (d1.trans q1)) (i2.trans (d2.trans q2)) (S3.below B45) ((M2.below B3).below B45) (T3.below B45)) ?_)
 rintro a w6 ⟨f6, rfl, j1, j2, j4, j5, j6, j7, j8, j9, B6⟩
 have B46 := below_step B45 B6
 refine wp_seq (wp_onN _ (reg13_7 T s f6 w6 g1 g2 (j1.trans (i1.trans (d1.trans q1))) (j2.trans (i2.trans (d2.trans q2))) (S3.below B46) ((M2.below B3).below B46) (T3.below B46)) ?_)
 rintro a w7 ⟨f7, rfl, k1, k2, k4, k5, k6, k7, k8, k9, k10, k11, B7⟩
 have B47 := below_step B46 B7
 refine wp_seq (wp_onN _ (reg13_8 T s f7 w7 g1 g2 (k1.trans (j1.trans (i1.trans (d1.trans q1)))) (k2.trans (j2.trans (i2.trans (d2.trans q2)))) (S3.below B47) ((M2.below B3).below B47) (T3.below B47)) ?_)
 rintro a w8 ⟨f8, rfl, l1, l2, l4, l5, l6, l7, l8, l9, l10, l11, l12, ⟨y, l13, hy⟩, l14, B8⟩
 obtain ⟨m1, e1, t1, o1⟩ := aw1 hs
 obtain ⟨m2, e2, t2, o2⟩ := aw2 hs
 obtain ⟨m3, e3, t3, o3⟩ := aw5 hs
 have e4 := aw3 hs
 have e5 := aw4 hs
 have e6 := aw6 hs
 rw [e1] at d4 d5
 rw [e2] at i6 i7
 rw [e4] at j9
 rw [e5] at k11
 rw [e3] at l12 l14 hy
 rw [e6] at hy
 obtain rfl := Option.some.inj (hy rfl)
 have B58 := below_step (below_step (below_step B5 B6) B7) B8
 have r4 : f8 4 = f4 4 := l4.trans (k4.trans (j4.trans i4))
 have r6 : f8 6 = f5 6 := l6.trans (k6.trans j6)
 exact reg13_end T f8 w0 w8 (below_step (below_step (below_step B1 B2) B3) (below_step B47 B8)) m1 m2 m3 (r4 ▸ d4.below B58) (r6 ▸ i6.below (below_step (below_step B6 B7) B8)) l12 t1 o1 t2 o2 t3 o3 (l5.trans (k5.trans (j5.trans (i5.trans d5)))) (l7.trans (k7.trans (j7.trans i7))) (l9.trans (k9.trans j9)) (l11.trans k11) l14 l13 (T3.below (below_step B47 B8))
section
attribute [local go_sem] Oper.semAt_some
def TupRet (s : S30) (b : Bool) (w : World) (e : Ending) (w' : World) : Prop := Below w.heap.size w w' ∧ ∃ A a9 B b9, e = .returned (.tuple #[.agg #[.string s.f0, .slice A s.f1.length a9, .slice B s.f2.length b9], .bool b]) ∧ TreeV w' s A a9 B b9
theorem TreeV.z30 (w : World) : TreeV w z30 none 0 none 0 := ⟨Nat.le_refl _, Kd.C_nil _ _, Nat.le_refl _, Kd.C_nil _ _⟩
theorem TupRet.of_subj {r : Option S30} {w w' : World} {e : Ending} (h : SubjRet w w r e w') : TupRet (r.getD z30) r.isSome w e w' := by
 obtain ⟨hb, h⟩ := h
 cases r with
 | none => exact ⟨hb, none, 0, none, 0, h, .z30 w'⟩
 | some s =>
  obtain ⟨B1, d1, B2, d2, e, hv⟩ := h
  exact ⟨hb, B1, d1, B2, d2, e, hv.below hb⟩
theorem TupRet.of_with {r : Option S30} {w w' : World} {e : Ending} (h : WithRet w w r e w') : TupRet (r.getD z30) r.isSome w e w' := by
 obtain ⟨hb, h⟩ := h
 cases r with
 | none => exact ⟨hb, none, 0, none, 0, h, .z30 w'⟩
 | some s =>
  obtain ⟨B1, d1, B2, d2, e, hv⟩ := h
  exact ⟨hb, B1, d1, B2, d2, e, hv.now⟩
theorem wp_guard {ops : Array Oper} {Q : Exit → Act → World → Prop} {i : Nat} {o : Oper} {J : Act → World → Prop} {a : Act} {w : World} (hi : ops[i]? = some o) (hw : Region.wanted o (yielded ops a.tmps) = true) (h : ∀ ops' : Array Oper, ops'[i]? = some { o with guard := none } → wpOp Tryz.prog ops' Q i J a w) : wpOp Tryz.prog ops Q i J a w := by
 have hlt := (Array.getElem?_eq_some_iff.1 hi).1
 have h1 := h (ops.setIfInBounds i { o with guard := none }) (by rw [Array.getElem?_setIfInBounds_self_of_lt hlt])
 unfold wpOp at h1 ⊢
 rw [Array.getElem?_setIfInBounds_self_of_lt hlt] at h1
 rw [hi]
 simp only [wanted_none, if_true] at h1
 simp only [hw, if_true]
 exact h1
section
variable {ops : Array Oper} {Q : Exit → Act → World → Prop} {R : Act → World → Prop} {RP : World → Prop} {i : Nat} {o : Oper} {J : Act → World → Prop} {a : Act} {w : World}
theorem op_tup1 {k : Tmp} {ts : Array TypeId} {f : FuncId} {v : Value} {s : S30} {b : Bool} (hi : ops[i]? = some o) (hg : o.guard = none) (hen : Enters Tryz.prog f) (ho : o.op = .call { callee := .value (.func f), args := #[.tmp k], argTypes := ts }) (ha : a.tmps[k]?.getD undef = v) (hc : Calls Tryz.prog f #[v] w (TupRet s b w)) (h : ∀ A a9 B b9 w', Below w.heap.size w w' → TreeV w' s A a9 B b9 → J (a.put o.dst (.tuple #[.agg #[.string s.f0, .slice A s.f1.length a9, .slice B s.f2.length b9], .bool b])) w') : wpOp Tryz.prog ops Q i J a w := by
 refine op_call hi (wanted_none hg) ?_ (hc.mono ?_)
 ·have he := hen #[v] w
  unfold execOp
  rw [ho]
  go_simp
 ·rintro e w' ⟨hb, A, a9, B, b9, rfl, hv⟩
  exact ⟨_, rfl, h A a9 B b9 w' hb hv⟩
theorem op_tup2 {k k2 : Tmp} {ts : Array TypeId} {f : FuncId} {v v2 : Value} {s : S30} {b : Bool} (hi : ops[i]? = some o) (hg : o.guard = none) (hen : Enters Tryz.prog f) (ho : o.op = .call { callee := .value (.func f), args := #[.tmp k, .tmp k2], argTypes := ts }) (ha : a.tmps[k]?.getD undef = v) (ha2 : a.tmps[k2]?.getD undef = v2) (hc : Calls Tryz.prog f #[v, v2] w (TupRet s b w)) (h : ∀ A a9 B b9 w', Below w.heap.size w w' → TreeV w' s A a9 B b9 → J (a.put o.dst (.tuple #[.agg #[.string s.f0, .slice A s.f1.length a9, .slice B s.f2.length b9], .bool b])) w') : wpOp Tryz.prog ops Q i J a w := by
 refine op_call hi (wanted_none hg) ?_ (hc.mono ?_)
 ·have he := hen #[v, v2] w
  unfold execOp
  rw [ho]
  go_simp
 ·rintro e w' ⟨hb, A, a9, B, b9, rfl, hv⟩
  exact ⟨_, rfl, h A a9 B b9 w' hb hv⟩
theorem op_boolC {f : FuncId} {xs : Array Operand} {vs : Array Value} {ts : Array TypeId} {P : Bool → Prop} (hi : ops[i]? = some o) (hg : o.guard = none) (hen : Enters Tryz.prog f) (ho : o.op = .call { callee := .value (.func f), args := xs, argTypes := ts }) (hx : xs.map a.eval = vs) (hc : Calls Tryz.prog f vs w fun e w' => ∃ b, e = .returned (.bool b) ∧ P b ∧ Below w.heap.size w w') (h : ∀ b w', P b → Below w.heap.size w w' → J (a.put o.dst (.bool b)) w') : wpOp Tryz.prog ops Q i J a w := by
 refine op_call hi (wanted_none hg) ?_ (hc.mono ?_)
 ·have he := hen vs w
  subst hx
  unfold execOp
  rw [ho]
  simp [go_sem, resolve, Deferred.ofValue, invoke, he]
 ·rintro e w' ⟨b, rfl, hp, hb⟩
  exact ⟨_, rfl, h b w' hp hb⟩
theorem op_pickT {k k2 : Tmp} {b c : Bool} (hi : ops[i]? = some o) (hg : o.guard = none) (ho : o.op = .pick (.tmp k) (.const (.bool true)) (.tmp k2)) (ha : a.tmps[k]?.getD undef = .bool b) (ha2 : b = false → a.tmps[k2]?.getD undef = .bool c) (h : J (a.put o.dst (.bool (b || c))) w) : wpOp Tryz.prog ops Q i J a w := by
 refine op_value hi (wanted_none hg) (w' := w) ?_ h
 unfold execOp
 rw [ho]
 cases b with
 | true => go_simp
 | false =>
  have ha3 := ha2 rfl
  go_simp
theorem op_pickF {k k2 : Tmp} {b : Bool} (hi : ops[i]? = some o) (hg : o.guard = none) (ho : o.op = .pick (.tmp k) (.tmp k2) (.const (.bool false))) (ha : a.tmps[k]?.getD undef = .bool true) (ha2 : a.tmps[k2]?.getD undef = .bool b) (h : J (a.put o.dst (.bool b)) w) : wpOp Tryz.prog ops Q i J a w := by
 refine op_value hi (wanted_none hg) (w' := w) ?_ h
 unfold execOp
 rw [ho]
 go_simp
theorem op_eqB {k k2 : Tmp} {b : Bool} (hi : ops[i]? = some o) (hg : o.guard = none) (ho : o.op = .binOp .eql 4 (.tmp k) (.tmp k2) 4) (ha : a.tmps[k]?.getD undef = .bool b) (ha2 : a.tmps[k2]?.getD undef = .bool b) (h : J (a.put o.dst (.bool true)) w) : wpOp Tryz.prog ops Q i J a w := by
 refine op_value hi (wanted_none hg) (w' := w) ?_ h
 unfold execOp
 rw [ho]
 go_simp
end
theorem yes_ {w : World} {f : FuncId} {vs : Array Value} {c : Bool} (h : Calls Tryz.prog f vs w fun e w' => e = .returned (.bool c) ∧ Below w.heap.size w w') : Calls Tryz.prog f vs w fun e w' => ∃ b, e = .returned (.bool b) ∧ b = c ∧ Below w.heap.size w w' := h.mono fun e w' h => ⟨c, h.1, rfl, h.2⟩
theorem bodyPost_yes {F : Func} {a : Act} {w w' : World} {k : Nat} (hr : F.results = #[.tmp k]) (ha : a.tmps.getD k undef = .bool true) (hd : a.defers = []) (hB : Below w.heap.size w w') : bodyPost Tryz.prog F (fun e w' => e = .returned (.bool true) ∧ Below w.heap.size w w') .ret a w' := by
 refine bodyPost_ret (v := .bool true) ?_ hd ⟨rfl, hB⟩
 rw [← ha]
 exact results_tmp hr _ _ _
end
section
attribute [local go_sem] Oper.semAt_some
theorem subj_Sm : ∀ (n : Nat) (t s : S30), nodes t ≤ n → Sm t → subjP t = some s → Sm s
 | 0, t, _, hn, _, _ => absurd hn (by have := nodes_eq t; omega)
 | n + 1, t, s, hn, hs, h => by
  by_cases h0 : t.f2.length = 0
  ·rw [subjP_none h0] at h; cases h
  ·have hk := hs.kid (i := 0) (by omega)
   rw [subjP_some (by omega)] at h
   by_cases h1 : modalF t.f0 = true
   ·rw [if_pos h1] at h
    injection h with h
    exact h ▸ hk
   ·rw [if_neg h1] at h
    by_cases h2 : passF t.f0 = true
    ·rw [if_pos h2] at h
     exact subj_Sm n _ s (nodes_kid hn (by omega)) hk h
    ·rw [if_neg h2] at h; cases h
theorem sm_z30 : Sm z30 := (Sm.eq z30).2 ⟨Nat.zero_le _, Nat.zero_le _, Nat.zero_le _, trivial⟩
theorem sm_subj {t : S30} (h : Sm t) : Sm ((subjP t).getD z30) := by
 cases hq : subjP t with
 | none => exact sm_z30
 | some s => exact subj_Sm _ t s (Nat.le_refl _) h hq
theorem sm_with {t np : S30} (h : Sm t) (hn : Sm np) : Sm ((withP t np).getD z30) := by
 cases hq : withP t np with
 | none => exact sm_z30
 | some s => exact with_Sm hn _ t s (Nat.le_refl _) h hq
theorem wants_yes {ops : Array Oper} {o : Oper} {tmps : Array Value} {j : Nat} {want : Bool} (hg : o.guard = some (j, want)) (h : ((ops[j]?).bind (·.dst)).bind (tmps[·]?) = some (.bool want)) : Region.wanted o (yielded ops tmps) = true := (wanted_if hg h).trans (by cases want <;> rfl)
theorem wants_no {ops : Array Oper} {o : Oper} {tmps : Array Value} {j : Nat} {want : Bool} (hg : o.guard = some (j, want)) (h : ((ops[j]?).bind (·.dst)).bind (tmps[·]?) = some (.bool (!want))) : Region.wanted o (yielded ops tmps) = false := (wanted_if hg h).trans (by cases want <;> rfl)
set_option maxHeartbeats 1000000 in
set_option maxRecDepth 100000 in
theorem subject_walk (T : Lib.PrintTabs) (w : World) (hT : Tabs T w) (t np : S30) (A1 : Option Addr) (c1 : Nat) (A2 : Option Addr) (c2 : Nat) (N1 : Option Addr) (n1 : Nat) (N2 : Option Addr) (n2 : Nat) (vt : TreeV w t A1 c1 A2 c2) (vnp : TreeV w np N1 n1 N2 n2) (st : Sm t) (snp : Sm np) (nt : nodes t ≤ 2000000) (nnp : nodes np ≤ 2000000) :
  Calls Tryz.prog 4 #[.agg #[.string t.f0, .slice A1 t.f1.length c1, .slice A2 t.f2.length c2], .agg #[.string np.f0, .slice N1 np.f1.length n1, .slice N2 np.f2.length n2]] w fun e w' => e = .returned (.bool true) ∧ Below w.heap.size w w' := by
 refine calls_frN 68 (fun j => match j with | 0 => .agg #[.string t.f0, .slice A1 t.f1.length c1, .slice A2 t.f2.length c2] | 1 => .agg #[.string np.f0, .slice N1 np.f1.length n1, .slice N2 np.f2.length n2] | _ => undef) Tryz.func4 (show Tryz.f4.body = some _ from rfl) (by kernel_rfl) ?_
 refine wp_seq (wp_region_list (list_op (i := 0) rfl (op_box30 rfl rfl rfl rfl fun u0 xt h0 s0 => fop rfl (by decide) (list_op (i := 1) rfl (op_box30 rfl rfl rfl rfl fun u1 xnp h1 s1 => fop rfl (by decide) (list_op (i := 2) rfl (op_asgc rfl rfl rfl (fop rfl (by decide) ?_))))))))
 rw [s0] at xnp s1 ⊢
 replace xt := blk_below xt h1
 have hB := (below_step h0 h1)
 replace vt := vt.below hB
 replace vnp := vnp.below hB
 refine wp_seq (wp_seq (wp_region_list (list_op (i := 0) rfl (op_boolC (vs := #[]) (P := fun b => b = true) rfl rfl (enters_of Tryz.func13 (by kernel_rfl) rfl) rfl (by simp only [List.map_toArray, List.map_nil]) (yes_ (awake_calls T _ (hT.below hB))) fun b wA eb hA => fop rfl (by decide) (list_op (i := 1) rfl (op_notb rfl rfl rfl rfl (fop rfl (by decide) (wp_cond rfl ?_))))))))
 subst eb
 refine wp_skip ?_
 replace xt := blk_below xt hA
 replace xnp := blk_below xnp hA
 replace vt := vt.below hA
 replace vnp := vnp.below hA
 replace hB := below_step hB hA
 clear hA
 refine wp_seq (wp_seq (wp_region_list (list_op (i := 0) rfl (op_ldT (ad := ⟨w.heap.size, 0, none⟩) rfl rfl rfl rfl (blk_cell xt 0) (blk_cell xt 1) (blk_cell xt 2) (fop rfl (by decide) (list_op (i := 1) rfl (op_boolC rfl rfl (enters_of Tryz.func15 (by kernel_rfl) rfl) rfl (by simp only [List.map_toArray, List.map_cons, List.map_nil]; rfl) (large_calls t 60 (by decide) (by decide) nt wA _ _ _ _ vt) fun b wL hl hL => fop rfl (by decide) (list_op (i := 2) rfl (op_mv rfl rfl rfl rfl (fop rfl (by decide) ?_))))))))))
 replace xt := blk_below xt hL
 replace xnp := blk_below xnp hL
 replace vt := vt.below hL
 replace vnp := vnp.below hL
 replace hB := below_step hB hL
 clear hL
 have hl1 := hl
 clear hl
 cases b with
 | true =>
  refine (list_op (i := 3) rfl (op_skip rfl (wants_no rfl rfl) (fop rfl (by decide) (list_op (i := 4) rfl (op_skip rfl (wants_no rfl rfl) (fop rfl (by decide) (list_op (i := 5) rfl (op_pickT (b := true) (c := false) rfl rfl rfl rfl (fun h => by cases h) (fop rfl (by decide) (wp_cond (t := true) rfl ?_))))))))))
  refine wp_seq (wp_region_list (list_op (i := 0) rfl (op_asgc rfl rfl rfl (fop rfl (by decide) (wp_ret ?_)))))
  exact bodyPost_yes (show Tryz.f4.results = #[.tmp 4] from rfl) rfl rfl hB
 | false =>
  refine (list_op (i := 3) rfl (wp_guard rfl (wants_yes rfl rfl) fun o2 h2 => op_ldT (ad := ⟨w.heap.size + 1, 0, none⟩) h2 rfl rfl rfl (blk_cell xnp 0) (blk_cell xnp 1) (blk_cell xnp 2) (fop rfl (by decide) (list_op (i := 4) rfl (wp_guard rfl (wants_yes rfl rfl) fun o2 h2 => op_boolC h2 rfl (enters_of Tryz.func15 (by kernel_rfl) rfl) rfl (by simp only [List.map_toArray, List.map_cons, List.map_nil]; rfl) (large_calls np 60 (by decide) (by decide) nnp wL _ _ _ _ vnp) fun b wM hl hL => fop rfl (by decide) (list_op (i := 5) rfl (op_pickT (b := false) (c := b) rfl rfl rfl rfl (fun _ => rfl) (fop rfl (by decide) (wp_cond (t := b) rfl ?_)))))))))
  replace xt := blk_below xt hL
  replace xnp := blk_below xnp hL
  replace vt := vt.below hL
  replace vnp := vnp.below hL
  replace hB := below_step hB hL
  clear hL
  cases b with
  | true =>
   refine wp_seq (wp_region_list (list_op (i := 0) rfl (op_asgc rfl rfl rfl (fop rfl (by decide) (wp_ret ?_)))))
   exact bodyPost_yes (show Tryz.f4.results = #[.tmp 4] from rfl) rfl rfl hB
  | false =>
   refine wp_skip ?_
   have hnt := hl1 rfl
   clear hl hl1
   refine wp_seq (wp_region_list (list_op (i := 0) rfl (op_ldT (ad := ⟨w.heap.size, 0, none⟩) rfl rfl rfl rfl (blk_cell xt 0) (blk_cell xt 1) (blk_cell xt 2) (fop rfl (by decide) (list_op (i := 1) rfl (op_tup1 (s := ((subjP t).getD z30)) (b := (subjP t).isSome) rfl rfl (enters_of Tryz.func19 (by kernel_rfl) rfl) rfl rfl ((subj_calls (nodes t) t (Nat.le_refl _) wM wM _ _ _ _ (.refl _ _) vt).mono fun e w' h => TupRet.of_subj h) fun P1 p1 R1 r1 w1 hc1 t1 => fop rfl (by decide) (list_op (i := 2) rfl (op_mv rfl rfl rfl rfl (fop rfl (by decide) (list_op (i := 3) rfl (op_ext rfl rfl rfl rfl rfl (fop rfl (by decide) (list_op (i := 4) rfl (op_ext rfl rfl rfl rfl rfl (fop rfl (by decide) (list_op (i := 5) rfl (op_new30 rfl rfl rfl (fop rfl (by decide) (list_op (i := 6) rfl (op_st30 rfl rfl rfl rfl rfl rfl (blk_new w1 (.cells #[.string ⟨#[]⟩, .slice none 0 0, .slice none 0 0] 30)) fun V1 x1 hf1 hb1 => (list_op (i := 7) rfl (op_asg rfl rfl rfl rfl (fop rfl (by decide) ?_)))))))))))))))))))))))
   have hn1 := (below_alloc (Below.refl w1.heap.size w1) (.cells #[.string ⟨#[]⟩, .slice none 0 0, .slice none 0 0] 30)).trans (hb1 _ (Nat.le_refl _))
   have hq1 := below_step hc1 hn1
   replace t1 := t1.below hn1
   replace xt := blk_below xt hq1
   replace xnp := blk_below xnp hq1
   replace vt := vt.below hq1
   replace vnp := vnp.below hq1
   replace hB := below_step hB hq1
   refine wp_seq (wp_region_list (list_op (i := 0) rfl (op_ldT (ad := ⟨w.heap.size, 0, none⟩) rfl rfl rfl rfl (blk_cell xt 0) (blk_cell xt 1) (blk_cell xt 2) (fop rfl (by decide) (list_op (i := 1) rfl (op_tup1 (s := ((subjP t).getD z30)) (b := (subjP t).isSome) rfl rfl (enters_of Tryz.func20 (by kernel_rfl) rfl) rfl rfl ((rsubj_calls (nodes t) t (Nat.le_refl _) V1 V1 _ _ _ _ (.refl _ _) vt).mono fun e w' h => TupRet.of_subj h) fun P2 p2 R2 r2 w2 hc2 t2 => fop rfl (by decide) (list_op (i := 2) rfl (op_mv rfl rfl rfl rfl (fop rfl (by decide) (list_op (i := 3) rfl (op_ext rfl rfl rfl rfl rfl (fop rfl (by decide) (list_op (i := 4) rfl (op_ext rfl rfl rfl rfl rfl (fop rfl (by decide) (list_op (i := 5) rfl (op_new30 rfl rfl rfl (fop rfl (by decide) (list_op (i := 6) rfl (op_st30 rfl rfl rfl rfl rfl rfl (blk_new w2 (.cells #[.string ⟨#[]⟩, .slice none 0 0, .slice none 0 0] 30)) fun V2 x2 hf2 hb2 => (list_op (i := 7) rfl (op_asg rfl rfl rfl rfl (fop rfl (by decide) ?_)))))))))))))))))))))))
   have hn2 := (below_alloc (Below.refl w2.heap.size w2) (.cells #[.string ⟨#[]⟩, .slice none 0 0, .slice none 0 0] 30)).trans (hb2 _ (Nat.le_refl _))
   have hq2 := below_step hc2 hn2
   replace t2 := t2.below hn2
   replace xt := blk_below xt hq2
   replace xnp := blk_below xnp hq2
   replace vt := vt.below hq2
   replace vnp := vnp.below hq2
   replace x1 := blk_below x1 hq2
   replace t1 := t1.below hq2
   replace hB := below_step hB hq2
   refine wp_seq (wp_region_list (list_op (i := 0) rfl (op_ldT (ad := ⟨w.heap.size, 0, none⟩) rfl rfl rfl rfl (blk_cell xt 0) (blk_cell xt 1) (blk_cell xt 2) (fop rfl (by decide) (list_op (i := 1) rfl (op_ldT (ad := ⟨w.heap.size + 1, 0, none⟩) rfl rfl rfl rfl (blk_cell xnp 0) (blk_cell xnp 1) (blk_cell xnp 2) (fop rfl (by decide) (list_op (i := 2) rfl (op_tup2 (s := ((withP t np).getD z30)) (b := (withP t np).isSome) rfl rfl (enters_of Tryz.func21 (by kernel_rfl) rfl) rfl rfl rfl ((with_calls np (nodes t) t (Nat.le_refl _) st V2 V2 _ _ _ _ _ _ _ _ (.refl _ _) vt vnp).mono fun e w' h => TupRet.of_with h) fun P3 p3 R3 r3 w3 hc3 t3 => fop rfl (by decide) (list_op (i := 3) rfl (op_mv rfl rfl rfl rfl (fop rfl (by decide) (list_op (i := 4) rfl (op_ext rfl rfl rfl rfl rfl (fop rfl (by decide) (list_op (i := 5) rfl (op_ext rfl rfl rfl rfl rfl (fop rfl (by decide) (list_op (i := 6) rfl (op_new30 rfl rfl rfl (fop rfl (by decide) (list_op (i := 7) rfl (op_st30 rfl rfl rfl rfl rfl rfl (blk_new w3 (.cells #[.string ⟨#[]⟩, .slice none 0 0, .slice none 0 0] 30)) fun V3 x3 hf3 hb3 => (list_op (i := 8) rfl (op_asg rfl rfl rfl rfl (fop rfl (by decide) ?_))))))))))))))))))))))))))
   have hn3 := (below_alloc (Below.refl w3.heap.size w3) (.cells #[.string ⟨#[]⟩, .slice none 0 0, .slice none 0 0] 30)).trans (hb3 _ (Nat.le_refl _))
   have hq3 := below_step hc3 hn3
   replace t3 := t3.below hn3
   replace xt := blk_below xt hq3
   replace xnp := blk_below xnp hq3
   replace vt := vt.below hq3
   replace vnp := vnp.below hq3
   replace x1 := blk_below x1 hq3
   replace t1 := t1.below hq3
   replace x2 := blk_below x2 hq3
   replace t2 := t2.below hq3
   replace hB := below_step hB hq3
   refine wp_seq (wp_region_list (list_op (i := 0) rfl (op_ldT (ad := ⟨w.heap.size, 0, none⟩) rfl rfl rfl rfl (blk_cell xt 0) (blk_cell xt 1) (blk_cell xt 2) (fop rfl (by decide) (list_op (i := 1) rfl (op_ldT (ad := ⟨w.heap.size + 1, 0, none⟩) rfl rfl rfl rfl (blk_cell xnp 0) (blk_cell xnp 1) (blk_cell xnp 2) (fop rfl (by decide) (list_op (i := 2) rfl (op_tup2 (s := ((withP t np).getD z30)) (b := (withP t np).isSome) rfl rfl (enters_of Tryz.func22 (by kernel_rfl) rfl) rfl rfl rfl ((with22_calls np (nodes t) t (Nat.le_refl _) st V3 V3 _ _ _ _ _ _ _ _ (.refl _ _) vt vnp).mono fun e w' h => TupRet.of_with h) fun P4 p4 R4 r4 w4 hc4 t4 => fop rfl (by decide) (list_op (i := 3) rfl (op_mv rfl rfl rfl rfl (fop rfl (by decide) (list_op (i := 4) rfl (op_ext rfl rfl rfl rfl rfl (fop rfl (by decide) (list_op (i := 5) rfl (op_ext rfl rfl rfl rfl rfl (fop rfl (by decide) (list_op (i := 6) rfl (op_new30 rfl rfl rfl (fop rfl (by decide) (list_op (i := 7) rfl (op_st30 rfl rfl rfl rfl rfl rfl (blk_new w4 (.cells #[.string ⟨#[]⟩, .slice none 0 0, .slice none 0 0] 30)) fun V4 x4 hf4 hb4 => (list_op (i := 8) rfl (op_asg rfl rfl rfl rfl (fop rfl (by decide) ?_))))))))))))))))))))))))))
   have hn4 := (below_alloc (Below.refl w4.heap.size w4) (.cells #[.string ⟨#[]⟩, .slice none 0 0, .slice none 0 0] 30)).trans (hb4 _ (Nat.le_refl _))
   have hq4 := below_step hc4 hn4
   replace t4 := t4.below hn4
   replace xt := blk_below xt hq4
   replace xnp := blk_below xnp hq4
   replace vt := vt.below hq4
   replace vnp := vnp.below hq4
   replace x1 := blk_below x1 hq4
   replace t1 := t1.below hq4
   replace x2 := blk_below x2 hq4
   replace t2 := t2.below hq4
   replace x3 := blk_below x3 hq4
   replace t3 := t3.below hq4
   replace hB := below_step hB hq4
   have bw : ∀ {V}, Below V4.drew.heap.size V4.drew V → Below V4.heap.size V4 V := fun hB => below_step (below_drew (Below.refl _ _)) hB
   refine wp_seq (region_kn0 68 [.is (.bool (subjP t).isSome), .is (.bool (subjP t).isSome), .is (.bool true), .is (.bool true), .is (.agg #[.string ((subjP t).getD z30).f0, .slice P1 ((subjP t).getD z30).f1.length p1, .slice R1 ((subjP t).getD z30).f2.length r1]), .is (.agg #[.string ((subjP t).getD z30).f0, .slice P2 ((subjP t).getD z30).f1.length p2, .slice R2 ((subjP t).getD z30).f2.length r2]), .is (.bool true), .is (.bool true), .is (.bool true), .is (.bool (withP t np).isSome), .is (.bool (withP t np).isSome), .is (.bool true), .is (.bool true), .is (.bool true), .is (.agg #[.string ((withP t np).getD z30).f0, .slice P3 ((withP t np).getD z30).f1.length p3, .slice R3 ((withP t np).getD z30).f2.length r3]), .is (.agg #[.string ((withP t np).getD z30).f0, .slice P4 ((withP t np).getD z30).f1.length p4, .slice R4 ((withP t np).getD z30).f2.length r4]), .is (.bool true), .is (.bool true), .is (.bool true), .is (.agg #[.string t.f0, .slice A1 t.f1.length c1, .slice A2 t.f2.length c2]), .is (.bool (resP t)), .is (.agg #[.string t.f0, .slice A1 t.f1.length c1, .slice A2 t.f2.length c2]), .is (.bool (resP t)), .is (.bool true), .is (.bool true), .is (.bool true)] [43, 44, 45, 46, 47, 48, 49, 50, 51, 52, 53, 54, 55, 56, 57, 58, 59, 60, 61, 62, 63, 64, 65, 66, 67, 4] _ V4 (by kernel_rfl) (by kernel_rfl) ⟨
    fun q V J hB9 hq h hi => op_mv hi rfl rfl rfl (h _ _ rfl (.refl _ _)),
    fun q V J hB9 hq h hi => op_mv hi rfl rfl rfl (h _ _ rfl (.refl _ _)),
    fun q V J hB9 hq h hi => op_eqB hi rfl rfl (hq 0 rfl) (hq 1 rfl) (h _ _ rfl (.refl _ _)),
    fun q V J hB9 hq h hi => op_mv hi rfl rfl (hq 2 rfl) (h _ _ rfl (.refl _ _)),
    fun q V J hB9 hq h hi => wp_guard hi (wants_yes rfl (congrArg some (hq 3 rfl))) fun o2 h2 => op_ldT (ad := ⟨w1.heap.size, 0, none⟩) h2 rfl rfl rfl (blk_cell (blk_below x1 (bw hB9)) 0) (blk_cell (blk_below x1 (bw hB9)) 1) (blk_cell (blk_below x1 (bw hB9)) 2) (h _ _ rfl (.refl _ _)),
    fun q V J hB9 hq h hi => wp_guard hi (wants_yes rfl (congrArg some (hq 3 rfl))) fun o2 h2 => op_ldT (ad := ⟨w2.heap.size, 0, none⟩) h2 rfl rfl rfl (blk_cell (blk_below x2 (bw hB9)) 0) (blk_cell (blk_below x2 (bw hB9)) 1) (blk_cell (blk_below x2 (bw hB9)) 2) (h _ _ rfl (.refl _ _)),
    fun q V J hB9 hq h hi => wp_guard hi (wants_yes rfl (congrArg some (hq 3 rfl))) fun o2 h2 => op_same h2 rfl rfl (hq 4 rfl) (hq 5 rfl) (same_calls _ (sm_subj st) V _ _ _ _ _ _ _ _ (t1.below (bw hB9)) (t2.below (bw hB9))) (fun w' hb => h _ _ rfl hb),
    fun q V J hB9 hq h hi => op_pickF hi rfl rfl (hq 3 rfl) (hq 6 rfl) (h _ _ rfl (.refl _ _)),
    fun q V J hB9 hq h hi => op_mv hi rfl rfl (hq 7 rfl) (h _ _ rfl (.refl _ _)),
    fun q V J hB9 hq h hi => wp_guard hi (wants_yes rfl (congrArg some (hq 8 rfl))) fun o2 h2 => op_mv h2 rfl rfl rfl (h _ _ rfl (.refl _ _)),
    fun q V J hB9 hq h hi => wp_guard hi (wants_yes rfl (congrArg some (hq 8 rfl))) fun o2 h2 => op_mv h2 rfl rfl rfl (h _ _ rfl (.refl _ _)),
    fun q V J hB9 hq h hi => wp_guard hi (wants_yes rfl (congrArg some (hq 8 rfl))) fun o2 h2 => op_eqB h2 rfl rfl (hq 9 rfl) (hq 10 rfl) (h _ _ rfl (.refl _ _)),
    fun q V J hB9 hq h hi => op_pickF hi rfl rfl (hq 8 rfl) (hq 11 rfl) (h _ _ rfl (.refl _ _)),
    fun q V J hB9 hq h hi => op_mv hi rfl rfl (hq 12 rfl) (h _ _ rfl (.refl _ _)),
    fun q V J hB9 hq h hi => wp_guard hi (wants_yes rfl (congrArg some (hq 13 rfl))) fun o2 h2 => op_ldT (ad := ⟨w3.heap.size, 0, none⟩) h2 rfl rfl rfl (blk_cell (blk_below x3 (bw hB9)) 0) (blk_cell (blk_below x3 (bw hB9)) 1) (blk_cell (blk_below x3 (bw hB9)) 2) (h _ _ rfl (.refl _ _)),
    fun q V J hB9 hq h hi => wp_guard hi (wants_yes rfl (congrArg some (hq 13 rfl))) fun o2 h2 => op_ldT (ad := ⟨w4.heap.size, 0, none⟩) h2 rfl rfl rfl (blk_cell (blk_below x4 (bw hB9)) 0) (blk_cell (blk_below x4 (bw hB9)) 1) (blk_cell (blk_below x4 (bw hB9)) 2) (h _ _ rfl (.refl _ _)),
    fun q V J hB9 hq h hi => wp_guard hi (wants_yes rfl (congrArg some (hq 13 rfl))) fun o2 h2 => op_same h2 rfl rfl (hq 14 rfl) (hq 15 rfl) (same_calls _ (sm_with st snp) V _ _ _ _ _ _ _ _ (t3.below (bw hB9)) (t4.below (bw hB9))) (fun w' hb => h _ _ rfl hb),
    fun q V J hB9 hq h hi => op_pickF hi rfl rfl (hq 13 rfl) (hq 16 rfl) (h _ _ rfl (.refl _ _)),
    fun q V J hB9 hq h hi => op_mv hi rfl rfl (hq 17 rfl) (h _ _ rfl (.refl _ _)),
    fun q V J hB9 hq h hi => wp_guard hi (wants_yes rfl (congrArg some (hq 18 rfl))) fun o2 h2 => op_ldT (ad := ⟨w.heap.size, 0, none⟩) h2 rfl rfl rfl (blk_cell (blk_below xt (bw hB9)) 0) (blk_cell (blk_below xt (bw hB9)) 1) (blk_cell (blk_below xt (bw hB9)) 2) (h _ _ rfl (.refl _ _)),
    fun q V J hB9 hq h hi => wp_guard hi (wants_yes rfl (congrArg some (hq 18 rfl))) fun o2 h2 => op_boolC (vs := #[.agg #[.string t.f0, .slice A1 t.f1.length c1, .slice A2 t.f2.length c2]]) (P := fun b => b = resP t) h2 rfl (enters_of Tryz.func24 (by kernel_rfl) rfl) rfl (by simp only [List.map_toArray, List.map_cons, List.map_nil]; show #[q 19] = _; rw [show q 19 = _ from hq 19 rfl]) (yes_ (resolved_calls t st (by omega) V _ _ _ _ (vt.below (bw hB9)))) (fun b w' eb hb => h _ _ (congrArg Value.bool eb) hb),
    fun q V J hB9 hq h hi => wp_guard hi (wants_yes rfl (congrArg some (hq 18 rfl))) fun o2 h2 => op_ldT (ad := ⟨w.heap.size, 0, none⟩) h2 rfl rfl rfl (blk_cell (blk_below xt (bw hB9)) 0) (blk_cell (blk_below xt (bw hB9)) 1) (blk_cell (blk_below xt (bw hB9)) 2) (h _ _ rfl (.refl _ _)),
    fun q V J hB9 hq h hi => wp_guard hi (wants_yes rfl (congrArg some (hq 18 rfl))) fun o2 h2 => op_boolC (vs := #[.agg #[.string t.f0, .slice A1 t.f1.length c1, .slice A2 t.f2.length c2]]) (P := fun b => b = resP t) h2 rfl (enters_of Tryz.func25 (by kernel_rfl) rfl) rfl (by simp only [List.map_toArray, List.map_cons, List.map_nil]; show #[q 21] = _; rw [show q 21 = _ from hq 21 rfl]) (yes_ (rres_calls t st V _ _ _ _ (vt.below (bw hB9)))) (fun b w' eb hb => h _ _ (congrArg Value.bool eb) hb),
    fun q V J hB9 hq h hi => wp_guard hi (wants_yes rfl (congrArg some (hq 18 rfl))) fun o2 h2 => op_eqB h2 rfl rfl (hq 20 rfl) (hq 22 rfl) (h _ _ rfl (.refl _ _)),
    fun q V J hB9 hq h hi => op_pickF hi rfl rfl (hq 18 rfl) (hq 23 rfl) (h _ _ rfl (.refl _ _)),
    fun q V J hB9 hq h hi => op_asg hi rfl rfl (hq 24 rfl) (h _ _ rfl (.refl _ _)), trivial⟩ ?_)
   intro q V hB9 hx
   exact wp_ret (bodyPost_yes (show Tryz.f4.results = #[.tmp 4] from rfl) (hx 25 (by decide)) rfl (below_step hB (bw hB9)))
end
section
mutual
/-- All that a tree holds, letters too. -/
def big : S30 → Nat
 | ⟨f, vs, ks⟩ => f.size + vs.length + bigL ks + 1
def bigL : List S30 → Nat
 | [] => 0
 | t :: r => big t + bigL r
end
theorem big_eq (t : S30) : big t = t.f0.size + t.f1.length + bigL t.f2 + 1 := by cases t; simp [big]
mutual
theorem nodes_big : ∀ t : S30, nodes t ≤ big t
 | ⟨_, _, ks⟩ => by have := nodesL_big ks; simp only [nodes, big]; omega
theorem nodesL_big : ∀ l : List S30, nodesL l ≤ bigL l
 | [] => Nat.le_refl _
 | t :: r => by have := nodes_big t; have := nodesL_big r; simp only [nodesL, bigL]; omega
end
theorem len_bigL : ∀ l : List S30, l.length ≤ bigL l
 | [] => Nat.le_refl _
 | t :: r => by have := big_eq t; have := len_bigL r; simp only [List.length_cons, bigL]; omega
mutual
theorem sm_big : ∀ t : S30, big t ≤ 2000000 → Sm t
 | ⟨f, vs, ks⟩, h => by
  rw [big] at h
  rw [Sm]
  have := len_bigL ks
  exact ⟨by omega, by omega, by omega, smL_big ks (by omega)⟩
theorem smL_big : ∀ l : List S30, bigL l ≤ 2000000 → SmL l
 | [], _ => by rw [SmL]; trivial
 | t :: r, h => by
  rw [bigL] at h
  rw [SmL]
  exact ⟨sm_big t (by omega), smL_big r (by omega)⟩
end
section
variable {H : Type} {enc : TypeId × Value → H} {w : World} {base : Nat} {spare : Nat → Bool} {held : Bool}
theorem opened {α : Type} [Inhabited α] {kd : Kd α} {Q : α → DataW H → Prop} {t e : TypeId} (ht : Tryz.prog.underlying t = some (.slice e)) (hc : Tryz.prog.cellsOf e = kd.sz) {fuel : Nat} {cs : List Value} {x : DataW H × List MemPlace}
  (h : DataW.trod enc Tryz.prog w base spare held fuel t cs = some x) (hel : ∀ n cs' y, n < fuel → DataW.trod enc Tryz.prog w base spare held n e cs' = some y → ∃ p, kd.K w p cs' ∧ Q p y.1) :
  ∃ A xs c ds, cs = [.slice A xs.length c] ∧ xs.length ≤ c ∧ kd.C w A xs.length xs ∧ ((∃ sp, x.1 = .slice ds sp) ∨ x.1 = .nil ∧ ds = []) ∧ ds.length = xs.length ∧ ∀ (i : Nat) p d, xs[i]? = some p → ds[i]? = some d → Q p d := by
 rcases DataW.trod_slice ht h with ⟨rfl, rfl⟩ | ⟨a, len, cap, elems, rest, n, rfl, rfl, rfl, hb, hl, hm, hlen, hel', _, _⟩
 ·exact ⟨none, [], 0, [], rfl, Nat.le_refl _, ⟨rfl, Nat.zero_le _, fun h => by simp at h⟩, .inr ⟨rfl, rfl⟩, rfl, fun i p d hp => by simp at hp⟩
 ·obtain ⟨V, hV⟩ := Go.Deep.choose_lt (α := α) (n := len) (p := fun i p => ∃ cs' y, w.cells? base (a.add (i * kd.sz)) kd.sz = some cs' ∧ elems[i]? = some y ∧ kd.K w p cs' ∧ Q p y.1) (fun i hi => by
   have he := hel' i hi
   rw [List.getElem?_eq_getElem (by omega)] at he
   obtain ⟨cs', h1, h2⟩ := Option.bind_eq_some_iff.1 he
   obtain ⟨p, hK, hQ⟩ := hel n cs' _ (Nat.lt_succ_self _) h2
   rw [hc] at h1
   exact ⟨p, cs', _, h1, List.getElem?_eq_getElem (by omega), hK, hQ⟩)
  refine ⟨some a, (List.range len).map V, cap, elems.map (·.1), by simp, by simpa using hl, ⟨rfl, ?_, fun hp => ⟨a, rfl, fun j p hj => ?_⟩⟩, .inl ⟨_, rfl⟩, by simp [hlen], fun i p d hp hd => ?_⟩
  ·simp only [List.length_map, List.length_range]
   unfold maxLen at hm
   omega
  ·have hlt : j < len := by
    have := (List.getElem?_eq_some_iff.1 hj).1
    simpa using this
   have hpj : p = V j := by
    rw [List.getElem?_map, List.getElem?_range hlt] at hj
    exact (Option.some.inj hj).symm
   subst hpj
   obtain ⟨cs', y, h1, _, hK, _⟩ := hV j hlt
   obtain ⟨_, hlen', hcell⟩ := World.cells?_some h1
   refine ⟨cs', hlen', hK, fun i u hu => ?_⟩
   have hi : i < kd.sz := by rw [← hlen']; exact (List.getElem?_eq_some_iff.1 hu).1
   have := hcell i hi
   rw [hu, Addr.add_add] at this
   exact this
  ·have hlt : i < len := by
    have := (List.getElem?_eq_some_iff.1 hp).1
    simpa using this
   obtain ⟨cs', y, _, h2, _, hQ⟩ := hV i hlt
   have hpj : p = V i := by
    rw [List.getElem?_map, List.getElem?_range hlt] at hp
    exact (Option.some.inj hp).symm
   subst hpj
   rw [List.getElem?_map, h2] at hd
   rw [← Option.some.inj hd]
   exact hQ
theorem bulk_one (d : DataW H) : 1 ≤ Rows.uptoBulk d := by
 cases d with
 | lit l => cases l <;> simp [Rows.uptoBulk]
 | nil => simp [Rows.uptoBulk]
 | ptr d => simp [Rows.uptoBulk]
 | slice a b => simp [Rows.uptoBulk]
 | agg a => simp [Rows.uptoBulk]
 | iface a d => simp [Rows.uptoBulk]
 | map es => simp [Rows.uptoBulk]
 | held h => simp [Rows.uptoBulk]
def sumOf {α : Type} (f : α → Nat) : List α → Nat
 | [] => 0
 | x :: r => f x + sumOf f r
theorem bulk_all {α : Type} (f : α → Nat) : ∀ (xs : List α) (ds : List (DataW H)), ds.length = xs.length → (∀ (i : Nat) p d, xs[i]? = some p → ds[i]? = some d → f p ≤ Rows.uptoBulk d) → sumOf f xs ≤ Rows.uptoBulkAll ds
 | [], ds, _, _ => Nat.zero_le _
 | x :: r, [], hl, _ => by simp at hl
 | x :: r, d :: ds, hl, h => by
  have h0 := h 0 x d rfl rfl
  have h1 := bulk_all f r ds (by simpa using hl) (fun i p d' hp hd => h (i + 1) p d' (by simpa using hp) (by simpa using hd))
  show f x + sumOf f r ≤ Rows.uptoBulkAll (d :: ds)
  simp only [Rows.uptoBulkAll]
  omega
theorem bulk_slice {α : Type} (f : α → Nat) {xs : List α} {ds : List (DataW H)} {d : DataW H} (hd : (∃ sp, d = .slice ds sp) ∨ d = .nil ∧ ds = []) (hl : ds.length = xs.length) (h : ∀ (i : Nat) p d, xs[i]? = some p → ds[i]? = some d → f p ≤ Rows.uptoBulk d) : sumOf f xs + 1 ≤ Rows.uptoBulk d := by
 have h1 := bulk_all f xs ds hl h
 rcases hd with ⟨sp, rfl⟩ | ⟨rfl, rfl⟩
 ·simp only [Rows.uptoBulk]
  omega
 ·simp only [Rows.uptoBulk]
  simp only [Rows.uptoBulkAll] at h1
  omega
theorem sum_len {α : Type} (l : List α) : sumOf (fun _ => 1) l = l.length := by
 induction l with
 | nil => rfl
 | cons x r ih => simp only [sumOf, ih, List.length_cons]; omega
theorem sum_bigL (l : List S30) : sumOf big l = bigL l := by
 induction l with
 | nil => rfl
 | cons x r ih => simp only [sumOf, ih, bigL]
theorem open_intsC {fuel : Nat} {cs : List Value} {x : DataW H × List MemPlace} (h : DataW.trod enc Tryz.prog w base spare held fuel 27 cs = some x) :
  ∃ A xs c, cs = [.slice A xs.length c] ∧ xs.length ≤ c ∧ (Kd.int .i64).C w A xs.length xs ∧ xs.length + 1 ≤ Rows.uptoBulk x.1 := by
 obtain ⟨A, xs, c, ds, h1, h2, h3, h4, h5, h6⟩ := opened (kd := Kd.int .i64) (Q := fun (s : Int) d => 1 ≤ Rows.uptoBulk d) Tryz.underlying27 (by kernel_rfl) h (fun n cs' y _ hy => by
  obtain ⟨s, rfl, rfl, hs⟩ := DataW.trod_int Tryz.underlying3 hy
  exact ⟨s, rfl, bulk_one _⟩)
 have := bulk_slice (fun _ => 1) h4 h5 h6
 rw [sum_len] at this
 exact ⟨A, xs, c, h1, h2, h3, this⟩
instance inh30 : Inhabited S30 := ⟨z30⟩
theorem three {l : List Value} (h : l.length = 3) : ∃ a b c, l = [a, b, c] := by
 match l, h with
 | [a, b, c], _ => exact ⟨a, b, c, rfl⟩
set_option maxRecDepth 100000 in
theorem open_treesC (fuel : Nat) : (∀ cs (x : DataW H × List MemPlace), DataW.trod enc Tryz.prog w base spare held fuel 30 cs = some x → ∃ p A1 c1 A2 c2, cs = [.string p.f0, .slice A1 p.f1.length c1, .slice A2 p.f2.length c2] ∧ TreeV w p A1 c1 A2 c2 ∧ big p ≤ Rows.uptoBulk x.1) ∧
  ∀ cs (x : DataW H × List MemPlace), DataW.trod enc Tryz.prog w base spare held fuel 28 cs = some x → ∃ A xs c, cs = [.slice A xs.length c] ∧ xs.length ≤ c ∧ k30.C w A xs.length xs ∧ bigL xs + 1 ≤ Rows.uptoBulk x.1 := by
 induction fuel using Nat.strongRecOn with
 | _ fuel ih =>
  have h28 : ∀ cs (x : DataW H × List MemPlace), DataW.trod enc Tryz.prog w base spare held fuel 28 cs = some x → ∃ A xs c, cs = [.slice A xs.length c] ∧ xs.length ≤ c ∧ k30.C w A xs.length xs ∧ bigL xs + 1 ≤ Rows.uptoBulk x.1 := by
   intro cs x h
   obtain ⟨A, xs, c, ds, h1, h2, h3, h4, h5, h6⟩ := opened (kd := k30) (Q := fun p d => big p ≤ Rows.uptoBulk d) Tryz.underlying28 (by kernel_rfl) h (fun n cs' y hn hy => by
    obtain ⟨p, A1, c1, A2, c2, rfl, tv, hb⟩ := (ih n hn).1 cs' y hy
    exact ⟨p, k30_mk w p tv.l1 tv.v tv.l2 tv.k, hb⟩)
   have := bulk_slice big h4 h5 h6
   rw [sum_bigL] at this
   exact ⟨A, xs, c, h1, h2, h3, this⟩
  refine ⟨fun cs x h => ?_, h28⟩
  obtain ⟨xs, n, rfl, rfl, hl, hlen, hf⟩ := DataW.trod_struct Tryz.underlying30 h
  obtain ⟨a, b, c, rfl⟩ := three (hl.trans (by kernel_rfl))
  match xs, hlen with
  | [y0, y1, y2], _ =>
   have f0 := hf 0 _ rfl
   have f1 := hf 1 _ rfl
   have f2 := hf 2 _ rfl
   have g0 : DataW.trod enc Tryz.prog w base spare held n 9 [a] = some y0 := f0
   have g1 : DataW.trod enc Tryz.prog w base spare held n 27 [b] = some y1 := f1
   have g2 : DataW.trod enc Tryz.prog w base spare held n 28 [c] = some y2 := f2
   obtain ⟨s, hs, rfl, _⟩ := DataW.trod_string Tryz.underlying9 g0
   obtain ⟨A1, zs, c1, hz, l1, r1, b1⟩ := open_intsC g1
   obtain ⟨A2, ts, c2, ht, l2, r2, b2⟩ := (ih n (Nat.lt_succ_self _)).2 _ _ g2
   injection hs with hs
   injection hz with hz
   injection ht with ht
   subst hs
   subst hz
   subst ht
   refine ⟨⟨s, zs, ts⟩, A1, c1, A2, c2, rfl, ⟨l1, r1, l2, r2⟩, ?_⟩
   rw [big_eq]
   show s.size + zs.length + bigL ts + 1 ≤ _
   have es : s.data.toList.length = s.size := rfl
   simp only [List.map_cons, List.map_nil, Rows.uptoBulk, Rows.uptoBulkAll]
   omega
end
theorem agg3 {v a b c : Value} (h : v.cells.toList = [a, b, c]) : v = .agg #[a, b, c] := by
 cases v <;> simp [Value.cells] at h
 rename_i xs
 obtain ⟨l⟩ := xs
 simp at h
 rw [h]
theorem xP : PrintExtra Tryz.prog Tryz.lays339_ren := ⟨by kernel_rfl, by kernel_rfl, by kernel_rfl, by kernel_rfl, by kernel_rfl, by kernel_rfl, by kernel_rfl, by kernel_rfl, by kernel_rfl, by kernel_rfl⟩
theorem xU : U8Extra Tryz.prog Tryz.lays260_ren := ⟨by kernel_rfl, by kernel_rfl, by kernel_rfl, by kernel_rfl, by kernel_rfl, by kernel_rfl, by kernel_rfl⟩
end
open Go.RowKit Go.ChangeShapes Go.WideShapes Go.ChangeAt
section
theorem own : ownKnob Tryz.prog.godebug = none := by kernel_rfl
theorem laidOut : laidOutB Tryz.prog = true := by kernel_rfl
def laidL : List (String × DataW Unit) := Rows.semanticsSubjectUptoRow.laid
theorem laidL_plain : (laidL.all fun x => x.2.handleName?.isNone) = true := by kernel_rfl
theorem accept_eq : (Rows.laid_unicode_utf8_acceptRanges : DataW Unit) = Lib.acceptData := by kernel_rfl
theorem pow_eq : (Rows.laid_internal_strconv_uint64pow10 : DataW Unit) = Lib.tabData .u64 Lib.pow10Tab := by kernel_rfl
theorem tabs_of_laid {W : World} (h : laidMetH Tryz.prog laidL W) : Tabs Lib.goPrintTabs W := by
 rw [MakeChecks.laidMetH_plain _ _ _ laidL_plain] at h
 have hL := h
 refine ⟨printTabs_of_reads Tryz.lays339 xP
   (Pinned.isPrint16_eq ▸ Lib.laidMet.reads hL (.tail _ (.tail _ (.tail _ (.tail _ (.tail _ (.tail _ (.tail _ (.head _)))))))))
   (Pinned.isNotPrint16_eq ▸ Lib.laidMet.reads hL (.tail _ (.tail _ (.tail _ (.tail _ (.tail _ (.head _)))))))
   (Pinned.isPrint32_eq ▸ Lib.laidMet.reads hL (.tail _ (.tail _ (.tail _ (.tail _ (.tail _ (.tail _ (.tail _ (.tail _ (.head _))))))))))
   (Pinned.isNotPrint32_eq ▸ Lib.laidMet.reads hL (.tail _ (.tail _ (.tail _ (.tail _ (.tail _ (.tail _ (.head _)))))))),
  utf8Tabs_of_reads Tryz.lays260 xU
   (Pinned.utf8First_eq ▸ Lib.laidMet.reads hL (.tail _ (.tail _ (.tail _ (.tail _ (.tail _ (.tail _ (.tail _ (.tail _ (.tail _ (.head _)))))))))))
   (accept_eq ▸ Lib.laidMet.reads hL (.tail _ (.tail _ (.tail _ (.head _))))), ?_⟩
 have h2 := laidMet.tail (laidMet.tail hL)
 exact Lib.tabIs_of_head (zs := Lib.pow10Tab) (g := 0) (t := 209) (e := 198) (n := 20) (by kernel_rfl) (by kernel_rfl) (by kernel_rfl) (by kernel_rfl) (by kernel_rfl) (by kernel_rfl) (pow_eq ▸ h2)
noncomputable def w0 (os : Os) : World := World.laidAll Tryz.prog os laidL
theorem w0_shaped (os : Os) (args : Array Value) : ((w0 os).forCall (fun _ _ => 0) ⟨#[], args, []⟩).Shaped Tryz.prog :=
 World.shaped_of_ZipB (by kernel_rfl) (by kernel_rfl)
theorem w0_met (os : Os) (args : Array Value) : laidMetH Tryz.prog laidL ((w0 os).forCall (fun _ _ => 0) ⟨#[], args, []⟩).memory := by
 rw [MakeChecks.laidMetH_plain _ _ _ laidL_plain]
 exact laidMet_laidAll _ (by kernel_rfl) (by kernel_rfl)
section
variable {H : Type} {enc : TypeId × Value → H}
theorem row_witness {f : FuncId} {fn : Func} {s : OpenSpec} {conds : List PathCond} {apart : Bool} (os : Os) (args : Array Value)
  (hok : Input.okWideB Tryz.prog ((w0 os).forCall (fun _ _ => 0) ⟨#[], args, []⟩) f ⟨#[], args, []⟩ = true)
  (hrow : s.preRow enc Tryz.prog fn conds apart laidL ((w0 os).forCall (fun _ _ => 0) ⟨#[], args, []⟩).memory args) :
  ∃ (w : World) (tape : Tape) (i : Input), w.os = os ∧ (w.forCall tape i).Shaped Tryz.checked.prog ∧ i.vars = [] ∧ Input.okWide Tryz.checked.prog (w.forCall tape i) .any w.heap.size f i ∧
   s.preRow enc Tryz.checked.prog fn conds apart laidL (w.forCall tape i).memory i.args ∧ ({} : Assume).holds Tryz.checked.prog (lone (Frame.enter Tryz.checked.prog f i.args .normal) [] (w.forCall tape i)) :=
 ⟨w0 os, fun _ _ => 0, ⟨#[], args, []⟩, World.laidAll_os _ _ _, w0_shaped os args, (Input.okWide_of_okWideB (base := 0) hok).1, (Input.okWide_of_okWideB hok).2, hrow, by
  simp only [Assume.holds]
  exact ⟨by simp, by simp, fun _ => Modest.zero, by simp, by simp⟩⟩
end
end
end Go.Proofs.YtcfjomnihhdpaaaGreatDoor.A
namespace Go.Proofs.YtcfjomnihhdpaaaGreatDoor
open Go
set_option maxRecDepth 100000
theorem seatTie1 : Tryz.prog.laidByTextLater [("math/bits.deBruijn32tab", Rows.laid_math_bits_deBruijn32tab), ("math/bits.deBruijn64tab", Rows.laid_math_bits_deBruijn64tab), ("internal/strconv.uint64pow10", Rows.laid_internal_strconv_uint64pow10), ("unicode/utf8.acceptRanges", Rows.laid_unicode_utf8_acceptRanges)] [.data, .data, .data, .data] true :=
 Program.laidByTextLater_by_one 34 8 65 (by kernel_rfl) (by kernel_rfl) (by kernel_rfl) (by kernel_rfl) (by kernel_rfl) (by kernel_rfl) (fun _ _ => by kernel_rfl)
theorem pin_laid_strconv_isGraphic : Tryz.pinned.checked.prog.pinnedFits "strconv.isGraphic" = true := by kernel_rfl
theorem pin_laid_strconv_isNotPrint16 : Tryz.pinned.checked.prog.pinnedFits "strconv.isNotPrint16" = true := by kernel_rfl
theorem pin_laid_strconv_isNotPrint32 : Tryz.pinned.checked.prog.pinnedFits "strconv.isNotPrint32" = true := by kernel_rfl
theorem pin_laid_strconv_isPrint16 : Tryz.pinned.checked.prog.pinnedFits "strconv.isPrint16" = true := by kernel_rfl
theorem pin_laid_strconv_isPrint32 : Tryz.pinned.checked.prog.pinnedFits "strconv.isPrint32" = true := by kernel_rfl
theorem pin_laid_unicode_utf8_first : Tryz.pinned.checked.prog.pinnedFits "unicode/utf8.first" = true := by kernel_rfl
theorem noOwnUnsafe : Tryz.pinned.checked.prog.headLifts.contains "ownunsafe" = false := by kernel_rfl
theorem fits1 : Tryz.pinned.checked.prog.listedFits [("math/bits.deBruijn32tab", Rows.laid_math_bits_deBruijn32tab), ("math/bits.deBruijn64tab", Rows.laid_math_bits_deBruijn64tab), ("internal/strconv.uint64pow10", Rows.laid_internal_strconv_uint64pow10), ("unicode/utf8.acceptRanges", Rows.laid_unicode_utf8_acceptRanges), ("strconv.isGraphic", Rows.laid_strconv_isGraphic), ("strconv.isNotPrint16", Rows.laid_strconv_isNotPrint16), ("strconv.isNotPrint32", Rows.laid_strconv_isNotPrint32), ("strconv.isPrint16", Rows.laid_strconv_isPrint16), ("strconv.isPrint32", Rows.laid_strconv_isPrint32), ("unicode/utf8.first", Rows.laid_unicode_utf8_first)] = true := by
 unfold Program.listedFits
 rw [noOwnUnsafe]
 kernel_rfl
theorem tie : Tryz.prog.laidByTextLater [("math/bits.deBruijn32tab", Rows.laid_math_bits_deBruijn32tab), ("math/bits.deBruijn64tab", Rows.laid_math_bits_deBruijn64tab), ("internal/strconv.uint64pow10", Rows.laid_internal_strconv_uint64pow10), ("unicode/utf8.acceptRanges", Rows.laid_unicode_utf8_acceptRanges)] [.data, .data, .data, .data] true :=
 Program.laidByTextLater.sub seatTie1 ["math/bits.deBruijn32tab", "math/bits.deBruijn64tab", "internal/strconv.uint64pow10", "unicode/utf8.acceptRanges"] (by kernel_rfl) (by kernel_rfl)
theorem semanticsSubjectUpto_row_tie : Rows.semanticsSubjectUptoRow.laidByTextAt .later Tryz.pinned [.data, .data, .data, .data, .pinned, .pinned, .pinned, .pinned, .pinned, .pinned] true :=
 OpenClaim.laidByTextAt_pinned rfl rfl tie rfl rfl rfl rfl (fun y hy _e => by
  simp only [Rows.semanticsSubjectUptoRow, List.zip_cons_cons, List.zip_nil_right, List.mem_cons, List.mem_nil_iff, or_false] at hy
  rcases hy with rfl | rfl | rfl | rfl | rfl | rfl | rfl | rfl | rfl | rfl
  ·cases _e
  ·cases _e
  ·cases _e
  ·cases _e
  ·exact ⟨pin_laid_strconv_isGraphic, by kernel_rfl⟩
  ·exact ⟨pin_laid_strconv_isNotPrint16, by kernel_rfl⟩
  ·exact ⟨pin_laid_strconv_isNotPrint32, by kernel_rfl⟩
  ·exact ⟨pin_laid_strconv_isPrint16, by kernel_rfl⟩
  ·exact ⟨pin_laid_strconv_isPrint32, by kernel_rfl⟩
  ·exact ⟨pin_laid_unicode_utf8_first, by kernel_rfl⟩) fits1
end Go.Proofs.YtcfjomnihhdpaaaGreatDoor
