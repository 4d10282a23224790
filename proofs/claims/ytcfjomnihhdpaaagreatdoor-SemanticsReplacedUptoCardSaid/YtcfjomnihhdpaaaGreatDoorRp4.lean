/-
  A part of the proof: Q32, Q30, Q31, Tie.
-/
import Derived.Test.YtcfjomnihhdpaaaGreatDoorRows
import Derived.Deep.Slices
import Derived.ChangeArms
import Derived.PinnedBridge
import Derived.Lib.LaidU8
import Derived.Lib.LaidPrint
import Derived.Lib.LaidTab
import Derived.Stop.LaidErr
import Derived.Lay
import Derived.WalkKit
import Derived.ProofKit
import Derived.OpenShut
import Derived.ShutString
import Derived.ChangeOld
import Derived.Below
import Derived.SizedLaws
import Derived.LaidLaws
import Derived.MakeChecks
import Derived.Deep.DeepHandedRow
import Derived.LaidByTextLater
import Derived.SevenTiedAt
import Derived.LaidSub
import Derived.LaidOnce
import Derived.Test.YtcfjomnihhdpaaaGreatDoorRp3
namespace Go.Proofs.YtcfjomnihhdpaaaGreatDoor.A
open Go.RowKit Go.Proofs.YtcfjomnihhdpaaaGreatDoorW.PrintWords Go.Proofs.YtcfjomnihhdpaaaGreatDoorW.PrintLast Go.Proofs.YtcfjomnihhdpaaaGreatDoorW.PrintMore
set_option linter.unusedVariables false
set_option linter.unusedSimpArgs false
section
theorem subj_with (a : S30) : ∀ (n : Nat) (t x : S30), nodes t ≤ n → withP t a = some x → subjP x = some a
 | 0, t, _, hn, _ => absurd hn (by have := nodes_eq t; omega)
 | n + 1, ⟨f, vs, []⟩, x, _, h => by rw [withP] at h; cases h
 | n + 1, ⟨f, vs, k :: r⟩, x, hn, h => by
  rw [withP] at h
  by_cases h1 : modalF f = true
  ·rw [if_pos h1] at h
   injection h with h
   subst h
   rw [subjP, if_pos h1]
  ·rw [if_neg h1] at h
   by_cases h2 : passF f = true
   ·rw [if_pos h2] at h
    cases hk : withP k a with
    | none => rw [hk] at h; cases h
    | some y =>
     rw [hk] at h
     injection h with h
     subst h
     rw [subjP, if_neg h1, if_pos h2]
     exact subj_with a n k y (by simp only [nodes, nodesL] at hn; omega) hk
   ·rw [if_neg h2] at h; cases h
theorem with_self : ∀ (n : Nat) (t s : S30), nodes t ≤ n → subjP t = some s → withP t s = some t
 | 0, t, _, hn, _ => absurd hn (by have := nodes_eq t; omega)
 | n + 1, ⟨f, vs, []⟩, s, _, h => by rw [subjP] at h; cases h
 | n + 1, ⟨f, vs, k :: r⟩, s, hn, h => by
  rw [subjP] at h
  rw [withP]
  by_cases h1 : modalF f = true
  ·rw [if_pos h1] at h ⊢
   injection h with h
   subst h
   rfl
  ·rw [if_neg h1] at h ⊢
   by_cases h2 : passF f = true
   ·rw [if_pos h2] at h ⊢
    rw [with_self n k s (by simp only [nodes, nodesL] at hn; omega) h]
    rfl
   ·rw [if_neg h2] at h; cases h
theorem with_with (a b : S30) : ∀ (n : Nat) (t x : S30), nodes t ≤ n → withP t a = some x → withP x b = withP t b
 | 0, t, _, hn, _ => absurd hn (by have := nodes_eq t; omega)
 | n + 1, ⟨f, vs, []⟩, x, _, h => by rw [withP] at h; cases h
 | n + 1, ⟨f, vs, k :: r⟩, x, hn, h => by
  rw [withP] at h
  by_cases h1 : modalF f = true
  ·rw [if_pos h1] at h
   injection h with h
   subst h
   rw [withP, withP, if_pos h1, if_pos h1]
  ·rw [if_neg h1] at h
   by_cases h2 : passF f = true
   ·rw [if_pos h2] at h
    cases hk : withP k a with
    | none => rw [hk] at h; cases h
    | some y =>
     rw [hk] at h
     injection h with h
     subst h
     rw [withP, withP, if_neg h1, if_pos h2, if_neg h1, if_pos h2, with_with a b n k y (by simp only [nodes, nodesL] at hn; omega) hk]
   ·rw [if_neg h2] at h; cases h
section
variable {ops : Array Oper} {Q : Exit → Act → World → Prop} {i : Nat} {o : Oper} {J : Act → World → Prop} {a : Act} {w : World}
theorem op_neqB {k k2 : Tmp} {b : Bool} (hi : ops[i]? = some o) (hg : o.guard = none) (ho : o.op = .binOp .neq 4 (.tmp k) (.tmp k2) 4) (ha : a.tmps[k]?.getD undef = .bool b) (ha2 : a.tmps[k2]?.getD undef = .bool b) (h : J (a.put o.dst (.bool false)) w) : wpOp Tryz.prog ops Q i J a w := by
 refine op_value hi (wanted_none hg) (w' := w) ?_ h
 unfold execOp
 rw [ho]
 go_simp
theorem op_lenS {k : Tmp} {A : Option Addr} {n c : Nat} (hi : ops[i]? = some o) (hg : o.guard = none) (ho : o.op = .call { callee := .builtin .len, args := #[.tmp k], argTypes := #[28] }) (ha : a.tmps[k]?.getD undef = .slice A n c) (h : J (a.put o.dst (.int .i64 n)) w) : wpOp Tryz.prog ops Q i J a w := by
 refine op_value hi (wanted_none hg) (w' := w) ?_ h
 unfold execOp
 rw [ho]
 have hu := Tryz.underlying28
 go_simp
end
set_option maxHeartbeats 1000000 in
set_option maxRecDepth 100000 in
theorem replaced_walk (T : Lib.PrintTabs) (w : World) (hT : Tabs T w) (t p r : S30) (A1 : Option Addr) (c1 : Nat) (A2 : Option Addr) (c2 : Nat) (N1 : Option Addr) (n1 : Nat) (N2 : Option Addr) (n2 : Nat) (M1 : Option Addr) (m1 : Nat) (M2 : Option Addr) (m2 : Nat) (vt : TreeV w t A1 c1 A2 c2) (vp : TreeV w p N1 n1 N2 n2) (vr : TreeV w r M1 m1 M2 m2) (st : Sm t) (sp : Sm p) (sr : Sm r) (nt : nodes t ≤ 2000000) (np : nodes p ≤ 2000000) (nr : nodes r ≤ 2000000) :
  Calls Tryz.prog 5 #[.agg #[.string t.f0, .slice A1 t.f1.length c1, .slice A2 t.f2.length c2], .agg #[.string p.f0, .slice N1 p.f1.length n1, .slice N2 p.f2.length n2], .agg #[.string r.f0, .slice M1 r.f1.length m1, .slice M2 r.f2.length m2]] w fun e w' => e = .returned (.bool true) ∧ Below w.heap.size w w' := by
 refine calls_frN 106 (fun j => match j with | 0 => .agg #[.string t.f0, .slice A1 t.f1.length c1, .slice A2 t.f2.length c2] | 1 => .agg #[.string p.f0, .slice N1 p.f1.length n1, .slice N2 p.f2.length n2] | 2 => .agg #[.string r.f0, .slice M1 r.f1.length m1, .slice M2 r.f2.length m2] | _ => undef) Tryz.func5 (show Tryz.f5.body = some _ from rfl) (by kernel_rfl) ?_
 refine wp_seq (wp_region_list (list_op (i := 0) rfl (op_box30 rfl rfl rfl rfl fun u0 xt h0 s0 => fop rfl (by decide) (list_op (i := 1) rfl (op_box30 rfl rfl rfl rfl fun u1 xp h1 s1 => fop rfl (by decide) (list_op (i := 2) rfl (op_box30 rfl rfl rfl rfl fun u2 xr h2 s2 => fop rfl (by decide) (list_op (i := 3) rfl (op_asgc rfl rfl rfl (fop rfl (by decide) ?_))))))))))
 rw [s0] at xp s1 ⊢
 rw [s1] at xr s2 ⊢
 replace xt := blk_below xt h1
 replace xt := blk_below xt h2
 replace xp := blk_below xp h2
 have hB := (below_step (below_step h0 h1) h2)
 replace vt := vt.below hB
 replace vp := vp.below hB
 replace vr := vr.below hB
 refine wp_seq (wp_seq (wp_region_list (list_op (i := 0) rfl (op_boolC (vs := #[]) (P := fun b => b = true) rfl rfl (enters_of Tryz.func13 (by kernel_rfl) rfl) rfl (by simp only [List.map_toArray, List.map_nil]) (yes_ (awake_calls T _ (hT.below hB))) fun b wA eb hA => fop rfl (by decide) (list_op (i := 1) rfl (op_notb rfl rfl rfl rfl (fop rfl (by decide) (wp_cond rfl ?_))))))))
 subst eb
 refine wp_skip ?_
 replace xt := blk_below xt hA
 replace xp := blk_below xp hA
 replace xr := blk_below xr hA
 replace vt := vt.below hA
 replace vp := vp.below hA
 replace vr := vr.below hA
 replace hB := below_step hB hA
 clear hA
 refine wp_seq (wp_seq (wp_region_list (list_op (i := 0) rfl (op_ldT (ad := ⟨w.heap.size, 0, none⟩) rfl rfl rfl rfl (blk_cell xt 0) (blk_cell xt 1) (blk_cell xt 2) (fop rfl (by decide) (list_op (i := 1) rfl (op_boolC rfl rfl (enters_of Tryz.func15 (by kernel_rfl) rfl) rfl (by simp only [List.map_toArray, List.map_cons, List.map_nil]; rfl) (large_calls t 40 (by decide) (by decide) nt wA _ _ _ _ vt) fun b wL hl hL => fop rfl (by decide) (list_op (i := 2) rfl (op_mv rfl rfl rfl rfl (fop rfl (by decide) ?_))))))))))
 replace xt := blk_below xt hL
 replace xp := blk_below xp hL
 replace xr := blk_below xr hL
 replace vt := vt.below hL
 replace vp := vp.below hL
 replace vr := vr.below hL
 replace hB := below_step hB hL
 clear hL
 clear hl
 cases b with
 | true =>
  refine (list_op (i := 3) rfl (op_skip rfl (wants_no rfl rfl) (fop rfl (by decide) (list_op (i := 4) rfl (op_skip rfl (wants_no rfl rfl) (fop rfl (by decide) (list_op (i := 5) rfl (op_pickT (b := true) (c := false) rfl rfl rfl rfl (fun h => by cases h) (fop rfl (by decide) (list_op (i := 6) rfl (op_mv rfl rfl rfl rfl (fop rfl (by decide) (list_op (i := 7) rfl (op_skip rfl (wants_no rfl rfl) (fop rfl (by decide) (list_op (i := 8) rfl (op_skip rfl (wants_no rfl rfl) (fop rfl (by decide) (list_op (i := 9) rfl (op_pickT (b := true) (c := false) rfl rfl rfl rfl (fun h => by cases h) (fop rfl (by decide) (wp_cond (t := true) rfl ?_))))))))))))))))))))))
  refine wp_seq (wp_region_list (list_op (i := 0) rfl (op_asgc rfl rfl rfl (fop rfl (by decide) (wp_ret ?_)))))
  exact bodyPost_yes (show Tryz.f5.results = #[.tmp 6] from rfl) rfl rfl hB
 | false =>
  refine (list_op (i := 3) rfl (wp_guard rfl (wants_yes rfl rfl) fun o2 h2 => op_ldT (ad := ⟨w.heap.size + 1, 0, none⟩) h2 rfl rfl rfl (blk_cell xp 0) (blk_cell xp 1) (blk_cell xp 2) (fop rfl (by decide) (list_op (i := 4) rfl (wp_guard rfl (wants_yes rfl rfl) fun o2 h2 => op_boolC h2 rfl (enters_of Tryz.func15 (by kernel_rfl) rfl) rfl (by simp only [List.map_toArray, List.map_cons, List.map_nil]; rfl) (large_calls p 20 (by decide) (by decide) np wL _ _ _ _ vp) fun b wM hl hL => fop rfl (by decide) (list_op (i := 5) rfl (op_pickT (b := false) (c := b) rfl rfl rfl rfl (fun _ => rfl) (fop rfl (by decide) (list_op (i := 6) rfl (op_mv rfl rfl rfl rfl (fop rfl (by decide) ?_)))))))))))
  replace xt := blk_below xt hL
  replace xp := blk_below xp hL
  replace xr := blk_below xr hL
  replace vt := vt.below hL
  replace vp := vp.below hL
  replace vr := vr.below hL
  replace hB := below_step hB hL
  clear hL
  clear hl
  cases b with
  | true =>
   refine (list_op (i := 7) rfl (op_skip rfl (wants_no rfl rfl) (fop rfl (by decide) (list_op (i := 8) rfl (op_skip rfl (wants_no rfl rfl) (fop rfl (by decide) (list_op (i := 9) rfl (op_pickT (b := true) (c := false) rfl rfl rfl rfl (fun h => by cases h) (fop rfl (by decide) (wp_cond (t := true) rfl ?_))))))))))
   refine wp_seq (wp_region_list (list_op (i := 0) rfl (op_asgc rfl rfl rfl (fop rfl (by decide) (wp_ret ?_)))))
   exact bodyPost_yes (show Tryz.f5.results = #[.tmp 6] from rfl) rfl rfl hB
  | false =>
   refine (list_op (i := 7) rfl (wp_guard rfl (wants_yes rfl rfl) fun o2 h2 => op_ldT (ad := ⟨w.heap.size + 1 + 1, 0, none⟩) h2 rfl rfl rfl (blk_cell xr 0) (blk_cell xr 1) (blk_cell xr 2) (fop rfl (by decide) (list_op (i := 8) rfl (wp_guard rfl (wants_yes rfl rfl) fun o2 h2 => op_boolC h2 rfl (enters_of Tryz.func15 (by kernel_rfl) rfl) rfl (by simp only [List.map_toArray, List.map_cons, List.map_nil]; rfl) (large_calls r 20 (by decide) (by decide) nr wM _ _ _ _ vr) fun b wN hl hL => fop rfl (by decide) (list_op (i := 9) rfl (op_pickT (b := false) (c := b) rfl rfl rfl rfl (fun _ => rfl) (fop rfl (by decide) (wp_cond (t := b) rfl ?_)))))))))
   replace xt := blk_below xt hL
   replace xp := blk_below xp hL
   replace xr := blk_below xr hL
   replace vt := vt.below hL
   replace vp := vp.below hL
   replace vr := vr.below hL
   replace hB := below_step hB hL
   clear hL
   clear hl
   cases b with
   | true =>
    refine wp_seq (wp_region_list (list_op (i := 0) rfl (op_asgc rfl rfl rfl (fop rfl (by decide) (wp_ret ?_)))))
    exact bodyPost_yes (show Tryz.f5.results = #[.tmp 6] from rfl) rfl rfl hB
   | false =>
    refine wp_skip ?_
    have hx := with_subj p (nodes t) t (Nat.le_refl _)
    cases hs : subjP t with
    | none =>
     rw [hs] at hx
     have hw := Option.not_isSome_iff_eq_none.1 (by rw [hx]; exact Bool.false_ne_true)
     clear hx
     refine wp_seq (wp_region_list (list_op (i := 0) rfl (op_ldT (ad := ⟨w.heap.size, 0, none⟩) rfl rfl rfl rfl (blk_cell xt 0) (blk_cell xt 1) (blk_cell xt 2) (fop rfl (by decide) (list_op (i := 1) rfl (op_tup1 (s := z30) (b := false) rfl rfl (enters_of Tryz.func19 (by kernel_rfl) rfl) rfl rfl ((by have h := subj_calls (nodes t) t (Nat.le_refl _) wN wN _ _ _ _ (.refl _ _) vt; rw [hs] at h; exact h.mono fun e w' h => TupRet.of_subj h)) fun P1 p1 R1 r1 w1 hc1 t1 => fop rfl (by decide) (list_op (i := 2) rfl (op_mv rfl rfl rfl rfl (fop rfl (by decide) (list_op (i := 3) rfl (op_ext rfl rfl rfl rfl rfl (fop rfl (by decide) (list_op (i := 4) rfl (op_ext rfl rfl rfl rfl rfl (fop rfl (by decide) (list_op (i := 5) rfl (op_new30 rfl rfl rfl (fop rfl (by decide) (list_op (i := 6) rfl (op_st30 rfl rfl rfl rfl rfl rfl (blk_new w1 (.cells #[.string ⟨#[]⟩, .slice none 0 0, .slice none 0 0] 30)) fun V1 x1 hf1 hb1 => (list_op (i := 7) rfl (op_asg rfl rfl rfl rfl (fop rfl (by decide) ?_)))))))))))))))))))))))
     have hn1 := (below_alloc (Below.refl w1.heap.size w1) (.cells #[.string ⟨#[]⟩, .slice none 0 0, .slice none 0 0] 30)).trans (hb1 _ (Nat.le_refl _))
     have hq1 := below_step hc1 hn1
     replace t1 := t1.below hn1
     replace xt := blk_below xt hq1
     replace xp := blk_below xp hq1
     replace vt := vt.below hq1
     replace vp := vp.below hq1
     replace hB := below_step hB hq1
     refine wp_seq (wp_region_list (list_op (i := 0) rfl (op_ldT (ad := ⟨w.heap.size, 0, none⟩) rfl rfl rfl rfl (blk_cell xt 0) (blk_cell xt 1) (blk_cell xt 2) (fop rfl (by decide) (list_op (i := 1) rfl (op_ldT (ad := ⟨w.heap.size + 1, 0, none⟩) rfl rfl rfl rfl (blk_cell xp 0) (blk_cell xp 1) (blk_cell xp 2) (fop rfl (by decide) (list_op (i := 2) rfl (op_tup2 (s := z30) (b := false) rfl rfl (enters_of Tryz.func21 (by kernel_rfl) rfl) rfl rfl rfl ((by have h := with_calls p (nodes t) t (Nat.le_refl _) st V1 V1 _ _ _ _ _ _ _ _ (.refl _ _) vt vp; rw [hw] at h; exact h.mono fun e w' h => TupRet.of_with h)) fun P2 p2 R2 r2 w2 hc2 t2 => fop rfl (by decide) (list_op (i := 3) rfl (op_mv rfl rfl rfl rfl (fop rfl (by decide) (list_op (i := 4) rfl (op_ext rfl rfl rfl rfl rfl (fop rfl (by decide) (list_op (i := 5) rfl (op_ext rfl rfl rfl rfl rfl (fop rfl (by decide) (list_op (i := 6) rfl (op_new30 rfl rfl rfl (fop rfl (by decide) (list_op (i := 7) rfl (op_st30 rfl rfl rfl rfl rfl rfl (blk_new w2 (.cells #[.string ⟨#[]⟩, .slice none 0 0, .slice none 0 0] 30)) fun V2 x2 hf2 hb2 => (list_op (i := 8) rfl (op_asg rfl rfl rfl rfl (fop rfl (by decide) ?_))))))))))))))))))))))))))
     have hn2 := (below_alloc (Below.refl w2.heap.size w2) (.cells #[.string ⟨#[]⟩, .slice none 0 0, .slice none 0 0] 30)).trans (hb2 _ (Nat.le_refl _))
     have hq2 := below_step hc2 hn2
     replace t2 := t2.below hn2
     replace x1 := blk_below x1 hq2
     replace hB := below_step hB hq2
     refine wp_seq (wp_seq (wp_region_list (list_op (i := 0) rfl (op_mv rfl rfl rfl rfl (fop rfl (by decide) (list_op (i := 1) rfl (op_mv rfl rfl rfl rfl (fop rfl (by decide) (list_op (i := 2) rfl (op_neqB (b := false) rfl rfl rfl rfl rfl (fop rfl (by decide) (wp_cond (t := false) rfl (wp_skip ?_)))))))))))))
     refine wp_seq (wp_seq (wp_region_list (list_op (i := 0) rfl (op_mv rfl rfl rfl rfl (fop rfl (by decide) (list_op (i := 1) rfl (op_notb (b := false) rfl rfl rfl rfl (fop rfl (by decide) (wp_cond (t := true) rfl ?_)))))))))
     refine wp_seq (wp_region_list (list_op (i := 0) rfl (op_fa (c := 0) rfl rfl rfl rfl (fop rfl (by decide) (list_op (i := 1) rfl (op_ld28 rfl rfl rfl rfl (blk_cell x2 2) (fop rfl (by decide) (list_op (i := 2) rfl (op_lenS (n := 0) rfl rfl rfl rfl (fop rfl (by decide) (list_op (i := 3) rfl (op_eqI rfl rfl rfl rfl (fop rfl (by decide) (list_op (i := 4) rfl (op_mv rfl rfl rfl rfl (fop rfl (by decide) (list_op (i := 5) rfl (wp_guard rfl (wants_yes rfl rfl) fun o2 h2 => op_fa0 h2 rfl rfl rfl (fop rfl (by decide) (list_op (i := 6) rfl (wp_guard rfl (wants_yes rfl rfl) fun o2 h2 => op_ld9 h2 rfl rfl rfl (blk_cell x2 0) (fop rfl (by decide) (list_op (i := 7) rfl (wp_guard rfl (wants_yes rfl rfl) fun o2 h2 => op_eqS h2 rfl rfl rfl (fop rfl (by decide) (list_op (i := 8) rfl (op_pickF (b := true) rfl rfl rfl rfl (congrArg Value.bool (beq_self_eq_true (ByteArray.toList ⟨#[]⟩))) (fop rfl (by decide) (list_op (i := 9) rfl (op_mv rfl rfl rfl rfl (fop rfl (by decide) (list_op (i := 10) rfl (wp_guard rfl (wants_yes rfl rfl) fun o2 h2 => op_fa (c := 0) h2 rfl rfl rfl (fop rfl (by decide) (list_op (i := 11) rfl (wp_guard rfl (wants_yes rfl rfl) fun o2 h2 => op_ld28 h2 rfl rfl rfl (blk_cell x1 2) (fop rfl (by decide) (list_op (i := 12) rfl (wp_guard rfl (wants_yes rfl rfl) fun o2 h2 => op_lenS (n := 0) h2 rfl rfl rfl (fop rfl (by decide) (list_op (i := 13) rfl (wp_guard rfl (wants_yes rfl rfl) fun o2 h2 => op_eqI h2 rfl rfl rfl (fop rfl (by decide) (list_op (i := 14) rfl (op_pickF (b := true) rfl rfl rfl rfl rfl (fop rfl (by decide) (list_op (i := 15) rfl (op_mv rfl rfl rfl rfl (fop rfl (by decide) (list_op (i := 16) rfl (wp_guard rfl (wants_yes rfl rfl) fun o2 h2 => op_fa0 h2 rfl rfl rfl (fop rfl (by decide) (list_op (i := 17) rfl (wp_guard rfl (wants_yes rfl rfl) fun o2 h2 => op_ld9 h2 rfl rfl rfl (blk_cell x1 0) (fop rfl (by decide) (list_op (i := 18) rfl (wp_guard rfl (wants_yes rfl rfl) fun o2 h2 => op_eqS h2 rfl rfl rfl (fop rfl (by decide) (list_op (i := 19) rfl (op_pickF (b := true) rfl rfl rfl rfl (congrArg Value.bool (beq_self_eq_true (ByteArray.toList ⟨#[]⟩))) (fop rfl (by decide) (list_op (i := 20) rfl (op_asg rfl rfl rfl rfl (fop rfl (by decide) (wp_ret ?_)))))))))))))))))))))))))))))))))))))))))))))))))))))))))))))))))
     exact bodyPost_yes (show Tryz.f5.results = #[.tmp 6] from rfl) rfl rfl hB
    | some s =>
     rw [hs] at hx
     obtain ⟨x, hw⟩ := Option.isSome_iff_exists.1 hx
     clear hx
     have ss := subj_Sm _ t s (Nat.le_refl _) st hs
     have sx := with_Sm sp _ t x (Nat.le_refl _) st hw
     have h3 := with_self _ t s (Nat.le_refl _) hs
     have h4 := subj_with p _ t x (Nat.le_refl _) hw
     have h5 := with_with p r _ t x (Nat.le_refl _) hw
     have hz : (withP t r).isSome = true := by rw [with_subj r (nodes t) t (Nat.le_refl _), hs]; rfl
     obtain ⟨z, hz⟩ := Option.isSome_iff_exists.1 hz
     have sz := with_Sm sr _ t z (Nat.le_refl _) st hz
     rw [hz] at h5
     refine wp_seq (wp_region_list (list_op (i := 0) rfl (op_ldT (ad := ⟨w.heap.size, 0, none⟩) rfl rfl rfl rfl (blk_cell xt 0) (blk_cell xt 1) (blk_cell xt 2) (fop rfl (by decide) (list_op (i := 1) rfl (op_tup1 (s := s) (b := true) rfl rfl (enters_of Tryz.func19 (by kernel_rfl) rfl) rfl rfl ((by have h := subj_calls (nodes t) t (Nat.le_refl _) wN wN _ _ _ _ (.refl _ _) vt; rw [hs] at h; exact h.mono fun e w' h => TupRet.of_subj h)) fun P1 p1 R1 r1 w1 hc1 t1 => fop rfl (by decide) (list_op (i := 2) rfl (op_mv rfl rfl rfl rfl (fop rfl (by decide) (list_op (i := 3) rfl (op_ext rfl rfl rfl rfl rfl (fop rfl (by decide) (list_op (i := 4) rfl (op_ext rfl rfl rfl rfl rfl (fop rfl (by decide) (list_op (i := 5) rfl (op_new30 rfl rfl rfl (fop rfl (by decide) (list_op (i := 6) rfl (op_st30 rfl rfl rfl rfl rfl rfl (blk_new w1 (.cells #[.string ⟨#[]⟩, .slice none 0 0, .slice none 0 0] 30)) fun V1 x1 hf1 hb1 => (list_op (i := 7) rfl (op_asg rfl rfl rfl rfl (fop rfl (by decide) ?_)))))))))))))))))))))))
     have hn1 := (below_alloc (Below.refl w1.heap.size w1) (.cells #[.string ⟨#[]⟩, .slice none 0 0, .slice none 0 0] 30)).trans (hb1 _ (Nat.le_refl _))
     have hq1 := below_step hc1 hn1
     replace t1 := t1.below hn1
     replace xt := blk_below xt hq1
     replace xp := blk_below xp hq1
     replace xr := blk_below xr hq1
     replace vt := vt.below hq1
     replace vp := vp.below hq1
     replace vr := vr.below hq1
     replace hB := below_step hB hq1
     refine wp_seq (wp_region_list (list_op (i := 0) rfl (op_ldT (ad := ⟨w.heap.size, 0, none⟩) rfl rfl rfl rfl (blk_cell xt 0) (blk_cell xt 1) (blk_cell xt 2) (fop rfl (by decide) (list_op (i := 1) rfl (op_ldT (ad := ⟨w.heap.size + 1, 0, none⟩) rfl rfl rfl rfl (blk_cell xp 0) (blk_cell xp 1) (blk_cell xp 2) (fop rfl (by decide) (list_op (i := 2) rfl (op_tup2 (s := x) (b := true) rfl rfl (enters_of Tryz.func21 (by kernel_rfl) rfl) rfl rfl rfl ((by have h := with_calls p (nodes t) t (Nat.le_refl _) st V1 V1 _ _ _ _ _ _ _ _ (.refl _ _) vt vp; rw [hw] at h; exact h.mono fun e w' h => TupRet.of_with h)) fun P2 p2 R2 r2 w2 hc2 t2 => fop rfl (by decide) (list_op (i := 3) rfl (op_mv rfl rfl rfl rfl (fop rfl (by decide) (list_op (i := 4) rfl (op_ext rfl rfl rfl rfl rfl (fop rfl (by decide) (list_op (i := 5) rfl (op_ext rfl rfl rfl rfl rfl (fop rfl (by decide) (list_op (i := 6) rfl (op_new30 rfl rfl rfl (fop rfl (by decide) (list_op (i := 7) rfl (op_st30 rfl rfl rfl rfl rfl rfl (blk_new w2 (.cells #[.string ⟨#[]⟩, .slice none 0 0, .slice none 0 0] 30)) fun V2 x2 hf2 hb2 => (list_op (i := 8) rfl (op_asg rfl rfl rfl rfl (fop rfl (by decide) ?_))))))))))))))))))))))))))
     have hn2 := (below_alloc (Below.refl w2.heap.size w2) (.cells #[.string ⟨#[]⟩, .slice none 0 0, .slice none 0 0] 30)).trans (hb2 _ (Nat.le_refl _))
     have hq2 := below_step hc2 hn2
     replace t2 := t2.below hn2
     replace xt := blk_below xt hq2
     replace xp := blk_below xp hq2
     replace xr := blk_below xr hq2
     replace vt := vt.below hq2
     replace vp := vp.below hq2
     replace vr := vr.below hq2
     replace x1 := blk_below x1 hq2
     replace t1 := t1.below hq2
     replace hB := below_step hB hq2
     refine wp_seq (wp_seq (wp_region_list (list_op (i := 0) rfl (op_mv rfl rfl rfl rfl (fop rfl (by decide) (list_op (i := 1) rfl (op_mv rfl rfl rfl rfl (fop rfl (by decide) (list_op (i := 2) rfl (op_neqB (b := true) rfl rfl rfl rfl rfl (fop rfl (by decide) (wp_cond (t := false) rfl (wp_skip ?_)))))))))))))
     refine wp_seq (wp_seq (wp_region_list (list_op (i := 0) rfl (op_mv rfl rfl rfl rfl (fop rfl (by decide) (list_op (i := 1) rfl (op_notb (b := true) rfl rfl rfl rfl (fop rfl (by decide) (wp_cond (t := false) rfl (wp_skip ?_))))))))))
     refine wp_seq (wp_region_list (list_op (i := 0) rfl (op_ldT (ad := ⟨w.heap.size, 0, none⟩) rfl rfl rfl rfl (blk_cell xt 0) (blk_cell xt 1) (blk_cell xt 2) (fop rfl (by decide) (list_op (i := 1) rfl (op_ldT (ad := ⟨w1.heap.size, 0, none⟩) rfl rfl rfl rfl (blk_cell x1 0) (blk_cell x1 1) (blk_cell x1 2) (fop rfl (by decide) (list_op (i := 2) rfl (op_tup2 (s := t) (b := true) rfl rfl (enters_of Tryz.func21 (by kernel_rfl) rfl) rfl rfl rfl ((by have h := with_calls s (nodes t) t (Nat.le_refl _) st V2 V2 _ _ _ _ _ _ _ _ (.refl _ _) vt t1; rw [h3] at h; exact h.mono fun e w' h => TupRet.of_with h)) fun P3 p3 R3 r3 w3 hc3 t3 => fop rfl (by decide) (list_op (i := 3) rfl (op_mv rfl rfl rfl rfl (fop rfl (by decide) (list_op (i := 4) rfl (op_ext rfl rfl rfl rfl rfl (fop rfl (by decide) (list_op (i := 5) rfl (op_ext rfl rfl rfl rfl rfl (fop rfl (by decide) (list_op (i := 6) rfl (op_new30 rfl rfl rfl (fop rfl (by decide) (list_op (i := 7) rfl (op_st30 rfl rfl rfl rfl rfl rfl (blk_new w3 (.cells #[.string ⟨#[]⟩, .slice none 0 0, .slice none 0 0] 30)) fun V3 x3 hf3 hb3 => (list_op (i := 8) rfl (op_asg rfl rfl rfl rfl (fop rfl (by decide) ?_))))))))))))))))))))))))))
     have hn3 := (below_alloc (Below.refl w3.heap.size w3) (.cells #[.string ⟨#[]⟩, .slice none 0 0, .slice none 0 0] 30)).trans (hb3 _ (Nat.le_refl _))
     have hq3 := below_step hc3 hn3
     replace t3 := t3.below hn3
     replace xt := blk_below xt hq3
     replace xp := blk_below xp hq3
     replace xr := blk_below xr hq3
     replace vt := vt.below hq3
     replace vp := vp.below hq3
     replace vr := vr.below hq3
     replace x1 := blk_below x1 hq3
     replace t1 := t1.below hq3
     replace x2 := blk_below x2 hq3
     replace t2 := t2.below hq3
     replace hB := below_step hB hq3
     refine wp_seq (wp_region_list (list_op (i := 0) rfl (op_ldT (ad := ⟨w2.heap.size, 0, none⟩) rfl rfl rfl rfl (blk_cell x2 0) (blk_cell x2 1) (blk_cell x2 2) (fop rfl (by decide) (list_op (i := 1) rfl (op_tup1 (s := p) (b := true) rfl rfl (enters_of Tryz.func19 (by kernel_rfl) rfl) rfl rfl ((by have h := subj_calls (nodes x) x (Nat.le_refl _) V3 V3 _ _ _ _ (.refl _ _) t2; rw [h4] at h; exact h.mono fun e w' h => TupRet.of_subj h)) fun P4 p4 R4 r4 w4 hc4 t4 => fop rfl (by decide) (list_op (i := 2) rfl (op_mv rfl rfl rfl rfl (fop rfl (by decide) (list_op (i := 3) rfl (op_ext rfl rfl rfl rfl rfl (fop rfl (by decide) (list_op (i := 4) rfl (op_ext rfl rfl rfl rfl rfl (fop rfl (by decide) (list_op (i := 5) rfl (op_new30 rfl rfl rfl (fop rfl (by decide) (list_op (i := 6) rfl (op_st30 rfl rfl rfl rfl rfl rfl (blk_new w4 (.cells #[.string ⟨#[]⟩, .slice none 0 0, .slice none 0 0] 30)) fun V4 x4 hf4 hb4 => (list_op (i := 7) rfl (op_asg rfl rfl rfl rfl (fop rfl (by decide) ?_)))))))))))))))))))))))
     have hn4 := (below_alloc (Below.refl w4.heap.size w4) (.cells #[.string ⟨#[]⟩, .slice none 0 0, .slice none 0 0] 30)).trans (hb4 _ (Nat.le_refl _))
     have hq4 := below_step hc4 hn4
     replace t4 := t4.below hn4
     replace xt := blk_below xt hq4
     replace xp := blk_below xp hq4
     replace xr := blk_below xr hq4
     replace vt := vt.below hq4
     replace vp := vp.below hq4
     replace vr := vr.below hq4
     replace x2 := blk_below x2 hq4
     replace t2 := t2.below hq4
     replace x3 := blk_below x3 hq4
     replace t3 := t3.below hq4
     replace hB := below_step hB hq4
     refine wp_seq (wp_region_list (list_op (i := 0) rfl (op_ldT (ad := ⟨w2.heap.size, 0, none⟩) rfl rfl rfl rfl (blk_cell x2 0) (blk_cell x2 1) (blk_cell x2 2) (fop rfl (by decide) (list_op (i := 1) rfl (op_ldT (ad := ⟨w.heap.size + 1 + 1, 0, none⟩) rfl rfl rfl rfl (blk_cell xr 0) (blk_cell xr 1) (blk_cell xr 2) (fop rfl (by decide) (list_op (i := 2) rfl (op_tup2 (s := z) (b := true) rfl rfl (enters_of Tryz.func21 (by kernel_rfl) rfl) rfl rfl rfl ((by have h := with_calls r (nodes x) x (Nat.le_refl _) sx V4 V4 _ _ _ _ _ _ _ _ (.refl _ _) t2 vr; rw [h5] at h; exact h.mono fun e w' h => TupRet.of_with h)) fun P5 p5 R5 r5 w5 hc5 t5 => fop rfl (by decide) (list_op (i := 3) rfl (op_mv rfl rfl rfl rfl (fop rfl (by decide) (list_op (i := 4) rfl (op_ext rfl rfl rfl rfl rfl (fop rfl (by decide) (list_op (i := 5) rfl (op_ext rfl rfl rfl rfl rfl (fop rfl (by decide) (list_op (i := 6) rfl (op_new30 rfl rfl rfl (fop rfl (by decide) (list_op (i := 7) rfl (op_st30 rfl rfl rfl rfl rfl rfl (blk_new w5 (.cells #[.string ⟨#[]⟩, .slice none 0 0, .slice none 0 0] 30)) fun V5 x5 hf5 hb5 => (list_op (i := 8) rfl (op_asg rfl rfl rfl rfl (fop rfl (by decide) ?_))))))))))))))))))))))))))
     have hn5 := (below_alloc (Below.refl w5.heap.size w5) (.cells #[.string ⟨#[]⟩, .slice none 0 0, .slice none 0 0] 30)).trans (hb5 _ (Nat.le_refl _))
     have hq5 := below_step hc5 hn5
     replace t5 := t5.below hn5
     replace xt := blk_below xt hq5
     replace xp := blk_below xp hq5
     replace xr := blk_below xr hq5
     replace vt := vt.below hq5
     replace vp := vp.below hq5
     replace vr := vr.below hq5
     replace x2 := blk_below x2 hq5
     replace t2 := t2.below hq5
     replace x3 := blk_below x3 hq5
     replace t3 := t3.below hq5
     replace x4 := blk_below x4 hq5
     replace t4 := t4.below hq5
     replace hB := below_step hB hq5
     refine wp_seq (wp_region_list (list_op (i := 0) rfl (op_ldT (ad := ⟨w.heap.size, 0, none⟩) rfl rfl rfl rfl (blk_cell xt 0) (blk_cell xt 1) (blk_cell xt 2) (fop rfl (by decide) (list_op (i := 1) rfl (op_ldT (ad := ⟨w.heap.size + 1 + 1, 0, none⟩) rfl rfl rfl rfl (blk_cell xr 0) (blk_cell xr 1) (blk_cell xr 2) (fop rfl (by decide) (list_op (i := 2) rfl (op_tup2 (s := z) (b := true) rfl rfl (enters_of Tryz.func21 (by kernel_rfl) rfl) rfl rfl rfl ((by have h := with_calls r (nodes t) t (Nat.le_refl _) st V5 V5 _ _ _ _ _ _ _ _ (.refl _ _) vt vr; rw [hz] at h; exact h.mono fun e w' h => TupRet.of_with h)) fun P6 p6 R6 r6 w6 hc6 t6 => fop rfl (by decide) (list_op (i := 3) rfl (op_mv rfl rfl rfl rfl (fop rfl (by decide) (list_op (i := 4) rfl (op_ext rfl rfl rfl rfl rfl (fop rfl (by decide) (list_op (i := 5) rfl (op_ext rfl rfl rfl rfl rfl (fop rfl (by decide) (list_op (i := 6) rfl (op_new30 rfl rfl rfl (fop rfl (by decide) (list_op (i := 7) rfl (op_st30 rfl rfl rfl rfl rfl rfl (blk_new w6 (.cells #[.string ⟨#[]⟩, .slice none 0 0, .slice none 0 0] 30)) fun V6 x6 hf6 hb6 => (list_op (i := 8) rfl (op_asg rfl rfl rfl rfl (fop rfl (by decide) ?_))))))))))))))))))))))))))
     have hn6 := (below_alloc (Below.refl w6.heap.size w6) (.cells #[.string ⟨#[]⟩, .slice none 0 0, .slice none 0 0] 30)).trans (hb6 _ (Nat.le_refl _))
     have hq6 := below_step hc6 hn6
     replace t6 := t6.below hn6
     replace xt := blk_below xt hq6
     replace xp := blk_below xp hq6
     replace xr := blk_below xr hq6
     replace vt := vt.below hq6
     replace vp := vp.below hq6
     replace vr := vr.below hq6
     replace x3 := blk_below x3 hq6
     replace t3 := t3.below hq6
     replace x4 := blk_below x4 hq6
     replace t4 := t4.below hq6
     replace x5 := blk_below x5 hq6
     replace t5 := t5.below hq6
     replace hB := below_step hB hq6
     refine wp_seq (wp_region_list (list_op (i := 0) rfl (op_mv rfl rfl rfl rfl (fop rfl (by decide) (list_op (i := 1) rfl (op_mv rfl rfl rfl rfl (fop rfl (by decide) (list_op (i := 2) rfl (wp_guard rfl (wants_yes rfl rfl) fun o2 h2 => op_ldT (ad := ⟨w4.heap.size, 0, none⟩) h2 rfl rfl rfl (blk_cell x4 0) (blk_cell x4 1) (blk_cell x4 2) (fop rfl (by decide) (list_op (i := 3) rfl (wp_guard rfl (wants_yes rfl rfl) fun o2 h2 => op_ldT (ad := ⟨w.heap.size + 1, 0, none⟩) h2 rfl rfl rfl (blk_cell xp 0) (blk_cell xp 1) (blk_cell xp 2) (fop rfl (by decide) (list_op (i := 4) rfl (wp_guard rfl (wants_yes rfl rfl) fun o2 h2 => op_same h2 rfl rfl rfl rfl (same_calls _ sp V6 _ _ _ _ _ _ _ _ t4 vp) fun u1 k1 => fop rfl (by decide) ?_)))))))))))))))
     replace xt := blk_below xt k1
     replace vt := vt.below k1
     replace x3 := blk_below x3 k1
     replace t3 := t3.below k1
     replace x5 := blk_below x5 k1
     replace t5 := t5.below k1
     replace x6 := blk_below x6 k1
     replace t6 := t6.below k1
     replace hB := below_step hB k1
     refine (list_op (i := 5) rfl (op_pickF (b := true) rfl rfl rfl rfl rfl (fop rfl (by decide) (list_op (i := 6) rfl (op_mv rfl rfl rfl rfl (fop rfl (by decide) (list_op (i := 7) rfl (wp_guard rfl (wants_yes rfl rfl) fun o2 h2 => op_ldT (ad := ⟨w3.heap.size, 0, none⟩) h2 rfl rfl rfl (blk_cell x3 0) (blk_cell x3 1) (blk_cell x3 2) (fop rfl (by decide) (list_op (i := 8) rfl (wp_guard rfl (wants_yes rfl rfl) fun o2 h2 => op_ldT (ad := ⟨w.heap.size, 0, none⟩) h2 rfl rfl rfl (blk_cell xt 0) (blk_cell xt 1) (blk_cell xt 2) (fop rfl (by decide) (list_op (i := 9) rfl (wp_guard rfl (wants_yes rfl rfl) fun o2 h2 => op_same h2 rfl rfl rfl rfl (same_calls _ st u1 _ _ _ _ _ _ _ _ t3 vt) fun u2 k2 => fop rfl (by decide) ?_))))))))))))))
     replace x5 := blk_below x5 k2
     replace t5 := t5.below k2
     replace x6 := blk_below x6 k2
     replace t6 := t6.below k2
     replace hB := below_step hB k2
     refine (list_op (i := 10) rfl (op_pickF (b := true) rfl rfl rfl rfl rfl (fop rfl (by decide) (list_op (i := 11) rfl (op_mv rfl rfl rfl rfl (fop rfl (by decide) (list_op (i := 12) rfl (wp_guard rfl (wants_yes rfl rfl) fun o2 h2 => op_ldT (ad := ⟨w5.heap.size, 0, none⟩) h2 rfl rfl rfl (blk_cell x5 0) (blk_cell x5 1) (blk_cell x5 2) (fop rfl (by decide) (list_op (i := 13) rfl (wp_guard rfl (wants_yes rfl rfl) fun o2 h2 => op_ldT (ad := ⟨w6.heap.size, 0, none⟩) h2 rfl rfl rfl (blk_cell x6 0) (blk_cell x6 1) (blk_cell x6 2) (fop rfl (by decide) (list_op (i := 14) rfl (wp_guard rfl (wants_yes rfl rfl) fun o2 h2 => op_same h2 rfl rfl rfl rfl (same_calls _ sz u2 _ _ _ _ _ _ _ _ t5 t6) fun u3 k3 => fop rfl (by decide) (list_op (i := 15) rfl (op_pickF (b := true) rfl rfl rfl rfl rfl (fop rfl (by decide) (list_op (i := 16) rfl (op_asg rfl rfl rfl rfl (fop rfl (by decide) (wp_ret ?_)))))))))))))))))))))
     replace hB := below_step hB k3
     exact bodyPost_yes (show Tryz.f5.results = #[.tmp 6] from rfl) rfl rfl hB
end
section
mutual
/-- All that a tree holds, letters too. -/
def big : S30 → Nat
 | ⟨f, vs, ks⟩ => f.size + vs.length + bigL ks + 1
def bigL : List S30 → Nat
 | [] => 0
 | t :: r => big t + bigL r
end
theorem big_eq (t : S30) : big t = t.f0.size + t.f1.length + bigL t.f2 + 1 := by cases t; simp [big]
mutual
theorem nodes_big : ∀ t : S30, nodes t ≤ big t
 | ⟨_, _, ks⟩ => by have := nodesL_big ks; simp only [nodes, big]; omega
theorem nodesL_big : ∀ l : List S30, nodesL l ≤ bigL l
 | [] => Nat.le_refl _
 | t :: r => by have := nodes_big t; have := nodesL_big r; simp only [nodesL, bigL]; omega
end
theorem len_bigL : ∀ l : List S30, l.length ≤ bigL l
 | [] => Nat.le_refl _
 | t :: r => by have := big_eq t; have := len_bigL r; simp only [List.length_cons, bigL]; omega
mutual
theorem sm_big : ∀ t : S30, big t ≤ 2000000 → Sm t
 | ⟨f, vs, ks⟩, h => by
  rw [big] at h
  rw [Sm]
  have := len_bigL ks
  exact ⟨by omega, by omega, by omega, smL_big ks (by omega)⟩
theorem smL_big : ∀ l : List S30, bigL l ≤ 2000000 → SmL l
 | [], _ => by rw [SmL]; trivial
 | t :: r, h => by
  rw [bigL] at h
  rw [SmL]
  exact ⟨sm_big t (by omega), smL_big r (by omega)⟩
end
section
variable {H : Type} {enc : TypeId × Value → H} {w : World} {base : Nat} {spare : Nat → Bool} {held : Bool}
theorem opened {α : Type} [Inhabited α] {kd : Kd α} {Q : α → DataW H → Prop} {t e : TypeId} (ht : Tryz.prog.underlying t = some (.slice e)) (hc : Tryz.prog.cellsOf e = kd.sz) {fuel : Nat} {cs : List Value} {x : DataW H × List MemPlace}
  (h : DataW.trod enc Tryz.prog w base spare held fuel t cs = some x) (hel : ∀ n cs' y, n < fuel → DataW.trod enc Tryz.prog w base spare held n e cs' = some y → ∃ p, kd.K w p cs' ∧ Q p y.1) :
  ∃ A xs c ds, cs = [.slice A xs.length c] ∧ xs.length ≤ c ∧ kd.C w A xs.length xs ∧ ((∃ sp, x.1 = .slice ds sp) ∨ x.1 = .nil ∧ ds = []) ∧ ds.length = xs.length ∧ ∀ (i : Nat) p d, xs[i]? = some p → ds[i]? = some d → Q p d := by
 rcases DataW.trod_slice ht h with ⟨rfl, rfl⟩ | ⟨a, len, cap, elems, rest, n, rfl, rfl, rfl, hb, hl, hm, hlen, hel', _, _⟩
 ·exact ⟨none, [], 0, [], rfl, Nat.le_refl _, ⟨rfl, Nat.zero_le _, fun h => by simp at h⟩, .inr ⟨rfl, rfl⟩, rfl, fun i p d hp => by simp at hp⟩
 ·obtain ⟨V, hV⟩ := Go.Deep.choose_lt (α := α) (n := len) (p := fun i p => ∃ cs' y, w.cells? base (a.add (i * kd.sz)) kd.sz = some cs' ∧ elems[i]? = some y ∧ kd.K w p cs' ∧ Q p y.1) (fun i hi => by
   have he := hel' i hi
   rw [List.getElem?_eq_getElem (by omega)] at he
   obtain ⟨cs', h1, h2⟩ := Option.bind_eq_some_iff.1 he
   obtain ⟨p, hK, hQ⟩ := hel n cs' _ (Nat.lt_succ_self _) h2
   rw [hc] at h1
   exact ⟨p, cs', _, h1, List.getElem?_eq_getElem (by omega), hK, hQ⟩)
  refine ⟨some a, (List.range len).map V, cap, elems.map (·.1), by simp, by simpa using hl, ⟨rfl, ?_, fun hp => ⟨a, rfl, fun j p hj => ?_⟩⟩, .inl ⟨_, rfl⟩, by simp [hlen], fun i p d hp hd => ?_⟩
  ·simp only [List.length_map, List.length_range]
   unfold maxLen at hm
   omega
  ·have hlt : j < len := by
    have := (List.getElem?_eq_some_iff.1 hj).1
    simpa using this
   have hpj : p = V j := by
    rw [List.getElem?_map, List.getElem?_range hlt] at hj
    exact (Option.some.inj hj).symm
   subst hpj
   obtain ⟨cs', y, h1, _, hK, _⟩ := hV j hlt
   obtain ⟨_, hlen', hcell⟩ := World.cells?_some h1
   refine ⟨cs', hlen', hK, fun i u hu => ?_⟩
   have hi : i < kd.sz := by rw [← hlen']; exact (List.getElem?_eq_some_iff.1 hu).1
   have := hcell i hi
   rw [hu, Addr.add_add] at this
   exact this
  ·have hlt : i < len := by
    have := (List.getElem?_eq_some_iff.1 hp).1
    simpa using this
   obtain ⟨cs', y, _, h2, _, hQ⟩ := hV i hlt
   have hpj : p = V i := by
    rw [List.getElem?_map, List.getElem?_range hlt] at hp
    exact (Option.some.inj hp).symm
   subst hpj
   rw [List.getElem?_map, h2] at hd
   rw [← Option.some.inj hd]
   exact hQ
theorem bulk_one (d : DataW H) : 1 ≤ Rows.uptoBulk d := by
 cases d with
 | lit l => cases l <;> simp [Rows.uptoBulk]
 | nil => simp [Rows.uptoBulk]
 | ptr d => simp [Rows.uptoBulk]
 | slice a b => simp [Rows.uptoBulk]
 | agg a => simp [Rows.uptoBulk]
 | iface a d => simp [Rows.uptoBulk]
 | map es => simp [Rows.uptoBulk]
 | held h => simp [Rows.uptoBulk]
def sumOf {α : Type} (f : α → Nat) : List α → Nat
 | [] => 0
 | x :: r => f x + sumOf f r
theorem bulk_all {α : Type} (f : α → Nat) : ∀ (xs : List α) (ds : List (DataW H)), ds.length = xs.length → (∀ (i : Nat) p d, xs[i]? = some p → ds[i]? = some d → f p ≤ Rows.uptoBulk d) → sumOf f xs ≤ Rows.uptoBulkAll ds
 | [], ds, _, _ => Nat.zero_le _
 | x :: r, [], hl, _ => by simp at hl
 | x :: r, d :: ds, hl, h => by
  have h0 := h 0 x d rfl rfl
  have h1 := bulk_all f r ds (by simpa using hl) (fun i p d' hp hd => h (i + 1) p d' (by simpa using hp) (by simpa using hd))
  show f x + sumOf f r ≤ Rows.uptoBulkAll (d :: ds)
  simp only [Rows.uptoBulkAll]
  omega
theorem bulk_slice {α : Type} (f : α → Nat) {xs : List α} {ds : List (DataW H)} {d : DataW H} (hd : (∃ sp, d = .slice ds sp) ∨ d = .nil ∧ ds = []) (hl : ds.length = xs.length) (h : ∀ (i : Nat) p d, xs[i]? = some p → ds[i]? = some d → f p ≤ Rows.uptoBulk d) : sumOf f xs + 1 ≤ Rows.uptoBulk d := by
 have h1 := bulk_all f xs ds hl h
 rcases hd with ⟨sp, rfl⟩ | ⟨rfl, rfl⟩
 ·simp only [Rows.uptoBulk]
  omega
 ·simp only [Rows.uptoBulk]
  simp only [Rows.uptoBulkAll] at h1
  omega
theorem sum_len {α : Type} (l : List α) : sumOf (fun _ => 1) l = l.length := by
 induction l with
 | nil => rfl
 | cons x r ih => simp only [sumOf, ih, List.length_cons]; omega
theorem sum_bigL (l : List S30) : sumOf big l = bigL l := by
 induction l with
 | nil => rfl
 | cons x r ih => simp only [sumOf, ih, bigL]
theorem open_intsC {fuel : Nat} {cs : List Value} {x : DataW H × List MemPlace} (h : DataW.trod enc Tryz.prog w base spare held fuel 27 cs = some x) :
  ∃ A xs c, cs = [.slice A xs.length c] ∧ xs.length ≤ c ∧ (Kd.int .i64).C w A xs.length xs ∧ xs.length + 1 ≤ Rows.uptoBulk x.1 := by
 obtain ⟨A, xs, c, ds, h1, h2, h3, h4, h5, h6⟩ := opened (kd := Kd.int .i64) (Q := fun (s : Int) d => 1 ≤ Rows.uptoBulk d) Tryz.underlying27 (by kernel_rfl) h (fun n cs' y _ hy => by
  obtain ⟨s, rfl, rfl, hs⟩ := DataW.trod_int Tryz.underlying3 hy
  exact ⟨s, rfl, bulk_one _⟩)
 have := bulk_slice (fun _ => 1) h4 h5 h6
 rw [sum_len] at this
 exact ⟨A, xs, c, h1, h2, h3, this⟩
instance inh30 : Inhabited S30 := ⟨z30⟩
theorem three {l : List Value} (h : l.length = 3) : ∃ a b c, l = [a, b, c] := by
 match l, h with
 | [a, b, c], _ => exact ⟨a, b, c, rfl⟩
set_option maxRecDepth 100000 in
theorem open_treesC (fuel : Nat) : (∀ cs (x : DataW H × List MemPlace), DataW.trod enc Tryz.prog w base spare held fuel 30 cs = some x → ∃ p A1 c1 A2 c2, cs = [.string p.f0, .slice A1 p.f1.length c1, .slice A2 p.f2.length c2] ∧ TreeV w p A1 c1 A2 c2 ∧ big p ≤ Rows.uptoBulk x.1) ∧
  ∀ cs (x : DataW H × List MemPlace), DataW.trod enc Tryz.prog w base spare held fuel 28 cs = some x → ∃ A xs c, cs = [.slice A xs.length c] ∧ xs.length ≤ c ∧ k30.C w A xs.length xs ∧ bigL xs + 1 ≤ Rows.uptoBulk x.1 := by
 induction fuel using Nat.strongRecOn with
 | _ fuel ih =>
  have h28 : ∀ cs (x : DataW H × List MemPlace), DataW.trod enc Tryz.prog w base spare held fuel 28 cs = some x → ∃ A xs c, cs = [.slice A xs.length c] ∧ xs.length ≤ c ∧ k30.C w A xs.length xs ∧ bigL xs + 1 ≤ Rows.uptoBulk x.1 := by
   intro cs x h
   obtain ⟨A, xs, c, ds, h1, h2, h3, h4, h5, h6⟩ := opened (kd := k30) (Q := fun p d => big p ≤ Rows.uptoBulk d) Tryz.underlying28 (by kernel_rfl) h (fun n cs' y hn hy => by
    obtain ⟨p, A1, c1, A2, c2, rfl, tv, hb⟩ := (ih n hn).1 cs' y hy
    exact ⟨p, k30_mk w p tv.l1 tv.v tv.l2 tv.k, hb⟩)
   have := bulk_slice big h4 h5 h6
   rw [sum_bigL] at this
   exact ⟨A, xs, c, h1, h2, h3, this⟩
  refine ⟨fun cs x h => ?_, h28⟩
  obtain ⟨xs, n, rfl, rfl, hl, hlen, hf⟩ := DataW.trod_struct Tryz.underlying30 h
  obtain ⟨a, b, c, rfl⟩ := three (hl.trans (by kernel_rfl))
  match xs, hlen with
  | [y0, y1, y2], _ =>
   have f0 := hf 0 _ rfl
   have f1 := hf 1 _ rfl
   have f2 := hf 2 _ rfl
   have g0 : DataW.trod enc Tryz.prog w base spare held n 9 [a] = some y0 := f0
   have g1 : DataW.trod enc Tryz.prog w base spare held n 27 [b] = some y1 := f1
   have g2 : DataW.trod enc Tryz.prog w base spare held n 28 [c] = some y2 := f2
   obtain ⟨s, hs, rfl, _⟩ := DataW.trod_string Tryz.underlying9 g0
   obtain ⟨A1, zs, c1, hz, l1, r1, b1⟩ := open_intsC g1
   obtain ⟨A2, ts, c2, ht, l2, r2, b2⟩ := (ih n (Nat.lt_succ_self _)).2 _ _ g2
   injection hs with hs
   injection hz with hz
   injection ht with ht
   subst hs
   subst hz
   subst ht
   refine ⟨⟨s, zs, ts⟩, A1, c1, A2, c2, rfl, ⟨l1, r1, l2, r2⟩, ?_⟩
   rw [big_eq]
   show s.size + zs.length + bigL ts + 1 ≤ _
   have es : s.data.toList.length = s.size := rfl
   simp only [List.map_cons, List.map_nil, Rows.uptoBulk, Rows.uptoBulkAll]
   omega
end
theorem agg3 {v a b c : Value} (h : v.cells.toList = [a, b, c]) : v = .agg #[a, b, c] := by
 cases v <;> simp [Value.cells] at h
 rename_i xs
 obtain ⟨l⟩ := xs
 simp at h
 rw [h]
theorem xP : PrintExtra Tryz.prog Tryz.lays339_ren := ⟨by kernel_rfl, by kernel_rfl, by kernel_rfl, by kernel_rfl, by kernel_rfl, by kernel_rfl, by kernel_rfl, by kernel_rfl, by kernel_rfl, by kernel_rfl⟩
theorem xU : U8Extra Tryz.prog Tryz.lays260_ren := ⟨by kernel_rfl, by kernel_rfl, by kernel_rfl, by kernel_rfl, by kernel_rfl, by kernel_rfl, by kernel_rfl⟩
end
open Go.RowKit Go.ChangeShapes Go.WideShapes Go.ChangeAt
section
theorem own : ownKnob Tryz.prog.godebug = none := by kernel_rfl
theorem laidOut : laidOutB Tryz.prog = true := by kernel_rfl
def laidL : List (String × DataW Unit) := Rows.semanticsSubjectUptoRow.laid
theorem laidL_plain : (laidL.all fun x => x.2.handleName?.isNone) = true := by kernel_rfl
theorem accept_eq : (Rows.laid_unicode_utf8_acceptRanges : DataW Unit) = Lib.acceptData := by kernel_rfl
theorem pow_eq : (Rows.laid_internal_strconv_uint64pow10 : DataW Unit) = Lib.tabData .u64 Lib.pow10Tab := by kernel_rfl
theorem tabs_of_laid {W : World} (h : laidMetH Tryz.prog laidL W) : Tabs Lib.goPrintTabs W := by
 rw [MakeChecks.laidMetH_plain _ _ _ laidL_plain] at h
 have hL := h
 refine ⟨printTabs_of_reads Tryz.lays339 xP
   (Pinned.isPrint16_eq ▸ Lib.laidMet.reads hL (.tail _ (.tail _ (.tail _ (.tail _ (.tail _ (.tail _ (.tail _ (.head _)))))))))
   (Pinned.isNotPrint16_eq ▸ Lib.laidMet.reads hL (.tail _ (.tail _ (.tail _ (.tail _ (.tail _ (.head _)))))))
   (Pinned.isPrint32_eq ▸ Lib.laidMet.reads hL (.tail _ (.tail _ (.tail _ (.tail _ (.tail _ (.tail _ (.tail _ (.tail _ (.head _))))))))))
   (Pinned.isNotPrint32_eq ▸ Lib.laidMet.reads hL (.tail _ (.tail _ (.tail _ (.tail _ (.tail _ (.tail _ (.head _)))))))),
  utf8Tabs_of_reads Tryz.lays260 xU
   (Pinned.utf8First_eq ▸ Lib.laidMet.reads hL (.tail _ (.tail _ (.tail _ (.tail _ (.tail _ (.tail _ (.tail _ (.tail _ (.tail _ (.head _)))))))))))
   (accept_eq ▸ Lib.laidMet.reads hL (.tail _ (.tail _ (.tail _ (.head _))))), ?_⟩
 have h2 := laidMet.tail (laidMet.tail hL)
 exact Lib.tabIs_of_head (zs := Lib.pow10Tab) (g := 0) (t := 209) (e := 198) (n := 20) (by kernel_rfl) (by kernel_rfl) (by kernel_rfl) (by kernel_rfl) (by kernel_rfl) (by kernel_rfl) (pow_eq ▸ h2)
noncomputable def w0 (os : Os) : World := World.laidAll Tryz.prog os laidL
theorem w0_shaped (os : Os) (args : Array Value) : ((w0 os).forCall (fun _ _ => 0) ⟨#[], args, []⟩).Shaped Tryz.prog :=
 World.shaped_of_ZipB (by kernel_rfl) (by kernel_rfl)
theorem w0_met (os : Os) (args : Array Value) : laidMetH Tryz.prog laidL ((w0 os).forCall (fun _ _ => 0) ⟨#[], args, []⟩).memory := by
 rw [MakeChecks.laidMetH_plain _ _ _ laidL_plain]
 exact laidMet_laidAll _ (by kernel_rfl) (by kernel_rfl)
section
variable {H : Type} {enc : TypeId × Value → H}
theorem row_witness {f : FuncId} {fn : Func} {s : OpenSpec} {conds : List PathCond} {apart : Bool} (os : Os) (args : Array Value)
  (hok : Input.okWideB Tryz.prog ((w0 os).forCall (fun _ _ => 0) ⟨#[], args, []⟩) f ⟨#[], args, []⟩ = true)
  (hrow : s.preRow enc Tryz.prog fn conds apart laidL ((w0 os).forCall (fun _ _ => 0) ⟨#[], args, []⟩).memory args) :
  ∃ (w : World) (tape : Tape) (i : Input), w.os = os ∧ (w.forCall tape i).Shaped Tryz.checked.prog ∧ i.vars = [] ∧ Input.okWide Tryz.checked.prog (w.forCall tape i) .any w.heap.size f i ∧
   s.preRow enc Tryz.checked.prog fn conds apart laidL (w.forCall tape i).memory i.args ∧ ({} : Assume).holds Tryz.checked.prog (lone (Frame.enter Tryz.checked.prog f i.args .normal) [] (w.forCall tape i)) :=
 ⟨w0 os, fun _ _ => 0, ⟨#[], args, []⟩, World.laidAll_os _ _ _, w0_shaped os args, (Input.okWide_of_okWideB (base := 0) hok).1, (Input.okWide_of_okWideB hok).2, hrow, by
  simp only [Assume.holds]
  exact ⟨by simp, by simp, fun _ => Modest.zero, by simp, by simp⟩⟩
end
end
end Go.Proofs.YtcfjomnihhdpaaaGreatDoor.A
namespace Go.Proofs.YtcfjomnihhdpaaaGreatDoor
open Go
set_option maxRecDepth 100000
theorem seatTie1 : Tryz.prog.laidByTextLater [("math/bits.deBruijn32tab", Rows.laid_math_bits_deBruijn32tab), ("math/bits.deBruijn64tab", Rows.laid_math_bits_deBruijn64tab), ("internal/strconv.uint64pow10", Rows.laid_internal_strconv_uint64pow10), ("unicode/utf8.acceptRanges", Rows.laid_unicode_utf8_acceptRanges)] [.data, .data, .data, .data] true :=
 Program.laidByTextLater_by_one 34 8 65 (by kernel_rfl) (by kernel_rfl) (by kernel_rfl) (by kernel_rfl) (by kernel_rfl) (by kernel_rfl) (fun _ _ => by kernel_rfl)
theorem pin_laid_strconv_isGraphic : Tryz.pinned.checked.prog.pinnedFits "strconv.isGraphic" = true := by kernel_rfl
theorem pin_laid_strconv_isNotPrint16 : Tryz.pinned.checked.prog.pinnedFits "strconv.isNotPrint16" = true := by kernel_rfl
theorem pin_laid_strconv_isNotPrint32 : Tryz.pinned.checked.prog.pinnedFits "strconv.isNotPrint32" = true := by kernel_rfl
theorem pin_laid_strconv_isPrint16 : Tryz.pinned.checked.prog.pinnedFits "strconv.isPrint16" = true := by kernel_rfl
theorem pin_laid_strconv_isPrint32 : Tryz.pinned.checked.prog.pinnedFits "strconv.isPrint32" = true := by kernel_rfl
theorem pin_laid_unicode_utf8_first : Tryz.pinned.checked.prog.pinnedFits "unicode/utf8.first" = true := by kernel_rfl
theorem noOwnUnsafe : Tryz.pinned.checked.prog.headLifts.contains "ownunsafe" = false := by kernel_rfl
theorem fits1 : Tryz.pinned.checked.prog.listedFits [("math/bits.deBruijn32tab", Rows.laid_math_bits_deBruijn32tab), ("math/bits.deBruijn64tab", Rows.laid_math_bits_deBruijn64tab), ("internal/strconv.uint64pow10", Rows.laid_internal_strconv_uint64pow10), ("unicode/utf8.acceptRanges", Rows.laid_unicode_utf8_acceptRanges), ("strconv.isGraphic", Rows.laid_strconv_isGraphic), ("strconv.isNotPrint16", Rows.laid_strconv_isNotPrint16), ("strconv.isNotPrint32", Rows.laid_strconv_isNotPrint32), ("strconv.isPrint16", Rows.laid_strconv_isPrint16), ("strconv.isPrint32", Rows.laid_strconv_isPrint32), ("unicode/utf8.first", Rows.laid_unicode_utf8_first)] = true := by
 unfold Program.listedFits
 rw [noOwnUnsafe]
 kernel_rfl
theorem tie : Tryz.prog.laidByTextLater [("math/bits.deBruijn32tab", Rows.laid_math_bits_deBruijn32tab), ("math/bits.deBruijn64tab", Rows.laid_math_bits_deBruijn64tab), ("internal/strconv.uint64pow10", Rows.laid_internal_strconv_uint64pow10), ("unicode/utf8.acceptRanges", Rows.laid_unicode_utf8_acceptRanges)] [.data, .data, .data, .data] true :=
 Program.laidByTextLater.sub seatTie1 ["math/bits.deBruijn32tab", "math/bits.deBruijn64tab", "internal/strconv.uint64pow10", "unicode/utf8.acceptRanges"] (by kernel_rfl) (by kernel_rfl)
theorem semanticsReplacedUpto_row_tie : Rows.semanticsReplacedUptoRow.laidByTextAt .later Tryz.pinned [.data, .data, .data, .data, .pinned, .pinned, .pinned, .pinned, .pinned, .pinned] true :=
 OpenClaim.laidByTextAt_pinned rfl rfl tie rfl rfl rfl rfl (fun y hy _e => by
  simp only [Rows.semanticsReplacedUptoRow, List.zip_cons_cons, List.zip_nil_right, List.mem_cons, List.mem_nil_iff, or_false] at hy
  rcases hy with rfl | rfl | rfl | rfl | rfl | rfl | rfl | rfl | rfl | rfl
  ·cases _e
  ·cases _e
  ·cases _e
  ·cases _e
  ·exact ⟨pin_laid_strconv_isGraphic, by kernel_rfl⟩
  ·exact ⟨pin_laid_strconv_isNotPrint16, by kernel_rfl⟩
  ·exact ⟨pin_laid_strconv_isNotPrint32, by kernel_rfl⟩
  ·exact ⟨pin_laid_strconv_isPrint16, by kernel_rfl⟩
  ·exact ⟨pin_laid_strconv_isPrint32, by kernel_rfl⟩
  ·exact ⟨pin_laid_unicode_utf8_first, by kernel_rfl⟩) fits1
end Go.Proofs.YtcfjomnihhdpaaaGreatDoor
