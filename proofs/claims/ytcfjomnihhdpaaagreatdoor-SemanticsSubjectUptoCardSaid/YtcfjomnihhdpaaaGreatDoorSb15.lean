/-
  A part of the proof: Q27, R72, R74, R76, R75, R77.
-/
import Derived.Defers
import Derived.Recover
import Derived.Deep.RegionLaw
import Derived.Deep.Cut
import Derived.Deep.DeepMust
import Derived.Test.YtcfjomnihhdpaaaGreatDoorSb14
namespace Go.Proofs.YtcfjomnihhdpaaaGreatDoor.A
open Go.RowKit Go.Proofs.YtcfjomnihhdpaaaGreatDoorW.PrintWords Go.Proofs.YtcfjomnihhdpaaaGreatDoorW.PrintLast Go.Proofs.YtcfjomnihhdpaaaGreatDoorW.PrintMore
set_option linter.unusedVariables false
set_option linter.unusedSimpArgs false
section
attribute [local go_sem] Oper.semAt_some
set_option maxHeartbeats 2000000 in
set_option maxRecDepth 100000 in
theorem with_reg22 {Q : Exit → Act → World → Prop} (t x : S30) (hl : 0 < t.f2.length) (hm : t.f2.length ≤ 2000000) (w0 W : World) (h0 : Below w0.heap.size w0 W) (bt b8 b9 M : Nat) (A1 : Option Addr) (c1 : Nat) (A2 : Option Addr) (c2 : Nat) (tv : TreeV w0 t A1 c1 A2 c2) (X1 : Option Addr) (e1 : Nat) (X2 : Option Addr) (e2 : Nat) (xt : W.heap[bt]? = some (.cells #[.string t.f0, .slice A1 t.f1.length c1, .slice A2 t.f2.length c2] 30 (0, 0))) (x8 : W.heap[b8]? = some (.cells #[.string x.f0, .slice X1 x.f1.length e1, .slice X2 x.f2.length e2] 30 (0, 0))) (x9 : W.heap[b9]? = some (.cells #[.string t.f0, .slice A1 t.f1.length c1, .slice A2 t.f2.length c2] 30 (0, 0))) (hM : w0.heap.size ≤ M) (hM9 : M ≤ b9) (tx : TreeF W (fun k => k < w0.heap.size ∨ M ≤ k ∧ k ≠ b9) x X1 e1 X2 e2)
  (f : Nat → Value) (f2 : f 2 = .pointer (some ⟨bt, 0, none⟩)) (f8 : f 6 = .pointer (some ⟨b8, 0, none⟩)) (f9 : f 9 = .pointer (some ⟨b9, 0, none⟩))
  (k : ∀ g V A3 c3, g 4 = f 4 → g 9 = f 9 → V.heap[b9]? = some (.cells #[.string t.f0, .slice A1 t.f1.length c1, .slice A3 (x :: t.f2.drop 1).length c3] 30 (0, 0)) → (∀ j, j < W.heap.size → j ≠ b9 → V.heap[j]? = W.heap[j]?) → (∀ B, B ≤ b9 → Below B W V) → (x :: t.f2.drop 1).length ≤ c3 → Kd.F k30 V (fun k => k < w0.heap.size ∨ M ≤ k ∧ k ≠ b9) A3 (x :: t.f2.drop 1).length (x :: t.f2.drop 1) → Q .normal (frN 40 g) V) :
  Code.wp Tryz.prog (.region 11 (opsOf Tryz.f22 11) true) Q (frN 40 f) W := by
 obtain ⟨ad, rfl, _⟩ := tv.k.2.2 hl
 have h9 := blk_lt x9
 simp only [opsOf, Tryz.f22, Option.bind_some, opsIn, Option.getD_some, Option.orElse, reduceIte, Nat.reduceEqDiff, Option.or_some, Option.none_or, Option.some_or, beq_iff_eq, Nat.reduceBEq, Bool.false_eq_true]
 have b2 : ∀ {V}, Below W.drew.heap.size W.drew V → Below W.heap.size W V := fun hB => below_step (below_drew (Below.refl _ _)) hB
 have b0 : ∀ {V}, Below W.drew.heap.size W.drew V → Below w0.heap.size w0 V := fun hB => below_step h0 (b2 hB)
 have HFT := Kd.F_cut (Kd.C_F k30_heap tv.k) (m := 1) hl tv.l2
 have HA : (if c2 = 1 then some ad else Option.map (fun x => x.add (1 * k30.sz)) (some ad)) = (if c2 = 1 then some ad else some ⟨ad.block, ad.off + 3, none⟩) := by split; rfl; exact congrArg some ((add_field ad 0 3 (by omega)).trans (by rw [Addr.add_zero']))
 have hlen : (t.f2.drop 1).length = t.f2.length - 1 := List.length_drop
 rw [HA, hlen] at HFT
 have hw0 := h0.size
 refine region_ke 7 40 1 5 [.is (.agg #[.string x.f0, .slice X1 x.f1.length e1, .slice X2 x.f2.length e2]), .one W.heap.size #[.string x.f0, .slice X1 x.f1.length e1, .slice X2 x.f2.length e2], .is (.pointer (some ⟨bt, 2, none⟩)), .is (.slice (some ad) t.f2.length c2), .is (.slice (if c2 = 1 then some ad else some ⟨ad.block, ad.off + 3, none⟩) (t.f2.length - 1) (c2 - 1)), .rows (fun k => k < w0.heap.size ∨ M ≤ k ∧ k ≠ b9) (x :: t.f2.drop 1), .is (.pointer (some ⟨b9, 2, none⟩))] [32, 33, 34, 35, 36, 37, 38, 907] f W rfl (by kernel_rfl) (by kernel_rfl) (by kernel_rfl) ?_ (by decide) ⟨
  fun q V J hB hq h hi => op_ldT (ad := ⟨b8, 0, none⟩) hi rfl rfl f8 (blk_cell (blk_below x8 (b2 hB)) 0) (blk_cell (blk_below x8 (b2 hB)) 1) (blk_cell (blk_below x8 (b2 hB)) 2) (h _ _ rfl (.refl _ _)),
  fun q V J hB hq h hi => op_row30 hi rfl rfl (hq 0 (by decide) rfl) (h _ _ ⟨_, rfl, (b2 hB).size, blk_new V _⟩ (below_alloc (.refl _ _) _)),
  fun q V J hB hq h hi => op_fa (c := 2) hi rfl rfl f2 (h _ _ rfl (.refl _ _)),
  fun q V J hB hq h hi => op_ld28 hi rfl rfl (hq 2 (by decide) rfl) (blk_cell (blk_below xt (b2 hB)) 2) (h _ _ rfl (.refl _ _)),
  fun q V J hB hq h hi => op_sl1 hi rfl rfl (hq 3 (by decide) rfl) hl tv.l2 (h _ _ rfl (.refl _ _)),
  fun q V J hB hq h hi => ?_,
  fun q V J hB hq h hi => op_fa (c := 2) hi rfl rfl f9 (h _ _ rfl (.refl _ _)), trivial⟩ ?_
 ·intro j hd he v w w' h hB
  match j, hd, he, h with
  | 0, _, _, h => exact h
  | 2, _, _, h => exact h
  | 3, _, _, h => exact h
  | 4, _, _, h => exact h
  | 6, _, _, h => exact h
  | j + 7, _, _, h => exact h
 ·obtain ⟨g, ea, hg, hb⟩ := hq 1 rfl
  have eb := hq 4 rfl
  have hx := (tx.mono (ok' := fun k => (k < w0.heap.size ∨ M ≤ k ∧ k ≠ b9) ∧ k ≠ g) (fun k hk hlt => ⟨hk, by omega⟩)).step (fun k _ hlt => (b2 hB).block k hlt)
  refine wpOp_step hi (fun K hK => ?_)
  refine Kd.N_append_rows_step k30 (w0 := V) 0 (wanted_none rfl) _ _ 28 30 (.agg #[.string ⟨#[]⟩, .slice none 0 0, .slice none 0 0]) 64 rfl Tryz.underlying28 (by kernel_rfl) rfl (by decide) (by decide) (.slice (some ⟨g, 0, none⟩) 1 1) [x] (t.f2.drop 1) (if c2 = 1 then some ad else some ⟨ad.block, ad.off + 3, none⟩) (t.f2.length - 1) (c2 - 1) (fun k => k < w0.heap.size ∨ M ≤ k ∧ k ≠ b9) (fun k => k < w0.heap.size) ea eb (N_one (d := k30) (c := [.string x.f0, .slice X1 x.f1.length e1, .slice X2 x.f2.length e2]) hb (k30_mkF _ _ x hx.l1 hx.v hx.l2 hx.k) (.inr ⟨by omega, by omega⟩)) (Kd.F_step HFT (fun k hk _ => (b0 hB).block k hk)) (fun k hk => ⟨.inl hk, by simp [Value.ownBlock]; omega⟩) (fun k hk => .inr (by have := (b2 hB).size; omega)) (Below.refl 0 _) (Nat.zero_le _) (by simp; omega) ?_
  intro v1 w1 hN _ hgr _
  obtain ⟨A3, c3, rfl, hle, _⟩ := Kd.N_reads hN
  refine hK _ _ (h _ _ ⟨A3, c3, rfl, hle, Kd.N_F hN⟩ (hB.grown hgr hB.size (fun k hk => ?_)))
  simp [Value.ownBlock] at hk
  show W.heap.size ≤ k
  omega
 ·intro o q V hi hB hx
  injection hi with hi
  subst hi
  obtain ⟨A3, c3, e5, hle, hF⟩ := hx 5 (by decide) (by decide)
  refine op_stc rfl rfl rfl rfl (hx 6 (by decide) (by decide)) e5 (blk_below x9 (b2 hB)) rfl ?_
  exact k _ _ A3 c3 rfl rfl (blk_put (blk_below x9 (b2 hB)) 2 _ rfl) (fun j hj hn => (Below.heap_setCell _ ⟨b9, 2, none⟩ _ j hn).trans ((b2 hB).block j hj)) (fun B hb => ((b2 hB).mono (by omega)).setCell (p := ⟨b9, 2, none⟩) hb _) hle (Kd.F_step hF fun k hk _ => Below.heap_setCell _ ⟨b9, 2, none⟩ _ k (by show k ≠ b9; omega))
def Kb.treO (ok : Nat → Prop) (t : S30) : Kb := ⟨fun v w pr => ∃ A a B b, v = .agg #[.string t.f0, .slice A t.f1.length a, .slice B t.f2.length b] ∧ TreeF w (fun k => ok k ∧ ¬ pr k) t A a B b, fun v w pr w' pr' h hc => by
 obtain ⟨A, a, B, b, e, h⟩ := h
 exact ⟨A, a, B, b, e, ((h.mono (ok' := fun k => (ok k ∧ ¬ pr k) ∧ k < w.heap.size) (fun k hk hlt => ⟨hk, hlt⟩)).step (fun k hk hlt => hc.block k hlt hk.1.2)).mono (fun k hk _ => ⟨hk.1.1, fun hp => hk.1.2 ((hc.pr k hk.2).1 hp)⟩)⟩⟩
def Kb.tupO (ok : Nat → Prop) (t : S30) (c : Bool) : Kb := ⟨fun v w pr => ∃ u, v = .tuple #[u, .bool c] ∧ (Kb.treO ok t).In u w pr, fun v w pr w' pr' h hc => h.imp fun u h => ⟨h.1, (Kb.treO ok t).st _ _ _ _ _ h.2 hc⟩⟩
section
variable {ops : Array Oper} {Q : Exit → Act → World → Prop} {i : Nat} {o : Oper} {J : Act → World → Prop} {a : Act} {w : World}
theorem op_eqI {k : Tmp} {n m : Int} (hi : ops[i]? = some o) (hg : o.guard = none) (ho : o.op = .binOp .eql 3 (.tmp k) (.const (.int .i64 m)) 3) (ha : a.tmps[k]?.getD undef = .int .i64 n) (h : J (a.put o.dst (.bool (n == m))) w) : wpOp Tryz.prog ops Q i J a w := by
 refine op_value hi (wanted_none hg) (w' := w) ?_ h
 unfold execOp
 rw [ho]
 go_simp
theorem op_asgc {v : Value} (hi : ops[i]? = some o) (hg : o.guard = none) (ho : o.op = .assign (.const v)) (h : J (a.put o.dst v) w) : wpOp Tryz.prog ops Q i J a w := by
 refine op_value hi (wanted_none hg) (w' := w) ?_ h
 unfold execOp
 rw [ho]
 go_simp
theorem op_bt0 (hi : ops[i]? = some o) (hg : o.guard = none) (ho : o.op = .build 30 #[]) (h : J (a.put o.dst (.agg #[.string ⟨#[]⟩, .slice none 0 0, .slice none 0 0])) w) : wpOp Tryz.prog ops Q i J a w := by
 refine op_value hi (wanted_none hg) (w' := w) ?_ h
 unfold execOp
 rw [ho]
 go_simp
theorem op_place {k : Tmp} {ts : Array TypeId} {t : S30} {A1 A2 : Option Addr} {c1 c2 : Nat} (hi : ops[i]? = some o) (hg : o.guard = none) (ho : o.op = .call { callee := .value (.func 53), args := #[.tmp k], argTypes := ts }) (ha : a.tmps[k]?.getD undef = .agg #[.string t.f0, .slice A1 t.f1.length c1, .slice A2 t.f2.length c2]) (h : ∀ w', Below w.heap.size w w' → J (a.put o.dst (.int .i64 (placeP t))) w') : wpOp Tryz.prog ops Q i J a w := by
 refine op_call hi (wanted_none hg) ?_ ((place_calls t w A1 c1 A2 c2).mono ?_)
 ·have he := enters_of Tryz.func53 (by kernel_rfl) rfl #[.agg #[.string t.f0, .slice A1 t.f1.length c1, .slice A2 t.f2.length c2]] w
  unfold execOp
  rw [ho]
  go_simp
 ·rintro e w' ⟨rfl, hb⟩
  exact ⟨_, rfl, h w' hb⟩
theorem op_wth22 {k1 k2 : Tmp} {ts : Array TypeId} {t np : S30} {W : World} {A1 A2 N1 N2 : Option Addr} {c1 c2 n1 n2 : Nat} {r : Option S30} {pr ok : Nat → Prop} (hi : ops[i]? = some o) (hg : o.guard = none) (ho : o.op = .call { callee := .value (.func 22), args := #[.tmp k1, .tmp k2], argTypes := ts }) (h1 : a.tmps[k1]?.getD undef = .agg #[.string t.f0, .slice A1 t.f1.length c1, .slice A2 t.f2.length c2]) (h2 : a.tmps[k2]?.getD undef = .agg #[.string np.f0, .slice N1 np.f1.length n1, .slice N2 np.f2.length n2]) (hc : Calls Tryz.prog 22 #[.agg #[.string t.f0, .slice A1 t.f1.length c1, .slice A2 t.f2.length c2], .agg #[.string np.f0, .slice N1 np.f1.length n1, .slice N2 np.f2.length n2]] w (WithRet W w r)) (hpr : ∀ k, pr k → W.heap.size ≤ k ∧ k < w.heap.size) (hok : ∀ k, k < W.heap.size ∨ w.heap.size ≤ k → ok k)
  (h : ∀ v w', (Kb.tupO ok (r.getD z30) r.isSome).In v w' pr → Below w.heap.size w w' → J (a.put o.dst v) w') : wpOp Tryz.prog ops Q i J a w := by
 refine op_call hi (wanted_none hg) ?_ (hc.mono fun e w' hr => ?_)
 ·have he := enters_of Tryz.func22 (by kernel_rfl) rfl #[.agg #[.string t.f0, .slice A1 t.f1.length c1, .slice A2 t.f2.length c2], .agg #[.string np.f0, .slice N1 np.f1.length n1, .slice N2 np.f2.length n2]] w
  unfold execOp
  rw [ho]
  go_simp
 obtain ⟨hb, hr⟩ := hr
 cases r with
 | none =>
  obtain rfl := hr
  exact ⟨_, rfl, h _ _ ⟨_, rfl, none, 0, none, 0, rfl, Nat.le_refl _, fun _ _ => Kd.C_nil _ _, Nat.le_refl _, fun _ _ => Kd.C_nil _ _⟩ hb⟩
 | some s =>
  obtain ⟨Y1, g1, Y2, g2, rfl, hx⟩ := hr
  exact ⟨_, rfl, h _ _ ⟨_, rfl, Y1, g1, Y2, g2, rfl, hx.mono (fun k hk _ => ⟨hok k hk, fun hp => by have := hpr k hp; omega⟩)⟩ hb⟩
end
def OnNR (R RR : Act → World → Prop) : Exit → Act → World → Prop
 | .normal, a, w => R a w
 | .ret, a, w => RR a w
 | _, _, _ => False
theorem wp_onNR {P : Program} {c : Code} {Q : Exit → Act → World → Prop} {a : Act} {w : World} (R RR : Act → World → Prop) (h : c.wp P (OnNR R RR) a w) (k : ∀ a' w', R a' w' → Q .normal a' w') (kr : ∀ a' w', RR a' w' → Q .ret a' w') : c.wp P Q a w :=
 Code.wp_mono (fun e a' w' h => by cases e with
  | normal => exact k a' w' h
  | ret => exact kr a' w' h
  | _ => exact False.elim h) h
def St22 (w0 w : World) (t : S30) (A1 : Option Addr) (c1 : Nat) (A2 : Option Addr) (c2 : Nat) (x : S30) (a : Act) (V : World) : Prop := ∃ g X1 e1 X2 e2, a = frN 40 g ∧ g 2 = .pointer (some ⟨w.heap.size, 0, none⟩) ∧ g 4 = .pointer (some ⟨(w.heap.size + 2), 0, none⟩) ∧ g 6 = .pointer (some ⟨(w.heap.size + 3), 0, none⟩) ∧ V.heap[w.heap.size]? = some (.cells #[.string t.f0, .slice A1 t.f1.length c1, .slice A2 t.f2.length c2] 30 (0, 0)) ∧ V.heap[w.heap.size + 2]? = some (.cells #[.string ⟨#[]⟩, .slice none 0 0, .slice none 0 0] 30 (0, 0)) ∧ V.heap[w.heap.size + 3]? = some (.cells #[.string x.f0, .slice X1 x.f1.length e1, .slice X2 x.f2.length e2] 30 (0, 0)) ∧ TreeF V (fun k => k < w0.heap.size ∨ w.heap.size + 4 ≤ k) x X1 e1 X2 e2 ∧ Below w.heap.size w V
set_option maxHeartbeats 4000000 in
set_option maxRecDepth 100000 in
theorem with22_aux (np : S30) (n : Nat) (ih : ∀ t : S30, nodes t ≤ n → Sm t → ∀ (w0 w : World) (A1 : Option Addr) (c1 : Nat) (A2 : Option Addr) (c2 : Nat) (N1 : Option Addr) (n1 : Nat) (N2 : Option Addr) (n2 : Nat), Below w0.heap.size w0 w → TreeV w0 t A1 c1 A2 c2 → TreeV w0 np N1 n1 N2 n2 →
  Calls Tryz.prog 22 #[.agg #[.string t.f0, .slice A1 t.f1.length c1, .slice A2 t.f2.length c2], .agg #[.string np.f0, .slice N1 np.f1.length n1, .slice N2 np.f2.length n2]] w (WithRet w0 w (withP t np))) (t : S30) (hn : nodes t ≤ n + 1) (hsm : Sm t) (w0 w : World) (A1 : Option Addr) (c1 : Nat) (A2 : Option Addr) (c2 : Nat) (N1 : Option Addr) (n1 : Nat) (N2 : Option Addr) (n2 : Nat) (h0 : Below w0.heap.size w0 w) (tv : TreeV w0 t A1 c1 A2 c2) (nv : TreeV w0 np N1 n1 N2 n2) :
  Calls Tryz.prog 22 #[.agg #[.string t.f0, .slice A1 t.f1.length c1, .slice A2 t.f2.length c2], .agg #[.string np.f0, .slice N1 np.f1.length n1, .slice N2 np.f2.length n2]] w (WithRet w0 w (withP t np)) := by
 have hm := (Sm.eq t).1 hsm
 have hw0 := h0.size
 refine calls_frN 40 (fun j => match j with | 0 => .agg #[.string t.f0, .slice A1 t.f1.length c1, .slice A2 t.f2.length c2] | 1 => .agg #[.string np.f0, .slice N1 np.f1.length n1, .slice N2 np.f2.length n2] | _ => undef) Tryz.func22 (show Tryz.f22.body = some _ from rfl) (by kernel_rfl) ?_
 refine wp_seq (wp_region_list (list_op (i := 0) rfl (op_box30 rfl rfl rfl rfl fun u1 xt hb1 hs1 => fop rfl (by decide) (list_op (i := 1) rfl (op_box30 rfl rfl rfl rfl fun u2 xn hb2 hs2 => fop rfl (by decide) (list_op (i := 2) rfl (op_new30 rfl rfl rfl (fop rfl (by decide) (list_op (i := 3) rfl (op_asgc rfl rfl rfl (fop rfl (by decide) ?_)))))))))))
 rw [hs1] at xn hs2 ⊢
 replace xt := blk_below (blk_below xt hb2) (below_alloc (.refl _ _) (.cells #[.string ⟨#[]⟩, .slice none 0 0, .slice none 0 0] 30))
 replace xn := blk_below xn (below_alloc (.refl _ _) (.cells #[.string ⟨#[]⟩, .slice none 0 0, .slice none 0 0] 30))
 have xr := blk_new u2 (.cells #[.string ⟨#[]⟩, .slice none 0 0, .slice none 0 0] 30)
 have hB := below_step (below_step hb1 hb2) (below_alloc (.refl _ _) (.cells #[.string ⟨#[]⟩, .slice none 0 0, .slice none 0 0] 30))
 have hz : (u2.alloc (.cells #[.string ⟨#[]⟩, .slice none 0 0, .slice none 0 0] 30)).heap.size = w.heap.size + 3 := by simp [hs2]
 rw [hs2] at xr ⊢
 generalize u2.alloc (.cells #[.string ⟨#[]⟩, .slice none 0 0, .slice none 0 0] 30) = V at *
 clear hb1 hb2 hs1 hs2
 have x6z := blk_new V (.cells #[.string ⟨#[]⟩, .slice none 0 0, .slice none 0 0] 30)
 refine wp_seq (wp_region_list (list_op (i := 0) rfl (op_ldT (ad := ⟨w.heap.size + 1, 0, none⟩) rfl rfl rfl rfl (blk_cell xn 0) (blk_cell xn 1) (blk_cell xn 2) (fop rfl (by decide) (list_op (i := 1) rfl (op_new30 rfl rfl rfl (fop rfl (by decide) (list_op (i := 2) rfl (op_st30 rfl rfl rfl rfl rfl rfl x6z fun V1 x6 hfar hbl => ?_)))))))))
 have hba := below_alloc (Below.refl V.heap.size V) (.cells #[.string ⟨#[]⟩, .slice none 0 0, .slice none 0 0] 30)
 replace xt := (hfar _ (by omega)).trans (blk_below xt hba)
 replace xn := (hfar _ (by omega)).trans (blk_below xn hba)
 replace xr := (hfar _ (by omega)).trans (blk_below xr hba)
 replace hB := (below_step hB hba).trans (hbl w.heap.size (by omega))
 rw [hz] at x6 ⊢
 clear hba hfar hbl x6z hz V
 refine wp_seq (wp_onNR (fun a' V => ∃ x, withP t np = some ⟨t.f0, t.f1, x :: t.f2.drop 1⟩ ∧ 0 < t.f2.length ∧ St22 w0 w t A1 c1 A2 c2 x a' V) (fun a' V => withP t np = none ∧ a'.defers = [] ∧ a'.tmps.getD 4 undef = .pointer (some ⟨(w.heap.size + 2), 0, none⟩) ∧ a'.tmps.getD 5 undef = .bool false ∧ V.heap[w.heap.size + 2]? = some (.cells #[.string ⟨#[]⟩, .slice none 0 0, .slice none 0 0] 30 (0, 0)) ∧ Below w.heap.size w V) (wp_seq (wp_region_list (list_op (i := 0) rfl (op_ldT (ad := ⟨w.heap.size, 0, none⟩) rfl rfl rfl rfl (blk_cell xt 0) (blk_cell xt 1) (blk_cell xt 2) (fop rfl (by decide) (list_op (i := 1) rfl (op_place rfl rfl rfl rfl fun V2 hb4 => fop rfl (by decide) (wp_block ?_)))))))) ?_ ?_)
 ·replace xt := blk_below xt hb4
  replace xn := blk_below xn hb4
  replace xr := blk_below xr hb4
  replace x6 := blk_below x6 hb4
  replace hB := below_step hB hb4
  have hz := blk_lt x6
  have hb0 := below_step h0 hB
  clear hb4 V1
  generalize hpp : placeP t = p
  have hno : p = 0 → withP t np = none := fun e => by
   subst e
   by_cases h : t.f2.length = 0
   ·exact withP_none h
   ·rw [placeP, if_neg h] at hpp
    rw [withP_some (by omega)]
    by_cases h1 : modalF t.f0 = true
    ·rw [if_pos h1] at hpp; cases hpp
    ·rw [if_neg h1] at hpp ⊢
     by_cases h2 : passF t.f0 = true
     ·rw [if_pos h2] at hpp; cases hpp
     ·rw [if_neg h2]
  by_cases h00 : p = 0
  ·have gp : (Value.int .i64 p) = .int .i64 p := rfl
   refine wp_seq (wp_region_list (list_op (i := 0) rfl (op_eqI (m := 0) rfl rfl rfl gp (fop rfl (by decide) (list_op (i := 1) rfl (op_asg rfl rfl rfl rfl (fop rfl (by decide) (wp_cond (t := true) (by rw [h00]; rfl) ?_))))))))
   refine wp_seq (wp_region_list (list_op (i := 0) rfl (op_bt0 rfl rfl rfl (fop rfl (by decide) (list_op (i := 1) rfl (op_st30 rfl rfl rfl rfl rfl rfl xr fun V9 x9 hf9 hb9 => (list_op (i := 2) rfl (op_asgc rfl rfl rfl (fop rfl (by decide) (wp_ret ?_))))))))))
   exact ⟨hno h00, rfl, rfl, rfl, x9, hB.trans (hb9 _ (by omega))⟩
  ·have hl : 0 < t.f2.length := by
    rcases Nat.eq_zero_or_pos t.f2.length with h | h
    ·rw [placeP, if_pos h] at hpp; exact absurd hpp.symm h00
    ·exact h
   have gp : (Value.int .i64 p) = .int .i64 p := rfl
   refine wp_seq (wp_region_list (list_op (i := 0) rfl (op_eqI (m := 0) rfl rfl rfl gp (fop rfl (by decide) (list_op (i := 1) rfl (op_asg rfl rfl rfl rfl (fop rfl (by decide) (wp_cond (t := false) (by show Value.bool (p == 0) = _; rw [beq_eq_false_iff_ne.mpr h00]) ?_))))))))
   rw [if_neg Bool.false_ne_true]
   rw [placeP, if_neg (by omega)] at hpp
   by_cases h1 : modalF t.f0 = true
   ·rw [if_pos h1] at hpp
    subst hpp
    refine wp_seq (wp_region_list (list_op (i := 0) rfl (op_eqI (m := 2) rfl rfl rfl gp (fop rfl (by decide) (list_op (i := 1) rfl (op_asg rfl rfl rfl rfl (fop rfl (by decide) (wp_cond (t := false) rfl ?_))))))))
    rw [if_neg Bool.false_ne_true]
    exact wp_skip ⟨np, by rw [withP_some hl, if_pos h1], hl, _, N1, n1, N2, n2, rfl, rfl, rfl, rfl, xt, xr, x6, ⟨nv.l1, Kd.F_mono (Kd.F_step (Kd.C_F (Kd.heap_int .i64) nv.v) (fun k hk hlt => hb0.block k hlt)) (fun k hk => .inl hk), nv.l2, Kd.F_mono (Kd.F_step (Kd.C_F k30_heap nv.k) (fun k hk hlt => hb0.block k hlt)) (fun k hk => .inl hk)⟩, hB⟩
   ·rw [if_neg h1] at hpp
    by_cases h2 : passF t.f0 = true
    ·rw [if_pos h2] at hpp
     subst hpp
     refine wp_seq (wp_region_list (list_op (i := 0) rfl (op_eqI (m := 2) rfl rfl rfl gp (fop rfl (by decide) (list_op (i := 1) rfl (op_asg rfl rfl rfl rfl (fop rfl (by decide) (wp_cond (t := true) rfl ?_))))))))
     rw [if_pos rfl]
     have hwp : withP t np = (withP (kidOf t 0) np).map fun x => ⟨t.f0, t.f1, x :: t.f2.drop 1⟩ := by rw [withP_some hl, if_neg h1, if_pos h2]
     have hkn := nodes_kid hn hl
     have hks := hsm.kid hl
     obtain ⟨ad0, B01, d01, B02, d02, e0, y00, y01, y02, l01, i01, l02, i02⟩ := at_T30 tv.k 0 (by omega) (by omega)
     subst e0
     refine wp_seq (wp_out (fun a' V => ∃ g go A a B b, a' = frN 40 g ∧ g 2 = .pointer (some ⟨w.heap.size, 0, none⟩) ∧ g 4 = .pointer (some ⟨(w.heap.size + 2), 0, none⟩) ∧ g 6 = .pointer (some ⟨(w.heap.size + 3), 0, none⟩) ∧ g 7 = .pointer (some ⟨go, 0, none⟩) ∧ g 8 = .bool (withP (kidOf t 0) np).isSome ∧ V2.heap.size ≤ go ∧ V.heap[go]? = some (.cells #[.string ((withP (kidOf t 0) np).getD z30).f0, .slice A ((withP (kidOf t 0) np).getD z30).f1.length a, .slice B ((withP (kidOf t 0) np).getD z30).f2.length b] 30 (0, 0)) ∧ TreeF V (fun k => (k < w0.heap.size ∨ V2.heap.size ≤ k) ∧ k ≠ go) ((withP (kidOf t 0) np).getD z30) A a B b ∧ Below V2.heap.size V2 V) ?_ ?_)
     ·have bw : ∀ {V}, Below V2.drew.heap.size V2.drew V → Below V2.heap.size V2 V := fun hB => below_step (below_drew (Below.refl _ _)) hB
      have b0 : ∀ {V}, Below V2.drew.heap.size V2.drew V → Below w0.heap.size w0 V := fun hB => below_step hb0 (bw hB)
      have hw0 : w0.heap.size ≤ V2.drew.heap.size := hb0.size
      refine region_box 30 #[.string ⟨#[]⟩, .slice none 0 0, .slice none 0 0] (fun v => match v with | .agg a => a | _ => #[]) 40 [.is (.pointer (some ⟨w.heap.size, 2, none⟩)), .is (.slice (some ad0) t.f2.length c2), .is (.pointer (some (ad0.add ((0 : Int).toNat * 3)))), .is (.agg #[.string (kidOf t 0).f0, .slice B01 (kidOf t 0).f1.length d01, .slice B02 (kidOf t 0).f2.length d02]), .is (.agg #[.string np.f0, .slice N1 np.f1.length n1, .slice N2 np.f2.length n2]), .tupO (fun k => k < w0.heap.size ∨ V2.heap.size ≤ k) ((withP (kidOf t 0) np).getD z30) (withP (kidOf t 0) np).isSome, .tupO (fun k => k < w0.heap.size ∨ V2.heap.size ≤ k) ((withP (kidOf t 0) np).getD z30) (withP (kidOf t 0) np).isSome, .treO (fun k => k < w0.heap.size ∨ V2.heap.size ≤ k) ((withP (kidOf t 0) np).getD z30), .is (.bool (withP (kidOf t 0) np).isSome), .top, .top, .is (.bool (withP (kidOf t 0) np).isSome)] [⟨9, 10, 7⟩] [19, 20, 21, 22, 23, 24, 18, 25, 26, 7, 999, 8] _ V2 (by kernel_rfl) (by kernel_rfl) (by kernel_rfl) ?_ ⟨
       fun q V J pr hB hp hq h hi => op_fa (c := 2) hi rfl rfl rfl (h _ _ rfl (.refl _ _)),
       fun q V J pr hB hp hq h hi => op_ld28 hi rfl rfl (hq 0 rfl) (blk_cell (blk_below xt (bw hB)) 2) (h _ _ rfl (.refl _ _)),
       fun q V J pr hB hp hq h hi => op_ix hi rfl rfl (eq_true (by decide)) (eq_true (by omega)) (hq 1 rfl) (h _ _ rfl (.refl _ _)),
       fun q V J pr hB hp hq h hi => op_ldT hi rfl rfl (hq 2 rfl) (pw_cell_below (b0 hB) y00) (pw_cell_below (b0 hB) y01) (pw_cell_below (b0 hB) y02) (h _ _ rfl (.refl _ _)),
       fun q V J pr hB hp hq h hi => op_ldT (ad := ⟨w.heap.size + 1, 0, none⟩) hi rfl rfl rfl (blk_cell (blk_below xn (bw hB)) 0) (blk_cell (blk_below xn (bw hB)) 1) (blk_cell (blk_below xn (bw hB)) 2) (h _ _ rfl (.refl _ _)),
       fun q V J pr hB hp hq h hi => op_wth22 (W := w0) hi rfl rfl (hq 3 rfl) (hq 4 rfl) (ih (kidOf t 0) hkn hks w0 V B01 d01 B02 d02 N1 n1 N2 n2 (b0 hB) ⟨l01, i01, l02, i02⟩ nv) (fun k hk => ⟨Nat.le_trans hw0 (hp k hk).1, (hp k hk).2⟩) (fun k hk => hk.imp id (Nat.le_trans (bw hB).size)) h,
       fun q V J pr hB hp hq h hi => op_mv hi rfl rfl rfl (h _ _ (hq 5 rfl) (.refl _ _)),
       fun q V J pr hB hp hq h hi => by obtain ⟨u, e, hu⟩ := hq 6 rfl; exact op_ext hi rfl rfl e rfl (h _ _ hu (.refl _ _)),
       fun q V J pr hB hp hq h hi => by obtain ⟨u, e, hu⟩ := hq 6 rfl; exact op_ext hi rfl rfl e rfl (h _ _ rfl (.refl _ _)),
       fun x V J h hi => op_new30 hi rfl rfl h,
       fun x V J g pr hx hc hz h hi => by obtain ⟨A, a, B, b, e, _⟩ := hc; exact op_st30 hi rfl rfl rfl hx e hz fun w' h1 h2 h3 => h undef w' (by rw [e]; exact h1) h2 h3,
       fun q V J pr hB hp hq h hi => op_asg hi rfl rfl (hq 8 rfl) (h _ _ rfl (.refl _ _)), trivial⟩ ?_
      ·intro j hj v w pr
       have hj2 : j = 9 ∨ j = 10 := by
        by_cases h6 : j = 9
        ·exact .inl h6
        ·by_cases h7 : j = 10
         ·exact .inr h7
         ·exact absurd (fun b hb => by rcases List.mem_singleton.1 hb with rfl; exact ⟨fun e => h6 e.symm, fun e => h7 e.symm⟩) hj
       rcases hj2 with rfl | rfl <;> trivial
      ·intro q V hB hx hI
       obtain ⟨go, g1, g2, g3⟩ := hI.at_ ⟨9, 10, 7⟩ (by simp) rfl
       rw [if_pos rfl] at g3
       obtain ⟨A, a, B, b, e, ht⟩ := hx 7 (by decide) (by simp)
       rw [show (⟨9, 10, 7⟩ : Bx).c = 7 from rfl, e] at g3
       exact ⟨_, go, A, a, B, b, rfl, rfl, rfl, rfl, g1, hx 11 (by decide) (by simp), g2, g3, ht.mono (fun k hk _ => ⟨hk.1, fun e => hk.2 ⟨_, List.mem_singleton.2 rfl, rfl, by rw [e]; exact g1⟩⟩), bw hB⟩
     ·rintro a' V ⟨g, go, A, a, B, b, rfl, g2, g4, g6, g7, g8, hgo, xo, xto, hB7⟩
      replace xt := blk_below xt hB7
      replace xr := blk_below xr hB7
      replace x6 := blk_below x6 hB7
      replace hB := below_step hB hB7
      refine wp_seq (wp_seq (wp_region_list (list_op (i := 0) rfl (op_mv rfl rfl rfl g8 (fop rfl (by decide) (list_op (i := 1) rfl (op_notb rfl rfl rfl rfl (fop rfl (by decide) (wp_cond rfl ?_)))))))))
      cases hw : withP (kidOf t 0) np with
      | none =>
       refine wp_seq (wp_region_list (list_op (i := 0) rfl (op_bt0 rfl rfl rfl (fop rfl (by decide) (list_op (i := 1) rfl (op_st30 rfl rfl rfl rfl g4 rfl xr fun V9 x9 hf9 hb9 => (list_op (i := 2) rfl (op_asgc rfl rfl rfl (fop rfl (by decide) (wp_ret ?_))))))))))
       exact ⟨by rw [hwp, hw]; rfl, rfl, g4, rfl, x9, hB.trans (hb9 _ (by omega))⟩
      | some o =>
       rw [hw] at xo xto
       refine wp_skip (wp_region_list (list_op (i := 0) rfl (op_ldT (ad := ⟨go, 0, none⟩) rfl rfl rfl g7 (blk_cell xo 0) (blk_cell xo 1) (blk_cell xo 2) (fop rfl (by decide) (list_op (i := 1) rfl (op_st30 rfl rfl rfl rfl g6 rfl x6 fun V9 x9 hf9 hb9 => ?_))))))
       exact ⟨o, by rw [hwp, hw]; rfl, hl, _, A, a, B, b, rfl, g2, g4, g6, (hf9 _ (by omega)).trans xt, (hf9 _ (by omega)).trans xr, x9, (xto.step (fun k hk _ => hf9 k (by omega))).mono (fun k hk _ => by omega), hB.trans (hb9 _ (by omega))⟩
    ·rw [if_neg h2] at hpp
     exact absurd hpp.symm h00
 ·rintro a' V ⟨x, hw, hl, g, X1, e1, X2, e2, rfl, g2, g4, g6, xt, xr, x6, hx, hB⟩
  rw [hw]
  have hz := blk_lt x6
  have x9z := blk_new V (.cells #[.string ⟨#[]⟩, .slice none 0 0, .slice none 0 0] 30)
  refine wp_seq (wp_region_list (list_op (i := 0) rfl (op_ldT (ad := ⟨w.heap.size, 0, none⟩) rfl rfl rfl g2 (blk_cell xt 0) (blk_cell xt 1) (blk_cell xt 2) (fop rfl (by decide) (list_op (i := 1) rfl (op_new30 rfl rfl rfl (fop rfl (by decide) (list_op (i := 2) rfl (op_st30 rfl rfl rfl rfl rfl rfl x9z fun W9 x9 hf9 hb9 => ?_)))))))))
  have hba := below_alloc (Below.refl V.heap.size V) (.cells #[.string ⟨#[]⟩, .slice none 0 0, .slice none 0 0] 30)
  have hxm := ((hx.mono (ok' := fun k => k < w0.heap.size ∨ w.heap.size + 4 ≤ k ∧ k ≠ V.heap.size) (fun k hk hlt => hk.imp id fun h => ⟨h, by omega⟩)).step (fun k _ hlt => hba.block k hlt)).step (W := W9) (fun k hk _ => hf9 k (by omega))
  replace xt := (hf9 _ (by omega)).trans (blk_below xt hba)
  replace x6 := (hf9 _ (by omega)).trans (blk_below x6 hba)
  replace xr := (hf9 _ (by omega)).trans (blk_below xr hba)
  have hB9 := (below_step hB hba).trans (hb9 w.heap.size (by omega))
  have hz9 := blk_lt x9
  refine wp_seq (with_reg22 t x hl hm.2.2.1 w0 W9 (below_step h0 hB9) w.heap.size (w.heap.size + 3) V.heap.size (w.heap.size + 4) A1 c1 A2 c2 tv X1 e1 X2 e2 xt x6 x9 (by omega) (by omega) hxm _ g2 g6 rfl ?_)
  intro g' V' A3 c3 q4 q9 y9 zj zb hle hF
  replace g4 := q4.trans g4
  have g9 : g' 9 = .pointer (some ⟨V.heap.size, 0, none⟩) := q9
  replace xr := (zj _ (by omega) (by omega)).trans xr
  refine wp_seq (wp_region_list (list_op (i := 0) rfl (op_ldT (ad := ⟨V.heap.size, 0, none⟩) rfl rfl rfl g9 (blk_cell y9 0) (blk_cell y9 1) (blk_cell y9 2) (fop rfl (by decide) (list_op (i := 1) rfl (op_st30 rfl rfl rfl rfl g4 rfl xr fun W12 z12 hf12 hb12 => (list_op (i := 2) rfl (op_asgc rfl rfl rfl (fop rfl (by decide) (wp_ret ?_))))))))))
  have hBf := (hB9.trans (zb w.heap.size (by omega))).trans (hb12 w.heap.size (by omega))
  exact bodyPost_tree (show Tryz.f22.results = #[.cell 4 30, .tmp 5] from rfl) z12 g4 rfl rfl (WithRet.yes (s := ⟨t.f0, t.f1, x :: t.f2.drop 1⟩) hBf ⟨tv.l1, Kd.F_mono (Kd.F_step (Kd.C_F (Kd.heap_int .i64) tv.v) (fun k hk hlt => (below_step h0 hBf).block k hlt)) (fun k hk => .inl hk), hle, Kd.F_mono (Kd.F_step hF (fun k hk _ => hf12 k (by omega))) (fun k hk => by omega)⟩)
 ·rintro a' V ⟨hw, hd, h4, h5, hb, hB⟩
  rw [hw]
  exact bodyPost_tree (show Tryz.f22.results = #[.cell 4 30, .tmp 5] from rfl) hb h4 h5 hd (WithRet.no hB)
theorem with22_calls (np : S30) : ∀ (n : Nat) (t : S30), nodes t ≤ n → Sm t → ∀ (w0 w : World) (A1 : Option Addr) (c1 : Nat) (A2 : Option Addr) (c2 : Nat) (N1 : Option Addr) (n1 : Nat) (N2 : Option Addr) (n2 : Nat), Below w0.heap.size w0 w → TreeV w0 t A1 c1 A2 c2 → TreeV w0 np N1 n1 N2 n2 →
  Calls Tryz.prog 22 #[.agg #[.string t.f0, .slice A1 t.f1.length c1, .slice A2 t.f2.length c2], .agg #[.string np.f0, .slice N1 np.f1.length n1, .slice N2 np.f2.length n2]] w (WithRet w0 w (withP t np))
 | 0, t, hn, _ => absurd hn (by have := nodes_eq t; omega)
 | n + 1, t, hn, hsm => with22_aux np n (with22_calls np n) t hn hsm
end
section
attribute [local go_sem] Oper.semAt_some
theorem idle80 (pm pe : Addr) (w : World) :
  CallsD Tryz.prog 80 #[.pointer (some pm), .pointer (some pe)] .returning w fun e u' w' => e = .returned (.tuple #[]) ∧ u' = .returning ∧ w' = w := by
 refine callsD_of_wpS Tryz.func80 rfl fun c₀ cs hu => ?_
 apply wpS_seq
 apply wpS_region
 simp [wpOpsS, go_sem, recoverD, hu, Tryz.ntmps80, Exit.thenS]
 apply wpS_seq
 apply wpS_region
 simp [wpOpsS, go_sem, Exit.thenS]
 refine wpS_cond (t := false) (by simp [Act.eval, Array.replicate]) ?_
 simp only [Bool.false_eq_true, if_false]
 refine wpS_of_wp (wp_skip ?_)
 cases c₀
 simp_all [bodyPostS, results, Tryz.results80]
theorem zero9 (m e : Nat) (hne : m ≠ e) (w : World) (v : Value) (b9 : Value) (he : w.heap[e]? = some (.cells #[b9] 38 (0, 0))) (a0 a1 a2 a3 a4 a5 a6 a7 a8 : Value) : (set9 w m a0 a1 a2 a3 a4 a5 a6 a7 a8).heap[e]? = some (.cells #[b9] 38 (0, 0)) := (fin9_far (fun h => hne h.symm) _ _ _ _ _ _ _ _ _).trans he
set_option maxRecDepth 100000 in
set_option maxHeartbeats 1000000 in
theorem caught80 (m e : Nat) (hne : m ≠ e) (b0 b1 b2 b3 b4 b5 b6 b7 b8 b9 : Value) (w : World) (h : w.heap[m]? = some (.cells #[b0, b1, b2, b3, b4, b5, b6, b7, b8] 70 (0, 0))) (he : w.heap[e]? = some (.cells #[b9] 38 (0, 0))) :
  CallsD Tryz.prog 80 #[.pointer (some ⟨m, 0, none⟩), .pointer (some ⟨e, 0, none⟩)] (.panicking failV) w fun x u' w' => x = .returned (.tuple #[]) ∧ u' = .panicking [{ v := .iface 117 (.int .i64 6), recovered := true }] ∧
   w' = (set9 w m (.int .i64 0) (.string ⟨#[]⟩) (.slice none 0 0) (.int .i64 0) (.int .i64 0) (.slice none 0 0) (.int .i64 0) (.int .i64 0) (.bool false)).setCell ⟨e, 0, none⟩ (.int .i64 6) := by
 refine callsD_of_wpS Tryz.func80 rfl fun c₀ cs hu => ?_
 unfold failV at hu
 apply wpS_seq
 apply wpS_region
 simp [wpOpsS, go_sem, recoverD, hu, Tryz.ntmps80, Exit.thenS]
 apply wpS_seq
 apply wpS_region
 simp [wpOpsS, go_sem, Exit.thenS]
 refine wpS_cond (t := true) (by simp [Act.eval, Array.replicate]) ?_
 simp only [if_true]
 refine wpS_of_wp ?_
 simp only [Array.replicate_succ, Array.replicate_zero, List.push_toArray, List.append_toArray, List.setIfInBounds_toArray, List.nil_append, List.cons_append, List.set_cons_zero, List.set_cons_succ]
 have zc0 := blk_cell h 0
 have zf0 := blk_frozen h 0
 have zc1 := blk_cell h 1
 have zf1 := blk_frozen h 1
 have zc2 := blk_cell h 2
 have zf2 := blk_frozen h 2
 have zc3 := blk_cell h 3
 have zf3 := blk_frozen h 3
 have zc4 := blk_cell h 4
 have zf4 := blk_frozen h 4
 have zc5 := blk_cell h 5
 have zf5 := blk_frozen h 5
 have zc6 := blk_cell h 6
 have zf6 := blk_frozen h 6
 have zc7 := blk_cell h 7
 have zf7 := blk_frozen h 7
 have zc8 := blk_cell h 8
 have zf8 := blk_frozen h 8
 simp at zc0 zc1 zc2 zc3 zc4 zc5 zc6 zc7 zc8
 have HZ := Aside0.mk (zero9 m e hne w (.bool false) b9 he (.int .i64 0) (.string ⟨#[]⟩) (.slice none 0 0) (.int .i64 0) (.int .i64 0) (.slice none 0 0) (.int .i64 0) (.int .i64 0) (.bool false))
 have y0 := blk_cell HZ.out 0
 have yf := blk_frozen HZ.out 0
 simp at y0
 unfold set9 at y0 yf
 have hta : ∀ w : World, (Instr.typeAssert (.iface 117 (.int .i64 6)) 20 117 true).run Tryz.prog w = .ok (.tuple #[.int .i64 6, .bool true]) w := fun _ => by kernel_rfl
 clear h he HZ
 go_wp2
 simp [bodyPostS, results, Tryz.results80, set9]
theorem size_f_le {k k' : Nat} (h : k ≤ k') (a : ByteArray) (b : List Int) (c : List S30) : LeO (abstract_Size.f k a b c) (abstract_Size.f k' a b c) := by
 induction h with
 | refl => exact LeO.refl _
 | step _ ih => exact LeO.trans ih ((abstract_Size.mono_l _).1 _ _ _)
theorem size_l_le {k k' : Nat} (h : k ≤ k') (a : Int) (b : List S30) (c d : Int) : LeO (abstract_Size.l0 k a b c d) (abstract_Size.l0 k' a b c d) := by
 induction h with
 | refl => exact LeO.refl _
 | step _ ih => exact LeO.trans ih ((abstract_Size.mono_l _).2 _ _ _ _)
theorem len_nodesL : ∀ l : List S30, l.length ≤ nodesL l
 | [] => by simp
 | t :: r => by
  have := len_nodesL r
  have := nodes_eq t
  rw [nodesL, List.length_cons]
  omega
theorem size_l (n : Nat) (ih : ∀ t : S30, nodes t ≤ n → ∃ k, abstract_Size.f k t.f0 t.f1 t.f2 = some (nodes t : Int)) (l : List S30) (hl : nodesL l ≤ n) (hn : n ≤ 1000000) :
  ∀ (j : Nat) (i x3 : Int), 0 ≤ i → i + j = l.length → 0 ≤ x3 → x3 + nodesL (l.drop i.toNat) ≤ 2000000 → ∃ k, abstract_Size.l0 k x3 l l.length i = some (x3 + nodesL (l.drop i.toNat))
 | 0, i, x3, hi, hj, h3, hb => ⟨1, by
  rw [abstract_Size.l0, if_neg (by omega), List.drop_of_length_le (by omega), nodesL]
  simp⟩
 | j + 1, i, x3, hi, hj, h3, hb => by
  have hil : i < l.length := by omega
  have hd := drop_rd l i hi hil
  rw [hd, nodesL] at hb ⊢
  have hm := rd_mem l i hi hil
  obtain ⟨k1, hk1⟩ := ih (rd_T30 l i) (by have h1 := nodes_mem (t := ⟨ByteArray.empty, [], l⟩) hm; have h2 := nodes_eq ⟨ByteArray.empty, [], l⟩; simp only at h2; omega)
  have hlen := len_nodesL l
  obtain ⟨k2, hk2⟩ := size_l n ih l hl hn j (i + 1) (x3 + nodes (rd_T30 l i)) (by omega) (by omega) (by omega) (by omega)
  refine ⟨max k1 k2 + 1, ?_⟩
  rw [abstract_Size.l0, if_pos hil, if_pos hi, if_pos hil, size_f_le (Nat.le_max_left k1 k2) _ _ _ _ hk1]
  show abstract_Size.l0 _ (wrap64 (x3 + nodes (rd_T30 l i))) l l.length (wrap64 (i + 1)) = _
  rw [wrap_small (x := x3 + nodes (rd_T30 l i)) (by omega) (by omega), wrap_small (x := i + 1) (by omega) (by omega), size_l_le (Nat.le_max_right k1 k2) _ _ _ _ _ hk2]
  congr 1
  push_cast
  omega
theorem size_ex : ∀ (n : Nat), n ≤ 1000000 → ∀ t : S30, nodes t ≤ n → ∃ k, abstract_Size.f k t.f0 t.f1 t.f2 = some (nodes t : Int)
 | 0, _, t, hn => absurd hn (by have := nodes_eq t; omega)
 | n + 1, h, t, hn => by
  have hq := nodes_eq t
  obtain ⟨k, hk⟩ := size_l n (size_ex n (by omega)) t.f2 (by omega) (by omega) t.f2.length 0 1 (by omega) (by omega) (by omega) (by simp; omega)
  refine ⟨k + 1, ?_⟩
  rw [abstract_Size.f, hk]
  simp
  omega
theorem size_calls (t : S30) (hn : nodes t ≤ 1000000) (w : World) (A1 : Option Addr) (c1 : Nat) (A2 : Option Addr) (c2 : Nat) (tv : TreeV w t A1 c1 A2 c2) :
  Calls Tryz.prog 77 #[.agg #[.string t.f0, .slice A1 t.f1.length c1, .slice A2 t.f2.length c2]] w fun e w' => e = .returned (.int .i64 (nodes t)) ∧ Below w.heap.size w w' := by
 obtain ⟨k, hk⟩ := size_ex (nodes t) hn t (Nat.le_refl _)
 exact abstract_Size.calls k t.f0 A1 c1 t.f1 A2 c2 t.f2 _ w tv.v tv.l1 tv.k tv.l2 hk
end
section
attribute [local go_sem] Oper.semAt_some
def OnN (R : Act → World → Prop) : Exit → Act → World → Prop
 | .normal, a, w => R a w
 | _, _, _ => False
theorem wp_onN {P : Program} {c : Code} {Q : Exit → Act → World → Prop} {a : Act} {w : World} (R : Act → World → Prop) (h : c.wp P (OnN R) a w) (k : ∀ a' w', R a' w' → Q .normal a' w') : c.wp P Q a w :=
 Code.wp_mono (fun e a' w' h => by cases e with
  | normal => exact k a' w' h
  | _ => exact False.elim h) h
theorem wanted_yes {ops : Array Oper} {o : Oper} {tmps : Array Value} {j : Nat} (hg : o.guard = some (j, false)) (h : ((ops[j]?).bind (·.dst)).bind (tmps[·]?) = some (.bool false)) : Region.wanted o (yielded ops tmps) = true := (wanted_if hg h).trans rfl
theorem wanted_no {ops : Array Oper} {o : Oper} {tmps : Array Value} {j : Nat} (hg : o.guard = some (j, false)) (h : ((ops[j]?).bind (·.dst)).bind (tmps[·]?) = some (.bool true)) : Region.wanted o (yielded ops tmps) = false := (wanted_if hg h).trans rfl
def zeroM : Value := .agg #[.int .i64 0, .string ⟨#[]⟩, .slice none 0 0, .int .i64 0, .int .i64 0, .slice none 0 0, .int .i64 0, .int .i64 0, .bool false]
structure Own41 (s : Sg) (t : S30) (A1 : Option Addr) (c1 : Nat) (A2 : Option Addr) (c2 : Nat) (n : Nat) (W : World) : Prop where
 sg : W.heap[n]? = some (.cells #[.slice s.A0 s.ss.length s.c0, .slice s.A1 s.cs.length s.c1, .slice s.A2 s.ps.length s.c2] 26 (0, 0))
 tr : W.heap[n + 1]? = some (.cells #[.string t.f0, .slice A1 t.f1.length c1, .slice A2 t.f2.length c2] 30 (0, 0))
 mn : W.heap[n + 1 + 1]? = some (.cells #[.int .i64 0, .string ⟨#[]⟩, .slice none 0 0, .int .i64 0, .int .i64 0, .slice none 0 0, .int .i64 0, .int .i64 0, .bool false] 70 (0, 0))
 er : W.heap[n + 1 + 1 + 1]? = some (.cells #[.int .i64 0] 38 (0, 0))
theorem Own41.below {s : Sg} {t : S30} {A1 : Option Addr} {c1 : Nat} {A2 : Option Addr} {c2 n : Nat} {W W' : World} (h : Own41 s t A1 c1 A2 c2 n W) (hB : Below W.heap.size W W') : Own41 s t A1 c1 A2 c2 n W' :=
 ⟨blk_below h.sg hB, blk_below h.tr hB, blk_below h.mn hB, blk_below h.er hB⟩
theorem own41 (s : Sg) (t : S30) (A1 : Option Addr) (c1 : Nat) (A2 : Option Addr) (c2 : Nat) (w : World) : Own41 s t A1 c1 A2 c2 w.heap.size ((((w.alloc (.cells #[.slice s.A0 s.ss.length s.c0, .slice s.A1 s.cs.length s.c1, .slice s.A2 s.ps.length s.c2] 26)).alloc (.cells #[.string t.f0, .slice A1 t.f1.length c1, .slice A2 t.f2.length c2] 30)).alloc (.cells #[.int .i64 0, .string ⟨#[]⟩, .slice none 0 0, .int .i64 0, .int .i64 0, .slice none 0 0, .int .i64 0, .int .i64 0, .bool false] 70)).alloc (.cells #[.int .i64 0] 38)) ∧ Below w.heap.size w ((((w.alloc (.cells #[.slice s.A0 s.ss.length s.c0, .slice s.A1 s.cs.length s.c1, .slice s.A2 s.ps.length s.c2] 26)).alloc (.cells #[.string t.f0, .slice A1 t.f1.length c1, .slice A2 t.f2.length c2] 30)).alloc (.cells #[.int .i64 0, .string ⟨#[]⟩, .slice none 0 0, .int .i64 0, .int .i64 0, .slice none 0 0, .int .i64 0, .int .i64 0, .bool false] 70)).alloc (.cells #[.int .i64 0] 38)) := by
 refine ⟨⟨?_, ?_, ?_, ?_⟩, below_alloc (below_alloc (below_alloc (below_alloc (Below.refl _ _) _) _) _) _⟩
 ·exact blk_alloc (blk_alloc (blk_alloc (blk_new w _) _) _) _
 ·have := blk_alloc (blk_alloc (blk_new (w.alloc (.cells #[.slice s.A0 s.ss.length s.c0, .slice s.A1 s.cs.length s.c1, .slice s.A2 s.ps.length s.c2] 26)) (.cells #[.string t.f0, .slice A1 t.f1.length c1, .slice A2 t.f2.length c2] 30)) (.cells #[.int .i64 0, .string ⟨#[]⟩, .slice none 0 0, .int .i64 0, .int .i64 0, .slice none 0 0, .int .i64 0, .int .i64 0, .bool false] 70)) (.cells #[.int .i64 0] 38)
  simpa only [World.size_alloc] using this
 ·have := blk_alloc (blk_new ((w.alloc (.cells #[.slice s.A0 s.ss.length s.c0, .slice s.A1 s.cs.length s.c1, .slice s.A2 s.ps.length s.c2] 26)).alloc (.cells #[.string t.f0, .slice A1 t.f1.length c1, .slice A2 t.f2.length c2] 30)) (.cells #[.int .i64 0, .string ⟨#[]⟩, .slice none 0 0, .int .i64 0, .int .i64 0, .slice none 0 0, .int .i64 0, .int .i64 0, .bool false] 70)) (.cells #[.int .i64 0] 38)
  simpa only [World.size_alloc] using this
 ·have := blk_new (((w.alloc (.cells #[.slice s.A0 s.ss.length s.c0, .slice s.A1 s.cs.length s.c1, .slice s.A2 s.ps.length s.c2] 26)).alloc (.cells #[.string t.f0, .slice A1 t.f1.length c1, .slice A2 t.f2.length c2] 30)).alloc (.cells #[.int .i64 0, .string ⟨#[]⟩, .slice none 0 0, .int .i64 0, .int .i64 0, .slice none 0 0, .int .i64 0, .int .i64 0, .bool false] 70)) (.cells #[.int .i64 0] 38)
  simpa only [World.size_alloc] using this
def fr41 (s : Sg) (t : S30) (cat : ByteArray) (fv : Value) (A1 : Option Addr) (c1 : Nat) (A2 : Option Addr) (c2 : Nat) (n : Nat) (x : Nat → Value) : Act := { tmps := #[.agg #[.slice s.A0 s.ss.length s.c0, .slice s.A1 s.cs.length s.c1, .slice s.A2 s.ps.length s.c2], .agg #[.string t.f0, .slice A1 t.f1.length c1, .slice A2 t.f2.length c2], .string cat, fv, .pointer (some ⟨n, 0, none⟩), .pointer (some ⟨n + 1, 0, none⟩), undef, undef, .pointer (some ⟨n + 1 + 1, 0, none⟩), .pointer (some ⟨n + 1 + 1 + 1, 0, none⟩), x 0, x 1, x 2, x 3, x 4, x 5, x 6, x 7, x 8, x 9, x 10, x 11, x 12, x 13, x 14, undef, undef, undef, undef, undef, undef, undef, undef, undef, undef, undef, undef, undef, undef, undef, undef, undef, undef, undef, undef, undef, undef, undef, undef, undef, undef, undef], defers := [] }
def C41 (s : Sg) (t : S30) (cat : ByteArray) (A1 : Option Addr) (c1 : Nat) (A2 : Option Addr) (c2 : Nat) (b1 b2 b3 : Bool) : Nat → Value → World → Prop
 | 0, v, _ => v = .agg #[.slice s.A0 s.ss.length s.c0, .slice s.A1 s.cs.length s.c1, .slice s.A2 s.ps.length s.c2]
 | 1, v, _ => v = .bool b1
 | 2, v, _ => v = .bool !b1
 | 3, v, _ => v = .bool !b1
 | 4, v, _ => b1 = true → v = .agg #[.string t.f0, .slice A1 t.f1.length c1, .slice A2 t.f2.length c2]
 | 5, v, _ => b1 = true → v = .int .i64 (nodes t)
 | 6, v, _ => b1 = true → v = .bool !b2
 | 7, v, _ => v = .bool !(b1 && b2)
 | 8, v, _ => v = .bool !(b1 && b2)
 | 9, v, w => (b1 && b2) = true → ∃ mb, v = .map (some mb) ∧ FnsAt w mb structL
 | 10, v, _ => (b1 && b2) = true → v = .agg #[.string t.f0, .slice A1 t.f1.length c1, .slice A2 t.f2.length c2]
 | 11, v, _ => (b1 && b2) = true → v = .string cat
 | 12, v, _ => (b1 && b2) = true → v = .bool b3
 | 13, v, _ => (b1 && b2) = true → v = .bool !b3
 | 14, v, _ => v = .bool !(b1 && b2 && b3)
 | _, _, _ => True
set_option maxHeartbeats 4000000 in
set_option maxRecDepth 100000 in
theorem head41 (s : Sg) (t : S30) (cat : ByteArray) (fv : Value) (A1 : Option Addr) (c1 : Nat) (A2 : Option Addr) (c2 : Nat) (n : Nat) (W1 : World) (b1 b2 b3 : Bool) (hO : Own41 s t A1 c1 A2 c2 n W1) (hC : s.C W1) (tv : TreeV W1 t A1 c1 A2 c2) (hsm : Sm t) (hn : nodes t ≤ 1000000) (h1 : sigOk s.ss s.cs s.ps = b1) (h2 : decide ((60 : Int) < nodes t) = !b2) (h3 : formedP structL t cat = b3) :
  Code.wp Tryz.prog (.region 1 (opsOf Tryz.f41 1) true) (OnN fun a w' => ∃ x, a = fr41 s t cat fv A1 c1 A2 c2 n x ∧ Below W1.heap.size W1 w' ∧ x 14 = .bool !(b1 && b2 && b3)) (fr41 s t cat fv A1 c1 A2 c2 n (fun _ => undef)) W1 := by
 have HO := Aside0.mk (hO.below (below_drew (Below.refl _ _)))
 have C58 := Aside0.mk (fun (V : World) (hB : Below W1.drew.heap.size W1.drew V) => valid_calls V s.A0 s.c0 s.ss s.A1 s.c1 s.cs s.A2 s.c2 s.ps (SigC.below hC (below_step (below_drew (Below.refl _ _)) hB)))
 have TV := Aside0.mk (tv.below (below_drew (Below.refl _ _)))
 have HSM := Aside0.mk hsm
 have HN := Aside0.mk hn
 have H1 := Aside0.mk h1
 have H2 := Aside0.mk h2
 have H3 := Aside0.mk h3
 clear hO hC tv hsm hn h1 h2 h3
 simp only [opsOf, Tryz.f41, Option.bind_some, opsIn, Option.getD_some, Option.orElse, reduceIte, Nat.reduceEqDiff, Option.or_some, Option.none_or, Option.some_or, beq_iff_eq, Nat.reduceBEq, Bool.false_eq_true]
 refine wp_region_any (by kernel_rfl) (region_slots (fr41 s t cat fv A1 c1 A2 c2 n) (C41 s t cat A1 c1 A2 c2 b1 b2 b3) W1.drew (by kernel_rfl) ?_ ?_ ?_ ?_ _)
 ·intro i op x v ho
  match i, ho with
  | 0, ho => injection ho with ho; subst ho; rfl
  | 1, ho => injection ho with ho; subst ho; rfl
  | 2, ho => injection ho with ho; subst ho; rfl
  | 3, ho => injection ho with ho; subst ho; rfl
  | 4, ho => injection ho with ho; subst ho; rfl
  | 5, ho => injection ho with ho; subst ho; rfl
  | 6, ho => injection ho with ho; subst ho; rfl
  | 7, ho => injection ho with ho; subst ho; rfl
  | 8, ho => injection ho with ho; subst ho; rfl
  | 9, ho => injection ho with ho; subst ho; rfl
  | 10, ho => injection ho with ho; subst ho; rfl
  | 11, ho => injection ho with ho; subst ho; rfl
  | 12, ho => injection ho with ho; subst ho; rfl
  | 13, ho => injection ho with ho; subst ho; rfl
  | 14, ho => injection ho with ho; subst ho; rfl
  | i + 15, ho => exact absurd (Array.getElem?_eq_some_iff.1 ho).1 (by show ¬ i + 15 < 15; omega)
 ·intro i v w w' h hB
  match i, h with
  | 0, h => exact h
  | 1, h => exact h
  | 2, h => exact h
  | 3, h => exact h
  | 4, h => exact h
  | 5, h => exact h
  | 6, h => exact h
  | 7, h => exact h
  | 8, h => exact h
  | 10, h => exact h
  | 11, h => exact h
  | 12, h => exact h
  | 13, h => exact h
  | 14, h => exact h
  | 9, h => exact fun e => by obtain ⟨mb, h1, h2⟩ := h e; exact ⟨mb, h1, h2.below hB⟩
  | i + 15, h => trivial
 ·intro i op x w J ho hB hdep h
  match i, ho, hdep, h with
  | 0, ho, hdep, h =>
   simp at ho
   subst ho
   have s0 := blk_cell (blk_below HO.out.sg hB) 0
   have s1 := blk_cell (blk_below HO.out.sg hB) 1
   have s2 := blk_cell (blk_below HO.out.sg hB) 2
   simp at s0 s1 s2
   refine op_value (o := _) rfl (wanted_none rfl) (w' := w) (v := .agg #[.slice s.A0 s.ss.length s.c0, .slice s.A1 s.cs.length s.c1, .slice s.A2 s.ps.length s.c2]) ?_ (h _ _ (rfl) (Below.refl _ _))
   unfold fr41
   go_simp
  | 1, ho, hdep, h =>
   simp at ho
   subst ho
   have d0 := hdep ⟨0, .data⟩ (by simp) rfl
   have d0 : x 0 = _ := d0
   refine op_call (f := 58) (args := #[.agg #[.slice s.A0 s.ss.length s.c0, .slice s.A1 s.cs.length s.c1, .slice s.A2 s.ps.length s.c2]]) rfl (wanted_none rfl) ?_ ?_
   ·have he := enters_of Tryz.func58 (by kernel_rfl) rfl #[.agg #[.slice s.A0 s.ss.length s.c0, .slice s.A1 s.cs.length s.c1, .slice s.A2 s.ps.length s.c2]] w
    unfold fr41
    go_simp
   ·refine (C58.out w hB).mono ?_
    rintro e w' ⟨rfl, hb⟩
    exact ⟨_, rfl, h _ _ (congrArg Value.bool H1.out) hb⟩
  | 2, ho, hdep, h =>
   simp at ho
   subst ho
   have d1 := hdep ⟨1, .data⟩ (by simp) rfl
   have d1 : x 1 = .bool b1 := d1
   refine op_value (o := _) rfl (wanted_none rfl) (w' := w) (v := .bool !b1) ?_ (h _ _ (rfl) (Below.refl _ _))
   unfold fr41
   go_simp
  | 3, ho, hdep, h =>
   simp at ho
   subst ho
   have d2 := hdep ⟨2, .data⟩ (by simp) rfl
   have d2 : x 2 = .bool !b1 := d2
   refine op_value (o := _) rfl (wanted_none rfl) (w' := w) (v := .bool !b1) ?_ (h _ _ (rfl) (Below.refl _ _))
   unfold fr41
   go_simp
  | 4, ho, hdep, h =>
   simp at ho
   subst ho
   have d3 := hdep ⟨3, .guard⟩ (by simp) rfl
   cases b1 with
   | false =>
    exact op_skip rfl (wanted_no (j := 3) rfl (by exact congrArg some d3)) (h _ _ (fun e => by cases e) (Below.refl _ _))
   | true =>
    have t0 := blk_cell (blk_below HO.out.tr hB) 0
    have t1 := blk_cell (blk_below HO.out.tr hB) 1
    have t2 := blk_cell (blk_below HO.out.tr hB) 2
    simp at t0 t1 t2
    refine op_value (o := _) rfl (wanted_yes (j := 3) rfl (by exact congrArg some d3)) (w' := w) (v := .agg #[.string t.f0, .slice A1 t.f1.length c1, .slice A2 t.f2.length c2]) ?_ (h _ _ (fun _ => rfl) (Below.refl _ _))
    unfold fr41
    go_simp
  | 5, ho, hdep, h =>
   simp at ho
   subst ho
   have d3 := hdep ⟨3, .guard⟩ (by simp) rfl
   cases b1 with
   | false =>
    exact op_skip rfl (wanted_no (j := 3) rfl (by exact congrArg some d3)) (h _ _ (fun e => by cases e) (Below.refl _ _))
   | true =>
    have d4 : x 4 = _ := hdep ⟨4, .data⟩ (by simp) rfl rfl
    refine op_call (f := 77) (args := #[.agg #[.string t.f0, .slice A1 t.f1.length c1, .slice A2 t.f2.length c2]]) rfl (wanted_yes (j := 3) rfl (by exact congrArg some d3)) ?_ ?_
    ·have he := enters_of Tryz.func77 (by kernel_rfl) rfl #[.agg #[.string t.f0, .slice A1 t.f1.length c1, .slice A2 t.f2.length c2]] w
     unfold fr41
     go_simp
    ·refine (size_calls t HN.out w A1 c1 A2 c2 (TV.out.below hB)).mono ?_
     rintro e w' ⟨rfl, hb⟩
     exact ⟨_, rfl, h _ _ (fun _ => rfl) hb⟩
  | 6, ho, hdep, h =>
   simp at ho
   subst ho
   have d3 := hdep ⟨3, .guard⟩ (by simp) rfl
   cases b1 with
   | false =>
    exact op_skip rfl (wanted_no (j := 3) rfl (by exact congrArg some d3)) (h _ _ (fun e => by cases e) (Below.refl _ _))
   | true =>
    have d5 : x 5 = .int .i64 (nodes t) := hdep ⟨5, .data⟩ (by simp) rfl rfl
    refine op_value (o := _) rfl (wanted_yes (j := 3) rfl (by exact congrArg some d3)) (w' := w) (v := .bool (decide ((60 : Int) < nodes t))) ?_ (h _ _ (fun _ => congrArg Value.bool H2.out) (Below.refl _ _))
    unfold fr41
    go_simp
  | 7, ho, hdep, h =>
   simp at ho
   subst ho
   have d3 : x 3 = .bool !b1 := hdep ⟨3, .data⟩ (by simp) rfl
   have d6 := hdep ⟨6, .data⟩ (by simp) rfl
   cases b1 with
   | false =>
    have d3 : x 3 = .bool true := d3
    refine op_value (o := _) rfl (wanted_none rfl) (w' := w) (v := .bool true) ?_ (h _ _ (rfl) (Below.refl _ _))
    unfold fr41
    go_simp
   | true =>
    have d3 : x 3 = .bool false := d3
    have d6 : x 6 = .bool !b2 := d6 rfl
    refine op_value (o := _) rfl (wanted_none rfl) (w' := w) (v := .bool !b2) ?_ (h _ _ (rfl) (Below.refl _ _))
    unfold fr41
    go_simp
  | 8, ho, hdep, h =>
   simp at ho
   subst ho
   have d7 : x 7 = .bool !(b1 && b2) := hdep ⟨7, .data⟩ (by simp) rfl
   refine op_value (o := _) rfl (wanted_none rfl) (w' := w) (v := .bool !(b1 && b2)) ?_ (h _ _ (rfl) (Below.refl _ _))
   unfold fr41
   go_simp
  | 9, ho, hdep, h =>
   simp at ho
   subst ho
   have d8 := hdep ⟨8, .guard⟩ (by simp) rfl
   cases hb : (b1 && b2) with
   | false =>
    rw [show C41 s t cat A1 c1 A2 c2 b1 b2 b3 8 (x 8) w = (x 8 = .bool !(b1 && b2)) from rfl, hb] at d8
    exact op_skip rfl (wanted_no (j := 8) rfl (by exact congrArg some d8)) (h _ _ (fun e => by rw [hb] at e; cases e) (Below.refl _ _))
   | true =>
    rw [show C41 s t cat A1 c1 A2 c2 b1 b2 b3 8 (x 8) w = (x 8 = .bool !(b1 && b2)) from rfl, hb] at d8
    refine op_call (f := 79) (args := #[]) rfl (wanted_yes (j := 8) rfl (by exact congrArg some d8)) ?_ ?_
    ·have he := enters_of Tryz.func79 (by kernel_rfl) rfl #[] w
     unfold fr41
     go_simp
    ·refine (structural_calls w).mono ?_
     rintro e w' ⟨mb, rfl, hF, hb'⟩
     exact ⟨_, rfl, h _ _ (fun _ => ⟨mb, rfl, hF⟩) hb'⟩
  | 10, ho, hdep, h =>
   simp at ho
   subst ho
   have d8 := hdep ⟨8, .guard⟩ (by simp) rfl
   cases hb : (b1 && b2) with
   | false =>
    rw [show C41 s t cat A1 c1 A2 c2 b1 b2 b3 8 (x 8) w = (x 8 = .bool !(b1 && b2)) from rfl, hb] at d8
    exact op_skip rfl (wanted_no (j := 8) rfl (by exact congrArg some d8)) (h _ _ (fun e => by rw [hb] at e; cases e) (Below.refl _ _))
   | true =>
    rw [show C41 s t cat A1 c1 A2 c2 b1 b2 b3 8 (x 8) w = (x 8 = .bool !(b1 && b2)) from rfl, hb] at d8
    have t0 := blk_cell (blk_below HO.out.tr hB) 0
    have t1 := blk_cell (blk_below HO.out.tr hB) 1
    have t2 := blk_cell (blk_below HO.out.tr hB) 2
    simp at t0 t1 t2
    refine op_value (o := _) rfl (wanted_yes (j := 8) rfl (by exact congrArg some d8)) (w' := w) (v := .agg #[.string t.f0, .slice A1 t.f1.length c1, .slice A2 t.f2.length c2]) ?_ (h _ _ (fun _ => rfl) (Below.refl _ _))
    unfold fr41
    go_simp
  | 11, ho, hdep, h =>
   simp at ho
   subst ho
   have d8 := hdep ⟨8, .guard⟩ (by simp) rfl
   cases hb : (b1 && b2) with
   | false =>
    rw [show C41 s t cat A1 c1 A2 c2 b1 b2 b3 8 (x 8) w = (x 8 = .bool !(b1 && b2)) from rfl, hb] at d8
    exact op_skip rfl (wanted_no (j := 8) rfl (by exact congrArg some d8)) (h _ _ (fun e => by rw [hb] at e; cases e) (Below.refl _ _))
   | true =>
    rw [show C41 s t cat A1 c1 A2 c2 b1 b2 b3 8 (x 8) w = (x 8 = .bool !(b1 && b2)) from rfl, hb] at d8
    refine op_value (o := _) rfl (wanted_yes (j := 8) rfl (by exact congrArg some d8)) (w' := w) (v := .string cat) ?_ (h _ _ (fun _ => rfl) (Below.refl _ _))
    unfold fr41
    go_simp
  | 12, ho, hdep, h =>
   simp at ho
   subst ho
   have d8 := hdep ⟨8, .guard⟩ (by simp) rfl
   cases hb : (b1 && b2) with
   | false =>
    rw [show C41 s t cat A1 c1 A2 c2 b1 b2 b3 8 (x 8) w = (x 8 = .bool !(b1 && b2)) from rfl, hb] at d8
    exact op_skip rfl (wanted_no (j := 8) rfl (by exact congrArg some d8)) (h _ _ (fun e => by rw [hb] at e; cases e) (Below.refl _ _))
   | true =>
    rw [show C41 s t cat A1 c1 A2 c2 b1 b2 b3 8 (x 8) w = (x 8 = .bool !(b1 && b2)) from rfl, hb] at d8
    obtain ⟨mb, d9, hF⟩ := (hdep ⟨9, .data⟩ (by simp) rfl) hb
    have d10 : x 10 = _ := hdep ⟨10, .data⟩ (by simp) rfl hb
    have d11 : x 11 = .string cat := hdep ⟨11, .data⟩ (by simp) rfl hb
    refine op_call (f := 78) (args := #[.map (some mb), .agg #[.string t.f0, .slice A1 t.f1.length c1, .slice A2 t.f2.length c2], .string cat]) rfl (wanted_yes (j := 8) rfl (by exact congrArg some d8)) ?_ ?_
    ·have he := enters_of Tryz.func78 (by kernel_rfl) rfl #[.map (some mb), .agg #[.string t.f0, .slice A1 t.f1.length c1, .slice A2 t.f2.length c2], .string cat] w
     unfold fr41
     go_simp
    ·have hv := TV.out.below hB
     refine (formed_calls w mb structL hF t HSM.out A1 c1 A2 c2 cat hv.v hv.l1 hv.k hv.l2).mono ?_
     rintro e w' ⟨rfl, hb'⟩
     exact ⟨_, rfl, h _ _ (fun _ => congrArg Value.bool H3.out) hb'⟩
  | 13, ho, hdep, h =>
   simp at ho
   subst ho
   have d8 := hdep ⟨8, .guard⟩ (by simp) rfl
   cases hb : (b1 && b2) with
   | false =>
    rw [show C41 s t cat A1 c1 A2 c2 b1 b2 b3 8 (x 8) w = (x 8 = .bool !(b1 && b2)) from rfl, hb] at d8
    exact op_skip rfl (wanted_no (j := 8) rfl (by exact congrArg some d8)) (h _ _ (fun e => by rw [hb] at e; cases e) (Below.refl _ _))
   | true =>
    rw [show C41 s t cat A1 c1 A2 c2 b1 b2 b3 8 (x 8) w = (x 8 = .bool !(b1 && b2)) from rfl, hb] at d8
    have d12 : x 12 = .bool b3 := hdep ⟨12, .data⟩ (by simp) rfl hb
    refine op_value (o := _) rfl (wanted_yes (j := 8) rfl (by exact congrArg some d8)) (w' := w) (v := .bool !b3) ?_ (h _ _ (fun _ => rfl) (Below.refl _ _))
    unfold fr41
    go_simp
  | 14, ho, hdep, h =>
   simp at ho
   subst ho
   have d8 : x 8 = .bool !(b1 && b2) := hdep ⟨8, .data⟩ (by simp) rfl
   have d13 := hdep ⟨13, .data⟩ (by simp) rfl
   cases hb : (b1 && b2) with
   | false =>
    rw [hb] at d8
    have d8 : x 8 = .bool true := d8
    refine op_value (o := _) rfl (wanted_none rfl) (w' := w) (v := .bool true) ?_ (h _ _ (by show _ = Value.bool !(b1 && b2 && b3); rw [hb]; rfl) (Below.refl _ _))
    unfold fr41
    go_simp
   | true =>
    rw [hb] at d8
    have d8 : x 8 = .bool false := d8
    have d13 : x 13 = .bool !b3 := d13 hb
    refine op_value (o := _) rfl (wanted_none rfl) (w' := w) (v := .bool !b3) ?_ (h _ _ (by show _ = Value.bool !(b1 && b2 && b3); rw [hb]; rfl) (Below.refl _ _))
    unfold fr41
    go_simp
  | i + 15, ho, hdep, h => exact absurd (Array.getElem?_eq_some_iff.1 ho).1 (by show ¬ i + 15 < 15; omega)
 ·intro x w hB hx
  exact ⟨x, rfl, below_step (below_drew (Below.refl _ _)) hB, hx 14 (by show 14 < 15; omega)⟩
end
theorem declAll_mem : ∀ (l : Decls) (r : List (ByteArray × ByteArray × List ByteArray)), (declAll l r).isSome = true → ∀ d ∈ r, ∃ l', declOk l' d.1 d.2.1 d.2.2 = true
 | l, [], _, d, hd => by cases hd
 | l, e :: r, h, d, hd => by
  rw [declAll] at h
  by_cases he : declOk l e.1 e.2.1 e.2.2 = true
  ·rw [if_pos he] at h
   rcases List.mem_cons.1 hd with rfl | hd
   ·exact ⟨l, he⟩
   ·exact declAll_mem _ r h d hd
  ·rw [if_neg he] at h
   cases h
theorem nameFrom_all (x : ByteArray) : ∀ (n : Nat) (i : Int), nameFrom x n i = true → ∀ j : Nat, j < n → (97 ≤ bt x (i + j) ∧ bt x (i + j) ≤ 122) ∨ (48 ≤ bt x (i + j) ∧ bt x (i + j) ≤ 57) ∨ bt x (i + j) = 45
 | 0, i, h, j, hj => by omega
 | n + 1, i, h, j, hj => by
  rw [nameFrom] at h
  have step : nameFrom x n (i + 1) = true ∧ ((97 ≤ bt x i ∧ bt x i ≤ 122) ∨ (48 ≤ bt x i ∧ bt x i ≤ 57) ∨ bt x i = 45) := by
   by_cases c1 : bt x i ≥ 97 ∧ bt x i ≤ 122
   ·rw [if_pos c1] at h
    exact ⟨h, .inl ⟨c1.1, c1.2⟩⟩
   ·rw [if_neg c1] at h
    by_cases c2 : i = 0
    ·rw [if_pos c2] at h; cases h
    ·rw [if_neg c2] at h
     by_cases c3 : (bt x i ≥ 48 ∧ bt x i ≤ 57) ∨ bt x i = 45
     ·rw [if_pos c3] at h
      exact ⟨h, .inr (c3.imp (fun h => ⟨h.1, h.2⟩) id)⟩
     ·rw [if_neg c3] at h; cases h
  cases j with
  | zero => simpa using step.2
  | succ j =>
   have := nameFrom_all x n (i + 1) step.1 j (by omega)
   rw [show i + ((j + 1 : Nat) : Int) = i + 1 + j from by push_cast; omega]
   exact this
theorem name_plain {x : ByteArray} (h : nameS x = true) : PlainN x := by
 unfold nameS at h
 rw [Bool.and_eq_true] at h
 have ha := nameFrom_all x x.size 0 h.1
 intro b hb
 obtain ⟨j, hj, rfl⟩ := List.mem_iff_getElem.1 hb
 have hl : x.data.toList.length = x.size := by cases x; rfl
 have := ha j (by omega)
 have e : bt x (0 + (j : Int)) = ((x.data.toList[j]).toNat : Int) := by
  have hj' : j < x.size := by omega
  unfold bt
  rw [dif_pos (show (0 + (j : Int)).toNat < x.size by omega)]
  have h0 : (0 + (j : Int)).toNat = j := by omega
  simp only [h0]
  cases x
  simp [ByteArray.getElem_eq_getElem_data]
 rw [e] at this
 omega
theorem sig_ok {s : Sg} (h : sigOk s.ss s.cs s.ps = true) : SigN s ∧ ∀ p ∈ s.ps, 1 ≤ p.f1.length := by
 have hm := declAll_mem [] (sigDecls s.ss s.cs s.ps) h
 refine ⟨⟨fun p hp => ?_, fun c hc => ?_⟩, fun p hp => ?_⟩
 ·obtain ⟨l, hl⟩ := hm (dPred p) (List.mem_append.2 (.inr (List.mem_append.2 (.inr (List.mem_map.2 ⟨p, hp, rfl⟩)))))
  unfold declOk headOk at hl
  simp only [Bool.and_eq_true] at hl
  exact name_plain hl.1.1.1.1.2
 ·obtain ⟨l, hl⟩ := hm (dConst c) (List.mem_append.2 (.inr (List.mem_append.2 (.inl (List.mem_map.2 ⟨c, hc, rfl⟩)))))
  unfold declOk headOk at hl
  simp only [Bool.and_eq_true] at hl
  exact name_plain hl.1.1.1.1.2
 ·obtain ⟨l, hl⟩ := hm (dPred p) (List.mem_append.2 (.inr (List.mem_append.2 (.inr (List.mem_map.2 ⟨p, hp, rfl⟩)))))
  unfold declOk tailOk at hl
  simp only [Bool.and_eq_true] at hl
  have h2 := hl.2
  rw [show ((dPred p).2.1.toList == ([112, 114, 101, 100, 105, 99, 97, 116, 101] : List UInt8)) = true from by show (sPred.toList == _) = true; decide +kernel] at h2
  simp at h2
  exact h2.1
section
attribute [local go_sem] Oper.semAt_some
def BRet (Z : Nat → Prop) (X : World → Prop) (W : World) (mb : Nat) (r : Option S70) (e : Ending) (W' : World) : Prop := Kp W W' (fun k => k = mb ∨ Z k) ∧ match r with
 | some m => ∃ v, e = .returned v ∧ MnV W' (fun k => W.heap.size ≤ k) v m ∧ X W'
 | none => e = .panicked failV
def chP (ok res : Bool) (r : Option S70) : Except Int S70 :=
 if ok = false then .error 1 else if res = false then .error 10 else match r with
  | none => .error 6
  | some m => if m.f3 = true then .error 6 else if 200 < m.f1 ∨ 32 < m.f2 then .error 2 else .ok m
def ChRet (Z : Nat → Prop) (X : World → Prop) (w : World) (o : Except Int S70) (e : Ending) (w' : World) : Prop := Kp w w' Z ∧ match o with
 | .ok m => ∃ v, e = .returned (.tuple #[v, .int .i64 0]) ∧ MnV w' (fun k => w.heap.size ≤ k) v m ∧ X w'
 | .error c => e = .returned (.tuple #[zeroM, .int .i64 c])
theorem makeMap119 (w : World) : (Instr.makeMap 119 none).run Tryz.prog w = .ok (.map (some w.heap.size)) (w.alloc (.map #[] 0)) := by kernel_rfl
theorem read41 (tmps : Array Value) (m e : Nat) (ty : TypeId) (v0 v1 v2 v3 v4 v5 v6 v7 v8 c : Value) (V : World) (h8 : tmps.getD 8 undef = .pointer (some ⟨m, 0, none⟩)) (h9 : tmps.getD 9 undef = .pointer (some ⟨e, 0, none⟩)) (hm : V.heap[m]? = some (.cells #[v0, v1, v2, v3, v4, v5, v6, v7, v8] 70 (0, 0))) (he : V.heap[e]? = some (.cells #[c] 38 (0, 0))) :
  (results Tryz.f41 tmps).run Tryz.prog V = .ok (.tuple #[.agg #[v0, v1, v2, v3, v4, v5, v6, v7, v8], c]) V := by
 have x0 := blk_cell hm 0
 have x1 := blk_cell hm 1
 have x2 := blk_cell hm 2
 have x3 := blk_cell hm 3
 have x4 := blk_cell hm 4
 have x5 := blk_cell hm 5
 have x6 := blk_cell hm 6
 have x7 := blk_cell hm 7
 have x8 := blk_cell hm 8
 have y0 := blk_cell he 0
 simp at x0 x1 x2 x3 x4 x5 x6 x7 x8 y0 h8 h9
 simp [results, Tryz.results41, go_sem, h8, h9, x0, x1, x2, x3, x4, x5, x6, x7, x8, y0]
theorem door_none {P : Program} {fn : Func} {R : Ending → World → Prop} {tmps : Array Value} {V : World} {v : Value} (h : (results fn tmps).run P V = .ok v V) (hr : R (.returned v) V) : bodyPostD P fn R .ret { tmps := tmps, defers := [] } V := ⟨v, h, hr⟩
theorem door_idle {R : Ending → World → Prop} {tmps : Array Value} {pm pe : Addr} {V : World} {v : Value} (h : (results Tryz.f41 tmps).run Tryz.prog V = .ok v V) (hr : R (.returned v) V) : bodyPostD Tryz.prog Tryz.f41 R .ret { tmps := tmps, defers := [{ target := Target.fn (Fn.func 80) #[.pointer (some pm), .pointer (some pe)], args := #[] }] } V := by
 show Leaves _ _ _ _ _ _ _
 refine leaves_cons (f := 80) (args := #[.pointer (some pm), .pointer (some pe)]) (by simp) (by simp [go_sem]) ?_
 refine (idle80 pm pe V).mono ?_
 rintro e u' w'' ⟨rfl, rfl, rfl⟩
 exact ⟨v, h, hr⟩
theorem door_caught {R : Ending → World → Prop} {tmps : Array Value} {m e : Nat} (hne : m ≠ e) {b0 b1 b2 b3 b4 b5 b6 b7 b8 b9 v : Value} {V : World} (hm : V.heap[m]? = some (.cells #[b0, b1, b2, b3, b4, b5, b6, b7, b8] 70 (0, 0))) (he : V.heap[e]? = some (.cells #[b9] 38 (0, 0)))
  (h : (results Tryz.f41 tmps).run Tryz.prog ((set9 V m (.int .i64 0) (.string ⟨#[]⟩) (.slice none 0 0) (.int .i64 0) (.int .i64 0) (.slice none 0 0) (.int .i64 0) (.int .i64 0) (.bool false)).setCell ⟨e, 0, none⟩ (.int .i64 6)) = .ok v ((set9 V m (.int .i64 0) (.string ⟨#[]⟩) (.slice none 0 0) (.int .i64 0) (.int .i64 0) (.slice none 0 0) (.int .i64 0) (.int .i64 0) (.bool false)).setCell ⟨e, 0, none⟩ (.int .i64 6))) (hr : R (.returned v) ((set9 V m (.int .i64 0) (.string ⟨#[]⟩) (.slice none 0 0) (.int .i64 0) (.int .i64 0) (.slice none 0 0) (.int .i64 0) (.int .i64 0) (.bool false)).setCell ⟨e, 0, none⟩ (.int .i64 6))) :
  bodyPostD Tryz.prog Tryz.f41 R (.panic failV) { tmps := tmps, defers := [{ target := Target.fn (Fn.func 80) #[.pointer (some ⟨m, 0, none⟩), .pointer (some ⟨e, 0, none⟩)], args := #[] }] } V := by
 show Leaves _ _ _ _ _ _ _
 refine leaves_cons (f := 80) (args := #[.pointer (some ⟨m, 0, none⟩), .pointer (some ⟨e, 0, none⟩)]) (by simp) (by simp [go_sem]) ?_
 refine (caught80 m e hne _ _ _ _ _ _ _ _ _ _ V hm he).mono ?_
 rintro x u' w'' ⟨rfl, rfl, rfl⟩
 exact ⟨v, h, hr⟩
theorem ChRet.ok {Z : Nat → Prop} {X : World → Prop} {w V V' : World} {o : Except Int S70} {S ok : Nat → Prop} {v : Value} {m : S70} (hK : Kp w V Z) (hk : Kp V V' S) (hS : ∀ k, S k → w.heap.size ≤ k ∧ ¬ ok k) (hok : ∀ k, ok k → w.heap.size ≤ k) (hm : MnV V ok v m) (hX : ∀ W W', X W → (∀ k, k < w.heap.size → W'.heap[k]? = W.heap[k]?) → X W') (hx : X V) (ho : o = .ok m) : ChRet Z X w o (.returned (.tuple #[v, .int .i64 0])) V' := by
 subst ho
 refine ⟨hK.then_ hk (fun k hk => .inr (hS k hk).1), v, rfl, ?_, ?_⟩
 ·exact (hm.step (fun k h hlt => hk.block k hlt (fun hs => (hS k hs).2 h))).mono hok
 ·exact hX _ _ hx (fun k h => hk.block k (Nat.lt_of_lt_of_le h hK.size) (fun hs => by have := (hS k hs).1; omega))
theorem ChRet.fail {Z : Nat → Prop} {X : World → Prop} {w V V' : World} {o : Except Int S70} {S : Nat → Prop} {c : Int} (hK : Kp w V Z) (hk : Kp V V' S) (hS : ∀ k, S k → w.heap.size ≤ k) (ho : o = .error c) : ChRet Z X w o (.returned (.tuple #[zeroM, .int .i64 c])) V' := by
 subst ho
 exact ⟨hK.then_ hk (fun k hk => .inr (hS k hk)), rfl⟩
theorem ChRet.err {Z : Nat → Prop} {X : World → Prop} {w V V' : World} {o : Except Int S70} {m e : Nat} {c : Int} (hB : Below w.heap.size w V) (hk : Kp V V' (fun k => k = m ∨ k = e)) (hm : w.heap.size ≤ m) (he : w.heap.size ≤ e) (ho : o = .error c) : ChRet Z X w o (.returned (.tuple #[zeroM, .int .i64 c])) V' := by
 subst ho
 exact ⟨(Kp.of_below hB Z).then_ hk (fun k hk => .inr (by rcases hk with h | h <;> omega)), rfl⟩
theorem fin_err {V : World} {m e : Nat} (hne : m ≠ e) {x0 x1 x2 x3 x4 x5 x6 x7 x8 y : Value} (hm : V.heap[m]? = some (.cells #[x0, x1, x2, x3, x4, x5, x6, x7, x8] 70 (0, 0))) (he : V.heap[e]? = some (.cells #[y] 38 (0, 0))) (v0 v1 v2 v3 v4 v5 v6 v7 v8 c : Value) :
  ((set9 V m v0 v1 v2 v3 v4 v5 v6 v7 v8).setCell ⟨e, 0, none⟩ c).heap[m]? = some (.cells #[v0, v1, v2, v3, v4, v5, v6, v7, v8] 70 (0, 0)) ∧ ((set9 V m v0 v1 v2 v3 v4 v5 v6 v7 v8).setCell ⟨e, 0, none⟩ c).heap[e]? = some (.cells #[c] 38 (0, 0)) ∧ Kp V ((set9 V m v0 v1 v2 v3 v4 v5 v6 v7 v8).setCell ⟨e, 0, none⟩ c) (fun k => k = m ∨ k = e) := by
 have h1 := zero9 m e hne V (.bool false) y he v0 v1 v2 v3 v4 v5 v6 v7 v8
 have h2 := fin9 hm v0 v1 v2 v3 v4 v5 v6 v7 v8
 refine ⟨(Below.heap_setCell _ ⟨e, 0, none⟩ c m hne).trans h2, ?_, ?_⟩
 ·have := blk_set h1 0 c
  simpa using this
 ·exact ((kp_set9 _ _ _ _ _ _ _ _ _).mono (fun k hk => .inl hk)).then_ (Kp.setCell _ ⟨e, 0, none⟩ c) (fun k hk => .inl (.inr hk))
theorem Own41.kp {s : Sg} {t : S30} {A1 : Option Addr} {c1 : Nat} {A2 : Option Addr} {c2 n : Nat} {W W' : World} {S : Nat → Prop} (h : Own41 s t A1 c1 A2 c2 n W) (hk : Kp W W' S) (hS : ∀ k, n ≤ k → k < n + 4 → ¬ S k) : Own41 s t A1 c1 A2 c2 n W' :=
 ⟨hk.blk h.sg (hS _ (by omega) (by omega)), hk.blk h.tr (hS _ (by omega) (by omega)), hk.blk h.mn (hS _ (by omega) (by omega)), hk.blk h.er (hS _ (by omega) (by omega))⟩
set_option maxHeartbeats 2500000 in
set_option maxRecDepth 100000 in
theorem checked_calls (s : Sg) (t : S30) (cat : ByteArray) (w : World) (A1 : Option Addr) (c1 : Nat) (A2 : Option Addr) (c2 : Nat) (g : Nat) (cap : Array Value) (hC : s.C w) (tv : TreeV w t A1 c1 A2 c2) (hsm : Sm t) (hn : nodes t ≤ 500) (b1 b2 b3 : Bool) (h1 : sigOk s.ss s.cs s.ps = b1) (h2 : decide ((60 : Int) < nodes t) = !b2) (h3 : formedP structL t cat = b3)
  (Z : Nat → Prop) (hZ : ∀ k, Z k → k < w.heap.size) (X : World → Prop) (hX : ∀ W W', X W → (∀ k, k < w.heap.size → W'.heap[k]? = W.heap[k]?) → X W') (r : Option S70)
  (hg : ∀ args W, (callFunc g args).run Tryz.prog W = .ok (.enter g args) W)
  (hb : b1 = true → b2 = true → b3 = true → resP t = true → ∀ (W : World) (bp mb : Nat), Below w.heap.size w W → W.heap[bp]? = some (.cells #[.slice s.A0 s.ss.length s.c0, .slice s.A1 s.cs.length s.c1, .slice s.A2 s.ps.length s.c2, .map (some mb)] 121 (0, 0)) → MapE W mb [] → w.heap.size ≤ mb → mb < W.heap.size →
   Calls Tryz.prog g (#[.pointer (some ⟨bp, 0, none⟩)] ++ cap) W (BRet Z X W mb r)) :
  Calls Tryz.prog 41 #[.agg #[.slice s.A0 s.ss.length s.c0, .slice s.A1 s.cs.length s.c1, .slice s.A2 s.ps.length s.c2], .agg #[.string t.f0, .slice A1 t.f1.length c1, .slice A2 t.f2.length c2], .string cat, .func (.func g) #[] cap] w (ChRet Z X w (chP (b1 && b2 && b3) (resP t) r)) := by
 have hO := own41 s t A1 c1 A2 c2 w
 have HO := Aside0.mk hO.1
 have HB := Aside0.mk hO.2
 have HD := Aside0.mk (head41 s t cat (.func (.func g) #[] cap) A1 c1 A2 c2 w.heap.size _ b1 b2 b3 hO.1 (SigC.below hC hO.2) (tv.below hO.2) hsm (by omega) h1 h2 h3)
 have HBU := Aside0.mk hb
 have TV := Aside0.mk tv
 have HSM := Aside0.mk hsm
 have HN := Aside0.mk hn
 have HX := Aside0.mk hX
 have HZN := Aside0.mk hZ
 clear hO hC h1 h2 h3 hb tv hsm hn hX hZ
 go_enter_defers Tryz.func41, Tryz.ntmps41
 go_wp2_with fail
 refine wp_onN _ HD.out ?_
 rintro a w2 ⟨x, rfl, hB2, hx⟩
 have HB2 := Aside0.mk (below_step HB.out hB2)
 have HO2 := Aside0.mk (HO.out.below hB2)
 clear hB2 HO HB HD
 cases hbad : (b1 && b2 && b3) with
 | false =>
  rw [hbad] at hx
  have hx : x 14 = .bool true := hx
  unfold fr41
  rw [hx]
  have zc0 := blk_cell HO2.out.mn 0
  have zf0 := blk_frozen HO2.out.mn 0
  have zc1 := blk_cell HO2.out.mn 1
  have zf1 := blk_frozen HO2.out.mn 1
  have zc2 := blk_cell HO2.out.mn 2
  have zf2 := blk_frozen HO2.out.mn 2
  have zc3 := blk_cell HO2.out.mn 3
  have zf3 := blk_frozen HO2.out.mn 3
  have zc4 := blk_cell HO2.out.mn 4
  have zf4 := blk_frozen HO2.out.mn 4
  have zc5 := blk_cell HO2.out.mn 5
  have zf5 := blk_frozen HO2.out.mn 5
  have zc6 := blk_cell HO2.out.mn 6
  have zf6 := blk_frozen HO2.out.mn 6
  have zc7 := blk_cell HO2.out.mn 7
  have zf7 := blk_frozen HO2.out.mn 7
  have zc8 := blk_cell HO2.out.mn 8
  have zf8 := blk_frozen HO2.out.mn 8
  simp at zc0 zc1 zc2 zc3 zc4 zc5 zc6 zc7 zc8
  have HZ := Aside0.mk (zero9 (w.heap.size + 1 + 1) (w.heap.size + 1 + 1 + 1) (by omega) _ (.bool false) _ HO2.out.er (.int .i64 0) (.string ⟨#[]⟩) (.slice none 0 0) (.int .i64 0) (.int .i64 0) (.slice none 0 0) (.int .i64 0) (.int .i64 0) (.bool false))
  have y0 := blk_cell HZ.out 0
  have yf := blk_frozen HZ.out 0
  simp at y0
  unfold set9 at y0 yf
  go_wp2
  obtain ⟨g1, g2, g3⟩ := fin_err (by omega) HO2.out.mn HO2.out.er (.int .i64 0) (.string ⟨#[]⟩) (.slice none 0 0) (.int .i64 0) (.int .i64 0) (.slice none 0 0) (.int .i64 0) (.int .i64 0) (.bool false) (.int .i64 1)
  refine door_none (read41 _ (w.heap.size + 1 + 1) (w.heap.size + 1 + 1 + 1) 0 _ _ _ _ _ _ _ _ _ _ _ ?_ ?_ g1 g2) (ChRet.err (Z := Z) (X := X) (o := chP (b1 && b2 && b3) (resP t) r) HB2.out g3 (by omega) (by omega) (by rw [hbad]; rfl))
  ·rfl
  ·rfl
 | true =>
  rw [hbad] at hx
  have hx : x 14 = .bool false := hx
  unfold fr41
  rw [hx]
  have t0 := blk_cell HO2.out.tr 0
  have t1 := blk_cell HO2.out.tr 1
  have t2 := blk_cell HO2.out.tr 2
  simp at t0 t1 t2
  have C24 := Aside0.mk (resolved_calls t HSM.out HN.out w2 A1 c1 A2 c2 (TV.out.below HB2.out))
  go_upto_region 3 with fail
  cases hres : resP t with
  | false =>
   rw [hres] at C24
   go_wp2_with (go_at_call 24; refine C24.out.mono ?_; rintro e w3 ⟨rfl, hB3⟩; have HB3 := Aside0.mk (below_step HB2.out hB3); have HO3 := Aside0.mk (HO2.out.below hB3); clear hB3; have zc0 := blk_cell HO3.out.mn 0; have zf0 := blk_frozen HO3.out.mn 0; have zc1 := blk_cell HO3.out.mn 1; have zf1 := blk_frozen HO3.out.mn 1; have zc2 := blk_cell HO3.out.mn 2; have zf2 := blk_frozen HO3.out.mn 2; have zc3 := blk_cell HO3.out.mn 3; have zf3 := blk_frozen HO3.out.mn 3; have zc4 := blk_cell HO3.out.mn 4; have zf4 := blk_frozen HO3.out.mn 4; have zc5 := blk_cell HO3.out.mn 5; have zf5 := blk_frozen HO3.out.mn 5; have zc6 := blk_cell HO3.out.mn 6; have zf6 := blk_frozen HO3.out.mn 6; have zc7 := blk_cell HO3.out.mn 7; have zf7 := blk_frozen HO3.out.mn 7; have zc8 := blk_cell HO3.out.mn 8; have zf8 := blk_frozen HO3.out.mn 8; simp at zc0 zc1 zc2 zc3 zc4 zc5 zc6 zc7 zc8; have HZ := Aside0.mk (zero9 (w.heap.size + 1 + 1) (w.heap.size + 1 + 1 + 1) (by omega) _ (.bool false) _ HO3.out.er (.int .i64 0) (.string ⟨#[]⟩) (.slice none 0 0) (.int .i64 0) (.int .i64 0) (.slice none 0 0) (.int .i64 0) (.int .i64 0) (.bool false)); have y0 := blk_cell HZ.out 0; have yf := blk_frozen HZ.out 0; simp at y0; unfold set9 at y0 yf)
   obtain ⟨g1, g2, g3⟩ := fin_err (by omega) HO3.out.mn HO3.out.er (.int .i64 0) (.string ⟨#[]⟩) (.slice none 0 0) (.int .i64 0) (.int .i64 0) (.slice none 0 0) (.int .i64 0) (.int .i64 0) (.bool false) (.int .i64 10)
   refine door_none (read41 _ (w.heap.size + 1 + 1) (w.heap.size + 1 + 1 + 1) 0 _ _ _ _ _ _ _ _ _ _ _ ?_ ?_ g1 g2) (ChRet.err (Z := Z) (X := X) (o := chP (b1 && b2 && b3) (resP t) r) HB3.out g3 (by omega) (by omega) (by rw [hbad, hres]; rfl))
   ·rfl
   ·rfl
  | true =>
   rw [hres] at C24
   have hmf : ∀ (fn : Fn) (first cap : Array Value) (w : World), (Instr.makeFunc fn first cap).run Tryz.prog w = .ok (.func fn first cap) w := fun _ _ _ _ => rfl
   cases r with
   | none =>
    go_upto_region 7 with (first
     | (go_at_call 24; refine C24.out.mono ?_; rintro e w3 ⟨rfl, hB3⟩; have HB3 := Aside0.mk (below_step HB2.out hB3); have HO3 := Aside0.mk (HO2.out.below hB3); clear hB3; have s0 := blk_cell HO3.out.sg 0; have s1 := blk_cell HO3.out.sg 1; have s2 := blk_cell HO3.out.sg 2; simp at s0 s1 s2; have hmk := makeMap119 w3)
     |(go_simp; have hsz4 : ((w3.alloc (.map #[] 0)).alloc (.cells #[.slice s.A0 s.ss.length s.c0, .slice s.A1 s.cs.length s.c1, .slice s.A2 s.ps.length s.c2, .map (some w3.heap.size)] 121)).heap.size = w3.heap.size + 2 := by simp
       have HB4 := Aside0.mk (below_alloc (below_alloc HB3.out (.map #[] 0)) (.cells #[.slice s.A0 s.ss.length s.c0, .slice s.A1 s.cs.length s.c1, .slice s.A2 s.ps.length s.c2, .map (some w3.heap.size)] 121))
       have HO4 := Aside0.mk (HO3.out.below (below_alloc (below_alloc (Below.refl w3.heap.size w3) (.map #[] 0)) (.cells #[.slice s.A0 s.ss.length s.c0, .slice s.A1 s.cs.length s.c1, .slice s.A2 s.ps.length s.c2, .map (some w3.heap.size)] 121)))
       have hbp := blk_new (w3.alloc (.map #[] 0)) (.cells #[.slice s.A0 s.ss.length s.c0, .slice s.A1 s.cs.length s.c1, .slice s.A2 s.ps.length s.c2, .map (some w3.heap.size)] 121)
       rw [World.size_alloc] at hbp
       have hmr := blk_lt HO3.out.er
       have hB3s := HB3.out.size
       refine (HBU.out (by revert hbad; cases b1 <;> simp) (by revert hbad; cases b1 <;> cases b2 <;> simp) (by revert hbad; cases b1 <;> cases b2 <;> cases b3 <;> simp) hres _ (w3.heap.size + 1) w3.heap.size HB4.out hbp ((MapE.made w3).below (below_alloc (Below.refl _ _) _)) HB3.out.size (by omega)).mono ?_
       generalize hW4 : ((w3.alloc (.map #[] 0)).alloc (.cells #[.slice s.A0 s.ss.length s.c0, .slice s.A1 s.cs.length s.c1, .slice s.A2 s.ps.length s.c2, .map (some w3.heap.size)] 121)) = W4 at *
       clear hW4
       intro e w5 hr
       have HK5 := Aside0.mk hr.1; have HO5 := Aside0.mk (HO4.out.kp hr.1 (fun k h1 h2 h => h.elim (fun h => by omega) (fun h => by have := HZN.out k h; omega))); obtain ⟨hk5, rfl⟩ := hr; clear hk5))
    have HKW := Aside0.mk (show Kp w w5 Z from (Kp.of_below HB4.out Z).then_ HK5.out (fun k hk => hk.elim (fun h => .inr (by rw [h]; exact hB3s)) .inl))
    obtain ⟨g1, g2, g3⟩ := fin_err (by omega) HO5.out.mn HO5.out.er (.int .i64 0) (.string ⟨#[]⟩) (.slice none 0 0) (.int .i64 0) (.int .i64 0) (.slice none 0 0) (.int .i64 0) (.int .i64 0) (.bool false) (.int .i64 6)
    refine door_caught (by omega) HO5.out.mn HO5.out.er (read41 _ (w.heap.size + 1 + 1) (w.heap.size + 1 + 1 + 1) 0 _ _ _ _ _ _ _ _ _ _ _ ?_ ?_ g1 g2) (ChRet.fail (Z := Z) (X := X) HKW.out g3 (fun k hk => by rcases hk with h | h <;> omega) rfl)
    ·rfl
    ·rfl
   | some m =>
    go_upto_region 7 with (first
     | (go_at_call 24; refine C24.out.mono ?_; rintro e w3 ⟨rfl, hB3⟩; have HB3 := Aside0.mk (below_step HB2.out hB3); have HO3 := Aside0.mk (HO2.out.below hB3); clear hB3; have s0 := blk_cell HO3.out.sg 0; have s1 := blk_cell HO3.out.sg 1; have s2 := blk_cell HO3.out.sg 2; simp at s0 s1 s2; have hmk := makeMap119 w3)
     |(go_simp; have hsz4 : ((w3.alloc (.map #[] 0)).alloc (.cells #[.slice s.A0 s.ss.length s.c0, .slice s.A1 s.cs.length s.c1, .slice s.A2 s.ps.length s.c2, .map (some w3.heap.size)] 121)).heap.size = w3.heap.size + 2 := by simp
       have HB4 := Aside0.mk (below_alloc (below_alloc HB3.out (.map #[] 0)) (.cells #[.slice s.A0 s.ss.length s.c0, .slice s.A1 s.cs.length s.c1, .slice s.A2 s.ps.length s.c2, .map (some w3.heap.size)] 121))
       have HO4 := Aside0.mk (HO3.out.below (below_alloc (below_alloc (Below.refl w3.heap.size w3) (.map #[] 0)) (.cells #[.slice s.A0 s.ss.length s.c0, .slice s.A1 s.cs.length s.c1, .slice s.A2 s.ps.length s.c2, .map (some w3.heap.size)] 121)))
       have hbp := blk_new (w3.alloc (.map #[] 0)) (.cells #[.slice s.A0 s.ss.length s.c0, .slice s.A1 s.cs.length s.c1, .slice s.A2 s.ps.length s.c2, .map (some w3.heap.size)] 121)
       rw [World.size_alloc] at hbp
       have hmr := blk_lt HO3.out.er
       have hB3s := HB3.out.size
       refine (HBU.out (by revert hbad; cases b1 <;> simp) (by revert hbad; cases b1 <;> cases b2 <;> simp) (by revert hbad; cases b1 <;> cases b2 <;> cases b3 <;> simp) hres _ (w3.heap.size + 1) w3.heap.size HB4.out hbp ((MapE.made w3).below (below_alloc (Below.refl _ _) _)) HB3.out.size (by omega)).mono ?_
       generalize hW4 : ((w3.alloc (.map #[] 0)).alloc (.cells #[.slice s.A0 s.ss.length s.c0, .slice s.A1 s.cs.length s.c1, .slice s.A2 s.ps.length s.c2, .map (some w3.heap.size)] 121)) = W4 at *
       clear hW4
       intro e w5 hr
       have HK5 := Aside0.mk hr.1; have HO5 := Aside0.mk (HO4.out.kp hr.1 (fun k h1 h2 h => h.elim (fun h => by omega) (fun h => by have := HZN.out k h; omega))); obtain ⟨hk5, v5, rfl, hm5, hx5⟩ := hr; have HM5 := Aside0.mk hm5; have HX5 := Aside0.mk hx5; obtain ⟨E2, e2, E5, e5, rfl, hrest⟩ := id hm5; clear hk5 hrest hm5 hx5; unfold mnW; have zc0 := blk_cell HO5.out.mn 0; have zf0 := blk_frozen HO5.out.mn 0; have zc1 := blk_cell HO5.out.mn 1; have zf1 := blk_frozen HO5.out.mn 1; have zc2 := blk_cell HO5.out.mn 2; have zf2 := blk_frozen HO5.out.mn 2; have zc3 := blk_cell HO5.out.mn 3; have zf3 := blk_frozen HO5.out.mn 3; have zc4 := blk_cell HO5.out.mn 4; have zf4 := blk_frozen HO5.out.mn 4; have zc5 := blk_cell HO5.out.mn 5; have zf5 := blk_frozen HO5.out.mn 5; have zc6 := blk_cell HO5.out.mn 6; have zf6 := blk_frozen HO5.out.mn 6; have zc7 := blk_cell HO5.out.mn 7; have zf7 := blk_frozen HO5.out.mn 7; have zc8 := blk_cell HO5.out.mn 8; have zf8 := blk_frozen HO5.out.mn 8; simp at zc0 zc1 zc2 zc3 zc4 zc5 zc6 zc7 zc8; have HZ := Aside0.mk (zero9 (w.heap.size + 1 + 1) (w.heap.size + 1 + 1 + 1) (by omega) _ (.bool false) _ HO5.out.er (.int .i64 0) (.string ⟨#[]⟩) (.slice none 0 0) (.int .i64 0) (.int .i64 0) (.slice none 0 0) (.int .i64 0) (.int .i64 0) (.bool false)); have y0 := blk_cell HZ.out 0; have yf := blk_frozen HZ.out 0; simp at y0; unfold set9 at y0 yf))
    have HKW := Aside0.mk (show Kp w w5 Z from (Kp.of_below HB4.out Z).then_ HK5.out (fun k hk => hk.elim (fun h => .inr (by rw [h]; exact hB3s)) .inl))
    have HVM := Aside0.mk (fin9 HO5.out.mn (.int .i64 m.f0.f0) (.string m.f0.f1) (.slice E2 m.f0.f2.length e2) (.int .i64 m.f0.f3) (.int .i64 m.f0.f4) (.slice E5 m.f0.f5.length e5) (.int .i64 m.f1) (.int .i64 m.f2) (.bool m.f3))
    have HVE := Aside0.mk (zero9 (w.heap.size + 1 + 1) (w.heap.size + 1 + 1 + 1) (by omega) w5 (.bool false) _ HO5.out.er (.int .i64 m.f0.f0) (.string m.f0.f1) (.slice E2 m.f0.f2.length e2) (.int .i64 m.f0.f3) (.int .i64 m.f0.f4) (.slice E5 m.f0.f5.length e5) (.int .i64 m.f1) (.int .i64 m.f2) (.bool m.f3))
    have HMV := Aside0.mk (HM5.out.stored (g := w.heap.size + 1 + 1) (fun k hk => by omega) (.int .i64 m.f0.f0) (.string m.f0.f1) (.slice E2 m.f0.f2.length e2) (.int .i64 m.f0.f3) (.int .i64 m.f0.f4) (.slice E5 m.f0.f5.length e5) (.int .i64 m.f1) (.int .i64 m.f2) (.bool m.f3))
    have HKV := Aside0.mk (HKW.out.then_ (kp_set9 (g := w.heap.size + 1 + 1) (.int .i64 m.f0.f0) (.string m.f0.f1) (.slice E2 m.f0.f2.length e2) (.int .i64 m.f0.f3) (.int .i64 m.f0.f4) (.slice E5 m.f0.f5.length e5) (.int .i64 m.f1) (.int .i64 m.f2) (.bool m.f3)) (fun k hk => .inr (by omega)))
    have HXV := Aside0.mk (HX.out _ _ HX5.out (fun k hk => fin9_far (W := w5) (g := w.heap.size + 1 + 1) (k := k) (by omega) (.int .i64 m.f0.f0) (.string m.f0.f1) (.slice E2 m.f0.f2.length e2) (.int .i64 m.f0.f3) (.int .i64 m.f0.f4) (.slice E5 m.f0.f5.length e5) (.int .i64 m.f1) (.int .i64 m.f2) (.bool m.f3)))
    clear zc0 zf0 zc1 zf1 zc2 zf2 zc3 zf3 zc4 zf4 zc5 zf5 zc6 zf6 zc7 zf7 zc8 zf8 y0 yf HZ
    obtain ⟨V, hV⟩ : ∃ V, set9 w5 (w.heap.size + 1 + 1) (.int .i64 m.f0.f0) (.string m.f0.f1) (.slice E2 m.f0.f2.length e2) (.int .i64 m.f0.f3) (.int .i64 m.f0.f4) (.slice E5 m.f0.f5.length e5) (.int .i64 m.f1) (.int .i64 m.f2) (.bool m.f3) = V := ⟨_, rfl⟩
    rw [hV] at HVM HVE HMV HKV HXV
    unfold set9 at hV
    rw [hV]
    clear hV HM5 HX5 HKW
    have zc0 := blk_cell HVM.out 0
    have zf0 := blk_frozen HVM.out 0
    have zc1 := blk_cell HVM.out 1
    have zf1 := blk_frozen HVM.out 1
    have zc2 := blk_cell HVM.out 2
    have zf2 := blk_frozen HVM.out 2
    have zc3 := blk_cell HVM.out 3
    have zf3 := blk_frozen HVM.out 3
    have zc4 := blk_cell HVM.out 4
    have zf4 := blk_frozen HVM.out 4
    have zc5 := blk_cell HVM.out 5
    have zf5 := blk_frozen HVM.out 5
    have zc6 := blk_cell HVM.out 6
    have zf6 := blk_frozen HVM.out 6
    have zc7 := blk_cell HVM.out 7
    have zf7 := blk_frozen HVM.out 7
    have zc8 := blk_cell HVM.out 8
    have zf8 := blk_frozen HVM.out 8
    simp at zc0 zc1 zc2 zc3 zc4 zc5 zc6 zc7 zc8
    have HZ := Aside0.mk (zero9 (w.heap.size + 1 + 1) (w.heap.size + 1 + 1 + 1) (by omega) V (.bool false) _ HVE.out (.int .i64 0) (.string ⟨#[]⟩) (.slice none 0 0) (.int .i64 0) (.int .i64 0) (.slice none 0 0) (.int .i64 0) (.int .i64 0) (.bool false))
    have y0 := blk_cell HZ.out 0
    have yf := blk_frozen HZ.out 0
    simp at y0
    unfold set9 at y0 yf
    cases h3 : m.f3 with
    | true =>
     rw [h3] at zc8
     go_wp2
     obtain ⟨g1, g2, g3⟩ := fin_err (by omega) HVM.out HVE.out (.int .i64 0) (.string ⟨#[]⟩) (.slice none 0 0) (.int .i64 0) (.int .i64 0) (.slice none 0 0) (.int .i64 0) (.int .i64 0) (.bool false) (.int .i64 6)
     refine door_idle (read41 _ (w.heap.size + 1 + 1) (w.heap.size + 1 + 1 + 1) 0 _ _ _ _ _ _ _ _ _ _ _ ?_ ?_ g1 g2) (ChRet.fail (Z := Z) (X := X) HKV.out g3 (fun k hk => by rcases hk with h | h <;> omega) (by simp [chP, hbad, hres, h3]))
     ·rfl
     ·rfl
    | false =>
     rw [h3] at zc8
     by_cases k1 : 200 < m.f1
     ·have k1b := decide_eq_true k1
      go_wp2
      obtain ⟨g1, g2, g3⟩ := fin_err (by omega) HVM.out HVE.out (.int .i64 0) (.string ⟨#[]⟩) (.slice none 0 0) (.int .i64 0) (.int .i64 0) (.slice none 0 0) (.int .i64 0) (.int .i64 0) (.bool false) (.int .i64 2)
      refine door_idle (read41 _ (w.heap.size + 1 + 1) (w.heap.size + 1 + 1 + 1) 0 _ _ _ _ _ _ _ _ _ _ _ ?_ ?_ g1 g2) (ChRet.fail (Z := Z) (X := X) HKV.out g3 (fun k hk => by rcases hk with h | h <;> omega) (by simp [chP, hbad, hres, h3, k1]))
      ·rfl
      ·rfl
     ·have k1b := decide_eq_false k1
      by_cases k2 : 32 < m.f2
      ·have k2b := decide_eq_true k2
       go_wp2
       obtain ⟨g1, g2, g3⟩ := fin_err (by omega) HVM.out HVE.out (.int .i64 0) (.string ⟨#[]⟩) (.slice none 0 0) (.int .i64 0) (.int .i64 0) (.slice none 0 0) (.int .i64 0) (.int .i64 0) (.bool false) (.int .i64 2)
       refine door_idle (read41 _ (w.heap.size + 1 + 1) (w.heap.size + 1 + 1 + 1) 0 _ _ _ _ _ _ _ _ _ _ _ ?_ ?_ g1 g2) (ChRet.fail (Z := Z) (X := X) HKV.out g3 (fun k hk => by rcases hk with h | h <;> omega) (by simp [chP, hbad, hres, h3, k1, k2]))
       ·rfl
       ·rfl
      ·have k2b := decide_eq_false k2
       clear y0 yf HZ
       have HZ := Aside0.mk (zero9 (w.heap.size + 1 + 1) (w.heap.size + 1 + 1 + 1) (by omega) V (.bool false) _ HVE.out (.int .i64 m.f0.f0) (.string m.f0.f1) (.slice E2 m.f0.f2.length e2) (.int .i64 m.f0.f3) (.int .i64 m.f0.f4) (.slice E5 m.f0.f5.length e5) (.int .i64 m.f1) (.int .i64 m.f2) (.bool false))
       have y0 := blk_cell HZ.out 0
       have yf := blk_frozen HZ.out 0
       simp at y0
       unfold set9 at y0 yf
       clear HZ
       go_wp2
       obtain ⟨g1, g2, g3⟩ := fin_err (by omega) HVM.out HVE.out (.int .i64 m.f0.f0) (.string m.f0.f1) (.slice E2 m.f0.f2.length e2) (.int .i64 m.f0.f3) (.int .i64 m.f0.f4) (.slice E5 m.f0.f5.length e5) (.int .i64 m.f1) (.int .i64 m.f2) (.bool m.f3) (.int .i64 0)
       rw [h3] at g1 g2 g3
       have hB4s := HB4.out.size
       refine door_idle (read41 _ (w.heap.size + 1 + 1) (w.heap.size + 1 + 1 + 1) 0 _ _ _ _ _ _ _ _ _ _ _ ?_ ?_ g1 g2) (ChRet.ok (Z := Z) (X := X) HKV.out g3 (fun k hk => ⟨by rcases hk with h | h <;> omega, fun hq => by have hq' : W4.heap.size ≤ k := hq; rcases hk with h | h <;> omega⟩) (fun k hk => by have hk' : W4.heap.size ≤ k := hk; omega) (by have := HMV.out; unfold mnW at this; rw [h3] at this; exact this) HX.out HXV.out (by simp [chP, hbad, hres, h3, k1, k2]))
       ·rfl
       ·rfl
end
theorem inv0 {T : Lib.PrintTabs} {s : Sg} {W : World} {mb : Nat} (h : MapE W mb []) : MapInv T s W mb (fun _ => False) [] := ⟨h, fun x v hx => (by simp [entOf] at hx), fun h => h⟩
set_option maxHeartbeats 2000000 in
set_option maxRecDepth 100000 in
theorem sent55 (T : Lib.PrintTabs) (s : Sg) (t : S30) (w W : World) (bp mb Bt : Nat) (A1 : Option Addr) (c1 : Nat) (A2 : Option Addr) (c2 : Nat) (hT : Tabs T w) (hC : s.C w) (hok : sigOk s.ss s.cs s.ps = true) (hn : nodes t ≤ 60) (hf : formedP structL t cS = true) (hr : resP t = true) (hsm : Sm t) (hB : Below w.heap.size w W)
  (hbp : W.heap[bp]? = some (.cells #[.slice s.A0 s.ss.length s.c0, .slice s.A1 s.cs.length s.c1, .slice s.A2 s.ps.length s.c2, .map (some mb)] 121 (0, 0))) (hm : MapE W mb []) (hge : w.heap.size ≤ mb) (hlt : mb < W.heap.size) (hT' : TreeAt W Bt t A1 c1 A2 c2) :
  Calls Tryz.prog 55 #[.pointer (some ⟨bp, 0, none⟩), .pointer (some ⟨Bt, 0, none⟩)] W (BRet (fun _ => False) (fun _ => True) W mb (sentP s 60 t)) := by
 have HBW := Aside0.mk (below_alloc (Below.refl W.heap.size W) (.cells #[.int .i64 0, .string ⟨#[]⟩, .slice none 0 0, .int .i64 0, .int .i64 0, .slice none 0 0, .int .i64 0, .int .i64 0, .bool false] 70))
 have HXR := Aside0.mk (blk_new W (.cells #[.int .i64 0, .string ⟨#[]⟩, .slice none 0 0, .int .i64 0, .int .i64 0, .slice none 0 0, .int .i64 0, .int .i64 0, .bool false] 70))
 have HXT := Aside0.mk (blk_below hT'.blk HBW.out)
 have HSZ := Aside0.mk (show (W.alloc (.cells #[.int .i64 0, .string ⟨#[]⟩, .slice none 0 0, .int .i64 0, .int .i64 0, .slice none 0 0, .int .i64 0, .int .i64 0, .bool false] 70)).heap.size = W.heap.size + 1 by simp)
 have hs := sig_ok hok
 have C := Aside0.mk (sent_all T s 60 t hn (Nat.le_refl _) hf hr hsm w (W.alloc (.cells #[.int .i64 0, .string ⟨#[]⟩, .slice none 0 0, .int .i64 0, .int .i64 0, .slice none 0 0, .int .i64 0, .int .i64 0, .bool false] 70)) bp mb (fun _ => False) [] A1 c1 A2 c2 ⟨below_step hB HBW.out, hT, hC, hs.1, blk_below hbp HBW.out, hge, hs.2⟩ (inv0 (hm.below HBW.out)) ⟨hT'.l1, (hT'.below HBW.out).v, hT'.l2, (hT'.below HBW.out).k⟩ (by have := NN_eq 60; simp; omega))
 have HLT := Aside0.mk hlt
 clear hT hC hok hn hf hr hsm hB hbp hm hge hT' hs hlt
 have x0 := blk_cell HXT.out 0
 have x1 := blk_cell HXT.out 1
 have x2 := blk_cell HXT.out 2
 simp at x0 x1 x2
 cases hq : sentP s 60 t with
 | none =>
  rw [hq] at C
  go_enter Tryz.func55, Tryz.ntmps55
  go_wp2_with (go_at_call 56; refine C.out.mono ?_; rintro e w5 ⟨hk, rfl⟩)
  exact ⟨rfl, (Kp.of_below HBW.out (fun k => k = mb ∨ False)).then_ hk (fun k hk => .inl (.inl hk)), rfl⟩
 | some m =>
  rw [hq] at C
  go_enter Tryz.func55, Tryz.ntmps55
  go_wp2_with (go_at_call 56; refine C.out.mono ?_; rintro e w5 ⟨hk, v5, rfl, hm5, en5, hi5, hl5⟩; have HK5 := Aside0.mk hk; have HM5 := Aside0.mk hm5; have RR := Aside0.mk (hk.blk HXR.out (by have := HLT.out; omega)); obtain ⟨E2, e2, E5, e5, rfl, hrest⟩ := id hm5; clear hk hm5 hi5 hl5 hrest; unfold mnW; have zc0 := blk_cell RR.out 0; have zf0 := blk_frozen RR.out 0; have zc1 := blk_cell RR.out 1; have zf1 := blk_frozen RR.out 1; have zc2 := blk_cell RR.out 2; have zf2 := blk_frozen RR.out 2; have zc3 := blk_cell RR.out 3; have zf3 := blk_frozen RR.out 3; have zc4 := blk_cell RR.out 4; have zf4 := blk_frozen RR.out 4; have zc5 := blk_cell RR.out 5; have zf5 := blk_frozen RR.out 5; have zc6 := blk_cell RR.out 6; have zf6 := blk_frozen RR.out 6; have zc7 := blk_cell RR.out 7; have zf7 := blk_frozen RR.out 7; have zc8 := blk_cell RR.out 8; have zf8 := blk_frozen RR.out 8; simp at zc0 zc1 zc2 zc3 zc4 zc5 zc6 zc7 zc8)
  refine bodyPost_ret (results_single rfl (.cell W.heap.size 70 _ (0, 0) _ rfl (fin9 (W := w5) RR.out (.int .i64 m.f0.f0) (.string m.f0.f1) (.slice E2 m.f0.f2.length e2) (.int .i64 m.f0.f3) (.int .i64 m.f0.f4) (.slice E5 m.f0.f5.length e5) (.int .i64 m.f1) (.int .i64 m.f2) (.bool m.f3)) Tryz.underlying70 rfl (by kernel_rfl) .nil)) rfl ?_
  have hsz := HSZ.out
  refine ⟨((Kp.of_below HBW.out (fun k => k = mb ∨ False)).then_ HK5.out (fun k hk => .inl (.inl hk))).then_ (kp_set9 (g := W.heap.size) (.int .i64 m.f0.f0) (.string m.f0.f1) (.slice E2 m.f0.f2.length e2) (.int .i64 m.f0.f3) (.int .i64 m.f0.f4) (.slice E5 m.f0.f5.length e5) (.int .i64 m.f1) (.int .i64 m.f2) (.bool m.f3)) (fun k hk => .inr (by omega)), _, rfl, ?_, trivial⟩
  exact (HM5.out.stored (g := W.heap.size) (fun k hk => by rcases hk with h | h; exact h.elim; omega) (.int .i64 m.f0.f0) (.string m.f0.f1) (.slice E2 m.f0.f2.length e2) (.int .i64 m.f0.f3) (.int .i64 m.f0.f4) (.slice E5 m.f0.f5.length e5) (.int .i64 m.f1) (.int .i64 m.f2) (.bool m.f3)).mono (fun k hk => by rcases hk with h | h; exact h.elim; omega)
end Go.Proofs.YtcfjomnihhdpaaaGreatDoor.A
