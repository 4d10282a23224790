/- The law SessionReady returns true for every list of editors, every number, every list of operations, every draft and revision, and leaves its arguments as they were: where the arguments are of bulk at most 1048576 (the second form of the statement, SessionReadyUptoSaid). -/
import Derived.Test.YtkblcdpmdbofgaaM4
import Derived.WalkKit
import Derived.ProofKit
import Derived.OpenShut
import Derived.ShutString
import Derived.ChangeOld
import Derived.Below
import Derived.SizedLaws
import Derived.JoinedCond
/- SessionReady: the walk. -/
namespace Go.Proofs.Ytkblcdpmdbofgaa.A
open Go.RowKit Go.Proofs.YtkblcdpmdbofgaaW.PrintWords Go.Proofs.YtkblcdpmdbofgaaW.PrintLast Go.Proofs.YtkblcdpmdbofgaaW.PrintMore
set_option linter.unusedVariables false
set_option linter.unusedSimpArgs false

/-- A desk beside a row of one's own. -/
structure RS (w0 w : World) (dp mb : Nat) (D : Dk) (n : Nat) (v : Value) (ap : List ByteArray) : Prop where
  row : Row Kd.string 9 w (fun _ => False) v ap
  new : ∀ k, v.ownBlock = some k → w0.heap.size ≤ k
  desk : At w (fun k => k < w0.heap.size ∨ v.ownBlock = some k) dp mb D n
  kept : Kept0 w0 w
section
variable {w0 w w1 w2 W : World} {dp mb : Nat} {D : Dk} {n m : Nat} {v v1 : Value} {ap : List ByteArray}
theorem RS.below (h : RS w0 w dp mb D n v ap) (hB : Below w.heap.size w w1) : RS w0 w1 dp mb D n v ap :=
  ⟨h.row.step (fun k hk => hB.block k (h.row.lt k hk)) (fun k hk => hk.elim), h.new, (h.desk.grow hB).mono (fun k hk => .inl hk) (Nat.le_refl _), h.kept.below hB⟩
theorem RS.did {o : Obj} {r : Int × Int × Dk} {e : Ending} (h : RS w0 w dp mb D n v ap) (hd : Did (w.alloc o) (fun k => (k < w0.heap.size ∨ v.ownBlock = some k) ∨ w.heap.size ≤ k) dp mb r m e w2) : RS w0 w2 dp mb r.2.2 m v ap ∧ w2.heap[w.heap.size]? = some o := by
  obtain ⟨_, hA, hK⟩ := hd
  have hB : Below w.heap.size w (w.alloc o) := below_alloc (Below.refl _ _) _
  have hw := h.kept.size
  refine ⟨⟨h.row.step (fun k hk => ?_) (fun k hk => hk.elim), h.new, hA.mono (fun k hk => ⟨.inl hk, ?_⟩) (Nat.le_refl _), (h.kept.below hB).then_ hK (fun k hk => Nat.le_of_not_lt (fun hl => hk (.inl (.inl hl))))⟩, ?_⟩
  · have hl := h.row.lt k hk
    rw [hK.block k (Nat.lt_of_lt_of_le hl hB.size) (fun hn => hn (.inl (.inr hk)))]
    exact hB.block k hl
  · refine Nat.lt_of_lt_of_le ?_ hB.size
    rcases hk with hk | hk
    · exact Nat.lt_of_lt_of_le hk hw
    · exact h.row.lt k hk
  · exact hK.blk (heap_alloc_new w o) (fun hn => hn (.inr (Nat.le_refl _)))
theorem RS.append {x : ByteArray} (h : RS w0 W dp mb D n v ap) (hN : Row Kd.string 9 w1 (fun _ => False) v1 (ap ++ [x])) (hG : W.grownBy w1 v.ownBlock) (hat : v1.ownBlock = v.ownBlock ∨ ∃ b, v1.ownBlock = some b ∧ W.heap.size ≤ b) : RS w0 w1 dp mb D n v1 (ap ++ [x]) := by
  have hK : Kp W w1 (fun k => v.ownBlock = some k) := Kp.of_grown hG
  refine ⟨hN, fun k hk => ?_, (h.desk.keep (hK.mono (fun k hk => .inr hk))).mono (fun k hk => ?_) (Nat.le_refl _), h.kept.then_ hK (fun k hk => h.new k hk)⟩
  · rcases hat with he | ⟨b, he, hb⟩
    · exact h.new k (he ▸ hk)
    · rw [he] at hk
      injection hk with hk
      subst hk
      exact Nat.le_trans h.kept.size hb
  · rcases hk with hk | hk
    · exact .inl (.inl hk)
    · rcases hat with he | ⟨b, he, hb⟩
      · exact .inl (.inr (he ▸ hk))
      · rw [he] at hk
        injection hk with hk
        subst hk
        exact .inr hb
theorem RS.nil (h : RS w0 w dp mb D n v ap) : RS w0 w dp mb D n (.slice none 0 0) [] := ⟨Row.nil _ _ _ _, fun k hk => by simp [Value.ownBlock] at hk, h.desk.mono (fun k hk => hk.elim .inl (fun hk => by simp [Value.ownBlock] at hk)) (Nat.le_refl _), h.kept⟩
theorem RS.start (h : Stand w0 w dp mb D n) : RS w0 (w.alloc (.cells #[] 9)) dp mb D n (.slice (some ⟨w.heap.size, 0, none⟩) 0 0) [] := by
  have hB : Below w.heap.size w (w.alloc (.cells #[] 9)) := below_alloc (Below.refl _ _) _
  refine ⟨⟨[], rfl, R_empty (Kd.raw Kd.string.sz) 9 w 0 _ (Nat.zero_le _) rfl, fun j x c hx => by simp at hx⟩, fun k hk => ?_, (h.1.grow hB).mono (fun k hk => ?_) (Nat.le_refl _), h.2.below hB⟩
  · injection hk with hk
    subst hk
    exact h.2.size
  · rcases hk with hk | hk
    · exact .inl hk
    · injection hk with hk
      subst hk
      exact .inr (Nat.le_refl _)
end
theorem in_no (A : Option Addr) (c : Nat) (l : List ByteArray) (x : ByteArray) (w : World) (hm : memS l x = false) (hl : l.length ≤ 2000000) (hr : Kd.C Kd.string w A l.length l) (hc : l.length ≤ c) :
    Calls Try.prog 16 #[.slice A l.length c, .string x] w fun e w' => e = .returned (.bool false) ∧ Drawn0 w w' := by
  have := in_calls A c l x w hl hr hc
  rwa [hm] at this
set_option maxHeartbeats 4000000 in
set_option maxRecDepth 100000 in
theorem ready_loop (w0 : World) (A : Option Addr) (c : Nat) (l : List ByteArray) (needed : Int) (Ao : Option Addr) (co : Nat) (ops : List S35) (id rev : Int) (hid : (Lit.int .i64 id).wf = true)
    (hr : Kd.string.C w0 A l.length l) (hcp : l.length ≤ c) (hsz : ∀ x ∈ l, x.size ≤ 2000000) (hro : k35.C w0 Ao ops.length ops) (hco : ops.length ≤ co) (hlo : ops.length ≤ 2000000) (hok : ∀ x ∈ ops, opOk x) :
    Calls Try.prog 4 #[.slice A l.length c, .int .i64 needed, .slice Ao ops.length co, .int .i64 id, .int .i64 rev] w0 fun e w' => e = .returned (.bool true) ∧ Below w0.heap.size w0 w' := by
  have C10 := Aside0.mk (fun (W : World) => awake_calls W)
  have C11 := Aside0.mk (fun (W : World) (hW : Below w0.heap.size w0 W) => new_calls A c l needed W (Kd.C_below hr hW) hcp hsz)
  have C14 := Aside0.mk (fun (W : World) (hW : Below w0.heap.size w0 W) => few_calls Ao co ops W hlo (Kd.C_below hro hW) hco)
  have HR := Aside0.mk hro
  have HO := Aside0.mk hok
  have HID := Aside0.mk hid
  clear hr hcp hsz hro hco hlo hok hid
  cases hn : canNew l needed with
  | false =>
    have HN := Aside0.mk (fun (W : World) e w' (h : Made W l needed e w') => (show e = .returned (.tuple #[.pointer none, .int .i64 1]) ∧ Below W.heap.size W w' by unfold Made at h; rwa [hn, if_neg (by simp)] at h))
    clear hn
    go_enter Try.func4, Try.ntmps4
    go_wp2_with (first
      | (go_at_call 10; refine (C10.out _).mono ?_; rintro e w1 ⟨rfl, hB⟩; have HB1 := Aside0.mk hB; clear hB)
      | (go_at_call 11; refine (C11.out _ HB1.out).mono ?_; rintro e w2 hM; obtain ⟨rfl, hB⟩ := HN.out _ _ _ hM; have HB2 := Aside0.mk (below_step HB1.out hB); clear hM hB))
    go_ret
    exact ⟨rfl, HB2.out⟩
  | true =>
    have HN := Aside0.mk hn
    clear hn
    cases hf : fewS ops with
    | false =>
      rw [hf] at C14
      clear hf
      go_enter Try.func4, Try.ntmps4
      go_wp2_with (first
        | (go_at_call 10; refine (C10.out _).mono ?_; rintro e w1 ⟨rfl, hB⟩; have HB1 := Aside0.mk hB; clear hB)
        | (go_at_call 11; refine (C11.out _ HB1.out).mono ?_; rintro e w2 hM; obtain ⟨dp, mb, rfl, hS⟩ := new_stand (w0 := w0) hM HN.out ((Kept0.refl w0).below HB1.out); have S := Aside0.mk hS; clear hM hS)
        | (go_at_call 14; refine (C14.out _ S.out.2.to).mono ?_; rintro e w3 ⟨rfl, ⟨m, rfl⟩⟩))
      go_ret
      exact ⟨rfl, pw_below_drewN S.out.2.to m⟩
    | true =>
      rw [hf] at C14
      have hl40 := few_short hf
      clear hf
      go_enter Try.func4, Try.ntmps4
      go_wp2_with (first
        | (go_at_call 10; refine (C10.out _).mono ?_; rintro e w1 ⟨rfl, hB⟩; have HB1 := Aside0.mk hB; clear hB)
        | (go_at_call 11; refine (C11.out _ HB1.out).mono ?_; rintro e w2 hM; obtain ⟨dp, mb, rfl, hS⟩ := new_stand (w0 := w0) hM HN.out ((Kept0.refl w0).below HB1.out); have S := Aside0.mk hS; clear hM hS)
        | (go_at_call 14; refine (C14.out _ S.out.2.to).mono ?_; rintro e w3 ⟨rfl, ⟨m, rfl⟩⟩))
      go_loopw [13, 14, 15, 16] (fun v13 v14 v15 v16 w' => ∃ (x nw : Int) (au : ByteArray) (ap : List ByteArray), v16 = .int .i64 x ∧ v15 = .int .i64 nw ∧ v14 = .string au ∧ 0 ≤ x ∧ x ≤ ops.length ∧ Aside0 (RS w0 w' dp mb (Dk.run ⟨l, needed, []⟩ (ops.take x.toNat)) x.toNat v13 ap ∧ Inv (Dk.run ⟨l, needed, []⟩ (ops.take x.toNat)) id au nw ap)) (fun _ _ _ i _ => ops.length - (intOf i).toNat)
      case atStart => exact ⟨0, 0, _, [], rfl, rfl, rfl, Int.le_refl _, Int.natCast_nonneg _, ⟨RS.start (S.out.drewN m), by unfold Inv; simp [Dk.run, Dk.get]⟩⟩
      case round =>
        clear S C10 C11 C14 HB1
        obtain ⟨x, nw, au, ap, rfl, rfl, rfl, hx, hk, H⟩ := hrel
        obtain ⟨Av, cv, rfl⟩ := H.out.1.row.slice
        by_cases hlt : x < ops.length
        · obtain ⟨ad, A4, c4, e, hx0, hx1, hx2, hx3, hx4, hl4, hi4⟩ := at_T35 HR.out x hx hlt
          cases e
          have HB := H.out.1.kept.to
          replace hx0 := (HB.cell (World.block_lt_of_cell? w0 _ hx0)).trans hx0
          replace hx1 := (HB.cell (World.block_lt_of_cell? w0 _ hx1)).trans hx1
          replace hx2 := (HB.cell (World.block_lt_of_cell? w0 _ hx2)).trans hx2
          replace hx3 := (HB.cell (World.block_lt_of_cell? w0 _ hx3)).trans hx3
          replace hx4 := (HB.cell (World.block_lt_of_cell? w0 _ hx4)).trans hx4
          have Hn : Dk.run ⟨l, needed, []⟩ (ops.take (x + 1).toNat) = ((Dk.run ⟨l, needed, []⟩ (ops.take x.toNat)).doOp (rd_T35 ops x)).2.2 := by rw [take_rd35 ops x hx hlt, Dk.run_append]
          have ho := HO.out _ (rd35_mem ops x hx hlt)
          generalize (Dk.run ⟨l, needed, []⟩ (ops.take x.toNat)) = D at H Hn
          generalize rd_T35 ops x = y at hx0 hx1 hx2 hx3 hx4 hl4 hi4 Hn ho
          obtain ⟨y0, y1, y2, y3, y4⟩ := y
          have HF4 := Kd.F_mono (Kd.F_step (Kd.C_F heap68 hi4) (fun k hk hl => (H.out.1.kept.below (below_alloc (Below.refl wr.heap.size wr) (.cells #[.int .i64 y0, .string y1, .int .i64 y2, .int .i64 y3, .slice A4 y4.length c4] 35))).block k hk (fun f => f))) (fun k hk => (Or.inl (Or.inl hk) : (k < w0.heap.size ∨ (Value.slice Av ap.length cv).ownBlock = some k) ∨ wr.heap.size ≤ k))
          have Cdo := Aside0.mk (do_calls (H.out.1.desk.grow (below_alloc (Below.refl wr.heap.size wr) (.cells #[.int .i64 y0, .string y1, .int .i64 y2, .int .i64 y3, .slice A4 y4.length c4] 35))) (by omega) ⟨y0, y1, y2, y3, y4⟩ A4 c4 ho HF4 hl4)
          have KIND := Aside0.mk (And.intro (opens_cases D y1 y4) (And.intro (amend_cases D y1 y2 y3 y4) (approve_cases D y1 y2 y3)))
          have KC := Aside0.mk (close_cases D y2)
          have ERR := Aside0.mk (doOp_err D ⟨y0, y1, y2, y3, y4⟩)
          have p1 := eq_true hx
          have q1 := eq_true hlt
          clear hi4 hl4 ho HF4 HB
          obtain ⟨r, hr⟩ : ∃ r, r = D.doOp ⟨y0, y1, y2, y3, y4⟩ := ⟨_, rfl⟩
          rw [← hr] at Cdo Hn ERR
          obtain ⟨N, E, D1⟩ := r
          have HR1 := Aside0.mk hr
          have HNN := Aside0.mk Hn
          clear hr Hn
          simp only at Cdo ERR HNN
          by_cases hE : E = 0
          · subst hE
            by_cases h1 : y0 = 1
            · subst h1
              have h0 := HR1.out
              rw [show D.doOp ⟨1, y1, y2, y3, y4⟩ = D.opens y1 y4 from rfl] at h0
              rcases KIND.out.1 with hh | ⟨hh, _, _⟩
              · rw [← h0] at hh; exact absurd rfl hh.1
              rw [hh] at h0
              injection h0 with hN h0
              injection h0 with _ hD
              by_cases hNi : N = id
              · have gN : (N == id) = true := beq_iff_eq.mpr hNi
                have HI : Aside0 (Inv D1 id y1 1 ap) := ⟨by
                  have hg : D.get id = none := by rw [← hNi, hN]; exact get_new D
                  have hap := (H.out.2.at_none hg).2
                  subst hap
                  have h2 : D1.get id = some ⟨y1, y4, [], [], false⟩ := by rw [hD, get_add, if_pos (by rw [← hN]; exact hNi)]
                  exact Inv.mk_some h2⟩
                clear ERR KIND KC HR1
                try clear hNi
                try clear hi
                try clear hrev
                try clear hau
                try clear hmem
                try clear i1
                try clear i2
                try clear i3
                try clear hg'
                try clear hh
                try clear hN
                try clear hD
                try clear h0
                try clear hDD
                try clear hI2
                try clear hg
                go_wp2_with (first | (go_at_call 15; refine Cdo.out.mono ?_; rintro e w2 hd; obtain ⟨hS, hbx⟩ := H.out.1.did hd; obtain ⟨rfl, _, _⟩ := hd; have hbx2 := blk_alloc hbx (.cells #[.int .i64 N, .int .i64 0] 37); have b0 := blk_cell hbx2 0; have b1 := blk_cell hbx2 1; have b2 := blk_cell hbx2 2; have b3 := blk_cell hbx2 3; simp at b0 b1 b2 b3; have HS := Aside0.mk (hS.below (below_alloc (Below.refl w2.heap.size w2) (.cells #[.int .i64 N, .int .i64 0] 37))); clear hS hbx hbx2))
                go_roundw
                case rel => exact ⟨x + 1, 1, y1, ap, rfl, rfl, rfl, by omega, by omega, ⟨by rw [HNN.out, show (x + 1).toNat = x.toNat + 1 by omega]; exact HS.out, by rw [HNN.out]; exact HI.out⟩⟩
                case measure => simp [intOf]; omega
  
              · have gN : (N == id) = false := beq_eq_false_iff_ne.mpr hNi
                have HI : Aside0 (Inv D1 id au nw ap) := ⟨H.out.2.get (by rw [hD, get_add, if_neg (fun h => hNi (hN.trans h))])⟩
                clear ERR KIND KC HR1
                try clear hNi
                try clear hi
                try clear hrev
                try clear hau
                try clear hmem
                try clear i1
                try clear i2
                try clear i3
                try clear hg'
                try clear hh
                try clear hN
                try clear hD
                try clear h0
                try clear hDD
                try clear hI2
                try clear hg
                go_wp2_with (first | (go_at_call 15; refine Cdo.out.mono ?_; rintro e w2 hd; obtain ⟨hS, hbx⟩ := H.out.1.did hd; obtain ⟨rfl, _, _⟩ := hd; have hbx2 := blk_alloc hbx (.cells #[.int .i64 N, .int .i64 0] 37); have b0 := blk_cell hbx2 0; have b1 := blk_cell hbx2 1; have b2 := blk_cell hbx2 2; have b3 := blk_cell hbx2 3; simp at b0 b1 b2 b3; have HS := Aside0.mk (hS.below (below_alloc (Below.refl w2.heap.size w2) (.cells #[.int .i64 N, .int .i64 0] 37))); clear hS hbx hbx2))
                go_roundw
                case rel => exact ⟨x + 1, nw, au, ap, rfl, rfl, rfl, by omega, by omega, ⟨by rw [HNN.out, show (x + 1).toNat = x.toNat + 1 by omega]; exact HS.out, by rw [HNN.out]; exact HI.out⟩⟩
                case measure => simp [intOf]; omega
  
            · by_cases h2 : y0 = 2
              · subst h2
                have h0 := HR1.out
                rw [show D.doOp ⟨2, y1, y2, y3, y4⟩ = D.amend y1 y2 y3 y4 from rfl] at h0
                rcases KIND.out.2.1 with hh | ⟨d, hg, _, _, hh, _⟩
                · rw [← h0] at hh; exact absurd rfl hh.1
                rw [hh] at h0
                injection h0 with hN h0
                injection h0 with _ hD
                by_cases hi : y2 = id
                · have gi : (y2 == id) = true := beq_iff_eq.mpr hi
                  have HI : Aside0 (Inv D1 id y1 N []) := ⟨by
                    have h2 : D1.get id = some ⟨y1, y4, d.earlier ++ [d.trees], [], d.closed⟩ := by rw [hD, get_put hg, if_pos hi]
                    have h3 := Inv.mk_some h2
                    rw [show (((d.earlier ++ [d.trees]).length : Int) + 1) = N by rw [hN]; simp; omega] at h3
                    exact h3⟩
                  clear ERR KIND KC HR1
                  try clear hNi
                  try clear hi
                  try clear hrev
                  try clear hau
                  try clear hmem
                  try clear i1
                  try clear i2
                  try clear i3
                  try clear hg'
                  try clear hh
                  try clear hN
                  try clear hD
                  try clear h0
                  try clear hDD
                  try clear hI2
                  try clear hg
                  go_wp2_with (first | (go_at_call 15; refine Cdo.out.mono ?_; rintro e w2 hd; obtain ⟨hS, hbx⟩ := H.out.1.did hd; obtain ⟨rfl, _, _⟩ := hd; have hbx2 := blk_alloc hbx (.cells #[.int .i64 N, .int .i64 0] 37); have b0 := blk_cell hbx2 0; have b1 := blk_cell hbx2 1; have b2 := blk_cell hbx2 2; have b3 := blk_cell hbx2 3; simp at b0 b1 b2 b3; have HS := Aside0.mk (hS.below (below_alloc (Below.refl w2.heap.size w2) (.cells #[.int .i64 N, .int .i64 0] 37))); clear hS hbx hbx2))
                  go_quiet (fail)
                  go_wp2
                  go_roundw
                  case rel => exact ⟨x + 1, N, y1, [], rfl, rfl, rfl, by omega, by omega, ⟨by rw [HNN.out, show (x + 1).toNat = x.toNat + 1 by omega]; exact HS.out.nil.below (pw_below_drewN (Below.refl _ _) _), by rw [HNN.out]; exact HI.out⟩⟩
                  case measure => simp [intOf]; omega
  
                · have gi : (y2 == id) = false := beq_eq_false_iff_ne.mpr hi
                  have HI : Aside0 (Inv D1 id au nw ap) := ⟨H.out.2.get (by rw [hD, get_put hg, if_neg hi])⟩
                  clear ERR KIND KC HR1
                  try clear hNi
                  try clear hi
                  try clear hrev
                  try clear hau
                  try clear hmem
                  try clear i1
                  try clear i2
                  try clear i3
                  try clear hg'
                  try clear hh
                  try clear hN
                  try clear hD
                  try clear h0
                  try clear hDD
                  try clear hI2
                  try clear hg
                  go_wp2_with (first | (go_at_call 15; refine Cdo.out.mono ?_; rintro e w2 hd; obtain ⟨hS, hbx⟩ := H.out.1.did hd; obtain ⟨rfl, _, _⟩ := hd; have hbx2 := blk_alloc hbx (.cells #[.int .i64 N, .int .i64 0] 37); have b0 := blk_cell hbx2 0; have b1 := blk_cell hbx2 1; have b2 := blk_cell hbx2 2; have b3 := blk_cell hbx2 3; simp at b0 b1 b2 b3; have HS := Aside0.mk (hS.below (below_alloc (Below.refl w2.heap.size w2) (.cells #[.int .i64 N, .int .i64 0] 37))); clear hS hbx hbx2))
                  go_roundw
                  case rel => exact ⟨x + 1, nw, au, ap, rfl, rfl, rfl, by omega, by omega, ⟨by rw [HNN.out, show (x + 1).toNat = x.toNat + 1 by omega]; exact HS.out, by rw [HNN.out]; exact HI.out⟩⟩
                  case measure => simp [intOf]; omega
  
              · by_cases h3 : y0 = 3
                · subst h3
                  have h0 := HR1.out
                  rw [show D.doOp ⟨3, y1, y2, y3, y4⟩ = (0, D.approve y1 y2 y3) from rfl] at h0
                  rcases KIND.out.2.2 with hh | ⟨d, hg, _, hrev, hau, hmem, hh⟩
                  · rw [← (Prod.mk.inj h0).2] at hh; exact absurd rfl hh.1
                  rw [hh] at h0
                  injection h0 with hN h0
                  injection h0 with _ hD
                  by_cases hi : y2 = id
                  · have gi : (y2 == id) = true := beq_iff_eq.mpr hi
                    have hg' : D.get id = some d := hi ▸ hg
                    obtain ⟨i1, i2, i3⟩ := H.out.2.of hg'
                    have gr : (y3 == nw) = true := beq_iff_eq.mpr (by rw [i1]; exact hrev.symm)
                    have ga : (y1.toList == au.toList) = false := beq_eq_false_iff_ne.mpr (fun h => hau (by rw [← i2]; exact h.symm))
                    have HM : Aside0 (memS ap y1 = false) := ⟨by rw [i3]; exact hmem⟩
                    have HL2 : Aside0 (ap.length ≤ 2000000) := ⟨by
                      have := (H.out.1.desk.1.2 d (Dk.get_mem hg')).2.1
                      rw [i3]
                      omega⟩
                    have HL : Aside0 ((ap.length + 1) * 16 ≤ 140737488355328) := ⟨by
                      have := (H.out.1.desk.1.2 d (Dk.get_mem hg')).2.1
                      rw [i3]
                      omega⟩
                    have HI : Aside0 (Inv D1 id au nw (ap ++ [y1])) := ⟨by
                      have h2 : D1.get id = some { d with approvals := d.approvals ++ [y1] } := by rw [hD, get_put hg, if_pos hi]
                      have h3 := Inv.mk_some h2
                      rw [i1, i2, i3]
                      exact h3⟩
                    clear ERR KIND KC HR1
                    try clear hNi
                    try clear hi
                    try clear hrev
                    try clear hau
                    try clear hmem
                    try clear i1
                    try clear i2
                    try clear i3
                    try clear hg'
                    try clear hh
                    try clear hN
                    try clear hD
                    try clear h0
                    try clear hDD
                    try clear hI2
                    try clear hg
                    go_wp2_with (first | (go_at_call 15; refine Cdo.out.mono ?_; rintro e w2 hd; obtain ⟨hS, hbx⟩ := H.out.1.did hd; obtain ⟨rfl, _, _⟩ := hd; have hbx2 := blk_alloc hbx (.cells #[.int .i64 N, .int .i64 0] 37); have b0 := blk_cell hbx2 0; have b1 := blk_cell hbx2 1; have b2 := blk_cell hbx2 2; have b3 := blk_cell hbx2 3; simp at b0 b1 b2 b3; have HS := Aside0.mk (hS.below (below_alloc (Below.refl w2.heap.size w2) (.cells #[.int .i64 N, .int .i64 0] 37))); clear hS hbx hbx2) | (go_at_call 16; refine (in_no Av cv ap y1 _ HM.out HL2.out HS.out.row.reads'.2.2 HS.out.row.reads'.2.1).mono ?_; rintro e w4 ⟨rfl, ⟨m4, rfl⟩⟩; have HS2 := Aside0.mk (HS.out.below (pw_below_drewN (Below.refl _ _) m4))) | (at_builtin; refine Row.append Kd.string rfl _ _ 22 9 (.string ⟨#[]⟩) 16 rfl Try.underlying22 info9 rfl (by decide) (by decide) (.slice Av ap.length cv) ap y1 [.string y1] (fun _ => False) rfl (by first | rfl | simp [Act.eval, Act.put]) (FK_str _ _ _) (fun _ hk => hk.elim) HS2.out.row HL.out ?_; intro v1 w5 hN5 hG5 hat5; have HS5 := Aside0.mk (HS2.out.append hN5 hG5 hat5); clear hN5 hG5 hat5))
                    go_roundw
                    case rel => exact ⟨x + 1, nw, au, ap ++ [y1], rfl, rfl, rfl, by omega, by omega, ⟨by rw [HNN.out, show (x + 1).toNat = x.toNat + 1 by omega]; exact HS5.out, by rw [HNN.out]; exact HI.out⟩⟩
                    case measure => simp [intOf]; omega
  
                  · have gi : (y2 == id) = false := beq_eq_false_iff_ne.mpr hi
                    have HI : Aside0 (Inv D1 id au nw ap) := ⟨H.out.2.get (by rw [hD, get_put hg, if_neg hi])⟩
                    clear ERR KIND KC HR1
                    try clear hNi
                    try clear hi
                    try clear hrev
                    try clear hau
                    try clear hmem
                    try clear i1
                    try clear i2
                    try clear i3
                    try clear hg'
                    try clear hh
                    try clear hN
                    try clear hD
                    try clear h0
                    try clear hDD
                    try clear hI2
                    try clear hg
                    go_wp2_with (first | (go_at_call 15; refine Cdo.out.mono ?_; rintro e w2 hd; obtain ⟨hS, hbx⟩ := H.out.1.did hd; obtain ⟨rfl, _, _⟩ := hd; have hbx2 := blk_alloc hbx (.cells #[.int .i64 N, .int .i64 0] 37); have b0 := blk_cell hbx2 0; have b1 := blk_cell hbx2 1; have b2 := blk_cell hbx2 2; have b3 := blk_cell hbx2 3; simp at b0 b1 b2 b3; have HS := Aside0.mk (hS.below (below_alloc (Below.refl w2.heap.size w2) (.cells #[.int .i64 N, .int .i64 0] 37))); clear hS hbx hbx2))
                    go_roundw
                    case rel => exact ⟨x + 1, nw, au, ap, rfl, rfl, rfl, by omega, by omega, ⟨by rw [HNN.out, show (x + 1).toNat = x.toNat + 1 by omega]; exact HS.out, by rw [HNN.out]; exact HI.out⟩⟩
                    case measure => simp [intOf]; omega
  
                · have g1 : (y0 == 1) = false := beq_eq_false_iff_ne.mpr h1
                  have g2 : (y0 == 2) = false := beq_eq_false_iff_ne.mpr h2
                  have g3 : (y0 == 3) = false := beq_eq_false_iff_ne.mpr h3
                  have hI2 : Inv D1 id au nw ap := by
                    have h0 := HR1.out
                    unfold Dk.doOp at h0
                    simp only at h0
                    rw [if_neg h1, if_neg h2, if_neg h3] at h0
                    by_cases h4 : y0 = 4
                    · rw [if_pos h4] at h0
                      injection h0 with _ h0
                      injection h0 with _ hD
                      exact hD ▸ H.out.2
                    · rw [if_neg h4] at h0
                      by_cases h5 : y0 = 5
                      · rw [if_pos h5] at h0
                        rcases KC.out with hh | ⟨d, hg, _, hh⟩
                        · rw [← (Prod.mk.inj h0).2] at hh; exact absurd rfl hh.1
                        · rw [hh] at h0
                          injection h0 with _ h0
                          injection h0 with _ hD
                          by_cases hi : y2 = id
                          · have hg' : D.get id = some d := hi ▸ hg
                            obtain ⟨i1, i2, i3⟩ := H.out.2.of hg'
                            have h2' : D1.get id = some { d with closed := true } := by rw [hD, get_put hg, if_pos hi]
                            have h3' := Inv.mk_some h2'
                            rw [i1, i2, i3]
                            exact h3'
                          · exact H.out.2.get (by rw [hD, get_put hg, if_neg hi])
                      · rw [if_neg h5] at h0
                        injection h0 with _ h0
                        injection h0 with _ hD
                        exact hD ▸ H.out.2
                  have HI : Aside0 (Inv D1 id au nw ap) := ⟨hI2⟩
                  clear ERR KIND KC HR1
                  try clear hNi
                  try clear hi
                  try clear hrev
                  try clear hau
                  try clear hmem
                  try clear i1
                  try clear i2
                  try clear i3
                  try clear hg'
                  try clear hh
                  try clear hN
                  try clear hD
                  try clear h0
                  try clear hDD
                  try clear hI2
                  try clear hg
                  go_wp2_with (first | (go_at_call 15; refine Cdo.out.mono ?_; rintro e w2 hd; obtain ⟨hS, hbx⟩ := H.out.1.did hd; obtain ⟨rfl, _, _⟩ := hd; have hbx2 := blk_alloc hbx (.cells #[.int .i64 N, .int .i64 0] 37); have b0 := blk_cell hbx2 0; have b1 := blk_cell hbx2 1; have b2 := blk_cell hbx2 2; have b3 := blk_cell hbx2 3; simp at b0 b1 b2 b3; have HS := Aside0.mk (hS.below (below_alloc (Below.refl w2.heap.size w2) (.cells #[.int .i64 N, .int .i64 0] 37))); clear hS hbx hbx2))
                  go_roundw
                  case rel => exact ⟨x + 1, nw, au, ap, rfl, rfl, rfl, by omega, by omega, ⟨by rw [HNN.out, show (x + 1).toNat = x.toNat + 1 by omega]; exact HS.out, by rw [HNN.out]; exact HI.out⟩⟩
                  case measure => simp [intOf]; omega
          · have gE : (E != 0) = true := bne_iff_ne.mpr hE
            have hDD : D1 = D := ERR.out hE
            have HI : Aside0 (Inv D1 id au nw ap) := ⟨hDD ▸ H.out.2⟩
            clear ERR KIND KC HR1
            try clear hNi
            try clear hi
            try clear hrev
            try clear hau
            try clear hmem
            try clear i1
            try clear i2
            try clear i3
            try clear hg'
            try clear hh
            try clear hN
            try clear hD
            try clear h0
            try clear hDD
            try clear hI2
            try clear hg
            go_wp2_with (first | (go_at_call 15; refine Cdo.out.mono ?_; rintro e w2 hd; obtain ⟨hS, hbx⟩ := H.out.1.did hd; obtain ⟨rfl, _, _⟩ := hd; have hbx2 := blk_alloc hbx (.cells #[.int .i64 N, .int .i64 E] 37); have b0 := blk_cell hbx2 0; have b1 := blk_cell hbx2 1; have b2 := blk_cell hbx2 2; have b3 := blk_cell hbx2 3; simp at b0 b1 b2 b3; have HS := Aside0.mk (hS.below (below_alloc (Below.refl w2.heap.size w2) (.cells #[.int .i64 N, .int .i64 E] 37))); clear hS hbx hbx2))
            go_roundw
            case rel => exact ⟨x + 1, nw, au, ap, rfl, rfl, rfl, by omega, by omega, ⟨by rw [HNN.out, show (x + 1).toNat = x.toNat + 1 by omega]; exact HS.out, by rw [HNN.out]; exact HI.out⟩⟩
            case measure => simp [intOf]; omega
  
        · have HQ := Aside0.mk (H.out.1.desk.ready (by omega) id rev HID.out)
          have e : x.toNat = ops.length := by omega
          have hI := H.out.2
          rw [e, List.take_length] at hI HQ
          have HND : (Dk.run ⟨l, needed, []⟩ ops).needed = needed := (run_needed ⟨l, needed, []⟩ ops).1
          have hrd := hI.ready (rev := rev)
          rw [HND] at hrd
          have HBf := Aside0.mk H.out.1.kept.to
          generalize (Dk.run ⟨l, needed, []⟩ ops).ready id rev = q at HQ hrd
          by_cases hq : q = 0
          · subst hq
            obtain ⟨g1, g2, g3⟩ := hrd rfl
            have t1 : (nw == rev) = true := beq_iff_eq.mpr g1
            have t2 : decide (needed ≤ (ap.length : Int)) = true := decide_eq_true g2
            have t3 : decide (0 < nw) = true := decide_eq_true g3
            clear hrd hI HND g1 g2 g3 H
            go_wp2_with (go_at_call 17; refine HQ.out.mono ?_; rintro e w' ⟨rfl, ⟨m2, rfl⟩⟩)
            go_ret
            exact ⟨rfl, pw_below_drewN HBf.out m2⟩
          · have t1 : (q != 0) = true := bne_iff_ne.mpr hq
            clear hrd hI HND H hq
            go_wp2_with (go_at_call 17; refine HQ.out.mono ?_; rintro e w' ⟨rfl, ⟨m2, rfl⟩⟩)
            go_ret
            exact ⟨rfl, pw_below_drewN HBf.out m2⟩
end Go.Proofs.Ytkblcdpmdbofgaa.A
/- The law SessionReady returns true for every list of editors, every number, every list of operations, every draft and revision, and leaves its arguments as they were: where the arguments are of bulk at most 1048576 (the second form of the statement, SessionReadyUptoSaid). -/
namespace Go.Proofs.Ytkblcdpmdbofgaa.sessionReady
open Go.ChangeShapes Go.WideShapes Go.ChangeAt Go.RowKit
open Go.Proofs.Ytkblcdpmdbofgaa.A
set_option linter.unusedVariables false
theorem own : ownKnob Try.prog.godebug = none := by kernel_rfl
theorem laidOut : laidOutB Try.prog = true := by kernel_rfl
set_option maxRecDepth 100000 in
theorem contract (H : Type) (enc : TypeId × Value → H) (W : World) (base : Nat) (args : Array Value) (ds gs : List (DataW H)) (before : List MemPlace)
    (hval : ∀ (j : Nat) t v, Try.f4.params[j]? = some t → args[j]? = some v → Value.okWide Try.prog W .any base t v)
    (hW : DataW.Whole enc Try.prog Try.f4.params.toList Rows.sessionReadySpec.vars false W args.toList ds gs before) (hk : Rows.uptoSmall H (ds ++ gs) = true) :
    Calls Try.prog 4 args W fun e W' => ∃ v, e = .returned v ∧ Rows.sessionReadySpec.post enc Try.prog Try.f4 false true false false W args v W' := by
  have hW' := hW
  obtain ⟨p, q, hA0, hV, rfl, hfz, hnd⟩ := hW
  have hA : DataW.TrodAll enc Try.prog W 0 (fun _ => true) true Try.f4.params.toList args.toList ds p := hA0
  rw [Try.params4] at hA hval
  obtain ⟨v0, vs0, d0, ds0, p0, q0, hargs, rfl, rfl, h0, r0⟩ := trodAll_cons hA
  obtain ⟨v1, vs1, d1, ds1, p1, q1, rfl, rfl, rfl, h1, r1⟩ := trodAll_cons r0
  obtain ⟨v2, vs2, d2, ds2, p2, q2, rfl, rfl, rfl, h2, r2⟩ := trodAll_cons r1
  obtain ⟨v3, vs3, d3, ds3, p3, q3, rfl, rfl, rfl, h3, r3⟩ := trodAll_cons r2
  obtain ⟨v4, vs4, d4, ds4, p4, q4, rfl, rfl, rfl, h4, r4⟩ := trodAll_cons r3
  obtain ⟨rfl, rfl, rfl⟩ := trodAll_nil r4
  obtain rfl : args = #[v0, v1, v2, v3, v4] := by cases args; simp_all
  obtain ⟨rfl, rfl⟩ := trodVars_none hV
  have hsm : Rows.uptoBulk d0 + Rows.uptoBulk d1 + Rows.uptoBulk d2 + Rows.uptoBulk d3 + Rows.uptoBulk d4 ≤ 1048576 := by
    have := of_decide_eq_true hk
    simp only [List.append_nil, Rows.uptoBulkAll] at this
    omega
  simp only [List.append_nil] at hW'
  have k0 := h0
  have lt0 : ∀ x ∈ p0, x.block < W.heap.size := by obtain ⟨m, hm⟩ := k0; exact DataW.trod_lt m _ _ _ hm
  obtain ⟨A0, len0, c0, rfl⟩ := okWide_slice Try.underlying22 (hval 0 22 v0 rfl rfl)
  obtain ⟨fuel0, hf0⟩ := h0
  obtain ⟨A0', x0, c0', hcs0, hl0, hC0, hb0⟩ := open_strsC hf0
  simp [Value.cells] at hcs0
  obtain ⟨rfl, rfl, rfl⟩ := hcs0
  have hbk0 : sumOf (fun s : ByteArray => s.size + 1) x0 + 1 ≤ Rows.uptoBulk d0 := hb0
  have sm0 := strs_small (n := Rows.uptoBulk d0) hbk0 (by omega)
  obtain ⟨x1, rfl, rfl, rfl, w1⟩ := open_int Try.underlying3 (hval 1 3 v1 rfl rfl) h1
  have k2 := h2
  have lt2 : ∀ x ∈ p2, x.block < W.heap.size := by obtain ⟨m, hm⟩ := k2; exact DataW.trod_lt m _ _ _ hm
  obtain ⟨A2, len2, c2, rfl⟩ := okWide_slice Try.underlying31 (hval 2 31 v2 rfl rfl)
  obtain ⟨fuel2, hf2⟩ := h2
  obtain ⟨A2', x2, c2', hcs2, hl2, hC2, hw2, hb2⟩ := open_opsC hf2
  simp [Value.cells] at hcs2
  obtain ⟨rfl, rfl, rfl⟩ := hcs2
  have hbk2 : sumOf (fun y : S35 => y.f1.size + Go.Proofs.Ytkblcdpmdbofgaa.A.bulkL y.f4 + 1) x2 + 1 ≤ Rows.uptoBulk d2 := hb2
  have sm2 := ops_small hw2 (n := Rows.uptoBulk d2) hbk2 (by omega)
  obtain ⟨x3, rfl, rfl, rfl, w3⟩ := open_int Try.underlying3 (hval 3 3 v3 rfl rfl) h3
  obtain ⟨x4, rfl, rfl, rfl, w4⟩ := open_int Try.underlying3 (hval 4 3 v4 rfl rfl) h4
  refine (ready_loop W A0 c0 x0 x1 A2 c2 x2 x3 x4 w3 hC0 hl0 sm0.1 hC2 hl2 sm2.2 sm2.1).mono fun e W' ⟨he, bel⟩ => ?_
  subst he
  exact ⟨_, rfl, _, _, _, [], _, [], hW', trodAll_mk1 (shut_bool Try.underlying4 _), (trodAll_cons_mk (Below.trod laidOut (by kernel_rfl) (of_decide_eq_true (by kernel_rfl)) k0 bel lt0) (trodAll_cons_mk (shut_int Try.underlying3 w1) (trodAll_cons_mk (Below.trod laidOut (by kernel_rfl) (of_decide_eq_true (by kernel_rfl)) k2 bel lt2) (trodAll_cons_mk (shut_int Try.underlying3 w3) (trodAll_cons_mk (shut_int Try.underlying3 w4) trodAll_mk0))))), rfl, bel.frame _, fun h => by cases h⟩

set_option maxRecDepth 100000 in
theorem lifted (os : Os) (started : os.Started) (H : Type) (enc : TypeId × Value → H) (F : Stop.Interp) :
    ReturnsInHanded {} Try.checked os 4 .any ((Rows.OpenSpec.upto Rows.sessionReadySpec).pre6 enc Try.prog Try.f4 Rows.sessionReadyUptoRow.domain false) (((Rows.OpenSpec.upto Rows.sessionReadySpec).at F).post enc Try.prog Try.f4 false true false false) := by
  refine returnsInHanded_of_cond (C := Try.checked) (s := Rows.OpenSpec.upto Rows.sessionReadySpec) (k := Rows.uptoSmall) rfl own started (by kernel_rfl) Try.func4
    (OpenSpec.witness (enc := enc) (C := Try.checked) (s := Rows.OpenSpec.upto Rows.sessionReadySpec) (k := Rows.uptoSmall) rfl false ⟨#[], #[.slice none 0 0, .int .i64 0, .slice none 0 0, .int .i64 0, .int .i64 0], []⟩ 8 (by kernel_rfl) (by kernel_rfl) (by kernel_rfl)
      (x := ([.nil, .lit (.int .i64 0), .nil, .lit (.int .i64 0), .lit (.int .i64 0)], [], [])) (by kernel_rfl) rfl (by kernel_rfl)) ?_
  intro W base args ds gs before hval hW _ hk _
  exact contract H enc W base args ds gs before hval hW hk

theorem over : Rows.sessionReadyUptoRow.holds Try.pinned (Rows.OpenSpec.upto Rows.sessionReadySpec) :=
  OpenClaim.holds_of_cond 4 Try.f4 rfl rfl rfl rfl rfl rfl rfl ⟨rfl, rfl, rfl, rfl, rfl⟩ rfl rfl rfl rfl rfl (by kernel_rfl) Try.func4 (by kernel_rfl)
    (of_decide_eq_true (by kernel_rfl)) (by unfold Func.isWrapper; first | (rw [if_pos (by decide +kernel)]; kernel_rfl) | (rw [if_neg (by decide +kernel)]; exact ⟨rfl, rfl⟩))
    (fun os started H enc _ F => lifted os started H enc F)

theorem proved : Rows.SessionReadyUptoSaid := over
end Go.Proofs.Ytkblcdpmdbofgaa.sessionReady
namespace Go.Proofs.Ytkblcdpmdbofgaa
/-- The row, under a short name, for the claim. -/
theorem sessionReady_upto : Rows.SessionReadyUptoSaid := sessionReady.proved
end Go.Proofs.Ytkblcdpmdbofgaa
