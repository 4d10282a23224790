/- (*Desk).Amend: the walk. -/
import Derived.Test.YtkblcdpmdbofgaaB13
namespace Go.Proofs.Ytkblcdpmdbofgaa.A
open Go.RowKit Go.Proofs.YtkblcdpmdbofgaaW.PrintWords Go.Proofs.YtkblcdpmdbofgaaW.PrintLast Go.Proofs.YtkblcdpmdbofgaaW.PrintMore
set_option linter.unusedVariables false
set_option linter.unusedSimpArgs false

set_option maxHeartbeats 2000000 in
set_option maxRecDepth 100000 in
theorem amend_ok (w : World) (tag : Nat → Nat) (dp mb : Nat) (sb : List Nat) (D : Dk) (h : DeskAt w tag dp mb sb D) (hok : D.ok) (ed : ByteArray) (i g : Nat) (d : Dr) (num : Int) (ts : List S68) (A : Option Addr) (c : Nat) (hb : bulkL ts ≤ 2000000)
    (hr : k68.F w (fun k => tag k < 2) A ts.length ts) (hc : ts.length ≤ c) (hid : (Lit.int .i64 ((i : Int) + 1)).wf = true)
    (hm : D.valid ed ts = true) (hcur : D.cur ((i : Int) + 1) num = 0) (hn : (num == 256) = false) (hs : sb[i]? = some g) (hd : D.drafts[i]? = some d) (hp : ptrOf sb ((i : Int) + 1) = some ⟨g, 0, none⟩) :
    Calls Try.prog 20 #[.pointer (some ⟨dp, 0, none⟩), .string ed, .int .i64 ((i : Int) + 1), .int .i64 num, .slice A ts.length c] w (Tell w tag dp mb sb (two (((d.earlier.length + 1 : Nat) : Int) + 1) 0) (D.put i ⟨ed, ts, d.earlier ++ [d.trees], [], d.closed⟩)) := by
  have C1 := Aside0.mk (valid_calls w tag dp mb sb D h hok ed ts A c hb (Kd.F_now hr) hc)
  rw [hm] at C1
  have C2 := Aside0.mk (fun (W : World) (hW : Below w.heap.size w W) => current_calls W tag dp mb sb D (h.below hW) hok ((i : Int) + 1) num hid)
  rw [hcur, hp, if_pos rfl] at C2
  obtain ⟨At, ct, Ae, ce, Ap, cp, hP⟩ := (h.drafts i g d hs hd).pre
  have HP := Aside0.mk hP
  have hgl := Aside0.mk (blk_lt hP.blk)
  have C3 := Aside0.mk (fun (W : World) (hK : Kp w W (fun k => tag k = i + 3)) => cloneAll_calls ts A c W (Nat.le_trans (length_bulk ts) hb) (fun x hx => Nat.le_trans (mem_bulk hx) hb) (Kd.F_now (Kd.F_step hr (fun k hk hlt => hK.block k hlt (by omega)))) hc)
  have C4 := Aside0.mk (fun (W : World) (Ax : Option Addr) (cx : Nat) (hW : W.cell? ⟨g, 2, none⟩ = some (.slice Ax (d.earlier.length + 1) cx)) => newest_calls g (d.earlier.length + 1) cx Ax W hW (by have := (hok.get hd).1; omega))
  have HL : Aside0 ((d.earlier.length + 1) * 24 ≤ 140737488355328) := ⟨by have := (hok.get hd).1; omega⟩
  have HW := Aside0.mk (fun (w1 : World) => h.wrote (w1 := w1) i g ⟨ed, ts, d.earlier ++ [d.trees], [], d.closed⟩ hs)
  clear h hok hid hm hcur hs hd hp hb hr hc hP
  go_enter Try.func20, Try.ntmps20
  go_wp2_with (first
    | (go_at_call 37; refine (C2.out _ HB1.out).mono ?_; rintro e w2 ⟨rfl, rfl⟩)
    | (go_at_call 39; refine C1.out.mono ?_; rintro e w1 ⟨rfl, hB1⟩; have HB1 := Aside0.mk hB1; clear hB1))
  have HB2 : Aside0 (Below w.heap.size w w1.drew) := ⟨below_drew HB1.out⟩
  have HA := Aside0.mk (HP.out.ahead HB2.out)
  have HG2 := Aside0.mk (blk_below HP.out.blk HB2.out)
  have HG3 := Aside0.mk (fun (o : Obj) => blk_alloc (blk_below HP.out.blk HB1.out) o)
  have G1 := blk_cell HG2.out 1
  have G2 := blk_cell HG2.out 2
  simp at G1 G2
  have G3 : (w1.alloc (.cells #[.slice At d.trees.length ct] 33)).drew.cell? ⟨g, 1, none⟩ = some (.slice At d.trees.length ct) := blk_cell (HG3.out _) 1
  have G4 : (w1.alloc (.cells #[.slice At d.trees.length ct] 33)).drew.cell? ⟨g, 2, none⟩ = some (.slice Ae d.earlier.length ce) := blk_cell (HG3.out _) 2
  go_region_law
    (first | (refine Row.append_step (W := w1.drew) (Kd.slice 68 k68) rfl (.tmp 35) (.tmp 41) 43 33 (.slice none 0 0) 24 rfl Try.underlying43 info33 rfl (by decide) (by decide) (.slice Ae d.earlier.length ce) d.earlier d.trees [.slice At d.trees.length ct] (In1 w tag) (by simp [Act.eval, Act.put]) (by simp [Act.eval, Act.put]) HA.out.2.1 HA.out.2.2 HA.out.1 HL.out ?_; intro v1 w2 hN hG hat; obtain ⟨A1, c1, rfl⟩ := hN.slice1; have HM := Aside0.mk (HP.out.mid HB2.out hN hG hat); have q2 := HP.out.cell HB2.out (v1 := .slice none 0 0) hG; obtain ⟨q2, _⟩ := q2; have f2 := blk_frozen q2 2; have q1 := blk_cell q2 1; replace q2 := blk_cell q2 2; simp at q1 q2; clear hN hG hat))
  all_goals clear G1 G2 G3 G4 q1 q2 f2
  all_goals (
    go_wp2_with (first
      | (go_at_call 38; refine (C3.out _ HM.out.keep).mono ?_; rintro e w3 ⟨v, rfl, hR, hB⟩; obtain ⟨A4, c4, rfl⟩ := Kd.R_slice hR; have HE := Aside0.mk (HM.out.amended (ed := ed) hgl.out HP.out.tagG hR hB); have q3 := blk_below HM.out.blk hB; have q4 := blk_set (blk_set q3 0 (.string ed)) 1 (.slice A4 ts.length c4); have q5 := blk_set q4 3 (.slice none 0 0); have f0 := blk_frozen q3 0; have f1 := blk_frozen q3 1; have f3 := blk_frozen q4 3; have r0 := blk_cell q3 0; have r1 := blk_cell q3 1; have r3 := blk_cell q4 3; have r2 := blk_cell q5 2; simp at r0 r1 r2 r3; clear hR hB q3 q4 q5)
      | (go_at_call 40; refine (C4.out _ A1 c1 r2).mono ?_; rintro e w4 ⟨rfl, rfl⟩))
    go_ret2
    have := HW.out _ HE.out.2 _ (fun k hk => if_pos hk) HE.out.1
    exact ⟨rfl, _, fun k hk => if_pos hk, this.1, this.2⟩)
end Go.Proofs.Ytkblcdpmdbofgaa.A
