/- session.notice: one to eight trees, all of category S. -/
import Derived.Test.YtkblcdpmdbofgaaB2
import Derived.Test.YtkblcdpmdbofgaaB4
import Derived.Deep.RegionHeld3
namespace Go.Proofs.Ytkblcdpmdbofgaa.A
open Go.RowKit Go.Proofs.YtkblcdpmdbofgaaW.PrintWords Go.Proofs.YtkblcdpmdbofgaaW.PrintLast Go.Proofs.YtkblcdpmdbofgaaW.PrintMore
set_option linter.unusedVariables false
set_option linter.unusedSimpArgs false

def isS (t : S68) : Bool := decide ((catS t).2 = 0 ∧ (catS t).1.toList = [83])
def noticeS (l : List S68) : Bool := l.all isS && (decide (1 ≤ l.length) && decide (l.length ≤ 8))

theorem notice_not (l : List S68) (x : Int) (h0 : 0 ≤ x) (h1 : x < l.length) (h : isS (rd_T68 l x) = false) : noticeS l = false := by
  have : l.all isS = false := by
    rw [List.all_eq_false]
    exact ⟨_, rd_mem l x h0 h1, by rw [h]; simp⟩
  unfold noticeS
  rw [this, Bool.false_and]

/-- abstract.Category over the lexicon. -/
theorem cat_calls (A0 : Option Addr) (c0 : Nat) (t : S68) (A1 : Option Addr) (c1 : Nat) (A2 : Option Addr) (c2 : Nat) (w : World) (hb : Bd t) (h0 : k105.C w A0 lexicon.length lexicon) (l0 : lexicon.length ≤ c0)
    (h1 : (Kd.int .i64).C w A1 t.f1.length t.f1) (l1 : t.f1.length ≤ c1) (h2 : k68.C w A2 t.f2.length t.f2) (l2 : t.f2.length ≤ c2) :
    Calls Try.prog 54 #[.slice A0 lexicon.length c0, .agg #[.string t.f0, .slice A1 t.f1.length c1, .slice A2 t.f2.length c2]] w fun e w' => e = .returned (.tuple #[.string (catS t).1, .int .i64 (catS t).2]) ∧ Below w.heap.size w w' := by
  obtain ⟨k, hk⟩ := (cat_ev t hb).rounds
  exact abstract_Category.calls k A0 c0 lexicon t.f0 A1 c1 t.f1 A2 c2 t.f2 (catS t).1 (catS t).2 w h0 l0 h1 l1 h2 l2 hk

set_option maxHeartbeats 1000000 in
set_option maxRecDepth 100000 in
theorem notice_calls (l : List S68) (A : Option Addr) (c : Nat) (w : World) (hb : bulkL l ≤ 2000000) (hr : k68.C w A l.length l) (hc : l.length ≤ c) :
    Calls Try.prog 50 #[.slice A l.length c] w fun e w' => e = .returned (.bool (noticeS l)) ∧ Below w.heap.size w w' := by
  have HR := Aside0.mk hr
  clear hr
  have HBD : Aside0 (∀ x ∈ l, Bd x) := ⟨fun x hx => Nat.le_trans (mem_bulk hx) hb⟩
  have hlb := length_bulk l
  have hl : l.length ≤ 2000000 := by omega
  clear hb hlb
  have HB := Aside0.mk (Below.refl w.heap.size w)
  go_enter Try.func50, Try.ntmps50
  go_wp2
  go_loopw [9] (fun i w' => ∃ x : Int, i = .int .i64 x ∧ 0 ≤ x ∧ x ≤ l.length ∧ Aside0 ((l.take x.toNat).all isS = true) ∧ Aside0 (Below w.heap.size w w')) (fun i _ => l.length - (intOf i).toNat)
  case atStart => exact ⟨0, rfl, Int.le_refl _, Int.natCast_nonneg _, ⟨by simp⟩, HB⟩
  case round =>
    clear HB
    obtain ⟨x, rfl, hx, hk, HV, HB⟩ := hrel
    by_cases hlt : x < l.length
    · obtain ⟨ad, A1, c1, A2, c2, e, hx0, hx1, hx2, hl1, hi1, hl2, hi2⟩ := at_T68 HR.out x hx hlt
      cases e
      have D := Aside0.mk (fun (w1 : World) (hw : Below w.heap.size w w1) (A0 : Option Addr) (c0 : Nat) (h0 : k105.C w1 A0 lexicon.length lexicon) (l0 : lexicon.length ≤ c0) => cat_calls A0 c0 (rd_T68 l x) A1 c1 A2 c2 w1 (HBD.out _ (rd_mem l x hx hlt)) h0 l0 (Kd.C_below hi1 hw) hl1 (Kd.C_below hi2 hw) hl2)
      clear hl1 hi1 hl2 hi2
      replace hx0 := (HB.out.cell (World.block_lt_of_cell? w _ hx0)).trans hx0
      replace hx1 := (HB.out.cell (World.block_lt_of_cell? w _ hx1)).trans hx1
      replace hx2 := (HB.out.cell (World.block_lt_of_cell? w _ hx2)).trans hx2
      have p1 := eq_true hx
      have q1 := eq_true hlt
      generalize ht : rd_T68 l x = t at hx0 hx1 hx2 D
      go_wp2_with fail
      have HG0 := Aside0.mk (show (wr.alloc (.cells #[.string t.f0, .slice A1 t.f1.length c1, .slice A2 t.f2.length c2] 68)).drew.heap[wr.heap.size]? = some (.cells #[.string t.f0, .slice A1 t.f1.length c1, .slice A2 t.f2.length c2] 68) from heap_alloc_new wr _)
      have HB0 := Aside0.mk (below_drew (below_alloc HB.out (.cells #[.string t.f0, .slice A1 t.f1.length c1, .slice A2 t.f2.length c2] 68)))
      go_region_held3 (fun w' => w'.cell? ⟨wr.heap.size, 0, none⟩ = some (.string t.f0) ∧ w'.cell? ⟨wr.heap.size, 1, none⟩ = some (.slice A1 t.f1.length c1) ∧ w'.cell? ⟨wr.heap.size, 2, none⟩ = some (.slice A2 t.f2.length c2))
        (first
          | exact ⟨blk_cell HG0.out 0, blk_cell HG0.out 1, blk_cell HG0.out 2⟩
          | exact ⟨blk_cell HG3.out 0, blk_cell HG3.out 1, blk_cell HG3.out 2⟩
          | exact ⟨blk_cell HG5.out 0, blk_cell HG5.out 1, blk_cell HG5.out 2⟩)
        (first
          | (go_at_call 55; refine (functions_calls _).mono ?_; rintro e w1 ⟨A3, c3, rfl, hl3, hC3, hB1⟩; have HG3 := Aside0.mk (blk_below HG0.out hB1); have HB3 := Aside0.mk (below_step HB0.out hB1); have HC3 := Aside0.mk hC3; have HL3 := Aside0.mk hl3; clear hC3 hl3 hB1)
          | (go_at_call 54; refine (D.out _ HB3.out A3 c3 HC3.out HL3.out).mono ?_; rintro e w2 ⟨rfl, hB2⟩; have HG5 := Aside0.mk (blk_below HG3.out hB2); have HB5 := Aside0.mk (below_step HB3.out hB2); clear hB2))
      generalize ha1 : (catS t).1 = a1
      generalize ha2 : (catS t).2 = a2
      have HS : Aside0 (isS (rd_T68 l x) = decide (a2 = 0 ∧ a1.toList = [83])) := ⟨by rw [ht]; unfold isS; rw [ha1, ha2]⟩
      clear ha1 ha2 ht
      by_cases h2 : a2 = 0
      · by_cases h1 : a1.toList = [83]
        · have HT : Aside0 ((l.take (x + 1).toNat).all isS = true) := ⟨by rw [take_rd l x hx hlt, List.all_append, HV.out, List.all_cons, HS.out]; simp [h1, h2]⟩
          have f2 : (a2 != 0) = false := bne_eq_false_iff_eq.mpr h2
          have f1 : (a1.toList != ([83] : List UInt8)) = false := bne_eq_false_iff_eq.mpr h1
          have f4 : (a2 == 0) = true := beq_iff_eq.mpr h2
          have f3 : (a1.toList == ([83] : List UInt8)) = true := beq_iff_eq.mpr h1
          clear h1 h2 HS
          go_wp2
          go_roundw
          case rel => exact ⟨x + 1, rfl, by omega, by omega, HT, HB5⟩
          case measure => simp [intOf]; omega
        · have HF : Aside0 (noticeS l = false) := ⟨notice_not l x hx hlt (by rw [HS.out]; simp [h1])⟩
          have f2 : (a2 != 0) = false := bne_eq_false_iff_eq.mpr h2
          have f1 : (a1.toList != ([83] : List UInt8)) = true := bne_iff_ne.mpr h1
          have f4 : (a2 == 0) = true := beq_iff_eq.mpr h2
          have f3 : (a1.toList == ([83] : List UInt8)) = false := beq_eq_false_iff_ne.mpr h1
          clear h1 h2 HS
          go_wp2
          go_ret
          exact ⟨by rw [HF.out]; rfl, HB5.out⟩
      · have HF : Aside0 (noticeS l = false) := ⟨notice_not l x hx hlt (by rw [HS.out]; simp [h2])⟩
        have f2 : (a2 != 0) = true := bne_iff_ne.mpr h2
        have f4 : (a2 == 0) = false := beq_eq_false_iff_ne.mpr h2
        clear h2 HS
        go_wp2
        go_ret
        exact ⟨by rw [HF.out]; rfl, HB5.out⟩
    · have HN : Aside0 (noticeS l = (decide (1 ≤ l.length) && decide (l.length ≤ 8))) := ⟨by
        have := HV.out
        rw [List.take_of_length_le (by omega)] at this
        unfold noticeS
        rw [this, Bool.true_and]⟩
      clear HV
      by_cases h1 : 1 ≤ l.length
      · by_cases h8 : l.length ≤ 8
        · have f1 : decide (1 ≤ (l.length : Int)) = true := decide_eq_true (by omega)
          have f8 : decide ((l.length : Int) ≤ 8) = true := decide_eq_true (by omega)
          have HF : Aside0 (noticeS l = true) := ⟨by rw [HN.out]; simp [h1, h8]⟩
          clear HN
          go_wp2
          go_ret
          exact ⟨by rw [HF.out]; rfl, HB.out⟩
        · have f1 : decide (1 ≤ (l.length : Int)) = true := decide_eq_true (by omega)
          have f8 : decide ((l.length : Int) ≤ 8) = false := decide_eq_false (by omega)
          have HF : Aside0 (noticeS l = false) := ⟨by rw [HN.out]; simp [h8]⟩
          clear HN
          go_wp2
          go_ret
          exact ⟨by rw [HF.out]; rfl, HB.out⟩
      · have f1 : decide (1 ≤ (l.length : Int)) = false := decide_eq_false (by omega)
        have HF : Aside0 (noticeS l = false) := ⟨by rw [HN.out]; simp [h1]⟩
        clear HN
        go_wp2
        go_ret
        exact ⟨by rw [HF.out]; rfl, HB.out⟩
end Go.Proofs.Ytkblcdpmdbofgaa.A
