/- (*Desk).Open. -/
import Derived.Test.YtkblcdpmdbofgaaB15
namespace Go.Proofs.Ytkblcdpmdbofgaa.A
open Go.RowKit Go.Proofs.YtkblcdpmdbofgaaW.PrintWords Go.Proofs.YtkblcdpmdbofgaaW.PrintLast Go.Proofs.YtkblcdpmdbofgaaW.PrintMore
set_option linter.unusedVariables false
set_option linter.unusedSimpArgs false

/-- What an operation does: as Tell; the drafts may be more. -/
def Does (w : World) (tag : Nat → Nat) (dp mb : Nat) (v : Value) (D1 : Dk) (e : Ending) (w' : World) : Prop := e = .returned v ∧ ∃ tag' sb', (∀ k, k < w.heap.size → tag' k = tag k) ∧ DeskAt w' tag' dp mb sb' D1 ∧ Kp w w' (fun k => 2 ≤ tag k)
theorem Tell.does {w : World} {tag : Nat → Nat} {dp mb : Nat} {sb : List Nat} {v : Value} {D1 : Dk} {e : Ending} {w' : World} (h : Tell w tag dp mb sb v D1 e w') : Does w tag dp mb v D1 e w' := by
  obtain ⟨h1, tag', h2, h3, h4⟩ := h
  exact ⟨h1, tag', sb, h2, h3, h4⟩
theorem Does.same {w w' : World} {tag : Nat → Nat} {dp mb : Nat} {sb : List Nat} {D : Dk} (h : DeskAt w tag dp mb sb D) (hB : Below w.heap.size w w') (v : Value) : Does w tag dp mb v D (.returned v) w' := (Tell.same h hB v).does

def Dk.add (D : Dk) (ed : ByteArray) (ts : List S68) : Dk := { D with drafts := D.drafts ++ [⟨ed, ts, [], [], false⟩] }
def Dk.opens (D : Dk) (ed : ByteArray) (ts : List S68) : Int × Int × Dk :=
  if D.valid ed ts = false then (0, 1, D) else if D.drafts.length = 256 then (0, 12, D) else ((D.drafts.length : Int) + 1, 0, D.add ed ts)

def opTag (w : World) (tag : Nat → Nat) (g t : Nat) (k : Nat) : Nat := if k < w.heap.size then tag k else if k = g then t else 1
theorem DeskAt.opened {w w1 w2 w4 : World} {tag : Nat → Nat} {dp mb : Nat} {sb : List Nat} {D : Dk} {ed : ByteArray} {ts : List S68} {A4 : Option Addr} {c4 : Nat} (h : DeskAt w tag dp mb sb D) (hn : D.drafts.length ≠ 256)
    (hB1 : Below w.heap.size w w1) (hR : k68.R 68 w2 w1.heap.size (New w1) (.slice A4 ts.length c4) ts) (hB2 : Below w1.heap.size w1 w2)
    (hM : MapAt w4 mb (sb ++ [w2.heap.size])) (hG : (w2.alloc (.cells #[.string ed, .slice A4 ts.length c4, .slice none 0 0, .slice none 0 0, .bool false] 79 (0, 0))).grownBy w4 (some mb)) :
    DeskAt w4 (opTag w tag w2.heap.size (sb.length + 3)) dp mb (sb ++ [w2.heap.size]) (D.add ed ts) ∧ Kp w w4 (fun k => 2 ≤ tag k) := by
  have hB : Below w.heap.size w (w2.alloc (.cells #[.string ed, .slice A4 ts.length c4, .slice none 0 0, .slice none 0 0, .bool false] 79 (0, 0))) := below_alloc (below_step hB1 hB2) _
  have hs1 := hB1.size
  have hs2 := hB2.size
  have hmb := h.map.lt
  have hK : Kp w w4 (fun k => k = mb) := ((Kp.of_below hB (fun _ => False)).mono (fun _ h => h.elim)).then_ ((Kp.of_grown hG).mono (fun k hk => by injection hk with hk; exact hk.symm)) (fun k hk => .inl hk)
  have ht : ∀ k, k < w.heap.size → opTag w tag w2.heap.size (sb.length + 3) k = tag k := fun k hk => if_pos hk
  have hgb : w4.heap[w2.heap.size]? = some (.cells #[.string ed, .slice A4 ts.length c4, .slice none 0 0, .slice none 0 0, .bool false] 79 (0, 0)) :=
    blk_grown (heap_alloc_new w2 _) hG (fun e => by injection e with e; omega)
  refine ⟨?_, hK.mono (fun k hk => by rw [hk, h.tagM]; exact Nat.le_refl _)⟩
  obtain ⟨Ae, ce, hb, hc, hF⟩ := h.desk
  refine ⟨⟨Ae, ce, hK.blk hb (h.map.notCells hb), hc, ?_⟩, (ht dp (blk_lt hb)).trans h.tagD, (ht mb hmb).trans h.tagM, hM, by unfold Dk.add; simp [h.len], fun j g' d' hg' hd' => ?_, ?_⟩
  · exact Kd.F_mono (Kd.F_step (Kd.F_bound hF) (fun k hk hl => hK.block k hl (fun e => by rw [e] at hk; have := hk.1; have := h.tagM; omega))) (fun k hk => (ht k hk.2).trans hk.1)
  · unfold Dk.add at hd'
    simp only at hd'
    rcases Nat.lt_or_ge j sb.length with hj | hj
    · rw [List.getElem?_append_left hj] at hg'
      rw [List.getElem?_append_left (by rw [← h.len]; exact hj)] at hd'
      exact (h.drafts j g' d' hg' hd').step (fun k hk htk => hK.block k hk (fun e => by rw [e, h.tagM] at htk; omega)) ht
    · rw [List.getElem?_append_right hj] at hg'
      have hj0 : j - sb.length = 0 := by
        have := (List.getElem?_eq_some_iff.1 hg').1
        simp at this
        omega
      have hj1 : j = sb.length := by omega
      subst hj1
      simp at hg'
      rw [h.len, List.getElem?_append_right (Nat.le_refl _)] at hd'
      simp at hd'
      subst hg'
      subst hd'
      refine ⟨A4, c4, .slice none 0 0, .slice none 0 0, hgb, (Kd.R_reads' hR).2.1, ?_, Row.nil _ _ _ _, Row.nil _ _ _ _, ?_, fun k hk => by simp [Value.ownBlock] at hk, fun k hk => by simp [Value.ownBlock] at hk⟩
      · refine Kd.F_mono (Kd.F_step (Kd.F_bound (Kd.R_F hR)) (fun k hk hl => ?_)) (fun k hk => ?_)
        · rw [hG.block k (by simp; omega) (fun e => by injection e with e; have := hk.1; unfold New at this; omega)]
          exact heap_alloc_old w2 _ hl
        · have h1 := hk.1
          have h2 := hk.2
          unfold New at h1
          unfold opTag
          rw [if_neg (by omega), if_neg (by omega)]
      · unfold opTag
        rw [if_neg (by omega), if_pos rfl]
  · have := h.few
    unfold Dk.add
    simp
    omega

set_option maxHeartbeats 2000000 in
set_option maxRecDepth 100000 in
theorem open_ok (w : World) (tag : Nat → Nat) (dp mb : Nat) (sb : List Nat) (D : Dk) (h : DeskAt w tag dp mb sb D) (hok : D.ok) (ed : ByteArray) (ts : List S68) (A : Option Addr) (c : Nat) (hb : bulkL ts ≤ 2000000)
    (hr : k68.C w A ts.length ts) (hc : ts.length ≤ c) (hm : D.valid ed ts = true) (hn : D.drafts.length ≠ 256) :
    Calls Try.prog 31 #[.pointer (some ⟨dp, 0, none⟩), .string ed, .slice A ts.length c] w (Does w tag dp mb (two ((D.drafts.length : Int) + 1) 0) (D.add ed ts)) := by
  have C1 := Aside0.mk (valid_calls w tag dp mb sb D h hok ed ts A c hb hr hc)
  rw [hm] at C1
  have C3 := Aside0.mk (fun (W : World) (hK : Below w.heap.size w W) => cloneAll_calls ts A c W (Nat.le_trans (length_bulk ts) hb) (fun x hx => Nat.le_trans (mem_bulk hx) hb) (Kd.C_below hr hK) hc)
  have H := Aside0.mk h
  have HN := Aside0.mk hn
  have HL := Aside0.mk (fun (W : World) (hK : Below w.heap.size w W) => (h.below hK).map.len 3)
  obtain ⟨Ae, ce, hbk, _, _⟩ := h.desk
  have HD := Aside0.mk hbk
  have hl : sb.length ≤ 256 := by rw [h.len]; exact h.few
  have f1 : ((sb.length : Int) == 256) = false := beq_eq_false_iff_ne.mpr (by rw [h.len]; omega)
  rw [← h.len]
  clear h hok hm hb hr hc hbk hn
  go_enter Try.func31, Try.ntmps31
  go_wp2_with (first
    | (go_at_call 39; refine C1.out.mono ?_; rintro e w1 ⟨rfl, hB1⟩; have HB1 := Aside0.mk hB1; have c2 := blk_cell (blk_below HD.out hB1) 2; simp at c2; have l1 := HL.out _ hB1; clear hB1))
  have HB2 : Aside0 (Below w.heap.size w w1.drew) := ⟨below_drew HB1.out⟩
  have HD2 := Aside0.mk (blk_below HD.out HB2.out)
  go_region_held3 (fun w' => w'.cell? ⟨dp, 2, none⟩ = some (.map (some mb)))
    (first
      | exact blk_cell HD2.out 2
      | exact q2
      | exact q3
      | exact q4
      | go_keep)
    (first
      | (go_at_call 38; refine (C3.out _ HB2.out).mono ?_; rintro e w2 ⟨v, rfl, hR, hB2⟩; obtain ⟨A4, c4, rfl⟩ := Kd.R_slice hR; have hs2 := HB2.out.size; have hs3 := hB2.size; have hD3 := blk_below HD2.out hB2; have q2 := blk_cell hD3 2; have q3 := blk_cell (blk_alloc hD3 (.cells #[.string ed, .slice A4 ts.length c4, .slice none 0 0, .slice none 0 0, .bool false] 79)) 2; obtain ⟨w4, hrun, hM, hG⟩ := (H.out.map.step (w1 := w2.alloc (.cells #[.string ed, .slice A4 ts.length c4, .slice none 0 0, .slice none 0 0, .bool false] 79)) ((below_alloc (below_step HB2.out hB2) _).block _ H.out.map.lt)).store (g := w2.heap.size) (by omega); have HE := Aside0.mk (H.out.opened (ed := ed) HN.out HB2.out hR hB2 hM hG); have q4 := blk_cell (blk_grown (blk_alloc hD3 (.cells #[.string ed, .slice A4 ts.length c4, .slice none 0 0, .slice none 0 0, .bool false] 79)) hG (fun e => by injection e with e; exact H.out.map.notCells HD.out e)) 2; simp at q2 q3 q4; clear hM hG hR hB2 hD3 hs2 hs3))
  go_wp2
  go_ret2
  exact ⟨rfl, _, _, fun k hk => if_pos hk, HE.out.1, HE.out.2⟩
end Go.Proofs.Ytkblcdpmdbofgaa.A
