/- What abstract.Category computes, bs a function on trees; that its Go code comes to it, in some number of rounds. -/
import Derived.Test.YtkblcdpmdbofgaaA2
import Derived.Test.YtkblcdpmdbofgaaB0
import Derived.Test.YtkblcdpmdbofgaaB3
namespace Go.Proofs.Ytkblcdpmdbofgaa.A
open Go.RowKit Go.Proofs.YtkblcdpmdbofgaaW.PrintWords Go.Proofs.YtkblcdpmdbofgaaW.PrintLast Go.Proofs.YtkblcdpmdbofgaaW.PrintMore
set_option linter.unusedVariables false
set_option linter.unusedSimpArgs false

theorem wrap_small {x : Int} (h0 : -9000000000000000000 ≤ x) (h1 : x ≤ 9000000000000000000) : wrap64 x = x := by unfold wrap64; omega
theorem Ev.pure_ {α : Type} {g : Nat → Option α} {r : α} (h : ∀ k, g k = some r) : Ev g r := ⟨0, fun k _ => h k⟩
theorem rd68_cons (pre post : List S68) (t : S68) : rd_T68 (pre ++ t :: post) (pre.length : Int) = t := by
  unfold rd_T68
  rw [List.getD_eq_getElem?_getD, Int.toNat_natCast, List.getElem?_append_right (Nat.le_refl _)]
  simp
theorem rd_cons (pre post : List Int) (t : Int) : rd (pre ++ t :: post) (pre.length : Int) = t := by
  unfold rd
  rw [List.getD_eq_getElem?_getD, Int.toNat_natCast, List.getElem?_append_right (Nat.le_refl _)]
  simp
theorem rd105_cons (pre post : List S105) (t : S105) : rd_T105 (pre ++ t :: post) (pre.length : Int) = t := by
  unfold rd_T105
  rw [List.getD_eq_getElem?_getD, Int.toNat_natCast, List.getElem?_append_right (Nat.le_refl _)]
  simp
theorem rdOf_cons {α : Type} (d : α) (pre post : List α) (t : α) : rdOf d (pre ++ t :: post) (pre.length : Int) = t := by
  unfold rdOf
  rw [List.getD_eq_getElem?_getD, Int.toNat_natCast, List.getElem?_append_right (Nat.le_refl _)]
  simp

theorem bulkL_snoc (l : List S68) (t : S68) : bulkL (l ++ [t]) = bulkL l + bulk t := by
  induction l with
  | nil => simp [bulkL]
  | cons x r ih => simp only [List.cons_append, bulkL, ih]; omega

/-! ### Size -/
mutual
theorem size_ev : ∀ t : S68, bulk t ≤ 2000000 → Ev (fun k => abstract_Size.f k t.f0 t.f1 t.f2) (nodes t : Int)
  | ⟨n, vs, ks⟩, hb => by
    have h := sizeL_ev ks [] 1 (by simp [bulkL]) (by simp only [bulk] at hb; simp only [bulkL]; omega)
    simp only [nodes]
    refine Ev.step (fun k => rfl) ?_
    simp only [List.nil_append, List.length_nil] at h
    have e : ((nodesL ks + 1 : Nat) : Int) = 1 + (nodesL ks : Int) := by omega
    rw [e]
    exact h
theorem sizeL_ev : ∀ (ks pre : List S68) (s : Int), 0 ≤ s ∧ s ≤ 1 + (bulkL pre : Int) → bulkL pre + bulkL ks ≤ 2000000 → Ev (fun k => abstract_Size.l0 k s (pre ++ ks) ((pre ++ ks).length : Int) (pre.length : Int)) (s + (nodesL ks : Int))
  | [], pre, s, hs, hb => by
    refine Ev.step (f := fun _ => some s) (fun k => ?_) ?_
    · rw [abstract_Size.l0, if_neg (by simp)]
    · simp only [nodesL]
      have : s + ((0 : Nat) : Int) = s := by omega
      rw [this]
      exact Ev.now s
  | t :: r, pre, s, hs, hb => by
    have hlp := length_bulk pre
    have hlr := length_bulk r
    simp only [bulkL] at hb
    have ht := size_ev t (by omega)
    have hn := nodes_le t
    have hsn := bulkL_snoc pre t
    have hr := sizeL_ev r (pre ++ [t]) (s + (nodes t : Int)) ⟨by omega, by omega⟩ (by omega)
    refine Ev.step (f := fun k => (abstract_Size.f k t.f0 t.f1 t.f2).bind fun t110 => (abstract_Size.l0 k (wrap64 (s + t110)) (pre ++ t :: r) ((pre ++ t :: r).length : Int) (wrap64 ((pre.length : Int) + 1)))) (fun k => ?_) ?_
    · rw [abstract_Size.l0, if_pos (by simp; omega), if_pos (by omega), if_pos (by simp; omega), rd68_cons]
    · refine Ev.bind ht ?_
      rw [wrap_small (by omega) (by omega), wrap_small (by omega) (by omega)]
      have e1 : pre ++ [t] ++ r = pre ++ t :: r := by simp
      have e2 : ((pre ++ [t]).length : Int) = (pre.length : Int) + 1 := by simp
      rw [e1, e2] at hr
      simp only [nodesL]
      have e3 : s + ((nodes t + nodesL r : Nat) : Int) = s + (nodes t : Int) + (nodesL r : Int) := by omega
      rw [e3]
      exact hr
end

/-! ### index -/
def idx (l : List S105) (n : ByteArray) : Nat := l.findIdx fun f => decide (f.f0.toList = n.toList)
theorem idxL_ev (n : ByteArray) : ∀ (post pre : List S105), pre.length + post.length ≤ 2000000 → (∀ f ∈ pre, f.f0.toList ≠ n.toList) →
    Ev (fun k => abstract_index.l0 k (pre ++ post) n (pre ++ post) ((pre ++ post).length : Int) (pre.length : Int)) ((pre.length + idx post n : Nat) : Int)
  | [], pre, hl, hp => by
    refine Ev.step (f := fun _ => some ((pre ++ []).length : Int)) (fun k => ?_) ?_
    · rw [abstract_index.l0, if_neg (by simp)]
    · simp only [List.append_nil, idx, List.findIdx_nil, Nat.add_zero]
      exact Ev.now _
  | f :: r, pre, hl, hp => by
    by_cases h : f.f0.toList = n.toList
    · refine Ev.step (f := fun _ => some (pre.length : Int)) (fun k => ?_) ?_
      · rw [abstract_index.l0, if_pos (by simp; omega), if_pos (by omega), if_pos (by simp; omega), rd105_cons, if_pos h]
      · have : idx (f :: r) n = 0 := by simp [idx, List.findIdx_cons, h]
        rw [this]
        exact Ev.now _
    · have hr := idxL_ev n r (pre ++ [f]) (by simp at hl ⊢; omega) (fun g hg => by
        rcases List.mem_append.1 hg with hg | hg
        · exact hp g hg
        · rw [List.mem_singleton.1 hg]; exact h)
      have e1 : pre ++ [f] ++ r = pre ++ f :: r := by simp
      have e2 : ((pre ++ [f]).length : Int) = (pre.length : Int) + 1 := by simp
      rw [e1, e2] at hr
      have e3 : (((pre ++ [f]).length + idx r n : Nat) : Int) = ((pre.length + idx (f :: r) n : Nat) : Int) := by
        have : idx (f :: r) n = idx r n + 1 := by simp [idx, List.findIdx_cons, h]
        rw [this]; simp; omega
      rw [e3] at hr
      refine Ev.step (fun k => ?_) hr
      simp only [List.length_cons] at hl
      rw [abstract_index.l0, if_pos (by simp; omega), if_pos (by omega), if_pos (by simp; omega), rd105_cons, if_neg h, wrap_small (by omega) (by omega)]
theorem idx_ev (l : List S105) (n : ByteArray) (hl : l.length ≤ 2000000) : Ev (fun k => abstract_index.f k l n) (idx l n : Int) := by
  have h := idxL_ev n l [] (by simpa using hl) (fun _ h => by cases h)
  simpa [abstract_index.f] using h

/-! ### formed -/
def isVal (v : Int) : Bool := decide (0 ≤ v ∧ v ≤ 1439999999)
mutual
/-- The category of a tree, if it is well formed. -/
def formedS : S68 → Option ByteArray
  | ⟨n, vs, ks⟩ =>
    if idx lexicon n < lexicon.length ∧ ks.length = (rd_T105 lexicon (idx lexicon n)).f1.length ∧ (vs.length : Int) = (rd_T105 lexicon (idx lexicon n)).f3 ∧ vs.all isVal = true ∧ formedL ks (rd_T105 lexicon (idx lexicon n)).f1 = true then
      some (rd_T105 lexicon (idx lexicon n)).f2 else none
def formedL : List S68 → List ByteArray → Bool
  | [], _ => true
  | _ :: _, [] => false
  | t :: r, a :: bs => match formedS t with
    | some c => decide (c.toList = a.toList) && formedL r bs
    | none => false
end
def fres : Option ByteArray → ByteArray × Bool
  | some c => (c, true)
  | none => (⟨#[]⟩, false)
theorem isVal_f (v : Int) : abstract_isValue.f v = some (isVal v) := by
  unfold abstract_isValue.f isVal
  by_cases h : v ≥ 0
  · rw [if_pos h]; congr 1; by_cases h2 : v ≤ 1439999999 <;> simp [h2]; omega
  · rw [if_neg h]; congr 1; symm; rw [decide_eq_false_iff_not]; omega
theorem vals_ev {R : ByteArray × Bool} (x0 : List S105) (n : ByteArray) (vs0 : List Int) (ks : List S68) (q0 : ByteArray) (q1 : List ByteArray) (q2 : ByteArray) (q3 : Int) (hR : Ev (fun k => abstract_formed.l1 k x0 ks (ks.length : Int) 0 q0 q1 q2 q3) R) :
    ∀ (post pre : List Int), pre.length + post.length ≤ 2000000 → Ev (fun k => abstract_formed.l0 k x0 (pre ++ post) ((pre ++ post).length : Int) (pre.length : Int) n vs0 ks q0 q1 q2 q3) (if post.all isVal = true then R else (⟨#[]⟩, false))
  | [], pre, hl => by
    rw [if_pos (by simp)]
    refine Ev.step (fun k => ?_) hR
    rw [abstract_formed.l0, if_neg (by simp)]
  | v :: r, pre, hl => by
    simp only [List.length_cons] at hl
    have hr := vals_ev x0 n vs0 ks q0 q1 q2 q3 hR r (pre ++ [v]) (by simp; omega)
    have e1 : pre ++ [v] ++ r = pre ++ v :: r := by simp
    have e2 : ((pre ++ [v]).length : Int) = (pre.length : Int) + 1 := by simp
    rw [e1, e2] at hr
    refine Ev.step (f := fun k => if isVal v = true then (abstract_formed.l0 k x0 (pre ++ v :: r) ((pre ++ v :: r).length : Int) ((pre.length : Int) + 1) n vs0 ks q0 q1 q2 q3) else (some ((⟨#[]⟩ : ByteArray), false))) (fun k => ?_) ?_
    · rw [abstract_formed.l0, if_pos (by simp; omega), if_pos (by omega), if_pos (by simp; omega), rd_cons, isVal_f, Option.bind_some, wrap_small (by omega) (by omega)]
    · by_cases h : isVal v = true
      · simp only [h, if_true, List.all_cons, Bool.true_and]
        exact hr
      · rw [if_neg (by simp [h])]
        refine Ev.congr (fun k => if_neg h) (Ev.now _)

mutual
theorem formed_ev : ∀ t : S68, bulk t ≤ 2000000 → Ev (fun k => abstract_formed.f k lexicon t.f0 t.f1 t.f2) (fres (formedS t))
  | ⟨n, vs, ks⟩, hb => by
    simp only [bulk] at hb
    have hlk := length_bulk ks
    have hlex : lexicon.length = 61 := by decide +kernel
    have hi := idx_ev lexicon n (by omega)
    have hle : idx lexicon n ≤ lexicon.length := List.findIdx_le_length
    show Ev (fun k => abstract_formed.f k lexicon n vs ks) _
    refine Ev.step (fun k => by rw [abstract_formed.f]) ?_
    refine Ev.bind hi ?_
    by_cases h0 : idx lexicon n < lexicon.length
    · by_cases h1 : ks.length = (rd_T105 lexicon (idx lexicon n)).f1.length
      · have hL := formedL_ev ks [] (rd_T105 lexicon (idx lexicon n)).f1 [] (rd_T105 lexicon (idx lexicon n)).f0 (rd_T105 lexicon (idx lexicon n)).f2 (rd_T105 lexicon (idx lexicon n)).f3 (by simp only [bulkL]; omega) rfl h1
        simp only [List.nil_append, List.length_nil] at hL
        have hV := vals_ev lexicon n vs ks _ _ _ _ hL vs [] (by simp; omega)
        simp only [List.nil_append, List.length_nil] at hV
        refine Ev.congr (fun k => by rw [if_neg (by omega), if_pos (by omega), if_pos (by omega), if_pos (by omega)]) ?_
        refine Ev.step (fun k => by rw [abstract_formed.j0]) ?_
        by_cases h2 : (vs.length : Int) = (rd_T105 lexicon (idx lexicon n)).f3
        · refine Ev.congr (fun k => by rw [if_neg (by rw [bne_iff_ne]; exact fun h => h h2)]) ?_
          have e : fres (formedS ⟨n, vs, ks⟩) = (if vs.all isVal = true then (if formedL ks (rd_T105 lexicon (idx lexicon n)).f1 = true then ((rd_T105 lexicon (idx lexicon n)).f2, true) else (⟨#[]⟩, false)) else (⟨#[]⟩, false)) := by
            rw [formedS]
            by_cases h3 : vs.all isVal = true <;> by_cases h4 : formedL ks (rd_T105 lexicon (idx lexicon n)).f1 = true
            · rw [if_pos ⟨h0, h1, h2, h3, h4⟩, if_pos h3, if_pos h4]; rfl
            · rw [if_neg (fun h => h4 h.2.2.2.2), if_pos h3, if_neg h4]; rfl
            · rw [if_neg (fun h => h3 h.2.2.2.1), if_neg h3]; rfl
            · rw [if_neg (fun h => h3 h.2.2.2.1), if_neg h3]; rfl
          rw [e]
          exact hV
        · refine Ev.congr (fun k => by rw [if_pos (by rw [bne_iff_ne]; exact h2)]) ?_
          rw [formedS, if_neg (fun h => h2 h.2.2.1)]
          exact Ev.now _
      · refine Ev.congr (fun k => by rw [if_neg (by omega), if_pos (by omega), if_pos (by omega), if_neg (by omega)]) ?_
        refine Ev.step (fun k => by rw [abstract_formed.j0, if_pos rfl]) ?_
        rw [formedS, if_neg (fun h => h1 h.2.1)]
        exact Ev.now _
    · have h1 : idx lexicon n = lexicon.length := by omega
      refine Ev.congr (fun k => by rw [if_pos (by omega)]) ?_
      rw [formedS, if_neg (fun h => h0 h.1)]
      exact Ev.now _
theorem formedL_ev : ∀ (ks pre : List S68) (bs ap : List ByteArray) (q0 q2 : ByteArray) (q3 : Int), bulkL pre + bulkL ks ≤ 2000000 → pre.length = ap.length → ks.length = bs.length →
    Ev (fun k => abstract_formed.l1 k lexicon (pre ++ ks) ((pre ++ ks).length : Int) (pre.length : Int) q0 (ap ++ bs) q2 q3) (if formedL ks bs = true then (q2, true) else (⟨#[]⟩, false))
  | [], pre, bs, ap, q0, q2, q3, hb, hp, hl => by
    rw [formedL, if_pos rfl]
    refine Ev.step (f := fun _ => some (q2, true)) (fun k => ?_) (Ev.now _)
    rw [abstract_formed.l1, if_neg (by simp)]
  | t :: r, pre, [], ap, q0, q2, q3, hb, hp, hl => by simp at hl
  | t :: r, pre, a :: bs, ap, q0, q2, q3, hb, hp, hl => by
    have hlp := length_bulk pre
    have hlr := length_bulk r
    simp only [bulkL] at hb
    have ht := formed_ev t (by omega)
    have hsn := bulkL_snoc pre t
    have hr := formedL_ev r (pre ++ [t]) bs (ap ++ [a]) q0 q2 q3 (by omega) (by simp; omega) (by simpa using hl)
    have e1 : pre ++ [t] ++ r = pre ++ t :: r := by simp
    have e2 : ((pre ++ [t]).length : Int) = (pre.length : Int) + 1 := by simp
    have e3 : ap ++ [a] ++ bs = ap ++ a :: bs := by simp
    rw [e1, e2, e3] at hr
    have ea : rdOf ByteArray.empty (ap ++ a :: bs) (pre.length : Int) = a := by rw [hp]; exact rdOf_cons _ _ _ _
    refine Ev.step (fun k => by rw [abstract_formed.l1, if_pos (by simp; omega), if_pos (by omega), if_pos (by simp; omega), rd68_cons]) ?_
    rw [formedL]
    cases hf : formedS t with
    | none =>
      rw [hf] at ht
      refine Ev.bind (a := ((⟨#[]⟩ : ByteArray), false)) ht ?_
      refine Ev.congr (fun k => by rw [if_neg (show ¬ (((⟨#[]⟩ : ByteArray), false) : ByteArray × Bool).2 = true by simp)]) ?_
      rw [if_neg (by simp)]
      exact Ev.now _
    | some c =>
      rw [hf] at ht
      refine Ev.bind (a := (c, true)) ht ?_
      by_cases h : c.toList = a.toList
      · refine Ev.congr (fun k => by rw [if_pos (show ((c, true) : ByteArray × Bool).2 = true from rfl), if_pos (by simp; omega), ea, if_pos (show ((c, true) : ByteArray × Bool).1.toList = a.toList from h), wrap_small (by omega) (by omega)]) ?_
        simp only [h, decide_true, Bool.true_and]
        exact hr
      · refine Ev.congr (fun k => by rw [if_pos (show ((c, true) : ByteArray × Bool).2 = true from rfl), if_pos (by simp; omega), ea, if_neg (show ¬ ((c, true) : ByteArray × Bool).1.toList = a.toList from h)]) ?_
        rw [if_neg (by simp [h])]
        exact Ev.now _
end

/-- What abstract.Category answers, over the lexicon. -/
def catS (t : S68) : ByteArray × Int :=
  if (nodes t : Int) > 60 then (⟨#[]⟩, 2) else match formedS t with
    | some c => (c, 0)
    | none => (⟨#[]⟩, 6)
theorem cat_ev (t : S68) (hb : bulk t ≤ 2000000) : Ev (fun k => abstract_Category.f k lexicon t.f0 t.f1 t.f2) (catS t) := by
  unfold abstract_Category.f
  refine Ev.bind (size_ev t hb) ?_
  unfold catS
  by_cases h : (nodes t : Int) > 60
  · rw [if_pos h]
    exact Ev.congr (fun k => if_pos h) (Ev.now _)
  · rw [if_neg h]
    refine Ev.congr (fun k => if_neg h) ?_
    have hf := formed_ev t hb
    cases hq : formedS t with
    | none =>
      rw [hq] at hf
      refine Ev.bind (a := ((⟨#[]⟩ : ByteArray), false)) hf ?_
      exact Ev.congr (fun k => by rw [if_neg (show ¬ (((⟨#[]⟩ : ByteArray), false) : ByteArray × Bool).2 = true by simp)]) (Ev.now _)
    | some c =>
      rw [hq] at hf
      refine Ev.bind (a := (c, true)) hf ?_
      exact Ev.congr (fun k => by rw [if_pos (show ((c, true) : ByteArray × Bool).2 = true from rfl)]) (Ev.now _)
end Go.Proofs.Ytkblcdpmdbofgaa.A
