/- Trees: how much they hold, how many nodes they have. -/
import Derived.Test.YtkblcdpmdbofgaaA0
namespace Go.Proofs.Ytkblcdpmdbofgaa.A
open Go.RowKit Go.Proofs.YtkblcdpmdbofgaaW.PrintWords Go.Proofs.YtkblcdpmdbofgaaW.PrintLast Go.Proofs.YtkblcdpmdbofgaaW.PrintMore
set_option linter.unusedVariables false
set_option linter.unusedSimpArgs false

mutual
/-- What a tree holds: its nodes and their values. -/
def bulk : S68 → Nat
  | ⟨_, vs, ks⟩ => vs.length + bulkL ks + 1
def bulkL : List S68 → Nat
  | [] => 0
  | t :: r => bulk t + bulkL r
end
mutual
def nodes : S68 → Nat
  | ⟨_, _, ks⟩ => nodesL ks + 1
def nodesL : List S68 → Nat
  | [] => 0
  | t :: r => nodes t + nodesL r
end
theorem bulk_eq (t : S68) : bulk t = t.f1.length + bulkL t.f2 + 1 := by cases t; simp [bulk]
theorem nodes_eq (t : S68) : nodes t = nodesL t.f2 + 1 := by cases t; simp [nodes]
mutual
theorem nodes_le : ∀ t : S68, nodes t ≤ bulk t
  | ⟨_, vs, ks⟩ => by have := nodesL_le ks; simp only [nodes, bulk]; omega
theorem nodesL_le : ∀ l : List S68, nodesL l ≤ bulkL l
  | [] => Nat.le_refl _
  | t :: r => by have := nodes_le t; have := nodesL_le r; simp only [nodesL, bulkL]; omega
end
theorem bulk_pos (t : S68) : 1 ≤ bulk t := by rw [bulk_eq]; omega
theorem length_bulk : ∀ l : List S68, l.length ≤ bulkL l
  | [] => Nat.le_refl _
  | t :: r => by have := bulk_pos t; have := length_bulk r; simp only [List.length_cons, bulkL]; omega
theorem mem_bulk {x : S68} : ∀ {l : List S68}, x ∈ l → bulk x ≤ bulkL l
  | t :: r, h => by
    simp only [bulkL]
    rcases List.mem_cons.1 h with rfl | h
    · omega
    · have := mem_bulk h; omega
/-- A tree of no great size. -/
def Bd (t : S68) : Prop := bulk t ≤ 2000000
theorem Bd.vals {t : S68} (h : Bd t) : t.f1.length ≤ 2000000 := by have := bulk_eq t; unfold Bd at h; omega
theorem Bd.kids {t : S68} (h : Bd t) : t.f2.length ≤ 2000000 := by have := bulk_eq t; have := length_bulk t.f2; unfold Bd at h; omega
theorem Bd.kid {t : S68} (h : Bd t) : ∀ x ∈ t.f2, Bd x := fun x hx => by have := bulk_eq t; have := mem_bulk hx; unfold Bd at h ⊢; omega
end Go.Proofs.Ytkblcdpmdbofgaa.A
