/- The chapter's example: its results. -/
import Derived.Test.YtkblcdpmdbofgaaB22
namespace Go.Proofs.Ytkblcdpmdbofgaa.A
open Go.RowKit Go.Proofs.YtkblcdpmdbofgaaW.PrintWords Go.Proofs.YtkblcdpmdbofgaaW.PrintLast Go.Proofs.YtkblcdpmdbofgaaW.PrintMore
set_option linter.unusedVariables false
set_option linter.unusedSimpArgs false

def ann : ByteArray := ⟨#[97, 110, 110]⟩
def bob : ByteArray := ⟨#[98, 111, 98]⟩
def eve : ByteArray := ⟨#[101, 118, 101]⟩
def waitS : ByteArray := ⟨#[119, 97, 105, 116]⟩
def sleepS : ByteArray := ⟨#[115, 108, 101, 101, 112]⟩
def sent (a0 : ByteArray) : List S68 := [⟨⟨#[65, 115, 115, 101, 114, 116]⟩, [], [⟨⟨#[78, 97, 109, 101]⟩, [], [⟨⟨#[109, 97, 114, 116, 97]⟩, [], []⟩]⟩, ⟨⟨#[65, 99, 116]⟩, [], [⟨a0, [], []⟩]⟩]⟩]
theorem sent_f (a0 : ByteArray) : pentaglotlaw54_sentence.f a0 = some (sent a0) := rfl
def eds3 : List ByteArray := [ann, bob, eve]
def E0 : Dk := ⟨eds3, 1, []⟩
def E1 : Dk := (E0.opens ann (sent waitS)).2.2
def E2 : Dk := (E1.approve ann 1 1).2
def E3 : Dk := (E2.approve bob 1 1).2
def E4 : Dk := (E3.amend eve 1 1 (sent sleepS)).2.2
def E5 : Dk := (E4.amend bob 1 1 (sent waitS)).2.2
theorem e0 : canNew eds3 1 = true := by kernel_rfl
theorem n1 : noticeS (sent waitS) = true := by kernel_rfl
theorem n2 : noticeS (sent sleepS) = true := by kernel_rfl
theorem e1 : (E0.opens ann (sent waitS)).1 = 1 ∧ (E0.opens ann (sent waitS)).2.1 = 0 := ⟨by kernel_rfl, by kernel_rfl⟩
theorem e2 : E1.ready 1 1 = 10 := by kernel_rfl
theorem e3 : (E1.approve ann 1 1).1 = 10 := by kernel_rfl
theorem e4 : (E2.approve bob 1 1).1 = 0 := by kernel_rfl
theorem e5 : E3.ready 1 1 = 0 := by kernel_rfl
theorem e6 : (E3.amend eve 1 1 (sent sleepS)).1 = 2 ∧ (E3.amend eve 1 1 (sent sleepS)).2.1 = 0 := ⟨by kernel_rfl, by kernel_rfl⟩
theorem e7 : (E4.amend bob 1 1 (sent waitS)).2.1 = 11 := by kernel_rfl
theorem e8 : E5.has 1 = 0 := by kernel_rfl
theorem e9 : (E5.hist 1).length = 2 := by kernel_rfl
theorem b1 : bulkL (sent waitS) ≤ 2000000 := by
  have : bulkL (sent waitS) = 5 := by kernel_rfl
  omega
theorem b2 : bulkL (sent sleepS) ≤ 2000000 := by
  have : bulkL (sent sleepS) = 5 := by kernel_rfl
  omega
theorem C_lit3 (w : World) (x y z : ByteArray) : Kd.string.C (w.alloc (.cells #[.string x, .string y, .string z] 9)) (some ⟨w.heap.size, 0, none⟩) [x, y, z].length [x, y, z] := by
  have hb := heap_alloc_new w (.cells #[.string x, .string y, .string z] 9)
  refine ⟨rfl, show (3 : Nat) ≤ 9223372036854775807 by decide, fun _ => ⟨_, rfl, fun j p hj => ⟨[.string p], rfl, rfl, fun i u hi => ?_⟩⟩⟩
  have hi0 : i = 0 := by
    have := (List.getElem?_eq_some_iff.1 hi).1
    simp at this
    exact this
  subst hi0
  simp at hi
  subst hi
  have hj3 : j < 3 := (List.getElem?_eq_some_iff.1 hj).1
  have e := blk_cell hb j
  have ea : (Addr.add ⟨w.heap.size, 0, none⟩ (j * Kd.string.sz + 0)) = ⟨w.heap.size, j, none⟩ := by
    rw [show j * Kd.string.sz + 0 = j from (show j * 1 + 0 = j by omega)]
    unfold Addr.add
    by_cases h0 : j = 0
    · subst h0; rfl
    · simp [h0]
  rw [ea, e]
  rcases j with _ | _ | _ | j
  · simp at hj; subst hj; rfl
  · simp at hj; subst hj; rfl
  · simp at hj; subst hj; rfl
  · omega
end Go.Proofs.Ytkblcdpmdbofgaa.A
