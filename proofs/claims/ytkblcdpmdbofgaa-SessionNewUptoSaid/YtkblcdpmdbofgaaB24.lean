/- A desk over a base: what lay there before the desk stays; awake. -/
import Derived.Test.YtkblcdpmdbofgaaB23
namespace Go.Proofs.Ytkblcdpmdbofgaa.A
open Go.RowKit Go.Proofs.YtkblcdpmdbofgaaW.PrintWords Go.Proofs.YtkblcdpmdbofgaaW.PrintLast Go.Proofs.YtkblcdpmdbofgaaW.PrintMore
set_option linter.unusedVariables false
set_option linter.unusedSimpArgs false

def Kept0 (w0 w : World) : Prop := Kp w0 w (fun _ => False)
theorem Kept0.refl (w : World) : Kept0 w w := Kp.refl _ _
theorem Kept0.below {w0 w w1 : World} (h : Kept0 w0 w) (hB : Below w.heap.size w w1) : Kept0 w0 w1 := Kp.below h hB
theorem Kept0.to {w0 w : World} (h : Kept0 w0 w) : Below w0.heap.size w0 w := Kp.toBelow h (Nat.le_refl _) (fun _ h => h.elim)
theorem Kept0.then_ {w0 w w1 : World} {S : Nat → Prop} (h : Kept0 w0 w) (hK : Kp w w1 S) (hs : ∀ k, S k → w0.heap.size ≤ k) : Kept0 w0 w1 := Kp.then_ h hK (fun k hk => .inr (hs k hk))

/-- The desk D at dp, mb; all that w0 held is as it was, and none of the desk's. -/
def Stand (w0 w : World) (dp mb : Nat) (D : Dk) (n : Nat) : Prop := At w (fun k => k < w0.heap.size) dp mb D n ∧ Kept0 w0 w
theorem Op1.stand {w0 w : World} {free : Nat → Prop} {dp mb : Nat} {v : Value} {D1 : Dk} {n : Nat} {e : Ending} {w' : World} (h : Op1 w free dp mb v D1 n e w') (hK : Kept0 w0 w) (hf : ∀ k, k < w0.heap.size → free k) : e = .returned v ∧ Stand w0 w' dp mb D1 n :=
  ⟨h.1, h.2.1.mono (fun k hk => ⟨hf k hk, Nat.lt_of_lt_of_le hk hK.size⟩) (Nat.le_refl _), hK.then_ h.2.2 (fun k hk => Nat.le_of_not_lt (fun hl => hk (hf k hl)))⟩
theorem Stand.below {w0 w w1 : World} {dp mb : Nat} {D : Dk} {n : Nat} (h : Stand w0 w dp mb D n) (hB : Below w.heap.size w w1) : Stand w0 w1 dp mb D n := ⟨(h.1.grow hB).mono (fun k hk => .inl hk) (Nat.le_refl _), h.2.below hB⟩
theorem Stand.drewN {w0 w : World} {dp mb : Nat} {D : Dk} {n : Nat} (h : Stand w0 w dp mb D n) (m : Nat) : Stand w0 (w.drewN m) dp mb D n := h.below (pw_below_drewN (Below.refl _ _) m)
theorem Stand.mono {w0 w : World} {dp mb : Nat} {D : Dk} {n m : Nat} (h : Stand w0 w dp mb D n) (hn : n ≤ m) : Stand w0 w dp mb D m := ⟨h.1.mono (fun _ hk => hk) hn, h.2⟩
section
variable {w0 w : World} {dp mb : Nat} {D : Dk} {n : Nat}
theorem Stand.open_ (h : Stand w0 w dp mb D n) (hn : n ≤ 90000) (ed : ByteArray) (ts : List S68) (A : Option Addr) (c : Nat) (hb : bulkL ts ≤ 2000000) (hr : k68.C w A ts.length ts) (hc : ts.length ≤ c) :
    Calls Try.prog 31 #[.pointer (some ⟨dp, 0, none⟩), .string ed, .slice A ts.length c] w fun e w' => e = .returned (two (D.opens ed ts).1 (D.opens ed ts).2.1) ∧ Stand w0 w' dp mb (D.opens ed ts).2.2 n :=
  (h.1.open_ hn ed ts A c hb hr hc).mono (fun e w' ho => ho.stand h.2 (fun _ hk => hk))
theorem Stand.amend {W : World} (h : Stand w0 W dp mb D n) (hB : Below W.heap.size W w) (hn : n ≤ 90000) (ed : ByteArray) (id num : Int) (ts : List S68) (A : Option Addr) (c : Nat) (hid : (Lit.int .i64 id).wf = true) (hb : bulkL ts ≤ 2000000) (hr : k68.F w (fun k => k < w0.heap.size ∨ W.heap.size ≤ k) A ts.length ts) (hc : ts.length ≤ c) :
    Calls Try.prog 20 #[.pointer (some ⟨dp, 0, none⟩), .string ed, .int .i64 id, .int .i64 num, .slice A ts.length c] w fun e w' => e = .returned (two (D.amend ed id num ts).1 (D.amend ed id num ts).2.1) ∧ Stand w0 w' dp mb (D.amend ed id num ts).2.2 n :=
  ((h.1.grow hB).amend hn ed id num ts A c hid hb hr hc).mono (fun e w' ho => ho.stand (h.2.below hB) (fun _ hk => .inl hk))
theorem Stand.approve (h : Stand w0 w dp mb D n) (hn : n ≤ 90000) (ed : ByteArray) (id num : Int) (hid : (Lit.int .i64 id).wf = true) :
    Calls Try.prog 30 #[.pointer (some ⟨dp, 0, none⟩), .string ed, .int .i64 id, .int .i64 num] w fun e w' => e = .returned (.int .i64 (D.approve ed id num).1) ∧ Stand w0 w' dp mb (D.approve ed id num).2 (n + 1) :=
  (h.1.approve hn ed id num hid).mono (fun e w' ho => ho.stand h.2 (fun _ hk => hk))
theorem Stand.close (h : Stand w0 w dp mb D n) (id : Int) (hid : (Lit.int .i64 id).wf = true) :
    Calls Try.prog 29 #[.pointer (some ⟨dp, 0, none⟩), .int .i64 id] w fun e w' => e = .returned (.int .i64 (D.close id).1) ∧ Stand w0 w' dp mb (D.close id).2 n :=
  (h.1.close id hid).mono (fun e w' ho => ho.stand h.2 (fun _ hk => hk))
theorem Stand.ready (h : Stand w0 w dp mb D n) (hn : n ≤ 90000) (id num : Int) (hid : (Lit.int .i64 id).wf = true) :
    Calls Try.prog 17 #[.pointer (some ⟨dp, 0, none⟩), .int .i64 id, .int .i64 num] w fun e w' => e = .returned (.int .i64 (D.ready id num)) ∧ Drawn0 w w' := h.1.ready hn id num hid
theorem Stand.history (h : Stand w0 w dp mb D n) (hn : n ≤ 90000) (id : Int) (hid : (Lit.int .i64 id).wf = true) :
    Calls Try.prog 19 #[.pointer (some ⟨dp, 0, none⟩), .int .i64 id] w fun e w' => ∃ v, e = .returned (.tuple #[v, .int .i64 (D.has id)]) ∧ (Kd.slice 68 k68).R 33 w' w.heap.size (New w) v (D.hist id) ∧ Below w.heap.size w w' := h.1.history hn id hid
end
theorem sent_calls (a0 : ByteArray) (w : World) : Calls Try.prog 32 #[.string a0] w fun e w' => ∃ A c, e = .returned (.slice A 1 c) ∧ (sent a0).length ≤ c ∧ k68.F w' (fun k => w.heap.size ≤ k) A (sent a0).length (sent a0) ∧ Below w.heap.size w w' := by
  refine (pentaglotlaw54_sentence.calls a0 (sent a0) w rfl).mono ?_
  rintro e w' ⟨v, rfl, hN, hB⟩
  obtain ⟨A, c, rfl⟩ := Kd.N_slice hN
  exact ⟨A, c, rfl, (Kd.N_reads' hN).2.1, Kd.N_F hN, hB⟩
theorem E0_good : E0.good 0 := ⟨by show (3 : Nat) ≤ 1000000; decide, fun d hd => by simp [E0] at hd⟩
theorem wf1 : (Lit.int .i64 1).wf = true := by decide
theorem new_stand {w0 w w' : World} {l : List ByteArray} {needed : Int} {e : Ending} (h : Made w l needed e w') (hc : canNew l needed = true) (hK : Kept0 w0 w) : ∃ dp mb, e = .returned (.tuple #[.pointer (some ⟨dp, 0, none⟩), .int .i64 0]) ∧ Stand w0 w' dp mb ⟨l, needed, []⟩ 0 := by
  unfold Made at h
  rw [if_pos hc] at h
  obtain ⟨dp, mb, he, hd, hm, hD, hB⟩ := h
  have hl : l.length ≤ 16 := by
    unfold canNew at hc
    simp only [Bool.and_eq_true, decide_eq_true_eq] at hc
    omega
  refine ⟨dp, mb, he, ⟨⟨by show l.length ≤ 1000000; omega, fun d hd => by simp at hd⟩, _, _, hD, fun k hk _ => ?_⟩, hK.below hB⟩
  unfold deskTag
  rw [if_pos (Nat.lt_of_lt_of_le hk hK.size)]

section
variable {w0 w W : World} {dp mb : Nat}
theorem s_open (h : Stand w0 w dp mb E0 0) (A : Option Addr) (c : Nat) (hr : k68.C w A (sent waitS).length (sent waitS)) (hc : (sent waitS).length ≤ c) :
    Calls Try.prog 31 #[.pointer (some ⟨dp, 0, none⟩), .string ⟨#[97, 110, 110]⟩, .slice A 1 c] w fun e w' => e = .returned (.tuple #[.int .i64 1, .int .i64 0]) ∧ Stand w0 w' dp mb E1 0 := by
  refine (h.open_ (Nat.zero_le _) ann (sent waitS) A c b1 hr hc).mono ?_
  rintro e w' ⟨rfl, hS⟩
  rw [e1.1, e1.2]
  exact ⟨rfl, hS⟩
theorem s_ready1 (h : Stand w0 w dp mb E1 0) : Calls Try.prog 17 #[.pointer (some ⟨dp, 0, none⟩), .int .i64 1, .int .i64 1] w fun e w' => e = .returned (.int .i64 10) ∧ Drawn0 w w' := by
  have := h.ready (Nat.zero_le _) 1 1 wf1
  rwa [e2] at this
theorem s_app1 (h : Stand w0 w dp mb E1 0) : Calls Try.prog 30 #[.pointer (some ⟨dp, 0, none⟩), .string ⟨#[97, 110, 110]⟩, .int .i64 1, .int .i64 1] w fun e w' => e = .returned (.int .i64 10) ∧ Stand w0 w' dp mb E2 1 := by
  have := h.approve (Nat.zero_le _) ann 1 1 wf1
  rwa [e3] at this
theorem s_app2 (h : Stand w0 w dp mb E2 1) : Calls Try.prog 30 #[.pointer (some ⟨dp, 0, none⟩), .string ⟨#[98, 111, 98]⟩, .int .i64 1, .int .i64 1] w fun e w' => e = .returned (.int .i64 0) ∧ Stand w0 w' dp mb E3 2 := by
  have := h.approve (by decide) bob 1 1 wf1
  rwa [e4] at this
theorem s_ready2 (h : Stand w0 w dp mb E3 2) : Calls Try.prog 17 #[.pointer (some ⟨dp, 0, none⟩), .int .i64 1, .int .i64 1] w fun e w' => e = .returned (.int .i64 0) ∧ Drawn0 w w' := by
  have := h.ready (by decide) 1 1 wf1
  rwa [e5] at this
theorem s_am1 (h : Stand w0 W dp mb E3 2) (hB : Below W.heap.size W w) (A : Option Addr) (c : Nat) (hr : k68.F w (fun k => W.heap.size ≤ k) A (sent sleepS).length (sent sleepS)) (hc : (sent sleepS).length ≤ c) :
    Calls Try.prog 20 #[.pointer (some ⟨dp, 0, none⟩), .string ⟨#[101, 118, 101]⟩, .int .i64 1, .int .i64 1, .slice A 1 c] w fun e w' => e = .returned (.tuple #[.int .i64 2, .int .i64 0]) ∧ Stand w0 w' dp mb E4 2 := by
  refine (h.amend hB (by decide) eve 1 1 (sent sleepS) A c wf1 b2 (Kd.F_mono hr (fun k hk => .inr hk)) hc).mono ?_
  rintro e w' ⟨rfl, hS⟩
  rw [e6.1, e6.2]
  exact ⟨rfl, hS⟩
theorem e70 : (E4.amend bob 1 1 (sent waitS)).1 = 0 := by kernel_rfl
theorem s_am2 (h : Stand w0 W dp mb E4 2) (hB : Below W.heap.size W w) (A : Option Addr) (c : Nat) (hr : k68.F w (fun k => W.heap.size ≤ k) A (sent waitS).length (sent waitS)) (hc : (sent waitS).length ≤ c) :
    Calls Try.prog 20 #[.pointer (some ⟨dp, 0, none⟩), .string ⟨#[98, 111, 98]⟩, .int .i64 1, .int .i64 1, .slice A 1 c] w fun e w' => e = .returned (.tuple #[.int .i64 0, .int .i64 11]) ∧ Stand w0 w' dp mb E5 2 := by
  refine (h.amend hB (by decide) bob 1 1 (sent waitS) A c wf1 b1 (Kd.F_mono hr (fun k hk => .inr hk)) hc).mono ?_
  rintro e w' ⟨rfl, hS⟩
  rw [e70, e7]
  exact ⟨rfl, hS⟩
theorem s_hist (h : Stand w0 w dp mb E5 2) : Calls Try.prog 19 #[.pointer (some ⟨dp, 0, none⟩), .int .i64 1] w fun e w' => ∃ A c, e = .returned (.tuple #[.slice A 2 c, .int .i64 0]) ∧ Below w0.heap.size w0 w' := by
  refine (h.history (by decide) 1 wf1).mono ?_
  rintro e w' ⟨v, rfl, hR, hB⟩
  obtain ⟨A, c, rfl⟩ := Kd.R_slice hR
  rw [e8, e9]
  exact ⟨A, c, rfl, (h.2.below hB).to⟩
end
end Go.Proofs.Ytkblcdpmdbofgaa.A
