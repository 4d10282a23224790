/- session.New: the walk of its loop, and the whole. -/
import Derived.Test.YtkblcdpmdbofgaaB18
namespace Go.Proofs.Ytkblcdpmdbofgaa.A
open Go.RowKit Go.Proofs.YtkblcdpmdbofgaaW.PrintWords Go.Proofs.YtkblcdpmdbofgaaW.PrintLast Go.Proofs.YtkblcdpmdbofgaaW.PrintMore
set_option linter.unusedVariables false
set_option linter.unusedSimpArgs false

theorem desk_made {w w1 : World} {Ae : Option Addr} {ce : Nat} {l : List ByteArray} {needed : Int} (hR : Kd.string.R 9 w1 w.heap.size (fun k => w.heap.size ≤ k) (.slice Ae l.length ce) l) (hB : Below w.heap.size w w1) :
    DeskAt ((w1.alloc (.map #[] 0)).alloc (.cells #[.slice Ae l.length ce, .int .i64 needed, .map (some w1.heap.size)] 75 (0, 0))) (deskTag w (w1.heap.size + 1) w1.heap.size) (w1.heap.size + 1) w1.heap.size [] ⟨l, needed, []⟩ := by
  have hs := hB.size
  have hb : ((w1.alloc (.map #[] 0)).alloc (.cells #[.slice Ae l.length ce, .int .i64 needed, .map (some w1.heap.size)] 75 (0, 0))).heap[w1.heap.size + 1]? = some (.cells #[.slice Ae l.length ce, .int .i64 needed, .map (some w1.heap.size)] 75 (0, 0)) := by
    have := heap_alloc_new (w1.alloc (.map #[] 0)) (.cells #[.slice Ae l.length ce, .int .i64 needed, .map (some w1.heap.size)] 75 (0, 0))
    simpa using this
  refine ⟨⟨Ae, ce, hb, (Kd.R_reads' hR).2.1, ?_⟩, ?_, ?_, ?_, rfl, fun i g d hg hd => by simp at hd, by simp⟩
  · refine Kd.F_mono (Kd.F_alloc (Kd.F_alloc (Kd.F_bound (Kd.R_F hR)) _) _) (fun k hk => ?_)
    have h1 := hk.1
    have h2 := hk.2
    unfold deskTag
    rw [if_neg (by omega), if_neg (by omega)]
  · unfold deskTag
    rw [if_neg (by omega), if_pos (.inl rfl)]
  · unfold deskTag
    rw [if_neg (by omega), if_pos (.inr rfl)]
  · refine (MapAt.made w1).step ?_
    exact heap_alloc_old (w1.alloc (.map #[] 0)) _ (by simp)

theorem makeMap73 (w : World) : (Instr.makeMap 73 none).run Try.prog w = .ok (.map (some w.heap.size)) (w.alloc (.map #[] 0)) := by
  first | rfl | kernel_rfl | simp [Instr.run, Try.underlying73]
theorem edsOk_at (l : List ByteArray) (x : Int) (h0 : 0 ≤ x) (h1 : x < l.length) : edsOk (l.take x.toNat) (l.drop x.toNat) = (lettersS (rdOf ByteArray.empty l x) && !memS (l.take x.toNat) (rdOf ByteArray.empty l x) && edsOk (l.take (x + 1).toNat) (l.drop (x + 1).toNat)) := by
  have hlt : x.toNat < l.length := by omega
  have e : (x + 1).toNat = x.toNat + 1 := by omega
  have hd : l.drop x.toNat = l[x.toNat] :: l.drop (x.toNat + 1) := List.drop_eq_getElem_cons hlt
  have hr : rdOf ByteArray.empty l x = l[x.toNat] := by
    unfold rdOf
    rw [List.getD_eq_getElem?_getD, List.getElem?_eq_getElem hlt]
    rfl
  rw [hd, e, hr, List.take_succ_eq_append_getElem hlt]
  rfl
theorem rdOf_mem (l : List ByteArray) (x : Int) (h0 : 0 ≤ x) (h1 : x < l.length) : rdOf ByteArray.empty l x ∈ l := by
  unfold rdOf
  rw [List.getD_eq_getElem?_getD, List.getElem?_eq_getElem (by omega)]
  exact List.getElem_mem _

set_option maxHeartbeats 1000000 in
set_option maxRecDepth 100000 in
theorem new_good (A : Option Addr) (c : Nat) (l : List ByteArray) (needed : Int) (w : World) (hr : Kd.string.C w A l.length l) (hcp : l.length ≤ c) (hsz : ∀ x ∈ l, x.size ≤ 2000000) (h1 : 1 ≤ l.length) (h2 : l.length ≤ 16) (h3 : 0 ≤ needed) (h4 : needed < (l.length : Int)) :
    Calls Try.prog 11 #[.slice A l.length c, .int .i64 needed] w (Made w l needed) := by
  have hc : canNew l needed = edsOk [] l := by
    unfold canNew
    rw [decide_eq_true h1, decide_eq_true h2, decide_eq_true h3, decide_eq_true h4]
    simp
  have no : Aside0 (edsOk [] l = false → ∀ w', Below w.heap.size w w' → Made w l needed (.returned (.tuple #[.pointer none, .int .i64 1])) w') := ⟨fun he w' hB => by
    unfold Made
    rw [hc, he, if_neg (by simp)]
    exact ⟨rfl, hB⟩⟩
  have yes : Aside0 (edsOk [] l = true → ∀ dp mb w', w.heap.size ≤ dp → w.heap.size ≤ mb → DeskAt w' (deskTag w dp mb) dp mb [] ⟨l, needed, []⟩ → Below w.heap.size w w' → Made w l needed (.returned (.tuple #[.pointer (some ⟨dp, 0, none⟩), .int .i64 0])) w') := ⟨fun he dp mb w' hd hm hD hB => by
    unfold Made
    rw [hc, he, if_pos rfl]
    exact ⟨dp, mb, rfl, hd, hm, hD, hB⟩⟩
  have f1 : decide ((l.length : Int) < 1) = false := decide_eq_false (by omega)
  have f2 : decide (16 < (l.length : Int)) = false := decide_eq_false (by omega)
  have f3 : decide (needed < 0) = false := decide_eq_false (by omega)
  have f4 : decide ((l.length : Int) - 1 < needed) = false := decide_eq_false (by omega)
  have f5 : (l.length : Int) ≤ 16 := by omega
  have f6 : (1 : Int) ≤ (l.length : Int) := by omega
  have HR := Aside0.mk hr
  have HC := Aside0.mk hcp
  have HS := Aside0.mk hsz
  have C5 := Aside0.mk (fun (W : World) (hW : Below w.heap.size w W) => clone_strs A c l W (Kd.C_below hr hW) (by omega))
  clear hr hcp hsz h1 h2 h3 h4 hc
  go_enter Try.func11, Try.ntmps11
  go_wp2
  go_loopw [29] (fun i w' => ∃ x : Int, i = .int .i64 x ∧ 0 ≤ x ∧ x ≤ l.length ∧ Aside0 (edsOk [] l = edsOk (l.take x.toNat) (l.drop x.toNat)) ∧ Drawn0 w w') (fun i _ => l.length - (intOf i).toNat)
  case atStart => exact ⟨0, rfl, Int.le_refl _, Int.natCast_nonneg _, ⟨rfl⟩, Drawn0.refl _⟩
  case round =>
    obtain ⟨x, rfl, hx, hk, HV, ⟨m, rfl⟩⟩ := hrel
    by_cases hlt : x < l.length
    · obtain ⟨ad, e, hx0⟩ := Kd.at_string HR.out x hx hlt
      cases e
      have p1 := eq_true hx
      have q1 := eq_true hlt
      have L1 := Aside0.mk (fun (W : World) => letters_calls (rdOf ByteArray.empty l x) W (HS.out _ (rdOf_mem l x hx hlt)))
      obtain ⟨i0, hi0, _, hsz, _⟩ := info_parts info9
      obtain ⟨hcut, hA, hC⟩ := print_take_of (P := Try.prog) Value.string (⟨#[]⟩ : ByteArray) 22 9 .i64 Try.underlying22 hi0 hsz (some ad) c l x hx hk HC.out
      have HR2 := Aside0.mk (Kd.C_of_reads (h1 := fun _ => rfl) (hA _ (Kd.reads_of_C HR.out)))
      have hlen : (l.take x.toNat).length = x.toNat := by rw [List.length_take]; omega
      have C2 := Aside0.mk (fun (W : World) (hW : Below w.heap.size w W) => contains_calls (some ad) c (l.take x.toNat) (rdOf ByteArray.empty l x) W (by rw [List.length_take]; omega) (Kd.C_below HR2.out hW) hC)
      simp only [hlen] at C2 hcut
      clear hlen
      have HE := HV.out.trans (edsOk_at l x hx hlt)
      clear hA hC hi0 hsz HV
      cases hl : lettersS (rdOf ByteArray.empty l x) with
      | false =>
        rw [hl] at HE L1
        replace HE := Aside0.mk (no.out (HE.trans (by simp)))
        clear hcut
        go_wp2_with (go_at_call 33; refine (L1.out _).mono ?_; rintro e w' ⟨rfl, ⟨nd, rfl⟩⟩)
        go_ret2
        exact HE.out _ (pw_below_drewN (Below.refl _ _) _)
      | true =>
        rw [hl] at HE L1
        cases hm : memS (l.take x.toNat) (rdOf ByteArray.empty l x) with
        | true =>
          rw [hm] at HE C2
          replace HE := Aside0.mk (no.out (HE.trans (by simp)))
          go_wp2_with (first | (go_at_call 33; refine (L1.out _).mono ?_; rintro e w' ⟨rfl, ⟨nd, rfl⟩⟩) | (go_at_call 34; refine (C2.out _ (pw_below_drewN (Below.refl _ _) _)).mono ?_; rintro e w' ⟨rfl, ⟨nd2, rfl⟩⟩))
          go_ret2
          exact HE.out _ (pw_below_drewN (Below.refl _ _) _)
        | false =>
          rw [hm] at HE C2
          replace HE := Aside0.mk (HE.trans (show (true && !false && edsOk (l.take (x + 1).toNat) (l.drop (x + 1).toNat)) = edsOk (l.take (x + 1).toNat) (l.drop (x + 1).toNat) by simp))
          go_wp2_with (first | (go_at_call 33; refine (L1.out _).mono ?_; rintro e w' ⟨rfl, ⟨nd, rfl⟩⟩) | (go_at_call 34; refine (C2.out _ (pw_below_drewN (Below.refl _ _) _)).mono ?_; rintro e w' ⟨rfl, ⟨nd2, rfl⟩⟩))
          go_roundw
          case rel => exact ⟨x + 1, rfl, by omega, by omega, HE, ⟨_, rfl⟩⟩
          case measure => simp [intOf]; omega
    · have HE : Aside0 (edsOk [] l = true) := ⟨by rw [HV.out, List.drop_eq_nil_of_le (by omega)]; rfl⟩
      replace HE := Aside0.mk (yes.out HE.out)
      go_wp2_with (go_at_call 35; refine (C5.out _ (pw_below_drewN (Below.refl _ _) _)).mono ?_; rintro e w1 ⟨v, rfl, hR, hB⟩; obtain ⟨Ae, ce, rfl⟩ := Kd.R_slice hR; have hmm := makeMap73 w1; have HD := Aside0.mk (desk_made (needed := needed) hR hB); have hs := hB.size; have HB := Aside0.mk hB; clear hR hB)
      go_ret2
      exact HE.out _ _ _ (Nat.le_succ_of_le hs) hs HD.out (below_alloc (below_alloc (below_step (pw_below_drewN (Below.refl _ _) _) HB.out) _) _)

theorem new_calls (A : Option Addr) (c : Nat) (l : List ByteArray) (needed : Int) (w : World) (hr : Kd.string.C w A l.length l) (hcp : l.length ≤ c) (hsz : ∀ x ∈ l, x.size ≤ 2000000) :
    Calls Try.prog 11 #[.slice A l.length c, .int .i64 needed] w (Made w l needed) := by
  by_cases h1 : 1 ≤ l.length
  · by_cases h2 : l.length ≤ 16
    · by_cases h3 : 0 ≤ needed
      · by_cases h4 : needed < (l.length : Int)
        · exact new_good A c l needed w hr hcp hsz h1 h2 h3 h4
        · exact new_bad A c l needed w (.inr (.inr (.inr ⟨h1, h2, h3, by omega⟩)))
      · exact new_bad A c l needed w (.inr (.inr (.inl ⟨h1, h2, by omega⟩)))
    · exact new_bad A c l needed w (.inr (.inl ⟨h1, by omega⟩))
  · exact new_bad A c l needed w (.inl (by omega))

end Go.Proofs.Ytkblcdpmdbofgaa.A
