/- What a call is handed, out of its reading: lists of strings, of trees, of operations. -/
import Derived.Test.YtkblcdpmdbofgaaRows
import Derived.Test.YtkblcdpmdbofgaaB0
import Derived.Deep.Slices
import Derived.ChangeArms
namespace Go.Proofs.Ytkblcdpmdbofgaa.A
open Go.RowKit Go.Proofs.YtkblcdpmdbofgaaW.PrintWords Go.Proofs.YtkblcdpmdbofgaaW.PrintLast Go.Proofs.YtkblcdpmdbofgaaW.PrintMore
set_option linter.unusedVariables false
set_option linter.unusedSimpArgs false
section
variable {H : Type} {enc : TypeId × Value → H} {w : World} {base : Nat} {spare : Nat → Bool} {held : Bool}

theorem opened {α : Type} [Inhabited α] {kd : Kd α} {Q : α → DataW H → Prop} {t e : TypeId} (ht : Try.prog.underlying t = some (.slice e)) (hc : Try.prog.cellsOf e = kd.sz) {fuel : Nat} {cs : List Value} {x : DataW H × List MemPlace}
    (h : DataW.trod enc Try.prog w base spare held fuel t cs = some x) (hel : ∀ n cs' y, n < fuel → DataW.trod enc Try.prog w base spare held n e cs' = some y → ∃ p, kd.K w p cs' ∧ Q p y.1) :
    ∃ A xs c ds, cs = [.slice A xs.length c] ∧ xs.length ≤ c ∧ kd.C w A xs.length xs ∧ ((∃ sp, x.1 = .slice ds sp) ∨ x.1 = .nil ∧ ds = []) ∧ ds.length = xs.length ∧ ∀ (i : Nat) p d, xs[i]? = some p → ds[i]? = some d → Q p d := by
  rcases DataW.trod_slice ht h with ⟨rfl, rfl⟩ | ⟨a, len, cap, elems, rest, n, rfl, rfl, rfl, hb, hl, hm, hlen, hel', _, _⟩
  · exact ⟨none, [], 0, [], rfl, Nat.le_refl _, ⟨rfl, Nat.zero_le _, fun h => by simp at h⟩, .inr ⟨rfl, rfl⟩, rfl, fun i p d hp => by simp at hp⟩
  · obtain ⟨V, hV⟩ := Go.Deep.choose_lt (α := α) (n := len) (p := fun i p => ∃ cs' y, w.cells? base (a.add (i * kd.sz)) kd.sz = some cs' ∧ elems[i]? = some y ∧ kd.K w p cs' ∧ Q p y.1) (fun i hi => by
      have he := hel' i hi
      rw [List.getElem?_eq_getElem (by omega)] at he
      obtain ⟨cs', h1, h2⟩ := Option.bind_eq_some_iff.1 he
      obtain ⟨p, hK, hQ⟩ := hel n cs' _ (Nat.lt_succ_self _) h2
      rw [hc] at h1
      exact ⟨p, cs', _, h1, List.getElem?_eq_getElem (by omega), hK, hQ⟩)
    refine ⟨some a, (List.range len).map V, cap, elems.map (·.1), by simp, by simpa using hl, ⟨rfl, ?_, fun hp => ⟨a, rfl, fun j p hj => ?_⟩⟩, .inl ⟨_, rfl⟩, by simp [hlen], fun i p d hp hd => ?_⟩
    · simp only [List.length_map, List.length_range]
      unfold maxLen at hm
      omega
    · have hlt : j < len := by
        have := (List.getElem?_eq_some_iff.1 hj).1
        simpa using this
      have hpj : p = V j := by
        rw [List.getElem?_map, List.getElem?_range hlt] at hj
        exact (Option.some.inj hj).symm
      subst hpj
      obtain ⟨cs', y, h1, _, hK, _⟩ := hV j hlt
      obtain ⟨_, hlen', hcell⟩ := World.cells?_some h1
      refine ⟨cs', hlen', hK, fun i u hu => ?_⟩
      have hi : i < kd.sz := by rw [← hlen']; exact (List.getElem?_eq_some_iff.1 hu).1
      have := hcell i hi
      rw [hu, Addr.add_add] at this
      exact this
    · have hlt : i < len := by
        have := (List.getElem?_eq_some_iff.1 hp).1
        simpa using this
      obtain ⟨cs', y, _, h2, _, hQ⟩ := hV i hlt
      have hpj : p = V i := by
        rw [List.getElem?_map, List.getElem?_range hlt] at hp
        exact (Option.some.inj hp).symm
      subst hpj
      rw [List.getElem?_map, h2] at hd
      rw [← Option.some.inj hd]
      exact hQ

theorem bulk_one (d : DataW H) : 1 ≤ Rows.uptoBulk d := by
  cases d with
  | lit l => cases l <;> simp [Rows.uptoBulk]
  | nil => simp [Rows.uptoBulk]
  | ptr d => simp [Rows.uptoBulk]
  | slice a b => simp [Rows.uptoBulk]
  | agg a => simp [Rows.uptoBulk]
  | iface a d => simp [Rows.uptoBulk]
  | map es => simp [Rows.uptoBulk]
  | held h => simp [Rows.uptoBulk]
def sumOf {α : Type} (f : α → Nat) : List α → Nat
  | [] => 0
  | x :: r => f x + sumOf f r
theorem bulk_all {α : Type} (f : α → Nat) : ∀ (xs : List α) (ds : List (DataW H)), ds.length = xs.length → (∀ (i : Nat) p d, xs[i]? = some p → ds[i]? = some d → f p ≤ Rows.uptoBulk d) → sumOf f xs ≤ Rows.uptoBulkAll ds
  | [], ds, _, _ => Nat.zero_le _
  | x :: r, [], hl, _ => by simp at hl
  | x :: r, d :: ds, hl, h => by
    have h0 := h 0 x d rfl rfl
    have h1 := bulk_all f r ds (by simpa using hl) (fun i p d' hp hd => h (i + 1) p d' (by simpa using hp) (by simpa using hd))
    show f x + sumOf f r ≤ Rows.uptoBulkAll (d :: ds)
    simp only [Rows.uptoBulkAll]
    omega
/-- The bulk of a slice that was opened. -/
theorem bulk_slice {α : Type} (f : α → Nat) {xs : List α} {ds : List (DataW H)} {d : DataW H} (hd : (∃ sp, d = .slice ds sp) ∨ d = .nil ∧ ds = []) (hl : ds.length = xs.length) (h : ∀ (i : Nat) p d, xs[i]? = some p → ds[i]? = some d → f p ≤ Rows.uptoBulk d) : sumOf f xs + 1 ≤ Rows.uptoBulk d := by
  have h1 := bulk_all f xs ds hl h
  rcases hd with ⟨sp, rfl⟩ | ⟨rfl, rfl⟩
  · simp only [Rows.uptoBulk]
    omega
  · simp only [Rows.uptoBulk]
    simp only [Rows.uptoBulkAll] at h1
    omega
theorem sum_len {α : Type} (l : List α) : sumOf (fun _ => 1) l = l.length := by
  induction l with
  | nil => rfl
  | cons x r ih => simp only [sumOf, ih, List.length_cons]; omega
theorem sum_bulkL (l : List S68) : sumOf bulk l = bulkL l := by
  induction l with
  | nil => rfl
  | cons x r ih => simp only [sumOf, ih, bulkL]
theorem sum_mem {α : Type} (f : α → Nat) {l : List α} {x : α} (h : x ∈ l) : f x ≤ sumOf f l := by
  induction l with
  | nil => cases h
  | cons y r ih =>
    rcases List.mem_cons.1 h with rfl | h
    · simp only [sumOf]; omega
    · have := ih h
      simp only [sumOf]; omega

theorem open_strsC {fuel : Nat} {cs : List Value} {x : DataW H × List MemPlace} (h : DataW.trod enc Try.prog w base spare held fuel 22 cs = some x) :
    ∃ A xs c, cs = [.slice A xs.length c] ∧ xs.length ≤ c ∧ Kd.string.C w A xs.length xs ∧ sumOf (fun s : ByteArray => s.size + 1) xs + 1 ≤ Rows.uptoBulk x.1 := by
  obtain ⟨A, xs, c, ds, h1, h2, h3, h4, h5, h6⟩ := opened (kd := Kd.string) (Q := fun (s : ByteArray) d => s.size + 1 ≤ Rows.uptoBulk d) Try.underlying22 (by kernel_rfl) h (fun n cs' y _ hy => by
    obtain ⟨s, rfl, rfl, hs⟩ := DataW.trod_string Try.underlying9 hy
    exact ⟨s, rfl, by simp only [Rows.uptoBulk, Array.length_toList]; exact Nat.le_refl _⟩)
  exact ⟨A, xs, c, h1, h2, h3, bulk_slice _ h4 h5 h6⟩
theorem open_intsC {fuel : Nat} {cs : List Value} {x : DataW H × List MemPlace} (h : DataW.trod enc Try.prog w base spare held fuel 29 cs = some x) :
    ∃ A xs c, cs = [.slice A xs.length c] ∧ xs.length ≤ c ∧ (Kd.int .i64).C w A xs.length xs ∧ xs.length + 1 ≤ Rows.uptoBulk x.1 := by
  obtain ⟨A, xs, c, ds, h1, h2, h3, h4, h5, h6⟩ := opened (kd := Kd.int .i64) (Q := fun (s : Int) d => 1 ≤ Rows.uptoBulk d) Try.underlying29 (by kernel_rfl) h (fun n cs' y _ hy => by
    obtain ⟨s, rfl, rfl, hs⟩ := DataW.trod_int Try.underlying3 hy
    exact ⟨s, rfl, bulk_one _⟩)
  have := bulk_slice (fun _ => 1) h4 h5 h6
  rw [sum_len] at this
  exact ⟨A, xs, c, h1, h2, h3, this⟩
instance inh68 : Inhabited S68 := ⟨z68⟩
instance inh35 : Inhabited S35 := ⟨z35⟩
theorem three {l : List Value} (h : l.length = 3) : ∃ a b c, l = [a, b, c] := by
  match l, h with
  | [a, b, c], _ => exact ⟨a, b, c, rfl⟩
set_option maxRecDepth 100000 in
theorem open_treesC (fuel : Nat) : (∀ cs (x : DataW H × List MemPlace), DataW.trod enc Try.prog w base spare held fuel 68 cs = some x → ∃ p, k68.K w p cs ∧ bulk p ≤ Rows.uptoBulk x.1) ∧
    ∀ cs (x : DataW H × List MemPlace), DataW.trod enc Try.prog w base spare held fuel 33 cs = some x → ∃ A xs c, cs = [.slice A xs.length c] ∧ xs.length ≤ c ∧ k68.C w A xs.length xs ∧ bulkL xs + 1 ≤ Rows.uptoBulk x.1 := by
  induction fuel using Nat.strongRecOn with
  | _ fuel ih =>
    have h33 : ∀ cs (x : DataW H × List MemPlace), DataW.trod enc Try.prog w base spare held fuel 33 cs = some x → ∃ A xs c, cs = [.slice A xs.length c] ∧ xs.length ≤ c ∧ k68.C w A xs.length xs ∧ bulkL xs + 1 ≤ Rows.uptoBulk x.1 := by
      intro cs x h
      obtain ⟨A, xs, c, ds, h1, h2, h3, h4, h5, h6⟩ := opened (kd := k68) (Q := fun p d => bulk p ≤ Rows.uptoBulk d) Try.underlying33 (by kernel_rfl) h (fun n cs' y hn hy => (ih n hn).1 cs' y hy)
      have := bulk_slice bulk h4 h5 h6
      rw [sum_bulkL] at this
      exact ⟨A, xs, c, h1, h2, h3, this⟩
    refine ⟨fun cs x h => ?_, h33⟩
    obtain ⟨xs, n, rfl, rfl, hl, hlen, hf⟩ := DataW.trod_struct Try.underlying68 h
    obtain ⟨a, b, c, rfl⟩ := three (hl.trans (by kernel_rfl))
    match xs, hlen with
    | [y0, y1, y2], _ =>
      have f0 := hf 0 _ rfl
      have f1 := hf 1 _ rfl
      have f2 := hf 2 _ rfl
      have g0 : DataW.trod enc Try.prog w base spare held n 9 [a] = some y0 := f0
      have g1 : DataW.trod enc Try.prog w base spare held n 29 [b] = some y1 := f1
      have g2 : DataW.trod enc Try.prog w base spare held n 33 [c] = some y2 := f2
      obtain ⟨s, hs, rfl, _⟩ := DataW.trod_string Try.underlying9 g0
      obtain ⟨A1, zs, c1, hz, l1, r1, b1⟩ := open_intsC g1
      obtain ⟨A2, ts, c2, ht, l2, r2, b2⟩ := (ih n (Nat.lt_succ_self _)).2 _ _ g2
      injection hs with hs
      injection hz with hz
      injection ht with ht
      subst hs
      subst hz
      subst ht
      refine ⟨⟨s, zs, ts⟩, k68_mk w ⟨s, zs, ts⟩ l1 r1 l2 r2, ?_⟩
      rw [bulk_eq]
      show zs.length + bulkL ts + 1 ≤ _
      simp only [List.map_cons, List.map_nil, Rows.uptoBulk, Rows.uptoBulkAll]
      omega
end
end Go.Proofs.Ytkblcdpmdbofgaa.A
