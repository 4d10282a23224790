/-
  NARROWER THAN 'FOR EVERY INPUT', by the rows' own cells (each row's printed sentence says how): SessionReady: loops · SessionAmends: loops · SessionRuns: loops · SessionRefuses: loops · SessionCloses: loops · SessionOwns: loops.
  DERIVED. THE GIVEN ROWS OF THIS SEAT. 7 by the template 'for every input the law returns true; each argument reads behind the call as it read before'; 0 by the template 'total and deterministic' (their statements: YtkblcdpmdbofgaaTotals.lean).
  GIVEN WITH THE SEED: the statements are not yours to turn. If you find one false, say at which input.
  Laid BY PROGRAM, IN A SANDBOX (cutbox-rows.mjs): the forced cells as the released guide's own fill.sh prints them over the translation 1783647466ca1e13… (all of the seat's roots in one cut). By AI agents, Wed Nov 11 2026. No macro, syntax, notation, axiom, sorry.
-/
import Derived.Test.YtkblcdpmdbofgaaChecked
import GoSem.Claim
import GoSem.ClaimJoined
import GoSem.ClaimMapViews
import Derived.JoinedTies
import Derived.KernelRfl
namespace Go.Proofs.Ytkblcdpmdbofgaa
/- THE CELL 'sum', in the pinned program and in every row, IS THE sha256 OF THE DUMP (.gsa) THAT YtkblcdpmdbofgaaProg.lean LOADS. Nothing in Lean hashes anything: it is a label: what it is worth is what the hold of that sum in a sandbox is worth. -/
noncomputable def Try.pinned : Pinned := { name := "ytkblcdpmdbofgaa", sum := "1783647466ca1e1370f7e817fd6e848c472b0fb8e38d04ce4320fe1372993eb7", checked := Try.checked }
namespace Rows
def none {H : Type} : Left H := { results := [], args := [] }

/-- 'pentaglotlaw54.SessionNew': WHATEVER THE INPUT: true; the input reads as it did. -/
def sessionNewSpec : ChangeSpec := { name := "sessionNew", fn := fun _ => fun
  | [d1, d2] => { results := [.lit (.bool true)], args := [d1, d2] }
  | _ => none }
def sessionNewRow : OpenClaim := { program := "ytkblcdpmdbofgaa", sum := "1783647466ca1e1370f7e817fd6e848c472b0fb8e38d04ce4320fe1372993eb7", func := "pentaglot/pentaglotlaw54.SessionNew", spec := "sessionNew", recurses := true, apart := false }
def SessionNewSaid : Prop := sessionNewRow.holds Try.pinned (OpenSpec.ofChange sessionNewSpec)

/-- ITS FALSE NEIGHBOUR: 'it returns false'. Refute it at one input. -/
def sessionNewWrong : ChangeSpec := { name := "sessionNew", fn := fun _ => fun
  | [d1, d2] => { results := [.lit (.bool false)], args := [d1, d2] }
  | _ => none }
def SessionNewWrongFalsely : Prop := sessionNewRow.holds Try.pinned (OpenSpec.ofChange sessionNewWrong)

/-- 'pentaglotlaw54.SessionReady': WHATEVER THE INPUT: true; the input reads as it did. -/
def sessionReadySpec : ChangeSpec := { name := "sessionReady", fn := fun _ => fun
  | [d1, d2, d3, d4, d5] => { results := [.lit (.bool true)], args := [d1, d2, d3, d4, d5] }
  | _ => none }
def sessionReadyRow : OpenClaim := { program := "ytkblcdpmdbofgaa", sum := "1783647466ca1e1370f7e817fd6e848c472b0fb8e38d04ce4320fe1372993eb7", func := "pentaglot/pentaglotlaw54.SessionReady", spec := "sessionReady", recurses := true, loops := true, apart := false }
def SessionReadySaid : Prop := sessionReadyRow.holds Try.pinned (OpenSpec.ofChange sessionReadySpec)

/-- ITS FALSE NEIGHBOUR: 'it returns false'. Refute it at one input. -/
def sessionReadyWrong : ChangeSpec := { name := "sessionReady", fn := fun _ => fun
  | [d1, d2, d3, d4, d5] => { results := [.lit (.bool false)], args := [d1, d2, d3, d4, d5] }
  | _ => none }
def SessionReadyWrongFalsely : Prop := sessionReadyRow.holds Try.pinned (OpenSpec.ofChange sessionReadyWrong)

/-- 'pentaglotlaw54.SessionAmends': WHATEVER THE INPUT: true; the input reads as it did. -/
def sessionAmendsSpec : ChangeSpec := { name := "sessionAmends", fn := fun _ => fun
  | [d1, d2, d3, d4] => { results := [.lit (.bool true)], args := [d1, d2, d3, d4] }
  | _ => none }
def sessionAmendsRow : OpenClaim := { program := "ytkblcdpmdbofgaa", sum := "1783647466ca1e1370f7e817fd6e848c472b0fb8e38d04ce4320fe1372993eb7", func := "pentaglot/pentaglotlaw54.SessionAmends", spec := "sessionAmends", recurses := true, loops := true, apart := false }
def SessionAmendsSaid : Prop := sessionAmendsRow.holds Try.pinned (OpenSpec.ofChange sessionAmendsSpec)

/-- ITS FALSE NEIGHBOUR: 'it returns false'. Refute it at one input. -/
def sessionAmendsWrong : ChangeSpec := { name := "sessionAmends", fn := fun _ => fun
  | [d1, d2, d3, d4] => { results := [.lit (.bool false)], args := [d1, d2, d3, d4] }
  | _ => none }
def SessionAmendsWrongFalsely : Prop := sessionAmendsRow.holds Try.pinned (OpenSpec.ofChange sessionAmendsWrong)

/-- 'pentaglotlaw54.SessionRuns': WHATEVER THE INPUT: true; the input reads as it did. -/
def sessionRunsSpec : ChangeSpec := { name := "sessionRuns", fn := fun _ => fun
  | [d1, d2, d3] => { results := [.lit (.bool true)], args := [d1, d2, d3] }
  | _ => none }
def sessionRunsRow : OpenClaim := { program := "ytkblcdpmdbofgaa", sum := "1783647466ca1e1370f7e817fd6e848c472b0fb8e38d04ce4320fe1372993eb7", func := "pentaglot/pentaglotlaw54.SessionRuns", spec := "sessionRuns", recurses := true, loops := true, apart := false }
def SessionRunsSaid : Prop := sessionRunsRow.holds Try.pinned (OpenSpec.ofChange sessionRunsSpec)

/-- ITS FALSE NEIGHBOUR: 'it returns false'. Refute it at one input. -/
def sessionRunsWrong : ChangeSpec := { name := "sessionRuns", fn := fun _ => fun
  | [d1, d2, d3] => { results := [.lit (.bool false)], args := [d1, d2, d3] }
  | _ => none }
def SessionRunsWrongFalsely : Prop := sessionRunsRow.holds Try.pinned (OpenSpec.ofChange sessionRunsWrong)

/-- 'pentaglotlaw54.SessionRefuses': WHATEVER THE INPUT: true; the input reads as it did. -/
def sessionRefusesSpec : ChangeSpec := { name := "sessionRefuses", fn := fun _ => fun
  | [d1, d2, d3, d4] => { results := [.lit (.bool true)], args := [d1, d2, d3, d4] }
  | _ => none }
def sessionRefusesRow : OpenClaim := { program := "ytkblcdpmdbofgaa", sum := "1783647466ca1e1370f7e817fd6e848c472b0fb8e38d04ce4320fe1372993eb7", func := "pentaglot/pentaglotlaw54.SessionRefuses", spec := "sessionRefuses", recurses := true, loops := true, apart := false }
def SessionRefusesSaid : Prop := sessionRefusesRow.holds Try.pinned (OpenSpec.ofChange sessionRefusesSpec)

/-- ITS FALSE NEIGHBOUR: 'it returns false'. Refute it at one input. -/
def sessionRefusesWrong : ChangeSpec := { name := "sessionRefuses", fn := fun _ => fun
  | [d1, d2, d3, d4] => { results := [.lit (.bool false)], args := [d1, d2, d3, d4] }
  | _ => none }
def SessionRefusesWrongFalsely : Prop := sessionRefusesRow.holds Try.pinned (OpenSpec.ofChange sessionRefusesWrong)

/-- 'pentaglotlaw54.SessionCloses': WHATEVER THE INPUT: true; the input reads as it did. -/
def sessionClosesSpec : ChangeSpec := { name := "sessionCloses", fn := fun _ => fun
  | [d1, d2, d3, d4] => { results := [.lit (.bool true)], args := [d1, d2, d3, d4] }
  | _ => none }
def sessionClosesRow : OpenClaim := { program := "ytkblcdpmdbofgaa", sum := "1783647466ca1e1370f7e817fd6e848c472b0fb8e38d04ce4320fe1372993eb7", func := "pentaglot/pentaglotlaw54.SessionCloses", spec := "sessionCloses", recurses := true, loops := true, apart := false }
def SessionClosesSaid : Prop := sessionClosesRow.holds Try.pinned (OpenSpec.ofChange sessionClosesSpec)

/-- ITS FALSE NEIGHBOUR: 'it returns false'. Refute it at one input. -/
def sessionClosesWrong : ChangeSpec := { name := "sessionCloses", fn := fun _ => fun
  | [d1, d2, d3, d4] => { results := [.lit (.bool false)], args := [d1, d2, d3, d4] }
  | _ => none }
def SessionClosesWrongFalsely : Prop := sessionClosesRow.holds Try.pinned (OpenSpec.ofChange sessionClosesWrong)

/-- 'pentaglotlaw54.SessionOwns': WHATEVER THE INPUT: true; the input reads as it did. -/
def sessionOwnsSpec : ChangeSpec := { name := "sessionOwns", fn := fun _ => fun
  | [d1, d2, d3] => { results := [.lit (.bool true)], args := [d1, d2, d3] }
  | _ => none }
def sessionOwnsRow : OpenClaim := { program := "ytkblcdpmdbofgaa", sum := "1783647466ca1e1370f7e817fd6e848c472b0fb8e38d04ce4320fe1372993eb7", func := "pentaglot/pentaglotlaw54.SessionOwns", spec := "sessionOwns", recurses := true, loops := true, apart := false }
def SessionOwnsSaid : Prop := sessionOwnsRow.holds Try.pinned (OpenSpec.ofChange sessionOwnsSpec)

/-- ITS FALSE NEIGHBOUR: 'it returns false'. Refute it at one input. -/
def sessionOwnsWrong : ChangeSpec := { name := "sessionOwns", fn := fun _ => fun
  | [d1, d2, d3] => { results := [.lit (.bool false)], args := [d1, d2, d3] }
  | _ => none }
def SessionOwnsWrongFalsely : Prop := sessionOwnsRow.holds Try.pinned (OpenSpec.ofChange sessionOwnsWrong)

/- THE SECOND FORM. 'bulk': how many values and letters a reading holds, each counted each time it is reached (what is shared counts as often as it is met; a slice's spare places count too). A statement '..UptoSaid' is the law's where the arguments, and the package variables that the reading takes, are together of bulk at most 1048576: NARROWER than '..Said'. Prove '..Said' where nothing that the law and all that it calls make is longer than what came in: it says more and counts as full. Else prove '..UptoSaid'. A law counts once. -/
mutual
def uptoBulk {H : Type} : DataW H → Nat
  | .lit (.string bytes) => bytes.length + 1
  | .lit _ => 1
  | .nil => 1
  | .ptr d => uptoBulk d + 1
  | .slice elems spare => uptoBulkAll elems + uptoBulkAll spare + 1
  | .agg parts => uptoBulkAll parts + 1
  | .iface _ d => uptoBulk d + 1
  | .map entries => uptoBulkEntries entries + 1
  | .held _ => 1
def uptoBulkAll {H : Type} : List (DataW H) → Nat
  | [] => 0
  | d :: r => uptoBulk d + uptoBulkAll r
def uptoBulkEntries {H : Type} : List (Lit × DataW H) → Nat
  | [] => 0
  | x :: r => uptoBulkEntry x + uptoBulkEntries r
def uptoBulkEntry {H : Type} : Lit × DataW H → Nat
  | (.string bytes, d) => bytes.length + uptoBulk d + 1
  | (_, d) => uptoBulk d + 1
 end
def uptoSmall : (H : Type) → List (DataW H) → Bool := fun _ ds => decide (uptoBulkAll ds ≤ 1048576)
def OpenSpec.upto (s : _root_.Go.ChangeSpec) : _root_.Go.OpenSpec := { _root_.Go.OpenSpec.ofChange s with cond := some uptoSmall }

/-- 'pentaglotlaw54.SessionNew', WHERE WHAT IT READS IS OF BULK AT MOST 1048576: true; the input reads as it did. -/
def sessionNewUptoRow : OpenClaim := { program := "ytkblcdpmdbofgaa", sum := "1783647466ca1e1370f7e817fd6e848c472b0fb8e38d04ce4320fe1372993eb7", func := "pentaglot/pentaglotlaw54.SessionNew", spec := "sessionNew", recurses := true, apart := false, narrowed := true }
def SessionNewUptoSaid : Prop := sessionNewUptoRow.holds Try.pinned (OpenSpec.upto sessionNewSpec)

/-- 'pentaglotlaw54.SessionReady', WHERE WHAT IT READS IS OF BULK AT MOST 1048576: true; the input reads as it did. -/
def sessionReadyUptoRow : OpenClaim := { program := "ytkblcdpmdbofgaa", sum := "1783647466ca1e1370f7e817fd6e848c472b0fb8e38d04ce4320fe1372993eb7", func := "pentaglot/pentaglotlaw54.SessionReady", spec := "sessionReady", recurses := true, loops := true, apart := false, narrowed := true }
def SessionReadyUptoSaid : Prop := sessionReadyUptoRow.holds Try.pinned (OpenSpec.upto sessionReadySpec)

/-- 'pentaglotlaw54.SessionAmends', WHERE WHAT IT READS IS OF BULK AT MOST 1048576: true; the input reads as it did. -/
def sessionAmendsUptoRow : OpenClaim := { program := "ytkblcdpmdbofgaa", sum := "1783647466ca1e1370f7e817fd6e848c472b0fb8e38d04ce4320fe1372993eb7", func := "pentaglot/pentaglotlaw54.SessionAmends", spec := "sessionAmends", recurses := true, loops := true, apart := false, narrowed := true }
def SessionAmendsUptoSaid : Prop := sessionAmendsUptoRow.holds Try.pinned (OpenSpec.upto sessionAmendsSpec)

/-- 'pentaglotlaw54.SessionRuns', WHERE WHAT IT READS IS OF BULK AT MOST 1048576: true; the input reads as it did. -/
def sessionRunsUptoRow : OpenClaim := { program := "ytkblcdpmdbofgaa", sum := "1783647466ca1e1370f7e817fd6e848c472b0fb8e38d04ce4320fe1372993eb7", func := "pentaglot/pentaglotlaw54.SessionRuns", spec := "sessionRuns", recurses := true, loops := true, apart := false, narrowed := true }
def SessionRunsUptoSaid : Prop := sessionRunsUptoRow.holds Try.pinned (OpenSpec.upto sessionRunsSpec)

/-- 'pentaglotlaw54.SessionRefuses', WHERE WHAT IT READS IS OF BULK AT MOST 1048576: true; the input reads as it did. -/
def sessionRefusesUptoRow : OpenClaim := { program := "ytkblcdpmdbofgaa", sum := "1783647466ca1e1370f7e817fd6e848c472b0fb8e38d04ce4320fe1372993eb7", func := "pentaglot/pentaglotlaw54.SessionRefuses", spec := "sessionRefuses", recurses := true, loops := true, apart := false, narrowed := true }
def SessionRefusesUptoSaid : Prop := sessionRefusesUptoRow.holds Try.pinned (OpenSpec.upto sessionRefusesSpec)

/-- 'pentaglotlaw54.SessionCloses', WHERE WHAT IT READS IS OF BULK AT MOST 1048576: true; the input reads as it did. -/
def sessionClosesUptoRow : OpenClaim := { program := "ytkblcdpmdbofgaa", sum := "1783647466ca1e1370f7e817fd6e848c472b0fb8e38d04ce4320fe1372993eb7", func := "pentaglot/pentaglotlaw54.SessionCloses", spec := "sessionCloses", recurses := true, loops := true, apart := false, narrowed := true }
def SessionClosesUptoSaid : Prop := sessionClosesUptoRow.holds Try.pinned (OpenSpec.upto sessionClosesSpec)

/-- 'pentaglotlaw54.SessionOwns', WHERE WHAT IT READS IS OF BULK AT MOST 1048576: true; the input reads as it did. -/
def sessionOwnsUptoRow : OpenClaim := { program := "ytkblcdpmdbofgaa", sum := "1783647466ca1e1370f7e817fd6e848c472b0fb8e38d04ce4320fe1372993eb7", func := "pentaglot/pentaglotlaw54.SessionOwns", spec := "sessionOwns", recurses := true, loops := true, apart := false, narrowed := true }
def SessionOwnsUptoSaid : Prop := sessionOwnsUptoRow.holds Try.pinned (OpenSpec.upto sessionOwnsSpec)

end Rows
end Go.Proofs.Ytkblcdpmdbofgaa
