/-
  DERIVED. GIVEN WITH THE SEED: THE CARDS: each row of YtcfjomnihhdpaaaGreatDoorRows.lean that lists a variable, with what it lists TIED to the program's text (the seventh form; the later family's looks); each row that meets fmt, with fmt's text TOLD by the authors' own Lean function (tested against real Go, not proved from fmt's source: count such statements apart). THE CARD IS WHAT COUNTS. Prove the row's statement (the work); the ties are given (YtcfjomnihhdpaaaGreatDoorTie.lean); close each card by the builder's one call (the guide's Derived/Test/ToyasCard.lean, 'card_holds'). Laid BY PROGRAM, IN A SANDBOX (cutbox-door.mjs). By AI agents, Wed Nov 11 2026. No macro, syntax, notation, axiom, sorry.
-/
import Derived.Test.YtcfjomnihhdpaaaGreatDoorRows
import GoSem.ClaimSeven
namespace Go.Proofs.YtcfjomnihhdpaaaGreatDoor
namespace Rows

/-- THE TIED CARD OF 'pentaglotlaw32.SemanticsNoun'. -/
def semanticsNounCard : Claim7 := { stood := { row := semanticsNounRow, standIns := [], harness := (true, "7aac2e93d68a2f5ac31eb4297455f9afe18c3d87f3739aab8b8068d544aa4233"), looks := true }, kinds := [], alts := [], laidByText := true, laidKinds := [.data, .data, .data, .data, .pinned, .pinned, .pinned, .pinned, .pinned, .pinned], laidTests := true, laidLooks := .later }
def SemanticsNounCardSaid : Prop := Claim7.holds Tryz.pinned (.plain (OpenSpec.ofChange semanticsNounSpec)) semanticsNounCard

/-- THE TIED CARD OF 'pentaglotlaw32.SemanticsSubject'. -/
def semanticsSubjectCard : Claim7 := { stood := { row := semanticsSubjectRow, standIns := [], harness := (true, "7aac2e93d68a2f5ac31eb4297455f9afe18c3d87f3739aab8b8068d544aa4233"), looks := true }, kinds := [], alts := [], laidByText := true, laidKinds := [.data, .data, .data, .data, .pinned, .pinned, .pinned, .pinned, .pinned, .pinned], laidTests := true, laidLooks := .later }
def SemanticsSubjectCardSaid : Prop := Claim7.holds Tryz.pinned (.plain (OpenSpec.ofChange semanticsSubjectSpec)) semanticsSubjectCard

/-- THE TIED CARD OF 'pentaglotlaw32.SemanticsReplaced'. -/
def semanticsReplacedCard : Claim7 := { stood := { row := semanticsReplacedRow, standIns := [], harness := (true, "7aac2e93d68a2f5ac31eb4297455f9afe18c3d87f3739aab8b8068d544aa4233"), looks := true }, kinds := [], alts := [], laidByText := true, laidKinds := [.data, .data, .data, .data, .pinned, .pinned, .pinned, .pinned, .pinned, .pinned], laidTests := true, laidLooks := .later }
def SemanticsReplacedCardSaid : Prop := Claim7.holds Tryz.pinned (.plain (OpenSpec.ofChange semanticsReplacedSpec)) semanticsReplacedCard

/-- THE TIED CARD OF 'pentaglotlaw32.SemanticsSentence'. -/
def semanticsSentenceCard : Claim7 := { stood := { row := semanticsSentenceRow, standIns := [], harness := (true, "7aac2e93d68a2f5ac31eb4297455f9afe18c3d87f3739aab8b8068d544aa4233"), looks := true }, kinds := [], alts := [], laidByText := true, laidKinds := [.data, .data, .data, .data, .pinned, .pinned, .pinned, .pinned, .pinned, .pinned], laidTests := true, laidLooks := .later }
def SemanticsSentenceCardSaid : Prop := Claim7.holds Tryz.pinned (.plain (OpenSpec.ofChange semanticsSentenceSpec)) semanticsSentenceCard

/-- THE TIED CARD OF 'pentaglotlaw32.SemanticsNotice'. -/
def semanticsNoticeCard : Claim7 := { stood := { row := semanticsNoticeRow, standIns := [], harness := (true, "7aac2e93d68a2f5ac31eb4297455f9afe18c3d87f3739aab8b8068d544aa4233"), looks := true }, kinds := [], alts := [], laidByText := true, laidKinds := [.data, .data, .data, .data, .pinned, .pinned, .pinned, .pinned, .pinned, .pinned], laidTests := true, laidLooks := .later }
def SemanticsNoticeCardSaid : Prop := Claim7.holds Tryz.pinned (.plain (OpenSpec.ofChange semanticsNoticeSpec)) semanticsNoticeCard

/-- THE TIED CARD OF 'pentaglotlaw32.SemanticsComposed'. -/
def semanticsComposedCard : Claim7 := { stood := { row := semanticsComposedRow, standIns := [], harness := (true, "7aac2e93d68a2f5ac31eb4297455f9afe18c3d87f3739aab8b8068d544aa4233"), looks := true }, kinds := [], alts := [], laidByText := true, laidKinds := [.data, .data, .data, .data, .pinned, .pinned, .pinned, .pinned, .pinned, .pinned], laidTests := true, laidLooks := .later }
def SemanticsComposedCardSaid : Prop := Claim7.holds Tryz.pinned (.plain (OpenSpec.ofChange semanticsComposedSpec)) semanticsComposedCard

/-- THE TIED CARD OF 'pentaglotlaw32.SemanticsBoth'. -/
def semanticsBothCard : Claim7 := { stood := { row := semanticsBothRow, standIns := [], harness := (true, "7aac2e93d68a2f5ac31eb4297455f9afe18c3d87f3739aab8b8068d544aa4233"), looks := true }, kinds := [], alts := [], laidByText := true, laidKinds := [.data, .data, .data, .data, .pinned, .pinned, .pinned, .pinned, .pinned, .pinned], laidTests := true, laidLooks := .later }
def SemanticsBothCardSaid : Prop := Claim7.holds Tryz.pinned (.plain (OpenSpec.ofChange semanticsBothSpec)) semanticsBothCard

/-- THE TIED CARD OF 'pentaglotlaw32.SemanticsNouns'. -/
def semanticsNounsCard : Claim7 := { stood := { row := semanticsNounsRow, standIns := [], harness := (true, "7aac2e93d68a2f5ac31eb4297455f9afe18c3d87f3739aab8b8068d544aa4233"), looks := true }, kinds := [], alts := [], laidByText := true, laidKinds := [.data, .data, .data, .data, .pinned, .pinned, .pinned, .pinned, .pinned, .pinned], laidTests := true, laidLooks := .later }
def SemanticsNounsCardSaid : Prop := Claim7.holds Tryz.pinned (.plain (OpenSpec.ofChange semanticsNounsSpec)) semanticsNounsCard

/-- THE TIED CARD OF 'pentaglotlaw32.SemanticsScope'. -/
def semanticsScopeCard : Claim7 := { stood := { row := semanticsScopeRow, standIns := [], harness := (true, "7aac2e93d68a2f5ac31eb4297455f9afe18c3d87f3739aab8b8068d544aa4233"), looks := true }, kinds := [], alts := [], laidByText := true, laidKinds := [.data, .data, .data, .data, .pinned, .pinned, .pinned, .pinned, .pinned, .pinned], laidTests := true, laidLooks := .later }
def SemanticsScopeCardSaid : Prop := Claim7.holds Tryz.pinned (.plain (OpenSpec.ofChange semanticsScopeSpec)) semanticsScopeCard

/-- THE TIED CARD OF 'pentaglotlaw32.SemanticsSorted'. -/
def semanticsSortedCard : Claim7 := { stood := { row := semanticsSortedRow, standIns := [], harness := (true, "7aac2e93d68a2f5ac31eb4297455f9afe18c3d87f3739aab8b8068d544aa4233"), looks := true }, kinds := [], alts := [], laidByText := true, laidKinds := [.data, .data, .data, .data, .pinned, .pinned, .pinned, .pinned, .pinned, .pinned], laidTests := true, laidLooks := .later }
def SemanticsSortedCardSaid : Prop := Claim7.holds Tryz.pinned (.plain (OpenSpec.ofChange semanticsSortedSpec)) semanticsSortedCard

/-- THE SECOND FORM's CARD OF 'pentaglotlaw32.SemanticsNoun'. -/
def semanticsNounUptoCard : Claim7 := { stood := { row := semanticsNounUptoRow, standIns := [], harness := (true, "7aac2e93d68a2f5ac31eb4297455f9afe18c3d87f3739aab8b8068d544aa4233"), looks := true }, kinds := [], alts := [], laidByText := true, laidKinds := [.data, .data, .data, .data, .pinned, .pinned, .pinned, .pinned, .pinned, .pinned], laidTests := true, laidLooks := .later }
def SemanticsNounUptoCardSaid : Prop := Claim7.holds Tryz.pinned (.plain (OpenSpec.upto semanticsNounSpec)) semanticsNounUptoCard

/-- THE SECOND FORM's CARD OF 'pentaglotlaw32.SemanticsSubject'. -/
def semanticsSubjectUptoCard : Claim7 := { stood := { row := semanticsSubjectUptoRow, standIns := [], harness := (true, "7aac2e93d68a2f5ac31eb4297455f9afe18c3d87f3739aab8b8068d544aa4233"), looks := true }, kinds := [], alts := [], laidByText := true, laidKinds := [.data, .data, .data, .data, .pinned, .pinned, .pinned, .pinned, .pinned, .pinned], laidTests := true, laidLooks := .later }
def SemanticsSubjectUptoCardSaid : Prop := Claim7.holds Tryz.pinned (.plain (OpenSpec.upto semanticsSubjectSpec)) semanticsSubjectUptoCard

/-- THE SECOND FORM's CARD OF 'pentaglotlaw32.SemanticsReplaced'. -/
def semanticsReplacedUptoCard : Claim7 := { stood := { row := semanticsReplacedUptoRow, standIns := [], harness := (true, "7aac2e93d68a2f5ac31eb4297455f9afe18c3d87f3739aab8b8068d544aa4233"), looks := true }, kinds := [], alts := [], laidByText := true, laidKinds := [.data, .data, .data, .data, .pinned, .pinned, .pinned, .pinned, .pinned, .pinned], laidTests := true, laidLooks := .later }
def SemanticsReplacedUptoCardSaid : Prop := Claim7.holds Tryz.pinned (.plain (OpenSpec.upto semanticsReplacedSpec)) semanticsReplacedUptoCard

/-- THE SECOND FORM's CARD OF 'pentaglotlaw32.SemanticsSentence'. -/
def semanticsSentenceUptoCard : Claim7 := { stood := { row := semanticsSentenceUptoRow, standIns := [], harness := (true, "7aac2e93d68a2f5ac31eb4297455f9afe18c3d87f3739aab8b8068d544aa4233"), looks := true }, kinds := [], alts := [], laidByText := true, laidKinds := [.data, .data, .data, .data, .pinned, .pinned, .pinned, .pinned, .pinned, .pinned], laidTests := true, laidLooks := .later }
def SemanticsSentenceUptoCardSaid : Prop := Claim7.holds Tryz.pinned (.plain (OpenSpec.upto semanticsSentenceSpec)) semanticsSentenceUptoCard

/-- THE SECOND FORM's CARD OF 'pentaglotlaw32.SemanticsNotice'. -/
def semanticsNoticeUptoCard : Claim7 := { stood := { row := semanticsNoticeUptoRow, standIns := [], harness := (true, "7aac2e93d68a2f5ac31eb4297455f9afe18c3d87f3739aab8b8068d544aa4233"), looks := true }, kinds := [], alts := [], laidByText := true, laidKinds := [.data, .data, .data, .data, .pinned, .pinned, .pinned, .pinned, .pinned, .pinned], laidTests := true, laidLooks := .later }
def SemanticsNoticeUptoCardSaid : Prop := Claim7.holds Tryz.pinned (.plain (OpenSpec.upto semanticsNoticeSpec)) semanticsNoticeUptoCard

/-- THE SECOND FORM's CARD OF 'pentaglotlaw32.SemanticsComposed'. -/
def semanticsComposedUptoCard : Claim7 := { stood := { row := semanticsComposedUptoRow, standIns := [], harness := (true, "7aac2e93d68a2f5ac31eb4297455f9afe18c3d87f3739aab8b8068d544aa4233"), looks := true }, kinds := [], alts := [], laidByText := true, laidKinds := [.data, .data, .data, .data, .pinned, .pinned, .pinned, .pinned, .pinned, .pinned], laidTests := true, laidLooks := .later }
def SemanticsComposedUptoCardSaid : Prop := Claim7.holds Tryz.pinned (.plain (OpenSpec.upto semanticsComposedSpec)) semanticsComposedUptoCard

/-- THE SECOND FORM's CARD OF 'pentaglotlaw32.SemanticsBoth'. -/
def semanticsBothUptoCard : Claim7 := { stood := { row := semanticsBothUptoRow, standIns := [], harness := (true, "7aac2e93d68a2f5ac31eb4297455f9afe18c3d87f3739aab8b8068d544aa4233"), looks := true }, kinds := [], alts := [], laidByText := true, laidKinds := [.data, .data, .data, .data, .pinned, .pinned, .pinned, .pinned, .pinned, .pinned], laidTests := true, laidLooks := .later }
def SemanticsBothUptoCardSaid : Prop := Claim7.holds Tryz.pinned (.plain (OpenSpec.upto semanticsBothSpec)) semanticsBothUptoCard

/-- THE SECOND FORM's CARD OF 'pentaglotlaw32.SemanticsNouns'. -/
def semanticsNounsUptoCard : Claim7 := { stood := { row := semanticsNounsUptoRow, standIns := [], harness := (true, "7aac2e93d68a2f5ac31eb4297455f9afe18c3d87f3739aab8b8068d544aa4233"), looks := true }, kinds := [], alts := [], laidByText := true, laidKinds := [.data, .data, .data, .data, .pinned, .pinned, .pinned, .pinned, .pinned, .pinned], laidTests := true, laidLooks := .later }
def SemanticsNounsUptoCardSaid : Prop := Claim7.holds Tryz.pinned (.plain (OpenSpec.upto semanticsNounsSpec)) semanticsNounsUptoCard

/-- THE SECOND FORM's CARD OF 'pentaglotlaw32.SemanticsScope'. -/
def semanticsScopeUptoCard : Claim7 := { stood := { row := semanticsScopeUptoRow, standIns := [], harness := (true, "7aac2e93d68a2f5ac31eb4297455f9afe18c3d87f3739aab8b8068d544aa4233"), looks := true }, kinds := [], alts := [], laidByText := true, laidKinds := [.data, .data, .data, .data, .pinned, .pinned, .pinned, .pinned, .pinned, .pinned], laidTests := true, laidLooks := .later }
def SemanticsScopeUptoCardSaid : Prop := Claim7.holds Tryz.pinned (.plain (OpenSpec.upto semanticsScopeSpec)) semanticsScopeUptoCard

/-- THE SECOND FORM's CARD OF 'pentaglotlaw32.SemanticsSorted'. -/
def semanticsSortedUptoCard : Claim7 := { stood := { row := semanticsSortedUptoRow, standIns := [], harness := (true, "7aac2e93d68a2f5ac31eb4297455f9afe18c3d87f3739aab8b8068d544aa4233"), looks := true }, kinds := [], alts := [], laidByText := true, laidKinds := [.data, .data, .data, .data, .pinned, .pinned, .pinned, .pinned, .pinned, .pinned], laidTests := true, laidLooks := .later }
def SemanticsSortedUptoCardSaid : Prop := Claim7.holds Tryz.pinned (.plain (OpenSpec.upto semanticsSortedSpec)) semanticsSortedUptoCard
end Rows
end Go.Proofs.YtcfjomnihhdpaaaGreatDoor
