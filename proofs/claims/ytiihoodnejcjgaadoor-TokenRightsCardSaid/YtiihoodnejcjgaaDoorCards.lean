/-
  DERIVED. GIVEN WITH THE SEED: THE CARDS: each row of YtiihoodnejcjgaaDoorRows.lean that lists a variable, with what it lists TIED to the program's text (the seventh form; the later family's looks); each row that meets fmt, with fmt's text TOLD by the authors' own Lean function (tested against real Go, not proved from fmt's source: count such statements apart). THE CARD IS WHAT COUNTS. Prove the row's statement (the work); the ties are given (YtiihoodnejcjgaaDoorTie.lean); close each card by the builder's one call (the guide's Derived/Test/ToyasCard.lean, 'card_holds'). Laid BY PROGRAM, IN A SANDBOX (cutbox-door.mjs). By AI agents, Wed Nov 11 2026. No macro, syntax, notation, axiom, sorry.
-/
import Derived.Test.YtiihoodnejcjgaaDoorRows
import GoSem.ClaimSeven
namespace Go.Proofs.YtiihoodnejcjgaaDoor
namespace Rows

/-- THE TIED CARD OF 'rubricklaw04.UtfDecodes'. -/
def utfDecodesCard : Claim7 := { stood := { row := utfDecodesRow, standIns := [], harness := (true, "fd09e95c885d2ba3625993fff9a150575ba6a8fd6c3c5778bada2bd5c3ee541d"), looks := false }, kinds := [], alts := [], laidByText := true, laidKinds := [.data], laidTests := true, laidLooks := .later }
def UtfDecodesCardSaid : Prop := Claim7.holds Tryd.pinned (.plain (OpenSpec.ofChange utfDecodesSpec)) utfDecodesCard

/-- THE TIED CARD OF 'rubricklaw04.UtfClasses'. -/
def utfClassesCard : Claim7 := { stood := { row := utfClassesRow, standIns := [], harness := (true, "fd09e95c885d2ba3625993fff9a150575ba6a8fd6c3c5778bada2bd5c3ee541d"), looks := false }, kinds := [], alts := [], laidByText := true, laidKinds := [.data], laidTests := true, laidLooks := .later }
def UtfClassesCardSaid : Prop := Claim7.holds Tryd.pinned (.plain (OpenSpec.ofChange utfClassesSpec)) utfClassesCard

/-- THE TIED CARD OF 'rubricklaw04.UtfSmall'. -/
def utfSmallCard : Claim7 := { stood := { row := utfSmallRow, standIns := [], harness := (true, "fd09e95c885d2ba3625993fff9a150575ba6a8fd6c3c5778bada2bd5c3ee541d"), looks := false }, kinds := [], alts := [], laidByText := true, laidKinds := [.data], laidTests := true, laidLooks := .later }
def UtfSmallCardSaid : Prop := Claim7.holds Tryd.pinned (.plain (OpenSpec.ofChange utfSmallSpec)) utfSmallCard

/-- THE TIED CARD OF 'rubricklaw04.UtfRows'. -/
def utfRowsCard : Claim7 := { stood := { row := utfRowsRow, standIns := [], harness := (true, "fd09e95c885d2ba3625993fff9a150575ba6a8fd6c3c5778bada2bd5c3ee541d"), looks := false }, kinds := [], alts := [], laidByText := true, laidKinds := [.data], laidTests := true, laidLooks := .later }
def UtfRowsCardSaid : Prop := Claim7.holds Tryd.pinned (.plain (OpenSpec.ofChange utfRowsSpec)) utfRowsCard

/-- THE TIED CARD OF 'rubricklaw04.UtfEncodes'. -/
def utfEncodesCard : Claim7 := { stood := { row := utfEncodesRow, standIns := [], harness := (true, "fd09e95c885d2ba3625993fff9a150575ba6a8fd6c3c5778bada2bd5c3ee541d"), looks := false }, kinds := [], alts := [], laidByText := true, laidKinds := [.data], laidTests := true, laidLooks := .later }
def UtfEncodesCardSaid : Prop := Claim7.holds Tryd.pinned (.plain (OpenSpec.ofChange utfEncodesSpec)) utfEncodesCard

/-- THE TIED CARD OF 'rubricklaw04.UtfBack'. -/
def utfBackCard : Claim7 := { stood := { row := utfBackRow, standIns := [], harness := (true, "fd09e95c885d2ba3625993fff9a150575ba6a8fd6c3c5778bada2bd5c3ee541d"), looks := false }, kinds := [], alts := [], laidByText := true, laidKinds := [.data], laidTests := true, laidLooks := .later }
def UtfBackCardSaid : Prop := Claim7.holds Tryd.pinned (.plain (OpenSpec.ofChange utfBackSpec)) utfBackCard

/-- THE TIED CARD OF 'rubricklaw04.UtfOnly'. -/
def utfOnlyCard : Claim7 := { stood := { row := utfOnlyRow, standIns := [], harness := (true, "fd09e95c885d2ba3625993fff9a150575ba6a8fd6c3c5778bada2bd5c3ee541d"), looks := false }, kinds := [], alts := [], laidByText := true, laidKinds := [.data], laidTests := true, laidLooks := .later }
def UtfOnlyCardSaid : Prop := Claim7.holds Tryd.pinned (.plain (OpenSpec.ofChange utfOnlySpec)) utfOnlyCard

/-- THE TIED CARD OF 'rubricklaw05.TokenCuts'. -/
def tokenCutsCard : Claim7 := { stood := { row := tokenCutsRow, standIns := [], harness := (true, "fd09e95c885d2ba3625993fff9a150575ba6a8fd6c3c5778bada2bd5c3ee541d"), looks := false }, kinds := [], alts := [], laidByText := true, laidKinds := [.data], laidTests := true, laidLooks := .later }
def TokenCutsCardSaid : Prop := Claim7.holds Tryd.pinned (.plain (OpenSpec.ofChange tokenCutsSpec)) tokenCutsCard

/-- THE TIED CARD OF 'rubricklaw05.TokenPlaces'. -/
def tokenPlacesCard : Claim7 := { stood := { row := tokenPlacesRow, standIns := [], harness := (true, "fd09e95c885d2ba3625993fff9a150575ba6a8fd6c3c5778bada2bd5c3ee541d"), looks := false }, kinds := [], alts := [], laidByText := true, laidKinds := [.data], laidTests := true, laidLooks := .later }
def TokenPlacesCardSaid : Prop := Claim7.holds Tryd.pinned (.plain (OpenSpec.ofChange tokenPlacesSpec)) tokenPlacesCard

/-- THE TIED CARD OF 'rubricklaw05.TokenRights'. -/
def tokenRightsCard : Claim7 := { stood := { row := tokenRightsRow, standIns := [], harness := (true, "fd09e95c885d2ba3625993fff9a150575ba6a8fd6c3c5778bada2bd5c3ee541d"), looks := false }, kinds := [], alts := [], laidByText := true, laidKinds := [.data], laidTests := true, laidLooks := .later }
def TokenRightsCardSaid : Prop := Claim7.holds Tryd.pinned (.plain (OpenSpec.ofChange tokenRightsSpec)) tokenRightsCard

/-- THE TIED CARD OF 'rubricklaw05.TokenRows'. -/
def tokenRowsCard : Claim7 := { stood := { row := tokenRowsRow, standIns := [], harness := (true, "fd09e95c885d2ba3625993fff9a150575ba6a8fd6c3c5778bada2bd5c3ee541d"), looks := false }, kinds := [], alts := [], laidByText := true, laidKinds := [.data], laidTests := true, laidLooks := .later }
def TokenRowsCardSaid : Prop := Claim7.holds Tryd.pinned (.plain (OpenSpec.ofChange tokenRowsSpec)) tokenRowsCard

/-- THE TIED CARD OF 'rubricklaw05.TokenSets'. -/
def tokenSetsCard : Claim7 := { stood := { row := tokenSetsRow, standIns := [], harness := (true, "fd09e95c885d2ba3625993fff9a150575ba6a8fd6c3c5778bada2bd5c3ee541d"), looks := false }, kinds := [], alts := [], laidByText := true, laidKinds := [.data], laidTests := true, laidLooks := .later }
def TokenSetsCardSaid : Prop := Claim7.holds Tryd.pinned (.plain (OpenSpec.ofChange tokenSetsSpec)) tokenSetsCard

/-- THE TIED CARD OF 'rubricklaw05.TokenCase'. -/
def tokenCaseCard : Claim7 := { stood := { row := tokenCaseRow, standIns := [], harness := (true, "fd09e95c885d2ba3625993fff9a150575ba6a8fd6c3c5778bada2bd5c3ee541d"), looks := false }, kinds := [], alts := [], laidByText := true, laidKinds := [.data], laidTests := true, laidLooks := .later }
def TokenCaseCardSaid : Prop := Claim7.holds Tryd.pinned (.plain (OpenSpec.ofChange tokenCaseSpec)) tokenCaseCard

/-- THE TIED CARD OF 'rubricklaw13.MergeOne'. -/
def mergeOneCard : Claim7 := { stood := { row := mergeOneRow, standIns := [], harness := (true, "fd09e95c885d2ba3625993fff9a150575ba6a8fd6c3c5778bada2bd5c3ee541d"), looks := false }, kinds := [], alts := [], laidByText := true, laidKinds := [.data], laidTests := true, laidLooks := .later }
def MergeOneCardSaid : Prop := Claim7.holds Tryd.pinned (.plain (OpenSpec.ofChange mergeOneSpec)) mergeOneCard

/-- THE TIED CARD OF 'rubricklaw13.MergeBuilds'. -/
def mergeBuildsCard : Claim7 := { stood := { row := mergeBuildsRow, standIns := [], harness := (true, "fd09e95c885d2ba3625993fff9a150575ba6a8fd6c3c5778bada2bd5c3ee541d"), looks := false }, kinds := [], alts := [], laidByText := true, laidKinds := [.data], laidTests := true, laidLooks := .later }
def MergeBuildsCardSaid : Prop := Claim7.holds Tryd.pinned (.plain (OpenSpec.ofChange mergeBuildsSpec)) mergeBuildsCard

/-- THE TIED CARD OF 'rubricklaw13.MergeSteps'. -/
def mergeStepsCard : Claim7 := { stood := { row := mergeStepsRow, standIns := [], harness := (true, "fd09e95c885d2ba3625993fff9a150575ba6a8fd6c3c5778bada2bd5c3ee541d"), looks := false }, kinds := [], alts := [], laidByText := true, laidKinds := [.data], laidTests := true, laidLooks := .later }
def MergeStepsCardSaid : Prop := Claim7.holds Tryd.pinned (.plain (OpenSpec.ofChange mergeStepsSpec)) mergeStepsCard

/-- THE TIED CARD OF 'rubricklaw17.EvalRuns'. -/
def evalRunsCard : Claim7 := { stood := { row := evalRunsRow, standIns := [], harness := (true, "fd09e95c885d2ba3625993fff9a150575ba6a8fd6c3c5778bada2bd5c3ee541d"), looks := false }, kinds := [], alts := [], laidByText := true, laidKinds := [.data], laidTests := true, laidLooks := .later }
def EvalRunsCardSaid : Prop := Claim7.holds Tryd.pinned (.plain (OpenSpec.ofChange evalRunsSpec)) evalRunsCard

/-- THE TIED CARD OF 'rubricklaw17.EvalParts'. -/
def evalPartsCard : Claim7 := { stood := { row := evalPartsRow, standIns := [], harness := (true, "fd09e95c885d2ba3625993fff9a150575ba6a8fd6c3c5778bada2bd5c3ee541d"), looks := false }, kinds := [], alts := [], laidByText := true, laidKinds := [.data], laidTests := true, laidLooks := .later }
def EvalPartsCardSaid : Prop := Claim7.holds Tryd.pinned (.plain (OpenSpec.ofChange evalPartsSpec)) evalPartsCard

/-- THE TIED CARD OF 'rubricklaw17.EvalBounds'. -/
def evalBoundsCard : Claim7 := { stood := { row := evalBoundsRow, standIns := [], harness := (true, "fd09e95c885d2ba3625993fff9a150575ba6a8fd6c3c5778bada2bd5c3ee541d"), looks := false }, kinds := [], alts := [], laidByText := true, laidKinds := [.data], laidTests := true, laidLooks := .later }
def EvalBoundsCardSaid : Prop := Claim7.holds Tryd.pinned (.plain (OpenSpec.ofChange evalBoundsSpec)) evalBoundsCard

/-- THE TIED CARD OF 'rubricklaw17.EvalSwap'. -/
def evalSwapCard : Claim7 := { stood := { row := evalSwapRow, standIns := [], harness := (true, "fd09e95c885d2ba3625993fff9a150575ba6a8fd6c3c5778bada2bd5c3ee541d"), looks := false }, kinds := [], alts := [], laidByText := true, laidKinds := [.data], laidTests := true, laidLooks := .later }
def EvalSwapCardSaid : Prop := Claim7.holds Tryd.pinned (.plain (OpenSpec.ofChange evalSwapSpec)) evalSwapCard

/-- THE SECOND FORM's CARD OF 'rubricklaw04.UtfDecodes'. -/
def utfDecodesUptoCard : Claim7 := { stood := { row := utfDecodesUptoRow, standIns := [], harness := (true, "fd09e95c885d2ba3625993fff9a150575ba6a8fd6c3c5778bada2bd5c3ee541d"), looks := false }, kinds := [], alts := [], laidByText := true, laidKinds := [.data], laidTests := true, laidLooks := .later }
def UtfDecodesUptoCardSaid : Prop := Claim7.holds Tryd.pinned (.plain (OpenSpec.upto utfDecodesSpec)) utfDecodesUptoCard

/-- THE SECOND FORM's CARD OF 'rubricklaw04.UtfClasses'. -/
def utfClassesUptoCard : Claim7 := { stood := { row := utfClassesUptoRow, standIns := [], harness := (true, "fd09e95c885d2ba3625993fff9a150575ba6a8fd6c3c5778bada2bd5c3ee541d"), looks := false }, kinds := [], alts := [], laidByText := true, laidKinds := [.data], laidTests := true, laidLooks := .later }
def UtfClassesUptoCardSaid : Prop := Claim7.holds Tryd.pinned (.plain (OpenSpec.upto utfClassesSpec)) utfClassesUptoCard

/-- THE SECOND FORM's CARD OF 'rubricklaw04.UtfSmall'. -/
def utfSmallUptoCard : Claim7 := { stood := { row := utfSmallUptoRow, standIns := [], harness := (true, "fd09e95c885d2ba3625993fff9a150575ba6a8fd6c3c5778bada2bd5c3ee541d"), looks := false }, kinds := [], alts := [], laidByText := true, laidKinds := [.data], laidTests := true, laidLooks := .later }
def UtfSmallUptoCardSaid : Prop := Claim7.holds Tryd.pinned (.plain (OpenSpec.upto utfSmallSpec)) utfSmallUptoCard

/-- THE SECOND FORM's CARD OF 'rubricklaw04.UtfRows'. -/
def utfRowsUptoCard : Claim7 := { stood := { row := utfRowsUptoRow, standIns := [], harness := (true, "fd09e95c885d2ba3625993fff9a150575ba6a8fd6c3c5778bada2bd5c3ee541d"), looks := false }, kinds := [], alts := [], laidByText := true, laidKinds := [.data], laidTests := true, laidLooks := .later }
def UtfRowsUptoCardSaid : Prop := Claim7.holds Tryd.pinned (.plain (OpenSpec.upto utfRowsSpec)) utfRowsUptoCard

/-- THE SECOND FORM's CARD OF 'rubricklaw04.UtfEncodes'. -/
def utfEncodesUptoCard : Claim7 := { stood := { row := utfEncodesUptoRow, standIns := [], harness := (true, "fd09e95c885d2ba3625993fff9a150575ba6a8fd6c3c5778bada2bd5c3ee541d"), looks := false }, kinds := [], alts := [], laidByText := true, laidKinds := [.data], laidTests := true, laidLooks := .later }
def UtfEncodesUptoCardSaid : Prop := Claim7.holds Tryd.pinned (.plain (OpenSpec.upto utfEncodesSpec)) utfEncodesUptoCard

/-- THE SECOND FORM's CARD OF 'rubricklaw04.UtfBack'. -/
def utfBackUptoCard : Claim7 := { stood := { row := utfBackUptoRow, standIns := [], harness := (true, "fd09e95c885d2ba3625993fff9a150575ba6a8fd6c3c5778bada2bd5c3ee541d"), looks := false }, kinds := [], alts := [], laidByText := true, laidKinds := [.data], laidTests := true, laidLooks := .later }
def UtfBackUptoCardSaid : Prop := Claim7.holds Tryd.pinned (.plain (OpenSpec.upto utfBackSpec)) utfBackUptoCard

/-- THE SECOND FORM's CARD OF 'rubricklaw04.UtfOnly'. -/
def utfOnlyUptoCard : Claim7 := { stood := { row := utfOnlyUptoRow, standIns := [], harness := (true, "fd09e95c885d2ba3625993fff9a150575ba6a8fd6c3c5778bada2bd5c3ee541d"), looks := false }, kinds := [], alts := [], laidByText := true, laidKinds := [.data], laidTests := true, laidLooks := .later }
def UtfOnlyUptoCardSaid : Prop := Claim7.holds Tryd.pinned (.plain (OpenSpec.upto utfOnlySpec)) utfOnlyUptoCard

/-- THE SECOND FORM's CARD OF 'rubricklaw05.TokenCuts'. -/
def tokenCutsUptoCard : Claim7 := { stood := { row := tokenCutsUptoRow, standIns := [], harness := (true, "fd09e95c885d2ba3625993fff9a150575ba6a8fd6c3c5778bada2bd5c3ee541d"), looks := false }, kinds := [], alts := [], laidByText := true, laidKinds := [.data], laidTests := true, laidLooks := .later }
def TokenCutsUptoCardSaid : Prop := Claim7.holds Tryd.pinned (.plain (OpenSpec.upto tokenCutsSpec)) tokenCutsUptoCard

/-- THE SECOND FORM's CARD OF 'rubricklaw05.TokenPlaces'. -/
def tokenPlacesUptoCard : Claim7 := { stood := { row := tokenPlacesUptoRow, standIns := [], harness := (true, "fd09e95c885d2ba3625993fff9a150575ba6a8fd6c3c5778bada2bd5c3ee541d"), looks := false }, kinds := [], alts := [], laidByText := true, laidKinds := [.data], laidTests := true, laidLooks := .later }
def TokenPlacesUptoCardSaid : Prop := Claim7.holds Tryd.pinned (.plain (OpenSpec.upto tokenPlacesSpec)) tokenPlacesUptoCard

/-- THE SECOND FORM's CARD OF 'rubricklaw05.TokenRights'. -/
def tokenRightsUptoCard : Claim7 := { stood := { row := tokenRightsUptoRow, standIns := [], harness := (true, "fd09e95c885d2ba3625993fff9a150575ba6a8fd6c3c5778bada2bd5c3ee541d"), looks := false }, kinds := [], alts := [], laidByText := true, laidKinds := [.data], laidTests := true, laidLooks := .later }
def TokenRightsUptoCardSaid : Prop := Claim7.holds Tryd.pinned (.plain (OpenSpec.upto tokenRightsSpec)) tokenRightsUptoCard

/-- THE SECOND FORM's CARD OF 'rubricklaw05.TokenRows'. -/
def tokenRowsUptoCard : Claim7 := { stood := { row := tokenRowsUptoRow, standIns := [], harness := (true, "fd09e95c885d2ba3625993fff9a150575ba6a8fd6c3c5778bada2bd5c3ee541d"), looks := false }, kinds := [], alts := [], laidByText := true, laidKinds := [.data], laidTests := true, laidLooks := .later }
def TokenRowsUptoCardSaid : Prop := Claim7.holds Tryd.pinned (.plain (OpenSpec.upto tokenRowsSpec)) tokenRowsUptoCard

/-- THE SECOND FORM's CARD OF 'rubricklaw05.TokenSets'. -/
def tokenSetsUptoCard : Claim7 := { stood := { row := tokenSetsUptoRow, standIns := [], harness := (true, "fd09e95c885d2ba3625993fff9a150575ba6a8fd6c3c5778bada2bd5c3ee541d"), looks := false }, kinds := [], alts := [], laidByText := true, laidKinds := [.data], laidTests := true, laidLooks := .later }
def TokenSetsUptoCardSaid : Prop := Claim7.holds Tryd.pinned (.plain (OpenSpec.upto tokenSetsSpec)) tokenSetsUptoCard

/-- THE SECOND FORM's CARD OF 'rubricklaw05.TokenCase'. -/
def tokenCaseUptoCard : Claim7 := { stood := { row := tokenCaseUptoRow, standIns := [], harness := (true, "fd09e95c885d2ba3625993fff9a150575ba6a8fd6c3c5778bada2bd5c3ee541d"), looks := false }, kinds := [], alts := [], laidByText := true, laidKinds := [.data], laidTests := true, laidLooks := .later }
def TokenCaseUptoCardSaid : Prop := Claim7.holds Tryd.pinned (.plain (OpenSpec.upto tokenCaseSpec)) tokenCaseUptoCard

/-- THE SECOND FORM's CARD OF 'rubricklaw13.MergeOne'. -/
def mergeOneUptoCard : Claim7 := { stood := { row := mergeOneUptoRow, standIns := [], harness := (true, "fd09e95c885d2ba3625993fff9a150575ba6a8fd6c3c5778bada2bd5c3ee541d"), looks := false }, kinds := [], alts := [], laidByText := true, laidKinds := [.data], laidTests := true, laidLooks := .later }
def MergeOneUptoCardSaid : Prop := Claim7.holds Tryd.pinned (.plain (OpenSpec.upto mergeOneSpec)) mergeOneUptoCard

/-- THE SECOND FORM's CARD OF 'rubricklaw13.MergeBuilds'. -/
def mergeBuildsUptoCard : Claim7 := { stood := { row := mergeBuildsUptoRow, standIns := [], harness := (true, "fd09e95c885d2ba3625993fff9a150575ba6a8fd6c3c5778bada2bd5c3ee541d"), looks := false }, kinds := [], alts := [], laidByText := true, laidKinds := [.data], laidTests := true, laidLooks := .later }
def MergeBuildsUptoCardSaid : Prop := Claim7.holds Tryd.pinned (.plain (OpenSpec.upto mergeBuildsSpec)) mergeBuildsUptoCard

/-- THE SECOND FORM's CARD OF 'rubricklaw13.MergeSteps'. -/
def mergeStepsUptoCard : Claim7 := { stood := { row := mergeStepsUptoRow, standIns := [], harness := (true, "fd09e95c885d2ba3625993fff9a150575ba6a8fd6c3c5778bada2bd5c3ee541d"), looks := false }, kinds := [], alts := [], laidByText := true, laidKinds := [.data], laidTests := true, laidLooks := .later }
def MergeStepsUptoCardSaid : Prop := Claim7.holds Tryd.pinned (.plain (OpenSpec.upto mergeStepsSpec)) mergeStepsUptoCard

/-- THE SECOND FORM's CARD OF 'rubricklaw17.EvalRuns'. -/
def evalRunsUptoCard : Claim7 := { stood := { row := evalRunsUptoRow, standIns := [], harness := (true, "fd09e95c885d2ba3625993fff9a150575ba6a8fd6c3c5778bada2bd5c3ee541d"), looks := false }, kinds := [], alts := [], laidByText := true, laidKinds := [.data], laidTests := true, laidLooks := .later }
def EvalRunsUptoCardSaid : Prop := Claim7.holds Tryd.pinned (.plain (OpenSpec.upto evalRunsSpec)) evalRunsUptoCard

/-- THE SECOND FORM's CARD OF 'rubricklaw17.EvalParts'. -/
def evalPartsUptoCard : Claim7 := { stood := { row := evalPartsUptoRow, standIns := [], harness := (true, "fd09e95c885d2ba3625993fff9a150575ba6a8fd6c3c5778bada2bd5c3ee541d"), looks := false }, kinds := [], alts := [], laidByText := true, laidKinds := [.data], laidTests := true, laidLooks := .later }
def EvalPartsUptoCardSaid : Prop := Claim7.holds Tryd.pinned (.plain (OpenSpec.upto evalPartsSpec)) evalPartsUptoCard

/-- THE SECOND FORM's CARD OF 'rubricklaw17.EvalBounds'. -/
def evalBoundsUptoCard : Claim7 := { stood := { row := evalBoundsUptoRow, standIns := [], harness := (true, "fd09e95c885d2ba3625993fff9a150575ba6a8fd6c3c5778bada2bd5c3ee541d"), looks := false }, kinds := [], alts := [], laidByText := true, laidKinds := [.data], laidTests := true, laidLooks := .later }
def EvalBoundsUptoCardSaid : Prop := Claim7.holds Tryd.pinned (.plain (OpenSpec.upto evalBoundsSpec)) evalBoundsUptoCard

/-- THE SECOND FORM's CARD OF 'rubricklaw17.EvalSwap'. -/
def evalSwapUptoCard : Claim7 := { stood := { row := evalSwapUptoRow, standIns := [], harness := (true, "fd09e95c885d2ba3625993fff9a150575ba6a8fd6c3c5778bada2bd5c3ee541d"), looks := false }, kinds := [], alts := [], laidByText := true, laidKinds := [.data], laidTests := true, laidLooks := .later }
def EvalSwapUptoCardSaid : Prop := Claim7.holds Tryd.pinned (.plain (OpenSpec.upto evalSwapSpec)) evalSwapUptoCard
end Rows
end Go.Proofs.YtiihoodnejcjgaaDoor
