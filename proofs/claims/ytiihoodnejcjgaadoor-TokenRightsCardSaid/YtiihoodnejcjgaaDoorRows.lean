/-
  NARROWER THAN 'FOR EVERY INPUT', by the rows' own cells (each row's printed sentence says how): UtfDecodes: laid · UtfClasses: laid · UtfSmall: laid · UtfRows: laid · UtfEncodes: laid · UtfBack: laid · UtfOnly: laid · TokenCuts: laid · TokenPlaces: laid · TokenRights: laid · TokenRows: laid · TokenSets: laid · TokenCase: laid · MergeOne: laid · MergeBuilds: laid · MergeSteps: laid · EvalRuns: laid · EvalParts: laid · EvalBounds: laid · EvalSwap: laid.
  DERIVED. THE GIVEN ROWS OF THIS SEAT. 20 by the template 'for every input the law returns true; each argument reads behind the call as it read before'; 0 by the template 'total and deterministic' (their statements: YtiihoodnejcjgaaDoorTotals.lean).
  GIVEN WITH THE SEED: the statements are not yours to turn. If you find one false, say at which input.
  Laid BY PROGRAM, IN A SANDBOX (cutbox-rows.mjs): the forced cells as the released guide's own fill.sh prints them over the translation ff332ecb4486f914… (all of the seat's roots in one cut). By AI agents, Wed Nov 11 2026. No macro, syntax, notation, axiom, sorry.
-/
import Derived.Test.YtiihoodnejcjgaaDoorChecked
import GoSem.Claim
import GoSem.ClaimJoined
import GoSem.ClaimMapViews
import Derived.JoinedTies
import Derived.KernelRfl
namespace Go.Proofs.YtiihoodnejcjgaaDoor
/- THE CELL 'sum', in the pinned program and in every row, IS THE sha256 OF THE DUMP (.gsa) THAT YtiihoodnejcjgaaDoorProg.lean LOADS. Nothing in Lean hashes anything: it is a label: what it is worth is what the hold of that sum in a sandbox is worth. -/
noncomputable def Tryd.pinned : Pinned := { name := "ytiihoodnejcjgaadoor", sum := "ff332ecb4486f914237e5a3a0d2c6dc98a7e4784f80fe4d61d30a531e4d92090", checked := Tryd.checked }
namespace Rows
def none {H : Type} : Left H := { results := [], args := [] }

/- WHAT THE LISTED PACKAGE-LEVEL VARIABLES READ AS WHEN THE CALL BEGINS. Each datum BY PROGRAM (the guide's laid-datum.mjs) off the statement by which the dump's own 'gosem.cut.vars' lays the variable. In a bare row this is a premise. The card (YtiihoodnejcjgaaDoorCards.lean) ties it to the program's text. -/
def laid_rubrick_utf_letters {H : Type} : DataW H := .agg [.agg [.lit (.int .i64 65), .lit (.int .i64 90), .lit (.int .i64 32)], .agg [.lit (.int .i64 97), .lit (.int .i64 122), .lit (.int .i64 0)], .agg [.lit (.int .i64 192), .lit (.int .i64 214), .lit (.int .i64 32)], .agg [.lit (.int .i64 216), .lit (.int .i64 222), .lit (.int .i64 32)], .agg [.lit (.int .i64 223), .lit (.int .i64 246), .lit (.int .i64 0)], .agg [.lit (.int .i64 248), .lit (.int .i64 255), .lit (.int .i64 0)], .agg [.lit (.int .i64 913), .lit (.int .i64 929), .lit (.int .i64 32)], .agg [.lit (.int .i64 931), .lit (.int .i64 937), .lit (.int .i64 32)], .agg [.lit (.int .i64 945), .lit (.int .i64 969), .lit (.int .i64 0)], .agg [.lit (.int .i64 1024), .lit (.int .i64 1039), .lit (.int .i64 80)], .agg [.lit (.int .i64 1040), .lit (.int .i64 1071), .lit (.int .i64 32)], .agg [.lit (.int .i64 1072), .lit (.int .i64 1119), .lit (.int .i64 0)]]

/-- 'rubricklaw04.UtfDecodes': WHATEVER THE INPUT: true; the input reads as it did. -/
def utfDecodesSpec : ChangeSpec := { name := "utfDecodes", fn := fun _ => fun
  | [d] => { results := [.lit (.bool true)], args := [d] }
  | _ => none }
def utfDecodesRow : OpenClaim := { program := "ytiihoodnejcjgaadoor", sum := "ff332ecb4486f914237e5a3a0d2c6dc98a7e4784f80fe4d61d30a531e4d92090", func := "rubrick/rubricklaw04.UtfDecodes", spec := "utfDecodes", named := ["rubrick/utf.letters"], apart := false, laid := [("rubrick/utf.letters", laid_rubrick_utf_letters)] }
def UtfDecodesSaid : Prop := utfDecodesRow.holds Tryd.pinned (OpenSpec.ofChange utfDecodesSpec)

/-- ITS FALSE NEIGHBOUR: 'it returns false'. Refute it at one input. -/
def utfDecodesWrong : ChangeSpec := { name := "utfDecodes", fn := fun _ => fun
  | [d] => { results := [.lit (.bool false)], args := [d] }
  | _ => none }
def UtfDecodesWrongFalsely : Prop := utfDecodesRow.holds Tryd.pinned (OpenSpec.ofChange utfDecodesWrong)

/-- 'rubricklaw04.UtfClasses': WHATEVER THE INPUT: true; the input reads as it did. -/
def utfClassesSpec : ChangeSpec := { name := "utfClasses", fn := fun _ => fun
  | [d] => { results := [.lit (.bool true)], args := [d] }
  | _ => none }
def utfClassesRow : OpenClaim := { program := "ytiihoodnejcjgaadoor", sum := "ff332ecb4486f914237e5a3a0d2c6dc98a7e4784f80fe4d61d30a531e4d92090", func := "rubrick/rubricklaw04.UtfClasses", spec := "utfClasses", named := ["rubrick/utf.letters"], apart := false, laid := [("rubrick/utf.letters", laid_rubrick_utf_letters)] }
def UtfClassesSaid : Prop := utfClassesRow.holds Tryd.pinned (OpenSpec.ofChange utfClassesSpec)

/-- ITS FALSE NEIGHBOUR: 'it returns false'. Refute it at one input. -/
def utfClassesWrong : ChangeSpec := { name := "utfClasses", fn := fun _ => fun
  | [d] => { results := [.lit (.bool false)], args := [d] }
  | _ => none }
def UtfClassesWrongFalsely : Prop := utfClassesRow.holds Tryd.pinned (OpenSpec.ofChange utfClassesWrong)

/-- 'rubricklaw04.UtfSmall': WHATEVER THE INPUT: true; the input reads as it did. -/
def utfSmallSpec : ChangeSpec := { name := "utfSmall", fn := fun _ => fun
  | [d] => { results := [.lit (.bool true)], args := [d] }
  | _ => none }
def utfSmallRow : OpenClaim := { program := "ytiihoodnejcjgaadoor", sum := "ff332ecb4486f914237e5a3a0d2c6dc98a7e4784f80fe4d61d30a531e4d92090", func := "rubrick/rubricklaw04.UtfSmall", spec := "utfSmall", named := ["rubrick/utf.letters"], apart := false, laid := [("rubrick/utf.letters", laid_rubrick_utf_letters)] }
def UtfSmallSaid : Prop := utfSmallRow.holds Tryd.pinned (OpenSpec.ofChange utfSmallSpec)

/-- ITS FALSE NEIGHBOUR: 'it returns false'. Refute it at one input. -/
def utfSmallWrong : ChangeSpec := { name := "utfSmall", fn := fun _ => fun
  | [d] => { results := [.lit (.bool false)], args := [d] }
  | _ => none }
def UtfSmallWrongFalsely : Prop := utfSmallRow.holds Tryd.pinned (OpenSpec.ofChange utfSmallWrong)

/-- 'rubricklaw04.UtfRows': WHATEVER THE INPUT: true; the input reads as it did. -/
def utfRowsSpec : ChangeSpec := { name := "utfRows", fn := fun _ => fun
  | [d1, d2, d3] => { results := [.lit (.bool true)], args := [d1, d2, d3] }
  | _ => none }
def utfRowsRow : OpenClaim := { program := "ytiihoodnejcjgaadoor", sum := "ff332ecb4486f914237e5a3a0d2c6dc98a7e4784f80fe4d61d30a531e4d92090", func := "rubrick/rubricklaw04.UtfRows", spec := "utfRows", named := ["rubrick/utf.letters"], apart := false, laid := [("rubrick/utf.letters", laid_rubrick_utf_letters)] }
def UtfRowsSaid : Prop := utfRowsRow.holds Tryd.pinned (OpenSpec.ofChange utfRowsSpec)

/-- ITS FALSE NEIGHBOUR: 'it returns false'. Refute it at one input. -/
def utfRowsWrong : ChangeSpec := { name := "utfRows", fn := fun _ => fun
  | [d1, d2, d3] => { results := [.lit (.bool false)], args := [d1, d2, d3] }
  | _ => none }
def UtfRowsWrongFalsely : Prop := utfRowsRow.holds Tryd.pinned (OpenSpec.ofChange utfRowsWrong)

/-- 'rubricklaw04.UtfEncodes': WHATEVER THE INPUT: true; the input reads as it did. -/
def utfEncodesSpec : ChangeSpec := { name := "utfEncodes", fn := fun _ => fun
  | [d] => { results := [.lit (.bool true)], args := [d] }
  | _ => none }
def utfEncodesRow : OpenClaim := { program := "ytiihoodnejcjgaadoor", sum := "ff332ecb4486f914237e5a3a0d2c6dc98a7e4784f80fe4d61d30a531e4d92090", func := "rubrick/rubricklaw04.UtfEncodes", spec := "utfEncodes", named := ["rubrick/utf.letters"], apart := false, laid := [("rubrick/utf.letters", laid_rubrick_utf_letters)] }
def UtfEncodesSaid : Prop := utfEncodesRow.holds Tryd.pinned (OpenSpec.ofChange utfEncodesSpec)

/-- ITS FALSE NEIGHBOUR: 'it returns false'. Refute it at one input. -/
def utfEncodesWrong : ChangeSpec := { name := "utfEncodes", fn := fun _ => fun
  | [d] => { results := [.lit (.bool false)], args := [d] }
  | _ => none }
def UtfEncodesWrongFalsely : Prop := utfEncodesRow.holds Tryd.pinned (OpenSpec.ofChange utfEncodesWrong)

/-- 'rubricklaw04.UtfBack': WHATEVER THE INPUT: true; the input reads as it did. -/
def utfBackSpec : ChangeSpec := { name := "utfBack", fn := fun _ => fun
  | [d] => { results := [.lit (.bool true)], args := [d] }
  | _ => none }
def utfBackRow : OpenClaim := { program := "ytiihoodnejcjgaadoor", sum := "ff332ecb4486f914237e5a3a0d2c6dc98a7e4784f80fe4d61d30a531e4d92090", func := "rubrick/rubricklaw04.UtfBack", spec := "utfBack", named := ["rubrick/utf.letters"], apart := false, laid := [("rubrick/utf.letters", laid_rubrick_utf_letters)] }
def UtfBackSaid : Prop := utfBackRow.holds Tryd.pinned (OpenSpec.ofChange utfBackSpec)

/-- ITS FALSE NEIGHBOUR: 'it returns false'. Refute it at one input. -/
def utfBackWrong : ChangeSpec := { name := "utfBack", fn := fun _ => fun
  | [d] => { results := [.lit (.bool false)], args := [d] }
  | _ => none }
def UtfBackWrongFalsely : Prop := utfBackRow.holds Tryd.pinned (OpenSpec.ofChange utfBackWrong)

/-- 'rubricklaw04.UtfOnly': WHATEVER THE INPUT: true; the input reads as it did. -/
def utfOnlySpec : ChangeSpec := { name := "utfOnly", fn := fun _ => fun
  | [d] => { results := [.lit (.bool true)], args := [d] }
  | _ => none }
def utfOnlyRow : OpenClaim := { program := "ytiihoodnejcjgaadoor", sum := "ff332ecb4486f914237e5a3a0d2c6dc98a7e4784f80fe4d61d30a531e4d92090", func := "rubrick/rubricklaw04.UtfOnly", spec := "utfOnly", named := ["rubrick/utf.letters"], apart := false, laid := [("rubrick/utf.letters", laid_rubrick_utf_letters)] }
def UtfOnlySaid : Prop := utfOnlyRow.holds Tryd.pinned (OpenSpec.ofChange utfOnlySpec)

/-- ITS FALSE NEIGHBOUR: 'it returns false'. Refute it at one input. -/
def utfOnlyWrong : ChangeSpec := { name := "utfOnly", fn := fun _ => fun
  | [d] => { results := [.lit (.bool false)], args := [d] }
  | _ => none }
def UtfOnlyWrongFalsely : Prop := utfOnlyRow.holds Tryd.pinned (OpenSpec.ofChange utfOnlyWrong)

/-- 'rubricklaw05.TokenCuts': WHATEVER THE INPUT: true; the input reads as it did. -/
def tokenCutsSpec : ChangeSpec := { name := "tokenCuts", fn := fun _ => fun
  | [d] => { results := [.lit (.bool true)], args := [d] }
  | _ => none }
def tokenCutsRow : OpenClaim := { program := "ytiihoodnejcjgaadoor", sum := "ff332ecb4486f914237e5a3a0d2c6dc98a7e4784f80fe4d61d30a531e4d92090", func := "rubrick/rubricklaw05.TokenCuts", spec := "tokenCuts", unfollowed := true, recurses := true, named := ["rubrick/utf.letters"], apart := false, laid := [("rubrick/utf.letters", laid_rubrick_utf_letters)] }
def TokenCutsSaid : Prop := tokenCutsRow.holds Tryd.pinned (OpenSpec.ofChange tokenCutsSpec)

/-- ITS FALSE NEIGHBOUR: 'it returns false'. Refute it at one input. -/
def tokenCutsWrong : ChangeSpec := { name := "tokenCuts", fn := fun _ => fun
  | [d] => { results := [.lit (.bool false)], args := [d] }
  | _ => none }
def TokenCutsWrongFalsely : Prop := tokenCutsRow.holds Tryd.pinned (OpenSpec.ofChange tokenCutsWrong)

/-- 'rubricklaw05.TokenPlaces': WHATEVER THE INPUT: true; the input reads as it did. -/
def tokenPlacesSpec : ChangeSpec := { name := "tokenPlaces", fn := fun _ => fun
  | [d1, d2] => { results := [.lit (.bool true)], args := [d1, d2] }
  | _ => none }
def tokenPlacesRow : OpenClaim := { program := "ytiihoodnejcjgaadoor", sum := "ff332ecb4486f914237e5a3a0d2c6dc98a7e4784f80fe4d61d30a531e4d92090", func := "rubrick/rubricklaw05.TokenPlaces", spec := "tokenPlaces", unfollowed := true, recurses := true, named := ["rubrick/utf.letters"], apart := false, laid := [("rubrick/utf.letters", laid_rubrick_utf_letters)] }
def TokenPlacesSaid : Prop := tokenPlacesRow.holds Tryd.pinned (OpenSpec.ofChange tokenPlacesSpec)

/-- ITS FALSE NEIGHBOUR: 'it returns false'. Refute it at one input. -/
def tokenPlacesWrong : ChangeSpec := { name := "tokenPlaces", fn := fun _ => fun
  | [d1, d2] => { results := [.lit (.bool false)], args := [d1, d2] }
  | _ => none }
def TokenPlacesWrongFalsely : Prop := tokenPlacesRow.holds Tryd.pinned (OpenSpec.ofChange tokenPlacesWrong)

/-- 'rubricklaw05.TokenRights': WHATEVER THE INPUT: true; the input reads as it did. -/
def tokenRightsSpec : ChangeSpec := { name := "tokenRights", fn := fun _ => fun
  | [d1, d2] => { results := [.lit (.bool true)], args := [d1, d2] }
  | _ => none }
def tokenRightsRow : OpenClaim := { program := "ytiihoodnejcjgaadoor", sum := "ff332ecb4486f914237e5a3a0d2c6dc98a7e4784f80fe4d61d30a531e4d92090", func := "rubrick/rubricklaw05.TokenRights", spec := "tokenRights", unfollowed := true, recurses := true, named := ["rubrick/utf.letters"], apart := false, laid := [("rubrick/utf.letters", laid_rubrick_utf_letters)] }
def TokenRightsSaid : Prop := tokenRightsRow.holds Tryd.pinned (OpenSpec.ofChange tokenRightsSpec)

/-- ITS FALSE NEIGHBOUR: 'it returns false'. Refute it at one input. -/
def tokenRightsWrong : ChangeSpec := { name := "tokenRights", fn := fun _ => fun
  | [d1, d2] => { results := [.lit (.bool false)], args := [d1, d2] }
  | _ => none }
def TokenRightsWrongFalsely : Prop := tokenRightsRow.holds Tryd.pinned (OpenSpec.ofChange tokenRightsWrong)

/-- 'rubricklaw05.TokenRows': WHATEVER THE INPUT: true; the input reads as it did. -/
def tokenRowsSpec : ChangeSpec := { name := "tokenRows", fn := fun _ => fun
  | [d1, d2, d3] => { results := [.lit (.bool true)], args := [d1, d2, d3] }
  | _ => none }
def tokenRowsRow : OpenClaim := { program := "ytiihoodnejcjgaadoor", sum := "ff332ecb4486f914237e5a3a0d2c6dc98a7e4784f80fe4d61d30a531e4d92090", func := "rubrick/rubricklaw05.TokenRows", spec := "tokenRows", unfollowed := true, recurses := true, named := ["rubrick/utf.letters"], apart := false, laid := [("rubrick/utf.letters", laid_rubrick_utf_letters)] }
def TokenRowsSaid : Prop := tokenRowsRow.holds Tryd.pinned (OpenSpec.ofChange tokenRowsSpec)

/-- ITS FALSE NEIGHBOUR: 'it returns false'. Refute it at one input. -/
def tokenRowsWrong : ChangeSpec := { name := "tokenRows", fn := fun _ => fun
  | [d1, d2, d3] => { results := [.lit (.bool false)], args := [d1, d2, d3] }
  | _ => none }
def TokenRowsWrongFalsely : Prop := tokenRowsRow.holds Tryd.pinned (OpenSpec.ofChange tokenRowsWrong)

/-- 'rubricklaw05.TokenSets': WHATEVER THE INPUT: true; the input reads as it did. -/
def tokenSetsSpec : ChangeSpec := { name := "tokenSets", fn := fun _ => fun
  | [d] => { results := [.lit (.bool true)], args := [d] }
  | _ => none }
def tokenSetsRow : OpenClaim := { program := "ytiihoodnejcjgaadoor", sum := "ff332ecb4486f914237e5a3a0d2c6dc98a7e4784f80fe4d61d30a531e4d92090", func := "rubrick/rubricklaw05.TokenSets", spec := "tokenSets", unfollowed := true, recurses := true, named := ["rubrick/utf.letters"], apart := false, laid := [("rubrick/utf.letters", laid_rubrick_utf_letters)] }
def TokenSetsSaid : Prop := tokenSetsRow.holds Tryd.pinned (OpenSpec.ofChange tokenSetsSpec)

/-- ITS FALSE NEIGHBOUR: 'it returns false'. Refute it at one input. -/
def tokenSetsWrong : ChangeSpec := { name := "tokenSets", fn := fun _ => fun
  | [d] => { results := [.lit (.bool false)], args := [d] }
  | _ => none }
def TokenSetsWrongFalsely : Prop := tokenSetsRow.holds Tryd.pinned (OpenSpec.ofChange tokenSetsWrong)

/-- 'rubricklaw05.TokenCase': WHATEVER THE INPUT: true; the input reads as it did. -/
def tokenCaseSpec : ChangeSpec := { name := "tokenCase", fn := fun _ => fun
  | [d1, d2] => { results := [.lit (.bool true)], args := [d1, d2] }
  | _ => none }
def tokenCaseRow : OpenClaim := { program := "ytiihoodnejcjgaadoor", sum := "ff332ecb4486f914237e5a3a0d2c6dc98a7e4784f80fe4d61d30a531e4d92090", func := "rubrick/rubricklaw05.TokenCase", spec := "tokenCase", unfollowed := true, recurses := true, named := ["rubrick/utf.letters"], apart := false, laid := [("rubrick/utf.letters", laid_rubrick_utf_letters)] }
def TokenCaseSaid : Prop := tokenCaseRow.holds Tryd.pinned (OpenSpec.ofChange tokenCaseSpec)

/-- ITS FALSE NEIGHBOUR: 'it returns false'. Refute it at one input. -/
def tokenCaseWrong : ChangeSpec := { name := "tokenCase", fn := fun _ => fun
  | [d1, d2] => { results := [.lit (.bool false)], args := [d1, d2] }
  | _ => none }
def TokenCaseWrongFalsely : Prop := tokenCaseRow.holds Tryd.pinned (OpenSpec.ofChange tokenCaseWrong)

/-- 'rubricklaw13.MergeOne': WHATEVER THE INPUT: true; the input reads as it did. -/
def mergeOneSpec : ChangeSpec := { name := "mergeOne", fn := fun _ => fun
  | [d] => { results := [.lit (.bool true)], args := [d] }
  | _ => none }
def mergeOneRow : OpenClaim := { program := "ytiihoodnejcjgaadoor", sum := "ff332ecb4486f914237e5a3a0d2c6dc98a7e4784f80fe4d61d30a531e4d92090", func := "rubrick/rubricklaw13.MergeOne", spec := "mergeOne", unfollowed := true, recurses := true, named := ["rubrick/utf.letters"], apart := false, laid := [("rubrick/utf.letters", laid_rubrick_utf_letters)] }
def MergeOneSaid : Prop := mergeOneRow.holds Tryd.pinned (OpenSpec.ofChange mergeOneSpec)

/-- ITS FALSE NEIGHBOUR: 'it returns false'. Refute it at one input. -/
def mergeOneWrong : ChangeSpec := { name := "mergeOne", fn := fun _ => fun
  | [d] => { results := [.lit (.bool false)], args := [d] }
  | _ => none }
def MergeOneWrongFalsely : Prop := mergeOneRow.holds Tryd.pinned (OpenSpec.ofChange mergeOneWrong)

/-- 'rubricklaw13.MergeBuilds': WHATEVER THE INPUT: true; the input reads as it did. -/
def mergeBuildsSpec : ChangeSpec := { name := "mergeBuilds", fn := fun _ => fun
  | [d1, d2, d3] => { results := [.lit (.bool true)], args := [d1, d2, d3] }
  | _ => none }
def mergeBuildsRow : OpenClaim := { program := "ytiihoodnejcjgaadoor", sum := "ff332ecb4486f914237e5a3a0d2c6dc98a7e4784f80fe4d61d30a531e4d92090", func := "rubrick/rubricklaw13.MergeBuilds", spec := "mergeBuilds", unfollowed := true, recurses := true, named := ["rubrick/utf.letters"], apart := false, laid := [("rubrick/utf.letters", laid_rubrick_utf_letters)] }
def MergeBuildsSaid : Prop := mergeBuildsRow.holds Tryd.pinned (OpenSpec.ofChange mergeBuildsSpec)

/-- ITS FALSE NEIGHBOUR: 'it returns false'. Refute it at one input. -/
def mergeBuildsWrong : ChangeSpec := { name := "mergeBuilds", fn := fun _ => fun
  | [d1, d2, d3] => { results := [.lit (.bool false)], args := [d1, d2, d3] }
  | _ => none }
def MergeBuildsWrongFalsely : Prop := mergeBuildsRow.holds Tryd.pinned (OpenSpec.ofChange mergeBuildsWrong)

/-- 'rubricklaw13.MergeSteps': WHATEVER THE INPUT: true; the input reads as it did. -/
def mergeStepsSpec : ChangeSpec := { name := "mergeSteps", fn := fun _ => fun
  | [d1, d2, d3] => { results := [.lit (.bool true)], args := [d1, d2, d3] }
  | _ => none }
def mergeStepsRow : OpenClaim := { program := "ytiihoodnejcjgaadoor", sum := "ff332ecb4486f914237e5a3a0d2c6dc98a7e4784f80fe4d61d30a531e4d92090", func := "rubrick/rubricklaw13.MergeSteps", spec := "mergeSteps", unfollowed := true, recurses := true, named := ["rubrick/utf.letters"], apart := false, laid := [("rubrick/utf.letters", laid_rubrick_utf_letters)] }
def MergeStepsSaid : Prop := mergeStepsRow.holds Tryd.pinned (OpenSpec.ofChange mergeStepsSpec)

/-- ITS FALSE NEIGHBOUR: 'it returns false'. Refute it at one input. -/
def mergeStepsWrong : ChangeSpec := { name := "mergeSteps", fn := fun _ => fun
  | [d1, d2, d3] => { results := [.lit (.bool false)], args := [d1, d2, d3] }
  | _ => none }
def MergeStepsWrongFalsely : Prop := mergeStepsRow.holds Tryd.pinned (OpenSpec.ofChange mergeStepsWrong)

/-- 'rubricklaw17.EvalRuns': WHATEVER THE INPUT: true; the input reads as it did. -/
def evalRunsSpec : ChangeSpec := { name := "evalRuns", fn := fun _ => fun
  | [d1, d2] => { results := [.lit (.bool true)], args := [d1, d2] }
  | _ => none }
def evalRunsRow : OpenClaim := { program := "ytiihoodnejcjgaadoor", sum := "ff332ecb4486f914237e5a3a0d2c6dc98a7e4784f80fe4d61d30a531e4d92090", func := "rubrick/rubricklaw17.EvalRuns", spec := "evalRuns", unfollowed := true, recurses := true, named := ["rubrick/utf.letters"], apart := false, laid := [("rubrick/utf.letters", laid_rubrick_utf_letters)] }
def EvalRunsSaid : Prop := evalRunsRow.holds Tryd.pinned (OpenSpec.ofChange evalRunsSpec)

/-- ITS FALSE NEIGHBOUR: 'it returns false'. Refute it at one input. -/
def evalRunsWrong : ChangeSpec := { name := "evalRuns", fn := fun _ => fun
  | [d1, d2] => { results := [.lit (.bool false)], args := [d1, d2] }
  | _ => none }
def EvalRunsWrongFalsely : Prop := evalRunsRow.holds Tryd.pinned (OpenSpec.ofChange evalRunsWrong)

/-- 'rubricklaw17.EvalParts': WHATEVER THE INPUT: true; the input reads as it did. -/
def evalPartsSpec : ChangeSpec := { name := "evalParts", fn := fun _ => fun
  | [d1, d2, d3] => { results := [.lit (.bool true)], args := [d1, d2, d3] }
  | _ => none }
def evalPartsRow : OpenClaim := { program := "ytiihoodnejcjgaadoor", sum := "ff332ecb4486f914237e5a3a0d2c6dc98a7e4784f80fe4d61d30a531e4d92090", func := "rubrick/rubricklaw17.EvalParts", spec := "evalParts", unfollowed := true, recurses := true, named := ["rubrick/utf.letters"], apart := false, laid := [("rubrick/utf.letters", laid_rubrick_utf_letters)] }
def EvalPartsSaid : Prop := evalPartsRow.holds Tryd.pinned (OpenSpec.ofChange evalPartsSpec)

/-- ITS FALSE NEIGHBOUR: 'it returns false'. Refute it at one input. -/
def evalPartsWrong : ChangeSpec := { name := "evalParts", fn := fun _ => fun
  | [d1, d2, d3] => { results := [.lit (.bool false)], args := [d1, d2, d3] }
  | _ => none }
def EvalPartsWrongFalsely : Prop := evalPartsRow.holds Tryd.pinned (OpenSpec.ofChange evalPartsWrong)

/-- 'rubricklaw17.EvalBounds': WHATEVER THE INPUT: true; the input reads as it did. -/
def evalBoundsSpec : ChangeSpec := { name := "evalBounds", fn := fun _ => fun
  | [d1, d2, d3] => { results := [.lit (.bool true)], args := [d1, d2, d3] }
  | _ => none }
def evalBoundsRow : OpenClaim := { program := "ytiihoodnejcjgaadoor", sum := "ff332ecb4486f914237e5a3a0d2c6dc98a7e4784f80fe4d61d30a531e4d92090", func := "rubrick/rubricklaw17.EvalBounds", spec := "evalBounds", unfollowed := true, recurses := true, named := ["rubrick/utf.letters"], apart := false, laid := [("rubrick/utf.letters", laid_rubrick_utf_letters)] }
def EvalBoundsSaid : Prop := evalBoundsRow.holds Tryd.pinned (OpenSpec.ofChange evalBoundsSpec)

/-- ITS FALSE NEIGHBOUR: 'it returns false'. Refute it at one input. -/
def evalBoundsWrong : ChangeSpec := { name := "evalBounds", fn := fun _ => fun
  | [d1, d2, d3] => { results := [.lit (.bool false)], args := [d1, d2, d3] }
  | _ => none }
def EvalBoundsWrongFalsely : Prop := evalBoundsRow.holds Tryd.pinned (OpenSpec.ofChange evalBoundsWrong)

/-- 'rubricklaw17.EvalSwap': WHATEVER THE INPUT: true; the input reads as it did. -/
def evalSwapSpec : ChangeSpec := { name := "evalSwap", fn := fun _ => fun
  | [d1, d2, d3] => { results := [.lit (.bool true)], args := [d1, d2, d3] }
  | _ => none }
def evalSwapRow : OpenClaim := { program := "ytiihoodnejcjgaadoor", sum := "ff332ecb4486f914237e5a3a0d2c6dc98a7e4784f80fe4d61d30a531e4d92090", func := "rubrick/rubricklaw17.EvalSwap", spec := "evalSwap", unfollowed := true, recurses := true, named := ["rubrick/utf.letters"], apart := false, laid := [("rubrick/utf.letters", laid_rubrick_utf_letters)] }
def EvalSwapSaid : Prop := evalSwapRow.holds Tryd.pinned (OpenSpec.ofChange evalSwapSpec)

/-- ITS FALSE NEIGHBOUR: 'it returns false'. Refute it at one input. -/
def evalSwapWrong : ChangeSpec := { name := "evalSwap", fn := fun _ => fun
  | [d1, d2, d3] => { results := [.lit (.bool false)], args := [d1, d2, d3] }
  | _ => none }
def EvalSwapWrongFalsely : Prop := evalSwapRow.holds Tryd.pinned (OpenSpec.ofChange evalSwapWrong)

/- THE SECOND FORM. 'bulk': how many values and letters a reading holds, each counted each time it is reached (what is shared counts as often as it is met; a slice's spare places count too). A statement '..UptoSaid' is the law's where the arguments, and the package variables that the reading takes, are together of bulk at most 1048576: NARROWER than '..Said'. Prove '..Said' where nothing that the law and all that it calls make is longer than what came in: it says more and counts as full. Else prove '..UptoSaid'. A law counts once. -/
mutual
def uptoBulk {H : Type} : DataW H → Nat
  | .lit (.string bytes) => bytes.length + 1
  | .lit _ => 1
  | .nil => 1
  | .ptr d => uptoBulk d + 1
  | .slice elems spare => uptoBulkAll elems + uptoBulkAll spare + 1
  | .agg parts => uptoBulkAll parts + 1
  | .iface _ d => uptoBulk d + 1
  | .map entries => uptoBulkEntries entries + 1
  | .held _ => 1
def uptoBulkAll {H : Type} : List (DataW H) → Nat
  | [] => 0
  | d :: r => uptoBulk d + uptoBulkAll r
def uptoBulkEntries {H : Type} : List (Lit × DataW H) → Nat
  | [] => 0
  | x :: r => uptoBulkEntry x + uptoBulkEntries r
def uptoBulkEntry {H : Type} : Lit × DataW H → Nat
  | (.string bytes, d) => bytes.length + uptoBulk d + 1
  | (_, d) => uptoBulk d + 1
 end
def uptoSmall : (H : Type) → List (DataW H) → Bool := fun _ ds => decide (uptoBulkAll ds ≤ 1048576)
def OpenSpec.upto (s : _root_.Go.ChangeSpec) : _root_.Go.OpenSpec := { _root_.Go.OpenSpec.ofChange s with cond := some uptoSmall }

/-- 'rubricklaw04.UtfDecodes', WHERE WHAT IT READS IS OF BULK AT MOST 1048576: true; the input reads as it did. -/
def utfDecodesUptoRow : OpenClaim := { program := "ytiihoodnejcjgaadoor", sum := "ff332ecb4486f914237e5a3a0d2c6dc98a7e4784f80fe4d61d30a531e4d92090", func := "rubrick/rubricklaw04.UtfDecodes", spec := "utfDecodes", named := ["rubrick/utf.letters"], apart := false, laid := [("rubrick/utf.letters", laid_rubrick_utf_letters)], narrowed := true }
def UtfDecodesUptoSaid : Prop := utfDecodesUptoRow.holds Tryd.pinned (OpenSpec.upto utfDecodesSpec)

/-- 'rubricklaw04.UtfClasses', WHERE WHAT IT READS IS OF BULK AT MOST 1048576: true; the input reads as it did. -/
def utfClassesUptoRow : OpenClaim := { program := "ytiihoodnejcjgaadoor", sum := "ff332ecb4486f914237e5a3a0d2c6dc98a7e4784f80fe4d61d30a531e4d92090", func := "rubrick/rubricklaw04.UtfClasses", spec := "utfClasses", named := ["rubrick/utf.letters"], apart := false, laid := [("rubrick/utf.letters", laid_rubrick_utf_letters)], narrowed := true }
def UtfClassesUptoSaid : Prop := utfClassesUptoRow.holds Tryd.pinned (OpenSpec.upto utfClassesSpec)

/-- 'rubricklaw04.UtfSmall', WHERE WHAT IT READS IS OF BULK AT MOST 1048576: true; the input reads as it did. -/
def utfSmallUptoRow : OpenClaim := { program := "ytiihoodnejcjgaadoor", sum := "ff332ecb4486f914237e5a3a0d2c6dc98a7e4784f80fe4d61d30a531e4d92090", func := "rubrick/rubricklaw04.UtfSmall", spec := "utfSmall", named := ["rubrick/utf.letters"], apart := false, laid := [("rubrick/utf.letters", laid_rubrick_utf_letters)], narrowed := true }
def UtfSmallUptoSaid : Prop := utfSmallUptoRow.holds Tryd.pinned (OpenSpec.upto utfSmallSpec)

/-- 'rubricklaw04.UtfRows', WHERE WHAT IT READS IS OF BULK AT MOST 1048576: true; the input reads as it did. -/
def utfRowsUptoRow : OpenClaim := { program := "ytiihoodnejcjgaadoor", sum := "ff332ecb4486f914237e5a3a0d2c6dc98a7e4784f80fe4d61d30a531e4d92090", func := "rubrick/rubricklaw04.UtfRows", spec := "utfRows", named := ["rubrick/utf.letters"], apart := false, laid := [("rubrick/utf.letters", laid_rubrick_utf_letters)], narrowed := true }
def UtfRowsUptoSaid : Prop := utfRowsUptoRow.holds Tryd.pinned (OpenSpec.upto utfRowsSpec)

/-- 'rubricklaw04.UtfEncodes', WHERE WHAT IT READS IS OF BULK AT MOST 1048576: true; the input reads as it did. -/
def utfEncodesUptoRow : OpenClaim := { program := "ytiihoodnejcjgaadoor", sum := "ff332ecb4486f914237e5a3a0d2c6dc98a7e4784f80fe4d61d30a531e4d92090", func := "rubrick/rubricklaw04.UtfEncodes", spec := "utfEncodes", named := ["rubrick/utf.letters"], apart := false, laid := [("rubrick/utf.letters", laid_rubrick_utf_letters)], narrowed := true }
def UtfEncodesUptoSaid : Prop := utfEncodesUptoRow.holds Tryd.pinned (OpenSpec.upto utfEncodesSpec)

/-- 'rubricklaw04.UtfBack', WHERE WHAT IT READS IS OF BULK AT MOST 1048576: true; the input reads as it did. -/
def utfBackUptoRow : OpenClaim := { program := "ytiihoodnejcjgaadoor", sum := "ff332ecb4486f914237e5a3a0d2c6dc98a7e4784f80fe4d61d30a531e4d92090", func := "rubrick/rubricklaw04.UtfBack", spec := "utfBack", named := ["rubrick/utf.letters"], apart := false, laid := [("rubrick/utf.letters", laid_rubrick_utf_letters)], narrowed := true }
def UtfBackUptoSaid : Prop := utfBackUptoRow.holds Tryd.pinned (OpenSpec.upto utfBackSpec)

/-- 'rubricklaw04.UtfOnly', WHERE WHAT IT READS IS OF BULK AT MOST 1048576: true; the input reads as it did. -/
def utfOnlyUptoRow : OpenClaim := { program := "ytiihoodnejcjgaadoor", sum := "ff332ecb4486f914237e5a3a0d2c6dc98a7e4784f80fe4d61d30a531e4d92090", func := "rubrick/rubricklaw04.UtfOnly", spec := "utfOnly", named := ["rubrick/utf.letters"], apart := false, laid := [("rubrick/utf.letters", laid_rubrick_utf_letters)], narrowed := true }
def UtfOnlyUptoSaid : Prop := utfOnlyUptoRow.holds Tryd.pinned (OpenSpec.upto utfOnlySpec)

/-- 'rubricklaw05.TokenCuts', WHERE WHAT IT READS IS OF BULK AT MOST 1048576: true; the input reads as it did. -/
def tokenCutsUptoRow : OpenClaim := { program := "ytiihoodnejcjgaadoor", sum := "ff332ecb4486f914237e5a3a0d2c6dc98a7e4784f80fe4d61d30a531e4d92090", func := "rubrick/rubricklaw05.TokenCuts", spec := "tokenCuts", unfollowed := true, recurses := true, named := ["rubrick/utf.letters"], apart := false, laid := [("rubrick/utf.letters", laid_rubrick_utf_letters)], narrowed := true }
def TokenCutsUptoSaid : Prop := tokenCutsUptoRow.holds Tryd.pinned (OpenSpec.upto tokenCutsSpec)

/-- 'rubricklaw05.TokenPlaces', WHERE WHAT IT READS IS OF BULK AT MOST 1048576: true; the input reads as it did. -/
def tokenPlacesUptoRow : OpenClaim := { program := "ytiihoodnejcjgaadoor", sum := "ff332ecb4486f914237e5a3a0d2c6dc98a7e4784f80fe4d61d30a531e4d92090", func := "rubrick/rubricklaw05.TokenPlaces", spec := "tokenPlaces", unfollowed := true, recurses := true, named := ["rubrick/utf.letters"], apart := false, laid := [("rubrick/utf.letters", laid_rubrick_utf_letters)], narrowed := true }
def TokenPlacesUptoSaid : Prop := tokenPlacesUptoRow.holds Tryd.pinned (OpenSpec.upto tokenPlacesSpec)

/-- 'rubricklaw05.TokenRights', WHERE WHAT IT READS IS OF BULK AT MOST 1048576: true; the input reads as it did. -/
def tokenRightsUptoRow : OpenClaim := { program := "ytiihoodnejcjgaadoor", sum := "ff332ecb4486f914237e5a3a0d2c6dc98a7e4784f80fe4d61d30a531e4d92090", func := "rubrick/rubricklaw05.TokenRights", spec := "tokenRights", unfollowed := true, recurses := true, named := ["rubrick/utf.letters"], apart := false, laid := [("rubrick/utf.letters", laid_rubrick_utf_letters)], narrowed := true }
def TokenRightsUptoSaid : Prop := tokenRightsUptoRow.holds Tryd.pinned (OpenSpec.upto tokenRightsSpec)

/-- 'rubricklaw05.TokenRows', WHERE WHAT IT READS IS OF BULK AT MOST 1048576: true; the input reads as it did. -/
def tokenRowsUptoRow : OpenClaim := { program := "ytiihoodnejcjgaadoor", sum := "ff332ecb4486f914237e5a3a0d2c6dc98a7e4784f80fe4d61d30a531e4d92090", func := "rubrick/rubricklaw05.TokenRows", spec := "tokenRows", unfollowed := true, recurses := true, named := ["rubrick/utf.letters"], apart := false, laid := [("rubrick/utf.letters", laid_rubrick_utf_letters)], narrowed := true }
def TokenRowsUptoSaid : Prop := tokenRowsUptoRow.holds Tryd.pinned (OpenSpec.upto tokenRowsSpec)

/-- 'rubricklaw05.TokenSets', WHERE WHAT IT READS IS OF BULK AT MOST 1048576: true; the input reads as it did. -/
def tokenSetsUptoRow : OpenClaim := { program := "ytiihoodnejcjgaadoor", sum := "ff332ecb4486f914237e5a3a0d2c6dc98a7e4784f80fe4d61d30a531e4d92090", func := "rubrick/rubricklaw05.TokenSets", spec := "tokenSets", unfollowed := true, recurses := true, named := ["rubrick/utf.letters"], apart := false, laid := [("rubrick/utf.letters", laid_rubrick_utf_letters)], narrowed := true }
def TokenSetsUptoSaid : Prop := tokenSetsUptoRow.holds Tryd.pinned (OpenSpec.upto tokenSetsSpec)

/-- 'rubricklaw05.TokenCase', WHERE WHAT IT READS IS OF BULK AT MOST 1048576: true; the input reads as it did. -/
def tokenCaseUptoRow : OpenClaim := { program := "ytiihoodnejcjgaadoor", sum := "ff332ecb4486f914237e5a3a0d2c6dc98a7e4784f80fe4d61d30a531e4d92090", func := "rubrick/rubricklaw05.TokenCase", spec := "tokenCase", unfollowed := true, recurses := true, named := ["rubrick/utf.letters"], apart := false, laid := [("rubrick/utf.letters", laid_rubrick_utf_letters)], narrowed := true }
def TokenCaseUptoSaid : Prop := tokenCaseUptoRow.holds Tryd.pinned (OpenSpec.upto tokenCaseSpec)

/-- 'rubricklaw13.MergeOne', WHERE WHAT IT READS IS OF BULK AT MOST 1048576: true; the input reads as it did. -/
def mergeOneUptoRow : OpenClaim := { program := "ytiihoodnejcjgaadoor", sum := "ff332ecb4486f914237e5a3a0d2c6dc98a7e4784f80fe4d61d30a531e4d92090", func := "rubrick/rubricklaw13.MergeOne", spec := "mergeOne", unfollowed := true, recurses := true, named := ["rubrick/utf.letters"], apart := false, laid := [("rubrick/utf.letters", laid_rubrick_utf_letters)], narrowed := true }
def MergeOneUptoSaid : Prop := mergeOneUptoRow.holds Tryd.pinned (OpenSpec.upto mergeOneSpec)

/-- 'rubricklaw13.MergeBuilds', WHERE WHAT IT READS IS OF BULK AT MOST 1048576: true; the input reads as it did. -/
def mergeBuildsUptoRow : OpenClaim := { program := "ytiihoodnejcjgaadoor", sum := "ff332ecb4486f914237e5a3a0d2c6dc98a7e4784f80fe4d61d30a531e4d92090", func := "rubrick/rubricklaw13.MergeBuilds", spec := "mergeBuilds", unfollowed := true, recurses := true, named := ["rubrick/utf.letters"], apart := false, laid := [("rubrick/utf.letters", laid_rubrick_utf_letters)], narrowed := true }
def MergeBuildsUptoSaid : Prop := mergeBuildsUptoRow.holds Tryd.pinned (OpenSpec.upto mergeBuildsSpec)

/-- 'rubricklaw13.MergeSteps', WHERE WHAT IT READS IS OF BULK AT MOST 1048576: true; the input reads as it did. -/
def mergeStepsUptoRow : OpenClaim := { program := "ytiihoodnejcjgaadoor", sum := "ff332ecb4486f914237e5a3a0d2c6dc98a7e4784f80fe4d61d30a531e4d92090", func := "rubrick/rubricklaw13.MergeSteps", spec := "mergeSteps", unfollowed := true, recurses := true, named := ["rubrick/utf.letters"], apart := false, laid := [("rubrick/utf.letters", laid_rubrick_utf_letters)], narrowed := true }
def MergeStepsUptoSaid : Prop := mergeStepsUptoRow.holds Tryd.pinned (OpenSpec.upto mergeStepsSpec)

/-- 'rubricklaw17.EvalRuns', WHERE WHAT IT READS IS OF BULK AT MOST 1048576: true; the input reads as it did. -/
def evalRunsUptoRow : OpenClaim := { program := "ytiihoodnejcjgaadoor", sum := "ff332ecb4486f914237e5a3a0d2c6dc98a7e4784f80fe4d61d30a531e4d92090", func := "rubrick/rubricklaw17.EvalRuns", spec := "evalRuns", unfollowed := true, recurses := true, named := ["rubrick/utf.letters"], apart := false, laid := [("rubrick/utf.letters", laid_rubrick_utf_letters)], narrowed := true }
def EvalRunsUptoSaid : Prop := evalRunsUptoRow.holds Tryd.pinned (OpenSpec.upto evalRunsSpec)

/-- 'rubricklaw17.EvalParts', WHERE WHAT IT READS IS OF BULK AT MOST 1048576: true; the input reads as it did. -/
def evalPartsUptoRow : OpenClaim := { program := "ytiihoodnejcjgaadoor", sum := "ff332ecb4486f914237e5a3a0d2c6dc98a7e4784f80fe4d61d30a531e4d92090", func := "rubrick/rubricklaw17.EvalParts", spec := "evalParts", unfollowed := true, recurses := true, named := ["rubrick/utf.letters"], apart := false, laid := [("rubrick/utf.letters", laid_rubrick_utf_letters)], narrowed := true }
def EvalPartsUptoSaid : Prop := evalPartsUptoRow.holds Tryd.pinned (OpenSpec.upto evalPartsSpec)

/-- 'rubricklaw17.EvalBounds', WHERE WHAT IT READS IS OF BULK AT MOST 1048576: true; the input reads as it did. -/
def evalBoundsUptoRow : OpenClaim := { program := "ytiihoodnejcjgaadoor", sum := "ff332ecb4486f914237e5a3a0d2c6dc98a7e4784f80fe4d61d30a531e4d92090", func := "rubrick/rubricklaw17.EvalBounds", spec := "evalBounds", unfollowed := true, recurses := true, named := ["rubrick/utf.letters"], apart := false, laid := [("rubrick/utf.letters", laid_rubrick_utf_letters)], narrowed := true }
def EvalBoundsUptoSaid : Prop := evalBoundsUptoRow.holds Tryd.pinned (OpenSpec.upto evalBoundsSpec)

/-- 'rubricklaw17.EvalSwap', WHERE WHAT IT READS IS OF BULK AT MOST 1048576: true; the input reads as it did. -/
def evalSwapUptoRow : OpenClaim := { program := "ytiihoodnejcjgaadoor", sum := "ff332ecb4486f914237e5a3a0d2c6dc98a7e4784f80fe4d61d30a531e4d92090", func := "rubrick/rubricklaw17.EvalSwap", spec := "evalSwap", unfollowed := true, recurses := true, named := ["rubrick/utf.letters"], apart := false, laid := [("rubrick/utf.letters", laid_rubrick_utf_letters)], narrowed := true }
def EvalSwapUptoSaid : Prop := evalSwapUptoRow.holds Tryd.pinned (OpenSpec.upto evalSwapSpec)

end Rows
end Go.Proofs.YtiihoodnejcjgaaDoor
