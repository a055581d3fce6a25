/-
  DERIVED. GIVEN WITH THE SEED: THE CARDS: each row of YteofdfknemopiaaDoorRows.lean that lists a variable, with what it lists TIED to the program's text (the seventh form; the later family's looks); each row that meets fmt, with fmt's text TOLD by the authors' own Lean function (tested against real Go, not proved from fmt's source: count such statements apart). THE CARD IS WHAT COUNTS. Prove the row's statement (the work); the ties are given (YteofdfknemopiaaDoorTie.lean); close each card by the builder's one call (the guide's Derived/Test/ToyasCard.lean, 'card_holds'). Laid BY PROGRAM, IN A SANDBOX (cutbox-door.mjs). By AI agents, Wed Nov 11 2026. No macro, syntax, notation, axiom, sorry.
-/
import Derived.Test.YteofdfknemopiaaDoorRows
import GoSem.ClaimSeven
namespace Go.Proofs.YteofdfknemopiaaDoor
namespace Rows

/-- THE TIED CARD OF 'rubricklaw16.QueryBack'. -/
def queryBackCard : Claim7 := { stood := { row := queryBackRow, standIns := [], harness := (true, "fe6bb7701c07ad75264e9249fee3963e9a4ab446087828b9abcadac544105f14"), looks := false }, kinds := [], alts := [], laidByText := true, laidKinds := [.data, .widerDeep], laidTests := true, laidLooks := .later }
def QueryBackCardSaid : Prop := Claim7.holds Tryd.pinned (.plain (OpenSpec.ofChange queryBackSpec)) queryBackCard

/-- THE TIED CARD OF 'rubricklaw16.QueryAround'. -/
def queryAroundCard : Claim7 := { stood := { row := queryAroundRow, standIns := [], harness := (true, "fe6bb7701c07ad75264e9249fee3963e9a4ab446087828b9abcadac544105f14"), looks := false }, kinds := [], alts := [], laidByText := true, laidKinds := [.data, .widerDeep], laidTests := true, laidLooks := .later }
def QueryAroundCardSaid : Prop := Claim7.holds Tryd.pinned (.plain (OpenSpec.ofChange queryAroundSpec)) queryAroundCard

/-- THE TIED CARD OF 'rubricklaw16.QueryOne'. -/
def queryOneCard : Claim7 := { stood := { row := queryOneRow, standIns := [], harness := (true, "fe6bb7701c07ad75264e9249fee3963e9a4ab446087828b9abcadac544105f14"), looks := false }, kinds := [], alts := [], laidByText := true, laidKinds := [.data, .widerDeep], laidTests := true, laidLooks := .later }
def QueryOneCardSaid : Prop := Claim7.holds Tryd.pinned (.plain (OpenSpec.ofChange queryOneSpec)) queryOneCard

/-- THE TIED CARD OF 'rubricklaw16.QueryRight'. -/
def queryRightCard : Claim7 := { stood := { row := queryRightRow, standIns := [], harness := (true, "fe6bb7701c07ad75264e9249fee3963e9a4ab446087828b9abcadac544105f14"), looks := false }, kinds := [], alts := [], laidByText := true, laidKinds := [.data, .widerDeep], laidTests := true, laidLooks := .later }
def QueryRightCardSaid : Prop := Claim7.holds Tryd.pinned (.plain (OpenSpec.ofChange queryRightSpec)) queryRightCard

/-- THE SECOND FORM's CARD OF 'rubricklaw16.QueryBack'. -/
def queryBackUptoCard : Claim7 := { stood := { row := queryBackUptoRow, standIns := [], harness := (true, "fe6bb7701c07ad75264e9249fee3963e9a4ab446087828b9abcadac544105f14"), looks := false }, kinds := [], alts := [], laidByText := true, laidKinds := [.data, .widerDeep], laidTests := true, laidLooks := .later }
def QueryBackUptoCardSaid : Prop := Claim7.holds Tryd.pinned (.plain (OpenSpec.upto queryBackSpec)) queryBackUptoCard

/-- THE SECOND FORM's CARD OF 'rubricklaw16.QueryAround'. -/
def queryAroundUptoCard : Claim7 := { stood := { row := queryAroundUptoRow, standIns := [], harness := (true, "fe6bb7701c07ad75264e9249fee3963e9a4ab446087828b9abcadac544105f14"), looks := false }, kinds := [], alts := [], laidByText := true, laidKinds := [.data, .widerDeep], laidTests := true, laidLooks := .later }
def QueryAroundUptoCardSaid : Prop := Claim7.holds Tryd.pinned (.plain (OpenSpec.upto queryAroundSpec)) queryAroundUptoCard

/-- THE SECOND FORM's CARD OF 'rubricklaw16.QueryOne'. -/
def queryOneUptoCard : Claim7 := { stood := { row := queryOneUptoRow, standIns := [], harness := (true, "fe6bb7701c07ad75264e9249fee3963e9a4ab446087828b9abcadac544105f14"), looks := false }, kinds := [], alts := [], laidByText := true, laidKinds := [.data, .widerDeep], laidTests := true, laidLooks := .later }
def QueryOneUptoCardSaid : Prop := Claim7.holds Tryd.pinned (.plain (OpenSpec.upto queryOneSpec)) queryOneUptoCard

/-- THE SECOND FORM's CARD OF 'rubricklaw16.QueryRight'. -/
def queryRightUptoCard : Claim7 := { stood := { row := queryRightUptoRow, standIns := [], harness := (true, "fe6bb7701c07ad75264e9249fee3963e9a4ab446087828b9abcadac544105f14"), looks := false }, kinds := [], alts := [], laidByText := true, laidKinds := [.data, .widerDeep], laidTests := true, laidLooks := .later }
def QueryRightUptoCardSaid : Prop := Claim7.holds Tryd.pinned (.plain (OpenSpec.upto queryRightSpec)) queryRightUptoCard
end Rows
end Go.Proofs.YteofdfknemopiaaDoor
