/-
  DERIVED. GIVEN WITH THE SEED: THE CARDS: each row of YtfmlpkeaiohknaaDoorRows.lean that lists a variable, with what it lists TIED to the program's text (the seventh form; the later family's looks); each row that meets fmt, with fmt's text TOLD by the authors' own Lean function (tested against real Go, not proved from fmt's source: count such statements apart). THE CARD IS WHAT COUNTS. Prove the row's statement (the work); the ties are given (YtfmlpkeaiohknaaDoorTie.lean); close each card by the builder's one call (the guide's Derived/Test/ToyasCard.lean, 'card_holds'). Laid BY PROGRAM, IN A SANDBOX (cutbox-door.mjs). By AI agents, Wed Nov 11 2026. No macro, syntax, notation, axiom, sorry.
-/
import Derived.Test.YtfmlpkeaiohknaaDoorRows
import GoSem.ClaimSeven
namespace Go.Proofs.YtfmlpkeaiohknaaDoor
namespace Rows

/-- THE TIED CARD OF 'scarflaw10.ShapePlans'. -/
def shapePlansCard : Claim7 := { stood := { row := shapePlansRow, standIns := [], harness := (true, "bcd6c965daffd8d9caf8c3f7c58309c04d8c92ac3cad96b8c382e2b7751471d4"), looks := false }, kinds := [], alts := [], laidByText := true, laidKinds := [.data, .data, .data], laidTests := true, laidLooks := .later }
def ShapePlansCardSaid : Prop := Claim7.holds Tryd.pinned (.plain (OpenSpec.ofChange shapePlansSpec)) shapePlansCard

/-- THE TIED CARD OF 'scarflaw10.ShapeMarks'. -/
def shapeMarksCard : Claim7 := { stood := { row := shapeMarksRow, standIns := [], harness := (true, "bcd6c965daffd8d9caf8c3f7c58309c04d8c92ac3cad96b8c382e2b7751471d4"), looks := false }, kinds := [], alts := [], laidByText := true, laidKinds := [.data, .data, .data], laidTests := true, laidLooks := .later }
def ShapeMarksCardSaid : Prop := Claim7.holds Tryd.pinned (.plain (OpenSpec.ofChange shapeMarksSpec)) shapeMarksCard

/-- THE TIED CARD OF 'scarflaw10.ShapeAlike'. -/
def shapeAlikeCard : Claim7 := { stood := { row := shapeAlikeRow, standIns := [], harness := (true, "bcd6c965daffd8d9caf8c3f7c58309c04d8c92ac3cad96b8c382e2b7751471d4"), looks := false }, kinds := [], alts := [], laidByText := true, laidKinds := [.data, .data, .data], laidTests := true, laidLooks := .later }
def ShapeAlikeCardSaid : Prop := Claim7.holds Tryd.pinned (.plain (OpenSpec.ofChange shapeAlikeSpec)) shapeAlikeCard

/-- THE TIED CARD OF 'scarflaw10.ShapeKeeps'. -/
def shapeKeepsCard : Claim7 := { stood := { row := shapeKeepsRow, standIns := [], harness := (true, "bcd6c965daffd8d9caf8c3f7c58309c04d8c92ac3cad96b8c382e2b7751471d4"), looks := false }, kinds := [], alts := [], laidByText := true, laidKinds := [.data, .data, .data], laidTests := true, laidLooks := .later }
def ShapeKeepsCardSaid : Prop := Claim7.holds Tryd.pinned (.plain (OpenSpec.ofChange shapeKeepsSpec)) shapeKeepsCard

/-- THE TIED CARD OF 'scarflaw10.ShapeSums'. -/
def shapeSumsCard : Claim7 := { stood := { row := shapeSumsRow, standIns := [], harness := (true, "bcd6c965daffd8d9caf8c3f7c58309c04d8c92ac3cad96b8c382e2b7751471d4"), looks := false }, kinds := [], alts := [], laidByText := true, laidKinds := [.data, .data, .data], laidTests := true, laidLooks := .later }
def ShapeSumsCardSaid : Prop := Claim7.holds Tryd.pinned (.plain (OpenSpec.ofChange shapeSumsSpec)) shapeSumsCard

/-- THE SECOND FORM's CARD OF 'scarflaw10.ShapePlans'. -/
def shapePlansUptoCard : Claim7 := { stood := { row := shapePlansUptoRow, standIns := [], harness := (true, "bcd6c965daffd8d9caf8c3f7c58309c04d8c92ac3cad96b8c382e2b7751471d4"), looks := false }, kinds := [], alts := [], laidByText := true, laidKinds := [.data, .data, .data], laidTests := true, laidLooks := .later }
def ShapePlansUptoCardSaid : Prop := Claim7.holds Tryd.pinned (.plain (OpenSpec.upto shapePlansSpec)) shapePlansUptoCard

/-- THE SECOND FORM's CARD OF 'scarflaw10.ShapeMarks'. -/
def shapeMarksUptoCard : Claim7 := { stood := { row := shapeMarksUptoRow, standIns := [], harness := (true, "bcd6c965daffd8d9caf8c3f7c58309c04d8c92ac3cad96b8c382e2b7751471d4"), looks := false }, kinds := [], alts := [], laidByText := true, laidKinds := [.data, .data, .data], laidTests := true, laidLooks := .later }
def ShapeMarksUptoCardSaid : Prop := Claim7.holds Tryd.pinned (.plain (OpenSpec.upto shapeMarksSpec)) shapeMarksUptoCard

/-- THE SECOND FORM's CARD OF 'scarflaw10.ShapeAlike'. -/
def shapeAlikeUptoCard : Claim7 := { stood := { row := shapeAlikeUptoRow, standIns := [], harness := (true, "bcd6c965daffd8d9caf8c3f7c58309c04d8c92ac3cad96b8c382e2b7751471d4"), looks := false }, kinds := [], alts := [], laidByText := true, laidKinds := [.data, .data, .data], laidTests := true, laidLooks := .later }
def ShapeAlikeUptoCardSaid : Prop := Claim7.holds Tryd.pinned (.plain (OpenSpec.upto shapeAlikeSpec)) shapeAlikeUptoCard

/-- THE SECOND FORM's CARD OF 'scarflaw10.ShapeKeeps'. -/
def shapeKeepsUptoCard : Claim7 := { stood := { row := shapeKeepsUptoRow, standIns := [], harness := (true, "bcd6c965daffd8d9caf8c3f7c58309c04d8c92ac3cad96b8c382e2b7751471d4"), looks := false }, kinds := [], alts := [], laidByText := true, laidKinds := [.data, .data, .data], laidTests := true, laidLooks := .later }
def ShapeKeepsUptoCardSaid : Prop := Claim7.holds Tryd.pinned (.plain (OpenSpec.upto shapeKeepsSpec)) shapeKeepsUptoCard

/-- THE SECOND FORM's CARD OF 'scarflaw10.ShapeSums'. -/
def shapeSumsUptoCard : Claim7 := { stood := { row := shapeSumsUptoRow, standIns := [], harness := (true, "bcd6c965daffd8d9caf8c3f7c58309c04d8c92ac3cad96b8c382e2b7751471d4"), looks := false }, kinds := [], alts := [], laidByText := true, laidKinds := [.data, .data, .data], laidTests := true, laidLooks := .later }
def ShapeSumsUptoCardSaid : Prop := Claim7.holds Tryd.pinned (.plain (OpenSpec.upto shapeSumsSpec)) shapeSumsUptoCard
end Rows
end Go.Proofs.YtfmlpkeaiohknaaDoor
