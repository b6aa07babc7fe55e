/-
  DERIVED. GIVEN WITH THE SEED: THE CARDS: each row of YtnnnbeimehfiiaaDoorRows.lean that lists a variable, with what it lists TIED to the program's text (the seventh form; the later family's looks); each row that meets fmt, with fmt's text TOLD by the authors' own Lean function (tested against real Go, not proved from fmt's source: count such statements apart). THE CARD IS WHAT COUNTS. Prove the row's statement (the work); the ties are given (YtnnnbeimehfiiaaDoorTie.lean); close each card by the builder's one call (the guide's Derived/Test/ToyasCard.lean, 'card_holds'). Laid BY PROGRAM, IN A SANDBOX (cutbox-door.mjs). By AI agents, Wed Nov 11 2026. No macro, syntax, notation, axiom, sorry.
-/
import Derived.Test.YtnnnbeimehfiiaaDoorRows
import GoSem.ClaimSeven
namespace Go.Proofs.YtnnnbeimehfiiaaDoor
namespace Rows

/-- THE TIED CARD OF 'scarflaw18.MarkReads'. -/
def markReadsCard : Claim7 := { stood := { row := markReadsRow, standIns := [], harness := (true, "f17225d742a5de7efa6476e690d90c9951eeea191dc3070153a91bf3082a1067"), looks := false }, kinds := [], alts := [], laidByText := true, laidKinds := [.data, .sentinel, .pinned], laidTests := true, laidLooks := .later }
def MarkReadsCardSaid : Prop := Claim7.holds Tryd.pinned (.plain (OpenSpec.ofChange markReadsSpec)) markReadsCard

/-- THE TIED CARD OF 'scarflaw18.MarkLabels'. -/
def markLabelsCard : Claim7 := { stood := { row := markLabelsRow, standIns := [], harness := (true, "f17225d742a5de7efa6476e690d90c9951eeea191dc3070153a91bf3082a1067"), looks := false }, kinds := [], alts := [], laidByText := true, laidKinds := [.data, .sentinel, .pinned], laidTests := true, laidLooks := .later }
def MarkLabelsCardSaid : Prop := Claim7.holds Tryd.pinned (.plain (OpenSpec.ofChange markLabelsSpec)) markLabelsCard

/-- THE TIED CARD OF 'scarflaw18.MarkBack'. -/
def markBackCard : Claim7 := { stood := { row := markBackRow, standIns := [], harness := (true, "f17225d742a5de7efa6476e690d90c9951eeea191dc3070153a91bf3082a1067"), looks := false }, kinds := [], alts := [], laidByText := true, laidKinds := [.data, .sentinel, .pinned], laidTests := true, laidLooks := .later }
def MarkBackCardSaid : Prop := Claim7.holds Tryd.pinned (.plain (OpenSpec.ofChange markBackSpec)) markBackCard

/-- THE TIED CARD OF 'scarflaw18.MarkMoves'. -/
def markMovesCard : Claim7 := { stood := { row := markMovesRow, standIns := [], harness := (true, "f17225d742a5de7efa6476e690d90c9951eeea191dc3070153a91bf3082a1067"), looks := false }, kinds := [], alts := [], laidByText := true, laidKinds := [.data, .sentinel, .pinned], laidTests := true, laidLooks := .later }
def MarkMovesCardSaid : Prop := Claim7.holds Tryd.pinned (.plain (OpenSpec.ofChange markMovesSpec)) markMovesCard

/-- THE TIED CARD OF 'scarflaw18.MarkWrites'. -/
def markWritesCard : Claim7 := { stood := { row := markWritesRow, standIns := [], harness := (true, "f17225d742a5de7efa6476e690d90c9951eeea191dc3070153a91bf3082a1067"), looks := false }, kinds := [], alts := [], laidByText := true, laidKinds := [.data, .sentinel, .pinned], laidTests := true, laidLooks := .later }
def MarkWritesCardSaid : Prop := Claim7.holds Tryd.pinned (.plain (OpenSpec.ofChange markWritesSpec)) markWritesCard

/-- THE TIED CARD OF 'scarflaw18.MarkPicks'. -/
def markPicksCard : Claim7 := { stood := { row := markPicksRow, standIns := [], harness := (true, "f17225d742a5de7efa6476e690d90c9951eeea191dc3070153a91bf3082a1067"), looks := false }, kinds := [], alts := [], laidByText := true, laidKinds := [.data, .sentinel, .pinned], laidTests := true, laidLooks := .later }
def MarkPicksCardSaid : Prop := Claim7.holds Tryd.pinned (.plain (OpenSpec.ofChange markPicksSpec)) markPicksCard

/-- THE SECOND FORM's CARD OF 'scarflaw18.MarkReads'. -/
def markReadsUptoCard : Claim7 := { stood := { row := markReadsUptoRow, standIns := [], harness := (true, "f17225d742a5de7efa6476e690d90c9951eeea191dc3070153a91bf3082a1067"), looks := false }, kinds := [], alts := [], laidByText := true, laidKinds := [.data, .sentinel, .pinned], laidTests := true, laidLooks := .later }
def MarkReadsUptoCardSaid : Prop := Claim7.holds Tryd.pinned (.plain (OpenSpec.upto markReadsSpec)) markReadsUptoCard

/-- THE SECOND FORM's CARD OF 'scarflaw18.MarkLabels'. -/
def markLabelsUptoCard : Claim7 := { stood := { row := markLabelsUptoRow, standIns := [], harness := (true, "f17225d742a5de7efa6476e690d90c9951eeea191dc3070153a91bf3082a1067"), looks := false }, kinds := [], alts := [], laidByText := true, laidKinds := [.data, .sentinel, .pinned], laidTests := true, laidLooks := .later }
def MarkLabelsUptoCardSaid : Prop := Claim7.holds Tryd.pinned (.plain (OpenSpec.upto markLabelsSpec)) markLabelsUptoCard

/-- THE SECOND FORM's CARD OF 'scarflaw18.MarkBack'. -/
def markBackUptoCard : Claim7 := { stood := { row := markBackUptoRow, standIns := [], harness := (true, "f17225d742a5de7efa6476e690d90c9951eeea191dc3070153a91bf3082a1067"), looks := false }, kinds := [], alts := [], laidByText := true, laidKinds := [.data, .sentinel, .pinned], laidTests := true, laidLooks := .later }
def MarkBackUptoCardSaid : Prop := Claim7.holds Tryd.pinned (.plain (OpenSpec.upto markBackSpec)) markBackUptoCard

/-- THE SECOND FORM's CARD OF 'scarflaw18.MarkMoves'. -/
def markMovesUptoCard : Claim7 := { stood := { row := markMovesUptoRow, standIns := [], harness := (true, "f17225d742a5de7efa6476e690d90c9951eeea191dc3070153a91bf3082a1067"), looks := false }, kinds := [], alts := [], laidByText := true, laidKinds := [.data, .sentinel, .pinned], laidTests := true, laidLooks := .later }
def MarkMovesUptoCardSaid : Prop := Claim7.holds Tryd.pinned (.plain (OpenSpec.upto markMovesSpec)) markMovesUptoCard

/-- THE SECOND FORM's CARD OF 'scarflaw18.MarkWrites'. -/
def markWritesUptoCard : Claim7 := { stood := { row := markWritesUptoRow, standIns := [], harness := (true, "f17225d742a5de7efa6476e690d90c9951eeea191dc3070153a91bf3082a1067"), looks := false }, kinds := [], alts := [], laidByText := true, laidKinds := [.data, .sentinel, .pinned], laidTests := true, laidLooks := .later }
def MarkWritesUptoCardSaid : Prop := Claim7.holds Tryd.pinned (.plain (OpenSpec.upto markWritesSpec)) markWritesUptoCard

/-- THE SECOND FORM's CARD OF 'scarflaw18.MarkPicks'. -/
def markPicksUptoCard : Claim7 := { stood := { row := markPicksUptoRow, standIns := [], harness := (true, "f17225d742a5de7efa6476e690d90c9951eeea191dc3070153a91bf3082a1067"), looks := false }, kinds := [], alts := [], laidByText := true, laidKinds := [.data, .sentinel, .pinned], laidTests := true, laidLooks := .later }
def MarkPicksUptoCardSaid : Prop := Claim7.holds Tryd.pinned (.plain (OpenSpec.upto markPicksSpec)) markPicksUptoCard
end Rows
end Go.Proofs.YtnnnbeimehfiiaaDoor
