/-
  DERIVED. GIVEN WITH THE SEED: THE CARDS: each row of YtlpikhdiiehcaaaDoorRows.lean that lists a variable, with what it lists TIED to the program's text (the seventh form; the later family's looks); each row that meets fmt, with fmt's text TOLD by the authors' own Lean function (tested against real Go, not proved from fmt's source: count such statements apart). THE CARD IS WHAT COUNTS. Prove the row's statement (the work); the ties are given (YtlpikhdiiehcaaaDoorTie.lean); close each card by the builder's one call (the guide's Derived/Test/ToyasCard.lean, 'card_holds'). Laid BY PROGRAM, IN A SANDBOX (cutbox-door.mjs). By AI agents, Wed Nov 11 2026. No macro, syntax, notation, axiom, sorry.
-/
import Derived.Test.YtlpikhdiiehcaaaDoorRows
import GoSem.ClaimSeven
namespace Go.Proofs.YtlpikhdiiehcaaaDoor
namespace Rows

/-- THE TIED CARD OF 'rundalelaw18.OpSays'. -/
def opSaysCard : Claim7 := { stood := { row := opSaysRow, standIns := [], harness := (true, "ed6feeeb3c55df5929fade8aecb7efa97292560629acafcf51ed9b4bdd1d3999"), looks := true }, kinds := [], alts := [], laidByText := true, laidKinds := [.data, .data, .data, .data, .sentinel, .sentinel, .pinned], laidTests := true, laidLooks := .later }
def OpSaysCardSaid : Prop := Claim7.holds Tryd.pinned (.plain (OpenSpec.ofChange opSaysSpec)) opSaysCard

/-- THE TIED CARD OF 'rundalelaw18.OpReads'. -/
def opReadsCard : Claim7 := { stood := { row := opReadsRow, standIns := [], harness := (true, "ed6feeeb3c55df5929fade8aecb7efa97292560629acafcf51ed9b4bdd1d3999"), looks := true }, kinds := [], alts := [], laidByText := true, laidKinds := [.data, .data, .data, .data, .sentinel, .sentinel, .pinned], laidTests := true, laidLooks := .later }
def OpReadsCardSaid : Prop := Claim7.holds Tryd.pinned (.plain (OpenSpec.ofChange opReadsSpec)) opReadsCard

/-- THE TIED CARD OF 'rundalelaw18.OpBack'. -/
def opBackCard : Claim7 := { stood := { row := opBackRow, standIns := [], harness := (true, "ed6feeeb3c55df5929fade8aecb7efa97292560629acafcf51ed9b4bdd1d3999"), looks := true }, kinds := [], alts := [], laidByText := true, laidKinds := [.data, .data, .data, .data, .sentinel, .sentinel, .pinned], laidTests := true, laidLooks := .later }
def OpBackCardSaid : Prop := Claim7.holds Tryd.pinned (.plain (OpenSpec.ofChange opBackSpec)) opBackCard

/-- THE TIED CARD OF 'rundalelaw18.OpBends'. -/
def opBendsCard : Claim7 := { stood := { row := opBendsRow, standIns := [], harness := (true, "ed6feeeb3c55df5929fade8aecb7efa97292560629acafcf51ed9b4bdd1d3999"), looks := true }, kinds := [], alts := [], laidByText := true, laidKinds := [.data, .data, .data, .data, .sentinel, .sentinel, .pinned], laidTests := true, laidLooks := .later }
def OpBendsCardSaid : Prop := Claim7.holds Tryd.pinned (.plain (OpenSpec.ofChange opBendsSpec)) opBendsCard

/-- THE TIED CARD OF 'rundalelaw18.OpEdges'. -/
def opEdgesCard : Claim7 := { stood := { row := opEdgesRow, standIns := [], harness := (true, "ed6feeeb3c55df5929fade8aecb7efa97292560629acafcf51ed9b4bdd1d3999"), looks := true }, kinds := [], alts := [], laidByText := true, laidKinds := [.data, .data, .data, .data, .sentinel, .sentinel, .pinned], laidTests := true, laidLooks := .later }
def OpEdgesCardSaid : Prop := Claim7.holds Tryd.pinned (.plain (OpenSpec.ofChange opEdgesSpec)) opEdgesCard

/-- THE SECOND FORM's CARD OF 'rundalelaw18.OpSays'. -/
def opSaysUptoCard : Claim7 := { stood := { row := opSaysUptoRow, standIns := [], harness := (true, "ed6feeeb3c55df5929fade8aecb7efa97292560629acafcf51ed9b4bdd1d3999"), looks := true }, kinds := [], alts := [], laidByText := true, laidKinds := [.data, .data, .data, .data, .sentinel, .sentinel, .pinned], laidTests := true, laidLooks := .later }
def OpSaysUptoCardSaid : Prop := Claim7.holds Tryd.pinned (.plain (OpenSpec.upto opSaysSpec)) opSaysUptoCard

/-- THE SECOND FORM's CARD OF 'rundalelaw18.OpReads'. -/
def opReadsUptoCard : Claim7 := { stood := { row := opReadsUptoRow, standIns := [], harness := (true, "ed6feeeb3c55df5929fade8aecb7efa97292560629acafcf51ed9b4bdd1d3999"), looks := true }, kinds := [], alts := [], laidByText := true, laidKinds := [.data, .data, .data, .data, .sentinel, .sentinel, .pinned], laidTests := true, laidLooks := .later }
def OpReadsUptoCardSaid : Prop := Claim7.holds Tryd.pinned (.plain (OpenSpec.upto opReadsSpec)) opReadsUptoCard

/-- THE SECOND FORM's CARD OF 'rundalelaw18.OpBack'. -/
def opBackUptoCard : Claim7 := { stood := { row := opBackUptoRow, standIns := [], harness := (true, "ed6feeeb3c55df5929fade8aecb7efa97292560629acafcf51ed9b4bdd1d3999"), looks := true }, kinds := [], alts := [], laidByText := true, laidKinds := [.data, .data, .data, .data, .sentinel, .sentinel, .pinned], laidTests := true, laidLooks := .later }
def OpBackUptoCardSaid : Prop := Claim7.holds Tryd.pinned (.plain (OpenSpec.upto opBackSpec)) opBackUptoCard

/-- THE SECOND FORM's CARD OF 'rundalelaw18.OpBends'. -/
def opBendsUptoCard : Claim7 := { stood := { row := opBendsUptoRow, standIns := [], harness := (true, "ed6feeeb3c55df5929fade8aecb7efa97292560629acafcf51ed9b4bdd1d3999"), looks := true }, kinds := [], alts := [], laidByText := true, laidKinds := [.data, .data, .data, .data, .sentinel, .sentinel, .pinned], laidTests := true, laidLooks := .later }
def OpBendsUptoCardSaid : Prop := Claim7.holds Tryd.pinned (.plain (OpenSpec.upto opBendsSpec)) opBendsUptoCard

/-- THE SECOND FORM's CARD OF 'rundalelaw18.OpEdges'. -/
def opEdgesUptoCard : Claim7 := { stood := { row := opEdgesUptoRow, standIns := [], harness := (true, "ed6feeeb3c55df5929fade8aecb7efa97292560629acafcf51ed9b4bdd1d3999"), looks := true }, kinds := [], alts := [], laidByText := true, laidKinds := [.data, .data, .data, .data, .sentinel, .sentinel, .pinned], laidTests := true, laidLooks := .later }
def OpEdgesUptoCardSaid : Prop := Claim7.holds Tryd.pinned (.plain (OpenSpec.upto opEdgesSpec)) opEdgesUptoCard
end Rows
end Go.Proofs.YtlpikhdiiehcaaaDoor
