/-
  DERIVED. GIVEN WITH THE SEED: THE CARDS: each row of YtjndpakhmgapjaaDoorRows.lean that lists a variable, with what it lists TIED to the program's text (the seventh form; the later family's looks); each row that meets fmt, with fmt's text TOLD by the authors' own Lean function (tested against real Go, not proved from fmt's source: count such statements apart). THE CARD IS WHAT COUNTS. Prove the row's statement (the work); the ties are given (YtjndpakhmgapjaaDoorTie.lean); close each card by the builder's one call (the guide's Derived/Test/ToyasCard.lean, 'card_holds'). Laid BY PROGRAM, IN A SANDBOX (cutbox-door.mjs). By AI agents, Wed Nov 11 2026. No macro, syntax, notation, axiom, sorry.
-/
import Derived.Test.YtjndpakhmgapjaaDoorRows
import GoSem.ClaimSeven
namespace Go.Proofs.YtjndpakhmgapjaaDoor
namespace Rows

/-- THE TIED CARD OF 'smithylaw20.X64Encodes'. -/
def x64EncodesCard : Claim7 := { stood := { row := x64EncodesRow, standIns := [], harness := (true, "588576f74b13786afeb0fef05d0e78d3c3fb42d2b14c871a86e3a42680285290"), looks := false }, kinds := [], alts := [], laidByText := true, laidKinds := [.data, .data, .data], laidTests := true, laidLooks := .later }
def X64EncodesCardSaid : Prop := Claim7.holds Tryd.pinned (.plain (OpenSpec.ofChange x64EncodesSpec)) x64EncodesCard

/-- THE TIED CARD OF 'smithylaw20.X64Decodes'. -/
def x64DecodesCard : Claim7 := { stood := { row := x64DecodesRow, standIns := [], harness := (true, "588576f74b13786afeb0fef05d0e78d3c3fb42d2b14c871a86e3a42680285290"), looks := false }, kinds := [], alts := [], laidByText := true, laidKinds := [.data, .data, .data], laidTests := true, laidLooks := .later }
def X64DecodesCardSaid : Prop := Claim7.holds Tryd.pinned (.plain (OpenSpec.ofChange x64DecodesSpec)) x64DecodesCard

/-- THE TIED CARD OF 'smithylaw20.X64Back'. -/
def x64BackCard : Claim7 := { stood := { row := x64BackRow, standIns := [], harness := (true, "588576f74b13786afeb0fef05d0e78d3c3fb42d2b14c871a86e3a42680285290"), looks := false }, kinds := [], alts := [], laidByText := true, laidKinds := [.data, .data, .data], laidTests := true, laidLooks := .later }
def X64BackCardSaid : Prop := Claim7.holds Tryd.pinned (.plain (OpenSpec.ofChange x64BackSpec)) x64BackCard

/-- THE TIED CARD OF 'smithylaw20.X64Reads'. -/
def x64ReadsCard : Claim7 := { stood := { row := x64ReadsRow, standIns := [], harness := (true, "588576f74b13786afeb0fef05d0e78d3c3fb42d2b14c871a86e3a42680285290"), looks := false }, kinds := [], alts := [], laidByText := true, laidKinds := [.data, .data, .data], laidTests := true, laidLooks := .later }
def X64ReadsCardSaid : Prop := Claim7.holds Tryd.pinned (.plain (OpenSpec.ofChange x64ReadsSpec)) x64ReadsCard

/-- THE TIED CARD OF 'smithylaw20.X64Apart'. -/
def x64ApartCard : Claim7 := { stood := { row := x64ApartRow, standIns := [], harness := (true, "588576f74b13786afeb0fef05d0e78d3c3fb42d2b14c871a86e3a42680285290"), looks := false }, kinds := [], alts := [], laidByText := true, laidKinds := [.data, .data, .data], laidTests := true, laidLooks := .later }
def X64ApartCardSaid : Prop := Claim7.holds Tryd.pinned (.plain (OpenSpec.ofChange x64ApartSpec)) x64ApartCard

/-- THE TIED CARD OF 'smithylaw20.X64Lists'. -/
def x64ListsCard : Claim7 := { stood := { row := x64ListsRow, standIns := [], harness := (true, "588576f74b13786afeb0fef05d0e78d3c3fb42d2b14c871a86e3a42680285290"), looks := false }, kinds := [], alts := [], laidByText := true, laidKinds := [.data, .data, .data], laidTests := true, laidLooks := .later }
def X64ListsCardSaid : Prop := Claim7.holds Tryd.pinned (.plain (OpenSpec.ofChange x64ListsSpec)) x64ListsCard

/-- THE TIED CARD OF 'smithylaw20.X64Whole'. -/
def x64WholeCard : Claim7 := { stood := { row := x64WholeRow, standIns := [], harness := (true, "588576f74b13786afeb0fef05d0e78d3c3fb42d2b14c871a86e3a42680285290"), looks := false }, kinds := [], alts := [], laidByText := true, laidKinds := [.data, .data, .data], laidTests := true, laidLooks := .later }
def X64WholeCardSaid : Prop := Claim7.holds Tryd.pinned (.plain (OpenSpec.ofChange x64WholeSpec)) x64WholeCard

/-- THE SECOND FORM's CARD OF 'smithylaw20.X64Encodes'. -/
def x64EncodesUptoCard : Claim7 := { stood := { row := x64EncodesUptoRow, standIns := [], harness := (true, "588576f74b13786afeb0fef05d0e78d3c3fb42d2b14c871a86e3a42680285290"), looks := false }, kinds := [], alts := [], laidByText := true, laidKinds := [.data, .data, .data], laidTests := true, laidLooks := .later }
def X64EncodesUptoCardSaid : Prop := Claim7.holds Tryd.pinned (.plain (OpenSpec.upto x64EncodesSpec)) x64EncodesUptoCard

/-- THE SECOND FORM's CARD OF 'smithylaw20.X64Decodes'. -/
def x64DecodesUptoCard : Claim7 := { stood := { row := x64DecodesUptoRow, standIns := [], harness := (true, "588576f74b13786afeb0fef05d0e78d3c3fb42d2b14c871a86e3a42680285290"), looks := false }, kinds := [], alts := [], laidByText := true, laidKinds := [.data, .data, .data], laidTests := true, laidLooks := .later }
def X64DecodesUptoCardSaid : Prop := Claim7.holds Tryd.pinned (.plain (OpenSpec.upto x64DecodesSpec)) x64DecodesUptoCard

/-- THE SECOND FORM's CARD OF 'smithylaw20.X64Back'. -/
def x64BackUptoCard : Claim7 := { stood := { row := x64BackUptoRow, standIns := [], harness := (true, "588576f74b13786afeb0fef05d0e78d3c3fb42d2b14c871a86e3a42680285290"), looks := false }, kinds := [], alts := [], laidByText := true, laidKinds := [.data, .data, .data], laidTests := true, laidLooks := .later }
def X64BackUptoCardSaid : Prop := Claim7.holds Tryd.pinned (.plain (OpenSpec.upto x64BackSpec)) x64BackUptoCard

/-- THE SECOND FORM's CARD OF 'smithylaw20.X64Reads'. -/
def x64ReadsUptoCard : Claim7 := { stood := { row := x64ReadsUptoRow, standIns := [], harness := (true, "588576f74b13786afeb0fef05d0e78d3c3fb42d2b14c871a86e3a42680285290"), looks := false }, kinds := [], alts := [], laidByText := true, laidKinds := [.data, .data, .data], laidTests := true, laidLooks := .later }
def X64ReadsUptoCardSaid : Prop := Claim7.holds Tryd.pinned (.plain (OpenSpec.upto x64ReadsSpec)) x64ReadsUptoCard

/-- THE SECOND FORM's CARD OF 'smithylaw20.X64Apart'. -/
def x64ApartUptoCard : Claim7 := { stood := { row := x64ApartUptoRow, standIns := [], harness := (true, "588576f74b13786afeb0fef05d0e78d3c3fb42d2b14c871a86e3a42680285290"), looks := false }, kinds := [], alts := [], laidByText := true, laidKinds := [.data, .data, .data], laidTests := true, laidLooks := .later }
def X64ApartUptoCardSaid : Prop := Claim7.holds Tryd.pinned (.plain (OpenSpec.upto x64ApartSpec)) x64ApartUptoCard

/-- THE SECOND FORM's CARD OF 'smithylaw20.X64Lists'. -/
def x64ListsUptoCard : Claim7 := { stood := { row := x64ListsUptoRow, standIns := [], harness := (true, "588576f74b13786afeb0fef05d0e78d3c3fb42d2b14c871a86e3a42680285290"), looks := false }, kinds := [], alts := [], laidByText := true, laidKinds := [.data, .data, .data], laidTests := true, laidLooks := .later }
def X64ListsUptoCardSaid : Prop := Claim7.holds Tryd.pinned (.plain (OpenSpec.upto x64ListsSpec)) x64ListsUptoCard

/-- THE SECOND FORM's CARD OF 'smithylaw20.X64Whole'. -/
def x64WholeUptoCard : Claim7 := { stood := { row := x64WholeUptoRow, standIns := [], harness := (true, "588576f74b13786afeb0fef05d0e78d3c3fb42d2b14c871a86e3a42680285290"), looks := false }, kinds := [], alts := [], laidByText := true, laidKinds := [.data, .data, .data], laidTests := true, laidLooks := .later }
def X64WholeUptoCardSaid : Prop := Claim7.holds Tryd.pinned (.plain (OpenSpec.upto x64WholeSpec)) x64WholeUptoCard
end Rows
end Go.Proofs.YtjndpakhmgapjaaDoor
