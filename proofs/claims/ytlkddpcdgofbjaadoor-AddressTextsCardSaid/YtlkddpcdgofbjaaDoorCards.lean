/-
  DERIVED. GIVEN WITH THE SEED: THE CARDS: each row of YtlkddpcdgofbjaaDoorRows.lean that lists a variable, with what it lists TIED to the program's text (the seventh form; the later family's looks); each row that meets fmt, with fmt's text TOLD by the authors' own Lean function (tested against real Go, not proved from fmt's source: count such statements apart). THE CARD IS WHAT COUNTS. Prove the row's statement (the work); the ties are given (YtlkddpcdgofbjaaDoorTie.lean); close each card by the builder's one call (the guide's Derived/Test/ToyasCard.lean, 'card_holds'). Laid BY PROGRAM, IN A SANDBOX (cutbox-door.mjs). By AI agents, Wed Nov 11 2026. No macro, syntax, notation, axiom, sorry.
-/
import Derived.Test.YtlkddpcdgofbjaaDoorRows
import GoSem.ClaimSeven
namespace Go.Proofs.YtlkddpcdgofbjaaDoor
namespace Rows

/-- THE TIED CARD OF 'masterdisclaw06.AddressOrder'. -/
def addressOrderCard : Claim7 := { stood := { row := addressOrderRow, standIns := [], harness := (true, "071e1c26a4bd0a97764701d6d4e65a8e8374e4e5c53e41540b61b16c556c7f6e"), looks := true }, kinds := [], alts := [], laidByText := true, laidKinds := [.data, .data, .data], laidTests := true, laidLooks := .later }
def AddressOrderCardSaid : Prop := Claim7.holds Tryd.pinned (.plain (OpenSpec.ofChange addressOrderSpec)) addressOrderCard

/-- THE TIED CARD OF 'masterdisclaw06.AddressTexts'. -/
def addressTextsCard : Claim7 := { stood := { row := addressTextsRow, standIns := [], harness := (true, "071e1c26a4bd0a97764701d6d4e65a8e8374e4e5c53e41540b61b16c556c7f6e"), looks := true }, kinds := [], alts := [], laidByText := true, laidKinds := [.data, .data, .data, .data, .sentinel, .sentinel, .pinned], laidTests := true, laidLooks := .later }
def AddressTextsCardSaid : Prop := Claim7.holds Tryd.pinned (.plain (OpenSpec.ofChange addressTextsSpec)) addressTextsCard

/-- THE TIED CARD OF 'masterdisclaw06.AddressInverse'. -/
def addressInverseCard : Claim7 := { stood := { row := addressInverseRow, standIns := [], harness := (true, "071e1c26a4bd0a97764701d6d4e65a8e8374e4e5c53e41540b61b16c556c7f6e"), looks := true }, kinds := [], alts := [], laidByText := true, laidKinds := [.data, .data, .data, .data, .sentinel, .sentinel, .pinned], laidTests := true, laidLooks := .later }
def AddressInverseCardSaid : Prop := Claim7.holds Tryd.pinned (.plain (OpenSpec.ofChange addressInverseSpec)) addressInverseCard

/-- THE SECOND FORM's CARD OF 'masterdisclaw06.AddressOrder'. -/
def addressOrderUptoCard : Claim7 := { stood := { row := addressOrderUptoRow, standIns := [], harness := (true, "071e1c26a4bd0a97764701d6d4e65a8e8374e4e5c53e41540b61b16c556c7f6e"), looks := true }, kinds := [], alts := [], laidByText := true, laidKinds := [.data, .data, .data], laidTests := true, laidLooks := .later }
def AddressOrderUptoCardSaid : Prop := Claim7.holds Tryd.pinned (.plain (OpenSpec.upto addressOrderSpec)) addressOrderUptoCard

/-- THE SECOND FORM's CARD OF 'masterdisclaw06.AddressTexts'. -/
def addressTextsUptoCard : Claim7 := { stood := { row := addressTextsUptoRow, standIns := [], harness := (true, "071e1c26a4bd0a97764701d6d4e65a8e8374e4e5c53e41540b61b16c556c7f6e"), looks := true }, kinds := [], alts := [], laidByText := true, laidKinds := [.data, .data, .data, .data, .sentinel, .sentinel, .pinned], laidTests := true, laidLooks := .later }
def AddressTextsUptoCardSaid : Prop := Claim7.holds Tryd.pinned (.plain (OpenSpec.upto addressTextsSpec)) addressTextsUptoCard

/-- THE SECOND FORM's CARD OF 'masterdisclaw06.AddressInverse'. -/
def addressInverseUptoCard : Claim7 := { stood := { row := addressInverseUptoRow, standIns := [], harness := (true, "071e1c26a4bd0a97764701d6d4e65a8e8374e4e5c53e41540b61b16c556c7f6e"), looks := true }, kinds := [], alts := [], laidByText := true, laidKinds := [.data, .data, .data, .data, .sentinel, .sentinel, .pinned], laidTests := true, laidLooks := .later }
def AddressInverseUptoCardSaid : Prop := Claim7.holds Tryd.pinned (.plain (OpenSpec.upto addressInverseSpec)) addressInverseUptoCard
end Rows
end Go.Proofs.YtlkddpcdgofbjaaDoor
