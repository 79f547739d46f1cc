/-
  DERIVED. GIVEN WITH THE SEED: THE CARDS: each row of YtnchkpheepbacaaDoorRows.lean that lists a variable, with what it lists TIED to the program's text (the seventh form; the later family's looks); each row that meets fmt, with fmt's text TOLD by the authors' own Lean function (tested against real Go, not proved from fmt's source: count such statements apart). THE CARD IS WHAT COUNTS. Prove the row's statement (the work); the ties are given (YtnchkpheepbacaaDoorTie.lean); close each card by the builder's one call (the guide's Derived/Test/ToyasCard.lean, 'card_holds'). Laid BY PROGRAM, IN A SANDBOX (cutbox-door.mjs). By AI agents, Wed Nov 11 2026. No macro, syntax, notation, axiom, sorry.
-/
import Derived.Test.YtnchkpheepbacaaDoorRows
import GoSem.ClaimSeven
namespace Go.Proofs.YtnchkpheepbacaaDoor
namespace Rows

/-- THE TIED CARD OF 'masterdisclaw16.DatetimeClocks'. -/
def datetimeClocksCard : Claim7 := { stood := { row := datetimeClocksRow, standIns := [], harness := (true, "6a1fa25135f2994d49d6f4a5602340a8201ee02e4b341e5621e0f3a5ed6569a1"), looks := true }, kinds := [], alts := [], laidByText := true, laidKinds := [.data, .data, .data], laidTests := true, laidLooks := .later }
def DatetimeClocksCardSaid : Prop := Claim7.holds Tryd.pinned (.plain (OpenSpec.ofChange datetimeClocksSpec)) datetimeClocksCard

/-- THE TIED CARD OF 'masterdisclaw16.DatetimeOrder'. -/
def datetimeOrderCard : Claim7 := { stood := { row := datetimeOrderRow, standIns := [], harness := (true, "6a1fa25135f2994d49d6f4a5602340a8201ee02e4b341e5621e0f3a5ed6569a1"), looks := true }, kinds := [], alts := [], laidByText := true, laidKinds := [.data, .data, .data], laidTests := true, laidLooks := .later }
def DatetimeOrderCardSaid : Prop := Claim7.holds Tryd.pinned (.plain (OpenSpec.ofChange datetimeOrderSpec)) datetimeOrderCard

/-- THE TIED CARD OF 'masterdisclaw16.DatetimeDays'. -/
def datetimeDaysCard : Claim7 := { stood := { row := datetimeDaysRow, standIns := [], harness := (true, "6a1fa25135f2994d49d6f4a5602340a8201ee02e4b341e5621e0f3a5ed6569a1"), looks := true }, kinds := [], alts := [], laidByText := true, laidKinds := [.data, .data, .data], laidTests := true, laidLooks := .later }
def DatetimeDaysCardSaid : Prop := Claim7.holds Tryd.pinned (.plain (OpenSpec.ofChange datetimeDaysSpec)) datetimeDaysCard

/-- THE TIED CARD OF 'masterdisclaw16.DatetimeRecords'. -/
def datetimeRecordsCard : Claim7 := { stood := { row := datetimeRecordsRow, standIns := [], harness := (true, "6a1fa25135f2994d49d6f4a5602340a8201ee02e4b341e5621e0f3a5ed6569a1"), looks := true }, kinds := [], alts := [], laidByText := true, laidKinds := [.data, .data, .data], laidTests := true, laidLooks := .later }
def DatetimeRecordsCardSaid : Prop := Claim7.holds Tryd.pinned (.plain (OpenSpec.ofChange datetimeRecordsSpec)) datetimeRecordsCard

/-- THE TIED CARD OF 'masterdisclaw16.DatetimeStamps'. -/
def datetimeStampsCard : Claim7 := { stood := { row := datetimeStampsRow, standIns := [], harness := (true, "6a1fa25135f2994d49d6f4a5602340a8201ee02e4b341e5621e0f3a5ed6569a1"), looks := true }, kinds := [], alts := [], laidByText := true, laidKinds := [.data, .data, .data], laidTests := true, laidLooks := .later }
def DatetimeStampsCardSaid : Prop := Claim7.holds Tryd.pinned (.plain (OpenSpec.ofChange datetimeStampsSpec)) datetimeStampsCard

/-- THE TIED CARD OF 'masterdisclaw16.DatetimeZones'. -/
def datetimeZonesCard : Claim7 := { stood := { row := datetimeZonesRow, standIns := [], harness := (true, "6a1fa25135f2994d49d6f4a5602340a8201ee02e4b341e5621e0f3a5ed6569a1"), looks := true }, kinds := [], alts := [], laidByText := true, laidKinds := [.data, .data, .data], laidTests := true, laidLooks := .later }
def DatetimeZonesCardSaid : Prop := Claim7.holds Tryd.pinned (.plain (OpenSpec.ofChange datetimeZonesSpec)) datetimeZonesCard

/-- THE TIED CARD OF 'masterdisclaw16.DatetimeDescriptors'. -/
def datetimeDescriptorsCard : Claim7 := { stood := { row := datetimeDescriptorsRow, standIns := [], harness := (true, "6a1fa25135f2994d49d6f4a5602340a8201ee02e4b341e5621e0f3a5ed6569a1"), looks := true }, kinds := [], alts := [], laidByText := true, laidKinds := [.data, .data, .data, .sentinel, .sentinel], laidTests := true, laidLooks := .later }
def DatetimeDescriptorsCardSaid : Prop := Claim7.holds Tryd.pinned (.plain (OpenSpec.ofChange datetimeDescriptorsSpec)) datetimeDescriptorsCard

/-- THE TIED CARD OF 'masterdisclaw16.DatetimeReturns'. -/
def datetimeReturnsCard : Claim7 := { stood := { row := datetimeReturnsRow, standIns := [], harness := (true, "6a1fa25135f2994d49d6f4a5602340a8201ee02e4b341e5621e0f3a5ed6569a1"), looks := true }, kinds := [], alts := [], laidByText := true, laidKinds := [.data, .data, .data, .sentinel, .sentinel], laidTests := true, laidLooks := .later }
def DatetimeReturnsCardSaid : Prop := Claim7.holds Tryd.pinned (.plain (OpenSpec.ofChange datetimeReturnsSpec)) datetimeReturnsCard

/-- THE SECOND FORM's CARD OF 'masterdisclaw16.DatetimeClocks'. -/
def datetimeClocksUptoCard : Claim7 := { stood := { row := datetimeClocksUptoRow, standIns := [], harness := (true, "6a1fa25135f2994d49d6f4a5602340a8201ee02e4b341e5621e0f3a5ed6569a1"), looks := true }, kinds := [], alts := [], laidByText := true, laidKinds := [.data, .data, .data], laidTests := true, laidLooks := .later }
def DatetimeClocksUptoCardSaid : Prop := Claim7.holds Tryd.pinned (.plain (OpenSpec.upto datetimeClocksSpec)) datetimeClocksUptoCard

/-- THE SECOND FORM's CARD OF 'masterdisclaw16.DatetimeOrder'. -/
def datetimeOrderUptoCard : Claim7 := { stood := { row := datetimeOrderUptoRow, standIns := [], harness := (true, "6a1fa25135f2994d49d6f4a5602340a8201ee02e4b341e5621e0f3a5ed6569a1"), looks := true }, kinds := [], alts := [], laidByText := true, laidKinds := [.data, .data, .data], laidTests := true, laidLooks := .later }
def DatetimeOrderUptoCardSaid : Prop := Claim7.holds Tryd.pinned (.plain (OpenSpec.upto datetimeOrderSpec)) datetimeOrderUptoCard

/-- THE SECOND FORM's CARD OF 'masterdisclaw16.DatetimeDays'. -/
def datetimeDaysUptoCard : Claim7 := { stood := { row := datetimeDaysUptoRow, standIns := [], harness := (true, "6a1fa25135f2994d49d6f4a5602340a8201ee02e4b341e5621e0f3a5ed6569a1"), looks := true }, kinds := [], alts := [], laidByText := true, laidKinds := [.data, .data, .data], laidTests := true, laidLooks := .later }
def DatetimeDaysUptoCardSaid : Prop := Claim7.holds Tryd.pinned (.plain (OpenSpec.upto datetimeDaysSpec)) datetimeDaysUptoCard

/-- THE SECOND FORM's CARD OF 'masterdisclaw16.DatetimeRecords'. -/
def datetimeRecordsUptoCard : Claim7 := { stood := { row := datetimeRecordsUptoRow, standIns := [], harness := (true, "6a1fa25135f2994d49d6f4a5602340a8201ee02e4b341e5621e0f3a5ed6569a1"), looks := true }, kinds := [], alts := [], laidByText := true, laidKinds := [.data, .data, .data], laidTests := true, laidLooks := .later }
def DatetimeRecordsUptoCardSaid : Prop := Claim7.holds Tryd.pinned (.plain (OpenSpec.upto datetimeRecordsSpec)) datetimeRecordsUptoCard

/-- THE SECOND FORM's CARD OF 'masterdisclaw16.DatetimeStamps'. -/
def datetimeStampsUptoCard : Claim7 := { stood := { row := datetimeStampsUptoRow, standIns := [], harness := (true, "6a1fa25135f2994d49d6f4a5602340a8201ee02e4b341e5621e0f3a5ed6569a1"), looks := true }, kinds := [], alts := [], laidByText := true, laidKinds := [.data, .data, .data], laidTests := true, laidLooks := .later }
def DatetimeStampsUptoCardSaid : Prop := Claim7.holds Tryd.pinned (.plain (OpenSpec.upto datetimeStampsSpec)) datetimeStampsUptoCard

/-- THE SECOND FORM's CARD OF 'masterdisclaw16.DatetimeZones'. -/
def datetimeZonesUptoCard : Claim7 := { stood := { row := datetimeZonesUptoRow, standIns := [], harness := (true, "6a1fa25135f2994d49d6f4a5602340a8201ee02e4b341e5621e0f3a5ed6569a1"), looks := true }, kinds := [], alts := [], laidByText := true, laidKinds := [.data, .data, .data], laidTests := true, laidLooks := .later }
def DatetimeZonesUptoCardSaid : Prop := Claim7.holds Tryd.pinned (.plain (OpenSpec.upto datetimeZonesSpec)) datetimeZonesUptoCard

/-- THE SECOND FORM's CARD OF 'masterdisclaw16.DatetimeDescriptors'. -/
def datetimeDescriptorsUptoCard : Claim7 := { stood := { row := datetimeDescriptorsUptoRow, standIns := [], harness := (true, "6a1fa25135f2994d49d6f4a5602340a8201ee02e4b341e5621e0f3a5ed6569a1"), looks := true }, kinds := [], alts := [], laidByText := true, laidKinds := [.data, .data, .data, .sentinel, .sentinel], laidTests := true, laidLooks := .later }
def DatetimeDescriptorsUptoCardSaid : Prop := Claim7.holds Tryd.pinned (.plain (OpenSpec.upto datetimeDescriptorsSpec)) datetimeDescriptorsUptoCard

/-- THE SECOND FORM's CARD OF 'masterdisclaw16.DatetimeReturns'. -/
def datetimeReturnsUptoCard : Claim7 := { stood := { row := datetimeReturnsUptoRow, standIns := [], harness := (true, "6a1fa25135f2994d49d6f4a5602340a8201ee02e4b341e5621e0f3a5ed6569a1"), looks := true }, kinds := [], alts := [], laidByText := true, laidKinds := [.data, .data, .data, .sentinel, .sentinel], laidTests := true, laidLooks := .later }
def DatetimeReturnsUptoCardSaid : Prop := Claim7.holds Tryd.pinned (.plain (OpenSpec.upto datetimeReturnsSpec)) datetimeReturnsUptoCard
end Rows
end Go.Proofs.YtnchkpheepbacaaDoor
