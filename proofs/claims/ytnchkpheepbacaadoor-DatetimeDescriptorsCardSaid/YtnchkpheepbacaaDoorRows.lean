/-
  NARROWER THAN 'FOR EVERY INPUT', by the rows' own cells (each row's printed sentence says how): DatetimeClocks: laid · DatetimeOrder: laid · DatetimeDays: laid · DatetimeRecords: laid · DatetimeStamps: laid · DatetimeZones: laid · DatetimeDescriptors: laid · DatetimeReturns: laid.
  DERIVED. THE GIVEN ROWS OF THIS SEAT. 8 by the template 'for every input the law returns true; each argument reads behind the call as it read before'; 0 by the template 'total and deterministic' (their statements: YtnchkpheepbacaaDoorTotals.lean).
  GIVEN WITH THE SEED: the statements are not yours to turn. If you find one false, say at which input.
  Laid BY PROGRAM, IN A SANDBOX (cutbox-rows.mjs): the forced cells as the released guide's own fill.sh prints them over the translation ef24bde72b25b811… (all of the seat's roots in one cut). By AI agents, Wed Nov 11 2026. No macro, syntax, notation, axiom, sorry.
-/
import Derived.Test.YtnchkpheepbacaaDoorChecked
import GoSem.Claim
import GoSem.ClaimJoined
import GoSem.ClaimMapViews
import Derived.JoinedTies
import Derived.KernelRfl
namespace Go.Proofs.YtnchkpheepbacaaDoor
/- THE CELL 'sum', in the pinned program and in every row, IS THE sha256 OF THE DUMP (.gsa) THAT YtnchkpheepbacaaDoorProg.lean LOADS. Nothing in Lean hashes anything: it is a label: what it is worth is what the hold of that sum in a sandbox is worth. -/
noncomputable def Tryd.pinned : Pinned := { name := "ytnchkpheepbacaadoor", sum := "ef24bde72b25b8117413a97a25862e04214e5aab402fa76e1e7f83c4c1737ec2", checked := Tryd.checked }
namespace Rows
def none {H : Type} : Left H := { results := [], args := [] }

/- WHAT THE LISTED PACKAGE-LEVEL VARIABLES READ AS WHEN THE CALL BEGINS. Each datum BY PROGRAM (the guide's laid-datum.mjs) off the statement by which the dump's own 'gosem.cut.vars' lays the variable. In a bare row this is a premise. The card (YtnchkpheepbacaaDoorCards.lean) ties it to the program's text. -/
def laid_math_bits_deBruijn32tab {H : Type} : DataW H := .agg [.lit (.int .u8 0), .lit (.int .u8 1), .lit (.int .u8 28), .lit (.int .u8 2), .lit (.int .u8 29), .lit (.int .u8 14), .lit (.int .u8 24), .lit (.int .u8 3), .lit (.int .u8 30), .lit (.int .u8 22), .lit (.int .u8 20), .lit (.int .u8 15), .lit (.int .u8 25), .lit (.int .u8 17), .lit (.int .u8 4), .lit (.int .u8 8), .lit (.int .u8 31), .lit (.int .u8 27), .lit (.int .u8 13), .lit (.int .u8 23), .lit (.int .u8 21), .lit (.int .u8 19), .lit (.int .u8 16), .lit (.int .u8 7), .lit (.int .u8 26), .lit (.int .u8 12), .lit (.int .u8 18), .lit (.int .u8 6), .lit (.int .u8 11), .lit (.int .u8 5), .lit (.int .u8 10), .lit (.int .u8 9)]
def laid_math_bits_deBruijn64tab {H : Type} : DataW H := .agg [.lit (.int .u8 0), .lit (.int .u8 1), .lit (.int .u8 56), .lit (.int .u8 2), .lit (.int .u8 57), .lit (.int .u8 49), .lit (.int .u8 28), .lit (.int .u8 3), .lit (.int .u8 61), .lit (.int .u8 58), .lit (.int .u8 42), .lit (.int .u8 50), .lit (.int .u8 38), .lit (.int .u8 29), .lit (.int .u8 17), .lit (.int .u8 4), .lit (.int .u8 62), .lit (.int .u8 47), .lit (.int .u8 59), .lit (.int .u8 36), .lit (.int .u8 45), .lit (.int .u8 43), .lit (.int .u8 51), .lit (.int .u8 22), .lit (.int .u8 53), .lit (.int .u8 39), .lit (.int .u8 33), .lit (.int .u8 30), .lit (.int .u8 24), .lit (.int .u8 18), .lit (.int .u8 12), .lit (.int .u8 5), .lit (.int .u8 63), .lit (.int .u8 55), .lit (.int .u8 48), .lit (.int .u8 27), .lit (.int .u8 60), .lit (.int .u8 41), .lit (.int .u8 37), .lit (.int .u8 16), .lit (.int .u8 46), .lit (.int .u8 35), .lit (.int .u8 44), .lit (.int .u8 21), .lit (.int .u8 52), .lit (.int .u8 32), .lit (.int .u8 23), .lit (.int .u8 11), .lit (.int .u8 54), .lit (.int .u8 26), .lit (.int .u8 40), .lit (.int .u8 15), .lit (.int .u8 34), .lit (.int .u8 20), .lit (.int .u8 31), .lit (.int .u8 10), .lit (.int .u8 25), .lit (.int .u8 14), .lit (.int .u8 19), .lit (.int .u8 9), .lit (.int .u8 13), .lit (.int .u8 8), .lit (.int .u8 7), .lit (.int .u8 6)]
def laid_internal_strconv_uint64pow10 {H : Type} : DataW H := .agg [.lit (.int .u64 1), .lit (.int .u64 10), .lit (.int .u64 100), .lit (.int .u64 1000), .lit (.int .u64 10000), .lit (.int .u64 100000), .lit (.int .u64 1000000), .lit (.int .u64 10000000), .lit (.int .u64 100000000), .lit (.int .u64 1000000000), .lit (.int .u64 10000000000), .lit (.int .u64 100000000000), .lit (.int .u64 1000000000000), .lit (.int .u64 10000000000000), .lit (.int .u64 100000000000000), .lit (.int .u64 1000000000000000), .lit (.int .u64 10000000000000000), .lit (.int .u64 100000000000000000), .lit (.int .u64 1000000000000000000), .lit (.int .u64 10000000000000000000)]
def laid_strconv_ErrRange {H : Type} : DataW H := .iface "*errors.errorString" (.ptr (.agg [.lit (.string [118, 97, 108, 117, 101, 32, 111, 117, 116, 32, 111, 102, 32, 114, 97, 110, 103, 101])]))
def laid_strconv_ErrSyntax {H : Type} : DataW H := .iface "*errors.errorString" (.ptr (.agg [.lit (.string [105, 110, 118, 97, 108, 105, 100, 32, 115, 121, 110, 116, 97, 120])]))

/-- 'masterdisclaw16.DatetimeClocks': WHATEVER THE INPUT: true; the input reads as it did. -/
def datetimeClocksSpec : ChangeSpec := { name := "datetimeClocks", fn := fun _ => fun
  | [d1, d2, d3] => { results := [.lit (.bool true)], args := [d1, d2, d3] }
  | _ => none }
def datetimeClocksRow : OpenClaim := { program := "ytnchkpheepbacaadoor", sum := "ef24bde72b25b8117413a97a25862e04214e5aab402fa76e1e7f83c4c1737ec2", func := "masterdisc/masterdisclaw16.DatetimeClocks", spec := "datetimeClocks", unfollowed := true, recurses := true, named := ["internal/strconv.uint64pow10", "math/bits.deBruijn32tab", "math/bits.deBruijn64tab"], apart := false, laid := [("math/bits.deBruijn32tab", laid_math_bits_deBruijn32tab), ("math/bits.deBruijn64tab", laid_math_bits_deBruijn64tab), ("internal/strconv.uint64pow10", laid_internal_strconv_uint64pow10)] }
def DatetimeClocksSaid : Prop := datetimeClocksRow.holds Tryd.pinned (OpenSpec.ofChange datetimeClocksSpec)

/-- ITS FALSE NEIGHBOUR: 'it returns false'. Refute it at one input. -/
def datetimeClocksWrong : ChangeSpec := { name := "datetimeClocks", fn := fun _ => fun
  | [d1, d2, d3] => { results := [.lit (.bool false)], args := [d1, d2, d3] }
  | _ => none }
def DatetimeClocksWrongFalsely : Prop := datetimeClocksRow.holds Tryd.pinned (OpenSpec.ofChange datetimeClocksWrong)

/-- 'masterdisclaw16.DatetimeOrder': WHATEVER THE INPUT: true; the input reads as it did. -/
def datetimeOrderSpec : ChangeSpec := { name := "datetimeOrder", fn := fun _ => fun
  | [d1, d2, d3] => { results := [.lit (.bool true)], args := [d1, d2, d3] }
  | _ => none }
def datetimeOrderRow : OpenClaim := { program := "ytnchkpheepbacaadoor", sum := "ef24bde72b25b8117413a97a25862e04214e5aab402fa76e1e7f83c4c1737ec2", func := "masterdisc/masterdisclaw16.DatetimeOrder", spec := "datetimeOrder", unfollowed := true, recurses := true, named := ["internal/strconv.uint64pow10", "math/bits.deBruijn32tab", "math/bits.deBruijn64tab"], apart := false, laid := [("math/bits.deBruijn32tab", laid_math_bits_deBruijn32tab), ("math/bits.deBruijn64tab", laid_math_bits_deBruijn64tab), ("internal/strconv.uint64pow10", laid_internal_strconv_uint64pow10)] }
def DatetimeOrderSaid : Prop := datetimeOrderRow.holds Tryd.pinned (OpenSpec.ofChange datetimeOrderSpec)

/-- ITS FALSE NEIGHBOUR: 'it returns false'. Refute it at one input. -/
def datetimeOrderWrong : ChangeSpec := { name := "datetimeOrder", fn := fun _ => fun
  | [d1, d2, d3] => { results := [.lit (.bool false)], args := [d1, d2, d3] }
  | _ => none }
def DatetimeOrderWrongFalsely : Prop := datetimeOrderRow.holds Tryd.pinned (OpenSpec.ofChange datetimeOrderWrong)

/-- 'masterdisclaw16.DatetimeDays': WHATEVER THE INPUT: true; the input reads as it did. -/
def datetimeDaysSpec : ChangeSpec := { name := "datetimeDays", fn := fun _ => fun
  | [d1, d2, d3] => { results := [.lit (.bool true)], args := [d1, d2, d3] }
  | _ => none }
def datetimeDaysRow : OpenClaim := { program := "ytnchkpheepbacaadoor", sum := "ef24bde72b25b8117413a97a25862e04214e5aab402fa76e1e7f83c4c1737ec2", func := "masterdisc/masterdisclaw16.DatetimeDays", spec := "datetimeDays", unfollowed := true, recurses := true, named := ["internal/strconv.uint64pow10", "math/bits.deBruijn32tab", "math/bits.deBruijn64tab"], apart := false, laid := [("math/bits.deBruijn32tab", laid_math_bits_deBruijn32tab), ("math/bits.deBruijn64tab", laid_math_bits_deBruijn64tab), ("internal/strconv.uint64pow10", laid_internal_strconv_uint64pow10)] }
def DatetimeDaysSaid : Prop := datetimeDaysRow.holds Tryd.pinned (OpenSpec.ofChange datetimeDaysSpec)

/-- ITS FALSE NEIGHBOUR: 'it returns false'. Refute it at one input. -/
def datetimeDaysWrong : ChangeSpec := { name := "datetimeDays", fn := fun _ => fun
  | [d1, d2, d3] => { results := [.lit (.bool false)], args := [d1, d2, d3] }
  | _ => none }
def DatetimeDaysWrongFalsely : Prop := datetimeDaysRow.holds Tryd.pinned (OpenSpec.ofChange datetimeDaysWrong)

/-- 'masterdisclaw16.DatetimeRecords': WHATEVER THE INPUT: true; the input reads as it did. -/
def datetimeRecordsSpec : ChangeSpec := { name := "datetimeRecords", fn := fun _ => fun
  | [d1, d2, d3] => { results := [.lit (.bool true)], args := [d1, d2, d3] }
  | _ => none }
def datetimeRecordsRow : OpenClaim := { program := "ytnchkpheepbacaadoor", sum := "ef24bde72b25b8117413a97a25862e04214e5aab402fa76e1e7f83c4c1737ec2", func := "masterdisc/masterdisclaw16.DatetimeRecords", spec := "datetimeRecords", unfollowed := true, recurses := true, named := ["internal/strconv.uint64pow10", "math/bits.deBruijn32tab", "math/bits.deBruijn64tab"], apart := false, laid := [("math/bits.deBruijn32tab", laid_math_bits_deBruijn32tab), ("math/bits.deBruijn64tab", laid_math_bits_deBruijn64tab), ("internal/strconv.uint64pow10", laid_internal_strconv_uint64pow10)] }
def DatetimeRecordsSaid : Prop := datetimeRecordsRow.holds Tryd.pinned (OpenSpec.ofChange datetimeRecordsSpec)

/-- ITS FALSE NEIGHBOUR: 'it returns false'. Refute it at one input. -/
def datetimeRecordsWrong : ChangeSpec := { name := "datetimeRecords", fn := fun _ => fun
  | [d1, d2, d3] => { results := [.lit (.bool false)], args := [d1, d2, d3] }
  | _ => none }
def DatetimeRecordsWrongFalsely : Prop := datetimeRecordsRow.holds Tryd.pinned (OpenSpec.ofChange datetimeRecordsWrong)

/-- 'masterdisclaw16.DatetimeStamps': WHATEVER THE INPUT: true; the input reads as it did. -/
def datetimeStampsSpec : ChangeSpec := { name := "datetimeStamps", fn := fun _ => fun
  | [d1, d2, d3] => { results := [.lit (.bool true)], args := [d1, d2, d3] }
  | _ => none }
def datetimeStampsRow : OpenClaim := { program := "ytnchkpheepbacaadoor", sum := "ef24bde72b25b8117413a97a25862e04214e5aab402fa76e1e7f83c4c1737ec2", func := "masterdisc/masterdisclaw16.DatetimeStamps", spec := "datetimeStamps", unfollowed := true, recurses := true, named := ["internal/strconv.uint64pow10", "math/bits.deBruijn32tab", "math/bits.deBruijn64tab"], apart := false, laid := [("math/bits.deBruijn32tab", laid_math_bits_deBruijn32tab), ("math/bits.deBruijn64tab", laid_math_bits_deBruijn64tab), ("internal/strconv.uint64pow10", laid_internal_strconv_uint64pow10)] }
def DatetimeStampsSaid : Prop := datetimeStampsRow.holds Tryd.pinned (OpenSpec.ofChange datetimeStampsSpec)

/-- ITS FALSE NEIGHBOUR: 'it returns false'. Refute it at one input. -/
def datetimeStampsWrong : ChangeSpec := { name := "datetimeStamps", fn := fun _ => fun
  | [d1, d2, d3] => { results := [.lit (.bool false)], args := [d1, d2, d3] }
  | _ => none }
def DatetimeStampsWrongFalsely : Prop := datetimeStampsRow.holds Tryd.pinned (OpenSpec.ofChange datetimeStampsWrong)

/-- 'masterdisclaw16.DatetimeZones': WHATEVER THE INPUT: true; the input reads as it did. -/
def datetimeZonesSpec : ChangeSpec := { name := "datetimeZones", fn := fun _ => fun
  | [d1, d2, d3] => { results := [.lit (.bool true)], args := [d1, d2, d3] }
  | _ => none }
def datetimeZonesRow : OpenClaim := { program := "ytnchkpheepbacaadoor", sum := "ef24bde72b25b8117413a97a25862e04214e5aab402fa76e1e7f83c4c1737ec2", func := "masterdisc/masterdisclaw16.DatetimeZones", spec := "datetimeZones", unfollowed := true, recurses := true, named := ["internal/strconv.uint64pow10", "math/bits.deBruijn32tab", "math/bits.deBruijn64tab"], apart := false, laid := [("math/bits.deBruijn32tab", laid_math_bits_deBruijn32tab), ("math/bits.deBruijn64tab", laid_math_bits_deBruijn64tab), ("internal/strconv.uint64pow10", laid_internal_strconv_uint64pow10)] }
def DatetimeZonesSaid : Prop := datetimeZonesRow.holds Tryd.pinned (OpenSpec.ofChange datetimeZonesSpec)

/-- ITS FALSE NEIGHBOUR: 'it returns false'. Refute it at one input. -/
def datetimeZonesWrong : ChangeSpec := { name := "datetimeZones", fn := fun _ => fun
  | [d1, d2, d3] => { results := [.lit (.bool false)], args := [d1, d2, d3] }
  | _ => none }
def DatetimeZonesWrongFalsely : Prop := datetimeZonesRow.holds Tryd.pinned (OpenSpec.ofChange datetimeZonesWrong)

/-- 'masterdisclaw16.DatetimeDescriptors': WHATEVER THE INPUT: true; the input reads as it did. -/
def datetimeDescriptorsSpec : ChangeSpec := { name := "datetimeDescriptors", fn := fun _ => fun
  | [d1, d2, d3] => { results := [.lit (.bool true)], args := [d1, d2, d3] }
  | _ => none }
def datetimeDescriptorsRow : OpenClaim := { program := "ytnchkpheepbacaadoor", sum := "ef24bde72b25b8117413a97a25862e04214e5aab402fa76e1e7f83c4c1737ec2", func := "masterdisc/masterdisclaw16.DatetimeDescriptors", spec := "datetimeDescriptors", unfollowed := true, recurses := true, named := ["internal/strconv.uint64pow10", "math/bits.deBruijn32tab", "math/bits.deBruijn64tab", "strconv.ErrSyntax", "strconv.ErrRange"], apart := false, laid := [("math/bits.deBruijn32tab", laid_math_bits_deBruijn32tab), ("math/bits.deBruijn64tab", laid_math_bits_deBruijn64tab), ("internal/strconv.uint64pow10", laid_internal_strconv_uint64pow10), ("strconv.ErrRange", laid_strconv_ErrRange), ("strconv.ErrSyntax", laid_strconv_ErrSyntax)] }
def DatetimeDescriptorsSaid : Prop := datetimeDescriptorsRow.holds Tryd.pinned (OpenSpec.ofChange datetimeDescriptorsSpec)

/-- ITS FALSE NEIGHBOUR: 'it returns false'. Refute it at one input. -/
def datetimeDescriptorsWrong : ChangeSpec := { name := "datetimeDescriptors", fn := fun _ => fun
  | [d1, d2, d3] => { results := [.lit (.bool false)], args := [d1, d2, d3] }
  | _ => none }
def DatetimeDescriptorsWrongFalsely : Prop := datetimeDescriptorsRow.holds Tryd.pinned (OpenSpec.ofChange datetimeDescriptorsWrong)

/-- 'masterdisclaw16.DatetimeReturns': WHATEVER THE INPUT: true; the input reads as it did. -/
def datetimeReturnsSpec : ChangeSpec := { name := "datetimeReturns", fn := fun _ => fun
  | [d1, d2, d3] => { results := [.lit (.bool true)], args := [d1, d2, d3] }
  | _ => none }
def datetimeReturnsRow : OpenClaim := { program := "ytnchkpheepbacaadoor", sum := "ef24bde72b25b8117413a97a25862e04214e5aab402fa76e1e7f83c4c1737ec2", func := "masterdisc/masterdisclaw16.DatetimeReturns", spec := "datetimeReturns", unfollowed := true, recurses := true, named := ["internal/strconv.uint64pow10", "math/bits.deBruijn32tab", "math/bits.deBruijn64tab", "strconv.ErrSyntax", "strconv.ErrRange"], apart := false, laid := [("math/bits.deBruijn32tab", laid_math_bits_deBruijn32tab), ("math/bits.deBruijn64tab", laid_math_bits_deBruijn64tab), ("internal/strconv.uint64pow10", laid_internal_strconv_uint64pow10), ("strconv.ErrRange", laid_strconv_ErrRange), ("strconv.ErrSyntax", laid_strconv_ErrSyntax)] }
def DatetimeReturnsSaid : Prop := datetimeReturnsRow.holds Tryd.pinned (OpenSpec.ofChange datetimeReturnsSpec)

/-- ITS FALSE NEIGHBOUR: 'it returns false'. Refute it at one input. -/
def datetimeReturnsWrong : ChangeSpec := { name := "datetimeReturns", fn := fun _ => fun
  | [d1, d2, d3] => { results := [.lit (.bool false)], args := [d1, d2, d3] }
  | _ => none }
def DatetimeReturnsWrongFalsely : Prop := datetimeReturnsRow.holds Tryd.pinned (OpenSpec.ofChange datetimeReturnsWrong)

/- THE SECOND FORM. 'bulk': how many values and letters a reading holds, each counted each time it is reached (what is shared counts as often as it is met; a slice's spare places count too). A statement '..UptoSaid' is the law's where the arguments, and the package variables that the reading takes, are together of bulk at most 1048576: NARROWER than '..Said'. Prove '..Said' where nothing that the law and all that it calls make is longer than what came in: it says more and counts as full. Else prove '..UptoSaid'. A law counts once. -/
mutual
def uptoBulk {H : Type} : DataW H → Nat
  | .lit (.string bytes) => bytes.length + 1
  | .lit _ => 1
  | .nil => 1
  | .ptr d => uptoBulk d + 1
  | .slice elems spare => uptoBulkAll elems + uptoBulkAll spare + 1
  | .agg parts => uptoBulkAll parts + 1
  | .iface _ d => uptoBulk d + 1
  | .map entries => uptoBulkEntries entries + 1
  | .held _ => 1
def uptoBulkAll {H : Type} : List (DataW H) → Nat
  | [] => 0
  | d :: r => uptoBulk d + uptoBulkAll r
def uptoBulkEntries {H : Type} : List (Lit × DataW H) → Nat
  | [] => 0
  | x :: r => uptoBulkEntry x + uptoBulkEntries r
def uptoBulkEntry {H : Type} : Lit × DataW H → Nat
  | (.string bytes, d) => bytes.length + uptoBulk d + 1
  | (_, d) => uptoBulk d + 1
 end
def uptoSmall : (H : Type) → List (DataW H) → Bool := fun _ ds => decide (uptoBulkAll ds ≤ 1048576)
def OpenSpec.upto (s : _root_.Go.ChangeSpec) : _root_.Go.OpenSpec := { _root_.Go.OpenSpec.ofChange s with cond := some uptoSmall }

/-- 'masterdisclaw16.DatetimeClocks', WHERE WHAT IT READS IS OF BULK AT MOST 1048576: true; the input reads as it did. -/
def datetimeClocksUptoRow : OpenClaim := { program := "ytnchkpheepbacaadoor", sum := "ef24bde72b25b8117413a97a25862e04214e5aab402fa76e1e7f83c4c1737ec2", func := "masterdisc/masterdisclaw16.DatetimeClocks", spec := "datetimeClocks", unfollowed := true, recurses := true, named := ["internal/strconv.uint64pow10", "math/bits.deBruijn32tab", "math/bits.deBruijn64tab"], apart := false, laid := [("math/bits.deBruijn32tab", laid_math_bits_deBruijn32tab), ("math/bits.deBruijn64tab", laid_math_bits_deBruijn64tab), ("internal/strconv.uint64pow10", laid_internal_strconv_uint64pow10)], narrowed := true }
def DatetimeClocksUptoSaid : Prop := datetimeClocksUptoRow.holds Tryd.pinned (OpenSpec.upto datetimeClocksSpec)

/-- 'masterdisclaw16.DatetimeOrder', WHERE WHAT IT READS IS OF BULK AT MOST 1048576: true; the input reads as it did. -/
def datetimeOrderUptoRow : OpenClaim := { program := "ytnchkpheepbacaadoor", sum := "ef24bde72b25b8117413a97a25862e04214e5aab402fa76e1e7f83c4c1737ec2", func := "masterdisc/masterdisclaw16.DatetimeOrder", spec := "datetimeOrder", unfollowed := true, recurses := true, named := ["internal/strconv.uint64pow10", "math/bits.deBruijn32tab", "math/bits.deBruijn64tab"], apart := false, laid := [("math/bits.deBruijn32tab", laid_math_bits_deBruijn32tab), ("math/bits.deBruijn64tab", laid_math_bits_deBruijn64tab), ("internal/strconv.uint64pow10", laid_internal_strconv_uint64pow10)], narrowed := true }
def DatetimeOrderUptoSaid : Prop := datetimeOrderUptoRow.holds Tryd.pinned (OpenSpec.upto datetimeOrderSpec)

/-- 'masterdisclaw16.DatetimeDays', WHERE WHAT IT READS IS OF BULK AT MOST 1048576: true; the input reads as it did. -/
def datetimeDaysUptoRow : OpenClaim := { program := "ytnchkpheepbacaadoor", sum := "ef24bde72b25b8117413a97a25862e04214e5aab402fa76e1e7f83c4c1737ec2", func := "masterdisc/masterdisclaw16.DatetimeDays", spec := "datetimeDays", unfollowed := true, recurses := true, named := ["internal/strconv.uint64pow10", "math/bits.deBruijn32tab", "math/bits.deBruijn64tab"], apart := false, laid := [("math/bits.deBruijn32tab", laid_math_bits_deBruijn32tab), ("math/bits.deBruijn64tab", laid_math_bits_deBruijn64tab), ("internal/strconv.uint64pow10", laid_internal_strconv_uint64pow10)], narrowed := true }
def DatetimeDaysUptoSaid : Prop := datetimeDaysUptoRow.holds Tryd.pinned (OpenSpec.upto datetimeDaysSpec)

/-- 'masterdisclaw16.DatetimeRecords', WHERE WHAT IT READS IS OF BULK AT MOST 1048576: true; the input reads as it did. -/
def datetimeRecordsUptoRow : OpenClaim := { program := "ytnchkpheepbacaadoor", sum := "ef24bde72b25b8117413a97a25862e04214e5aab402fa76e1e7f83c4c1737ec2", func := "masterdisc/masterdisclaw16.DatetimeRecords", spec := "datetimeRecords", unfollowed := true, recurses := true, named := ["internal/strconv.uint64pow10", "math/bits.deBruijn32tab", "math/bits.deBruijn64tab"], apart := false, laid := [("math/bits.deBruijn32tab", laid_math_bits_deBruijn32tab), ("math/bits.deBruijn64tab", laid_math_bits_deBruijn64tab), ("internal/strconv.uint64pow10", laid_internal_strconv_uint64pow10)], narrowed := true }
def DatetimeRecordsUptoSaid : Prop := datetimeRecordsUptoRow.holds Tryd.pinned (OpenSpec.upto datetimeRecordsSpec)

/-- 'masterdisclaw16.DatetimeStamps', WHERE WHAT IT READS IS OF BULK AT MOST 1048576: true; the input reads as it did. -/
def datetimeStampsUptoRow : OpenClaim := { program := "ytnchkpheepbacaadoor", sum := "ef24bde72b25b8117413a97a25862e04214e5aab402fa76e1e7f83c4c1737ec2", func := "masterdisc/masterdisclaw16.DatetimeStamps", spec := "datetimeStamps", unfollowed := true, recurses := true, named := ["internal/strconv.uint64pow10", "math/bits.deBruijn32tab", "math/bits.deBruijn64tab"], apart := false, laid := [("math/bits.deBruijn32tab", laid_math_bits_deBruijn32tab), ("math/bits.deBruijn64tab", laid_math_bits_deBruijn64tab), ("internal/strconv.uint64pow10", laid_internal_strconv_uint64pow10)], narrowed := true }
def DatetimeStampsUptoSaid : Prop := datetimeStampsUptoRow.holds Tryd.pinned (OpenSpec.upto datetimeStampsSpec)

/-- 'masterdisclaw16.DatetimeZones', WHERE WHAT IT READS IS OF BULK AT MOST 1048576: true; the input reads as it did. -/
def datetimeZonesUptoRow : OpenClaim := { program := "ytnchkpheepbacaadoor", sum := "ef24bde72b25b8117413a97a25862e04214e5aab402fa76e1e7f83c4c1737ec2", func := "masterdisc/masterdisclaw16.DatetimeZones", spec := "datetimeZones", unfollowed := true, recurses := true, named := ["internal/strconv.uint64pow10", "math/bits.deBruijn32tab", "math/bits.deBruijn64tab"], apart := false, laid := [("math/bits.deBruijn32tab", laid_math_bits_deBruijn32tab), ("math/bits.deBruijn64tab", laid_math_bits_deBruijn64tab), ("internal/strconv.uint64pow10", laid_internal_strconv_uint64pow10)], narrowed := true }
def DatetimeZonesUptoSaid : Prop := datetimeZonesUptoRow.holds Tryd.pinned (OpenSpec.upto datetimeZonesSpec)

/-- 'masterdisclaw16.DatetimeDescriptors', WHERE WHAT IT READS IS OF BULK AT MOST 1048576: true; the input reads as it did. -/
def datetimeDescriptorsUptoRow : OpenClaim := { program := "ytnchkpheepbacaadoor", sum := "ef24bde72b25b8117413a97a25862e04214e5aab402fa76e1e7f83c4c1737ec2", func := "masterdisc/masterdisclaw16.DatetimeDescriptors", spec := "datetimeDescriptors", unfollowed := true, recurses := true, named := ["internal/strconv.uint64pow10", "math/bits.deBruijn32tab", "math/bits.deBruijn64tab", "strconv.ErrSyntax", "strconv.ErrRange"], apart := false, laid := [("math/bits.deBruijn32tab", laid_math_bits_deBruijn32tab), ("math/bits.deBruijn64tab", laid_math_bits_deBruijn64tab), ("internal/strconv.uint64pow10", laid_internal_strconv_uint64pow10), ("strconv.ErrRange", laid_strconv_ErrRange), ("strconv.ErrSyntax", laid_strconv_ErrSyntax)], narrowed := true }
def DatetimeDescriptorsUptoSaid : Prop := datetimeDescriptorsUptoRow.holds Tryd.pinned (OpenSpec.upto datetimeDescriptorsSpec)

/-- 'masterdisclaw16.DatetimeReturns', WHERE WHAT IT READS IS OF BULK AT MOST 1048576: true; the input reads as it did. -/
def datetimeReturnsUptoRow : OpenClaim := { program := "ytnchkpheepbacaadoor", sum := "ef24bde72b25b8117413a97a25862e04214e5aab402fa76e1e7f83c4c1737ec2", func := "masterdisc/masterdisclaw16.DatetimeReturns", spec := "datetimeReturns", unfollowed := true, recurses := true, named := ["internal/strconv.uint64pow10", "math/bits.deBruijn32tab", "math/bits.deBruijn64tab", "strconv.ErrSyntax", "strconv.ErrRange"], apart := false, laid := [("math/bits.deBruijn32tab", laid_math_bits_deBruijn32tab), ("math/bits.deBruijn64tab", laid_math_bits_deBruijn64tab), ("internal/strconv.uint64pow10", laid_internal_strconv_uint64pow10), ("strconv.ErrRange", laid_strconv_ErrRange), ("strconv.ErrSyntax", laid_strconv_ErrSyntax)], narrowed := true }
def DatetimeReturnsUptoSaid : Prop := datetimeReturnsUptoRow.holds Tryd.pinned (OpenSpec.upto datetimeReturnsSpec)

end Rows
end Go.Proofs.YtnchkpheepbacaaDoor
