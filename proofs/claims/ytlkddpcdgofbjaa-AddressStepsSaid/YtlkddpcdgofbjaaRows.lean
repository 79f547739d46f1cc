/-
  No cell of these rows narrows 'for every input' (looked for: loops, veiled, ifaces, maps, wideKeys, modest, calm, conditions, laid).
  DERIVED. THE GIVEN ROWS OF THIS SEAT. 4 by the template 'for every input the law returns true; each argument reads behind the call as it read before'; 0 by the template 'total and deterministic' (their statements: YtlkddpcdgofbjaaTotals.lean).
  GIVEN WITH THE SEED: the statements are not yours to turn. If you find one false, say at which input.
  Laid BY PROGRAM, IN A SANDBOX (cutbox-rows.mjs): the forced cells as the released guide's own fill.sh prints them over the translation be29399141f0da21… (all of the seat's roots in one cut). By AI agents, Wed Nov 11 2026. No macro, syntax, notation, axiom, sorry.
-/
import Derived.Test.YtlkddpcdgofbjaaChecked
import GoSem.Claim
import GoSem.ClaimJoined
import GoSem.ClaimMapViews
import Derived.JoinedTies
import Derived.KernelRfl
namespace Go.Proofs.Ytlkddpcdgofbjaa
/- THE CELL 'sum', in the pinned program and in every row, IS THE sha256 OF THE DUMP (.gsa) THAT YtlkddpcdgofbjaaProg.lean LOADS. Nothing in Lean hashes anything: it is a label: what it is worth is what the hold of that sum in a sandbox is worth. -/
noncomputable def Try.pinned : Pinned := { name := "ytlkddpcdgofbjaa", sum := "be29399141f0da21acb2eacda3a019f7d33f5763a31f1d9fb2b07daf22085f79", checked := Try.checked }
namespace Rows
def none {H : Type} : Left H := { results := [], args := [] }

/-- 'masterdisclaw06.AddressConverts': WHATEVER THE INPUT: true; the input reads as it did. -/
def addressConvertsSpec : ChangeSpec := { name := "addressConverts", fn := fun _ => fun
  | [d1, d2] => { results := [.lit (.bool true)], args := [d1, d2] }
  | _ => none }
def addressConvertsRow : OpenClaim := { program := "ytlkddpcdgofbjaa", sum := "be29399141f0da21acb2eacda3a019f7d33f5763a31f1d9fb2b07daf22085f79", func := "masterdisc/masterdisclaw06.AddressConverts", spec := "addressConverts", inPlace := ["internal/abi.NoEscape"], unfollowed := true, recurses := true, apart := false }
def AddressConvertsSaid : Prop := addressConvertsRow.holds Try.pinned (OpenSpec.ofChange addressConvertsSpec)

/-- ITS FALSE NEIGHBOUR: 'it returns false'. Refute it at one input. -/
def addressConvertsWrong : ChangeSpec := { name := "addressConverts", fn := fun _ => fun
  | [d1, d2] => { results := [.lit (.bool false)], args := [d1, d2] }
  | _ => none }
def AddressConvertsWrongFalsely : Prop := addressConvertsRow.holds Try.pinned (OpenSpec.ofChange addressConvertsWrong)

/-- 'masterdisclaw06.AddressSteps': WHATEVER THE INPUT: true; the input reads as it did. -/
def addressStepsSpec : ChangeSpec := { name := "addressSteps", fn := fun _ => fun
  | [d] => { results := [.lit (.bool true)], args := [d] }
  | _ => none }
def addressStepsRow : OpenClaim := { program := "ytlkddpcdgofbjaa", sum := "be29399141f0da21acb2eacda3a019f7d33f5763a31f1d9fb2b07daf22085f79", func := "masterdisc/masterdisclaw06.AddressSteps", spec := "addressSteps", inPlace := ["internal/abi.NoEscape"], unfollowed := true, recurses := true, apart := false }
def AddressStepsSaid : Prop := addressStepsRow.holds Try.pinned (OpenSpec.ofChange addressStepsSpec)

/-- ITS FALSE NEIGHBOUR: 'it returns false'. Refute it at one input. -/
def addressStepsWrong : ChangeSpec := { name := "addressSteps", fn := fun _ => fun
  | [d] => { results := [.lit (.bool false)], args := [d] }
  | _ => none }
def AddressStepsWrongFalsely : Prop := addressStepsRow.holds Try.pinned (OpenSpec.ofChange addressStepsWrong)

/-- 'masterdisclaw06.AddressMoves': WHATEVER THE INPUT: true; the input reads as it did. -/
def addressMovesSpec : ChangeSpec := { name := "addressMoves", fn := fun _ => fun
  | [d1, d2, d3] => { results := [.lit (.bool true)], args := [d1, d2, d3] }
  | _ => none }
def addressMovesRow : OpenClaim := { program := "ytlkddpcdgofbjaa", sum := "be29399141f0da21acb2eacda3a019f7d33f5763a31f1d9fb2b07daf22085f79", func := "masterdisc/masterdisclaw06.AddressMoves", spec := "addressMoves", inPlace := ["internal/abi.NoEscape"], unfollowed := true, recurses := true, apart := false }
def AddressMovesSaid : Prop := addressMovesRow.holds Try.pinned (OpenSpec.ofChange addressMovesSpec)

/-- ITS FALSE NEIGHBOUR: 'it returns false'. Refute it at one input. -/
def addressMovesWrong : ChangeSpec := { name := "addressMoves", fn := fun _ => fun
  | [d1, d2, d3] => { results := [.lit (.bool false)], args := [d1, d2, d3] }
  | _ => none }
def AddressMovesWrongFalsely : Prop := addressMovesRow.holds Try.pinned (OpenSpec.ofChange addressMovesWrong)

/-- 'masterdisclaw06.AddressBytes': WHATEVER THE INPUT: true; the input reads as it did. -/
def addressBytesSpec : ChangeSpec := { name := "addressBytes", fn := fun _ => fun
  | [d1, d2, d3] => { results := [.lit (.bool true)], args := [d1, d2, d3] }
  | _ => none }
def addressBytesRow : OpenClaim := { program := "ytlkddpcdgofbjaa", sum := "be29399141f0da21acb2eacda3a019f7d33f5763a31f1d9fb2b07daf22085f79", func := "masterdisc/masterdisclaw06.AddressBytes", spec := "addressBytes", inPlace := ["internal/abi.NoEscape"], unfollowed := true, recurses := true, apart := false }
def AddressBytesSaid : Prop := addressBytesRow.holds Try.pinned (OpenSpec.ofChange addressBytesSpec)

/-- ITS FALSE NEIGHBOUR: 'it returns false'. Refute it at one input. -/
def addressBytesWrong : ChangeSpec := { name := "addressBytes", fn := fun _ => fun
  | [d1, d2, d3] => { results := [.lit (.bool false)], args := [d1, d2, d3] }
  | _ => none }
def AddressBytesWrongFalsely : Prop := addressBytesRow.holds Try.pinned (OpenSpec.ofChange addressBytesWrong)

/- THE SECOND FORM. 'bulk': how many values and letters a reading holds, each counted each time it is reached (what is shared counts as often as it is met; a slice's spare places count too). A statement '..UptoSaid' is the law's where the arguments, and the package variables that the reading takes, are together of bulk at most 1048576: NARROWER than '..Said'. Prove '..Said' where nothing that the law and all that it calls make is longer than what came in: it says more and counts as full. Else prove '..UptoSaid'. A law counts once. -/
mutual
def uptoBulk {H : Type} : DataW H → Nat
  | .lit (.string bytes) => bytes.length + 1
  | .lit _ => 1
  | .nil => 1
  | .ptr d => uptoBulk d + 1
  | .slice elems spare => uptoBulkAll elems + uptoBulkAll spare + 1
  | .agg parts => uptoBulkAll parts + 1
  | .iface _ d => uptoBulk d + 1
  | .map entries => uptoBulkEntries entries + 1
  | .held _ => 1
def uptoBulkAll {H : Type} : List (DataW H) → Nat
  | [] => 0
  | d :: r => uptoBulk d + uptoBulkAll r
def uptoBulkEntries {H : Type} : List (Lit × DataW H) → Nat
  | [] => 0
  | x :: r => uptoBulkEntry x + uptoBulkEntries r
def uptoBulkEntry {H : Type} : Lit × DataW H → Nat
  | (.string bytes, d) => bytes.length + uptoBulk d + 1
  | (_, d) => uptoBulk d + 1
 end
def uptoSmall : (H : Type) → List (DataW H) → Bool := fun _ ds => decide (uptoBulkAll ds ≤ 1048576)
def OpenSpec.upto (s : _root_.Go.ChangeSpec) : _root_.Go.OpenSpec := { _root_.Go.OpenSpec.ofChange s with cond := some uptoSmall }

/-- 'masterdisclaw06.AddressConverts', WHERE WHAT IT READS IS OF BULK AT MOST 1048576: true; the input reads as it did. -/
def addressConvertsUptoRow : OpenClaim := { program := "ytlkddpcdgofbjaa", sum := "be29399141f0da21acb2eacda3a019f7d33f5763a31f1d9fb2b07daf22085f79", func := "masterdisc/masterdisclaw06.AddressConverts", spec := "addressConverts", inPlace := ["internal/abi.NoEscape"], unfollowed := true, recurses := true, apart := false, narrowed := true }
def AddressConvertsUptoSaid : Prop := addressConvertsUptoRow.holds Try.pinned (OpenSpec.upto addressConvertsSpec)

/-- 'masterdisclaw06.AddressSteps', WHERE WHAT IT READS IS OF BULK AT MOST 1048576: true; the input reads as it did. -/
def addressStepsUptoRow : OpenClaim := { program := "ytlkddpcdgofbjaa", sum := "be29399141f0da21acb2eacda3a019f7d33f5763a31f1d9fb2b07daf22085f79", func := "masterdisc/masterdisclaw06.AddressSteps", spec := "addressSteps", inPlace := ["internal/abi.NoEscape"], unfollowed := true, recurses := true, apart := false, narrowed := true }
def AddressStepsUptoSaid : Prop := addressStepsUptoRow.holds Try.pinned (OpenSpec.upto addressStepsSpec)

/-- 'masterdisclaw06.AddressMoves', WHERE WHAT IT READS IS OF BULK AT MOST 1048576: true; the input reads as it did. -/
def addressMovesUptoRow : OpenClaim := { program := "ytlkddpcdgofbjaa", sum := "be29399141f0da21acb2eacda3a019f7d33f5763a31f1d9fb2b07daf22085f79", func := "masterdisc/masterdisclaw06.AddressMoves", spec := "addressMoves", inPlace := ["internal/abi.NoEscape"], unfollowed := true, recurses := true, apart := false, narrowed := true }
def AddressMovesUptoSaid : Prop := addressMovesUptoRow.holds Try.pinned (OpenSpec.upto addressMovesSpec)

/-- 'masterdisclaw06.AddressBytes', WHERE WHAT IT READS IS OF BULK AT MOST 1048576: true; the input reads as it did. -/
def addressBytesUptoRow : OpenClaim := { program := "ytlkddpcdgofbjaa", sum := "be29399141f0da21acb2eacda3a019f7d33f5763a31f1d9fb2b07daf22085f79", func := "masterdisc/masterdisclaw06.AddressBytes", spec := "addressBytes", inPlace := ["internal/abi.NoEscape"], unfollowed := true, recurses := true, apart := false, narrowed := true }
def AddressBytesUptoSaid : Prop := addressBytesUptoRow.holds Try.pinned (OpenSpec.upto addressBytesSpec)

end Rows
end Go.Proofs.Ytlkddpcdgofbjaa
