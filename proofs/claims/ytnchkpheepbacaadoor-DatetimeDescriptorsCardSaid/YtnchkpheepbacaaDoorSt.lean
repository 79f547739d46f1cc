/- What datetime.ReadStamp comes to (its contract is walked in another text). -/
import Derived.Test.YtnchkpheepbacaaDoorQ9
namespace Go.Proofs.YtnchkpheepbacaaDoor.Hand
open Go.RowKit Go.Proofs.YtnchkpheepbacaaDoor.Q Go.Proofs.YtnchkpheepbacaaDoorW.PrintWords

def stKind (a : ByteArray) : Int := bt a 0 + 256 * bt a 1
def stZ (K : Int) : Int := if K % 4096 ≥ 2048 then K % 4096 - 4096 else K % 4096
def stZone (K : Int) : Int × Bool :=
  if K / 4096 = 0 ∨ (K / 4096 = 1 ∧ stZ K = -2047) then (0, true)
  else if K / 4096 > 1 ∨ ¬ (-1440 ≤ stZ K ∧ stZ K ≤ 1440) then (stZ K, false) else (stZ K, true)
def datetime_ReadStamp.f (k : Nat) (a0 : ByteArray) : Option (Int × Int × Int) :=
  if (a0.size : Int) = 12 then
    datetime_read.f k (bt a0 2 + 256 * bt a0 3) (bt a0 4) (bt a0 5) (bt a0 6) (bt a0 7) (bt a0 8) (stZone (stKind a0)).1
      ((stZone (stKind a0)).2 && decide (bt a0 9 ≤ 99) && decide (bt a0 10 ≤ 99) && decide (bt a0 11 ≤ 99))
  else some (0, 0, 1)
end Go.Proofs.YtnchkpheepbacaaDoor.Hand
