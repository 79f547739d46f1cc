/- Printed contracts at 1000 rounds, as hands for a second print stage (a hand's f takes no number of rounds). -/
import Derived.Test.YtnchkpheepbacaaDoorStw
import Derived.Test.YtnchkpheepbacaaDoorQ4
namespace Go.Proofs.YtnchkpheepbacaaDoor.Z
open Go.RowKit Go.Proofs.YtnchkpheepbacaaDoor.Hand

def masterdisclaw16_awake.f : Option Bool := some true
theorem masterdisclaw16_awake.calls (r : Bool) (w : World) (hG_ : HG w) (h : masterdisclaw16_awake.f = some r) :
    Calls Tryd.prog 11 #[] w fun e w' => e = .returned (.bool r) ∧ Below w.heap.size w w' := by
  obtain rfl := Option.some.inj h
  exact Q.masterdisclaw16_awake.calls 1000 true w hG_ (by decide +kernel)
def datetime_Split.f (a0 a1 : Int) : Option (Int × Int × Int × Int × Int × Int × Int) := Q.datetime_Split.f 1000 a0 a1
theorem datetime_Split.calls (a0 a1 r1 r2 r3 r4 r5 r6 r7 : Int) (w : World) (h : datetime_Split.f a0 a1 = some (r1, r2, r3, r4, r5, r6, r7)) :
    Calls Tryd.prog 12 #[.int .i64 a0, .int .i64 a1] w fun e w' => e = .returned (.tuple #[.agg #[.int .i64 r1, .int .i64 r2, .int .i64 r3, .int .i64 r4, .int .i64 r5, .int .i64 r6], .int .i64 r7]) ∧ Below w.heap.size w w' :=
  Q.datetime_Split.calls 1000 a0 a1 r1 r2 r3 r4 r5 r6 r7 w h
def datetime_Join.f (a0_0 a0_1 a0_2 a0_3 a0_4 a0_5 a1 : Int) : Option (Int × Int) := Q.datetime_Join.f 1000 a0_0 a0_1 a0_2 a0_3 a0_4 a0_5 a1
theorem datetime_Join.calls (a0_0 a0_1 a0_2 a0_3 a0_4 a0_5 a1 r1 r2 : Int) (w : World) (h : datetime_Join.f a0_0 a0_1 a0_2 a0_3 a0_4 a0_5 a1 = some (r1, r2)) :
    Calls Tryd.prog 14 #[.agg #[.int .i64 a0_0, .int .i64 a0_1, .int .i64 a0_2, .int .i64 a0_3, .int .i64 a0_4, .int .i64 a0_5], .int .i64 a1] w fun e w' => e = .returned (.tuple #[.int .i64 r1, .int .i64 r2]) ∧ Below w.heap.size w w' :=
  Q.datetime_Join.calls 1000 a0_0 a0_1 a0_2 a0_3 a0_4 a0_5 a1 r1 r2 w h
def datetime_Stamp.f (a0 a1 : Int) : Option (ByteArray × Int) := Q.datetime_Stamp.f 1000 a0 a1
theorem datetime_Stamp.calls (a0 a1 : Int) (r1 : ByteArray) (r2 : Int) (w : World) (h : datetime_Stamp.f a0 a1 = some (r1, r2)) :
    Calls Tryd.prog 23 #[.int .i64 a0, .int .i64 a1] w fun e w' => e = .returned (.tuple #[.string r1, .int .i64 r2]) ∧ Below w.heap.size w w' :=
  Q.datetime_Stamp.calls 1000 a0 a1 r1 r2 w h
def datetime_ReadStamp.f (a0 : ByteArray) : Option (Int × Int × Int) := Hand.datetime_ReadStamp.f 1000 a0
theorem datetime_ReadStamp.calls (a0 : ByteArray) (r1 r2 r3 : Int) (w : World) (h : datetime_ReadStamp.f a0 = some (r1, r2, r3)) :
    Calls Tryd.prog 25 #[.string a0] w fun e w' => e = .returned (.tuple #[.int .i64 r1, .int .i64 r2, .int .i64 r3]) ∧ Below w.heap.size w w' :=
  Hand.datetime_ReadStamp.calls 1000 a0 r1 r2 r3 w h
end Go.Proofs.YtnchkpheepbacaaDoor.Z
