/- Further printed contracts at 1000 rounds, as hands (see XHz): the record form and the descriptor form. -/
import Derived.Test.YtnchkpheepbacaaDoorHz
import Derived.Test.YtnchkpheepbacaaDoorRd
import Derived.Test.YtnchkpheepbacaaDoorQ10
namespace Go.Proofs.YtnchkpheepbacaaDoor.Z
open Go.RowKit Go.Proofs.YtnchkpheepbacaaDoor.Hand

def datetime_Record.f (a0 a1 : Int) : Option (ByteArray × Int) := Q.datetime_Record.f 1000 a0 a1
theorem datetime_Record.calls (a0 a1 : Int) (r1 : ByteArray) (r2 : Int) (w : World) (h : datetime_Record.f a0 a1 = some (r1, r2)) :
    Calls Tryd.prog 19 #[.int .i64 a0, .int .i64 a1] w fun e w' => e = .returned (.tuple #[.string r1, .int .i64 r2]) ∧ Below w.heap.size w w' :=
  Q.datetime_Record.calls 1000 a0 a1 r1 r2 w h
def datetime_ReadRecord.f (a0 : ByteArray) : Option (Int × Int × Int) := Q.datetime_ReadRecord.f 1000 a0
theorem datetime_ReadRecord.calls (a0 : ByteArray) (r1 r2 r3 : Int) (w : World) (h : datetime_ReadRecord.f a0 = some (r1, r2, r3)) :
    Calls Tryd.prog 21 #[.string a0] w fun e w' => e = .returned (.tuple #[.int .i64 r1, .int .i64 r2, .int .i64 r3]) ∧ Below w.heap.size w w' :=
  Q.datetime_ReadRecord.calls 1000 a0 r1 r2 r3 w h
def datetime_Descriptor.f (a0 a1 : Int) : Option (ByteArray × Int) := Q.datetime_Descriptor.f 1000 a0 a1
theorem datetime_Descriptor.calls (a0 a1 : Int) (r1 : ByteArray) (r2 : Int) (w : World) (hG_ : HG w) (h : datetime_Descriptor.f a0 a1 = some (r1, r2)) :
    Calls Tryd.prog 27 #[.int .i64 a0, .int .i64 a1] w fun e w' => e = .returned (.tuple #[.string r1, .int .i64 r2]) ∧ Below w.heap.size w w' :=
  Q.datetime_Descriptor.calls 1000 a0 a1 r1 r2 w hG_ h
def datetime_ReadDescriptor.f (a0 : ByteArray) : Option (Int × Int × Int) := Hand.datetime_ReadDescriptor.f 1000 a0
theorem datetime_ReadDescriptor.calls (a0 : ByteArray) (r1 r2 r3 : Int) (w : World) (h : datetime_ReadDescriptor.f a0 = some (r1, r2, r3)) :
    Calls Tryd.prog 29 #[.string a0] w fun e w' => e = .returned (.tuple #[.int .i64 r1, .int .i64 r2, .int .i64 r3]) ∧ Below w.heap.size w w' :=
  Hand.datetime_ReadDescriptor.calls 1000 a0 r1 r2 r3 w h
end Go.Proofs.YtnchkpheepbacaaDoor.Z
