/- Printed contracts at 1000 rounds, as hands for the law DatetimeDescriptors (a hand's f takes no number of rounds). -/
import Derived.Test.YtnchkpheepbacaaDoorRd
import Derived.Test.YtnchkpheepbacaaDoorQ10
import Derived.Test.YtnchkpheepbacaaDoorQ4
import Derived.Test.YtnchkpheepbacaaDoorQ5
namespace Go.Proofs.YtnchkpheepbacaaDoor.Y
open Go.RowKit Go.Proofs.YtnchkpheepbacaaDoor.Hand Go.Proofs.YtnchkpheepbacaaDoorW.PrintWords

theorem drawn_below {w w' : World} (h : Drawn0 w w') : Below w.heap.size w w' := by
  obtain ⟨n, rfl⟩ := h
  exact pw_below_drewN (Below.refl _ _) n
def masterdisclaw16_awake.f : Option Bool := some true
theorem masterdisclaw16_awake.calls (r : Bool) (w : World) (hG_ : HG w) (h : masterdisclaw16_awake.f = some r) :
    Calls Tryd.prog 11 #[] w fun e w' => e = .returned (.bool r) ∧ Below w.heap.size w w' := by
  obtain rfl := Option.some.inj h
  exact Q.masterdisclaw16_awake.calls 1000 true w hG_ (by decide +kernel)
def datetime_Descriptor.f (a0 : Int) (a1 : Int) : Option (ByteArray × Int) := Q.datetime_Descriptor.f 1000 a0 a1
theorem datetime_Descriptor.calls (a0 : Int) (a1 : Int) (r1 : ByteArray) (r2 : Int) (w : World) (hG_ : HG w) (h : datetime_Descriptor.f a0 a1 = some (r1, r2)) :
    Calls Tryd.prog 27 #[.int .i64 a0, .int .i64 a1] w fun e w' => e = .returned (.tuple #[.string r1, .int .i64 r2]) ∧ Below w.heap.size w w' :=
  Q.datetime_Descriptor.calls 1000 a0 a1 r1 r2 w hG_ h
def datetime_ReadDescriptor.f (a0 : ByteArray) : Option (Int × Int × Int) := Hand.datetime_ReadDescriptor.f 1000 a0
theorem datetime_ReadDescriptor.calls (a0 : ByteArray) (r1 : Int) (r2 : Int) (r3 : Int) (w : World) (h : datetime_ReadDescriptor.f a0 = some (r1, r2, r3)) :
    Calls Tryd.prog 29 #[.string a0] w fun e w' => e = .returned (.tuple #[.int .i64 r1, .int .i64 r2, .int .i64 r3]) ∧ Below w.heap.size w w' :=
  Hand.datetime_ReadDescriptor.calls 1000 a0 r1 r2 r3 w h
def masterdiscref16_Time.f (a0 : Int) : Option (Bool) := Q.masterdiscref16_Time.f a0
theorem masterdiscref16_Time.calls (a0 : Int) (r1 : Bool) (w : World) (h : masterdiscref16_Time.f a0 = some r1) :
    Calls Tryd.prog 16 #[.int .i64 a0] w fun e w' => e = .returned (.bool r1) ∧ Below w.heap.size w w' :=
  (Q.masterdiscref16_Time.calls a0 r1 w h).mono fun _ _ ⟨e, h⟩ => ⟨e, drawn_below h⟩
def masterdiscref16_Quarter.f (a0 : Int) : Option (Bool) := Q.masterdiscref16_Quarter.f a0
theorem masterdiscref16_Quarter.calls (a0 : Int) (r1 : Bool) (w : World) (h : masterdiscref16_Quarter.f a0 = some r1) :
    Calls Tryd.prog 31 #[.int .i64 a0] w fun e w' => e = .returned (.bool r1) ∧ Below w.heap.size w w' :=
  (Q.masterdiscref16_Quarter.calls a0 r1 w h).mono fun _ _ ⟨e, h⟩ => ⟨e, drawn_below h⟩
def masterdiscref16_Split.f (a0 : Int) (a1 : Int) : Option (Int × Int × Int × Int × Int × Int × Int) := Q.masterdiscref16_Split.f 1000 a0 a1
theorem masterdiscref16_Split.calls (a0 : Int) (a1 : Int) (r1 : Int) (r2 : Int) (r3 : Int) (r4 : Int) (r5 : Int) (r6 : Int) (r7 : Int) (w : World) (h : masterdiscref16_Split.f a0 a1 = some (r1, r2, r3, r4, r5, r6, r7)) :
    Calls Tryd.prog 13 #[.int .i64 a0, .int .i64 a1] w fun e w' => e = .returned (.tuple #[.agg #[.int .i64 r1, .int .i64 r2, .int .i64 r3, .int .i64 r4, .int .i64 r5, .int .i64 r6], .int .i64 r7]) ∧ Below w.heap.size w w' :=
  Q.masterdiscref16_Split.calls 1000 a0 a1 r1 r2 r3 r4 r5 r6 r7 w h
def masterdiscref16_signed.f (a0 : Int) : Option (Int) := Q.masterdiscref16_signed.f a0
theorem masterdiscref16_signed.calls (a0 : Int) (r1 : Int) (w : World) (h : masterdiscref16_signed.f a0 = some r1) :
    Calls Tryd.prog 43 #[.int .i64 a0] w fun e w' => e = .returned (.int .u8 r1) ∧ Below w.heap.size w w' :=
  (Q.masterdiscref16_signed.calls a0 r1 w h).mono fun _ _ ⟨e, h⟩ => ⟨e, drawn_below h⟩
def masterdiscref16_Valid.f (y m d h_ i s : Int) : Option (Bool) := Hand.masterdiscref16_Valid.f y m d h_ i s
theorem masterdiscref16_Valid.calls (y m d h_ i s : Int) (r1 : Bool) (w : World) (h : masterdiscref16_Valid.f y m d h_ i s = some r1) :
    Calls Tryd.prog 40 #[.agg #[.int .i64 y, .int .i64 m, .int .i64 d, .int .i64 h_, .int .i64 i, .int .i64 s]] w fun e w' => e = .returned (.bool r1) ∧ Below w.heap.size w w' :=
  Hand.masterdiscref16_Valid.calls y m d h_ i s r1 w h
def masterdiscref16_zone.f (a0 : Int) : Option (Int × Bool) := Q.masterdiscref16_zone.f a0
theorem masterdiscref16_zone.calls (a0 : Int) (r1 : Int) (r2 : Bool) (w : World) (h : masterdiscref16_zone.f a0 = some (r1, r2)) :
    Calls Tryd.prog 46 #[.int .u8 a0] w fun e w' => e = .returned (.tuple #[.int .i64 r1, .bool r2]) ∧ Below w.heap.size w w' :=
  (Q.masterdiscref16_zone.calls a0 r1 r2 w h).mono fun _ _ ⟨e, h⟩ => ⟨e, drawn_below h⟩
def masterdiscref16_finish.f (y m d h_ i s : Int) (q : Int) : Option (Int × Int × Int) := Q.masterdiscref16_finish.f 1000 y m d h_ i s q
theorem masterdiscref16_finish.calls (y m d h_ i s : Int) (q : Int) (r1 : Int) (r2 : Int) (r3 : Int) (w : World) (h : masterdiscref16_finish.f y m d h_ i s q = some (r1, r2, r3)) :
    Calls Tryd.prog 47 #[.agg #[.int .i64 y, .int .i64 m, .int .i64 d, .int .i64 h_, .int .i64 i, .int .i64 s], .int .i64 q] w fun e w' => e = .returned (.tuple #[.int .i64 r1, .int .i64 r2, .int .i64 r3]) ∧ Below w.heap.size w w' :=
  Q.masterdiscref16_finish.calls 1000 y m d h_ i s q r1 r2 r3 w h
end Go.Proofs.YtnchkpheepbacaaDoor.Y
