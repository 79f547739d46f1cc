/- The plain law of DatetimeReturns: what is written in any of the three forms is read as its time and zone. -/
import Derived.Test.YtnchkpheepbacaaDoorPy
import Derived.Test.YtnchkpheepbacaaDoorV1
namespace Go.Proofs.YtnchkpheepbacaaDoor.Pure
open Go.RowKit Go.Proofs.YtnchkpheepbacaaDoor.Hand Go.Proofs.YtnchkpheepbacaaDoor.Q Go.Proofs.YtnchkpheepbacaaDoor.Cal Go.Proofs.YtnchkpheepbacaaDoorW.PrintWords

theorem returns_time (t : Int) : V.masterdiscref16_Time.f t = some (timeB t) := time_f t
theorem returns_zone (t : Int) : V.masterdiscref16_Zone.f t = some (zoneB t) := zone_f t
theorem returns_quarter (z : Int) : V.masterdiscref16_Quarter.f z = some (qB z) := by
  unfold V.masterdiscref16_Quarter.f qB
  generalize Int.tmod z 15 = q
  split
  · split
    · congr 1; rw [Bool.eq_iff_iff, beq_iff_eq, decide_eq_true_eq]; omega
    · rw [decide_eq_false (by omega)]
  · rw [decide_eq_false (by omega)]
theorem returns_j0 (t q : Int) (ht : timeB t = true) : V.masterdisclaw16_DatetimeReturns.j0 1 t q = some true := by
  rw [show (1 : Nat) = 0 + 1 from rfl, V.masterdisclaw16_DatetimeReturns.j0, returns_quarter, Option.bind_some]
  cases hq : qB q
  · rfl
  · obtain ⟨a, a1, a2⟩ := record_read t q ht hq
    obtain ⟨b, b1, b2⟩ := descriptor_read t q ht hq
    have a1' : Z.datetime_Record.f t q = some (a, 0) := a1
    have a2' : Z.datetime_ReadRecord.f a = some (t, q, 0) := a2
    have b1' : Z.datetime_Descriptor.f t q = some (b, 0) := b1
    have b2' : Z.datetime_ReadDescriptor.f b = some (t, q, 0) := b2
    rw [if_pos rfl, a1', Option.bind_some, a2', Option.bind_some, b1', Option.bind_some, b2', Option.bind_some, if_pos rfl, if_pos rfl, if_pos rfl, if_pos rfl, if_pos rfl, if_pos rfl, if_pos rfl, beq_self_eq_true]
theorem DatetimeReturns (t z q : Int) (_ : (Lit.int .i64 t).wf = true) (_ : (Lit.int .i64 z).wf = true) (_ : (Lit.int .i64 q).wf = true) : ∃ k, V.masterdisclaw16_DatetimeReturns.f k t z q = some true := by
  refine ⟨1, ?_⟩
  unfold V.masterdisclaw16_DatetimeReturns.f
  rw [show Z.masterdisclaw16_awake.f = some true from rfl, Option.bind_some, if_pos rfl, returns_time, Option.bind_some]
  cases ht : timeB t
  · rfl
  · rw [if_pos rfl, returns_zone, Option.bind_some]
    cases hz : zoneB z
    · exact returns_j0 t q ht
    · obtain ⟨a, a1, a2⟩ := stamp_read t z ht hz
      have a1' : Z.datetime_Stamp.f t z = some (a, 0) := a1
      have a2' : Z.datetime_ReadStamp.f a = some (t, z, 0) := a2
      rw [if_pos rfl, a1', Option.bind_some, a2', Option.bind_some, if_pos rfl, if_pos rfl, if_pos rfl, if_pos rfl]
      exact returns_j0 t q ht
end Go.Proofs.YtnchkpheepbacaaDoor.Pure
