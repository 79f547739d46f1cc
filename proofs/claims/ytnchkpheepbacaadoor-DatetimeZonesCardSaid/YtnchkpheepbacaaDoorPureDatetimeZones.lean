/- The plain law of DatetimeZones: stamps of one time in two zones are read as that time; the clocks lie as far apart as the zones. -/
import Derived.Test.YtnchkpheepbacaaDoorPz
import Derived.Test.YtnchkpheepbacaaDoorR1
namespace Go.Proofs.YtnchkpheepbacaaDoor.Pure
open Go.RowKit Go.Proofs.YtnchkpheepbacaaDoor.Hand Go.Proofs.YtnchkpheepbacaaDoor.Q Go.Proofs.YtnchkpheepbacaaDoor.Cal Go.Proofs.YtnchkpheepbacaaDoorW.PrintWords

theorem zones_time (t : Int) : R.masterdiscref16_Time.f t = some (timeB t) := time_f t
theorem zones_zone (t : Int) : R.masterdiscref16_Zone.f t = some (zoneB t) := zone_f t
theorem zones_join {y m d h i s u : Int} (hc : okC y m d h i s = true) (hs : secs y m d h i s = u) : Z.datetime_Join.f y m d h i s 0 = some (if timeB u = true then (u, 0) else (0, 2)) := by
  have j := join_f 400 y m d h i s 0
  rw [show (400 + 600 : Nat) = 1000 from rfl] at j
  unfold Z.datetime_Join.f
  rw [j]
  unfold joinR
  rw [if_pos hc, hs, show u - 60 * 0 = u by omega, zone0']
  cases timeB u <;> simp
theorem zones_split (t z : Int) (ht : timeB t = true) (hz : zoneB z = true) : ∃ y m d h i s : Int, Z.datetime_Split.f t z = some (y, m, d, h, i, s, 0) ∧ okC y m d h i s = true ∧ secs y m d h i s = t + 60 * z := by
  obtain ⟨y, m, d, h, i, s, hs, hy, hc, hS⟩ := split_facts t z ht hz
  have e := hs 600
  rw [show (600 + 400 : Nat) = 1000 from rfl] at e
  exact ⟨y, m, d, h, i, s, e, hc, hS⟩
theorem zones_j0 (t z o : Int) (ht : timeB t = true) (hz : zoneB z = true) (ho : zoneB o = true) : R.masterdisclaw16_DatetimeZones.j0 3 t z o false = some true := by
  obtain ⟨a, a1, a2⟩ := stamp_read t z ht hz
  obtain ⟨b, b1, b2⟩ := stamp_read t o ht ho
  have a1' : Z.datetime_Stamp.f t z = some (a, 0) := a1
  have a2' : Z.datetime_ReadStamp.f a = some (t, z, 0) := a2
  have b1' : Z.datetime_Stamp.f t o = some (b, 0) := b1
  have b2' : Z.datetime_ReadStamp.f b = some (t, o, 0) := b2
  obtain ⟨y, m, d, h, i, s, c1, c2, c3⟩ := zones_split t z ht hz
  obtain ⟨y', m', d', h', i', s', d1, d2, d3⟩ := zones_split t o ht ho
  have ht' := of_decide_eq_true ht
  have hz' := of_decide_eq_true hz
  have ho' := of_decide_eq_true ho
  rw [show (3 : Nat) = 2 + 1 from rfl, R.masterdisclaw16_DatetimeZones.j0, if_neg (by decide), a1', Option.bind_some, b1', Option.bind_some, a2', Option.bind_some, b2', Option.bind_some, if_pos rfl, if_pos rfl, bne_self_eq_false]
  rw [show (2 : Nat) = 1 + 1 from rfl, R.masterdisclaw16_DatetimeZones.j1, if_neg (by decide), c1, Option.bind_some, d1, Option.bind_some, if_pos rfl, bne_self_eq_false]
  rw [show (1 : Nat) = 0 + 1 from rfl, R.masterdisclaw16_DatetimeZones.j2, if_neg (by decide), zones_join c2 c3, Option.bind_some, zones_join d2 d3, Option.bind_some]
  cases timeB (t + 60 * z)
  · rfl
  · cases timeB (t + 60 * o)
    · rfl
    · rw [if_pos rfl, if_pos rfl, if_pos rfl, if_pos rfl]
      show some ((wrap64 (t + 60 * z - (t + 60 * o))) == (wrap64 (60 * (wrap64 (z - o))))) = some true
      rw [w64 (x := z - o) (by omega) (by omega), show t + 60 * z - (t + 60 * o) = 60 * (z - o) by omega, beq_self_eq_true]
theorem DatetimeZones (t z o : Int) (_ : (Lit.int .i64 t).wf = true) (_ : (Lit.int .i64 z).wf = true) (_ : (Lit.int .i64 o).wf = true) : ∃ k, R.masterdisclaw16_DatetimeZones.f k t z o = some true := by
  refine ⟨3, ?_⟩
  have tt : R.masterdisclaw16_DatetimeZones.j0 3 t z o true = some true := by rw [show (3 : Nat) = 2 + 1 from rfl, R.masterdisclaw16_DatetimeZones.j0, if_pos rfl]
  unfold R.masterdisclaw16_DatetimeZones.f Z.masterdisclaw16_awake.f
  rw [Option.bind_some, if_pos rfl, zones_time, Option.bind_some]
  cases ht : timeB t
  · exact tt
  · rw [if_pos rfl, zones_zone, Option.bind_some]
    cases hz : zoneB z
    · exact tt
    · rw [if_pos rfl, zones_zone, Option.bind_some]
      cases ho : zoneB o
      · exact tt
      · exact zones_j0 t z o ht hz ho
end Go.Proofs.YtnchkpheepbacaaDoor.Pure
