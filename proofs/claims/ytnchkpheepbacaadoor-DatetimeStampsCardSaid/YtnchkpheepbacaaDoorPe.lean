/- Reading a clock with its zone: the two readings of datetime and of its reference agree. -/
import Derived.Test.YtnchkpheepbacaaDoorPr
import Derived.Test.YtnchkpheepbacaaDoorQ9
import Derived.Test.YtnchkpheepbacaaDoorQ10
namespace Go.Proofs.YtnchkpheepbacaaDoor.Pure
open Go.RowKit Go.Proofs.YtnchkpheepbacaaDoor.Hand Go.Proofs.YtnchkpheepbacaaDoor.Q Go.Proofs.YtnchkpheepbacaaDoor.Cal Go.Proofs.YtnchkpheepbacaaDoorW.PrintWords

/-- What reading comes to, of a clock, a zone and whether they may be. -/
def readR (y m d h i s q : Int) (ok : Bool) : Int × Int × Int :=
  if ok = true ∧ okC y m d h i s = true then (if timeB (secs y m d h i s - 60 * q) = true then (secs y m d h i s - 60 * q, q, 0) else (0, 0, 2)) else (0, 0, 10)
theorem read_f (k : Nat) (y m d h i s q : Int) (ok : Bool) (hq : ok = true → zoneB q = true) : datetime_read.f (k + 600 + 1) y m d h i s q ok = some (readR y m d h i s q ok) := by
  have jt : datetime_read.j0 (k + 600 + 1) q true y m d h i s = some (0, 0, 10) := by rw [datetime_read.j0, if_pos rfl]
  unfold datetime_read.f datetime_valid.f readR
  rw [Option.bind_some]
  cases ok
  · rw [if_neg (by decide), if_neg (by simp)]
    exact jt
  · rw [if_pos rfl]
    cases hc : okC y m d h i s
    · rw [if_neg (by simp)]
      exact jt
    · rw [if_pos ⟨rfl, rfl⟩]
      show datetime_read.j0 (k + 600 + 1) q false y m d h i s = _
      rw [datetime_read.j0, if_neg (by decide), join_f k, Option.bind_some]
      unfold joinR
      rw [if_pos hc]
      cases hT : timeB (secs y m d h i s - 60 * q)
      · rw [if_neg (show ¬ (zoneB q = true ∧ (false : Bool) = true) by simp)]
        rfl
      · rw [if_pos (show zoneB q = true ∧ (true : Bool) = true from ⟨hq rfl, rfl⟩)]
        rfl
theorem finish_f (k : Nat) (y m d h i s q : Int) (hc : okC y m d h i s = true) (hq : zoneB q = true) : masterdiscref16_finish.f (k + 600) y m d h i s q = some (readR y m d h i s q true) := by
  have hq' := of_decide_eq_true hq
  have b := secs_bounds hc
  unfold masterdiscref16_finish.f readR
  rw [rseconds_f k hc, Option.bind_some, w64 (x := 60 * q) (by omega) (by omega), w64 (x := secs y m d h i s - 60 * q) (by omega) (by omega), rtime_f, Option.bind_some, if_pos (show (true : Bool) = true ∧ okC y m d h i s = true from ⟨rfl, hc⟩)]
  cases timeB (secs y m d h i s - 60 * q) <;> rfl
end Go.Proofs.YtnchkpheepbacaaDoor.Pure
