/- Contracts, walked by hand, of functions of the package datetime and of its reference that the printer does not take: leap, monthDays. -/
import Derived.Test.YtnchkpheepbacaaDoorShelf
import Derived.Test.YtnchkpheepbacaaDoorWWords
import Derived.Below
import Derived.WalkKit
import Derived.KernelRfl
import Derived.LoopN
import Derived.Lib.Hide
import Derived.Handy
import Derived.Deep.QuietTactic
import Derived.BigQuiet
import Derived.Deep.RegionHeld3
namespace Go.Proofs.YtnchkpheepbacaaDoor.Hand
open Go.RowKit Go.Proofs.YtnchkpheepbacaaDoorW.PrintWords

theorem step {w w1 w2 : World} (h1 : Below w.heap.size w w1) (h2 : Below w1.heap.size w1 w2) : Below w.heap.size w w2 := h1.trans (h2.mono h1.size)

def leapB (y : Int) : Bool := decide (y % 400 = 0 ∨ (y % 4 = 0 ∧ y % 100 ≠ 0))
/-- The number of days of a month. -/
def dim (y m : Int) : Int := if m = 2 then (if leapB y = true then 29 else 28) else if m = 4 ∨ m = 6 ∨ m = 9 ∨ m = 11 then 30 else 31

set_option maxHeartbeats 1000000 in
set_option maxRecDepth 100000 in
theorem leap_any (y : Int) (w : World) (h0 : 0 ≤ y) :
    Calls Tryd.prog 54 #[.int .i64 y] w fun e w' => e = .returned (.bool (leapB y)) ∧ w = w' := by
  by_cases h1 : y % 400 = 0
  · have e1 : (y % 400 == 0) = true := by simpa using h1
    have hl := Lib.hid (show leapB y = true from decide_eq_true (Or.inl h1))
    clear h1
    go_enter Tryd.func54, Tryd.ntmps54
    go_wp2
    go_ret
    exact ⟨by rw [hl.out]; rfl, rfl⟩
  · have e1 : (y % 400 == 0) = false := by simpa using h1
    by_cases h2 : y % 4 = 0
    · have e2 : (y % 4 == 0) = true := by simpa using h2
      by_cases h3 : y % 100 = 0
      · have e3 : (y % 100 != 0) = false := by simpa using h3
        have hl := Lib.hid (show leapB y = false from decide_eq_false (by omega))
        clear h1 h2 h3
        go_enter Tryd.func54, Tryd.ntmps54
        go_wp2
        go_ret
        exact ⟨by rw [hl.out]; rfl, rfl⟩
      · have e3 : (y % 100 != 0) = true := by simpa using h3
        have hl := Lib.hid (show leapB y = true from decide_eq_true (by omega))
        clear h1 h2 h3
        go_enter Tryd.func54, Tryd.ntmps54
        go_wp2
        go_ret
        exact ⟨by rw [hl.out]; rfl, rfl⟩
    · have e2 : (y % 4 == 0) = false := by simpa using h2
      have hl := Lib.hid (show leapB y = false from decide_eq_false (by omega))
      clear h1 h2
      go_enter Tryd.func54, Tryd.ntmps54
      go_wp2
      go_ret
      exact ⟨by rw [hl.out]; rfl, rfl⟩

set_option maxHeartbeats 1000000 in
set_option maxRecDepth 100000 in
theorem monthDays_two (y r : Int) (b : Bool) (w : World) (h0 : 0 ≤ y) (hb : leapB y = b) (hr : r = if b = true then 29 else 28) :
    Calls Tryd.prog 36 #[.int .i64 y, .int .i64 2] w fun e w' => e = .returned (.int .i64 r) ∧ Below w.heap.size w w' := by
  have HB := Lib.hid hb
  clear hb
  cases b
  · simp only [Bool.false_eq_true, if_false] at hr
    subst hr
    go_enter Tryd.func36, Tryd.ntmps36
    go_wp2_with (go_at_call 54; refine (leap_any y _ h0).mono ?_; rintro e w1 ⟨rfl, rfl⟩; rw [HB.out])
    go_ret
    exact ⟨rfl, by go_grown⟩
  · simp only [if_true] at hr
    subst hr
    go_enter Tryd.func36, Tryd.ntmps36
    go_wp2_with (go_at_call 54; refine (leap_any y _ h0).mono ?_; rintro e w1 ⟨rfl, rfl⟩; rw [HB.out])
    go_ret
    exact ⟨rfl, by go_grown⟩

set_option maxHeartbeats 2000000 in
set_option maxRecDepth 100000 in
theorem monthDays_else (y m r : Int) (w : World) (h : (m = 1 ∧ r = 31) ∨ (m = 3 ∧ r = 31) ∨ (m = 4 ∧ r = 30) ∨ (m = 5 ∧ r = 31) ∨ (m = 6 ∧ r = 30) ∨ (m = 7 ∧ r = 31) ∨ (m = 8 ∧ r = 31) ∨ (m = 9 ∧ r = 30) ∨ (m = 10 ∧ r = 31) ∨ (m = 11 ∧ r = 30) ∨ (m = 12 ∧ r = 31)) :
    Calls Tryd.prog 36 #[.int .i64 y, .int .i64 m] w fun e w' => e = .returned (.int .i64 r) ∧ Below w.heap.size w w' := by
  rcases h with ⟨rfl, rfl⟩ | ⟨rfl, rfl⟩ | ⟨rfl, rfl⟩ | ⟨rfl, rfl⟩ | ⟨rfl, rfl⟩ | ⟨rfl, rfl⟩ | ⟨rfl, rfl⟩ | ⟨rfl, rfl⟩ | ⟨rfl, rfl⟩ | ⟨rfl, rfl⟩ | ⟨rfl, rfl⟩
  all_goals
    go_enter Tryd.func36, Tryd.ntmps36
    go_wp2
    go_ret
    exact ⟨rfl, by go_grown⟩

def datetime_monthDays.f (y m : Int) : Option Int := if 0 ≤ y ∧ 1 ≤ m ∧ m ≤ 12 then some (dim y m) else none
theorem datetime_monthDays.calls (y m r : Int) (w : World) (h : datetime_monthDays.f y m = some r) :
    Calls Tryd.prog 36 #[.int .i64 y, .int .i64 m] w fun e w' => e = .returned (.int .i64 r) ∧ Below w.heap.size w w' := by
  unfold datetime_monthDays.f at h
  by_cases hc : 0 ≤ y ∧ 1 ≤ m ∧ m ≤ 12
  · rw [if_pos hc] at h
    have h := Option.some.inj h
    unfold dim at h
    by_cases h2 : m = 2
    · subst h2
      rw [if_pos rfl] at h
      exact monthDays_two y r _ w hc.1 rfl h.symm
    · rw [if_neg h2] at h
      refine monthDays_else y m r w ?_
      by_cases h3 : m = 4 ∨ m = 6 ∨ m = 9 ∨ m = 11
      · rw [if_pos h3] at h; omega
      · rw [if_neg h3] at h; omega
  · rw [if_neg hc] at h; exact absurd h (by simp)
end Go.Proofs.YtnchkpheepbacaaDoor.Hand
