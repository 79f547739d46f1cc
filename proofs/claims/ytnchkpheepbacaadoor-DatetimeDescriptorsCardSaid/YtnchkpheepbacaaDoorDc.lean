/- The contracts of datetime.valid and of the reference's Valid, walked by hand. -/
import Derived.Test.YtnchkpheepbacaaDoorDb
namespace Go.Proofs.YtnchkpheepbacaaDoor.Hand
open Go.RowKit Go.Proofs.YtnchkpheepbacaaDoorW.PrintWords
set_option linter.unusedVariables false

set_option maxHeartbeats 1000000 in
set_option maxRecDepth 100000 in
theorem valid_n0 (y m d h mi s : Int) (w : World) (c : y < 1900)  :
    Calls Tryd.prog 38 #[.agg #[.int .i64 y, .int .i64 m, .int .i64 d, .int .i64 h, .int .i64 mi, .int .i64 s]] w fun e w' => e = .returned (.bool false) ∧ Below w.heap.size w w' := by
  go_enter Tryd.func38, Tryd.ntmps38
  go_wp2
  go_ret
  exact ⟨rfl, by go_grown⟩

set_option maxHeartbeats 1000000 in
set_option maxRecDepth 100000 in
theorem valid_n1 (y m d h mi s : Int) (w : World) (c : 2155 < y) (n0 : ¬ (y < 1900)) :
    Calls Tryd.prog 38 #[.agg #[.int .i64 y, .int .i64 m, .int .i64 d, .int .i64 h, .int .i64 mi, .int .i64 s]] w fun e w' => e = .returned (.bool false) ∧ Below w.heap.size w w' := by
  go_enter Tryd.func38, Tryd.ntmps38
  go_wp2
  go_ret
  exact ⟨rfl, by go_grown⟩

set_option maxHeartbeats 1000000 in
set_option maxRecDepth 100000 in
theorem valid_n2 (y m d h mi s : Int) (w : World) (c : m < 1) (n0 : ¬ (y < 1900)) (n1 : ¬ (2155 < y)) :
    Calls Tryd.prog 38 #[.agg #[.int .i64 y, .int .i64 m, .int .i64 d, .int .i64 h, .int .i64 mi, .int .i64 s]] w fun e w' => e = .returned (.bool false) ∧ Below w.heap.size w w' := by
  go_enter Tryd.func38, Tryd.ntmps38
  go_wp2
  go_ret
  exact ⟨rfl, by go_grown⟩

set_option maxHeartbeats 1000000 in
set_option maxRecDepth 100000 in
theorem valid_n3 (y m d h mi s : Int) (w : World) (c : 12 < m) (n0 : ¬ (y < 1900)) (n1 : ¬ (2155 < y)) (n2 : ¬ (m < 1)) :
    Calls Tryd.prog 38 #[.agg #[.int .i64 y, .int .i64 m, .int .i64 d, .int .i64 h, .int .i64 mi, .int .i64 s]] w fun e w' => e = .returned (.bool false) ∧ Below w.heap.size w w' := by
  go_enter Tryd.func38, Tryd.ntmps38
  go_wp2
  go_ret
  exact ⟨rfl, by go_grown⟩

def datetime_valid.f (y m d h mi s : Int) : Option Bool := some (okC y m d h mi s)
theorem datetime_valid.calls (y m d h mi s : Int) (r : Bool) (w : World) (e : datetime_valid.f y m d h mi s = some r) :
    Calls Tryd.prog 38 #[.agg #[.int .i64 y, .int .i64 m, .int .i64 d, .int .i64 h, .int .i64 mi, .int .i64 s]] w fun e w' => e = .returned (.bool r) ∧ Below w.heap.size w w' := by
  obtain rfl := Option.some.inj e
  clear e
  have no : ∀ {p : Prop}, ¬ p → (∀ q : 1900 ≤ y ∧ y ≤ 2155 ∧ 1 ≤ m ∧ m ≤ 12 ∧ 1 ≤ d ∧ d ≤ dim y m ∧ 0 ≤ h ∧ h ≤ 23 ∧ 0 ≤ mi ∧ mi ≤ 59 ∧ 0 ≤ s ∧ s ≤ 59, p) → okC y m d h mi s = false := fun n q => decide_eq_false fun h => n (q h)
  by_cases a0 : y < 1900
  · rw [no (p := 1900 ≤ y) (by omega) (fun q => q.1)]; exact valid_n0 y m d h mi s w a0
  by_cases a1 : 2155 < y
  · rw [no (p := y ≤ 2155) (by omega) (fun q => q.2.1)]; exact valid_n1 y m d h mi s w a1 a0
  by_cases a2 : m < 1
  · rw [no (p := 1 ≤ m) (by omega) (fun q => q.2.2.1)]; exact valid_n2 y m d h mi s w a2 a0 a1
  by_cases a3 : 12 < m
  · rw [no (p := m ≤ 12) (by omega) (fun q => q.2.2.2.1)]; exact valid_n3 y m d h mi s w a3 a0 a1 a2
  have hk : datetime_monthDays.f y m = some (dim y m) := if_pos (by omega)
  by_cases a4 : 1 ≤ d
  · by_cases a5 : d ≤ dim y m
    · by_cases a6 : 0 ≤ h ∧ h ≤ 23
      · by_cases a7 : 0 ≤ mi ∧ mi ≤ 59
        · by_cases a8 : 0 ≤ s ∧ s ≤ 59
          · rw [show okC y m d h mi s = true from decide_eq_true ⟨by omega, by omega, by omega, by omega, a4, a5, a6.1, a6.2, a7.1, a7.2, a8.1, a8.2⟩]
            exact valid_yes y m d h mi s _ w (by omega) (by omega) (by omega) (by omega) a4 hk a5 a6.1 a6.2 a7.1 a7.2 a8.1 a8.2
          · rw [no a8 (fun q => q.2.2.2.2.2.2.2.2.2.2)]
            exact valid_ns y m d h mi s _ w (by omega) (by omega) (by omega) (by omega) a4 hk a5 a6.1 a6.2 a7.1 a7.2 a8
        · rw [no a7 (fun q => ⟨q.2.2.2.2.2.2.2.2.1, q.2.2.2.2.2.2.2.2.2.1⟩)]
          exact valid_ni y m d h mi s _ w (by omega) (by omega) (by omega) (by omega) a4 hk a5 a6.1 a6.2 a7
      · rw [no a6 (fun q => ⟨q.2.2.2.2.2.2.1, q.2.2.2.2.2.2.2.1⟩)]
        exact valid_nh y m d h mi s _ w (by omega) (by omega) (by omega) (by omega) a4 hk a5 a6
    · rw [no a5 (fun q => q.2.2.2.2.2.1)]
      exact valid_nk y m d h mi s _ w (by omega) (by omega) (by omega) (by omega) a4 hk a5
  · rw [no a4 (fun q => q.2.2.2.2.1)]
    exact valid_nd y m d h mi s w (by omega) (by omega) (by omega) (by omega) a4

set_option maxHeartbeats 1000000 in
set_option maxRecDepth 100000 in
theorem rleap_any (y : Int) (w : World) (h0 : 0 ≤ y) :
    Calls Tryd.prog 61 #[.int .i64 y] w fun e w' => e = .returned (.bool (leapB y)) ∧ w = w' := by
  by_cases h2 : y % 4 = 0
  · have e2 : (y % 4 == 0) = true := by simpa using h2
    by_cases h3 : y % 100 = 0
    · have e3 : (y % 100 != 0) = false := by simpa using h3
      by_cases h1 : y % 400 = 0
      · have e1 : (y % 400 == 0) = true := by simpa using h1
        have hl := Lib.hid (show leapB y = true from decide_eq_true (by omega))
        clear h1 h2 h3
        go_enter Tryd.func61, Tryd.ntmps61
        go_wp2
        go_ret
        exact ⟨by rw [hl.out]; rfl, rfl⟩
      · have e1 : (y % 400 == 0) = false := by simpa using h1
        have hl := Lib.hid (show leapB y = false from decide_eq_false (by omega))
        clear h1 h2 h3
        go_enter Tryd.func61, Tryd.ntmps61
        go_wp2
        go_ret
        exact ⟨by rw [hl.out]; rfl, rfl⟩
    · have e3 : (y % 100 != 0) = true := by simpa using h3
      have hl := Lib.hid (show leapB y = true from decide_eq_true (by omega))
      clear h2 h3
      go_enter Tryd.func61, Tryd.ntmps61
      go_wp2
      go_ret
      exact ⟨by rw [hl.out]; rfl, rfl⟩
  · have e2 : (y % 4 == 0) = false := by simpa using h2
    have hl := Lib.hid (show leapB y = false from decide_eq_false (by omega))
    clear h2
    go_enter Tryd.func61, Tryd.ntmps61
    go_wp2
    go_ret
    exact ⟨by rw [hl.out]; rfl, rfl⟩

set_option maxHeartbeats 1000000 in
set_option maxRecDepth 100000 in
theorem rdays_two (y r : Int) (b : Bool) (w : World) (h0 : 0 ≤ y) (hb : leapB y = b) (hr : r = if b = true then 29 else 28) :
    Calls Tryd.prog 56 #[.int .i64 y, .int .i64 2] w fun e w' => e = .returned (.int .i64 r) ∧ w = w' := by
  have HB := Lib.hid hb
  clear hb
  cases b
  · simp only [Bool.false_eq_true, if_false] at hr
    subst hr
    go_enter Tryd.func56, Tryd.ntmps56
    go_wp2_with (go_at_call 61; refine (rleap_any y _ h0).mono ?_; rintro e w1 ⟨rfl, rfl⟩; rw [HB.out])
    go_ret
    exact ⟨rfl, rfl⟩
  · simp only [if_true] at hr
    subst hr
    go_enter Tryd.func56, Tryd.ntmps56
    go_wp2_with (go_at_call 61; refine (rleap_any y _ h0).mono ?_; rintro e w1 ⟨rfl, rfl⟩; rw [HB.out])
    go_ret
    exact ⟨rfl, rfl⟩

set_option maxHeartbeats 2000000 in
set_option maxRecDepth 100000 in
theorem rdays_else (y m r : Int) (w : World) (h : (m = 1 ∧ r = 31) ∨ (m = 3 ∧ r = 31) ∨ (m = 4 ∧ r = 30) ∨ (m = 5 ∧ r = 31) ∨ (m = 6 ∧ r = 30) ∨ (m = 7 ∧ r = 31) ∨ (m = 8 ∧ r = 31) ∨ (m = 9 ∧ r = 30) ∨ (m = 10 ∧ r = 31) ∨ (m = 11 ∧ r = 30) ∨ (m = 12 ∧ r = 31)) :
    Calls Tryd.prog 56 #[.int .i64 y, .int .i64 m] w fun e w' => e = .returned (.int .i64 r) ∧ w = w' := by
  rcases h with ⟨rfl, rfl⟩ | ⟨rfl, rfl⟩ | ⟨rfl, rfl⟩ | ⟨rfl, rfl⟩ | ⟨rfl, rfl⟩ | ⟨rfl, rfl⟩ | ⟨rfl, rfl⟩ | ⟨rfl, rfl⟩ | ⟨rfl, rfl⟩ | ⟨rfl, rfl⟩ | ⟨rfl, rfl⟩
  all_goals
    go_enter Tryd.func56, Tryd.ntmps56
    go_wp2
    go_ret
    exact ⟨rfl, rfl⟩

theorem rdays_any (y m : Int) (w : World) (h0 : 0 ≤ y) (h1 : 1 ≤ m) (h2 : m ≤ 12) :
    Calls Tryd.prog 56 #[.int .i64 y, .int .i64 m] w fun e w' => e = .returned (.int .i64 (dim y m)) ∧ w = w' := by
  by_cases hm : m = 2
  · subst hm
    exact rdays_two y _ _ w h0 rfl (by unfold dim; rw [if_pos rfl])
  · refine rdays_else y m _ w ?_
    unfold dim
    rw [if_neg hm]
    by_cases h3 : m = 4 ∨ m = 6 ∨ m = 9 ∨ m = 11
    · rw [if_pos h3]; omega
    · rw [if_neg h3]; omega

theorem rdays_as (y m k : Int) (w : World) (h0 : 0 ≤ y) (h1 : 1 ≤ m) (h2 : m ≤ 12) (hk : dim y m = k) :
    Calls Tryd.prog 56 #[.int .i64 y, .int .i64 m] w fun e w' => e = .returned (.int .i64 k) ∧ w' = w := by
  subst hk
  exact (rdays_any y m w h0 h1 h2).mono fun e w' h => ⟨h.1, h.2.symm⟩

end Go.Proofs.YtnchkpheepbacaaDoor.Hand
