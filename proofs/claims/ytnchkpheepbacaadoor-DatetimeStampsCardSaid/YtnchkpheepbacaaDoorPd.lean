/- Plain laws of the printed functions of the package datetime and of its reference: what Split and Join come to. -/
import Derived.Test.YtnchkpheepbacaaDoorCal
import Derived.Test.YtnchkpheepbacaaDoorQ3
namespace Go.Proofs.YtnchkpheepbacaaDoor.Pure
open Go.RowKit Go.Proofs.YtnchkpheepbacaaDoor.Hand Go.Proofs.YtnchkpheepbacaaDoor.Q Go.Proofs.YtnchkpheepbacaaDoor.Cal Go.Proofs.YtnchkpheepbacaaDoorW.PrintWords

theorem w64 {x : Int} (h0 : -9223372036854775808 ≤ x) (h1 : x ≤ 9223372036854775807) : wrap64 x = x := by
  unfold wrap64
  omega
theorem tdiv_eq {x y : Int} (h : 0 ≤ x) : Int.tdiv x y = x / y := Int.tdiv_eq_ediv_of_nonneg h
theorem tmod_eq {x y : Int} (h : 0 ≤ x) : Int.tmod x y = x % y := Int.tmod_eq_emod_of_nonneg h

theorem yearDays_f {y : Int} (h : 0 ≤ y) : datetime_yearDays.f y = some (yl y) := by
  unfold datetime_yearDays.f datetime_leap.f yl leapB
  rw [tmod_eq h, tmod_eq h, tmod_eq h]
  by_cases h1 : y % 400 = 0
  · rw [if_pos h1, decide_eq_true (Or.inl h1)]
    rfl
  · rw [if_neg h1]
    by_cases h2 : y % 4 = 0
    · rw [if_pos h2]
      by_cases h3 : y % 100 = 0
      · rw [decide_eq_false (by omega)]
        simp [h3]
      · rw [decide_eq_true (by omega)]
        simp [h3]
    · rw [if_neg h2, decide_eq_false (by omega)]
      rfl
theorem monthDays_f {y m : Int} (h : 0 ≤ y) (h1 : 1 ≤ m) (h2 : m ≤ 12) : datetime_monthDays.f y m = some (dim y m) := if_pos ⟨h, h1, h2⟩

/-! Split -/
theorem l0_step (k : Nat) (x y x1 x2 x3 x4 x5 : Int) (hy : 0 ≤ y) (hy2 : y ≤ 5000) (h : yl y ≤ x) (hx : x ≤ 1000000) :
    datetime_Split.l0 (k + 1) x y x1 x2 x3 x4 x5 = datetime_Split.l0 k (x - yl y) (y + 1) x1 x2 x3 x4 x5 := by
  have e3 := yl_lo y
  have e4 := yl_hi y
  rw [datetime_Split.l0, yearDays_f hy]
  simp only [Option.bind_some]
  rw [if_pos h, w64 (x := x - yl y) (by omega) (by omega), w64 (x := y + 1) (by omega) (by omega)]
theorem l0_done (k : Nat) (x y x1 x2 x3 x4 x5 : Int) (hy : 0 ≤ y) (h : x < yl y) :
    datetime_Split.l0 (k + 1) x y x1 x2 x3 x4 x5 = datetime_Split.l1 k x y x1 x2 x3 x4 x5 := by
  rw [datetime_Split.l0, yearDays_f hy]
  simp only [Option.bind_some]
  rw [if_neg (by omega)]
theorem split_years (n : Nat) (hn : n ≤ 1000) (D : Int) (h0 : 0 ≤ D) (h1 : D < yl (1970 + n)) (x1 x2 x3 x4 x5 : Int) : ∀ (j i k : Nat), i + j = n → ∀ (x y : Int), x = SY n + D - SY i → y = 1970 + (i : Int) →
    datetime_Split.l0 (k + j + 1) x y x1 x2 x3 x4 x5 = datetime_Split.l1 k D (1970 + n) x1 x2 x3 x4 x5 := by
  intro j
  induction j with
  | zero =>
    intro i k h x y hx hy
    obtain rfl : i = n := by omega
    obtain rfl : x = D := by omega
    subst hy
    exact l0_done k x _ x1 x2 x3 x4 x5 (by omega) h1
  | succ j ih =>
    intro i k h x y hx hy
    have e1 := SY_step (i + 1) j
    rw [show i + 1 + j = n by omega] at e1
    have e2 := SY_succ i
    have e5 := SY_hi n
    have e6 := SY_lo i
    have e7 := yl_hi (1970 + n)
    rw [← hy] at e2
    refine (l0_step (k + j + 1) x y x1 x2 x3 x4 x5 ?_ ?_ ?_ ?_).trans (ih (i + 1) k ?_ (x - yl y) (y + 1) ?_ ?_)
    · omega
    · omega
    · omega
    · omega
    · omega
    · omega
    · omega
theorem l1_step (k : Nat) (x y m x2 x3 x4 x5 : Int) (hy : 0 ≤ y) (hm : 1 ≤ m) (hm2 : m ≤ 12) (h : dim y m ≤ x) (hx : x ≤ 1000000) :
    datetime_Split.l1 (k + 1) x y m x2 x3 x4 x5 = datetime_Split.l1 k (x - dim y m) y (m + 1) x2 x3 x4 x5 := by
  have e3 := dim_lo y m
  have e4 := dim_hi y m
  rw [datetime_Split.l1, monthDays_f hy hm hm2]
  simp only [Option.bind_some]
  rw [if_pos h, w64 (x := x - dim y m) (by omega) (by omega), w64 (x := m + 1) (by omega) (by omega)]
theorem l1_done (k : Nat) (x y m x2 x3 x4 x5 : Int) (hy : 0 ≤ y) (hm : 1 ≤ m) (hm2 : m ≤ 12) (h : x < dim y m) (h0 : 0 ≤ x) :
    datetime_Split.l1 (k + 1) x y m x2 x3 x4 x5 = some (y, m, x + 1, x3, x4, x5, 0) := by
  have e4 := dim_hi y m
  rw [datetime_Split.l1, monthDays_f hy hm hm2]
  simp only [Option.bind_some]
  rw [if_neg (by omega), w64 (x := x + 1) (by omega) (by omega)]
theorem split_months (y : Int) (hy : 0 ≤ y) (m : Nat) (hm : m < 12) (e : Int) (h0 : 0 ≤ e) (h1 : e < dim y (m + 1)) (x2 x3 x4 x5 : Int) : ∀ (j i k : Nat), i + j = m → ∀ (x z : Int), x = SM y m + e - SM y i → z = (i : Int) + 1 →
    datetime_Split.l1 (k + j + 1) x y z x2 x3 x4 x5 = some (y, (m : Int) + 1, e + 1, x3, x4, x5, 0) := by
  intro j
  induction j with
  | zero =>
    intro i k h x z hx hz
    obtain rfl : i = m := by omega
    obtain rfl : x = e := by omega
    subst hz
    exact l1_done k x y _ x2 x3 x4 x5 hy (by omega) (by omega) h1 h0
  | succ j ih =>
    intro i k h x z hx hz
    have e1 := SM_step y (i + 1) j
    rw [show i + 1 + j = m by omega] at e1
    have e2 := SM_succ y i
    have e5 := SM_hi y m
    have e6 := SM_lo y i
    have e7 := dim_hi y (m + 1)
    rw [← hz] at e2
    refine (l1_step (k + j + 1) x y z x2 x3 x4 x5 hy ?_ ?_ ?_ ?_).trans (ih (i + 1) k ?_ (x - dim y z) (z + 1) ?_ ?_)
    · omega
    · omega
    · omega
    · omega
    · omega
    · omega
    · omega
/-- Is this a time; is this a zone. -/
def timeB (t : Int) : Bool := decide (315532800 ≤ t ∧ t ≤ 4102444799)
def zoneB (z : Int) : Bool := decide (-1440 ≤ z ∧ z ≤ 1440)
theorem time_f (t : Int) : datetime_isTime.f t = some (timeB t) := by
  unfold datetime_isTime.f timeB
  split
  · congr 1; rw [Bool.eq_iff_iff, decide_eq_true_eq, decide_eq_true_eq]; omega
  · rw [decide_eq_false (by omega)]
theorem zone_f (t : Int) : datetime_isZone.f t = some (zoneB t) := by
  unfold datetime_isZone.f zoneB
  split
  · congr 1; rw [Bool.eq_iff_iff, decide_eq_true_eq, decide_eq_true_eq]; omega
  · rw [decide_eq_false (by omega)]
/-- What Split comes to in range. -/
theorem split_in (k : Nat) (t z : Int) (ht : timeB t = true) (hz : zoneB z = true) (n m : Nat) (e : Int) (hn : n ≤ 200) (hm : m < 12) (h0 : 0 ≤ e) (h1 : e < dim (1970 + n) (m + 1)) (hX : (t + 60 * z) / 86400 = SY n + (SM (1970 + n) m + e)) :
    datetime_Split.f (k + 400) t z = some (1970 + (n : Int), (m : Int) + 1, e + 1, (t + 60 * z) % 86400 / 3600, (t + 60 * z) % 86400 / 60 % 60, (t + 60 * z) % 60, 0) := by
  have ht' := of_decide_eq_true ht
  have hz' := of_decide_eq_true hz
  have e1 := SM_step (1970 + n) (m + 1) (11 - m)
  rw [show m + 1 + (11 - m) = 12 by omega, SM_year] at e1
  have e2 : SM (1970 + n) (m + 1) = SM (1970 + n) m + dim (1970 + n) (m + 1) := rfl
  have e3 := SM_lo (1970 + n) m
  unfold datetime_Split.f
  rw [time_f, zone_f, ht, hz]
  simp only [Option.bind_some, if_true, Bool.not_true, datetime_Split.j0, Bool.false_eq_true, if_false]
  rw [w64 (x := 60 * z) (by omega) (by omega), w64 (x := t + 60 * z) (by omega) (by omega), tdiv_eq (by omega), w64 (x := (t + 60 * z) / 86400) (by omega) (by omega), tmod_eq (x := t + 60 * z) (y := 86400) (by omega)]
  rw [tdiv_eq (x := (t + 60 * z) % 86400) (y := 3600) (by omega), tdiv_eq (x := (t + 60 * z) % 86400) (y := 60) (by omega), w64 (x := (t + 60 * z) % 86400 / 3600) (by omega) (by omega), w64 (x := (t + 60 * z) % 86400 / 60) (by omega) (by omega), tmod_eq (x := (t + 60 * z) % 86400 / 60) (by omega), tmod_eq (x := t + 60 * z) (y := 60) (by omega)]
  rw [hX]
  have a := split_years n (by omega) (SM (1970 + n) m + e) (by omega) (by omega) 1 0 ((t + 60 * z) % 86400 / 3600) ((t + 60 * z) % 86400 / 60 % 60) ((t + 60 * z) % 60) n 0 (k + 398 - n) (by omega) (SY n + (SM (1970 + n) m + e)) 1970 (by simp only [SY]; omega) (by omega)
  rw [show k + 398 - n + n + 1 = k + 399 by omega] at a
  have b := split_months (1970 + n) (by omega) m hm e h0 h1 0 ((t + 60 * z) % 86400 / 3600) ((t + 60 * z) % 86400 / 60 % 60) ((t + 60 * z) % 60) m 0 (k + 397 - n - m) (by omega) (SM (1970 + n) m + e) 1 (by simp only [SM]; omega) (by omega)
  rw [show k + 397 - n - m + m + 1 = k + 398 - n by omega] at b
  exact a.trans b
theorem split_out (k : Nat) (t z : Int) (h : timeB t = false ∨ zoneB z = false) : datetime_Split.f (k + 400) t z = some (0, 0, 0, 0, 0, 0, 2) := by
  unfold datetime_Split.f
  rw [time_f, zone_f]
  cases ht : timeB t
  · simp [datetime_Split.j0]
  · cases hz : zoneB z
    · simp [datetime_Split.j0]
    · simp [ht, hz] at h
/-- A time in a zone has its day. -/
theorem has_day (t z : Int) (ht : timeB t = true) (hz : zoneB z = true) : ∃ (n m : Nat) (e : Int), n < 131 ∧ m < 12 ∧ 0 ≤ e ∧ e < dim (1970 + n) (m + 1) ∧ (t + 60 * z) / 86400 = SY n + (SM (1970 + n) m + e) := by
  have ht' := of_decide_eq_true ht
  have hz' := of_decide_eq_true hz
  obtain ⟨n, m, e, h⟩ := day_of ((t + 60 * z) / 86400) (by omega) 131 (by rw [SY131]; omega)
  exact ⟨n, m, e, h.1, h.2.1, h.2.2.2.1, h.2.2.2.2, h.2.2.1⟩
end Go.Proofs.YtnchkpheepbacaaDoor.Pure
