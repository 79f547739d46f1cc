/- The calendar in plain numbers: days of years and months, their sums, and that each day has its year, month and day. -/
import Derived.Test.YtnchkpheepbacaaDoorDa
namespace Go.Proofs.YtnchkpheepbacaaDoor.Cal
open Go.RowKit Go.Proofs.YtnchkpheepbacaaDoor.Hand

def yl (y : Int) : Int := if leapB y = true then 366 else 365
/-- Days from 1970 to 1970 + n. -/
def SY : Nat → Int
  | 0 => 0
  | n + 1 => SY n + yl (1970 + n)
/-- Days from 1970 - n to 1970. -/
def BY : Nat → Int
  | 0 => 0
  | n + 1 => BY n + yl (1970 - (n + 1 : Nat))
/-- Days of a year's first n months. -/
def SM (y : Int) : Nat → Int
  | 0 => 0
  | n + 1 => SM y n + dim y (n + 1)

theorem SY_succ (n : Nat) : SY (n + 1) = SY n + yl (1970 + n) := by simp only [SY]
theorem SM_succ (y : Int) (n : Nat) : SM y (n + 1) = SM y n + dim y (n + 1) := by simp only [SM]
theorem BY_succ (n : Nat) : BY (n + 1) = BY n + yl (1970 - (n + 1 : Nat)) := by simp only [BY]
theorem yl_lo (y : Int) : 365 ≤ yl y := by unfold yl; split <;> omega
theorem yl_hi (y : Int) : yl y ≤ 366 := by unfold yl; split <;> omega
theorem dim_lo (y m : Int) : 28 ≤ dim y m := by unfold dim; split <;> split <;> omega
theorem dim_hi (y m : Int) : dim y m ≤ 31 := by unfold dim; split <;> split <;> omega

theorem SY_lo (n : Nat) : 365 * (n : Int) ≤ SY n := by
  induction n with
  | zero => simp [SY]
  | succ n ih => have := yl_lo (1970 + n); simp only [SY]; omega
theorem SY_hi (n : Nat) : SY n ≤ 366 * (n : Int) := by
  induction n with
  | zero => simp [SY]
  | succ n ih => have := yl_hi (1970 + n); simp only [SY]; omega
theorem BY_lo (n : Nat) : 0 ≤ BY n := by
  induction n with
  | zero => simp [BY]
  | succ n ih => have := yl_lo (1970 - (n + 1 : Nat)); simp only [BY]; omega
theorem BY_hi (n : Nat) : BY n ≤ 366 * (n : Int) := by
  induction n with
  | zero => simp [BY]
  | succ n ih => have := yl_hi (1970 - (n + 1 : Nat)); simp only [BY]; omega
theorem SY_step (i j : Nat) : SY i + 365 * (j : Int) ≤ SY (i + j) := by
  induction j with
  | zero => simp
  | succ j ih => have := yl_lo (1970 + (i + j : Nat)); rw [← Nat.add_assoc]; simp only [SY]; omega
theorem SM_lo (y : Int) (n : Nat) : 28 * (n : Int) ≤ SM y n := by
  induction n with
  | zero => simp [SM]
  | succ n ih => have := dim_lo y (n + 1); simp only [SM]; omega
theorem SM_hi (y : Int) (n : Nat) : SM y n ≤ 31 * (n : Int) := by
  induction n with
  | zero => simp [SM]
  | succ n ih => have := dim_hi y (n + 1); simp only [SM]; omega
theorem SM_step (y : Int) (i j : Nat) : SM y i + 28 * (j : Int) ≤ SM y (i + j) := by
  induction j with
  | zero => simp
  | succ j ih => have := dim_lo y ((i + j : Nat) + 1); rw [← Nat.add_assoc]; simp only [SM]; omega
theorem SM_year (y : Int) : SM y 12 = yl y := by
  simp only [SM, dim, yl]
  cases h : leapB y <;> simp

/-- Each day number lies in a year. -/
theorem year_of (X : Int) (h0 : 0 ≤ X) (N : Nat) (h1 : X < SY N) : ∃ (n : Nat) (D : Int), n < N ∧ X = SY n + D ∧ 0 ≤ D ∧ D < yl (1970 + n) := by
  induction N with
  | zero => simp [SY] at h1; omega
  | succ N ih =>
    by_cases h : X < SY N
    · obtain ⟨n, D, h2, h3⟩ := ih h
      exact ⟨n, D, by omega, h3⟩
    · refine ⟨N, X - SY N, by omega, by omega, by omega, ?_⟩
      simp only [SY] at h1
      omega
/-- Each day of a year lies in a month. -/
theorem month_of (y X : Int) (h0 : 0 ≤ X) (N : Nat) (h1 : X < SM y N) : ∃ (m : Nat) (e : Int), m < N ∧ X = SM y m + e ∧ 0 ≤ e ∧ e < dim y (m + 1) := by
  induction N with
  | zero => simp [SM] at h1; omega
  | succ N ih =>
    by_cases h : X < SM y N
    · obtain ⟨n, D, h2, h3⟩ := ih h
      exact ⟨n, D, by omega, h3⟩
    · refine ⟨N, X - SM y N, by omega, by omega, by omega, ?_⟩
      simp only [SM] at h1
      omega
theorem day_of (X : Int) (h0 : 0 ≤ X) (N : Nat) (h1 : X < SY N) : ∃ (n m : Nat) (e : Int), n < N ∧ m < 12 ∧ X = SY n + (SM (1970 + n) m + e) ∧ 0 ≤ e ∧ e < dim (1970 + n) (m + 1) := by
  obtain ⟨n, D, h2, h3, h4, h5⟩ := year_of X h0 N h1
  obtain ⟨m, e, h6, h7, h8, h9⟩ := month_of (1970 + n) D h4 12 (by rw [SM_year]; exact h5)
  exact ⟨n, m, e, h2, h6, by omega, h8, h9⟩
theorem SY131 : SY 131 = 47847 := by decide +kernel
/-- Days since 1970 of a date. -/
def YY (y : Int) : Int := if 1970 ≤ y then SY (y - 1970).toNat else - BY (1970 - y).toNat
def days (y m d : Int) : Int := d - 1 + SM y (m - 1).toNat + YY y
end Go.Proofs.YtnchkpheepbacaaDoor.Cal
