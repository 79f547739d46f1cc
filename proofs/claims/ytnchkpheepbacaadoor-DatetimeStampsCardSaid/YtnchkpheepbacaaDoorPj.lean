/- Plain laws of the printed functions of the package datetime and of its reference: what Join comes to. -/
import Derived.Test.YtnchkpheepbacaaDoorPd
namespace Go.Proofs.YtnchkpheepbacaaDoor.Pure
open Go.RowKit Go.Proofs.YtnchkpheepbacaaDoor.Hand Go.Proofs.YtnchkpheepbacaaDoor.Q Go.Proofs.YtnchkpheepbacaaDoor.Cal Go.Proofs.YtnchkpheepbacaaDoorW.PrintWords

theorem sm_step (k : Nat) (x z y m d h mi s : Int) (hy : 0 ≤ y) (hz : 1 ≤ z) (hz2 : z ≤ 12) (hlt : z < m) (x0 : -2000000 ≤ x) (x1 : x ≤ 2000000) :
    datetime_seconds.l0 (k + 1) x z y m d h mi s = datetime_seconds.l0 k (x + dim y z) (z + 1) y m d h mi s := by
  have e3 := dim_lo y z
  have e4 := dim_hi y z
  rw [datetime_seconds.l0, if_pos hlt, monthDays_f hy hz hz2]
  simp only [Option.bind_some]
  rw [w64 (x := x + dim y z) (by omega) (by omega), w64 (x := z + 1) (by omega) (by omega)]
theorem sec_months (y : Int) (hy : 0 ≤ y) (M : Nat) (hM : M < 12) (b d h mi s : Int) (b0 : -1000000 ≤ b) (b1 : b ≤ 1000000) : ∀ (j i k : Nat), i + j = M → ∀ (x z : Int), x = b + SM y i → z = (i : Int) + 1 →
    datetime_seconds.l0 (k + j) x z y ((M : Int) + 1) d h mi s = datetime_seconds.l0 k (b + SM y M) ((M : Int) + 1) y ((M : Int) + 1) d h mi s := by
  intro j
  induction j with
  | zero =>
    intro i k e x z hx hz
    obtain rfl : i = M := by omega
    subst hx hz
    rfl
  | succ j ih =>
    intro i k e x z hx hz
    have e2 := SM_succ y i
    have e5 := SM_hi y i
    have e6 := SM_lo y i
    rw [← hz] at e2
    refine (sm_step (k + j) x z y ((M : Int) + 1) d h mi s hy ?_ ?_ ?_ ?_ ?_).trans (ih (i + 1) k ?_ (x + dim y z) (z + 1) ?_ ?_)
    · omega
    · omega
    · omega
    · omega
    · omega
    · omega
    · omega
    · omega
theorem sy_step (k : Nat) (x z y m d h mi s : Int) (hz : 0 ≤ z) (hz2 : z ≤ 5000) (hlt : z < y) (x0 : -2000000 ≤ x) (x1 : x ≤ 2000000) :
    datetime_seconds.l1 (k + 1) x z y m d h mi s = datetime_seconds.l1 k (x + yl z) (z + 1) y m d h mi s := by
  have e3 := yl_lo z
  have e4 := yl_hi z
  rw [datetime_seconds.l1, if_pos hlt, yearDays_f hz]
  simp only [Option.bind_some]
  rw [w64 (x := x + yl z) (by omega) (by omega), w64 (x := z + 1) (by omega) (by omega)]
theorem sec_years (n : Nat) (hn : n ≤ 1000) (b m d h mi s : Int) (b0 : -1000000 ≤ b) (b1 : b ≤ 1000000) : ∀ (j i k : Nat), i + j = n → ∀ (x z : Int), x = b + SY i → z = 1970 + (i : Int) →
    datetime_seconds.l1 (k + j) x z (1970 + n) m d h mi s = datetime_seconds.l1 k (b + SY n) (1970 + n) (1970 + n) m d h mi s := by
  intro j
  induction j with
  | zero =>
    intro i k e x z hx hz
    obtain rfl : i = n := by omega
    subst hx hz
    rfl
  | succ j ih =>
    intro i k e x z hx hz
    have e2 := SY_succ i
    have e5 := SY_hi i
    have e6 := SY_lo i
    rw [← hz] at e2
    refine (sy_step (k + j) x z (1970 + n) m d h mi s ?_ ?_ ?_ ?_ ?_).trans (ih (i + 1) k ?_ (x + yl z) (z + 1) ?_ ?_)
    · omega
    · omega
    · omega
    · omega
    · omega
    · omega
    · omega
    · omega
theorem sb_step (k : Nat) (x z y m d h mi s : Int) (hz : 0 ≤ z) (hlt : z < 1970) (x0 : -2000000 ≤ x) (x1 : x ≤ 2000000) :
    datetime_seconds.l2 (k + 1) x z y m d h mi s = datetime_seconds.l2 k (x - yl z) (z + 1) y m d h mi s := by
  have e3 := yl_lo z
  have e4 := yl_hi z
  rw [datetime_seconds.l2, if_pos hlt, yearDays_f hz]
  simp only [Option.bind_some]
  rw [w64 (x := x - yl z) (by omega) (by omega), w64 (x := z + 1) (by omega) (by omega)]
theorem sec_back (y m d h mi s : Int) : ∀ (j : Nat) (x z : Int) (k : Nat), j ≤ 100 → -1000000 + 366 * (j : Int) ≤ x → x ≤ 1000000 → z = 1970 - (j : Int) →
    datetime_seconds.l2 (k + j) x z y m d h mi s = datetime_seconds.l2 k (x - BY j) 1970 y m d h mi s := by
  intro j
  induction j with
  | zero =>
    intro x z k hj x0 x1 hz
    have e : BY 0 = 0 := by simp only [BY]
    rw [e, Int.sub_zero]
    obtain rfl : z = 1970 := by omega
    rfl
  | succ j ih =>
    intro x z k hj x0 x1 hz
    have e2 := BY_succ j
    rw [← hz] at e2
    have e3 := yl_lo z
    have e4 := yl_hi z
    rw [show x - BY (j + 1) = x - yl z - BY j by omega]
    refine (sb_step (k + j) x z y m d h mi s ?_ ?_ ?_ ?_).trans (ih (x - yl z) (z + 1) k ?_ ?_ ?_ ?_)
    · omega
    · omega
    · omega
    · omega
    · omega
    · omega
    · omega
    · omega
theorem sm_done (k : Nat) (x z y m d h mi s : Int) (hz : ¬ z < m) : datetime_seconds.l0 (k + 1) x z y m d h mi s = datetime_seconds.l1 k x 1970 y m d h mi s := by
  rw [datetime_seconds.l0, if_neg hz]
theorem sy_done (k : Nat) (x z y m d h mi s : Int) (hz : ¬ z < y) : datetime_seconds.l1 (k + 1) x z y m d h mi s = datetime_seconds.l2 k x y y m d h mi s := by
  rw [datetime_seconds.l1, if_neg hz]
theorem sb_done (k : Nat) (x z y m d h mi s : Int) (hz : ¬ z < 1970) (x0 : -2000000 ≤ x) (x1 : x ≤ 2000000) (hh : 0 ≤ h ∧ h ≤ 23) (hi : 0 ≤ mi ∧ mi ≤ 59) (hs : 0 ≤ s ∧ s ≤ 59) : datetime_seconds.l2 (k + 1) x z y m d h mi s = some (x * 86400 + h * 3600 + mi * 60 + s) := by
  rw [datetime_seconds.l2, if_neg hz, w64 (x := x * 86400) (by omega) (by omega), w64 (x := h * 3600) (by omega) (by omega), w64 (x := x * 86400 + h * 3600) (by omega) (by omega), w64 (x := mi * 60) (by omega) (by omega), w64 (x := x * 86400 + h * 3600 + mi * 60) (by omega) (by omega), w64 (by omega) (by omega)]
/-- The seconds of a clock since 1970. -/
def secs (y m d h mi s : Int) : Int := days y m d * 86400 + h * 3600 + mi * 60 + s

theorem okC_true {y m d h mi s : Int} (e : okC y m d h mi s = true) : 1900 ≤ y ∧ y ≤ 2155 ∧ 1 ≤ m ∧ m ≤ 12 ∧ 1 ≤ d ∧ d ≤ dim y m ∧ 0 ≤ h ∧ h ≤ 23 ∧ 0 ≤ mi ∧ mi ≤ 59 ∧ 0 ≤ s ∧ s ≤ 59 := of_decide_eq_true e

theorem YY_bounds {y : Int} (h0 : 1900 ≤ y) (h1 : y ≤ 2155) : -30000 ≤ YY y ∧ YY y ≤ 70000 := by
  unfold YY
  split
  · have := SY_lo (y - 1970).toNat
    have := SY_hi (y - 1970).toNat
    omega
  · have := BY_lo (1970 - y).toNat
    have := BY_hi (1970 - y).toNat
    omega
theorem days_bounds {y m d : Int} (h0 : 1900 ≤ y) (h1 : y ≤ 2155) (m0 : 1 ≤ m) (m1 : m ≤ 12) (d0 : 1 ≤ d) (d1 : d ≤ 31) : -40000 ≤ days y m d ∧ days y m d ≤ 80000 := by
  have := YY_bounds h0 h1
  have := SM_lo y (m - 1).toNat
  have := SM_hi y (m - 1).toNat
  unfold days
  omega

theorem seconds_f (k : Nat) {y m d h mi s : Int} (e : okC y m d h mi s = true) : datetime_seconds.f (k + 600) y m d h mi s = some (secs y m d h mi s) := by
  obtain ⟨y0, y1, m0, m1, d0, d1, h0, h1, i0, i1, s0, s1⟩ := okC_true e
  have dh := dim_hi y m
  have yb := YY_bounds y0 y1
  obtain ⟨M, hM⟩ := Int.eq_ofNat_of_zero_le (show 0 ≤ m - 1 by omega)
  obtain rfl : m = (M : Int) + 1 := by omega
  have sl := SM_lo y M
  have sh := SM_hi y M
  unfold datetime_seconds.f secs days
  rw [w64 (x := d - 1) (by omega) (by omega), show ((M : Int) + 1 - 1).toNat = M by omega]
  have a := sec_months y (by omega) M (by omega) (d - 1) d h mi s (by omega) (by omega) M 0 (k + 599 - M + 1) (by omega) (d - 1) 1 (by simp only [SM]; omega) (by omega)
  rw [show k + 599 - M + 1 + M = k + 600 by omega] at a
  refine a.trans ((sm_done _ _ _ _ _ _ _ _ _ (by omega)).trans ?_)
  by_cases hy : 1970 ≤ y
  · obtain ⟨n, hn⟩ := Int.eq_ofNat_of_zero_le (show 0 ≤ y - 1970 by omega)
    obtain rfl : y = 1970 + (n : Int) := by omega
    have hYY : YY (1970 + (n : Int)) = SY n := by unfold YY; rw [if_pos hy, show (1970 + (n : Int) - 1970).toNat = n by omega]
    rw [hYY] at yb ⊢
    have b := sec_years n (by omega) (d - 1 + SM (1970 + n) M) ((M : Int) + 1) d h mi s (by omega) (by omega) n 0 (k + 597 - M - n + 2) (by omega) (d - 1 + SM (1970 + n) M) 1970 (by simp only [SY]; omega) (by omega)
    rw [show k + 597 - M - n + 2 + n = k + 599 - M by omega] at b
    exact b.trans ((sy_done _ _ _ _ _ _ _ _ _ (by omega)).trans (sb_done _ _ _ _ _ _ _ _ _ (by omega) (by omega) (by omega) ⟨h0, h1⟩ ⟨i0, i1⟩ ⟨s0, s1⟩))
  · obtain ⟨n, hn⟩ := Int.eq_ofNat_of_zero_le (show 0 ≤ 1970 - y by omega)
    obtain rfl : y = 1970 - (n : Int) := by omega
    have hYY : YY (1970 - (n : Int)) = - BY n := by unfold YY; rw [if_neg hy, show (1970 - (1970 - (n : Int))).toNat = n by omega]
    rw [hYY] at yb ⊢
    have c := sec_back (1970 - (n : Int)) ((M : Int) + 1) d h mi s n (d - 1 + SM (1970 - (n : Int)) M) (1970 - (n : Int)) (k + 597 - M - n + 1) (by omega) (by omega) (by omega) rfl
    rw [show k + 597 - M - n + 1 + n = k + 598 - M by omega] at c
    rw [show k + 599 - M = (k + 598 - M) + 1 by omega]
    refine (sy_done _ _ _ _ _ _ _ _ _ (by omega)).trans (c.trans ((sb_done _ _ _ _ _ _ _ _ _ (by omega) (by omega) (by omega) ⟨h0, h1⟩ ⟨i0, i1⟩ ⟨s0, s1⟩).trans ?_))
    rw [show d - 1 + SM (1970 - (n : Int)) M - BY n = d - 1 + SM (1970 - (n : Int)) M + - BY n by omega]

theorem secs_bounds {y m d h mi s : Int} (e : okC y m d h mi s = true) : -4000000000 ≤ secs y m d h mi s ∧ secs y m d h mi s ≤ 8000000000 := by
  obtain ⟨y0, y1, m0, m1, d0, d1, h0, h1, i0, i1, s0, s1⟩ := okC_true e
  have dh := dim_hi y m
  have := days_bounds y0 y1 m0 m1 d0 (by omega)
  unfold secs
  omega

/-- What Join comes to. -/
def joinR (y m d h mi s z : Int) : Int × Int :=
  if okC y m d h mi s = true then (if zoneB z = true ∧ timeB (secs y m d h mi s - 60 * z) = true then (secs y m d h mi s - 60 * z, 0) else (0, 2)) else (0, 1)

theorem join_f (k : Nat) (y m d h mi s z : Int) : datetime_Join.f (k + 600) y m d h mi s z = some (joinR y m d h mi s z) := by
  unfold datetime_Join.f joinR datetime_valid.f
  simp only [Option.bind_some]
  cases e : okC y m d h mi s
  · simp
  · have b := secs_bounds e
    simp only [if_true]
    rw [zone_f]
    simp only [Option.bind_some]
    cases hz : zoneB z
    · simp
    · have hz' := of_decide_eq_true hz
      simp only [if_true, true_and]
      rw [seconds_f k e]
      simp only [Option.bind_some]
      rw [w64 (x := 60 * z) (by omega) (by omega), w64 (by omega) (by omega), time_f]
      simp only [Option.bind_some]
      cases timeB (secs y m d h mi s - 60 * z) <;> simp

end Go.Proofs.YtnchkpheepbacaaDoor.Pure
