/- Plain laws of the reference's printed functions: what its Split and Join come to. -/
import Derived.Test.YtnchkpheepbacaaDoorPj
import Derived.Test.YtnchkpheepbacaaDoorQ5
namespace Go.Proofs.YtnchkpheepbacaaDoor.Pure
open Go.RowKit Go.Proofs.YtnchkpheepbacaaDoor.Hand Go.Proofs.YtnchkpheepbacaaDoor.Q Go.Proofs.YtnchkpheepbacaaDoor.Cal Go.Proofs.YtnchkpheepbacaaDoorW.PrintWords

theorem ryear_f {y : Int} (h : 0 ≤ y) : masterdiscref16_year.f y = some (yl y) := by
  unfold masterdiscref16_year.f masterdiscref16_leap.f yl leapB
  rw [tmod_eq h, tmod_eq h, tmod_eq h]
  by_cases h2 : y % 4 = 0
  · rw [if_pos h2]
    by_cases h3 : y % 100 = 0
    · rw [if_pos h3]
      by_cases h1 : y % 400 = 0
      · rw [decide_eq_true (Or.inl h1)]
        simp [h1]
      · rw [decide_eq_false (by omega)]
        simp [h1]
    · rw [if_neg h3, decide_eq_true (by omega)]
      rfl
  · rw [if_neg h2, decide_eq_false (by omega)]
    rfl
theorem rleap_f {y : Int} (h : 0 ≤ y) : masterdiscref16_leap.f y = some (leapB y) := by
  unfold masterdiscref16_leap.f leapB
  rw [tmod_eq h, tmod_eq h, tmod_eq h]
  by_cases h2 : y % 4 = 0
  · rw [if_pos h2]
    by_cases h3 : y % 100 = 0
    · rw [if_pos h3]
      by_cases h1 : y % 400 = 0
      · rw [decide_eq_true (Or.inl h1)]
        simp [h1]
      · rw [decide_eq_false (by omega)]
        simp [h1]
    · rw [if_neg h3, decide_eq_true (by omega)]
  · rw [if_neg h2, decide_eq_false (by omega)]
theorem rdays_f {y m : Int} (h : 0 ≤ y) (_h1 : 1 ≤ m) (_h2 : m ≤ 12) : masterdiscref16_days.f y m = some (dim y m) := by
  unfold masterdiscref16_days.f dim
  rw [rleap_f h]
  by_cases hm : m = 2
  · rw [if_pos hm, if_pos hm]
    simp only [Option.bind_some]
    cases leapB y <;> rfl
  · rw [if_neg hm, if_neg hm]
    by_cases h4 : m = 4
    · rw [if_pos h4, if_pos (by omega)]
    · rw [if_neg h4]
      by_cases h6 : m = 6
      · rw [if_pos h6, if_pos (by omega)]
      · rw [if_neg h6]
        by_cases h9 : m = 9
        · rw [if_pos h9, if_pos (by omega)]
        · rw [if_neg h9]
          by_cases h11 : m = 11
          · rw [if_pos h11, if_pos (by omega)]
          · rw [if_neg h11, if_neg (by omega)]
theorem rl0_step (k : Nat) (t : Int) (x y x1 x2 x3 x4 x5 : Int) (hy : 0 ≤ y) (hy2 : y ≤ 5000) (h : yl y ≤ x) (hx : x ≤ 1000000) :
    masterdiscref16_utc.l0 (k + 1) t x y x1 x2 x3 x4 x5 = masterdiscref16_utc.l0 k t (x - yl y) (y + 1) x1 x2 x3 x4 x5 := by
  have e3 := yl_lo y
  have e4 := yl_hi y
  rw [masterdiscref16_utc.l0, ryear_f hy]
  simp only [Option.bind_some]
  rw [if_pos h, w64 (x := x - yl y) (by omega) (by omega), w64 (x := y + 1) (by omega) (by omega)]
theorem rl0_done (k : Nat) (t : Int) (x y x1 x2 x3 x4 x5 : Int) (hy : 0 ≤ y) (h : x < yl y) :
    masterdiscref16_utc.l0 (k + 1) t x y x1 x2 x3 x4 x5 = masterdiscref16_utc.l1 k t x y x1 x2 x3 x4 x5 := by
  rw [masterdiscref16_utc.l0, ryear_f hy]
  simp only [Option.bind_some]
  rw [if_neg (by omega)]
theorem rsplit_years (n : Nat) (hn : n ≤ 1000) (D : Int) (h0 : 0 ≤ D) (h1 : D < yl (1970 + n)) (t : Int) (x1 x2 x3 x4 x5 : Int) : ∀ (j i k : Nat), i + j = n → ∀ (x y : Int), x = SY n + D - SY i → y = 1970 + (i : Int) →
    masterdiscref16_utc.l0 (k + j + 1) t x y x1 x2 x3 x4 x5 = masterdiscref16_utc.l1 k t D (1970 + n) x1 x2 x3 x4 x5 := by
  intro j
  induction j with
  | zero =>
    intro i k h x y hx hy
    obtain rfl : i = n := by omega
    obtain rfl : x = D := by omega
    subst hy
    exact rl0_done k t x _ x1 x2 x3 x4 x5 (by omega) h1
  | succ j ih =>
    intro i k h x y hx hy
    have e1 := SY_step (i + 1) j
    rw [show i + 1 + j = n by omega] at e1
    have e2 := SY_succ i
    have e5 := SY_hi n
    have e6 := SY_lo i
    have e7 := yl_hi (1970 + n)
    rw [← hy] at e2
    refine (rl0_step (k + j + 1) t x y x1 x2 x3 x4 x5 ?_ ?_ ?_ ?_).trans (ih (i + 1) k ?_ (x - yl y) (y + 1) ?_ ?_)
    · omega
    · omega
    · omega
    · omega
    · omega
    · omega
    · omega
theorem rl1_step (k : Nat) (t : Int) (x y m x2 x3 x4 x5 : Int) (hy : 0 ≤ y) (hm : 1 ≤ m) (hm2 : m ≤ 12) (h : dim y m ≤ x) (hx : x ≤ 1000000) :
    masterdiscref16_utc.l1 (k + 1) t x y m x2 x3 x4 x5 = masterdiscref16_utc.l1 k t (x - dim y m) y (m + 1) x2 x3 x4 x5 := by
  have e3 := dim_lo y m
  have e4 := dim_hi y m
  rw [masterdiscref16_utc.l1, rdays_f hy hm hm2]
  simp only [Option.bind_some]
  rw [if_pos h, w64 (x := x - dim y m) (by omega) (by omega), w64 (x := m + 1) (by omega) (by omega)]
theorem rl1_done (k : Nat) (t : Int) (x y m x2 x3 x4 x5 : Int) (ht : 0 ≤ t) (hy : 0 ≤ y) (hm : 1 ≤ m) (hm2 : m ≤ 12) (h : x < dim y m) (h0 : 0 ≤ x) :
    masterdiscref16_utc.l1 (k + 1) t x y m x2 x3 x4 x5 = some (y, m, x + 1, t % 86400 / 3600, t % 86400 / 60 % 60, t % 60) := by
  have e4 := dim_hi y m
  rw [masterdiscref16_utc.l1, rdays_f hy hm hm2]
  simp only [Option.bind_some]
  rw [if_neg (by omega), w64 (x := 1 + x) (by omega) (by omega)]
  rw [tmod_eq ht, tdiv_eq (by omega), tdiv_eq (by omega), w64 (x := t % 86400 / 3600) (by omega) (by omega), w64 (x := t % 86400 / 60) (by omega) (by omega), tmod_eq (x := t % 86400 / 60) (by omega), tmod_eq (x := t) ht, show 1 + x = x + 1 by omega]
theorem rsplit_months (y : Int) (hy : 0 ≤ y) (m : Nat) (hm : m < 12) (e : Int) (h0 : 0 ≤ e) (h1 : e < dim y (m + 1)) (t : Int) (ht : 0 ≤ t) (x2 x3 x4 x5 : Int) : ∀ (j i k : Nat), i + j = m → ∀ (x z : Int), x = SM y m + e - SM y i → z = (i : Int) + 1 →
    masterdiscref16_utc.l1 (k + j + 1) t x y z x2 x3 x4 x5 = some (y, (m : Int) + 1, e + 1, t % 86400 / 3600, t % 86400 / 60 % 60, t % 60) := by
  intro j
  induction j with
  | zero =>
    intro i k h x z hx hz
    obtain rfl : i = m := by omega
    obtain rfl : x = e := by omega
    subst hz
    exact rl1_done k t x y _ x2 x3 x4 x5 ht hy (by omega) (by omega) h1 h0
  | succ j ih =>
    intro i k h x z hx hz
    have e1 := SM_step y (i + 1) j
    rw [show i + 1 + j = m by omega] at e1
    have e2 := SM_succ y i
    have e5 := SM_hi y m
    have e6 := SM_lo y i
    have e7 := dim_hi y (m + 1)
    rw [← hz] at e2
    refine (rl1_step (k + j + 1) t x y z x2 x3 x4 x5 hy ?_ ?_ ?_ ?_).trans (ih (i + 1) k ?_ (x - dim y z) (z + 1) ?_ ?_)
    · omega
    · omega
    · omega
    · omega
    · omega
    · omega
    · omega

theorem rtime_f (t : Int) : masterdiscref16_Time.f t = some (timeB t) := time_f t
theorem rzone_f (t : Int) : masterdiscref16_Zone.f t = some (zoneB t) := zone_f t

theorem rsplit_in (k : Nat) (t z : Int) (ht : timeB t = true) (hz : zoneB z = true) (n m : Nat) (e : Int) (hn : n ≤ 200) (hm : m < 12) (h0 : 0 ≤ e) (h1 : e < dim (1970 + n) (m + 1)) (hX : (t + 60 * z) / 86400 = SY n + (SM (1970 + n) m + e)) :
    masterdiscref16_Split.f (k + 400) t z = some (1970 + (n : Int), (m : Int) + 1, e + 1, (t + 60 * z) % 86400 / 3600, (t + 60 * z) % 86400 / 60 % 60, (t + 60 * z) % 60, 0) := by
  have ht' := of_decide_eq_true ht
  have hz' := of_decide_eq_true hz
  have e1 := SM_step (1970 + n) (m + 1) (11 - m)
  rw [show m + 1 + (11 - m) = 12 by omega, SM_year] at e1
  have e2 : SM (1970 + n) (m + 1) = SM (1970 + n) m + dim (1970 + n) (m + 1) := rfl
  have e3 := SM_lo (1970 + n) m
  unfold masterdiscref16_Split.f masterdiscref16_utc.f
  rw [rtime_f, rzone_f, ht, hz]
  simp only [Option.bind_some, if_true]
  rw [w64 (x := 60 * z) (by omega) (by omega), w64 (x := t + 60 * z) (by omega) (by omega), tdiv_eq (by omega), w64 (x := (t + 60 * z) / 86400) (by omega) (by omega)]
  rw [hX]
  have a := rsplit_years n (by omega) (SM (1970 + n) m + e) (by omega) (by omega) (t + 60 * z) 1 1 0 0 0 n 0 (k + 399 - n) (by omega) (SY n + (SM (1970 + n) m + e)) 1970 (by simp only [SY]; omega) (by omega)
  rw [show k + 399 - n + n + 1 = k + 400 by omega] at a
  have b := rsplit_months (1970 + n) (by omega) m hm e h0 h1 (t + 60 * z) (by omega) 1 0 0 0 m 0 (k + 398 - n - m) (by omega) (SM (1970 + n) m + e) 1 (by simp only [SM]; omega) (by omega)
  rw [show k + 398 - n - m + m + 1 = k + 399 - n by omega] at b
  rw [a, b]
  rfl
theorem rsplit_out (k : Nat) (t z : Int) (h : timeB t = false ∨ zoneB z = false) : masterdiscref16_Split.f (k + 400) t z = some (0, 0, 0, 0, 0, 0, 2) := by
  unfold masterdiscref16_Split.f
  rw [rtime_f, rzone_f]
  cases ht : timeB t
  · simp
  · cases hz : zoneB z
    · simp
    · simp [ht, hz] at h
theorem rsm_step (k : Nat) (x z y m d h mi s : Int) (hy : 0 ≤ y) (hz : 1 ≤ z) (hz2 : z ≤ 12) (hlt : z < m) (x0 : -2000000 ≤ x) (x1 : x ≤ 2000000) :
    masterdiscref16_seconds.l2 (k + 1) x z y m d h mi s = masterdiscref16_seconds.l2 k (x + dim y z) (z + 1) y m d h mi s := by
  have e3 := dim_lo y z
  have e4 := dim_hi y z
  rw [masterdiscref16_seconds.l2, if_pos hlt, rdays_f hy hz hz2]
  simp only [Option.bind_some]
  rw [w64 (x := x + dim y z) (by omega) (by omega), w64 (x := z + 1) (by omega) (by omega)]
theorem rsec_months (y : Int) (hy : 0 ≤ y) (M : Nat) (hM : M < 12) (b d h mi s : Int) (b0 : -1000000 ≤ b) (b1 : b ≤ 1000000) : ∀ (j i k : Nat), i + j = M → ∀ (x z : Int), x = b + SM y i → z = (i : Int) + 1 →
    masterdiscref16_seconds.l2 (k + j) x z y ((M : Int) + 1) d h mi s = masterdiscref16_seconds.l2 k (b + SM y M) ((M : Int) + 1) y ((M : Int) + 1) d h mi s := by
  intro j
  induction j with
  | zero =>
    intro i k e x z hx hz
    obtain rfl : i = M := by omega
    subst hx hz
    rfl
  | succ j ih =>
    intro i k e x z hx hz
    have e2 := SM_succ y i
    have e5 := SM_hi y i
    have e6 := SM_lo y i
    rw [← hz] at e2
    refine (rsm_step (k + j) x z y ((M : Int) + 1) d h mi s hy ?_ ?_ ?_ ?_ ?_).trans (ih (i + 1) k ?_ (x + dim y z) (z + 1) ?_ ?_)
    · omega
    · omega
    · omega
    · omega
    · omega
    · omega
    · omega
    · omega
theorem rsy_step (k : Nat) (x z y m d h mi s : Int) (hz : 0 ≤ z) (hz2 : z ≤ 5000) (hlt : z < y) (x0 : -2000000 ≤ x) (x1 : x ≤ 2000000) :
    masterdiscref16_seconds.l0 (k + 1) x z y m d h mi s = masterdiscref16_seconds.l0 k (x + yl z) (z + 1) y m d h mi s := by
  have e3 := yl_lo z
  have e4 := yl_hi z
  rw [masterdiscref16_seconds.l0, if_pos hlt, ryear_f hz]
  simp only [Option.bind_some]
  rw [w64 (x := x + yl z) (by omega) (by omega), w64 (x := z + 1) (by omega) (by omega)]
theorem rsec_years (n : Nat) (hn : n ≤ 1000) (b m d h mi s : Int) (b0 : -1000000 ≤ b) (b1 : b ≤ 1000000) : ∀ (j i k : Nat), i + j = n → ∀ (x z : Int), x = b + SY i → z = 1970 + (i : Int) →
    masterdiscref16_seconds.l0 (k + j) x z (1970 + n) m d h mi s = masterdiscref16_seconds.l0 k (b + SY n) (1970 + n) (1970 + n) m d h mi s := by
  intro j
  induction j with
  | zero =>
    intro i k e x z hx hz
    obtain rfl : i = n := by omega
    subst hx hz
    rfl
  | succ j ih =>
    intro i k e x z hx hz
    have e2 := SY_succ i
    have e5 := SY_hi i
    have e6 := SY_lo i
    rw [← hz] at e2
    refine (rsy_step (k + j) x z (1970 + n) m d h mi s ?_ ?_ ?_ ?_ ?_).trans (ih (i + 1) k ?_ (x + yl z) (z + 1) ?_ ?_)
    · omega
    · omega
    · omega
    · omega
    · omega
    · omega
    · omega
    · omega
theorem rsb_step (k : Nat) (x z y m d h mi s : Int) (hz : 0 ≤ z) (hlt : z < 1970) (x0 : -2000000 ≤ x) (x1 : x ≤ 2000000) :
    masterdiscref16_seconds.l1 (k + 1) x z y m d h mi s = masterdiscref16_seconds.l1 k (x - yl z) (z + 1) y m d h mi s := by
  have e3 := yl_lo z
  have e4 := yl_hi z
  rw [masterdiscref16_seconds.l1, if_pos hlt, ryear_f hz]
  simp only [Option.bind_some]
  rw [w64 (x := x - yl z) (by omega) (by omega), w64 (x := z + 1) (by omega) (by omega)]
theorem rsec_back (y m d h mi s : Int) : ∀ (j : Nat) (x z : Int) (k : Nat), j ≤ 100 → -1000000 + 366 * (j : Int) ≤ x → x ≤ 1000000 → z = 1970 - (j : Int) →
    masterdiscref16_seconds.l1 (k + j) x z y m d h mi s = masterdiscref16_seconds.l1 k (x - BY j) 1970 y m d h mi s := by
  intro j
  induction j with
  | zero =>
    intro x z k hj x0 x1 hz
    have e : BY 0 = 0 := by simp only [BY]
    rw [e, Int.sub_zero]
    obtain rfl : z = 1970 := by omega
    rfl
  | succ j ih =>
    intro x z k hj x0 x1 hz
    have e2 := BY_succ j
    rw [← hz] at e2
    have e3 := yl_lo z
    have e4 := yl_hi z
    rw [show x - BY (j + 1) = x - yl z - BY j by omega]
    refine (rsb_step (k + j) x z y m d h mi s ?_ ?_ ?_ ?_).trans (ih (x - yl z) (z + 1) k ?_ ?_ ?_ ?_)
    · omega
    · omega
    · omega
    · omega
    · omega
    · omega
    · omega
    · omega
theorem rsy_done (k : Nat) (x z y m d h mi s : Int) (hz : ¬ z < y) : masterdiscref16_seconds.l0 (k + 1) x z y m d h mi s = masterdiscref16_seconds.l1 k x y y m d h mi s := by
  rw [masterdiscref16_seconds.l0, if_neg hz]
theorem rsb_done (k : Nat) (x z y m d h mi s : Int) (hz : ¬ z < 1970) : masterdiscref16_seconds.l1 (k + 1) x z y m d h mi s = masterdiscref16_seconds.l2 k x 1 y m d h mi s := by
  rw [masterdiscref16_seconds.l1, if_neg hz]
theorem rsm_done (k : Nat) (x z y m d h mi s : Int) (hz : ¬ z < m) (x0 : -2000000 ≤ x) (x1 : x ≤ 2000000) (hd : 0 ≤ d ∧ d ≤ 31) (hh : 0 ≤ h ∧ h ≤ 23) (hi : 0 ≤ mi ∧ mi ≤ 59) (hs : 0 ≤ s ∧ s ≤ 59) : masterdiscref16_seconds.l2 (k + 1) x z y m d h mi s = some ((x + d - 1) * 86400 + h * 3600 + mi * 60 + s) := by
  rw [masterdiscref16_seconds.l2, if_neg hz, w64 (x := x + d) (by omega) (by omega), w64 (x := x + d - 1) (by omega) (by omega), w64 (x := (x + d - 1) * 86400) (by omega) (by omega), w64 (x := h * 3600) (by omega) (by omega), w64 (x := (x + d - 1) * 86400 + h * 3600) (by omega) (by omega), w64 (x := mi * 60) (by omega) (by omega), w64 (x := (x + d - 1) * 86400 + h * 3600 + mi * 60) (by omega) (by omega), w64 (by omega) (by omega)]

theorem rseconds_f (k : Nat) {y m d h mi s : Int} (e : okC y m d h mi s = true) : masterdiscref16_seconds.f (k + 600) y m d h mi s = some (secs y m d h mi s) := by
  obtain ⟨y0, y1, m0, m1, d0, d1, h0, h1, i0, i1, s0, s1⟩ := okC_true e
  have dh := dim_hi y m
  obtain ⟨M, hM⟩ := Int.eq_ofNat_of_zero_le (show 0 ≤ m - 1 by omega)
  obtain rfl : m = (M : Int) + 1 := by omega
  have sl := SM_lo y M
  have sh := SM_hi y M
  have yb := YY_bounds y0 y1
  have main : ∀ q : Nat, masterdiscref16_seconds.l2 (q + 13) (YY y) 1 y ((M : Int) + 1) d h mi s = some ((d - 1 + SM y M + YY y) * 86400 + h * 3600 + mi * 60 + s) := by
    intro q
    have a := rsec_months y (by omega) M (by omega) (YY y) d h mi s (by omega) (by omega) M 0 (q + 12 - M + 1) (by omega) (YY y) 1 (by simp only [SM]; omega) (by omega)
    rw [show q + 12 - M + 1 + M = q + 13 by omega] at a
    refine a.trans ((rsm_done _ _ _ _ _ _ _ _ _ (by omega) (by omega) (by omega) ⟨by omega, by omega⟩ ⟨h0, h1⟩ ⟨i0, i1⟩ ⟨s0, s1⟩).trans ?_)
    rw [show YY y + SM y M + d - 1 = d - 1 + SM y M + YY y by omega]
  unfold masterdiscref16_seconds.f secs days
  rw [show ((M : Int) + 1 - 1).toNat = M by omega]
  by_cases hy : 1970 ≤ y
  · obtain ⟨n, hn⟩ := Int.eq_ofNat_of_zero_le (show 0 ≤ y - 1970 by omega)
    obtain rfl : y = 1970 + (n : Int) := by omega
    have hYY : YY (1970 + (n : Int)) = SY n := by unfold YY; rw [if_pos hy, show (1970 + (n : Int) - 1970).toNat = n by omega]
    rw [hYY] at main ⊢
    have b := rsec_years n (by omega) 0 ((M : Int) + 1) d h mi s (by omega) (by omega) n 0 (k + 585 - n + 13 + 2) (by omega) 0 1970 (by simp only [SY]; omega) (by omega)
    rw [show k + 585 - n + 13 + 2 + n = k + 600 by omega, Int.zero_add] at b
    exact b.trans ((rsy_done _ _ _ _ _ _ _ _ _ (by omega)).trans ((rsb_done _ _ _ _ _ _ _ _ _ (by omega)).trans (main _)))
  · obtain ⟨n, hn⟩ := Int.eq_ofNat_of_zero_le (show 0 ≤ 1970 - y by omega)
    obtain rfl : y = 1970 - (n : Int) := by omega
    have hYY : YY (1970 - (n : Int)) = - BY n := by unfold YY; rw [if_neg hy, show (1970 - (1970 - (n : Int))).toNat = n by omega]
    rw [hYY] at main ⊢
    have c := rsec_back (1970 - (n : Int)) ((M : Int) + 1) d h mi s n 0 (1970 - (n : Int)) (k + 585 - n + 13 + 1) (by omega) (by omega) (by omega) rfl
    rw [show k + 585 - n + 13 + 1 + n = k + 599 by omega, Int.zero_sub] at c
    rw [show k + 600 = (k + 599) + 1 by omega]
    exact (rsy_done _ _ _ _ _ _ _ _ _ (by omega)).trans (c.trans ((rsb_done _ _ _ _ _ _ _ _ _ (by omega)).trans (main _)))

end Go.Proofs.YtnchkpheepbacaaDoor.Pure
