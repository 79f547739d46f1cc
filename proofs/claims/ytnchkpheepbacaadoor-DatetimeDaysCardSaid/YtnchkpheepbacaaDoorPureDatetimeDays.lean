/- The plain law of DatetimeDays: a year's days join, the next day follows, and no day lies outside the month. -/
import Derived.Test.YtnchkpheepbacaaDoorPj
import Derived.Test.YtnchkpheepbacaaDoorE2
namespace Go.Proofs.YtnchkpheepbacaaDoor.Pure
open Go.RowKit Go.Proofs.YtnchkpheepbacaaDoor.Hand Go.Proofs.YtnchkpheepbacaaDoor.Q Go.Proofs.YtnchkpheepbacaaDoor.Cal Go.Proofs.YtnchkpheepbacaaDoorW.PrintWords

theorem awake_d : Z.masterdisclaw16_awake.f = some true := rfl
theorem SY129 : SY 129 = 47117 := by decide +kernel
theorem zone0 : zoneB 0 = true := by decide
/-- Split at the first second of a day. -/
theorem split_at (X : Int) (n m : Nat) (e : Int) (hn : n ≤ 200) (hm : m < 12) (h0 : 0 ≤ e) (h1 : e < dim (1970 + n) (m + 1)) (hX : X = SY n + (SM (1970 + n) m + e)) (h2 : 3652 ≤ X) (h3 : X ≤ 47481) :
    Z.datetime_Split.f (X * 86400) 0 = some (1970 + (n : Int), (m : Int) + 1, e + 1, 0, 0, 0, 0) := by
  have a := split_in 600 (X * 86400) 0 (decide_eq_true (by omega)) zone0 n m e hn hm h0 h1 (by rw [← hX]; omega)
  rw [show (X * 86400 + 60 * 0) % 86400 = 0 by omega, show (X * 86400 + 60 * 0) % 60 = 0 by omega] at a
  exact a
theorem leap4 {y : Int} (h0 : 1980 ≤ y) (h1 : y ≤ 2098) : leapB y = decide (y % 4 = 0) := by
  unfold leapB
  rw [Bool.eq_iff_iff, decide_eq_true_eq, decide_eq_true_eq]
  omega
theorem j4_good (k : Nat) (n m : Nat) (d : Int) (hn : 10 ≤ n) (hn' : n ≤ 128) (hm : m < 12) (h0 : 1 ≤ d) (h1 : d ≤ dim (1970 + n) ((m : Int) + 1)) :
    E.masterdisclaw16_DatetimeDays.j4 (k + 400 + 1) (1970 + n) ((m : Int) + 1) d (days (1970 + n) ((m : Int) + 1) d * 86400) 0 (dim (1970 + n) ((m : Int) + 1)) false = some true := by
  have sl := SM_lo (1970 + n) m
  have sh := SM_step (1970 + n) (m + 1) (11 - m)
  rw [show m + 1 + (11 - m) = 12 by omega, SM_year] at sh
  have ss := SM_succ (1970 + n) m
  have yb := SY_step 10 (n - 10)
  rw [show 10 + (n - 10) = n by omega, SY10] at yb
  have yt := SY_step (n + 1) (128 - n)
  rw [show n + 1 + (128 - n) = 129 by omega, SY129] at yt
  have ys := SY_succ n
  have dh := dim_hi (1970 + n) ((m : Int) + 1)
  have hD : days (1970 + n) ((m : Int) + 1) d = d - 1 + SM (1970 + n) m + SY n := by
    unfold days
    rw [YY_n, show ((m : Int) + 1 - 1).toNat = m by omega]
  rw [hD, E.masterdisclaw16_DatetimeDays.j4, if_neg (by decide), if_pos rfl]
  rw [w64 (x := (d - 1 + SM (1970 + n) m + SY n) * 86400 + 86400) (by omega) (by omega), show (d - 1 + SM (1970 + n) m + SY n) * 86400 + 86400 = (d + SM (1970 + n) m + SY n) * 86400 by omega]
  rw [w64 (x := (m : Int) + 1 + 1) (by omega) (by omega), w64 (x := d + 1) (by omega) (by omega), w64 (x := 1970 + (n : Int) + 1) (by omega) (by omega)]
  by_cases hl : d = dim (1970 + n) ((m : Int) + 1)
  · by_cases h12 : m = 11
    · subst h12
      have s := split_at (d + SM (1970 + n) 11 + SY n) (n + 1) 0 0 (by omega) (by omega) (by omega) (by have := dim_lo (1970 + (n + 1 : Nat)) ((0 : Nat) + 1); omega) (by
        have e1 := SM_year (1970 + n)
        have e2 := SM_succ (1970 + n) 11
        simp only [SM] at e1 e2 ⊢
        omega) (by omega) (by omega)
      rw [s, Option.bind_some, if_pos hl, if_pos rfl, if_pos rfl]
      congr 1
      simp
      omega
    · have s := split_at (d + SM (1970 + n) m + SY n) n (m + 1) 0 (by omega) (by omega) (by omega) (by have := dim_lo (1970 + n) ((m + 1 : Nat) + 1); omega) (by omega) (by omega) (by omega)
      rw [s, Option.bind_some, if_pos hl, if_neg (by omega), if_pos rfl]
      simp
  · have s := split_at (d + SM (1970 + n) m + SY n) n m d (by omega) (by omega) (by omega) (by omega) (by omega) (by omega) (by omega)
    rw [s, Option.bind_some, if_neg hl, if_neg (by omega), if_pos rfl]
    simp
theorem j4_bad (k : Nat) (y m d L : Int) : E.masterdisclaw16_DatetimeDays.j4 (k + 1) y m d 0 1 L false = some true := by
  rw [E.masterdisclaw16_DatetimeDays.j4, if_neg (by decide), if_neg (by decide), if_pos rfl]
  rfl
theorem j3_good (k : Nat) (n m : Nat) (d : Int) (hn : 10 ≤ n) (hn' : n ≤ 128) (hm : m < 12) (h0 : 1 ≤ d) (h1 : d ≤ dim (1970 + n) ((m : Int) + 1)) :
    E.masterdisclaw16_DatetimeDays.j3 (k + 402) (1970 + n) ((m : Int) + 1) d (days (1970 + n) ((m : Int) + 1) d * 86400) 0 (dim (1970 + n) ((m : Int) + 1)) = some true := by
  rw [show k + 402 = (k + 400 + 1) + 1 by omega, E.masterdisclaw16_DatetimeDays.j3, if_pos (by omega), decide_eq_true h1]
  exact j4_good k n m d hn hn' hm h0 h1
theorem j3_bad (k : Nat) (y m d L : Int) (h : ¬ (1 ≤ d ∧ d ≤ L)) : E.masterdisclaw16_DatetimeDays.j3 (k + 402) y m d 0 1 L = some true := by
  rw [show k + 402 = (k + 400 + 1) + 1 by omega, E.masterdisclaw16_DatetimeDays.j3]
  by_cases h1 : d ≥ 1
  · rw [if_pos h1, decide_eq_false (by omega)]
    exact j4_bad _ y m d L
  · rw [if_neg h1]
    exact j4_bad _ y m d L
theorem j0_j1 (k : Nat) (y m d t e : Int) (h : joinR y m d 0 0 0 0 = (t, e)) : E.masterdisclaw16_DatetimeDays.j0 (k + 600 + 1) y m d false = E.masterdisclaw16_DatetimeDays.j1 (k + 600) y m d t e 0 m (decide (m = 4 ∨ m = 6 ∨ m = 9 ∨ m = 11)) := by
  have J : Z.datetime_Join.f y m d 0 0 0 0 = some (joinR y m d 0 0 0 0) := join_f 400 y m d 0 0 0 0
  rw [E.masterdisclaw16_DatetimeDays.j0, if_neg (by decide), J, h, Option.bind_some]
  by_cases h4 : m = 4
  · rw [if_pos h4, beq_iff_eq.mpr h4, decide_eq_true (by omega)]
  · rw [if_neg h4]
    by_cases h6 : m = 6
    · rw [if_pos h6, beq_iff_eq.mpr h6, decide_eq_true (by omega)]
    · rw [if_neg h6]
      by_cases h9 : m = 9
      · rw [if_pos h9, beq_iff_eq.mpr h9, decide_eq_true (by omega)]
      · rw [if_neg h9]
        by_cases h11 : m = 11
        · rw [beq_iff_eq.mpr h11, decide_eq_true (by omega)]
        · rw [beq_eq_false_iff_ne.mpr h11, decide_eq_false (by omega)]
theorem j1_j2 (k : Nat) (y m d t e l : Int) : E.masterdisclaw16_DatetimeDays.j1 (k + 1) y m d t e l m false = E.masterdisclaw16_DatetimeDays.j2 k y m d t e l m (decide (m = 1 ∨ m = 3 ∨ m = 5 ∨ m = 7 ∨ m = 8 ∨ m = 10 ∨ m = 12)) := by
  rw [E.masterdisclaw16_DatetimeDays.j1, if_neg (by decide)]
  by_cases h1 : m = 1
  · rw [if_pos h1, beq_iff_eq.mpr h1, decide_eq_true (by omega)]
  rw [if_neg h1]
  by_cases h3 : m = 3
  · rw [if_pos h3, beq_iff_eq.mpr h3, decide_eq_true (by omega)]
  rw [if_neg h3]
  by_cases h5 : m = 5
  · rw [if_pos h5, beq_iff_eq.mpr h5, decide_eq_true (by omega)]
  rw [if_neg h5]
  by_cases h7 : m = 7
  · rw [if_pos h7, beq_iff_eq.mpr h7, decide_eq_true (by omega)]
  rw [if_neg h7]
  by_cases h8 : m = 8
  · rw [if_pos h8, beq_iff_eq.mpr h8, decide_eq_true (by omega)]
  rw [if_neg h8]
  by_cases h10 : m = 10
  · rw [if_pos h10, beq_iff_eq.mpr h10, decide_eq_true (by omega)]
  rw [if_neg h10]
  by_cases h12 : m = 12
  · rw [beq_iff_eq.mpr h12, decide_eq_true (by omega)]
  · rw [beq_eq_false_iff_ne.mpr h12, decide_eq_false (by omega)]
theorem j0_all (k : Nat) (y m d t e : Int) (hy : 1980 ≤ y) (hy' : y ≤ 2098) (h : joinR y m d 0 0 0 0 = (t, e)) (P : ∀ k, E.masterdisclaw16_DatetimeDays.j3 (k + 402) y m d t e (if 1 ≤ m ∧ m ≤ 12 then dim y m else 0) = some true) :
    E.masterdisclaw16_DatetimeDays.j0 (k + 600 + 1) y m d false = some true := by
  rw [j0_j1 k y m d t e h]
  by_cases h30 : m = 4 ∨ m = 6 ∨ m = 9 ∨ m = 11
  · have p := P (k + 197)
    rw [if_pos (by omega), show dim y m = 30 by unfold dim; rw [if_neg (by omega), if_pos (by omega)]] at p
    rw [decide_eq_true h30, show k + 600 = (k + 197 + 402) + 1 by omega, E.masterdisclaw16_DatetimeDays.j1, if_pos rfl]
    exact p
  · rw [decide_eq_false h30, show k + 600 = (k + 599) + 1 by omega, j1_j2]
    have p := P (k + 196)
    rw [show k + 599 = (k + 196 + 402) + 1 by omega, E.masterdisclaw16_DatetimeDays.j2]
    by_cases h31 : m = 1 ∨ m = 3 ∨ m = 5 ∨ m = 7 ∨ m = 8 ∨ m = 10 ∨ m = 12
    · rw [decide_eq_true h31, if_pos rfl]
      rw [if_pos (by omega), show dim y m = 31 by unfold dim; rw [if_neg (by omega), if_neg (by omega)]] at p
      exact p
    · rw [decide_eq_false h31, if_neg (by decide)]
      by_cases h2 : m = 2
      · rw [if_pos (by omega)] at p
        rw [if_pos h2, tmod_eq (by omega)]
        have l := leap4 hy hy'
        by_cases h4 : y % 4 = 0
        · rw [decide_eq_true h4] at l
          rw [show dim y m = 29 by unfold dim; rw [if_pos h2, if_pos l]] at p
          rw [if_pos h4]
          exact p
        · rw [decide_eq_false h4] at l
          rw [show dim y m = 28 by unfold dim; rw [if_pos h2, if_neg (by rw [l]; decide)]] at p
          rw [if_neg h4]
          exact p
      · rw [if_neg (by omega)] at p
        rw [if_neg h2]
        exact p
theorem join_good (n m : Nat) (d : Int) (hn : 10 ≤ n) (hn' : n ≤ 128) (hm : m < 12) (h0 : 1 ≤ d) (h1 : d ≤ dim (1970 + n) ((m : Int) + 1)) : joinR (1970 + n) ((m : Int) + 1) d 0 0 0 0 = (days (1970 + n) ((m : Int) + 1) d * 86400, 0) := by
  have sl := SM_lo (1970 + n) m
  have sh := SM_step (1970 + n) (m + 1) (11 - m)
  rw [show m + 1 + (11 - m) = 12 by omega, SM_year] at sh
  have ss := SM_succ (1970 + n) m
  have yb := SY_step 10 (n - 10)
  rw [show 10 + (n - 10) = n by omega, SY10] at yb
  have yt := SY_step (n + 1) (128 - n)
  rw [show n + 1 + (128 - n) = 129 by omega, SY129] at yt
  have ys := SY_succ n
  have hD : days (1970 + n) ((m : Int) + 1) d = d - 1 + SM (1970 + n) m + SY n := by
    unfold days
    rw [YY_n, show ((m : Int) + 1 - 1).toNat = m by omega]
  have hS : secs (1970 + n) ((m : Int) + 1) d 0 0 0 = (d - 1 + SM (1970 + n) m + SY n) * 86400 := by
    unfold secs
    rw [hD]
    omega
  have ok : okC (1970 + n) ((m : Int) + 1) d 0 0 0 = true := decide_eq_true (by omega)
  have tm : timeB ((d - 1 + SM (1970 + n) m + SY n) * 86400) = true := decide_eq_true (by omega)
  unfold joinR
  rw [if_pos ok, hS, hD, show (d - 1 + SM (1970 + n) m + SY n) * 86400 - 60 * 0 = (d - 1 + SM (1970 + n) m + SY n) * 86400 by omega, if_pos ⟨zone0, tm⟩]
theorem join_bad (y m d : Int) (h : ¬ (1 ≤ m ∧ m ≤ 12 ∧ 1 ≤ d ∧ d ≤ dim y m)) : joinR y m d 0 0 0 0 = (0, 1) := by
  unfold joinR
  rw [if_neg]
  intro e
  obtain ⟨y0, y1, m0, m1, d0, d1, _⟩ := okC_true e
  exact h ⟨m0, m1, d0, d1⟩
theorem days_j0 (k : Nat) (y m d : Int) (hy : 1980 ≤ y) (hy' : y ≤ 2098) : E.masterdisclaw16_DatetimeDays.j0 (k + 600 + 1) y m d false = some true := by
  by_cases h : 1 ≤ m ∧ m ≤ 12 ∧ 1 ≤ d ∧ d ≤ dim y m
  · obtain ⟨m0, m1, d0, d1⟩ := h
    obtain ⟨n, hn⟩ := Int.eq_ofNat_of_zero_le (show 0 ≤ y - 1970 by omega)
    obtain rfl : y = 1970 + (n : Int) := by omega
    obtain ⟨M, hM⟩ := Int.eq_ofNat_of_zero_le (show 0 ≤ m - 1 by omega)
    obtain rfl : m = (M : Int) + 1 := by omega
    refine j0_all k _ _ _ _ _ hy hy' (join_good n M d (by omega) (by omega) (by omega) d0 d1) (fun k => ?_)
    rw [if_pos ⟨m0, m1⟩]
    exact j3_good k n M d (by omega) (by omega) (by omega) d0 d1
  · refine j0_all k y m d 0 1 hy hy' (join_bad y m d h) (fun k => j3_bad k y m d _ ?_)
    split
    · omega
    · omega
theorem DatetimeDays (y m d : Int) (_ : (Lit.int .i64 y).wf = true) (_ : (Lit.int .i64 m).wf = true) (_ : (Lit.int .i64 d).wf = true) : ∃ k, E.masterdisclaw16_DatetimeDays.f k y m d = some true := by
  refine ⟨1000, ?_⟩
  have t : E.masterdisclaw16_DatetimeDays.j0 (399 + 600 + 1) y m d true = some true := by rw [E.masterdisclaw16_DatetimeDays.j0, if_pos rfl]
  have n := days_j0 399 y m d
  rw [show (399 + 600 + 1 : Nat) = 1000 from rfl] at t n
  unfold E.masterdisclaw16_DatetimeDays.f
  rw [awake_d, Option.bind_some, if_pos rfl]
  by_cases h : y < 1980
  · rw [if_pos h]
    exact t
  · rw [if_neg h]
    by_cases h' : y > 2098
    · rw [decide_eq_true h']
      exact t
    · rw [decide_eq_false h']
      exact n (by omega) (by omega)
end Go.Proofs.YtnchkpheepbacaaDoor.Pure
