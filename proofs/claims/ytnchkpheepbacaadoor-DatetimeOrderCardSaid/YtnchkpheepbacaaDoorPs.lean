/- A clock that Split gives: valid, its seconds are the time's, and clocks compare as their seconds do. -/
import Derived.Test.YtnchkpheepbacaaDoorPj
namespace Go.Proofs.YtnchkpheepbacaaDoor.Pure
open Go.RowKit Go.Proofs.YtnchkpheepbacaaDoor.Hand Go.Proofs.YtnchkpheepbacaaDoor.Q Go.Proofs.YtnchkpheepbacaaDoor.Cal Go.Proofs.YtnchkpheepbacaaDoorW.PrintWords

theorem YY_n (n : Nat) : YY (1970 + (n : Int)) = SY n := by
  unfold YY
  rw [if_pos (by omega), show (1970 + (n : Int) - 1970).toNat = n by omega]
theorem secs_of (u : Int) (n m : Nat) (e : Int) (h : u / 86400 = SY n + (SM (1970 + n) m + e)) :
    secs (1970 + n) ((m : Int) + 1) (e + 1) (u % 86400 / 3600) (u % 86400 / 60 % 60) (u % 60) = u := by
  unfold secs days
  rw [YY_n, show ((m : Int) + 1 - 1).toNat = m by omega]
  generalize SY n = A at *
  generalize SM (1970 + n) m = B at *
  omega
theorem okC_of (u : Int) (n m : Nat) (e : Int) (hn : n ≤ 180) (hm : m < 12) (h0 : 0 ≤ e) (h1 : e < dim (1970 + n) (m + 1)) :
    okC (1970 + n) ((m : Int) + 1) (e + 1) (u % 86400 / 3600) (u % 86400 / 60 % 60) (u % 60) = true := by
  unfold okC
  generalize dim (1970 + n) (m + 1) = D at *
  refine decide_eq_true ?_
  omega
/-- What Split comes to, told by the clock's own properties. -/
theorem split_facts (t z : Int) (ht : timeB t = true) (hz : zoneB z = true) : ∃ y m d h i s : Int, (∀ k, datetime_Split.f (k + 400) t z = some (y, m, d, h, i, s, 0)) ∧ 1970 ≤ y ∧ okC y m d h i s = true ∧ secs y m d h i s = t + 60 * z := by
  obtain ⟨n, m, e, hn, hm, h0, h1, hX⟩ := has_day t z ht hz
  exact ⟨_, _, _, _, _, _, fun k => split_in k t z ht hz n m e (by omega) hm h0 h1 hX, by omega, okC_of _ n m e (by omega) hm h0 h1, secs_of _ n m e hX⟩
theorem joinR_back {t z y m d h i s : Int} (ht : timeB t = true) (hz : zoneB z = true) (hc : okC y m d h i s = true) (hs : secs y m d h i s = t + 60 * z) : joinR y m d h i s z = (t, 0) := by
  unfold joinR
  rw [if_pos hc, hs, show t + 60 * z - 60 * z = t by omega, if_pos ⟨hz, ht⟩]

theorem YY_mono {y1 y2 : Int} (h0 : 1970 ≤ y1) (h : y1 < y2) : YY y1 + yl y1 ≤ YY y2 := by
  obtain ⟨n, hn⟩ := Int.eq_ofNat_of_zero_le (show 0 ≤ y1 - 1970 by omega)
  obtain rfl : y1 = 1970 + (n : Int) := by omega
  obtain ⟨k, hk⟩ := Int.eq_ofNat_of_zero_le (show 0 ≤ y2 - (1970 + n) - 1 by omega)
  obtain rfl : y2 = 1970 + ((n + 1 + k : Nat) : Int) := by omega
  rw [YY_n, YY_n]
  have := SY_step (n + 1) k
  have := SY_succ n
  omega
theorem SM_lt {y m1 m2 d : Int} (h1 : 1 ≤ m1) (h : m1 < m2) (hd : d ≤ dim y m1) : d - 1 + SM y (m1 - 1).toNat < SM y (m2 - 1).toNat := by
  obtain ⟨n, hn⟩ := Int.eq_ofNat_of_zero_le (show 0 ≤ m1 - 1 by omega)
  obtain rfl : m1 = (n : Int) + 1 := by omega
  obtain ⟨k, hk⟩ := Int.eq_ofNat_of_zero_le (show 0 ≤ m2 - (n + 1) - 1 by omega)
  obtain rfl : m2 = ((n + 1 + k : Nat) : Int) + 1 := by omega
  rw [show ((n : Int) + 1 - 1).toNat = n by omega, show (((n + 1 + k : Nat) : Int) + 1 - 1).toNat = n + 1 + k by omega]
  have := SM_step y (n + 1) k
  have := SM_succ y n
  omega
theorem md_lt {y m d : Int} (h1 : 1 ≤ m) (h2 : m ≤ 12) (hd : d ≤ dim y m) : d - 1 + SM y (m - 1).toNat < yl y := by
  have := SM_lt (y := y) (m1 := m) (m2 := 13) h1 (by omega) hd
  rw [show ((13 : Int) - 1).toNat = 12 from rfl, SM_year] at this
  exact this
/-- Clock before clock. -/
def Lex (y m d h i s y' m' d' h' i' s' : Int) : Prop := y < y' ∨ (y = y' ∧ (m < m' ∨ (m = m' ∧ (d < d' ∨ (d = d' ∧ (h < h' ∨ (h = h' ∧ (i < i' ∨ (i = i' ∧ s < s')))))))))
theorem days_lt {y m d y' m' d' : Int} (hy : 1970 ≤ y) (m1 : 1 ≤ m) (m2 : m ≤ 12) (hd : d ≤ dim y m) (m1' : 1 ≤ m') (d1' : 1 ≤ d') (h : y < y' ∨ (y = y' ∧ (m < m' ∨ (m = m' ∧ d < d')))) : days y m d < days y' m' d' := by
  unfold days
  rcases h with h | ⟨rfl, h | ⟨rfl, h⟩⟩
  · have := YY_mono hy h
    have := md_lt m1 m2 hd
    have := SM_lo y' (m' - 1).toNat
    omega
  · have := SM_lt (y := y) m1 h hd
    omega
  · omega
theorem secs_lt {y m d h i s y' m' d' h' i' s' : Int} (hy : 1970 ≤ y) (hc : okC y m d h i s = true) (hc' : okC y' m' d' h' i' s' = true) (l : Lex y m d h i s y' m' d' h' i' s') : secs y m d h i s < secs y' m' d' h' i' s' := by
  obtain ⟨y0, y1, m0, m1, d0, d1, h0, h1, i0, i1, s0, s1⟩ := okC_true hc
  obtain ⟨y0', y1', m0', m1', d0', d1', h0', h1', i0', i1', s0', s1'⟩ := okC_true hc'
  unfold secs
  by_cases e : y = y' ∧ m = m' ∧ d = d'
  · obtain ⟨rfl, rfl, rfl⟩ := e
    generalize days y m d = D
    unfold Lex at l
    omega
  · have := days_lt (y := y) (m := m) (d := d) (y' := y') (m' := m') (d' := d') hy m0 m1 d1 m0' d0' (by unfold Lex at l; omega)
    omega

/-- The first that is not zero. -/
def first : List Int → Int
  | [] => 0
  | x :: xs => if x = 0 then first xs else x
theorem clocks_l0 (suf : List Int) : ∀ (pre : List Int) (k : Nat), (pre ++ suf).length ≤ 1000 → masterdisclaw16_clocks.l0 (k + suf.length + 1) (pre ++ suf) ((pre ++ suf).length : Int) (pre.length : Int) = some (first suf) := by
  induction suf with
  | nil =>
    intro pre k hl
    rw [masterdisclaw16_clocks.l0, List.append_nil, if_neg (by omega)]
    rfl
  | cons x xs ih =>
    intro pre k hl
    have hl' := hl
    rw [List.length_append, List.length_cons] at hl'
    have hlt : (pre.length : Int) < ((pre ++ x :: xs).length : Int) := by rw [List.length_append, List.length_cons]; omega
    have hr : rd (pre ++ x :: xs) (pre.length : Int) = x := by
      unfold rd
      rw [Int.toNat_natCast, List.getD_eq_getElem?_getD, List.getElem?_append_right (Nat.le_refl _)]
      simp
    rw [show k + (x :: xs).length + 1 = (k + xs.length + 1) + 1 by rw [List.length_cons]; omega, masterdisclaw16_clocks.l0, if_pos hlt, if_pos (by omega), if_pos hlt, hr]
    unfold first
    by_cases hx : x = 0
    · rw [if_pos hx, if_pos hx, w64 (by omega) (by omega)]
      have := ih (pre ++ [x]) k (by rw [List.append_assoc]; exact hl)
      rw [List.append_assoc] at this
      rw [show (pre.length : Int) + 1 = ((pre ++ [x]).length : Int) by rw [List.length_append]; simp]
      exact this
    · rw [if_neg hx, if_neg hx]
theorem clocks_f (k : Nat) {y m d h i s y' m' d' h' i' s' : Int} (hc : okC y m d h i s = true) (hc' : okC y' m' d' h' i' s' = true) :
    masterdisclaw16_clocks.f (k + 7) y m d h i s y' m' d' h' i' s' = some (first [y - y', m - m', d - d', h - h', i - i', s - s']) := by
  obtain ⟨y0, y1, m0, m1, d0, d1, h0, h1, i0, i1, s0, s1⟩ := okC_true hc
  obtain ⟨y0', y1', m0', m1', d0', d1', h0', h1', i0', i1', s0', s1'⟩ := okC_true hc'
  have a := dim_hi y m
  have b := dim_hi y' m'
  unfold masterdisclaw16_clocks.f
  rw [w64 (x := y - y') (by omega) (by omega), w64 (x := m - m') (by omega) (by omega), w64 (x := d - d') (by omega) (by omega), w64 (x := h - h') (by omega) (by omega), w64 (x := i - i') (by omega) (by omega), w64 (x := s - s') (by omega) (by omega), Option.bind_some]
  exact clocks_l0 [y - y', m - m', d - d', h - h', i - i', s - s'] [] k (by simp)
theorem first_lt (y m d h i s y' m' d' h' i' s' : Int) : first [y - y', m - m', d - d', h - h', i - i', s - s'] < 0 → Lex y m d h i s y' m' d' h' i' s' := by
  simp only [first, Lex]
  intro l
  omega
theorem first_gt (y m d h i s y' m' d' h' i' s' : Int) : first [y - y', m - m', d - d', h - h', i - i', s - s'] > 0 → Lex y' m' d' h' i' s' y m d h i s := by
  simp only [first, Lex]
  intro l
  omega
theorem first_eq (y m d h i s y' m' d' h' i' s' : Int) : first [y - y', m - m', d - d', h - h', i - i', s - s'] = 0 → y = y' ∧ m = m' ∧ d = d' ∧ h = h' ∧ i = i' ∧ s = s' := by
  simp only [first]
  intro l
  omega

end Go.Proofs.YtnchkpheepbacaaDoor.Pure
