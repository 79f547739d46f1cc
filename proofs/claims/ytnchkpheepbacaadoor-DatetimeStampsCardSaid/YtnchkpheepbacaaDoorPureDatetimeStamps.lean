/- The plain law of DatetimeStamps: Stamp and ReadStamp come to what the definitions say. -/
import Derived.Test.YtnchkpheepbacaaDoorPe
import Derived.Test.YtnchkpheepbacaaDoorSt
import Derived.Test.YtnchkpheepbacaaDoorQ13
import Derived.Test.YtnchkpheepbacaaDoorQs
import Derived.Test.YtnchkpheepbacaaDoorLs
namespace Go.Proofs.YtnchkpheepbacaaDoor.Pure
open Go.RowKit Go.Proofs.YtnchkpheepbacaaDoor.Hand Go.Proofs.YtnchkpheepbacaaDoor.Q Go.Proofs.YtnchkpheepbacaaDoor.Cal Go.Proofs.YtnchkpheepbacaaDoorW.PrintWords

theorem zone_bits : ∀ i : Fin 59, ∀ j : Fin 49, Go.bits .or .i64 4096 (Go.bits .and .i64 ((i.val : Int) * 49 + (j.val : Int) - 1440) 4095) = 4096 + ((i.val : Int) * 49 + (j.val : Int) - 1440 + 4096) % 4096 := by decide +kernel
theorem zone_bits' {z : Int} (h0 : -1440 ≤ z) (h1 : z ≤ 1440) : Go.bits .or .i64 4096 (Go.bits .and .i64 z 4095) = 4096 + (z + 4096) % 4096 := by
  obtain ⟨n, hn⟩ := Int.eq_ofNat_of_zero_le (show 0 ≤ z + 1440 by omega)
  have := zone_bits ⟨n / 49, by omega⟩ ⟨n % 49, by omega⟩
  rw [show (((⟨n / 49, by omega⟩ : Fin 59).val : Nat) : Int) * 49 + (((⟨n % 49, by omega⟩ : Fin 49).val : Nat) : Int) - 1440 = z by simp only; omega] at this
  exact this
theorem year_of_time (t z : Int) (ht : timeB t = true) (hz : zoneB z = true) : ∃ y m d h i s : Int, (∀ k, datetime_Split.f (k + 400) t z = some (y, m, d, h, i, s, 0)) ∧ (∀ k, masterdiscref16_Split.f (k + 400) t z = some (y, m, d, h, i, s, 0)) ∧ 0 ≤ y ∧ y ≤ 3000 := by
  obtain ⟨n, m, e, hn, hm, h0, h1, hX⟩ := has_day t z ht hz
  exact ⟨_, _, _, _, _, _, fun k => split_in k t z ht hz n m e (by omega) hm h0 h1 hX, fun k => rsplit_in k t z ht hz n m e (by omega) hm h0 h1 hX, by omega, by omega⟩
theorem stamp_same (t z : Int) : ∃ r, datetime_Stamp.f 1000 t z = some r ∧ masterdiscref16_Stamp.f 1000 t z = some r := by
  unfold datetime_Stamp.f masterdiscref16_Stamp.f
  by_cases h : timeB t = true ∧ zoneB z = true
  · obtain ⟨y, m, d, hh, i, s, hs, hr, y0, y1⟩ := year_of_time t z h.1 h.2
    have hz := of_decide_eq_true h.2
    have e1 := hs 600
    have e2 := hr 600
    rw [show (600 + 400 : Nat) = 1000 from rfl] at e1 e2
    rw [e1, e2]
    simp only [Option.bind_some]
    rw [if_pos trivial, if_pos trivial]
    refine ⟨_, rfl, ?_⟩
    rw [zone_bits' hz.1 hz.2, w64 (x := z + 4096) (by omega) (by omega), tmod_eq (x := z + 4096) (by omega), w64 (x := 4096 + (z + 4096) % 4096) (by omega) (by omega), tmod_eq (x := 4096 + (z + 4096) % 4096) (by omega), tdiv_eq (x := 4096 + (z + 4096) % 4096) (by omega), w64 (x := (4096 + (z + 4096) % 4096) / 256) (by omega) (by omega), tmod_eq (x := y) y0, tdiv_eq (x := y) y0, w64 (x := y / 256) (by omega) (by omega)]
    rw [show (4096 + (z + 4096) % 4096) % 256 % 256 = (4096 + (z + 4096) % 4096) % 256 by omega, show y % 256 % 256 = y % 256 by omega]
  · have h' : timeB t = false ∨ zoneB z = false := by
      cases a : timeB t
      · exact Or.inl rfl
      · cases b : zoneB z
        · exact Or.inr rfl
        · exact absurd ⟨a, b⟩ h
    have e1 := split_out 600 t z h'
    have e2 := rsplit_out 600 t z h'
    rw [show (600 + 400 : Nat) = 1000 from rfl] at e1 e2
    rw [e1, e2]
    exact ⟨_, rfl, rfl⟩

theorem zone0' : zoneB 0 = true := by decide
theorem ref_j2 (k : Nat) (a : ByteArray) (q z y0 y1 y2 y3 y4 y5 y6 c9 c10 c11 : Int) (h12 : (a.size : Int) = 12) (e2 : bt a 2 = y0) (e3 : bt a 3 = y1) (e4 : bt a 4 = y2) (e5 : bt a 5 = y3) (e6 : bt a 6 = y4) (e7 : bt a 7 = y5) (e8 : bt a 8 = y6) (e9 : bt a 9 = c9) (e10 : bt a 10 = c10) (e11 : bt a 11 = c11) :
    masterdiscref16_ReadStamp.j2 (k + 600 + 1) a q z = some (readR (y0 + 256 * y1) y2 y3 y4 y5 y6 z (decide (q ≤ 1) && zoneB z && decide (c9 ≤ 99) && decide (c10 ≤ 99) && decide (c11 ≤ 99))) := by
  have b2 := bt_range a 2
  have b3 := bt_range a 3
  have b4 := bt_range a 4
  have b5 := bt_range a 5
  have b6 := bt_range a 6
  have b7 := bt_range a 7
  have b8 := bt_range a 8
  rw [e2] at b2
  rw [e3] at b3
  rw [e4] at b4
  rw [e5] at b5
  rw [e6] at b6
  rw [e7] at b7
  rw [e8] at b8
  rw [masterdiscref16_ReadStamp.j2, e2, e3, e4, e5, e6, e7, e8, e9, e10, e11]
  simp only [eq_true (show 2 < (a.size : Int) by omega), eq_true (show 3 < (a.size : Int) by omega), eq_true (show 4 < (a.size : Int) by omega), eq_true (show 5 < (a.size : Int) by omega), eq_true (show 6 < (a.size : Int) by omega), eq_true (show 7 < (a.size : Int) by omega), eq_true (show 8 < (a.size : Int) by omega), eq_true (show 9 < (a.size : Int) by omega), eq_true (show 10 < (a.size : Int) by omega), eq_true (show 11 < (a.size : Int) by omega), if_true]
  rw [w64 (x := y0) (by omega) (by omega), w64 (x := y1) (by omega) (by omega), w64 (x := 256 * y1) (by omega) (by omega), w64 (x := y0 + 256 * y1) (by omega) (by omega), w64 (x := y2) (by omega) (by omega), w64 (x := y3) (by omega) (by omega), w64 (x := y4) (by omega) (by omega), w64 (x := y5) (by omega) (by omega), w64 (x := y6) (by omega) (by omega)]
  rw [rzone_f]
  unfold masterdiscref16_Valid.f
  simp only [Option.bind_some]
  have bad : ∀ ok : Bool, (ok = false ∨ okC (y0 + 256 * y1) y2 y3 y4 y5 y6 = false) → readR (y0 + 256 * y1) y2 y3 y4 y5 y6 z ok = (0, 0, 10) := by
    intro ok h
    unfold readR
    rw [if_neg]
    rintro ⟨p, q⟩
    rw [p, q] at h
    simp at h
  by_cases hq : q > 1
  · rw [if_pos hq, bad _ (Or.inl (by rw [decide_eq_false (by omega)]; simp))]
  · rw [if_neg hq, decide_eq_true (show q ≤ 1 by omega)]
    cases hz : zoneB z
    · rw [if_neg (by decide), bad _ (Or.inl (by simp))]
    · rw [if_pos rfl]
      cases hc : okC (y0 + 256 * y1) y2 y3 y4 y5 y6
      · rw [if_neg (by decide), bad _ (Or.inr hc)]
      · rw [if_pos rfl]
        by_cases h9 : c9 > 99
        · rw [if_pos h9, bad _ (Or.inl (by rw [decide_eq_false (show ¬ c9 ≤ 99 by omega)]; simp))]
        · rw [if_neg h9, decide_eq_true (show c9 ≤ 99 by omega)]
          by_cases h10 : c10 > 99
          · rw [if_pos h10, bad _ (Or.inl (by rw [decide_eq_false (show ¬ c10 ≤ 99 by omega)]; simp))]
          · rw [if_neg h10, decide_eq_true (show c10 ≤ 99 by omega)]
            by_cases h11 : c11 > 99
            · rw [if_pos h11, bad _ (Or.inl (by rw [decide_eq_false (show ¬ c11 ≤ 99 by omega)]; simp))]
            · rw [if_neg h11, decide_eq_true (show c11 ≤ 99 by omega), finish_f k _ _ _ _ _ _ _ hc hz]
              rfl
theorem ref_j0 (k : Nat) (a : ByteArray) (q z : Int) : masterdiscref16_ReadStamp.j0 (k + 3) a q z = masterdiscref16_ReadStamp.j2 (k + 1) a q (if q = 0 ∨ z = -2047 then 0 else z) := by
  rw [show k + 3 = (k + 2) + 1 by omega, masterdiscref16_ReadStamp.j0]
  by_cases h : q = 0
  · rw [if_pos h, show k + 2 = (k + 1) + 1 by omega, masterdiscref16_ReadStamp.j1, if_pos rfl, if_pos (Or.inl h)]
  · rw [if_neg h, show k + 2 = (k + 1) + 1 by omega, masterdiscref16_ReadStamp.j1]
    by_cases h2 : z = -2047
    · rw [if_pos (beq_iff_eq.mpr h2), if_pos (Or.inr h2)]
    · rw [if_neg (by rw [beq_iff_eq]; exact h2), if_neg (by omega)]
theorem readR_zone (y m d h i s q q' : Int) (ok ok' : Bool) (e : ok = ok') (e' : ok = true → q = q') : readR y m d h i s q ok = readR y m d h i s q' ok' := by
  subst e
  cases ok
  · unfold readR
    rw [if_neg (by simp), if_neg (by simp)]
  · rw [e' rfl]
theorem readStamp_same (a : ByteArray) : ∃ r, datetime_ReadStamp.f 1000 a = some r ∧ masterdiscref16_ReadStamp.f 1000 a = some r := by
  unfold datetime_ReadStamp.f masterdiscref16_ReadStamp.f
  by_cases h12 : (a.size : Int) = 12
  · rw [if_pos h12, if_pos h12, if_pos (show 0 < (a.size : Int) by omega), if_pos (show 1 < (a.size : Int) by omega)]
    have b0 := bt_range a 0
    have b1 := bt_range a 1
    have okz : ∀ K : Int, (stZone K).2 = true → zoneB (stZone K).1 = true := by
      intro K
      unfold stZone
      split
      · intro _
        exact decide_eq_true (by omega)
      · split
        · intro h; cases h
        · intro _
          exact decide_eq_true (by omega)
    have r := read_f 399 (bt a 2 + 256 * bt a 3) (bt a 4) (bt a 5) (bt a 6) (bt a 7) (bt a 8) (stZone (stKind a)).1 ((stZone (stKind a)).2 && decide (bt a 9 ≤ 99) && decide (bt a 10 ≤ 99) && decide (bt a 11 ≤ 99)) (fun h => okz _ (by simp at h; exact h.1.1.1))
    rw [show (399 + 600 + 1 : Nat) = 1000 from rfl] at r
    rw [r]
    refine ⟨_, rfl, ?_⟩
    rw [w64 (x := bt a 0) (by omega) (by omega), w64 (x := bt a 1) (by omega) (by omega), w64 (x := 256 * bt a 1) (by omega) (by omega), w64 (x := bt a 0 + 256 * bt a 1) (by omega) (by omega), tmod_eq (x := bt a 0 + 256 * bt a 1) (by omega), tdiv_eq (x := bt a 0 + 256 * bt a 1) (by omega), w64 (x := (bt a 0 + 256 * bt a 1) / 4096) (by omega) (by omega), w64 (x := (bt a 0 + 256 * bt a 1) % 4096 - 4096) (by omega) (by omega)]
    have j : ∀ z : Int, z = stZ (bt a 0 + 256 * bt a 1) → masterdiscref16_ReadStamp.j0 1000 a ((bt a 0 + 256 * bt a 1) / 4096) z = some (readR (bt a 2 + 256 * bt a 3) (bt a 4) (bt a 5) (bt a 6) (bt a 7) (bt a 8) (stZone (stKind a)).1 ((stZone (stKind a)).2 && decide (bt a 9 ≤ 99) && decide (bt a 10 ≤ 99) && decide (bt a 11 ≤ 99))) := by
      intro z hz
      have e0 := ref_j0 997 a ((bt a 0 + 256 * bt a 1) / 4096) z
      have e1 := ref_j2 397 a ((bt a 0 + 256 * bt a 1) / 4096) (if (bt a 0 + 256 * bt a 1) / 4096 = 0 ∨ z = -2047 then 0 else z) _ _ _ _ _ _ _ _ _ _ h12 rfl rfl rfl rfl rfl rfl rfl rfl rfl rfl
      rw [show (997 + 3 : Nat) = 1000 from rfl] at e0
      rw [show (397 + 600 + 1 : Nat) = 997 + 1 from rfl] at e1
      rw [e0, e1]
      congr 1
      refine readR_zone _ _ _ _ _ _ _ _ _ _ ?_ ?_
      · unfold stZone stKind
        rw [← hz]
        have hq0 : 0 ≤ (bt a 0 + 256 * bt a 1) / 4096 := by omega
        generalize (bt a 0 + 256 * bt a 1) / 4096 = q at *
        by_cases c1 : q = 0 ∨ z = -2047
        · rw [if_pos c1]
          by_cases c2 : q ≤ 1
          · rw [if_pos (by omega), decide_eq_true c2, zone0']
            rfl
          · rw [if_neg (by omega), if_pos (by omega), decide_eq_false c2]
            rfl
        · rw [if_neg c1, if_neg (by omega)]
          by_cases c2 : q ≤ 1
          · rw [decide_eq_true c2]
            by_cases c3 : -1440 ≤ z ∧ z ≤ 1440
            · rw [if_neg (by omega), show zoneB z = true from decide_eq_true c3]
              rfl
            · rw [if_pos (by omega), show zoneB z = false from decide_eq_false c3]
              rfl
          · rw [if_pos (by omega), decide_eq_false c2]
            rfl
      · intro ok
        have c2 : (bt a 0 + 256 * bt a 1) / 4096 ≤ 1 := by
          by_cases c2 : (bt a 0 + 256 * bt a 1) / 4096 ≤ 1
          · exact c2
          · rw [decide_eq_false c2] at ok
            simp at ok
        unfold stZone stKind
        rw [← hz]
        have hq0 : 0 ≤ (bt a 0 + 256 * bt a 1) / 4096 := by omega
        generalize (bt a 0 + 256 * bt a 1) / 4096 = q at *
        by_cases c1 : q = 0 ∨ z = -2047
        · rw [if_pos c1, if_pos (by omega)]
        · rw [if_neg c1, if_neg (by omega)]
          split <;> rfl
    by_cases hK : (bt a 0 + 256 * bt a 1) % 4096 ≥ 2048
    · rw [if_pos hK]
      exact j _ (by unfold stZ; rw [if_pos hK])
    · rw [if_neg hK]
      exact j _ (by unfold stZ; rw [if_neg hK])
  · rw [if_neg h12, if_neg h12]
    exact ⟨_, rfl, rfl⟩
theorem awake_s : masterdisclaw16_awake.f 1000 = some true := by decide +kernel
theorem DatetimeStamps (t z : Int) (a : ByteArray) (_ : (Lit.int .i64 t).wf = true) (_ : (Lit.int .i64 z).wf = true) (_ : a.size ≤ 140737488351232) : ∃ k, masterdisclaw16_DatetimeStamps.f k t z a = some true := by
  refine ⟨1000, ?_⟩
  unfold masterdisclaw16_DatetimeStamps.f
  obtain ⟨r, h1, h2⟩ := stamp_same t z
  obtain ⟨q, h3, h4⟩ := readStamp_same a
  rw [awake_s, h1, h2, h3, h4]
  simp only [Option.bind_some, if_true]
  split
  · rfl
  · simp
end Go.Proofs.YtnchkpheepbacaaDoor.Pure
