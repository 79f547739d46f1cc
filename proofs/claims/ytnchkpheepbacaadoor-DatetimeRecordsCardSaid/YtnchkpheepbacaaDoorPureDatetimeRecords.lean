/- The plain law of DatetimeRecords: Record and ReadRecord come to what the definitions say. -/
import Derived.Test.YtnchkpheepbacaaDoorPr
import Derived.Test.YtnchkpheepbacaaDoorQ12
namespace Go.Proofs.YtnchkpheepbacaaDoor.Pure
open Go.RowKit Go.Proofs.YtnchkpheepbacaaDoor.Hand Go.Proofs.YtnchkpheepbacaaDoor.Q Go.Proofs.YtnchkpheepbacaaDoor.Cal Go.Proofs.YtnchkpheepbacaaDoorW.PrintWords

theorem awake_r : masterdisclaw16_awake.f 1000 = some true := by decide +kernel
theorem split_both (t z : Int) (ht : timeB t = true) (hz : zoneB z = true) : ∃ y m d h i s : Int, (∀ k, datetime_Split.f (k + 400) t z = some (y, m, d, h, i, s, 0)) ∧ (∀ k, masterdiscref16_Split.f (k + 400) t z = some (y, m, d, h, i, s, 0)) := by
  obtain ⟨n, m, e, hn, hm, h0, h1, hX⟩ := has_day t z ht hz
  exact ⟨_, _, _, _, _, _, fun k => split_in k t z ht hz n m e (by omega) hm h0 h1 hX, fun k => rsplit_in k t z ht hz n m e (by omega) hm h0 h1 hX⟩
def qB (z : Int) : Bool := decide (Int.tmod z 15 = 0 ∧ -720 ≤ z ∧ z ≤ 780)
theorem quarter_zone {z : Int} (h : qB z = true) : zoneB z = true := by
  have := of_decide_eq_true h
  exact decide_eq_true (by omega)
theorem isQuarter_f (z : Int) : datetime_isQuarter.f z = some (qB z) := by
  unfold datetime_isQuarter.f qB
  generalize Int.tmod z 15 = q
  split
  · split
    · congr 1; rw [Bool.eq_iff_iff, decide_eq_true_eq, decide_eq_true_eq]; omega
    · rw [decide_eq_false (by omega)]
  · rw [decide_eq_false (by omega)]
theorem rQuarter_f (z : Int) : masterdiscref16_Quarter.f z = some (qB z) := by
  unfold masterdiscref16_Quarter.f qB
  generalize Int.tmod z 15 = q
  split
  · split
    · congr 1; rw [Bool.eq_iff_iff, beq_iff_eq, decide_eq_true_eq]; omega
    · rw [decide_eq_false (by omega)]
  · rw [decide_eq_false (by omega)]
theorem quarter_div {z : Int} (h : qB z = true) : -48 ≤ Int.tdiv z 15 ∧ Int.tdiv z 15 ≤ 52 := by
  have h' := (of_decide_eq_true h).2
  by_cases hz : 0 ≤ z
  · rw [tdiv_eq hz]
    omega
  · obtain ⟨p, hp⟩ : ∃ p, z = -p := ⟨-z, by omega⟩
    subst hp
    rw [Int.neg_tdiv, tdiv_eq (by omega)]
    omega
theorem i8_small {x : Int} (h0 : -128 ≤ x) (h1 : x ≤ 127) : IntKind.i8.wrap x = x := by
  simp [IntKind.wrap, IntKind.bits, IntKind.signed]
  omega
theorem qbyte {q : Int} (h0 : -48 ≤ q) (h1 : q ≤ 52) : (IntKind.i8.wrap (wrap64 q)) % 256 = (Int.tmod (wrap64 (wrap64 q + 256)) 256) % 256 := by
  rw [w64 (x := q) (by omega) (by omega), w64 (x := q + 256) (by omega) (by omega), tmod_eq (by omega), i8_small (by omega) (by omega)]
  omega
theorem record_same (t z : Int) : ∃ r, datetime_Record.f 1000 t z = some r ∧ masterdiscref16_Record.f 1000 t z = some r := by
  unfold datetime_Record.f masterdiscref16_Record.f
  rw [rtime_f, rQuarter_f]
  simp only [Option.bind_some]
  by_cases h : timeB t = true ∧ qB z = true
  · obtain ⟨ht, hq⟩ := h
    obtain ⟨y, m, d, hh, i, s, hs, hr⟩ := split_both t z ht (quarter_zone hq)
    have e1 := hs 600
    have e2 := hr 599
    obtain ⟨b0, b1⟩ := quarter_div hq
    rw [show (600 + 400 : Nat) = 1000 from rfl] at e1
    rw [show (599 + 400 : Nat) = 999 from rfl] at e2
    refine ⟨(strOfNums [(wrap64 (y - 1900)) % 256, m % 256, d % 256, hh % 256, i % 256, s % 256, (IntKind.i8.wrap (wrap64 (Int.tdiv z 15))) % 256], 0), ?_, ?_⟩
    · rw [e1, Option.bind_some, if_pos rfl, isQuarter_f, hq]
      rfl
    · rw [ht, hq, if_pos rfl, show (1000 : Nat) = 999 + 1 from rfl, masterdiscref16_Record.j0, if_neg (by decide), e2, Option.bind_some]
      unfold masterdiscref16_signed.f
      rw [Option.bind_some, ← qbyte b0 b1]
  · refine ⟨(⟨#[]⟩, 2), ?_, ?_⟩
    · by_cases h2 : timeB t = true ∧ zoneB z = true
      · obtain ⟨y, m, d, hh, i, s, hs, hr⟩ := split_both t z h2.1 h2.2
        have e1 := hs 600
        rw [show (600 + 400 : Nat) = 1000 from rfl] at e1
        have hq : qB z = false := by
          cases c : qB z
          · rfl
          · exact absurd ⟨h2.1, c⟩ h
        rw [e1, Option.bind_some, if_pos rfl, isQuarter_f, hq]
        rfl
      · have h' : timeB t = false ∨ zoneB z = false := by
          cases a : timeB t
          · exact Or.inl rfl
          · cases b : zoneB z
            · exact Or.inr rfl
            · exact absurd ⟨a, b⟩ h2
        have e1 := split_out 600 t z h'
        rw [show (600 + 400 : Nat) = 1000 from rfl] at e1
        rw [e1]
        rfl
    · have j : masterdiscref16_Record.j0 (999 + 1) t z true = some (⟨#[]⟩, 2) := by rw [masterdiscref16_Record.j0, if_pos rfl]
      rw [show (999 + 1 : Nat) = 1000 from rfl] at j
      cases ht : timeB t
      · exact j
      · rw [if_pos rfl]
        cases hq : qB z
        · exact j
        · exact absurd ⟨ht, hq⟩ h

/-! Reading -/
def sb (b : Int) : Int := if b ≥ 128 then b - 256 else b
def okQ (b : Int) : Bool := decide (-48 ≤ sb b ∧ sb b ≤ 52)
theorem quarter_f {b : Int} (h0 : 0 ≤ b) (h1 : b ≤ 255) : datetime_quarter.f b = some (15 * sb b, okQ b) := by
  have w : IntKind.i8.wrap b = sb b := by
    unfold sb
    split
    · simp [IntKind.wrap, IntKind.bits, IntKind.signed]
      omega
    · exact i8_small (by omega) (by omega)
  have l : -128 ≤ sb b ∧ sb b ≤ 127 := by unfold sb; split <;> omega
  unfold datetime_quarter.f okQ
  rw [w, w64 (x := sb b) (by omega) (by omega), w64 (x := 15 * sb b) (by omega) (by omega)]
  split
  · congr 2; rw [Bool.eq_iff_iff, decide_eq_true_eq, decide_eq_true_eq]; omega
  · rw [decide_eq_false (by omega)]
theorem rzone_b {b : Int} (h0 : 0 ≤ b) (h1 : b ≤ 255) : masterdiscref16_zone.f b = some (15 * sb b, okQ b) := by
  unfold masterdiscref16_zone.f okQ sb
  rw [w64 (x := b) (by omega) (by omega)]
  by_cases h : b ≥ 128
  · rw [if_pos h, if_pos h, w64 (x := b - 256) (by omega) (by omega), w64 (x := 15 * (b - 256)) (by omega) (by omega)]
    split
    · congr 2; rw [Bool.eq_iff_iff, decide_eq_true_eq, decide_eq_true_eq]; omega
    · rw [decide_eq_false (by omega)]
  · rw [if_neg h, if_neg h, w64 (x := 15 * b) (by omega) (by omega)]
    split
    · congr 2; rw [Bool.eq_iff_iff, decide_eq_true_eq, decide_eq_true_eq]; omega
    · rw [decide_eq_false (by omega)]
/-- What reading comes to, of a clock, a zone and whether they may be. -/
def readR (y m d h i s q : Int) (ok : Bool) : Int × Int × Int :=
  if ok = true ∧ okC y m d h i s = true then (if timeB (secs y m d h i s - 60 * q) = true then (secs y m d h i s - 60 * q, q, 0) else (0, 0, 2)) else (0, 0, 10)
theorem read_f (k : Nat) (y m d h i s q : Int) (ok : Bool) (hq : ok = true → zoneB q = true) : datetime_read.f (k + 600 + 1) y m d h i s q ok = some (readR y m d h i s q ok) := by
  have jt : datetime_read.j0 (k + 600 + 1) q true y m d h i s = some (0, 0, 10) := by rw [datetime_read.j0, if_pos rfl]
  unfold datetime_read.f datetime_valid.f readR
  rw [Option.bind_some]
  cases ok
  · rw [if_neg (by decide), if_neg (by simp)]
    exact jt
  · rw [if_pos rfl]
    cases hc : okC y m d h i s
    · rw [if_neg (by simp)]
      exact jt
    · rw [if_pos ⟨rfl, rfl⟩]
      show datetime_read.j0 (k + 600 + 1) q false y m d h i s = _
      rw [datetime_read.j0, if_neg (by decide), join_f k, Option.bind_some]
      unfold joinR
      rw [if_pos hc]
      cases hT : timeB (secs y m d h i s - 60 * q)
      · rw [if_neg (show ¬ (zoneB q = true ∧ (false : Bool) = true) by simp)]
        rfl
      · rw [if_pos (show zoneB q = true ∧ (true : Bool) = true from ⟨hq rfl, rfl⟩)]
        rfl
theorem finish_f (k : Nat) (y m d h i s q : Int) (hc : okC y m d h i s = true) (hq : zoneB q = true) : masterdiscref16_finish.f (k + 600) y m d h i s q = some (readR y m d h i s q true) := by
  have hq' := of_decide_eq_true hq
  have b := secs_bounds hc
  unfold masterdiscref16_finish.f readR
  rw [rseconds_f k hc, Option.bind_some, w64 (x := 60 * q) (by omega) (by omega), w64 (x := secs y m d h i s - 60 * q) (by omega) (by omega), rtime_f, Option.bind_some, if_pos (show (true : Bool) = true ∧ okC y m d h i s = true from ⟨rfl, hc⟩)]
  cases timeB (secs y m d h i s - 60 * q) <;> rfl
theorem okQ_zone {b : Int} (h : okQ b = true) : zoneB (15 * sb b) = true := by
  have := of_decide_eq_true h
  exact decide_eq_true (by omega)
theorem readRecord_same (a : ByteArray) : ∃ r, datetime_ReadRecord.f 1000 a = some r ∧ masterdiscref16_ReadRecord.f 1000 a = some r := by
  unfold datetime_ReadRecord.f masterdiscref16_ReadRecord.f
  by_cases h7 : (a.size : Int) = 7
  · obtain ⟨p0, q0⟩ := bt_range a 0
    obtain ⟨p6, q6⟩ := bt_range a 6
    generalize bt a 0 = b0 at *
    generalize bt a 6 = b6 at *
    rw [w64 (x := b0) (by omega) (by omega), w64 (x := 1900 + b0) (by omega) (by omega)]
    have b1 := bt_range a 1
    have b2 := bt_range a 2
    have b3 := bt_range a 3
    have b4 := bt_range a 4
    have b5 := bt_range a 5
    rw [w64 (x := bt a 1) (by omega) (by omega), w64 (x := bt a 2) (by omega) (by omega), w64 (x := bt a 3) (by omega) (by omega), w64 (x := bt a 4) (by omega) (by omega), w64 (x := bt a 5) (by omega) (by omega)]
    generalize bt a 1 = y1, bt a 2 = y2, bt a 3 = y3, bt a 4 = y4, bt a 5 = y5
    rw [if_pos h7, if_pos h7, quarter_f p6 q6, rzone_b p6 q6]
    simp only [eq_true (show 0 < (a.size : Int) by omega), eq_true (show 1 < (a.size : Int) by omega), eq_true (show 2 < (a.size : Int) by omega), eq_true (show 3 < (a.size : Int) by omega), eq_true (show 4 < (a.size : Int) by omega), eq_true (show 5 < (a.size : Int) by omega), eq_true (show 6 < (a.size : Int) by omega), if_true]
    simp only [Option.bind_some]
    have r := read_f 399 (1900 + b0) y1 y2 y3 y4 y5 (15 * sb b6) (okQ b6) okQ_zone
    rw [show (399 + 600 + 1 : Nat) = 1000 from rfl] at r
    rw [r]
    refine ⟨_, rfl, ?_⟩
    unfold masterdiscref16_Valid.f
    rw [Option.bind_some]
    cases hc : okC (1900 + b0) y1 y2 y3 y4 y5
    · unfold readR
      rw [hc, if_neg (by decide), if_neg (by simp)]
    · rw [if_pos rfl]
      cases hq : okQ b6
      · unfold readR
        rw [if_neg (by decide), if_neg (by simp)]
      · have f := finish_f 400 (1900 + b0) y1 y2 y3 y4 y5 (15 * sb b6) hc (okQ_zone hq)
        rw [show (400 + 600 : Nat) = 1000 from rfl] at f
        rw [if_pos rfl, f, Option.bind_some]
  · rw [if_neg h7, if_neg h7]
    exact ⟨_, rfl, rfl⟩
theorem DatetimeRecords (t z : Int) (a : ByteArray) (_ : (Lit.int .i64 t).wf = true) (_ : (Lit.int .i64 z).wf = true) (_ : a.size ≤ 140737488351232) : ∃ k, masterdisclaw16_DatetimeRecords.f k t z a = some true := by
  refine ⟨1000, ?_⟩
  unfold masterdisclaw16_DatetimeRecords.f
  obtain ⟨r, h1, h2⟩ := record_same t z
  obtain ⟨q, h3, h4⟩ := readRecord_same a
  rw [awake_r, h1, h2, h3, h4]
  simp only [Option.bind_some, if_true]
  split
  · rfl
  · simp
end Go.Proofs.YtnchkpheepbacaaDoor.Pure
