/- The plain law of DatetimeDescriptors: Descriptor and ReadDescriptor come to what the definitions say. -/
import Derived.Test.YtnchkpheepbacaaDoorPr
import Derived.Test.YtnchkpheepbacaaDoorPy
import Derived.Test.YtnchkpheepbacaaDoorT2
namespace Go.Proofs.YtnchkpheepbacaaDoor.Pure
open Go.RowKit Go.Proofs.YtnchkpheepbacaaDoor.Hand Go.Proofs.YtnchkpheepbacaaDoor.Q Go.Proofs.YtnchkpheepbacaaDoor.Cal Go.Proofs.YtnchkpheepbacaaDoorW.PrintWords
set_option linter.unusedVariables false
set_option linter.unusedSimpArgs false

theorem split_both (t z : Int) (ht : timeB t = true) (hz : zoneB z = true) : ∃ y m d h i s : Int, (∀ k, datetime_Split.f (k + 400) t z = some (y, m, d, h, i, s, 0)) ∧ (∀ k, masterdiscref16_Split.f (k + 400) t z = some (y, m, d, h, i, s, 0)) := by
  obtain ⟨n, m, e, hn, hm, h0, h1, hX⟩ := has_day t z ht hz
  exact ⟨_, _, _, _, _, _, fun k => split_in k t z ht hz n m e (by omega) hm h0 h1 hX, fun k => rsplit_in k t z ht hz n m e (by omega) hm h0 h1 hX⟩
theorem rQuarter_f (z : Int) : masterdiscref16_Quarter.f z = some (qB z) := by
  unfold masterdiscref16_Quarter.f qB
  generalize Int.tmod z 15 = q
  split
  · split
    · congr 1; rw [Bool.eq_iff_iff, beq_iff_eq, decide_eq_true_eq]; omega
    · rw [decide_eq_false (by omega)]
  · rw [decide_eq_false (by omega)]
theorem qbyte {q : Int} (h0 : -48 ≤ q) (h1 : q ≤ 52) : (IntKind.i8.wrap (wrap64 q)) % 256 = (Int.tmod (wrap64 (wrap64 q + 256)) 256) % 256 := by
  rw [w64 (x := q) (by omega) (by omega), w64 (x := q + 256) (by omega) (by omega), tmod_eq (by omega), i8_small (by omega) (by omega)]
  omega
theorem rzone_b {b : Int} (h0 : 0 ≤ b) (h1 : b ≤ 255) : masterdiscref16_zone.f b = some (15 * sb b, okQ b) := by
  unfold masterdiscref16_zone.f okQ sb
  rw [w64 (x := b) (by omega) (by omega)]
  by_cases h : b ≥ 128
  · rw [if_pos h, if_pos h, w64 (x := b - 256) (by omega) (by omega), w64 (x := 15 * (b - 256)) (by omega) (by omega)]
    split
    · congr 2; rw [Bool.eq_iff_iff, decide_eq_true_eq, decide_eq_true_eq]; omega
    · rw [decide_eq_false (by omega)]
  · rw [if_neg h, if_neg h, w64 (x := 15 * b) (by omega) (by omega)]
    split
    · congr 2; rw [Bool.eq_iff_iff, decide_eq_true_eq, decide_eq_true_eq]; omega
    · rw [decide_eq_false (by omega)]
theorem finish_f (k : Nat) (y m d h i s q : Int) (hc : okC y m d h i s = true) (hq : zoneB q = true) : masterdiscref16_finish.f (k + 600) y m d h i s q = some (readR y m d h i s q true) := by
  have hq' := of_decide_eq_true hq
  have b := secs_bounds hc
  unfold masterdiscref16_finish.f readR
  rw [rseconds_f k hc, Option.bind_some, w64 (x := 60 * q) (by omega) (by omega), w64 (x := secs y m d h i s - 60 * q) (by omega) (by omega), rtime_f, Option.bind_some, if_pos (show (true : Bool) = true ∧ okC y m d h i s = true from ⟨rfl, hc⟩)]
  cases timeB (secs y m d h i s - 60 * q) <;> rfl
theorem rd_step (k : Nat) (x w : Int) (A : List Int) (j : Int) (hj : j < w) (hw : 0 ≤ j) (hw' : w ≤ 10) (x0 : 0 ≤ x) (x1 : x ≤ 9999) (hA : A.length ≤ 100) :
    T.masterdiscref16_digits.l0 (k + 1) x w (strOfNums A) j = T.masterdiscref16_digits.l0 k (x / 10) w (strOfNums ((48 + x % 10) :: A)) (j + 1) := by
  rw [T.masterdiscref16_digits.l0, if_pos hj, Option.bind_some, if_pos (by rw [nums_size, nums_size]; simp; omega), nums_cat, tmod_eq x0, tdiv_eq x0, w64 (x := 48 + x % 10) (by omega) (by omega), w64 (x := x / 10) (by omega) (by omega), w64 (x := j + 1) (by omega) (by omega), show (48 + x % 10) % 256 = 48 + x % 10 by omega]
  rfl
theorem rd_done (k : Nat) (x w : Int) (s : ByteArray) : T.masterdiscref16_digits.l0 (k + 1) x w s w = some s := by
  rw [T.masterdiscref16_digits.l0, if_neg (by omega)]
theorem rdig2 (k : Nat) (x : Int) (x0 : 0 ≤ x) (x1 : x < 100) : T.masterdiscref16_digits.f (k + 3) x 2 = some (strOfNums [48 + x / 10, 48 + x % 10]) := by
  unfold T.masterdiscref16_digits.f
  refine (rd_step (k + 2) x 2 [] 0 (by decide) (by decide) (by decide) x0 (by omega) (by simp)).trans ?_
  refine (rd_step (k + 1) (x / 10) 2 _ 1 (by decide) (by decide) (by decide) (by omega) (by omega) (by simp)).trans ?_
  refine (rd_done k _ 2 _).trans ?_
  rw [show x / 10 % 10 = x / 10 by omega]
theorem rdig4 (k : Nat) (x : Int) (x0 : 0 ≤ x) (x1 : x < 10000) : T.masterdiscref16_digits.f (k + 5) x 4 = some (strOfNums [48 + x / 1000, 48 + x / 100 % 10, 48 + x / 10 % 10, 48 + x % 10]) := by
  unfold T.masterdiscref16_digits.f
  refine (rd_step (k + 4) x 4 [] 0 (by decide) (by decide) (by decide) x0 (by omega) (by simp)).trans ?_
  refine (rd_step (k + 3) (x / 10) 4 _ 1 (by decide) (by decide) (by decide) (by omega) (by omega) (by simp)).trans ?_
  refine (rd_step (k + 2) (x / 10 / 10) 4 _ 2 (by decide) (by decide) (by decide) (by omega) (by omega) (by simp)).trans ?_
  refine (rd_step (k + 1) (x / 10 / 10 / 10) 4 _ 3 (by decide) (by decide) (by decide) (by omega) (by omega) (by simp)).trans ?_
  refine (rd_done k _ 4 _).trans ?_
  rw [show x / 10 / 10 / 10 % 10 = x / 1000 by omega, show x / 10 / 10 % 10 = x / 100 % 10 by omega]
theorem descriptor_same (t z : Int) : ∃ r, Y.datetime_Descriptor.f t z = some r ∧ T.masterdiscref16_Descriptor.f 1000 t z = some r := by
  unfold T.masterdiscref16_Descriptor.f
  have yt : Y.masterdiscref16_Time.f t = some (timeB t) := rtime_f t
  have yq : Y.masterdiscref16_Quarter.f z = some (qB z) := rQuarter_f z
  rw [yt, yq]
  simp only [Option.bind_some]
  by_cases h : timeB t = true ∧ qB z = true
  · obtain ⟨ht, hq⟩ := h
    obtain ⟨n, m', e', hn, hm', h0', h1', hX⟩ := has_day t z ht (quarter_zone hq)
    have hr := rsplit_in 600 t z ht (quarter_zone hq) n m' e' (by omega) hm' h0' h1' hX
    have hs := split_in 600 t z ht (quarter_zone hq) n m' e' (by omega) hm' h0' h1' hX
    obtain ⟨y, m, d, hh, i, s, hD, hs', hy, hc, hS⟩ := descriptor_in t z ht hq
    have hs2 := hs' 600
    rw [hs] at hs2
    rw [Option.some.inj hs2] at hr
    clear hs hs2 hX
    obtain ⟨y0, y1, m0, m1, d0, d1, a0, a1, i0, i1, s0, s1⟩ := okC_true hc
    have dh := dim_hi y m
    obtain ⟨b0, b1⟩ := quarter_div hq
    have hr' : Y.masterdiscref16_Split.f t z = some (y, m, d, hh, i, s, 0) := hr
    refine ⟨_, hD, ?_⟩
    rw [ht, hq, if_pos rfl, show (1000 : Nat) = 999 + 1 from rfl, T.masterdiscref16_Descriptor.j0, if_neg (by decide), hr', Option.bind_some]
    simp only
    rw [show (999 : Nat) = 994 + 5 from rfl, rdig4 994 y (by omega) (by omega), Option.bind_some, show (994 + 5 : Nat) = 996 + 3 from rfl, rdig2 996 m (by omega) (by omega), Option.bind_some, if_pos (by rw [nums_size, nums_size]; simp)]
    rw [rdig2 996 d (by omega) (by omega), Option.bind_some, nums_cat, if_pos (by rw [nums_size, nums_size]; simp)]
    rw [rdig2 996 hh (by omega) (by omega), Option.bind_some, nums_cat, if_pos (by rw [nums_size, nums_size]; simp)]
    rw [rdig2 996 i (by omega) (by omega), Option.bind_some, nums_cat, if_pos (by rw [nums_size, nums_size]; simp)]
    rw [rdig2 996 s (by omega) (by omega), Option.bind_some, nums_cat, if_pos (by rw [nums_size, nums_size]; simp), nums_cat, if_pos (by rw [nums_size]; simp)]
    rw [show (⟨#[48, 48]⟩ : ByteArray) = strOfNums [48, 48] by decide +kernel, nums_cat]
    have sg : Y.masterdiscref16_signed.f (wrap64 (Int.tdiv z 15)) = some (IntKind.i8.wrap (wrap64 (Int.tdiv z 15)) % 256) := by
      rw [qbyte b0 b1]
      rfl
    rw [sg, Option.bind_some, Option.bind_some, nums_cat, if_pos (by rw [nums_size, nums_size]; simp)]
    rfl
  · refine ⟨(⟨#[]⟩, 2), ?_, ?_⟩
    · show datetime_Descriptor.f 1000 t z = _
      unfold datetime_Descriptor.f
      have j : ∀ a b c d e f : Int, datetime_Descriptor.j0 1000 z true a b c d e f = some (⟨#[]⟩, 2) := by
        intro a b c d e f
        rw [show (1000 : Nat) = 999 + 1 from rfl, datetime_Descriptor.j0, if_pos rfl]
      by_cases h2 : timeB t = true ∧ zoneB z = true
      · obtain ⟨y, m, d, hh, i, s, hs, hr⟩ := split_both t z h2.1 h2.2
        have e1 := hs 600
        rw [show (600 + 400 : Nat) = 1000 from rfl] at e1
        have hq : qB z = false := by
          cases c : qB z
          · rfl
          · exact absurd ⟨h2.1, c⟩ h
        rw [e1, Option.bind_some, if_pos rfl, isQuarter_f, hq, Option.bind_some]
        exact j y m d hh i s
      · have h' : timeB t = false ∨ zoneB z = false := by
          cases a : timeB t
          · exact Or.inl rfl
          · cases b : zoneB z
            · exact Or.inr rfl
            · exact absurd ⟨a, b⟩ h2
        have e1 := split_out 600 t z h'
        rw [show (600 + 400 : Nat) = 1000 from rfl] at e1
        rw [e1, Option.bind_some, if_neg (by decide)]
        exact j 0 0 0 0 0 0
    · have j : T.masterdiscref16_Descriptor.j0 (999 + 1) t z true = some (⟨#[]⟩, 2) := by rw [T.masterdiscref16_Descriptor.j0, if_pos rfl]
      rw [show (999 + 1 : Nat) = 1000 from rfl] at j
      cases ht : timeB t
      · exact j
      · rw [if_pos rfl]
        cases hq : qB z
        · exact j
        · exact absurd ⟨ht, hq⟩ h

/-! Reading -/
theorem bt_extract (a : ByteArray) (p q j : Nat) (hq : q ≤ a.size) (hj : p + j < q) : bt (a.extract p q) (j : Int) = bt a ((p + j : Nat) : Int) := by
  unfold bt
  have h1 : (a.extract p q).size = q - p := by rw [ByteArray.size_extract]; omega
  rw [dif_pos (by rw [h1]; simp; omega), dif_pos (by simp; omega)]
  have e : ((p + j : Nat) : Int).toNat = p + j := by omega
  simp only [ByteArray.getElem_extract, Int.toNat_natCast]
theorem num_step (k : Nat) (s : ByteArray) (x : Int) (j : Nat) (hj : j < s.size) (hs : s.size ≤ 10) (x0 : 0 ≤ x) (x1 : x ≤ 999) (h0 : 48 ≤ bt s j) (h1 : bt s j ≤ 57) :
    T.masterdiscref16_number.l0 (k + 1) s x (j : Int) = T.masterdiscref16_number.l0 k s (x * 10 + (bt s j - 48)) ((j + 1 : Nat) : Int) := by
  rw [T.masterdiscref16_number.l0, if_pos (by omega), if_pos (by omega), w64 (x := x * 10) (by omega) (by omega), show (bt s j - 48) % 256 = bt s j - 48 by omega, w64 (by omega) (by omega), w64 (by omega) (by omega)]
  rfl
theorem num_done (k : Nat) (s : ByteArray) (x : Int) (j : Nat) (hj : j = s.size) : T.masterdiscref16_number.l0 (k + 1) s x (j : Int) = some x := by
  rw [T.masterdiscref16_number.l0, if_neg (by omega)]
theorem num2 (k : Nat) (a : ByteArray) (p : Nat) (hs : p + 2 ≤ a.size) (h0 : 48 ≤ bt a p ∧ bt a p ≤ 57) (h1 : 48 ≤ bt a (p + 1 : Nat) ∧ bt a (p + 1 : Nat) ≤ 57) :
    T.masterdiscref16_number.f (k + 3) (a.extract p (p + 2)) = some (rd2 a p) := by
  have z : (a.extract p (p + 2)).size = 2 := by rw [ByteArray.size_extract]; omega
  have e0 := bt_extract a p (p + 2) 0 hs (by omega)
  have e1 := bt_extract a p (p + 2) 1 hs (by omega)
  rw [show ((p + 0 : Nat) : Int) = (p : Int) from rfl] at e0
  unfold T.masterdiscref16_number.f
  refine (num_step (k + 2) _ 0 0 (by omega) (by omega) (by omega) (by omega) (by rw [e0]; exact h0.1) (by rw [e0]; exact h0.2)).trans ?_
  refine (num_step (k + 1) _ _ 1 (by omega) (by omega) (by rw [e0]; omega) (by rw [e0]; omega) (by rw [e1]; exact h1.1) (by rw [e1]; exact h1.2)).trans ?_
  refine (num_done k _ _ 2 z.symm).trans ?_
  rw [e0, e1]
  unfold rd2
  rw [show (p : Int) + 1 = ((p + 1 : Nat) : Int) by omega]
  congr 1
  omega
theorem num4 (k : Nat) (a : ByteArray) (hs : 4 ≤ a.size) (h0 : 48 ≤ bt a (0 : Nat) ∧ bt a (0 : Nat) ≤ 57) (h1 : 48 ≤ bt a (1 : Nat) ∧ bt a (1 : Nat) ≤ 57) (h2 : 48 ≤ bt a (2 : Nat) ∧ bt a (2 : Nat) ≤ 57) (h3 : 48 ≤ bt a (3 : Nat) ∧ bt a (3 : Nat) ≤ 57) :
    T.masterdiscref16_number.f (k + 5) (a.extract 0 4) = some (rd4 a) := by
  have z : (a.extract 0 4).size = 4 := by rw [ByteArray.size_extract]; omega
  have e0 := bt_extract a 0 4 0 hs (by omega)
  have e1 := bt_extract a 0 4 1 hs (by omega)
  have e2 := bt_extract a 0 4 2 hs (by omega)
  have e3 := bt_extract a 0 4 3 hs (by omega)
  rw [Nat.zero_add] at e0 e1 e2 e3
  unfold T.masterdiscref16_number.f
  refine (num_step (k + 4) _ 0 0 (by omega) (by omega) (by omega) (by omega) (by rw [e0]; exact h0.1) (by rw [e0]; exact h0.2)).trans ?_
  refine (num_step (k + 3) _ _ 1 (by omega) (by omega) (by rw [e0]; omega) (by rw [e0]; omega) (by rw [e1]; exact h1.1) (by rw [e1]; exact h1.2)).trans ?_
  refine (num_step (k + 2) _ _ 2 (by omega) (by omega) (by rw [e0, e1]; omega) (by rw [e0, e1]; omega) (by rw [e2]; exact h2.1) (by rw [e2]; exact h2.2)).trans ?_
  refine (num_step (k + 1) _ _ 3 (by omega) (by omega) (by rw [e0, e1, e2]; omega) (by rw [e0, e1, e2]; omega) (by rw [e3]; exact h3.1) (by rw [e3]; exact h3.2)).trans ?_
  refine (num_done k _ _ 4 z.symm).trans ?_
  rw [e0, e1, e2, e3]
  unfold rd4
  simp only [Int.ofNat_zero, Int.cast_ofNat_Int, Int.natCast_zero]
  congr 1
  omega
theorem rl_loop (a : ByteArray) (hs : a.size = 17) (r : Option (Int × Int × Int)) (k : Nat) (h : digF a 16 = true → T.masterdiscref16_ReadDescriptor.l0 (k + 1) a 16 = r) : ∀ n : Nat, n ≤ 16 → (digF a n = true → digF a 16 = true) → T.masterdiscref16_ReadDescriptor.l0 (k + 1 + n) a (16 - (n : Int)) = if digF a n = true then r else some (0, 0, 10)
  | 0, _, hd => by
    rw [if_pos (show digF a 0 = true from rfl)]
    exact h (hd rfl)
  | n + 1, hn, hd => by
    rw [show k + 1 + (n + 1) = (k + 1 + n) + 1 by omega, T.masterdiscref16_ReadDescriptor.l0, if_pos (by omega), if_pos (by omega), if_pos (by omega)]
    rw [show (16 : Int) - ((n + 1 : Nat) : Int) = 15 - (n : Int) by omega]
    have f : digF a (n + 1) = (decide (48 ≤ bt a (15 - (n : Int))) && (decide (bt a (15 - (n : Int)) ≤ 57) && digF a n)) := rfl
    by_cases h0 : bt a (15 - (n : Int)) < 48
    · rw [if_pos h0, f, decide_eq_false (by omega)]
      rfl
    · rw [if_neg h0, decide_eq_true (by omega)] at *
      by_cases h1 : bt a (15 - (n : Int)) > 57
      · rw [if_pos h1, f, decide_eq_false (by omega)]
        simp
      · rw [decide_eq_true (show bt a (15 - (n : Int)) ≤ 57 by omega), Bool.true_and, Bool.true_and] at f
        rw [if_neg h1, f, w64 (by omega) (by omega), show (15 : Int) - (n : Int) + 1 = 16 - (n : Int) by omega]
        exact rl_loop a hs r k h n (by omega) (by rw [← f]; exact hd)
theorem readDescriptor_same (a : ByteArray) : ∃ r, Y.datetime_ReadDescriptor.f a = some r ∧ T.masterdiscref16_ReadDescriptor.f 1000 a = some r := by
  show ∃ r, datetime_ReadDescriptor.f 1000 a = some r ∧ _
  unfold datetime_ReadDescriptor.f T.masterdiscref16_ReadDescriptor.f
  by_cases h17 : (a.size : Int) = 17
  · rw [if_pos h17, if_pos h17]
    unfold T.masterdiscref16_Unspecified.f
    rw [Option.bind_some]
    by_cases hn : a = noDate
    · rw [if_pos hn, hn]
      exact ⟨_, rfl, if_pos rfl⟩
    · have hn' : ¬ a.toList = (⟨#[48, 48, 48, 48, 48, 48, 48, 48, 48, 48, 48, 48, 48, 48, 48, 48, 0]⟩ : ByteArray).toList := by
        intro e
        apply hn
        rw [Lib.toList_data, Lib.toList_data] at e
        apply ByteArray.ext
        apply Array.toList_inj.1
        exact e
      rw [if_neg hn, if_neg hn']
      obtain ⟨c0, c1⟩ := bt_range a 16
      have hs : a.size = 17 := by omega
      have fin : digF a 16 = true → T.masterdiscref16_ReadDescriptor.l0 (983 + 1) a 16 = some (readR (rd4 a) (rd2 a 4) (rd2 a 6) (rd2 a 8) (rd2 a 10) (rd2 a 12) (15 * sb (bt a 16)) (okQ (bt a 16))) := by
        intro D0
        have D := digF_all D0
        rw [T.masterdiscref16_ReadDescriptor.l0, if_neg (by decide), if_pos (by decide), if_pos (by omega), show (983 : Nat) = 978 + 5 from rfl, num4 978 a (by omega) (D 0 (by omega)) (D 1 (by omega)) (D 2 (by omega)) (D 3 (by omega)), Option.bind_some, show (978 + 5 : Nat) = 980 + 3 from rfl]
        rw [if_pos (by decide), if_pos (by omega), num2 980 a 4 (by omega) (D 4 (by omega)) (D 5 (by omega)), Option.bind_some]
        rw [if_pos (by decide), if_pos (by omega), num2 980 a 6 (by omega) (D 6 (by omega)) (D 7 (by omega)), Option.bind_some]
        rw [if_pos (by decide), if_pos (by omega), num2 980 a 8 (by omega) (D 8 (by omega)) (D 9 (by omega)), Option.bind_some]
        rw [if_pos (by decide), if_pos (by omega), num2 980 a 10 (by omega) (D 10 (by omega)) (D 11 (by omega)), Option.bind_some]
        rw [if_pos (by decide), if_pos (by omega), num2 980 a 12 (by omega) (D 12 (by omega)) (D 13 (by omega)), Option.bind_some, if_pos (by omega)]
        have yz : Y.masterdiscref16_zone.f (bt a 16) = some (15 * sb (bt a 16), okQ (bt a 16)) := rzone_b c0 c1
        have yv : ∀ y m d h i s, Y.masterdiscref16_Valid.f y m d h i s = some (okC y m d h i s) := fun y m d h i s => rfl
        rw [yz, Option.bind_some, yv, Option.bind_some]
        simp only [Int.cast_ofNat_Int]
        generalize rd4 a = y
        generalize rd2 a 4 = m
        generalize rd2 a 6 = d
        generalize rd2 a 8 = h
        generalize rd2 a 10 = i
        generalize rd2 a 12 = s
        cases hc : okC y m d h i s
        · unfold readR
          rw [if_neg (by decide), if_neg (by rw [hc]; simp)]
        · rw [if_pos rfl]
          cases hq : okQ (bt a 16)
          · unfold readR
            rw [if_neg (by decide), if_neg (by simp)]
          · have yf : Y.masterdiscref16_finish.f y m d h i s (15 * sb (bt a 16)) = some (readR y m d h i s (15 * sb (bt a 16)) true) := finish_f 400 y m d h i s _ hc (okQ_zone hq)
            rw [if_pos rfl, yf]
            rfl
      have L := rl_loop a hs _ 983 fin 16 (by omega) id
      rw [show (983 + 1 + 16 : Nat) = 1000 from rfl, show (16 : Int) - ((16 : Nat) : Int) = 0 from rfl] at L
      rw [L, quarter_f c0 c1, Option.bind_some]
      have R := read_f 399 (rd4 a) (rd2 a 4) (rd2 a 6) (rd2 a 8) (rd2 a 10) (rd2 a 12) (15 * sb (bt a 16)) (okQ (bt a 16)) okQ_zone
      rw [show (399 + 600 + 1 : Nat) = 1000 from rfl] at R
      by_cases hd : digF a 16 = true
      · rw [if_pos hd, if_pos hd]
        exact ⟨_, R, rfl⟩
      · rw [if_neg hd, if_neg hd]
        exact ⟨_, rfl, rfl⟩
  · rw [if_neg h17, if_neg h17]
    exact ⟨_, rfl, rfl⟩
theorem DatetimeDescriptors (t z : Int) (a : ByteArray) (_ : (Lit.int .i64 t).wf = true) (_ : (Lit.int .i64 z).wf = true) (_ : a.size ≤ 140737488351232) : ∃ k, T.masterdisclaw16_DatetimeDescriptors.f k t z a = some true := by
  refine ⟨1000, ?_⟩
  obtain ⟨⟨r1, r2⟩, hr, hr'⟩ := descriptor_same t z
  obtain ⟨⟨s1, s2, s3⟩, hs, hs'⟩ := readDescriptor_same a
  unfold T.masterdisclaw16_DatetimeDescriptors.f
  rw [show Y.masterdisclaw16_awake.f = some true from rfl, Option.bind_some, if_pos rfl]
  split
  · rfl
  · rw [hr, Option.bind_some, hr', Option.bind_some, hs, Option.bind_some, hs', Option.bind_some, if_pos rfl, if_pos rfl, if_pos rfl, if_pos rfl, beq_self_eq_true]
end Go.Proofs.YtnchkpheepbacaaDoor.Pure
