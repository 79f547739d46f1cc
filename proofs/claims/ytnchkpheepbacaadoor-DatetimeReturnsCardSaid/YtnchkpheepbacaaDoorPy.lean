/- What Record and Descriptor write is read as its time and zone. -/
import Derived.Test.YtnchkpheepbacaaDoorPf
import Derived.Test.YtnchkpheepbacaaDoorPg
import Derived.Test.YtnchkpheepbacaaDoorQ10
import Derived.Test.YtnchkpheepbacaaDoorPz
import Derived.Test.YtnchkpheepbacaaDoorRd
namespace Go.Proofs.YtnchkpheepbacaaDoor.Pure
open Go.RowKit Go.Proofs.YtnchkpheepbacaaDoor.Hand Go.Proofs.YtnchkpheepbacaaDoor.Q Go.Proofs.YtnchkpheepbacaaDoor.Cal Go.Proofs.YtnchkpheepbacaaDoorW.PrintWords

def qB (z : Int) : Bool := decide (Int.tmod z 15 = 0 ∧ -720 ≤ z ∧ z ≤ 780)
theorem quarter_zone {z : Int} (h : qB z = true) : zoneB z = true := by
  have := of_decide_eq_true h
  exact decide_eq_true (by omega)
theorem isQuarter_f (z : Int) : datetime_isQuarter.f z = some (qB z) := by
  unfold datetime_isQuarter.f qB
  generalize Int.tmod z 15 = q
  split
  · split
    · congr 1; rw [Bool.eq_iff_iff, decide_eq_true_eq, decide_eq_true_eq]; omega
    · rw [decide_eq_false (by omega)]
  · rw [decide_eq_false (by omega)]
theorem quarter_div {z : Int} (h : qB z = true) : -48 ≤ Int.tdiv z 15 ∧ Int.tdiv z 15 ≤ 52 := by
  have h' := (of_decide_eq_true h).2
  by_cases hz : 0 ≤ z
  · rw [tdiv_eq hz]
    omega
  · obtain ⟨p, hp⟩ : ∃ p, z = -p := ⟨-z, by omega⟩
    subst hp
    rw [Int.neg_tdiv, tdiv_eq (by omega)]
    omega
theorem i8_small {x : Int} (h0 : -128 ≤ x) (h1 : x ≤ 127) : IntKind.i8.wrap x = x := by
  simp [IntKind.wrap, IntKind.bits, IntKind.signed]
  omega
def sb (b : Int) : Int := if b ≥ 128 then b - 256 else b
def okQ (b : Int) : Bool := decide (-48 ≤ sb b ∧ sb b ≤ 52)
theorem quarter_f {b : Int} (h0 : 0 ≤ b) (h1 : b ≤ 255) : datetime_quarter.f b = some (15 * sb b, okQ b) := by
  have w : IntKind.i8.wrap b = sb b := by
    unfold sb
    split
    · simp [IntKind.wrap, IntKind.bits, IntKind.signed]
      omega
    · exact i8_small (by omega) (by omega)
  have l : -128 ≤ sb b ∧ sb b ≤ 127 := by unfold sb; split <;> omega
  unfold datetime_quarter.f okQ
  rw [w, w64 (x := sb b) (by omega) (by omega), w64 (x := 15 * sb b) (by omega) (by omega)]
  split
  · congr 2; rw [Bool.eq_iff_iff, decide_eq_true_eq, decide_eq_true_eq]; omega
  · rw [decide_eq_false (by omega)]
/-- The byte of a zone is read as that zone. -/
theorem zone_byte {z : Int} (h : qB z = true) : ∃ b : Int, IntKind.i8.wrap (wrap64 (Int.tdiv z 15)) % 256 = b ∧ 0 ≤ b ∧ b ≤ 255 ∧ datetime_quarter.f b = some (z, true) := by
  obtain ⟨q0, q1⟩ := quarter_div h
  have hz : 15 * Int.tdiv z 15 = z := by
    have h1 := (of_decide_eq_true h).1
    have h2 := Int.mul_tdiv_add_tmod z 15
    omega
  generalize Int.tdiv z 15 = q at *
  refine ⟨_, rfl, ?_⟩
  rw [w64 (x := q) (by omega) (by omega), i8_small (by omega) (by omega)]
  refine ⟨by omega, by omega, ?_⟩
  rw [quarter_f (by omega) (by omega)]
  have s : sb (q % 256) = q := by unfold sb; split <;> omega
  have o : okQ (q % 256) = true := by unfold okQ; rw [s]; exact decide_eq_true (by omega)
  rw [s, o, hz]
end Go.Proofs.YtnchkpheepbacaaDoor.Pure

namespace Go.Proofs.YtnchkpheepbacaaDoor.Pure
open Go.RowKit Go.Proofs.YtnchkpheepbacaaDoor.Hand Go.Proofs.YtnchkpheepbacaaDoor.Q Go.Proofs.YtnchkpheepbacaaDoor.Cal Go.Proofs.YtnchkpheepbacaaDoorW.PrintWords
set_option linter.unusedVariables false
set_option linter.unusedSimpArgs false

theorem read_back {t z y m d h i s : Int} (ht : timeB t = true) (hz : zoneB z = true) (hc : okC y m d h i s = true) (hS : secs y m d h i s = t + 60 * z) : datetime_read.f 1000 y m d h i s z true = some (t, z, 0) := by
  have r := read_f 399 y m d h i s z true (fun _ => hz)
  rw [show (399 + 600 + 1 : Nat) = 1000 from rfl] at r
  rw [r]
  unfold readR
  rw [if_pos ⟨rfl, hc⟩, hS, show t + 60 * z - 60 * z = t by omega, if_pos ht]
theorem record_read (t z : Int) (ht : timeB t = true) (hq : qB z = true) : ∃ s, datetime_Record.f 1000 t z = some (s, 0) ∧ datetime_ReadRecord.f 1000 s = some (t, z, 0) := by
  have hz := quarter_zone hq
  obtain ⟨y, m, d, h, i, s, hs, hy, hc, hS⟩ := split_facts t z ht hz
  obtain ⟨y0, y1, m0, m1, d0, d1, h0, h1, i0, i1, s0, s1⟩ := okC_true hc
  have dh := dim_hi y m
  have e1 := hs 600
  rw [show (600 + 400 : Nat) = 1000 from rfl] at e1
  unfold datetime_Record.f
  rw [e1]
  simp only [Option.bind_some]
  obtain ⟨B, hB, B0, B1, hQ⟩ := zone_byte hq
  rw [if_pos trivial, isQuarter_f, hq, Option.bind_some, if_pos rfl, hB, w64 (x := y - 1900) (by omega) (by omega)]
  refine ⟨_, rfl, ?_⟩
  have b0 := bt_nums [(y - 1900) % 256, m % 256, d % 256, h % 256, i % 256, s % 256, B] 0 _ rfl (by omega) (by omega)
  have b1 := bt_nums [(y - 1900) % 256, m % 256, d % 256, h % 256, i % 256, s % 256, B] 1 _ rfl (by omega) (by omega)
  have b2 := bt_nums [(y - 1900) % 256, m % 256, d % 256, h % 256, i % 256, s % 256, B] 2 _ rfl (by omega) (by omega)
  have b3 := bt_nums [(y - 1900) % 256, m % 256, d % 256, h % 256, i % 256, s % 256, B] 3 _ rfl (by omega) (by omega)
  have b4 := bt_nums [(y - 1900) % 256, m % 256, d % 256, h % 256, i % 256, s % 256, B] 4 _ rfl (by omega) (by omega)
  have b5 := bt_nums [(y - 1900) % 256, m % 256, d % 256, h % 256, i % 256, s % 256, B] 5 _ rfl (by omega) (by omega)
  have b6 := bt_nums [(y - 1900) % 256, m % 256, d % 256, h % 256, i % 256, s % 256, B] 6 _ rfl (by omega) (by omega)
  have sz : ((strOfNums [(y - 1900) % 256, m % 256, d % 256, h % 256, i % 256, s % 256, B]).size : Int) = 7 := by rw [nums_size]; rfl
  generalize strOfNums [(y - 1900) % 256, m % 256, d % 256, h % 256, i % 256, s % 256, B] = S at *
  unfold datetime_ReadRecord.f
  rw [sz, if_pos rfl, if_pos (by decide), show bt S 6 = B from b6, hQ, Option.bind_some, if_pos (by decide), if_pos (by decide), if_pos (by decide), if_pos (by decide), if_pos (by decide), if_pos (by decide)]
  rw [show bt S 0 = (y - 1900) % 256 from b0, show bt S 1 = m % 256 from b1, show bt S 2 = d % 256 from b2, show bt S 3 = h % 256 from b3, show bt S 4 = i % 256 from b4, show bt S 5 = s % 256 from b5]
  rw [show wrap64 (1900 + wrap64 ((y - 1900) % 256)) = y by rw [w64 (x := (y - 1900) % 256) (by omega) (by omega), w64 (by omega) (by omega)]; omega, show wrap64 (m % 256) = m by rw [w64 (by omega) (by omega)]; omega, show wrap64 (d % 256) = d by rw [w64 (by omega) (by omega)]; omega, show wrap64 (h % 256) = h by rw [w64 (by omega) (by omega)]; omega, show wrap64 (i % 256) = i by rw [w64 (by omega) (by omega)]; omega, show wrap64 (s % 256) = s by rw [w64 (by omega) (by omega)]; omega]
  rw [read_back ht hz hc hS]
  rfl
theorem nums_cat (a b : List Int) : strOfNums a ++ strOfNums b = strOfNums (a ++ b) := by
  apply ByteArray.ext
  apply Array.toList_inj.1
  rw [ByteArray.data_append, Array.toList_append, strOfNums_data, strOfNums_data, strOfNums_data, List.map_append]
theorem dl_step (k : Nat) (q : Int) (A L : List Int) (j : Nat) (v : Int) (hj : L[j]? = some v) (h0 : 0 ≤ v) (h1 : v < 100) (hA : A.length ≤ 100) (hL : L.length ≤ 100) :
    datetime_Descriptor.l0 (k + 1) q (strOfNums A) L (L.length : Int) (j : Int) = datetime_Descriptor.l0 k q (strOfNums (A ++ [48 + v / 10, 48 + v % 10])) L (L.length : Int) ((j + 1 : Nat) : Int) := by
  obtain ⟨hi, _⟩ := List.getElem?_eq_some_iff.mp hj
  have r : rd L (j : Int) = v := by unfold rd; simp [List.getD_eq_getElem?_getD, hj]
  rw [datetime_Descriptor.l0, if_pos (by omega), if_pos (by omega), if_pos (by omega), r]
  unfold datetime_digits.f
  rw [if_pos ⟨rfl, h0, h1⟩, Option.bind_some, if_pos (by rw [nums_size, nums_size]; simp; omega), nums_cat, w64 (by omega) (by omega)]
  rfl
theorem dl_done (k : Nat) (q : Int) (A L : List Int) (hA : A.length ≤ 100) :
    datetime_Descriptor.l0 (k + 1) q (strOfNums A) L (L.length : Int) (L.length : Int) = some (strOfNums (A ++ [(IntKind.i8.wrap (wrap64 (Int.tdiv q 15))) % 256]), 0) := by
  rw [datetime_Descriptor.l0, if_neg (by omega), Option.bind_some, if_pos (by rw [nums_size, nums_size]; simp; omega), nums_cat]
theorem digF_of {a : ByteArray} : ∀ {n : Nat}, (∀ j : Nat, j < n → 48 ≤ bt a (15 - (j : Int)) ∧ bt a (15 - (j : Int)) ≤ 57) → digF a n = true
  | 0, _ => rfl
  | n + 1, h => by
    obtain ⟨h0, h1⟩ := h n (by omega)
    rw [digF, decide_eq_true h0, decide_eq_true h1, digF_of (fun j hj => h j (by omega))]
    rfl
def dNums (y m d h i s B : Int) : List Int := [48 + y / 1000, 48 + y / 100 % 10, 48 + y / 10 % 10, 48 + y % 10, 48 + m / 10, 48 + m % 10, 48 + d / 10, 48 + d % 10, 48 + h / 10, 48 + h % 10, 48 + i / 10, 48 + i % 10, 48 + s / 10, 48 + s % 10, 48, 48, B]
theorem dl_all (k : Nat) (q y m d h i s : Int) (m0 : 0 ≤ m) (m1 : m < 100) (d0 : 0 ≤ d) (d1 : d < 100) (h0 : 0 ≤ h) (h1 : h < 100) (i0 : 0 ≤ i) (i1 : i < 100) (s0 : 0 ≤ s) (s1 : s < 100) :
    datetime_Descriptor.l0 (k + 6 + 1) q (strOfNums [48 + y / 1000, 48 + y / 100 % 10, 48 + y / 10 % 10, 48 + y % 10]) [m, d, h, i, s, 0] (([m, d, h, i, s, 0] : List Int).length : Int) 0 = some (strOfNums (dNums y m d h i s ((IntKind.i8.wrap (wrap64 (Int.tdiv q 15))) % 256)), 0) := by
  refine (dl_step (k + 6) q _ [m, d, h, i, s, 0] 0 m rfl m0 m1 (by simp) (by simp)).trans ?_
  refine (dl_step (k + 5) q _ [m, d, h, i, s, 0] 1 d rfl d0 d1 (by simp) (by simp)).trans ?_
  refine (dl_step (k + 4) q _ [m, d, h, i, s, 0] 2 h rfl h0 h1 (by simp) (by simp)).trans ?_
  refine (dl_step (k + 3) q _ [m, d, h, i, s, 0] 3 i rfl i0 i1 (by simp) (by simp)).trans ?_
  refine (dl_step (k + 2) q _ [m, d, h, i, s, 0] 4 s rfl s0 s1 (by simp) (by simp)).trans ?_
  refine (dl_step (k + 1) q _ [m, d, h, i, s, 0] 5 0 rfl (by decide) (by decide) (by simp) (by simp)).trans ?_
  refine (dl_done k q _ [m, d, h, i, s, 0] (by simp)).trans ?_
  rfl
theorem descriptor_in (t z : Int) (ht : timeB t = true) (hq : qB z = true) : ∃ y m d h i s : Int, datetime_Descriptor.f 1000 t z = some (strOfNums (dNums y m d h i s ((IntKind.i8.wrap (wrap64 (Int.tdiv z 15))) % 256)), 0) ∧ (∀ k, datetime_Split.f (k + 400) t z = some (y, m, d, h, i, s, 0)) ∧ 1970 ≤ y ∧ okC y m d h i s = true ∧ secs y m d h i s = t + 60 * z := by
  have hz := quarter_zone hq
  obtain ⟨y, m, d, h, i, s, hs, hy, hc, hS⟩ := split_facts t z ht hz
  obtain ⟨y0, y1, m0, m1, d0, d1, h0, h1, i0, i1, s0, s1⟩ := okC_true hc
  have dh := dim_hi y m
  have e1 := hs 600
  rw [show (600 + 400 : Nat) = 1000 from rfl] at e1
  refine ⟨y, m, d, h, i, s, ?_, hs, hy, hc, hS⟩
  unfold datetime_Descriptor.f
  rw [e1, Option.bind_some, if_pos rfl, isQuarter_f, hq, Option.bind_some]
  rw [show (1000 : Nat) = 999 + 1 from rfl, datetime_Descriptor.j0, if_neg (by decide)]
  unfold datetime_digits.f
  rw [if_neg (by omega), if_pos ⟨rfl, by omega, by omega⟩, Option.bind_some, Option.bind_some]
  exact dl_all 992 z y m d h i s (by omega) (by omega) (by omega) (by omega) (by omega) (by omega) (by omega) (by omega) (by omega) (by omega)
theorem descriptor_read (t z : Int) (ht : timeB t = true) (hq : qB z = true) : ∃ s, datetime_Descriptor.f 1000 t z = some (s, 0) ∧ datetime_ReadDescriptor.f 1000 s = some (t, z, 0) := by
  obtain ⟨y, m, d, h, i, s, hD, _, hy, hc, hS⟩ := descriptor_in t z ht hq
  obtain ⟨y0, y1, m0, m1, d0, d1, h0, h1, i0, i1, s0, s1⟩ := okC_true hc
  have dh := dim_hi y m
  refine ⟨_, hD, ?_⟩
  obtain ⟨B, hB, B0, B1, hQ⟩ := zone_byte hq
  rw [hB]
  have b := fun (j : Nat) (v : Int) => bt_nums (dNums y m d h i s B) j v
  have sz : ((strOfNums (dNums y m d h i s B)).size : Int) = 17 := by rw [nums_size]; rfl
  have b0 := b 0 _ rfl (by omega) (by omega)
  have b1 := b 1 _ rfl (by omega) (by omega)
  have b2 := b 2 _ rfl (by omega) (by omega)
  have b3 := b 3 _ rfl (by omega) (by omega)
  have b4 := b 4 _ rfl (by omega) (by omega)
  have b5 := b 5 _ rfl (by omega) (by omega)
  have b6 := b 6 _ rfl (by omega) (by omega)
  have b7 := b 7 _ rfl (by omega) (by omega)
  have b8 := b 8 _ rfl (by omega) (by omega)
  have b9 := b 9 _ rfl (by omega) (by omega)
  have b10 := b 10 _ rfl (by omega) (by omega)
  have b11 := b 11 _ rfl (by omega) (by omega)
  have b12 := b 12 _ rfl (by omega) (by omega)
  have b13 := b 13 _ rfl (by omega) (by omega)
  have b14 := b 14 _ rfl (by omega) (by omega)
  have b15 := b 15 _ rfl (by omega) (by omega)
  have b16 := b 16 _ rfl (by omega) (by omega)
  clear b
  generalize strOfNums (dNums y m d h i s B) = S at *
  simp only [Int.cast_ofNat_Int] at b0 b1 b2 b3 b4 b5 b6 b7 b8 b9 b10 b11 b12 b13 b14 b15 b16
  have nd : ¬ S = noDate := by
    intro e
    rw [e] at b0
    have : bt noDate 0 = 48 := by decide +kernel
    have b0' : bt noDate 0 = 48 + y / 1000 := b0
    omega
  have dig : digF S 16 = true := by
    have e : ∀ (i v : Int), bt S i = v → 48 ≤ v → v ≤ 57 → 48 ≤ bt S i ∧ bt S i ≤ 57 := fun i v h a b => by rw [h]; exact ⟨a, b⟩
    refine digF_of fun j hj => ?_
    have c : j = 0 ∨ j = 1 ∨ j = 2 ∨ j = 3 ∨ j = 4 ∨ j = 5 ∨ j = 6 ∨ j = 7 ∨ j = 8 ∨ j = 9 ∨ j = 10 ∨ j = 11 ∨ j = 12 ∨ j = 13 ∨ j = 14 ∨ j = 15 := by omega
    rcases c with rfl | rfl | rfl | rfl | rfl | rfl | rfl | rfl | rfl | rfl | rfl | rfl | rfl | rfl | rfl | rfl
    · exact e 15 _ b15 (by omega) (by omega)
    · exact e 14 _ b14 (by omega) (by omega)
    · exact e 13 _ b13 (by omega) (by omega)
    · exact e 12 _ b12 (by omega) (by omega)
    · exact e 11 _ b11 (by omega) (by omega)
    · exact e 10 _ b10 (by omega) (by omega)
    · exact e 9 _ b9 (by omega) (by omega)
    · exact e 8 _ b8 (by omega) (by omega)
    · exact e 7 _ b7 (by omega) (by omega)
    · exact e 6 _ b6 (by omega) (by omega)
    · exact e 5 _ b5 (by omega) (by omega)
    · exact e 4 _ b4 (by omega) (by omega)
    · exact e 3 _ b3 (by omega) (by omega)
    · exact e 2 _ b2 (by omega) (by omega)
    · exact e 1 _ b1 (by omega) (by omega)
    · exact e 0 _ b0 (by omega) (by omega)
  unfold datetime_ReadDescriptor.f
  rw [if_pos sz, if_neg nd, if_pos dig, show bt S 16 = B from b16, hQ, Option.bind_some]
  have r4 : rd4 S = y := by
    unfold rd4
    rw [show bt S 0 = _ from b0, show bt S 1 = _ from b1, show bt S 2 = _ from b2, show bt S 3 = _ from b3]
    omega
  have r2 : ∀ (j v : Int), bt S j = 48 + v / 10 → bt S (j + 1) = 48 + v % 10 → rd2 S j = v := by
    intro j v p q
    unfold rd2
    rw [p, q]
    omega
  rw [r4, r2 4 m b4 b5, r2 6 d b6 b7, r2 8 h b8 b9, r2 10 i b10 b11, r2 12 s b12 b13]
  exact read_back ht (quarter_zone hq) hc hS
end Go.Proofs.YtnchkpheepbacaaDoor.Pure
