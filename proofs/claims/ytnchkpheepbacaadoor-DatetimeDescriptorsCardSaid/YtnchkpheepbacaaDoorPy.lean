/- What Record and Descriptor write is read as its time and zone. -/
import Derived.Test.YtnchkpheepbacaaDoorPf
import Derived.Test.YtnchkpheepbacaaDoorPg
import Derived.Test.YtnchkpheepbacaaDoorQ10
import Derived.Test.YtnchkpheepbacaaDoorPz
import Derived.Test.YtnchkpheepbacaaDoorRd
namespace Go.Proofs.YtnchkpheepbacaaDoor.Pure
open Go.RowKit Go.Proofs.YtnchkpheepbacaaDoor.Hand Go.Proofs.YtnchkpheepbacaaDoor.Q Go.Proofs.YtnchkpheepbacaaDoor.Cal Go.Proofs.YtnchkpheepbacaaDoorW.PrintWords

def qB (z : Int) : Bool := decide (Int.tmod z 15 = 0 ∧ -720 ≤ z ∧ z ≤ 780)
theorem quarter_zone {z : Int} (h : qB z = true) : zoneB z = true := by
  have := of_decide_eq_true h
  exact decide_eq_true (by omega)
theorem isQuarter_f (z : Int) : datetime_isQuarter.f z = some (qB z) := by
  unfold datetime_isQuarter.f qB
  generalize Int.tmod z 15 = q
  split
  · split
    · congr 1; rw [Bool.eq_iff_iff, decide_eq_true_eq, decide_eq_true_eq]; omega
    · rw [decide_eq_false (by omega)]
  · rw [decide_eq_false (by omega)]
theorem quarter_div {z : Int} (h : qB z = true) : -48 ≤ Int.tdiv z 15 ∧ Int.tdiv z 15 ≤ 52 := by
  have h' := (of_decide_eq_true h).2
  by_cases hz : 0 ≤ z
  · rw [tdiv_eq hz]
    omega
  · obtain ⟨p, hp⟩ : ∃ p, z = -p := ⟨-z, by omega⟩
    subst hp
    rw [Int.neg_tdiv, tdiv_eq (by omega)]
    omega
theorem i8_small {x : Int} (h0 : -128 ≤ x) (h1 : x ≤ 127) : IntKind.i8.wrap x = x := by
  simp [IntKind.wrap, IntKind.bits, IntKind.signed]
  omega
def sb (b : Int) : Int := if b ≥ 128 then b - 256 else b
def okQ (b : Int) : Bool := decide (-48 ≤ sb b ∧ sb b ≤ 52)
theorem quarter_f {b : Int} (h0 : 0 ≤ b) (h1 : b ≤ 255) : datetime_quarter.f b = some (15 * sb b, okQ b) := by
  have w : IntKind.i8.wrap b = sb b := by
    unfold sb
    split
    · simp [IntKind.wrap, IntKind.bits, IntKind.signed]
      omega
    · exact i8_small (by omega) (by omega)
  have l : -128 ≤ sb b ∧ sb b ≤ 127 := by unfold sb; split <;> omega
  unfold datetime_quarter.f okQ
  rw [w, w64 (x := sb b) (by omega) (by omega), w64 (x := 15 * sb b) (by omega) (by omega)]
  split
  · congr 2; rw [Bool.eq_iff_iff, decide_eq_true_eq, decide_eq_true_eq]; omega
  · rw [decide_eq_false (by omega)]
theorem okQ_zone {b : Int} (h : okQ b = true) : zoneB (15 * sb b) = true := by
  have := of_decide_eq_true h
  exact decide_eq_true (by omega)
end Go.Proofs.YtnchkpheepbacaaDoor.Pure

namespace Go.Proofs.YtnchkpheepbacaaDoor.Pure
open Go.RowKit Go.Proofs.YtnchkpheepbacaaDoor.Hand Go.Proofs.YtnchkpheepbacaaDoor.Q Go.Proofs.YtnchkpheepbacaaDoor.Cal Go.Proofs.YtnchkpheepbacaaDoorW.PrintWords
set_option linter.unusedVariables false
set_option linter.unusedSimpArgs false

theorem nums_cat (a b : List Int) : strOfNums a ++ strOfNums b = strOfNums (a ++ b) := by
  apply ByteArray.ext
  apply Array.toList_inj.1
  rw [ByteArray.data_append, Array.toList_append, strOfNums_data, strOfNums_data, strOfNums_data, List.map_append]
theorem dl_step (k : Nat) (q : Int) (A L : List Int) (j : Nat) (v : Int) (hj : L[j]? = some v) (h0 : 0 ≤ v) (h1 : v < 100) (hA : A.length ≤ 100) (hL : L.length ≤ 100) :
    datetime_Descriptor.l0 (k + 1) q (strOfNums A) L (L.length : Int) (j : Int) = datetime_Descriptor.l0 k q (strOfNums (A ++ [48 + v / 10, 48 + v % 10])) L (L.length : Int) ((j + 1 : Nat) : Int) := by
  obtain ⟨hi, _⟩ := List.getElem?_eq_some_iff.mp hj
  have r : rd L (j : Int) = v := by unfold rd; simp [List.getD_eq_getElem?_getD, hj]
  rw [datetime_Descriptor.l0, if_pos (by omega), if_pos (by omega), if_pos (by omega), r]
  unfold datetime_digits.f
  rw [if_pos ⟨rfl, h0, h1⟩, Option.bind_some, if_pos (by rw [nums_size, nums_size]; simp; omega), nums_cat, w64 (by omega) (by omega)]
  rfl
theorem dl_done (k : Nat) (q : Int) (A L : List Int) (hA : A.length ≤ 100) :
    datetime_Descriptor.l0 (k + 1) q (strOfNums A) L (L.length : Int) (L.length : Int) = some (strOfNums (A ++ [(IntKind.i8.wrap (wrap64 (Int.tdiv q 15))) % 256]), 0) := by
  rw [datetime_Descriptor.l0, if_neg (by omega), Option.bind_some, if_pos (by rw [nums_size, nums_size]; simp; omega), nums_cat]
def dNums (y m d h i s B : Int) : List Int := [48 + y / 1000, 48 + y / 100 % 10, 48 + y / 10 % 10, 48 + y % 10, 48 + m / 10, 48 + m % 10, 48 + d / 10, 48 + d % 10, 48 + h / 10, 48 + h % 10, 48 + i / 10, 48 + i % 10, 48 + s / 10, 48 + s % 10, 48, 48, B]
theorem dl_all (k : Nat) (q y m d h i s : Int) (m0 : 0 ≤ m) (m1 : m < 100) (d0 : 0 ≤ d) (d1 : d < 100) (h0 : 0 ≤ h) (h1 : h < 100) (i0 : 0 ≤ i) (i1 : i < 100) (s0 : 0 ≤ s) (s1 : s < 100) :
    datetime_Descriptor.l0 (k + 6 + 1) q (strOfNums [48 + y / 1000, 48 + y / 100 % 10, 48 + y / 10 % 10, 48 + y % 10]) [m, d, h, i, s, 0] (([m, d, h, i, s, 0] : List Int).length : Int) 0 = some (strOfNums (dNums y m d h i s ((IntKind.i8.wrap (wrap64 (Int.tdiv q 15))) % 256)), 0) := by
  refine (dl_step (k + 6) q _ [m, d, h, i, s, 0] 0 m rfl m0 m1 (by simp) (by simp)).trans ?_
  refine (dl_step (k + 5) q _ [m, d, h, i, s, 0] 1 d rfl d0 d1 (by simp) (by simp)).trans ?_
  refine (dl_step (k + 4) q _ [m, d, h, i, s, 0] 2 h rfl h0 h1 (by simp) (by simp)).trans ?_
  refine (dl_step (k + 3) q _ [m, d, h, i, s, 0] 3 i rfl i0 i1 (by simp) (by simp)).trans ?_
  refine (dl_step (k + 2) q _ [m, d, h, i, s, 0] 4 s rfl s0 s1 (by simp) (by simp)).trans ?_
  refine (dl_step (k + 1) q _ [m, d, h, i, s, 0] 5 0 rfl (by decide) (by decide) (by simp) (by simp)).trans ?_
  refine (dl_done k q _ [m, d, h, i, s, 0] (by simp)).trans ?_
  rfl
theorem descriptor_in (t z : Int) (ht : timeB t = true) (hq : qB z = true) : ∃ y m d h i s : Int, datetime_Descriptor.f 1000 t z = some (strOfNums (dNums y m d h i s ((IntKind.i8.wrap (wrap64 (Int.tdiv z 15))) % 256)), 0) ∧ (∀ k, datetime_Split.f (k + 400) t z = some (y, m, d, h, i, s, 0)) ∧ 1970 ≤ y ∧ okC y m d h i s = true ∧ secs y m d h i s = t + 60 * z := by
  have hz := quarter_zone hq
  obtain ⟨y, m, d, h, i, s, hs, hy, hc, hS⟩ := split_facts t z ht hz
  obtain ⟨y0, y1, m0, m1, d0, d1, h0, h1, i0, i1, s0, s1⟩ := okC_true hc
  have dh := dim_hi y m
  have e1 := hs 600
  rw [show (600 + 400 : Nat) = 1000 from rfl] at e1
  refine ⟨y, m, d, h, i, s, ?_, hs, hy, hc, hS⟩
  unfold datetime_Descriptor.f
  rw [e1, Option.bind_some, if_pos rfl, isQuarter_f, hq, Option.bind_some]
  rw [show (1000 : Nat) = 999 + 1 from rfl, datetime_Descriptor.j0, if_neg (by decide)]
  unfold datetime_digits.f
  rw [if_neg (by omega), if_pos ⟨rfl, by omega, by omega⟩, Option.bind_some, Option.bind_some]
  exact dl_all 992 z y m d h i s (by omega) (by omega) (by omega) (by omega) (by omega) (by omega) (by omega) (by omega) (by omega) (by omega)
end Go.Proofs.YtnchkpheepbacaaDoor.Pure
