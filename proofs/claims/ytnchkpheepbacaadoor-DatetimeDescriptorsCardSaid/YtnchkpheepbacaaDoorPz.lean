/- A stamp that Stamp writes is read as its time and zone. -/
import Derived.Test.YtnchkpheepbacaaDoorPf
import Derived.Test.YtnchkpheepbacaaDoorPg
import Derived.Test.YtnchkpheepbacaaDoorSt
namespace Go.Proofs.YtnchkpheepbacaaDoor.Pure
open Go.RowKit Go.Proofs.YtnchkpheepbacaaDoor.Hand Go.Proofs.YtnchkpheepbacaaDoor.Q Go.Proofs.YtnchkpheepbacaaDoor.Cal Go.Proofs.YtnchkpheepbacaaDoorW.PrintWords

theorem nums_size (l : List Int) : (strOfNums l).size = l.length := by
  show (strOfNums l).data.size = _
  rw [← Array.length_toList, strOfNums_data, List.length_map]
theorem bt_nums (l : List Int) (i : Nat) (v : Int) (h : l[i]? = some v) (h0 : 0 ≤ v) (h1 : v ≤ 255) : bt (strOfNums l) (i : Int) = v := by
  obtain ⟨hi, hv⟩ := List.getElem?_eq_some_iff.mp h
  rw [← rd_bytesOf]
  unfold rd bytesOf
  rw [strOfNums_data]
  simp only [Int.toNat_natCast, List.map_map, List.getD_eq_getElem?_getD, List.getElem?_map, h, Option.map_some, Option.getD_some, Function.comp]
  simp
  omega
theorem stZone_back {z : Int} (h0 : -1440 ≤ z) (h1 : z ≤ 1440) : stZone (4096 + (z + 4096) % 4096) = (z, true) := by
  have hz : stZ (4096 + (z + 4096) % 4096) = z := by unfold stZ; split <;> omega
  unfold stZone
  rw [hz, if_neg (by omega), if_neg (by omega)]
theorem stamp_read (t z : Int) (ht : timeB t = true) (hz : zoneB z = true) : ∃ s, datetime_Stamp.f 1000 t z = some (s, 0) ∧ datetime_ReadStamp.f 1000 s = some (t, z, 0) := by
  obtain ⟨y, m, d, h, i, s, hs, hy, hc, hS⟩ := split_facts t z ht hz
  obtain ⟨y0, y1, m0, m1, d0, d1, h0, h1, i0, i1, s0, s1⟩ := okC_true hc
  have dh := dim_hi y m
  have hz' := of_decide_eq_true hz
  have e1 := hs 600
  rw [show (600 + 400 : Nat) = 1000 from rfl] at e1
  unfold datetime_Stamp.f
  rw [e1]
  simp only [Option.bind_some]
  rw [if_pos trivial, zone_bits' hz'.1 hz'.2]
  refine ⟨_, rfl, ?_⟩
  have hA' : 0 ≤ 4096 + (z + 4096) % 4096 ∧ 4096 + (z + 4096) % 4096 < 65536 := by omega
  have back := stZone_back hz'.1 hz'.2
  generalize 4096 + (z + 4096) % 4096 = A at *
  unfold datetime_ReadStamp.f
  rw [if_pos (by rw [nums_size]; rfl)]
  have b0 := bt_nums [A % 256, A / 256 % 256, y % 256, y / 256 % 256, m % 256, d % 256, h % 256, i % 256, s % 256, 0, 0, 0] 0 _ rfl (by omega) (by omega)
  have b1 := bt_nums [A % 256, A / 256 % 256, y % 256, y / 256 % 256, m % 256, d % 256, h % 256, i % 256, s % 256, 0, 0, 0] 1 _ rfl (by omega) (by omega)
  have b2 := bt_nums [A % 256, A / 256 % 256, y % 256, y / 256 % 256, m % 256, d % 256, h % 256, i % 256, s % 256, 0, 0, 0] 2 _ rfl (by omega) (by omega)
  have b3 := bt_nums [A % 256, A / 256 % 256, y % 256, y / 256 % 256, m % 256, d % 256, h % 256, i % 256, s % 256, 0, 0, 0] 3 _ rfl (by omega) (by omega)
  have b4 := bt_nums [A % 256, A / 256 % 256, y % 256, y / 256 % 256, m % 256, d % 256, h % 256, i % 256, s % 256, 0, 0, 0] 4 _ rfl (by omega) (by omega)
  have b5 := bt_nums [A % 256, A / 256 % 256, y % 256, y / 256 % 256, m % 256, d % 256, h % 256, i % 256, s % 256, 0, 0, 0] 5 _ rfl (by omega) (by omega)
  have b6 := bt_nums [A % 256, A / 256 % 256, y % 256, y / 256 % 256, m % 256, d % 256, h % 256, i % 256, s % 256, 0, 0, 0] 6 _ rfl (by omega) (by omega)
  have b7 := bt_nums [A % 256, A / 256 % 256, y % 256, y / 256 % 256, m % 256, d % 256, h % 256, i % 256, s % 256, 0, 0, 0] 7 _ rfl (by omega) (by omega)
  have b8 := bt_nums [A % 256, A / 256 % 256, y % 256, y / 256 % 256, m % 256, d % 256, h % 256, i % 256, s % 256, 0, 0, 0] 8 _ rfl (by omega) (by omega)
  have b9 := bt_nums [A % 256, A / 256 % 256, y % 256, y / 256 % 256, m % 256, d % 256, h % 256, i % 256, s % 256, 0, 0, 0] 9 _ rfl (by omega) (by omega)
  have b10 := bt_nums [A % 256, A / 256 % 256, y % 256, y / 256 % 256, m % 256, d % 256, h % 256, i % 256, s % 256, 0, 0, 0] 10 _ rfl (by omega) (by omega)
  have b11 := bt_nums [A % 256, A / 256 % 256, y % 256, y / 256 % 256, m % 256, d % 256, h % 256, i % 256, s % 256, 0, 0, 0] 11 _ rfl (by omega) (by omega)
  generalize strOfNums [A % 256, A / 256 % 256, y % 256, y / 256 % 256, m % 256, d % 256, h % 256, i % 256, s % 256, 0, 0, 0] = S at *
  have k : stKind S = A := by
    unfold stKind
    rw [show bt S 0 = A % 256 from b0, show bt S 1 = A / 256 % 256 from b1]
    omega
  rw [k, back, show bt S 2 = y % 256 from b2, show bt S 3 = y / 256 % 256 from b3, show bt S 4 = m % 256 from b4, show bt S 5 = d % 256 from b5, show bt S 6 = h % 256 from b6, show bt S 7 = i % 256 from b7, show bt S 8 = s % 256 from b8, show bt S 9 = 0 from b9, show bt S 10 = 0 from b10, show bt S 11 = 0 from b11]
  rw [show y % 256 + 256 * (y / 256 % 256) = y by omega, show m % 256 = m by omega, show d % 256 = d by omega, show h % 256 = h by omega, show i % 256 = i by omega, show s % 256 = s by omega]
  have r := read_f 399 y m d h i s z true (fun _ => hz)
  rw [show (399 + 600 + 1 : Nat) = 1000 from rfl] at r
  show datetime_read.f 1000 y m d h i s z true = _
  rw [r]
  unfold readR
  rw [if_pos ⟨rfl, hc⟩, hS, show t + 60 * z - 60 * z = t by omega, if_pos ht]
end Go.Proofs.YtnchkpheepbacaaDoor.Pure
