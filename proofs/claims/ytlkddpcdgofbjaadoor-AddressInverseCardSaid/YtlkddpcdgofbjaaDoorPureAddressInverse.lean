/- The plain law of AddressInverse: from each LBA in range to its address, to bytes, to a text, and back. -/
import Derived.Test.YtlkddpcdgofbjaaDoorPi
import Derived.Test.YtlkddpcdgofbjaaDoorU5
namespace Go.Proofs.YtlkddpcdgofbjaaDoor.Pure
open Go.RowKit Go.Proofs.YtlkddpcdgofbjaaDoor.Hand Go.Proofs.YtlkddpcdgofbjaaDoor.U Go.Proofs.YtlkddpcdgofbjaaDoorW.PrintWords

theorem bt_behind (a s : ByteArray) (i : Nat) (hi : i < s.size) : bt (a ++ s) ((a.size : Int) + (i : Int)) = bt s (i : Int) := by
  unfold bt
  have e : ((a.size : Int) + (i : Int)).toNat = a.size + i := by omega
  rw [dif_pos (by rw [e, ByteArray.size_append]; omega), dif_pos (by simpa using hi)]
  simp [e, ByteArray.getElem_append_right]
theorem bt_nums (l : List Int) (i : Nat) (v : Int) (h : l[i]? = some v) (h0 : 0 ≤ v) (h1 : v ≤ 255) : bt (strOfNums l) (i : Int) = v := by
  obtain ⟨hi, hv⟩ := List.getElem?_eq_some_iff.mp h
  rw [← rd_bytesOf]
  unfold rd bytesOf
  rw [strOfNums_data]
  simp only [Int.toNat_natCast, List.map_map, List.getD_eq_getElem?_getD, List.getElem?_map, h, Option.map_some, Option.getD_some, Function.comp]
  simp
  omega
theorem decode_back (s : ByteArray) {a b c : Int} (h : okB a b c = true) (hs : s.size ≤ 20) : address_Decode.f (s ++ strOfNums [a / 10 * 16 + a % 10, b / 10 * 16 + b % 10, c / 10 * 16 + c % 10]) (s.size : Int) = some (a, b, c, 0) := by
  have h' := okB_true h
  have z : (strOfNums [a / 10 * 16 + a % 10, b / 10 * 16 + b % 10, c / 10 * 16 + c % 10]).size = 3 := by rw [nums_size]; rfl
  have b0 := bt_nums [a / 10 * 16 + a % 10, b / 10 * 16 + b % 10, c / 10 * 16 + c % 10] 0 _ rfl (by omega) (by omega)
  have b1 := bt_nums [a / 10 * 16 + a % 10, b / 10 * 16 + b % 10, c / 10 * 16 + c % 10] 1 _ rfl (by omega) (by omega)
  have b2 := bt_nums [a / 10 * 16 + a % 10, b / 10 * 16 + b % 10, c / 10 * 16 + c % 10] 2 _ rfl (by omega) (by omega)
  generalize strOfNums [a / 10 * 16 + a % 10, b / 10 * 16 + b % 10, c / 10 * 16 + c % 10] = S at *
  have e0 := bt_behind s S 0 (by omega)
  have e1 := bt_behind s S 1 (by omega)
  have e2 := bt_behind s S 2 (by omega)
  rw [b0] at e0
  rw [b1] at e1
  rw [b2] at e2
  have e0' : bt (s ++ S) (s.size : Int) = a / 10 * 16 + a % 10 := by rw [← e0]; congr 1
  have e1' : bt (s ++ S) ((s.size : Int) + 1) = b / 10 * 16 + b % 10 := e1
  have e2' : bt (s ++ S) ((s.size : Int) + 2) = c / 10 * 16 + c % 10 := e2
  unfold address_Decode.f
  rw [if_pos (by rw [ByteArray.size_append]; omega), if_pos (by rw [ByteArray.size_append]; omega), e0', e1', e2']
  unfold dec3
  rw [show (a / 10 * 16 + a % 10) / 16 = a / 10 by omega, show (a / 10 * 16 + a % 10) % 16 = a % 10 by omega, show (b / 10 * 16 + b % 10) / 16 = b / 10 by omega, show (b / 10 * 16 + b % 10) % 16 = b % 10 by omega, show (c / 10 * 16 + c % 10) / 16 = c / 10 by omega, show (c / 10 * 16 + c % 10) % 16 = c % 10 by omega, show 10 * (a / 10) + a % 10 = a by omega, show 10 * (b / 10) + b % 10 = b by omega, show 10 * (c / 10) + c % 10 = c by omega]
  rw [if_pos ⟨by omega, by omega, by omega, by omega, by omega, by omega, h⟩]
theorem AddressInverse (l : Int) (s : ByteArray) (w : (Lit.int .i64 l).wf = true) (_ : s.size ≤ 140737488351232) : masterdisclaw06_AddressInverse.f l s = some true := by
  have wl := wf64 w
  unfold masterdisclaw06_AddressInverse.f
  rw [awake_f, Option.bind_some, if_pos rfl]
  by_cases h : -150 ≤ l ∧ l ≤ 449849
  · rw [tomsf_in h.1 h.2, Option.bind_some, if_pos rfl]
    have hv : okB ((l + 150) / 4500) ((l + 150) / 75 % 60) ((l + 150) % 75) = true := ok_mk (by omega)
    have hb : 4500 * ((l + 150) / 4500) + 75 * ((l + 150) / 75 % 60) + (l + 150) % 75 - 150 = l := by omega
    simp only
    generalize (l + 150) / 4500 = a at *
    generalize (l + 150) / 75 % 60 = b at *
    generalize (l + 150) % 75 = c at *
    split
    · rfl
    · have hs : s.size ≤ 20 := by omega
      have en : address_Encode.f a b c = some (strOfNums [a / 10 * 16 + a % 10, b / 10 * 16 + b % 10, c / 10 * 16 + c % 10], 0) := by unfold address_Encode.f; rw [if_pos hv]
      have fo : address_Format.f a b c = some (strOfNums (fmtNums a b c), 0) := by unfold address_Format.f; rw [if_pos hv]
      rw [tolba_yes hv, hb, Option.bind_some, en, Option.bind_some, if_pos (by rw [nums_size]; simp; omega), decode_back s hv hs, Option.bind_some, fo, Option.bind_some, parse_fmt hv, Option.bind_some, valid_f, hv, Option.bind_some, if_pos rfl, if_pos rfl, if_pos rfl, if_pos (by rw [nums_size]; rfl), if_pos rfl, if_pos (by simp), if_pos rfl, if_pos rfl, if_pos (by simp)]
      rfl
  · rw [tomsf_out wl.1 (by omega), Option.bind_some, if_neg (by decide)]
    by_cases h1 : l < -150
    · rw [if_pos h1]
      rfl
    · rw [if_neg h1, if_pos (by omega)]
      rfl
end Go.Proofs.YtlkddpcdgofbjaaDoor.Pure
