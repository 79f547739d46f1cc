/- The plain law of AddressBytes: for any address, bytes and offset, the printed law comes to true. -/
import Derived.Test.YtlkddpcdgofbjaaPl
import Derived.Test.YtlkddpcdgofbjaaQ6
namespace Go.Proofs.Ytlkddpcdgofbjaa.Pure
open Go.RowKit Go.Proofs.Ytlkddpcdgofbjaa.Hand Go.Proofs.Ytlkddpcdgofbjaa.Q Go.Proofs.YtlkddpcdgofbjaaW.PrintWords

theorem rbcd_f {n : Int} (h0 : 0 ≤ n) (h1 : n < 100) : masterdiscref01_BCD.f n = some (n / 10 * 16 + n % 10, 0) := by
  unfold masterdiscref01_BCD.f
  rw [if_neg (by omega), if_neg (by omega), tdiv_eq h0, tmod_eq h0, w64 (x := n / 10) (by omega) (by omega), w64 (x := n / 10 * 16) (by omega) (by omega), w64 (by omega) (by omega)]
  congr 2
  omega

theorem rencode_eq (a b c : Int) : masterdiscref06_Encode.f a b c = address_Encode.f a b c := by
  unfold masterdiscref06_Encode.f address_Encode.f
  rw [rvalid_f]
  simp only [Option.bind_some]
  cases h : okB a b c
  · rfl
  · have hk := okB_true h
    simp only [if_true]
    rw [rbcd_f hk.1 hk.2.1, rbcd_f hk.2.2.1 (by omega), rbcd_f hk.2.2.2.2.1 (by omega)]
    rfl

theorem rfrom_f {v : Int} (h0 : 0 ≤ v) (h1 : v ≤ 255) : masterdiscref01_FromBCD.f v = some (if v / 16 ≤ 9 ∧ v % 16 ≤ 9 then (10 * (v / 16) + v % 16, 0) else (0, 2)) := by
  unfold masterdiscref01_FromBCD.f
  rw [tdiv_eq h0, tmod_eq h0]
  by_cases h : v / 16 ≤ 9 ∧ v % 16 ≤ 9
  · rw [if_pos h, if_neg (by omega), if_neg (by omega), w64 (x := v % 16) (by omega) (by omega), w64 (by omega) (by omega)]
    congr 2
    omega
  · rw [if_neg h]
    split
    · rfl
    · rw [if_pos (by omega)]

theorem rdecode_eq (k : Nat) (s : ByteArray) (i : Int) (hs : s.size ≤ 20) (hi : -9223372036854775808 ≤ i ∧ i ≤ 9223372036854775807) : masterdiscref06_Decode.f (k + 1) s i = address_Decode.f s i := by
  unfold masterdiscref06_Decode.f address_Decode.f
  rw [if_pos (show s.size ≤ 140737488351232 by omega)]
  by_cases h : 0 ≤ i ∧ i ≤ (s.size : Int) - 3
  · have r0 := bt_range s i
    have r1 := bt_range s (i + 1)
    have r2 := bt_range s (i + 2)
    rw [if_pos h, if_neg (by omega), if_neg (by omega), w64 (x := (s.size : Int) - i) (by omega) (by omega), decide_eq_false (by omega)]
    simp only [masterdiscref06_Decode.j0, Bool.false_eq_true, if_false]
    rw [w64 (x := i + 1) (by omega) (by omega), w64 (x := i + 2) (by omega) (by omega), if_pos (by omega), if_pos (by omega), rfrom_f r0.1 r0.2]
    simp only [Option.bind_some]
    rw [if_pos (by omega), if_pos (by omega), rfrom_f r1.1 r1.2]
    simp only [Option.bind_some]
    rw [if_pos (by omega), if_pos (by omega), rfrom_f r2.1 r2.2]
    simp only [Option.bind_some]
    generalize bt s i = x at *
    generalize bt s (i + 1) = y at *
    generalize bt s (i + 2) = z at *
    unfold dec3
    by_cases hx : x / 16 ≤ 9 ∧ x % 16 ≤ 9
    · by_cases hy : y / 16 ≤ 9 ∧ y % 16 ≤ 9
      · by_cases hz : z / 16 ≤ 9 ∧ z % 16 ≤ 9
        · simp only [if_pos hx, if_pos hy, if_pos hz, if_true]
          rw [rvalid_f]
          simp only [Option.bind_some]
          cases hv : okB (10 * (x / 16) + x % 16) (10 * (y / 16) + y % 16) (10 * (z / 16) + z % 16)
          · rw [if_neg (by simp), if_neg (by simp)]
          · rw [if_pos rfl, if_pos ⟨hx.1, hx.2, hy.1, hy.2, hz.1, hz.2, rfl⟩]
        · simp only [if_pos hx, if_pos hy, if_neg hz, if_true]
          rw [if_neg (by omega), if_neg (fun h => hz ⟨h.2.2.2.2.1, h.2.2.2.2.2.1⟩)]
      · simp only [if_pos hx, if_neg hy, if_true]
        rw [if_neg (by omega), if_neg (fun h => hy ⟨h.2.2.1, h.2.2.2.1⟩)]
    · simp only [if_neg hx]
      rw [if_neg (by omega), if_neg (fun h => hx ⟨h.1, h.2.1⟩)]
  · rw [if_neg h]
    split
    · simp only [masterdiscref06_Decode.j0, if_true]
    · split
      · simp only [masterdiscref06_Decode.j0, if_true]
      · rw [w64 (by omega) (by omega), decide_eq_true (by omega)]
        simp only [masterdiscref06_Decode.j0, if_true]

theorem AddressBytes (a b c : Int) (s : ByteArray) (i : Int) (_ : (Lit.int .i64 a).wf = true) (_ : (Lit.int .i64 b).wf = true) (_ : (Lit.int .i64 c).wf = true) (_ : s.size ≤ 140737488351232) (hi : (Lit.int .i64 i).wf = true) : ∃ k, masterdisclaw06_AddressBytes.f k a b c s i = some true := by
  have hi := wf64 hi
  refine ⟨1, ?_⟩
  unfold masterdisclaw06_AddressBytes.f
  rw [awake_f]
  simp only [Option.bind_some, if_true]
  by_cases hs : (s.size : Int) > 20
  · rw [if_pos hs]
  · rw [if_neg hs, rencode_eq, rdecode_eq 0 s i (by omega) hi]
    obtain ⟨r, hr⟩ : ∃ r, address_Encode.f a b c = some r := ⟨_, rfl⟩
    obtain ⟨q, hq⟩ : ∃ q, address_Decode.f s i = some q := by
      unfold address_Decode.f
      rw [if_pos (by omega)]
      exact ⟨_, rfl⟩
    rw [hr, hq]
    simp
end Go.Proofs.Ytlkddpcdgofbjaa.Pure
