/- The plain law of AddressTexts: Format and Parse come to what the definitions specify. -/
import Derived.Test.YtlkddpcdgofbjaaDoorPi
import Derived.Test.YtlkddpcdgofbjaaDoorU3
import Derived.Test.YtlkddpcdgofbjaaDoorU4
namespace Go.Proofs.YtlkddpcdgofbjaaDoor.Pure
open Go.RowKit Go.Proofs.YtlkddpcdgofbjaaDoor.Hand Go.Proofs.YtlkddpcdgofbjaaDoor.U Go.Proofs.YtlkddpcdgofbjaaDoorW.PrintWords
set_option linter.unusedSimpArgs false
set_option linter.unusedVariables false

theorem bt_nums (l : List Int) (i : Nat) (v : Int) (h : l[i]? = some v) (h0 : 0 ≤ v) (h1 : v ≤ 255) : bt (strOfNums l) (i : Int) = v := by
  obtain ⟨hi, hv⟩ := List.getElem?_eq_some_iff.mp h
  rw [← rd_bytesOf]
  unfold rd bytesOf
  rw [strOfNums_data]
  simp only [Int.toNat_natCast, List.map_map, List.getD_eq_getElem?_getD, List.getElem?_map, h, Option.map_some, Option.getD_some, Function.comp]
  simp
  omega
theorem rvalid_f (a b c : Int) : masterdiscref06_Valid.f a b c = some (okB a b c) := by
  unfold masterdiscref06_Valid.f okB
  repeat' split
  all_goals first
    | (congr 1; rw [Bool.eq_iff_iff, decide_eq_true_eq, decide_eq_true_eq]; omega)
    | (rw [decide_eq_false (by omega)])
theorem rdigits_f {x : Int} (h0 : 0 ≤ x) (h1 : x < 100) : masterdiscref06_digits.f x = some (strOfNums [48 + x / 10, 48 + x % 10]) := by
  unfold masterdiscref06_digits.f
  rw [tdiv_eq h0, tmod_eq h0, w64 (x := x / 10) (by omega) (by omega), w64 (x := 48 + x / 10) (by omega) (by omega), w64 (x := 48 + x % 10) (by omega) (by omega), show (48 + x / 10) % 256 = 48 + x / 10 by omega, show (48 + x % 10) % 256 = 48 + x % 10 by omega]
theorem format_same (a b c : Int) : ∃ r, address_Format.f a b c = some r ∧ masterdiscref06_Format.f a b c = some r := by
  unfold address_Format.f masterdiscref06_Format.f
  rw [rvalid_f, Option.bind_some]
  cases h : okB a b c
  · exact ⟨_, rfl, rfl⟩
  · have h' := okB_true h
    refine ⟨_, rfl, ?_⟩
    have c58 : (⟨#[58]⟩ : ByteArray) = strOfNums [58] := by decide +kernel
    rw [if_pos rfl, if_pos rfl, rdigits_f (x := a) (by omega) (by omega), Option.bind_some, if_pos (by rw [nums_size]; simp), rdigits_f (x := b) (by omega) (by omega), Option.bind_some, c58, Hand.nums_append, if_pos (by rw [nums_size, nums_size]; simp), Hand.nums_append, if_pos (by rw [nums_size]; simp), rdigits_f (x := c) (by omega) (by omega), Option.bind_some, Hand.nums_append, if_pos (by rw [nums_size, nums_size]; simp), Hand.nums_append]
    rfl
/-- One round of the reference's loop. -/
theorem pl_round (k : Nat) (S : ByteArray) (L : List Int) (j : Int) (p q : Int) (h0 : 0 ≤ j) (h1 : j < 8) (hs : j + 1 < (S.size : Int)) (hp : bt S j = p) (hq : bt S (j + 1) = q) (hL : L.length ≤ 10) :
    masterdiscref06_Parse.l0 (k + 1) S L j = if (48 ≤ p ∧ p ≤ 57) ∧ 48 ≤ q ∧ q ≤ 57 then masterdiscref06_Parse.l0 k S (L ++ [10 * (p - 48) + (q - 48)]) (j + 3) else some (0, 0, 0, 3) := by
  rw [masterdiscref06_Parse.l0, if_pos h1, if_pos h0, if_pos (by omega), w64 (x := j + 1) (by omega) (by omega), w64 (x := j + 3) (by omega) (by omega), hp, hq]
  by_cases a : p < 48
  · rw [if_pos a, if_neg (by omega)]
  · rw [if_neg a]
    by_cases b : p > 57
    · rw [if_pos b, if_neg (by omega)]
    · rw [if_neg b, if_pos (by omega), if_pos hs]
      by_cases c : q < 48
      · rw [if_pos c, if_neg (by omega)]
      · rw [if_neg c]
        by_cases d : q > 57
        · rw [if_pos d, if_neg (by omega)]
        · rw [if_neg d, if_pos (by omega), if_pos (by omega), show (p - 48) % 256 = p - 48 by omega, show (q - 48) % 256 = q - 48 by omega]
theorem pl_done (k : Nat) (S : ByteArray) (x y z : Int) : masterdiscref06_Parse.l0 (k + 1) S [x, y, z] 9 = some (if okB x y z = true then (x, y, z, 0) else (0, 0, 0, 3)) := by
  rw [masterdiscref06_Parse.l0, if_neg (by decide), if_pos (by simp), if_pos (by simp), if_pos (by simp), show rd [x, y, z] 0 = x from rfl, show rd [x, y, z] 1 = y from rfl, show rd [x, y, z] 2 = z from rfl, rvalid_f, Option.bind_some]
  split <;> rfl
theorem pl_all (k : Nat) (S : ByteArray) (p0 p1 p3 p4 p6 p7 : Int) (hs : S.size = 8) (h0 : bt S 0 = p0) (h1 : bt S 1 = p1) (h3 : bt S 3 = p3) (h4 : bt S 4 = p4) (h6 : bt S 6 = p6) (h7 : bt S 7 = p7) :
    masterdiscref06_Parse.l0 (k + 4) S [] 0 = if (((48 ≤ p0 ∧ p0 ≤ 57) ∧ 48 ≤ p1 ∧ p1 ≤ 57) ∧ (48 ≤ p3 ∧ p3 ≤ 57) ∧ 48 ≤ p4 ∧ p4 ≤ 57) ∧ (48 ≤ p6 ∧ p6 ≤ 57) ∧ 48 ≤ p7 ∧ p7 ≤ 57 then some (if okB (10 * (p0 - 48) + (p1 - 48)) (10 * (p3 - 48) + (p4 - 48)) (10 * (p6 - 48) + (p7 - 48)) = true then (10 * (p0 - 48) + (p1 - 48), 10 * (p3 - 48) + (p4 - 48), 10 * (p6 - 48) + (p7 - 48), 0) else (0, 0, 0, 3)) else some (0, 0, 0, 3) := by
  rw [pl_round (k + 3) S [] 0 p0 p1 (by decide) (by decide) (by omega) h0 h1 (by simp)]
  by_cases a : (48 ≤ p0 ∧ p0 ≤ 57) ∧ 48 ≤ p1 ∧ p1 ≤ 57
  · rw [if_pos a, show (0 : Int) + 3 = 3 from rfl, pl_round (k + 2) S _ 3 p3 p4 (by decide) (by decide) (by omega) h3 h4 (by simp)]
    by_cases b : (48 ≤ p3 ∧ p3 ≤ 57) ∧ 48 ≤ p4 ∧ p4 ≤ 57
    · rw [if_pos b, show (3 : Int) + 3 = 6 from rfl, pl_round (k + 1) S _ 6 p6 p7 (by decide) (by decide) (by omega) h6 h7 (by simp)]
      by_cases c : (48 ≤ p6 ∧ p6 ≤ 57) ∧ 48 ≤ p7 ∧ p7 ≤ 57
      · rw [if_pos c, if_pos ⟨⟨a, b⟩, c⟩]
        exact pl_done k S _ _ _
      · rw [if_neg c, if_neg (fun h => c h.2)]
    · rw [if_neg b, if_neg (fun h => b h.1.2)]
  · rw [if_neg a, if_neg (fun h => a h.1.1)]
theorem parse_other {s : ByteArray} (h : ¬ ∃ x y z, okB x y z = true ∧ strOfNums (fmtNums x y z) = s) : parseR s = (0, 0, 0, 3) := by
  unfold parseR
  split
  · split
    · rename_i x y z _ _ _
      rw [if_neg (fun e => h ⟨x, y, z, e⟩)]
    · rfl
  · rfl
theorem byte_back {b : UInt8} {v : Int} (h : (b.toNat : Int) = v) : UInt8.ofNat v.toNat = b := by
  rw [← h]
  simp
theorem parse_ref (s : ByteArray) : masterdiscref06_Parse.f 10 s = some (parseR s) := by
  by_cases hx : ∃ x y z, okB x y z = true ∧ strOfNums (fmtNums x y z) = s
  · obtain ⟨x, y, z, hv, rfl⟩ := hx
    have h' := okB_true hv
    have e := parse_fmt hv
    unfold address_Parse.f at e
    rw [if_pos (by rw [nums_size]; simp [fmtNums])] at e
    rw [e]
    have b := fun (j : Nat) (v : Int) => bt_nums (fmtNums x y z) j v
    have b0 := b 0 _ rfl (by omega) (by omega)
    have b1 := b 1 _ rfl (by omega) (by omega)
    have b2 := b 2 _ rfl (by omega) (by omega)
    have b3 := b 3 _ rfl (by omega) (by omega)
    have b4 := b 4 _ rfl (by omega) (by omega)
    have b5 := b 5 _ rfl (by omega) (by omega)
    have b6 := b 6 _ rfl (by omega) (by omega)
    have b7 := b 7 _ rfl (by omega) (by omega)
    clear b
    have hs : (strOfNums (fmtNums x y z)).size = 8 := by rw [nums_size]; rfl
    generalize strOfNums (fmtNums x y z) = S at *
    simp only [Int.cast_ofNat_Int] at b0 b1 b2 b3 b4 b5 b6 b7
    unfold masterdiscref06_Parse.f
    rw [if_pos (by omega), if_pos (by omega), if_pos b2, if_pos (by omega), b5, show (10 : Nat) = 9 + 1 from rfl, masterdiscref06_Parse.j0, if_neg (by decide), show (9 : Nat) = 5 + 4 from rfl, pl_all 5 S _ _ _ _ _ _ hs b0 b1 b3 b4 b6 b7, if_pos (by omega)]
    rw [show 10 * (48 + x / 10 - 48) + (48 + x % 10 - 48) = x by omega, show 10 * (48 + y / 10 - 48) + (48 + y % 10 - 48) = y by omega, show 10 * (48 + z / 10 - 48) + (48 + z % 10 - 48) = z by omega, if_pos hv]
  · rw [parse_other hx]
    unfold masterdiscref06_Parse.f
    have j : masterdiscref06_Parse.j0 10 s true = some (0, 0, 0, 3) := by rw [show (10 : Nat) = 9 + 1 from rfl, masterdiscref06_Parse.j0, if_pos rfl]
    by_cases h8 : (s.size : Int) = 8
    · have hs : s.size = 8 := by omega
      rw [if_pos h8, if_pos (by omega)]
      by_cases c2 : bt s 2 = 58
      · rw [if_pos c2, if_pos (by omega)]
        by_cases c5 : bt s 5 = 58
        · rw [c5, show (10 : Nat) = 9 + 1 from rfl, masterdiscref06_Parse.j0, if_neg (by decide), show (9 : Nat) = 5 + 4 from rfl, pl_all 5 s _ _ _ _ _ _ hs rfl rfl rfl rfl rfl rfl]
          split
          · rename_i D
            rw [if_neg]
            intro hv
            apply hx
            refine ⟨_, _, _, hv, ?_⟩
            obtain ⟨⟨l⟩⟩ := s
            match l, hs with
            | [b0, b1, b2, b3, b4, b5, b6, b7], _ =>
              have e0 : bt ⟨⟨[b0, b1, b2, b3, b4, b5, b6, b7]⟩⟩ 0 = (b0.toNat : Int) := rfl
              have e1 : bt ⟨⟨[b0, b1, b2, b3, b4, b5, b6, b7]⟩⟩ 1 = (b1.toNat : Int) := rfl
              have e2 : bt ⟨⟨[b0, b1, b2, b3, b4, b5, b6, b7]⟩⟩ 2 = (b2.toNat : Int) := rfl
              have e3 : bt ⟨⟨[b0, b1, b2, b3, b4, b5, b6, b7]⟩⟩ 3 = (b3.toNat : Int) := rfl
              have e4 : bt ⟨⟨[b0, b1, b2, b3, b4, b5, b6, b7]⟩⟩ 4 = (b4.toNat : Int) := rfl
              have e5 : bt ⟨⟨[b0, b1, b2, b3, b4, b5, b6, b7]⟩⟩ 5 = (b5.toNat : Int) := rfl
              have e6 : bt ⟨⟨[b0, b1, b2, b3, b4, b5, b6, b7]⟩⟩ 6 = (b6.toNat : Int) := rfl
              have e7 : bt ⟨⟨[b0, b1, b2, b3, b4, b5, b6, b7]⟩⟩ 7 = (b7.toNat : Int) := rfl
              rw [e0, e1, e3, e4, e6, e7] at D
              rw [e2] at c2
              rw [e5] at c5
              rw [e0, e1, e3, e4, e6, e7]
              apply ByteArray.ext
              apply Array.toList_inj.1
              rw [strOfNums_data]
              unfold fmtNums
              simp only [List.map_cons, List.map_nil]
              rw [byte_back (b := b0) (by omega), byte_back (b := b1) (by omega), byte_back (b := b2) (by omega), byte_back (b := b3) (by omega), byte_back (b := b4) (by omega), byte_back (b := b6) (by omega), byte_back (b := b7) (by omega), show b5 = b2 from UInt8.toNat_inj.1 (by omega)]
          · rfl
        · rw [bne_iff_ne.mpr c5]
          exact j
      · rw [if_neg c2]
        exact j
    · rw [if_neg h8]
      exact j
theorem AddressTexts (a b c : Int) (s : ByteArray) (_ : (Lit.int .i64 a).wf = true) (_ : (Lit.int .i64 b).wf = true) (_ : (Lit.int .i64 c).wf = true) (_ : s.size ≤ 140737488351232) : ∃ k, masterdisclaw06_AddressTexts.f k a b c s = some true := by
  refine ⟨10, ?_⟩
  obtain ⟨⟨r1, r2⟩, h1, h2⟩ := format_same a b c
  unfold masterdisclaw06_AddressTexts.f
  rw [awake_f, Option.bind_some, if_pos rfl]
  split
  · rfl
  · have hp : address_Parse.f s = some (parseR s) := by unfold address_Parse.f; rw [if_pos (by omega)]
    rw [h1, Option.bind_some, h2, Option.bind_some, hp, Option.bind_some, parse_ref s, Option.bind_some, if_pos rfl, if_pos rfl, if_pos (by simp)]
    simp
end Go.Proofs.YtlkddpcdgofbjaaDoor.Pure
