/- Plain laws of the package address: what each function comes to; a text that Format gives is parsed as its address. -/
import Derived.Test.YtlkddpcdgofbjaaDoorPar
import Derived.Test.YtlkddpcdgofbjaaDoorDec
import Derived.Test.YtlkddpcdgofbjaaDoorU2
namespace Go.Proofs.YtlkddpcdgofbjaaDoor.Pure
open Go.RowKit Go.Proofs.YtlkddpcdgofbjaaDoor.Hand Go.Proofs.YtlkddpcdgofbjaaDoor.U Go.Proofs.YtlkddpcdgofbjaaDoorW.PrintWords
set_option linter.unusedSimpArgs false
set_option linter.unusedVariables false

theorem wf64 {a : Int} (h : (Lit.int .i64 a).wf = true) : -9223372036854775808 ≤ a ∧ a ≤ 9223372036854775807 := by
  simp [Lit.wf, IntKind.min, IntKind.max, IntKind.bits, IntKind.signed] at h
  omega

theorem w64 {x : Int} (h0 : -9223372036854775808 ≤ x) (h1 : x ≤ 9223372036854775807) : wrap64 x = x := by
  unfold wrap64
  omega

theorem valid_f (a b c : Int) : address_Valid.f a b c = some (okB a b c) := rfl

theorem ok_mk {a b c : Int} (h : 0 ≤ a ∧ a < 100 ∧ 0 ≤ b ∧ b < 60 ∧ 0 ≤ c ∧ c < 75) : okB a b c = true := decide_eq_true h

theorem number_f {a b c : Int} (h : okB a b c = true) : address_number.f a b c = some (4500 * a + 75 * b + c) := by
  have := okB_true h
  unfold address_number.f
  rw [w64 (x := 60 * a) (by omega) (by omega), w64 (x := 60 * a + b) (by omega) (by omega), w64 (x := (60 * a + b) * 75) (by omega) (by omega), w64 (by omega) (by omega)]
  congr 1
  omega

theorem tdiv_eq {x y : Int} (h : 0 ≤ x) : Int.tdiv x y = x / y := Int.tdiv_eq_ediv_of_nonneg h
theorem tmod_eq {x y : Int} (h : 0 ≤ x) : Int.tmod x y = x % y := Int.tmod_eq_emod_of_nonneg h

theorem numbered_in {n : Int} (h0 : 0 ≤ n) (h1 : n ≤ 449999) : address_numbered.f n = some (n / 4500, n / 75 % 60, n % 75, true) := by
  unfold address_numbered.f
  rw [if_neg (by omega), if_neg (by omega), tdiv_eq h0, w64 (x := n / 75) (by omega) (by omega), tdiv_eq (by omega), w64 (by omega) (by omega), tmod_eq (by omega), tmod_eq h0]
  congr 2
  omega

theorem numbered_out {n : Int} (h : n < 0 ∨ 449999 < n) : address_numbered.f n = some (0, 0, 0, false) := by
  unfold address_numbered.f
  split
  · rfl
  · rw [if_pos (by omega)]

theorem tomsf_in {l : Int} (h0 : -150 ≤ l) (h1 : l ≤ 449849) : address_ToMSF.f l = some ((l + 150) / 4500, (l + 150) / 75 % 60, (l + 150) % 75, 0) := by
  unfold address_ToMSF.f
  rw [if_neg (by omega), w64 (by omega) (by omega), numbered_in (by omega) (by omega)]
  simp only [Option.bind_some, if_true]

theorem tomsf_out {l : Int} (hl : -9223372036854775808 ≤ l) (h : l < -150 ∨ 449849 < l) : address_ToMSF.f l = some (0, 0, 0, 2) := by
  unfold address_ToMSF.f
  by_cases h1 : l > 449849
  · rw [if_pos h1]
  · rw [if_neg h1, w64 (by omega) (by omega), numbered_out (by omega)]
    simp only [Option.bind_some, Bool.false_eq_true, if_false]

theorem tolba_yes {a b c : Int} (h : okB a b c = true) : address_ToLBA.f a b c = some (4500 * a + 75 * b + c - 150, 0) := by
  have := okB_true h
  unfold address_ToLBA.f
  rw [valid_f, h]
  simp only [Option.bind_some, if_true]
  rw [number_f h]
  simp only [Option.bind_some]
  rw [w64 (by omega) (by omega)]

theorem tolba_no {a b c : Int} (h : okB a b c = false) : address_ToLBA.f a b c = some (0, 1) := by
  unfold address_ToLBA.f
  rw [valid_f, h]
  rfl

theorem awake_f : masterdisclaw06_awake.f = some true := by
  unfold masterdisclaw06_awake.f
  rw [tolba_yes (by decide), tomsf_in (by omega) (by omega), tomsf_in (by omega) (by omega)]
  decide +kernel
theorem list_words {u0 u1 u2 u3 u4 u5 : UInt8} (h0 : u0 ≠ 58) (h1 : u1 ≠ 58) (h2 : u2 ≠ 58) (h3 : u3 ≠ 58) (h4 : u4 ≠ 58) (h5 : u5 ≠ 58) :
    Lib.count [u0, u1, 58, u2, u3, 58, u4, u5] [58] = 2 ∧ Lib.splitK [58] 0 2 [u0, u1, 58, u2, u3, 58, u4, u5] = [[u0, u1], [u2, u3], [u4, u5]] := by
  have e0 := h0.symm
  have e1 := h1.symm
  have e2 := h2.symm
  have e3 := h3.symm
  have e4 := h4.symm
  have e5 := h5.symm
  constructor
  · simp [Lib.count, Lib.countFrom, Lib.index, List.isPrefixOf, e0, e1, e2, e3, e4, e5]
  · simp [Lib.splitK, Lib.index, List.isPrefixOf, e0, e1, e2, e3, e4, e5]
theorem map_inj : ∀ {l m : List ByteArray}, l.map (·.data.toList) = m.map (·.data.toList) → l = m
  | [], [], _ => rfl
  | [], _ :: _, h => by simp at h
  | _ :: _, [], h => by simp at h
  | x :: l, y :: m, h => by
    simp only [List.map_cons, List.cons.injEq] at h
    have e : x = y := ByteArray.ext (Array.toList_inj.1 h.1)
    rw [e, map_inj h.2]
theorem not_colon {x : Int} (h0 : 48 ≤ x) (h1 : x ≤ 57) : UInt8.ofNat x.toNat ≠ 58 := fun e => by
  have := congrArg UInt8.toNat e
  rw [UInt8.toNat_ofNat'] at this
  have k : (58 : UInt8).toNat = 58 := rfl
  omega
theorem words_fmt {a b c : Int} (h : okB a b c = true) : words (strOfNums (fmtNums a b c)) = [strOfNums [48 + a / 10, 48 + a % 10], strOfNums [48 + b / 10, 48 + b % 10], strOfNums [48 + c / 10, 48 + c % 10]] := by
  have h' := okB_true h
  have e : (strOfNums (fmtNums a b c)).data.toList = [UInt8.ofNat (48 + a / 10).toNat, UInt8.ofNat (48 + a % 10).toNat, 58, UInt8.ofNat (48 + b / 10).toNat, UInt8.ofNat (48 + b % 10).toNat, 58, UInt8.ofNat (48 + c / 10).toNat, UInt8.ofNat (48 + c % 10).toNat] := by
    rw [strOfNums_data]
    rfl
  obtain ⟨p, q⟩ := list_words (not_colon (x := 48 + a / 10) (by omega) (by omega)) (not_colon (x := 48 + a % 10) (by omega) (by omega)) (not_colon (x := 48 + b / 10) (by omega) (by omega)) (not_colon (x := 48 + b % 10) (by omega) (by omega)) (not_colon (x := 48 + c / 10) (by omega) (by omega)) (not_colon (x := 48 + c % 10) (by omega) (by omega))
  rw [← e] at p q
  apply map_inj
  unfold words
  rw [Lib.splitB_data, show Lib.countB (strOfNums (fmtNums a b c)) ⟨#[58]⟩ = 2 from p]
  refine q.trans ?_
  simp only [List.map_cons, List.map_nil, strOfNums_data]
theorem atoi_all : ∀ m : Fin 100, atoiR (strOfNums [48 + (m.val : Int) / 10, 48 + (m.val : Int) % 10]) = some (m.val : Int) := by decide +kernel
theorem atoi_two {x : Int} (h0 : 0 ≤ x) (h1 : x < 100) : atoiR (strOfNums [48 + x / 10, 48 + x % 10]) = some x := by
  obtain ⟨n, rfl⟩ := Int.eq_ofNat_of_zero_le h0
  exact atoi_all ⟨n, by omega⟩
theorem nums_size (l : List Int) : (strOfNums l).size = l.length := by
  show (strOfNums l).data.size = _
  rw [← Array.length_toList, strOfNums_data, List.length_map]
theorem parse_fmt {a b c : Int} (h : okB a b c = true) : address_Parse.f (strOfNums (fmtNums a b c)) = some (a, b, c, 0) := by
  have h' := okB_true h
  unfold address_Parse.f
  rw [if_pos (by rw [nums_size]; simp [fmtNums])]
  unfold parseR
  rw [words_fmt h]
  simp only
  rw [atoi_two (x := a) (by omega) (by omega), atoi_two (x := b) (by omega) (by omega), atoi_two (x := c) (by omega) (by omega)]
  simp only [h, and_self, if_true]
end Go.Proofs.YtlkddpcdgofbjaaDoor.Pure
