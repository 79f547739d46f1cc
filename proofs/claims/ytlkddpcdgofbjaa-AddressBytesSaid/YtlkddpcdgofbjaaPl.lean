/- Plain laws of the printed functions of the package address and of its reference: what each comes to. -/
import Derived.Test.YtlkddpcdgofbjaaQ2
namespace Go.Proofs.Ytlkddpcdgofbjaa.Pure
open Go.RowKit Go.Proofs.Ytlkddpcdgofbjaa.Hand Go.Proofs.Ytlkddpcdgofbjaa.Q Go.Proofs.YtlkddpcdgofbjaaW.PrintWords

theorem wf64 {a : Int} (h : (Lit.int .i64 a).wf = true) : -9223372036854775808 ≤ a ∧ a ≤ 9223372036854775807 := by
  simp [Lit.wf, IntKind.min, IntKind.max, IntKind.bits, IntKind.signed] at h
  omega

theorem w64 {x : Int} (h0 : -9223372036854775808 ≤ x) (h1 : x ≤ 9223372036854775807) : wrap64 x = x := by
  unfold wrap64
  omega

theorem valid_f (a b c : Int) : address_Valid.f a b c = some (okB a b c) := rfl

theorem ok_mk {a b c : Int} (h : 0 ≤ a ∧ a < 100 ∧ 0 ≤ b ∧ b < 60 ∧ 0 ≤ c ∧ c < 75) : okB a b c = true := decide_eq_true h

theorem rvalid_f (a b c : Int) : masterdiscref06_Valid.f a b c = some (okB a b c) := by
  unfold masterdiscref06_Valid.f okB
  split
  · split
    · split
      · split
        · split
          · congr 1
            rw [Bool.eq_iff_iff, decide_eq_true_eq, decide_eq_true_eq]
            omega
          · congr 1
            exact (decide_eq_false (by omega)).symm
        · congr 1
          exact (decide_eq_false (by omega)).symm
      · congr 1
        exact (decide_eq_false (by omega)).symm
    · congr 1
      exact (decide_eq_false (by omega)).symm
  · congr 1
    exact (decide_eq_false (by omega)).symm

theorem number_f {a b c : Int} (h : okB a b c = true) : address_number.f a b c = some (4500 * a + 75 * b + c) := by
  have := okB_true h
  unfold address_number.f
  rw [w64 (x := 60 * a) (by omega) (by omega), w64 (x := 60 * a + b) (by omega) (by omega), w64 (x := (60 * a + b) * 75) (by omega) (by omega), w64 (by omega) (by omega)]
  congr 1
  omega

theorem rnumber_f {a b c : Int} (h : okB a b c = true) : masterdiscref06_number.f a b c = some (4500 * a + 75 * b + c) := number_f h

theorem tdiv_eq {x y : Int} (h : 0 ≤ x) : Int.tdiv x y = x / y := Int.tdiv_eq_ediv_of_nonneg h
theorem tmod_eq {x y : Int} (h : 0 ≤ x) : Int.tmod x y = x % y := Int.tmod_eq_emod_of_nonneg h

theorem numbered_in {n : Int} (h0 : 0 ≤ n) (h1 : n ≤ 449999) : address_numbered.f n = some (n / 4500, n / 75 % 60, n % 75, true) := by
  unfold address_numbered.f
  rw [if_neg (by omega), if_neg (by omega), tdiv_eq h0, w64 (x := n / 75) (by omega) (by omega), tdiv_eq (by omega), w64 (by omega) (by omega), tmod_eq (by omega), tmod_eq h0]
  congr 2
  omega

theorem numbered_out {n : Int} (h : n < 0 ∨ 449999 < n) : address_numbered.f n = some (0, 0, 0, false) := by
  unfold address_numbered.f
  split
  · rfl
  · rw [if_pos (by omega)]

theorem tomsf_in {l : Int} (h0 : -150 ≤ l) (h1 : l ≤ 449849) : address_ToMSF.f l = some ((l + 150) / 4500, (l + 150) / 75 % 60, (l + 150) % 75, 0) := by
  unfold address_ToMSF.f
  rw [if_neg (by omega), w64 (by omega) (by omega), numbered_in (by omega) (by omega)]
  simp only [Option.bind_some, if_true]

theorem tomsf_out {l : Int} (hl : -9223372036854775808 ≤ l) (h : l < -150 ∨ 449849 < l) : address_ToMSF.f l = some (0, 0, 0, 2) := by
  unfold address_ToMSF.f
  by_cases h1 : l > 449849
  · rw [if_pos h1]
  · rw [if_neg h1, w64 (by omega) (by omega), numbered_out (by omega)]
    simp only [Option.bind_some, Bool.false_eq_true, if_false]

theorem rtomsf_in {l : Int} (h0 : -150 ≤ l) (h1 : l ≤ 449849) : masterdiscref06_ToMSF.f l = some ((l + 150) / 4500, (l + 150) / 75 % 60, (l + 150) % 75, 0) := by
  unfold masterdiscref06_ToMSF.f
  rw [if_neg (by omega), if_neg (by omega), w64 (x := l + 150) (by omega) (by omega)]
  rw [tdiv_eq (x := l + 150) (y := 4500) (by omega), tdiv_eq (x := l + 150) (y := 75) (by omega), w64 (x := (l + 150) / 4500) (by omega) (by omega), w64 (x := (l + 150) / 75) (by omega) (by omega), tmod_eq (x := (l + 150) / 75) (by omega), tmod_eq (x := l + 150) (by omega)]

theorem rtomsf_out {l : Int} (h : l < -150 ∨ 449849 < l) : masterdiscref06_ToMSF.f l = some (0, 0, 0, 2) := by
  unfold masterdiscref06_ToMSF.f
  split
  · rfl
  · rw [if_pos (by omega)]

theorem tolba_yes {a b c : Int} (h : okB a b c = true) : address_ToLBA.f a b c = some (4500 * a + 75 * b + c - 150, 0) := by
  have := okB_true h
  unfold address_ToLBA.f
  rw [valid_f, h]
  simp only [Option.bind_some, if_true]
  rw [number_f h]
  simp only [Option.bind_some]
  rw [w64 (by omega) (by omega)]

theorem tolba_no {a b c : Int} (h : okB a b c = false) : address_ToLBA.f a b c = some (0, 1) := by
  unfold address_ToLBA.f
  rw [valid_f, h]
  rfl

theorem rtolba_eq (a b c : Int) : masterdiscref06_ToLBA.f a b c = address_ToLBA.f a b c := by
  unfold masterdiscref06_ToLBA.f address_ToLBA.f
  rw [rvalid_f, valid_f]
  rfl

theorem awake_f : masterdisclaw06_awake.f = some true := by
  unfold masterdisclaw06_awake.f
  rw [tolba_yes (by decide), tomsf_in (by omega) (by omega), tomsf_in (by omega) (by omega)]
  decide +kernel
end Go.Proofs.Ytlkddpcdgofbjaa.Pure
