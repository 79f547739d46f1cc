/- The plain law of AddressMoves: for any addresses and number, the printed law comes to true. -/
import Derived.Test.YtlkddpcdgofbjaaPl
import Derived.Test.YtlkddpcdgofbjaaQ5
namespace Go.Proofs.Ytlkddpcdgofbjaa.Pure
open Go.RowKit Go.Proofs.Ytlkddpcdgofbjaa.Hand Go.Proofs.Ytlkddpcdgofbjaa.Q Go.Proofs.YtlkddpcdgofbjaaW.PrintWords

theorem move_no {a b c n : Int} (h : okB a b c = false) : address_Move.f a b c n = some (0, 0, 0, 1) := by
  unfold address_Move.f
  rw [valid_f, h]
  rfl

theorem move_far {a b c n : Int} (h : okB a b c = true) (hn : n < -449999 ∨ 449999 < n) : address_Move.f a b c n = some (0, 0, 0, 2) := by
  unfold address_Move.f
  rw [valid_f, h]
  simp only [Option.bind_some, if_true]
  split
  · rfl
  · rw [if_pos (by omega)]

theorem move_in {a b c n : Int} (h : okB a b c = true) (hn : -449999 ≤ n ∧ n ≤ 449999) (hr : 0 ≤ 4500 * a + 75 * b + c + n ∧ 4500 * a + 75 * b + c + n ≤ 449999) :
    address_Move.f a b c n = some ((4500 * a + 75 * b + c + n) / 4500, (4500 * a + 75 * b + c + n) / 75 % 60, (4500 * a + 75 * b + c + n) % 75, 0) := by
  have hk := okB_true h
  unfold address_Move.f
  rw [valid_f, h]
  simp only [Option.bind_some, if_true]
  rw [if_neg (by omega), if_neg (by omega), number_f h]
  simp only [Option.bind_some]
  rw [w64 (by omega) (by omega), numbered_in hr.1 hr.2]
  rfl

theorem move_out {a b c n : Int} (h : okB a b c = true) (hn : -449999 ≤ n ∧ n ≤ 449999) (hr : ¬ (0 ≤ 4500 * a + 75 * b + c + n ∧ 4500 * a + 75 * b + c + n ≤ 449999)) :
    address_Move.f a b c n = some (0, 0, 0, 2) := by
  have hk := okB_true h
  unfold address_Move.f
  rw [valid_f, h]
  simp only [Option.bind_some, if_true]
  rw [if_neg (by omega), if_neg (by omega), number_f h]
  simp only [Option.bind_some]
  rw [w64 (by omega) (by omega), numbered_out (by omega)]
  rfl

theorem rmove_eq (k : Nat) {a b c n : Int} (hn : -9223372036854775808 ≤ n ∧ n ≤ 9223372036854775807) : masterdiscref06_Move.f (k + 1) a b c n = address_Move.f a b c n := by
  cases h : okB a b c
  · rw [move_no h]
    unfold masterdiscref06_Move.f
    rw [rvalid_f, h]
    rfl
  · have hk := okB_true h
    by_cases h1 : n < -450000 ∨ 450000 < n
    · rw [move_far h (by omega)]
      unfold masterdiscref06_Move.f
      rw [rvalid_f, h]
      simp only [Option.bind_some, if_true]
      split
      · simp only [masterdiscref06_Move.j0, if_true]
      · rw [decide_eq_true (by omega)]
        simp only [masterdiscref06_Move.j0, if_true]
    · have hz : masterdiscref06_Move.f (k + 1) a b c n = masterdiscref06_ToMSF.f (4500 * a + 75 * b + c - 150 + n) := by
        unfold masterdiscref06_Move.f
        rw [rvalid_f, h]
        simp only [Option.bind_some, if_true]
        rw [if_neg (by omega), decide_eq_false (by omega)]
        simp only [masterdiscref06_Move.j0, Bool.false_eq_true, if_false]
        rw [rnumber_f h]
        simp only [Option.bind_some]
        rw [w64 (x := 4500 * a + 75 * b + c - 150) (by omega) (by omega), w64 (by omega) (by omega)]
        cases masterdiscref06_ToMSF.f (4500 * a + 75 * b + c - 150 + n) <;> rfl
      rw [hz]
      by_cases hr : 0 ≤ 4500 * a + 75 * b + c + n ∧ 4500 * a + 75 * b + c + n ≤ 449999
      · rw [move_in h (by omega) hr, rtomsf_in (by omega) (by omega)]
        rw [show 4500 * a + 75 * b + c - 150 + n + 150 = 4500 * a + 75 * b + c + n by omega]
      · rw [rtomsf_out (by omega)]
        by_cases hf : n < -449999 ∨ 449999 < n
        · rw [move_far h hf]
        · rw [move_out h (by omega) hr]

theorem dist_f (k : Nat) (a b c d e f : Int) : address_Distance.f (k + 1) a b c d e f = some (if okB a b c = true ∧ okB d e f = true then (4500 * d + 75 * e + f - (4500 * a + 75 * b + c), 0) else (0, 1)) := by
  unfold address_Distance.f
  rw [valid_f, valid_f]
  simp only [Option.bind_some]
  cases h : okB a b c
  · simp [address_Distance.j0]
  · cases h2 : okB d e f
    · simp [address_Distance.j0]
    · have hk := okB_true h
      have hl := okB_true h2
      simp only [address_Distance.j0, if_true, Bool.not_true, Bool.false_eq_true, if_false, and_self]
      rw [number_f h, number_f h2]
      simp only [Option.bind_some]
      rw [w64 (by omega) (by omega)]

theorem rdist_eq (k : Nat) (a b c d e f : Int) : masterdiscref06_Distance.f (k + 1) a b c d e f = address_Distance.f (k + 1) a b c d e f := by
  unfold masterdiscref06_Distance.f address_Distance.f
  rw [rvalid_f, rvalid_f, valid_f, valid_f]
  rfl

theorem AddressMoves (a b c d e f n : Int) (_ : (Lit.int .i64 a).wf = true) (_ : (Lit.int .i64 b).wf = true) (_ : (Lit.int .i64 c).wf = true) (_ : (Lit.int .i64 d).wf = true) (_ : (Lit.int .i64 e).wf = true) (_ : (Lit.int .i64 f).wf = true) (hn : (Lit.int .i64 n).wf = true) : ∃ k, masterdisclaw06_AddressMoves.f k a b c d e f n = some true := by
  have hn := wf64 hn
  refine ⟨1, ?_⟩
  unfold masterdisclaw06_AddressMoves.f
  rw [awake_f, rmove_eq 0 hn, rdist_eq 0, dist_f]
  simp only [Option.bind_some, if_true]
  have h1 : ∃ r, address_Move.f a b c n = some r := by
    cases h : okB a b c
    · exact ⟨_, move_no h⟩
    · by_cases hf : n < -449999 ∨ 449999 < n
      · exact ⟨_, move_far h hf⟩
      · by_cases hr : 0 ≤ 4500 * a + 75 * b + c + n ∧ 4500 * a + 75 * b + c + n ≤ 449999
        · exact ⟨_, move_in h (by omega) hr⟩
        · exact ⟨_, move_out h (by omega) hr⟩
  obtain ⟨r, hr⟩ := h1
  rw [hr]
  simp
end Go.Proofs.Ytlkddpcdgofbjaa.Pure
