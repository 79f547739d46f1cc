/- The plain law of AddressSteps: for any address, the printed law comes to true. -/
import Derived.Test.YtlkddpcdgofbjaaPl
import Derived.Test.YtlkddpcdgofbjaaQ4
namespace Go.Proofs.Ytlkddpcdgofbjaa.Pure.Steps
open Go.RowKit Go.Proofs.Ytlkddpcdgofbjaa.Hand Go.Proofs.Ytlkddpcdgofbjaa.Q Go.Proofs.YtlkddpcdgofbjaaW.PrintWords Go.Proofs.Ytlkddpcdgofbjaa.Pure

theorem move_no {a b c n : Int} (h : okB a b c = false) : address_Move.f a b c n = some (0, 0, 0, 1) := by
  unfold address_Move.f
  rw [valid_f, h]
  rfl

theorem move_far {a b c n : Int} (h : okB a b c = true) (hn : n < -449999 ∨ 449999 < n) : address_Move.f a b c n = some (0, 0, 0, 2) := by
  unfold address_Move.f
  rw [valid_f, h]
  simp only [Option.bind_some, if_true]
  split
  · rfl
  · rw [if_pos (by omega)]

theorem move_in {a b c n : Int} (h : okB a b c = true) (hn : -449999 ≤ n ∧ n ≤ 449999) (hr : 0 ≤ 4500 * a + 75 * b + c + n ∧ 4500 * a + 75 * b + c + n ≤ 449999) :
    address_Move.f a b c n = some ((4500 * a + 75 * b + c + n) / 4500, (4500 * a + 75 * b + c + n) / 75 % 60, (4500 * a + 75 * b + c + n) % 75, 0) := by
  have hk := okB_true h
  unfold address_Move.f
  rw [valid_f, h]
  simp only [Option.bind_some, if_true]
  rw [if_neg (by omega), if_neg (by omega), number_f h]
  simp only [Option.bind_some]
  rw [w64 (by omega) (by omega), numbered_in hr.1 hr.2]
  rfl

theorem move_out {a b c n : Int} (h : okB a b c = true) (hn : -449999 ≤ n ∧ n ≤ 449999) (hr : ¬ (0 ≤ 4500 * a + 75 * b + c + n ∧ 4500 * a + 75 * b + c + n ≤ 449999)) :
    address_Move.f a b c n = some (0, 0, 0, 2) := by
  have hk := okB_true h
  unfold address_Move.f
  rw [valid_f, h]
  simp only [Option.bind_some, if_true]
  rw [if_neg (by omega), if_neg (by omega), number_f h]
  simp only [Option.bind_some]
  rw [w64 (by omega) (by omega), numbered_out (by omega)]
  rfl


/-- Moving to a known valid address. -/
theorem move_to {a b c n x y z : Int} (h : okB a b c = true) (hn : -449999 ≤ n ∧ n ≤ 449999) (hx : okB x y z = true) (he : 4500 * a + 75 * b + c + n = 4500 * x + 75 * y + z) : address_Move.f a b c n = some (x, y, z, 0) := by
  have hk := okB_true hx
  rw [move_in h hn (by omega), he]
  rw [show (4500 * x + 75 * y + z) / 4500 = x by omega, show (4500 * x + 75 * y + z) / 75 % 60 = y by omega, show (4500 * x + 75 * y + z) % 75 = z by omega]

end Go.Proofs.Ytlkddpcdgofbjaa.Pure.Steps
namespace Go.Proofs.Ytlkddpcdgofbjaa.Pure
open Go.RowKit Go.Proofs.Ytlkddpcdgofbjaa.Hand Go.Proofs.Ytlkddpcdgofbjaa.Q Go.Proofs.YtlkddpcdgofbjaaW.PrintWords

theorem AddressSteps (a b c : Int) (_ : (Lit.int .i64 a).wf = true) (_ : (Lit.int .i64 b).wf = true) (_ : (Lit.int .i64 c).wf = true) : ∃ k, masterdisclaw06_AddressSteps.f k a b c = some true := by
  refine ⟨1, ?_⟩
  unfold masterdisclaw06_AddressSteps.f
  rw [awake_f, valid_f]
  simp only [Option.bind_some, if_true]
  cases h : okB a b c
  · rw [Steps.move_no h]
    simp
  · have hk := okB_true h
    simp only [if_true]
    by_cases hc : c = 74
    · subst hc
      rw [w64 (x := 74 + 1) (by omega) (by omega), w64 (x := b + 1) (by omega) (by omega)]
      simp only [show (74 : Int) + 1 = 75 from rfl, if_true]
      by_cases hb : b = 59
      · subst hb
        by_cases ha : a = 99
        · subst ha
          rw [Steps.move_out h (by omega) (by omega)]
          simp only [Option.bind_some, masterdisclaw06_AddressSteps.j0]
          rw [if_pos (by omega), w64 (by omega) (by omega), if_pos (by omega)]
          simp
        · rw [Steps.move_to (x := a + 1) (y := 0) (z := 0) h (by omega) (ok_mk (by omega)) (by omega)]
          simp only [Option.bind_some, masterdisclaw06_AddressSteps.j0]
          rw [if_pos (by omega), w64 (by omega) (by omega), if_neg (by omega), Steps.move_to (x := a) (y := 59) (z := 74) (ok_mk (by omega)) (by omega) h (by omega)]
          simp
      · rw [Steps.move_to (x := a) (y := b + 1) (z := 0) h (by omega) (ok_mk (by omega)) (by omega)]
        simp only [Option.bind_some, masterdisclaw06_AddressSteps.j0]
        rw [if_neg (by omega), if_neg (by omega), Steps.move_to (x := a) (y := b) (z := 74) (ok_mk (by omega)) (by omega) h (by omega)]
        simp
    · rw [w64 (x := c + 1) (by omega) (by omega)]
      simp only [if_neg (show ¬ (c + 1 = 75) by omega)]
      rw [Steps.move_to (x := a) (y := b) (z := c + 1) h (by omega) (ok_mk (by omega)) (by omega)]
      simp only [Option.bind_some, masterdisclaw06_AddressSteps.j0]
      rw [if_neg (by omega), if_neg (by omega), Steps.move_to (x := a) (y := b) (z := c) (ok_mk (by omega)) (by omega) h (by omega)]
      simp
end Go.Proofs.Ytlkddpcdgofbjaa.Pure
