/- Plain laws of the printed functions of the package address (the part without its reference): what each comes to. -/
import Derived.Test.YtlkddpcdgofbjaaDoorQ3
namespace Go.Proofs.YtlkddpcdgofbjaaDoor.Pure
open Go.RowKit Go.Proofs.YtlkddpcdgofbjaaDoor.Hand Go.Proofs.YtlkddpcdgofbjaaDoor.Q Go.Proofs.YtlkddpcdgofbjaaDoorW.PrintWords

theorem wf64 {a : Int} (h : (Lit.int .i64 a).wf = true) : -9223372036854775808 ≤ a ∧ a ≤ 9223372036854775807 := by
  simp [Lit.wf, IntKind.min, IntKind.max, IntKind.bits, IntKind.signed] at h
  omega

theorem w64 {x : Int} (h0 : -9223372036854775808 ≤ x) (h1 : x ≤ 9223372036854775807) : wrap64 x = x := by
  unfold wrap64
  omega

theorem valid_f (a b c : Int) : address_Valid.f a b c = some (okB a b c) := rfl

theorem ok_mk {a b c : Int} (h : 0 ≤ a ∧ a < 100 ∧ 0 ≤ b ∧ b < 60 ∧ 0 ≤ c ∧ c < 75) : okB a b c = true := decide_eq_true h

theorem number_f {a b c : Int} (h : okB a b c = true) : address_number.f a b c = some (4500 * a + 75 * b + c) := by
  have := okB_true h
  unfold address_number.f
  rw [w64 (x := 60 * a) (by omega) (by omega), w64 (x := 60 * a + b) (by omega) (by omega), w64 (x := (60 * a + b) * 75) (by omega) (by omega), w64 (by omega) (by omega)]
  congr 1
  omega

theorem tdiv_eq {x y : Int} (h : 0 ≤ x) : Int.tdiv x y = x / y := Int.tdiv_eq_ediv_of_nonneg h
theorem tmod_eq {x y : Int} (h : 0 ≤ x) : Int.tmod x y = x % y := Int.tmod_eq_emod_of_nonneg h

theorem numbered_in {n : Int} (h0 : 0 ≤ n) (h1 : n ≤ 449999) : address_numbered.f n = some (n / 4500, n / 75 % 60, n % 75, true) := by
  unfold address_numbered.f
  rw [if_neg (by omega), if_neg (by omega), tdiv_eq h0, w64 (x := n / 75) (by omega) (by omega), tdiv_eq (by omega), w64 (by omega) (by omega), tmod_eq (by omega), tmod_eq h0]
  congr 2
  omega

theorem numbered_out {n : Int} (h : n < 0 ∨ 449999 < n) : address_numbered.f n = some (0, 0, 0, false) := by
  unfold address_numbered.f
  split
  · rfl
  · rw [if_pos (by omega)]

theorem tomsf_in {l : Int} (h0 : -150 ≤ l) (h1 : l ≤ 449849) : address_ToMSF.f l = some ((l + 150) / 4500, (l + 150) / 75 % 60, (l + 150) % 75, 0) := by
  unfold address_ToMSF.f
  rw [if_neg (by omega), w64 (by omega) (by omega), numbered_in (by omega) (by omega)]
  simp only [Option.bind_some, if_true]

theorem tomsf_out {l : Int} (hl : -9223372036854775808 ≤ l) (h : l < -150 ∨ 449849 < l) : address_ToMSF.f l = some (0, 0, 0, 2) := by
  unfold address_ToMSF.f
  by_cases h1 : l > 449849
  · rw [if_pos h1]
  · rw [if_neg h1, w64 (by omega) (by omega), numbered_out (by omega)]
    simp only [Option.bind_some, Bool.false_eq_true, if_false]

theorem tolba_yes {a b c : Int} (h : okB a b c = true) : address_ToLBA.f a b c = some (4500 * a + 75 * b + c - 150, 0) := by
  have := okB_true h
  unfold address_ToLBA.f
  rw [valid_f, h]
  simp only [Option.bind_some, if_true]
  rw [number_f h]
  simp only [Option.bind_some]
  rw [w64 (by omega) (by omega)]

theorem tolba_no {a b c : Int} (h : okB a b c = false) : address_ToLBA.f a b c = some (0, 1) := by
  unfold address_ToLBA.f
  rw [valid_f, h]
  rfl

theorem awake_f : masterdisclaw06_awake.f = some true := by
  unfold masterdisclaw06_awake.f
  rw [tolba_yes (by decide), tomsf_in (by omega) (by omega), tomsf_in (by omega) (by omega)]
  decide +kernel
theorem move_no {a b c n : Int} (h : okB a b c = false) : address_Move.f a b c n = some (0, 0, 0, 1) := by
  unfold address_Move.f
  rw [valid_f, h]
  rfl

theorem move_far {a b c n : Int} (h : okB a b c = true) (hn : n < -449999 ∨ 449999 < n) : address_Move.f a b c n = some (0, 0, 0, 2) := by
  unfold address_Move.f
  rw [valid_f, h]
  simp only [Option.bind_some, if_true]
  split
  · rfl
  · rw [if_pos (by omega)]

theorem move_in {a b c n : Int} (h : okB a b c = true) (hn : -449999 ≤ n ∧ n ≤ 449999) (hr : 0 ≤ 4500 * a + 75 * b + c + n ∧ 4500 * a + 75 * b + c + n ≤ 449999) :
    address_Move.f a b c n = some ((4500 * a + 75 * b + c + n) / 4500, (4500 * a + 75 * b + c + n) / 75 % 60, (4500 * a + 75 * b + c + n) % 75, 0) := by
  have hk := okB_true h
  unfold address_Move.f
  rw [valid_f, h]
  simp only [Option.bind_some, if_true]
  rw [if_neg (by omega), if_neg (by omega), number_f h]
  simp only [Option.bind_some]
  rw [w64 (by omega) (by omega), numbered_in hr.1 hr.2]
  rfl

theorem move_out {a b c n : Int} (h : okB a b c = true) (hn : -449999 ≤ n ∧ n ≤ 449999) (hr : ¬ (0 ≤ 4500 * a + 75 * b + c + n ∧ 4500 * a + 75 * b + c + n ≤ 449999)) :
    address_Move.f a b c n = some (0, 0, 0, 2) := by
  have hk := okB_true h
  unfold address_Move.f
  rw [valid_f, h]
  simp only [Option.bind_some, if_true]
  rw [if_neg (by omega), if_neg (by omega), number_f h]
  simp only [Option.bind_some]
  rw [w64 (by omega) (by omega), numbered_out (by omega)]
  rfl

/-- Moving to a known valid address. -/
theorem move_to {a b c n x y z : Int} (h : okB a b c = true) (hn : -449999 ≤ n ∧ n ≤ 449999) (hx : okB x y z = true) (he : 4500 * a + 75 * b + c + n = 4500 * x + 75 * y + z) : address_Move.f a b c n = some (x, y, z, 0) := by
  have hk := okB_true hx
  rw [move_in h hn (by omega), he]
  rw [show (4500 * x + 75 * y + z) / 4500 = x by omega, show (4500 * x + 75 * y + z) / 75 % 60 = y by omega, show (4500 * x + 75 * y + z) % 75 = z by omega]

theorem dist_f (k : Nat) (a b c d e f : Int) : address_Distance.f (k + 1) a b c d e f = some (if okB a b c = true ∧ okB d e f = true then (4500 * d + 75 * e + f - (4500 * a + 75 * b + c), 0) else (0, 1)) := by
  unfold address_Distance.f
  rw [valid_f, valid_f]
  simp only [Option.bind_some]
  cases h : okB a b c
  · simp [address_Distance.j0]
  · cases h2 : okB d e f
    · simp [address_Distance.j0]
    · have hk := okB_true h
      have hl := okB_true h2
      simp only [address_Distance.j0, if_true, Bool.not_true, Bool.false_eq_true, if_false, and_self]
      rw [number_f h, number_f h2]
      simp only [Option.bind_some]
      rw [w64 (by omega) (by omega)]

end Go.Proofs.YtlkddpcdgofbjaaDoor.Pure
