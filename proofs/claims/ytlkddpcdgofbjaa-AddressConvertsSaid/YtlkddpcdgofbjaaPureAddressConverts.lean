/- The plain law of AddressConverts: for any address and number, the printed law comes to true. -/
import Derived.Test.YtlkddpcdgofbjaaPl
import Derived.Test.YtlkddpcdgofbjaaQ3
namespace Go.Proofs.Ytlkddpcdgofbjaa.Pure
open Go.RowKit Go.Proofs.Ytlkddpcdgofbjaa.Hand Go.Proofs.Ytlkddpcdgofbjaa.Q Go.Proofs.YtlkddpcdgofbjaaW.PrintWords

theorem AddressConverts (a b c l : Int) (_ : (Lit.int .i64 a).wf = true) (_ : (Lit.int .i64 b).wf = true) (_ : (Lit.int .i64 c).wf = true) (hl : (Lit.int .i64 l).wf = true) : masterdisclaw06_AddressConverts.f a b c l = some true := by
  have hl := wf64 hl
  unfold masterdisclaw06_AddressConverts.f
  rw [awake_f, rtolba_eq, valid_f, rvalid_f]
  simp only [Option.bind_some, if_true]
  have h1 : ∃ r, address_ToLBA.f a b c = some r := by
    cases h : okB a b c
    · exact ⟨_, tolba_no h⟩
    · exact ⟨_, tolba_yes h⟩
  obtain ⟨r, hr⟩ := h1
  rw [hr]
  by_cases h2 : -150 ≤ l ∧ l ≤ 449849
  · rw [tomsf_in h2.1 h2.2, rtomsf_in h2.1 h2.2]
    simp
  · rw [tomsf_out hl.1 (by omega), rtomsf_out (by omega)]
    simp
end Go.Proofs.Ytlkddpcdgofbjaa.Pure
