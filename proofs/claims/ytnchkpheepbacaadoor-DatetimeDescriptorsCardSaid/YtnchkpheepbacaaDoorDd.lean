/- The contract of the reference's Valid, walked by hand: a region of open order that reads and calls quietly, one walk for each first test that says no. -/
import Derived.Test.YtnchkpheepbacaaDoorDd1
import Derived.Test.YtnchkpheepbacaaDoorDd2
import Derived.Test.YtnchkpheepbacaaDoorDd3
import Derived.Test.YtnchkpheepbacaaDoorDd4
namespace Go.Proofs.YtnchkpheepbacaaDoor.Hand
open Go.RowKit Go.Proofs.YtnchkpheepbacaaDoorW.PrintWords
set_option linter.unusedVariables false

def masterdiscref16_Valid.f (y m d h mi s : Int) : Option Bool := some (okC y m d h mi s)
theorem masterdiscref16_Valid.calls (y m d h mi s : Int) (r : Bool) (w : World) (e : masterdiscref16_Valid.f y m d h mi s = some r) :
    Calls Tryd.prog 40 #[.agg #[.int .i64 y, .int .i64 m, .int .i64 d, .int .i64 h, .int .i64 mi, .int .i64 s]] w fun e w' => e = .returned (.bool r) ∧ Below w.heap.size w w' := by
  obtain rfl := Option.some.inj e
  clear e
  obtain ⟨k, hk⟩ : ∃ k, dim y m = k := ⟨_, rfl⟩
  have ok : okC y m d h mi s = decide (1900 ≤ y ∧ y ≤ 2155 ∧ 1 ≤ m ∧ m ≤ 12 ∧ 1 ≤ d ∧ d ≤ k ∧ 0 ≤ h ∧ h ≤ 23 ∧ 0 ≤ mi ∧ mi ≤ 59 ∧ 0 ≤ s ∧ s ≤ 59) := by rw [← hk]; rfl
  rw [ok]
  by_cases a0 : 1900 ≤ y
  case neg => rw [decide_eq_false (by omega)]; exact rvalid_0 y m d h mi s k w  a0
  by_cases a1 : y ≤ 2155
  case neg => rw [decide_eq_false (by omega)]; exact rvalid_1 y m d h mi s k w a0 a1
  by_cases a2 : 1 ≤ m
  case neg => rw [decide_eq_false (by omega)]; exact rvalid_2 y m d h mi s k w a0 a1 a2
  by_cases a3 : m ≤ 12
  case neg => rw [decide_eq_false (by omega)]; exact rvalid_3 y m d h mi s k w a0 a1 a2 a3
  by_cases a4 : 1 ≤ d
  case neg => rw [decide_eq_false (by omega)]; exact rvalid_4 y m d h mi s k w a0 a1 a2 a3 a4
  by_cases a5 : d ≤ k
  case neg => rw [decide_eq_false (by omega)]; exact rvalid_5 y m d h mi s k w a0 a1 a2 a3 a4 a5 hk
  by_cases a6 : 0 ≤ h
  case neg => rw [decide_eq_false (by omega)]; exact rvalid_6 y m d h mi s k w a0 a1 a2 a3 a4 a5 a6 hk
  by_cases a7 : h ≤ 23
  case neg => rw [decide_eq_false (by omega)]; exact rvalid_7 y m d h mi s k w a0 a1 a2 a3 a4 a5 a6 a7 hk
  by_cases a8 : 0 ≤ mi
  case neg => rw [decide_eq_false (by omega)]; exact rvalid_8 y m d h mi s k w a0 a1 a2 a3 a4 a5 a6 a7 a8 hk
  by_cases a9 : mi ≤ 59
  case neg => rw [decide_eq_false (by omega)]; exact rvalid_9 y m d h mi s k w a0 a1 a2 a3 a4 a5 a6 a7 a8 a9 hk
  by_cases a10 : 0 ≤ s
  case neg => rw [decide_eq_false (by omega)]; exact rvalid_10 y m d h mi s k w a0 a1 a2 a3 a4 a5 a6 a7 a8 a9 a10 hk
  by_cases a11 : s ≤ 59
  case neg => rw [decide_eq_false (by omega)]; exact rvalid_11 y m d h mi s k w a0 a1 a2 a3 a4 a5 a6 a7 a8 a9 a10 a11 hk
  rw [decide_eq_true ⟨a0, a1, a2, a3, a4, a5, a6, a7, a8, a9, a10, a11⟩]
  exact rvalid_12 y m d h mi s k w a0 a1 a2 a3 a4 a5 a6 a7 a8 a9 a10 a11 hk
end Go.Proofs.YtnchkpheepbacaaDoor.Hand
