/- The contract of the reference's Valid, walked by hand: a region of open order that reads and calls quietly, one walk for each first test that says no. -/
import Derived.Test.YtnchkpheepbacaaDoorDc
namespace Go.Proofs.YtnchkpheepbacaaDoor.Hand
open Go.RowKit Go.Proofs.YtnchkpheepbacaaDoorW.PrintWords
set_option linter.unusedVariables false

set_option maxHeartbeats 4000000 in
set_option maxRecDepth 100000 in
theorem rvalid_0 (y m d h mi s k : Int) (w : World)  (hn : ¬ (1900 ≤ y)) :
    Calls Tryd.prog 40 #[.agg #[.int .i64 y, .int .i64 m, .int .i64 d, .int .i64 h, .int .i64 mi, .int .i64 s]] w fun e w' => e = .returned (.bool false) ∧ Below w.heap.size w w' := by
  have b0 : decide (1900 ≤ y) = false := decide_eq_false hn
  go_enter Tryd.func40, Tryd.ntmps40
  go_wp2
  go_quiet (fail)
  go_wp2
  go_ret
  exact ⟨rfl, pw_below_drewN ((Below.refl _ _).alloc (Nat.le_refl _) _) _⟩

set_option maxHeartbeats 4000000 in
set_option maxRecDepth 100000 in
theorem rvalid_1 (y m d h mi s k : Int) (w : World) (t0 : 1900 ≤ y) (hn : ¬ (y ≤ 2155)) :
    Calls Tryd.prog 40 #[.agg #[.int .i64 y, .int .i64 m, .int .i64 d, .int .i64 h, .int .i64 mi, .int .i64 s]] w fun e w' => e = .returned (.bool false) ∧ Below w.heap.size w w' := by
  have b0 : decide (1900 ≤ y) = true := decide_eq_true t0
  have b1 : decide (y ≤ 2155) = false := decide_eq_false hn
  go_enter Tryd.func40, Tryd.ntmps40
  go_wp2
  go_quiet (fail)
  go_wp2
  go_ret
  exact ⟨rfl, pw_below_drewN ((Below.refl _ _).alloc (Nat.le_refl _) _) _⟩

set_option maxHeartbeats 4000000 in
set_option maxRecDepth 100000 in
theorem rvalid_2 (y m d h mi s k : Int) (w : World) (t0 : 1900 ≤ y) (t1 : y ≤ 2155) (hn : ¬ (1 ≤ m)) :
    Calls Tryd.prog 40 #[.agg #[.int .i64 y, .int .i64 m, .int .i64 d, .int .i64 h, .int .i64 mi, .int .i64 s]] w fun e w' => e = .returned (.bool false) ∧ Below w.heap.size w w' := by
  have b0 : decide (1900 ≤ y) = true := decide_eq_true t0
  have b1 : decide (y ≤ 2155) = true := decide_eq_true t1
  have b2 : decide (1 ≤ m) = false := decide_eq_false hn
  go_enter Tryd.func40, Tryd.ntmps40
  go_wp2
  go_quiet (fail)
  go_wp2
  go_ret
  exact ⟨rfl, pw_below_drewN ((Below.refl _ _).alloc (Nat.le_refl _) _) _⟩

set_option maxHeartbeats 4000000 in
set_option maxRecDepth 100000 in
theorem rvalid_3 (y m d h mi s k : Int) (w : World) (t0 : 1900 ≤ y) (t1 : y ≤ 2155) (t2 : 1 ≤ m) (hn : ¬ (m ≤ 12)) :
    Calls Tryd.prog 40 #[.agg #[.int .i64 y, .int .i64 m, .int .i64 d, .int .i64 h, .int .i64 mi, .int .i64 s]] w fun e w' => e = .returned (.bool false) ∧ Below w.heap.size w w' := by
  have b0 : decide (1900 ≤ y) = true := decide_eq_true t0
  have b1 : decide (y ≤ 2155) = true := decide_eq_true t1
  have b2 : decide (1 ≤ m) = true := decide_eq_true t2
  have b3 : decide (m ≤ 12) = false := decide_eq_false hn
  go_enter Tryd.func40, Tryd.ntmps40
  go_wp2
  go_quiet (fail)
  go_wp2
  go_ret
  exact ⟨rfl, pw_below_drewN ((Below.refl _ _).alloc (Nat.le_refl _) _) _⟩

set_option maxHeartbeats 4000000 in
set_option maxRecDepth 100000 in
theorem rvalid_4 (y m d h mi s k : Int) (w : World) (t0 : 1900 ≤ y) (t1 : y ≤ 2155) (t2 : 1 ≤ m) (t3 : m ≤ 12) (hn : ¬ (1 ≤ d)) :
    Calls Tryd.prog 40 #[.agg #[.int .i64 y, .int .i64 m, .int .i64 d, .int .i64 h, .int .i64 mi, .int .i64 s]] w fun e w' => e = .returned (.bool false) ∧ Below w.heap.size w w' := by
  have b0 : decide (1900 ≤ y) = true := decide_eq_true t0
  have b1 : decide (y ≤ 2155) = true := decide_eq_true t1
  have b2 : decide (1 ≤ m) = true := decide_eq_true t2
  have b3 : decide (m ≤ 12) = true := decide_eq_true t3
  have b4 : decide (1 ≤ d) = false := decide_eq_false hn
  go_enter Tryd.func40, Tryd.ntmps40
  go_wp2
  go_quiet (fail)
  go_wp2
  go_ret
  exact ⟨rfl, pw_below_drewN ((Below.refl _ _).alloc (Nat.le_refl _) _) _⟩

end Go.Proofs.YtnchkpheepbacaaDoor.Hand
