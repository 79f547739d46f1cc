/- The contract of the reference's Valid, walked by hand: a region of open order that reads and calls quietly, one walk for each first test that says no. -/
import Derived.Test.YtnchkpheepbacaaDoorDc
namespace Go.Proofs.YtnchkpheepbacaaDoor.Hand
open Go.RowKit Go.Proofs.YtnchkpheepbacaaDoorW.PrintWords
set_option linter.unusedVariables false

set_option maxHeartbeats 4000000 in
set_option maxRecDepth 100000 in
theorem rvalid_5 (y m d h mi s k : Int) (w : World) (t0 : 1900 ≤ y) (t1 : y ≤ 2155) (t2 : 1 ≤ m) (t3 : m ≤ 12) (t4 : 1 ≤ d) (hn : ¬ (d ≤ k)) (hk : dim y m = k) :
    Calls Tryd.prog 40 #[.agg #[.int .i64 y, .int .i64 m, .int .i64 d, .int .i64 h, .int .i64 mi, .int .i64 s]] w fun e w' => e = .returned (.bool false) ∧ Below w.heap.size w w' := by
  have HK := Lib.hid hk
  clear hk
  have b0 : decide (1900 ≤ y) = true := decide_eq_true t0
  have b1 : decide (y ≤ 2155) = true := decide_eq_true t1
  have b2 : decide (1 ≤ m) = true := decide_eq_true t2
  have b3 : decide (m ≤ 12) = true := decide_eq_true t3
  have b4 : decide (1 ≤ d) = true := decide_eq_true t4
  have b5 : decide (d ≤ k) = false := decide_eq_false hn
  go_enter Tryd.func40, Tryd.ntmps40
  go_wp2
  go_quiet ((go_at_call 56; exact Calls.quiet_of_same (rdays_as y m k _ (by omega) (by omega) (by omega) HK.out)))
  go_wp2
  go_ret
  exact ⟨rfl, pw_below_drewN ((Below.refl _ _).alloc (Nat.le_refl _) _) _⟩

set_option maxHeartbeats 4000000 in
set_option maxRecDepth 100000 in
theorem rvalid_6 (y m d h mi s k : Int) (w : World) (t0 : 1900 ≤ y) (t1 : y ≤ 2155) (t2 : 1 ≤ m) (t3 : m ≤ 12) (t4 : 1 ≤ d) (t5 : d ≤ k) (hn : ¬ (0 ≤ h)) (hk : dim y m = k) :
    Calls Tryd.prog 40 #[.agg #[.int .i64 y, .int .i64 m, .int .i64 d, .int .i64 h, .int .i64 mi, .int .i64 s]] w fun e w' => e = .returned (.bool false) ∧ Below w.heap.size w w' := by
  have HK := Lib.hid hk
  clear hk
  have b0 : decide (1900 ≤ y) = true := decide_eq_true t0
  have b1 : decide (y ≤ 2155) = true := decide_eq_true t1
  have b2 : decide (1 ≤ m) = true := decide_eq_true t2
  have b3 : decide (m ≤ 12) = true := decide_eq_true t3
  have b4 : decide (1 ≤ d) = true := decide_eq_true t4
  have b5 : decide (d ≤ k) = true := decide_eq_true t5
  have b6 : decide (0 ≤ h) = false := decide_eq_false hn
  go_enter Tryd.func40, Tryd.ntmps40
  go_wp2
  go_quiet ((go_at_call 56; exact Calls.quiet_of_same (rdays_as y m k _ (by omega) (by omega) (by omega) HK.out)))
  go_wp2
  go_ret
  exact ⟨rfl, pw_below_drewN ((Below.refl _ _).alloc (Nat.le_refl _) _) _⟩

set_option maxHeartbeats 4000000 in
set_option maxRecDepth 100000 in
theorem rvalid_7 (y m d h mi s k : Int) (w : World) (t0 : 1900 ≤ y) (t1 : y ≤ 2155) (t2 : 1 ≤ m) (t3 : m ≤ 12) (t4 : 1 ≤ d) (t5 : d ≤ k) (t6 : 0 ≤ h) (hn : ¬ (h ≤ 23)) (hk : dim y m = k) :
    Calls Tryd.prog 40 #[.agg #[.int .i64 y, .int .i64 m, .int .i64 d, .int .i64 h, .int .i64 mi, .int .i64 s]] w fun e w' => e = .returned (.bool false) ∧ Below w.heap.size w w' := by
  have HK := Lib.hid hk
  clear hk
  have b0 : decide (1900 ≤ y) = true := decide_eq_true t0
  have b1 : decide (y ≤ 2155) = true := decide_eq_true t1
  have b2 : decide (1 ≤ m) = true := decide_eq_true t2
  have b3 : decide (m ≤ 12) = true := decide_eq_true t3
  have b4 : decide (1 ≤ d) = true := decide_eq_true t4
  have b5 : decide (d ≤ k) = true := decide_eq_true t5
  have b6 : decide (0 ≤ h) = true := decide_eq_true t6
  have b7 : decide (h ≤ 23) = false := decide_eq_false hn
  go_enter Tryd.func40, Tryd.ntmps40
  go_wp2
  go_quiet ((go_at_call 56; exact Calls.quiet_of_same (rdays_as y m k _ (by omega) (by omega) (by omega) HK.out)))
  go_wp2
  go_ret
  exact ⟨rfl, pw_below_drewN ((Below.refl _ _).alloc (Nat.le_refl _) _) _⟩

end Go.Proofs.YtnchkpheepbacaaDoor.Hand
