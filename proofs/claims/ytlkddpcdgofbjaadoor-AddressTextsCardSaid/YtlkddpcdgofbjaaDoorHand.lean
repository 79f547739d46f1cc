/- Contracts, walked by hand, of functions of the package address that the printer does not take. -/
import Derived.Test.YtlkddpcdgofbjaaDoorProg
import Derived.Below
import Derived.WalkKit
import Derived.KernelRfl
import Derived.LoopN
import Derived.Lib.Hide
import Derived.Handy
namespace Go.Proofs.YtlkddpcdgofbjaaDoor.Hand
open Go.RowKit

set_option maxHeartbeats 1000000 in
set_option maxRecDepth 100000 in
theorem split_any (a b c : Int) (w : World) :
    Calls Tryd.prog 32 #[.agg #[.int .i64 a, .int .i64 b, .int .i64 c]] w fun e w' => e = .returned (.agg #[.int .i64 a, .int .i64 b, .int .i64 c]) ∧ Below w.heap.size w w' := by
  go_enter Tryd.func32, Tryd.ntmps32
  go_wp2
  go_returns
  exact ⟨rfl, by go_grown⟩

set_option maxHeartbeats 1000000 in
set_option maxRecDepth 100000 in
theorem step {w w1 w2 : World} (h1 : Below w.heap.size w w1) (h2 : Below w1.heap.size w1 w2) : Below w.heap.size w w2 := h1.trans (h2.mono h1.size)

theorem limit_any (i : Int) (r : Int) (h : (i = 0 ∧ r = 100) ∨ (i = 1 ∧ r = 60) ∨ (i = 2 ∧ r = 75)) (w : World) :
    Calls Tryd.prog 33 #[.int .i64 i] w fun e w' => e = .returned (.int .i64 r) ∧ Below w.heap.size w w' := by
  rcases h with ⟨rfl, rfl⟩ | ⟨rfl, rfl⟩ | ⟨rfl, rfl⟩
  all_goals
    go_enter Tryd.func33, Tryd.ntmps33
    go_wp2
    go_ret
    exact ⟨rfl, by go_grown⟩

set_option maxHeartbeats 1000000 in
set_option maxRecDepth 100000 in
theorem valid_yes (a b c : Int) (w : World) (h1 : 0 ≤ a) (h2 : a < 100) (h3 : 0 ≤ b) (h4 : b < 60) (h5 : 0 ≤ c) (h6 : c < 75) :
    Calls Tryd.prog 17 #[.agg #[.int .i64 a, .int .i64 b, .int .i64 c]] w fun e w' => e = .returned (.bool true) ∧ Below w.heap.size w w' := by
  have n1 : ¬ (a < 0) := by omega
  have n2 : ¬ (100 ≤ a) := by omega
  have n3 : ¬ (b < 0) := by omega
  have n4 : ¬ (60 ≤ b) := by omega
  have n5 : ¬ (c < 0) := by omega
  have n6 : ¬ (75 ≤ c) := by omega
  have i0 : ∀ w, (Instr.index 51 (.agg #[.int .i64 a, .int .i64 b, .int .i64 c]) (.int .i64 0)).run Tryd.prog w = .ok (.int .i64 a) w := fun _ => by kernel_rfl
  have i1 : ∀ w, (Instr.index 51 (.agg #[.int .i64 a, .int .i64 b, .int .i64 c]) (.int .i64 1)).run Tryd.prog w = .ok (.int .i64 b) w := fun _ => by kernel_rfl
  have i2 : ∀ w, (Instr.index 51 (.agg #[.int .i64 a, .int .i64 b, .int .i64 c]) (.int .i64 2)).run Tryd.prog w = .ok (.int .i64 c) w := fun _ => by kernel_rfl
  go_enter Tryd.func17, Tryd.ntmps17
  go_wp2_with (go_at_call 32; refine (split_any a b c _).mono ?_; rintro e w1 ⟨rfl, hb1⟩)
  refine wp_loop_rounds 4 ?_
  rw [rounds_succ]
  go_wp2_with (go_at_call 33; refine (limit_any 0 100 (by simp) _).mono ?_; rintro e w2 ⟨rfl, hb2⟩)
  rw [rounds_succ]
  go_wp2_with (go_at_call 33; refine (limit_any 1 60 (by simp) _).mono ?_; rintro e w3 ⟨rfl, hb3⟩)
  rw [rounds_succ]
  go_wp2_with (go_at_call 33; refine (limit_any 2 75 (by simp) _).mono ?_; rintro e w4 ⟨rfl, hb4⟩)
  rw [rounds_succ]
  go_wp2
  go_ret
  exact ⟨rfl, (step (step (step (step ((Below.refl _ _).alloc (Nat.le_refl _) _) hb1) hb2) hb3) hb4)⟩

set_option maxHeartbeats 1000000 in
set_option maxRecDepth 100000 in
theorem valid_no0 (a b c : Int) (w : World) (hn : a < 0) :
    Calls Tryd.prog 17 #[.agg #[.int .i64 a, .int .i64 b, .int .i64 c]] w fun e w' => e = .returned (.bool false) ∧ Below w.heap.size w w' := by

  have i0 : ∀ w, (Instr.index 51 (.agg #[.int .i64 a, .int .i64 b, .int .i64 c]) (.int .i64 0)).run Tryd.prog w = .ok (.int .i64 a) w := fun _ => by kernel_rfl
  have i1 : ∀ w, (Instr.index 51 (.agg #[.int .i64 a, .int .i64 b, .int .i64 c]) (.int .i64 1)).run Tryd.prog w = .ok (.int .i64 b) w := fun _ => by kernel_rfl
  have i2 : ∀ w, (Instr.index 51 (.agg #[.int .i64 a, .int .i64 b, .int .i64 c]) (.int .i64 2)).run Tryd.prog w = .ok (.int .i64 c) w := fun _ => by kernel_rfl
  go_enter Tryd.func17, Tryd.ntmps17
  go_wp2_with (go_at_call 32; refine (split_any a b c _).mono ?_; rintro e w1 ⟨rfl, hb1⟩)
  refine wp_loop_rounds 4 ?_
  rw [rounds_succ]
  go_wp2
  go_ret
  exact ⟨rfl, (step ((Below.refl _ _).alloc (Nat.le_refl _) _) hb1)⟩

set_option maxHeartbeats 1000000 in
set_option maxRecDepth 100000 in
theorem valid_no1 (a b c : Int) (w : World) (hn0 : 0 ≤ a) (hn : 100 ≤ a) :
    Calls Tryd.prog 17 #[.agg #[.int .i64 a, .int .i64 b, .int .i64 c]] w fun e w' => e = .returned (.bool false) ∧ Below w.heap.size w w' := by
  have m1 : ¬ (a < 0) := by omega
  have i0 : ∀ w, (Instr.index 51 (.agg #[.int .i64 a, .int .i64 b, .int .i64 c]) (.int .i64 0)).run Tryd.prog w = .ok (.int .i64 a) w := fun _ => by kernel_rfl
  have i1 : ∀ w, (Instr.index 51 (.agg #[.int .i64 a, .int .i64 b, .int .i64 c]) (.int .i64 1)).run Tryd.prog w = .ok (.int .i64 b) w := fun _ => by kernel_rfl
  have i2 : ∀ w, (Instr.index 51 (.agg #[.int .i64 a, .int .i64 b, .int .i64 c]) (.int .i64 2)).run Tryd.prog w = .ok (.int .i64 c) w := fun _ => by kernel_rfl
  go_enter Tryd.func17, Tryd.ntmps17
  go_wp2_with (go_at_call 32; refine (split_any a b c _).mono ?_; rintro e w1 ⟨rfl, hb1⟩)
  refine wp_loop_rounds 4 ?_
  rw [rounds_succ]
  go_wp2_with (go_at_call 33; refine (limit_any 0 100 (by simp) _).mono ?_; rintro e w2 ⟨rfl, hb2⟩)
  go_ret
  exact ⟨rfl, (step (step ((Below.refl _ _).alloc (Nat.le_refl _) _) hb1) hb2)⟩

set_option maxHeartbeats 1000000 in
set_option maxRecDepth 100000 in
theorem valid_no2 (a b c : Int) (w : World) (h1 : 0 ≤ a) (h2 : a < 100) (hn : b < 0) :
    Calls Tryd.prog 17 #[.agg #[.int .i64 a, .int .i64 b, .int .i64 c]] w fun e w' => e = .returned (.bool false) ∧ Below w.heap.size w w' := by
  have n1 : ¬ (a < 0) := by omega
  have n2 : ¬ (100 ≤ a) := by omega
  have i0 : ∀ w, (Instr.index 51 (.agg #[.int .i64 a, .int .i64 b, .int .i64 c]) (.int .i64 0)).run Tryd.prog w = .ok (.int .i64 a) w := fun _ => by kernel_rfl
  have i1 : ∀ w, (Instr.index 51 (.agg #[.int .i64 a, .int .i64 b, .int .i64 c]) (.int .i64 1)).run Tryd.prog w = .ok (.int .i64 b) w := fun _ => by kernel_rfl
  have i2 : ∀ w, (Instr.index 51 (.agg #[.int .i64 a, .int .i64 b, .int .i64 c]) (.int .i64 2)).run Tryd.prog w = .ok (.int .i64 c) w := fun _ => by kernel_rfl
  go_enter Tryd.func17, Tryd.ntmps17
  go_wp2_with (go_at_call 32; refine (split_any a b c _).mono ?_; rintro e w1 ⟨rfl, hb1⟩)
  refine wp_loop_rounds 4 ?_
  rw [rounds_succ]
  go_wp2_with (go_at_call 33; refine (limit_any 0 100 (by simp) _).mono ?_; rintro e w2 ⟨rfl, hb2⟩)
  rw [rounds_succ]
  go_wp2
  go_ret
  exact ⟨rfl, (step (step ((Below.refl _ _).alloc (Nat.le_refl _) _) hb1) hb2)⟩

set_option maxHeartbeats 1000000 in
set_option maxRecDepth 100000 in
theorem valid_no3 (a b c : Int) (w : World) (h1 : 0 ≤ a) (h2 : a < 100) (hn0 : 0 ≤ b) (hn : 60 ≤ b) :
    Calls Tryd.prog 17 #[.agg #[.int .i64 a, .int .i64 b, .int .i64 c]] w fun e w' => e = .returned (.bool false) ∧ Below w.heap.size w w' := by
  have n1 : ¬ (a < 0) := by omega
  have n2 : ¬ (100 ≤ a) := by omega
  have m1 : ¬ (b < 0) := by omega
  have i0 : ∀ w, (Instr.index 51 (.agg #[.int .i64 a, .int .i64 b, .int .i64 c]) (.int .i64 0)).run Tryd.prog w = .ok (.int .i64 a) w := fun _ => by kernel_rfl
  have i1 : ∀ w, (Instr.index 51 (.agg #[.int .i64 a, .int .i64 b, .int .i64 c]) (.int .i64 1)).run Tryd.prog w = .ok (.int .i64 b) w := fun _ => by kernel_rfl
  have i2 : ∀ w, (Instr.index 51 (.agg #[.int .i64 a, .int .i64 b, .int .i64 c]) (.int .i64 2)).run Tryd.prog w = .ok (.int .i64 c) w := fun _ => by kernel_rfl
  go_enter Tryd.func17, Tryd.ntmps17
  go_wp2_with (go_at_call 32; refine (split_any a b c _).mono ?_; rintro e w1 ⟨rfl, hb1⟩)
  refine wp_loop_rounds 4 ?_
  rw [rounds_succ]
  go_wp2_with (go_at_call 33; refine (limit_any 0 100 (by simp) _).mono ?_; rintro e w2 ⟨rfl, hb2⟩)
  rw [rounds_succ]
  go_wp2_with (go_at_call 33; refine (limit_any 1 60 (by simp) _).mono ?_; rintro e w3 ⟨rfl, hb3⟩)
  go_ret
  exact ⟨rfl, (step (step (step ((Below.refl _ _).alloc (Nat.le_refl _) _) hb1) hb2) hb3)⟩

set_option maxHeartbeats 1000000 in
set_option maxRecDepth 100000 in
theorem valid_no4 (a b c : Int) (w : World) (h1 : 0 ≤ a) (h2 : a < 100) (h3 : 0 ≤ b) (h4 : b < 60) (hn : c < 0) :
    Calls Tryd.prog 17 #[.agg #[.int .i64 a, .int .i64 b, .int .i64 c]] w fun e w' => e = .returned (.bool false) ∧ Below w.heap.size w w' := by
  have n1 : ¬ (a < 0) := by omega
  have n2 : ¬ (100 ≤ a) := by omega
  have n3 : ¬ (b < 0) := by omega
  have n4 : ¬ (60 ≤ b) := by omega
  have i0 : ∀ w, (Instr.index 51 (.agg #[.int .i64 a, .int .i64 b, .int .i64 c]) (.int .i64 0)).run Tryd.prog w = .ok (.int .i64 a) w := fun _ => by kernel_rfl
  have i1 : ∀ w, (Instr.index 51 (.agg #[.int .i64 a, .int .i64 b, .int .i64 c]) (.int .i64 1)).run Tryd.prog w = .ok (.int .i64 b) w := fun _ => by kernel_rfl
  have i2 : ∀ w, (Instr.index 51 (.agg #[.int .i64 a, .int .i64 b, .int .i64 c]) (.int .i64 2)).run Tryd.prog w = .ok (.int .i64 c) w := fun _ => by kernel_rfl
  go_enter Tryd.func17, Tryd.ntmps17
  go_wp2_with (go_at_call 32; refine (split_any a b c _).mono ?_; rintro e w1 ⟨rfl, hb1⟩)
  refine wp_loop_rounds 4 ?_
  rw [rounds_succ]
  go_wp2_with (go_at_call 33; refine (limit_any 0 100 (by simp) _).mono ?_; rintro e w2 ⟨rfl, hb2⟩)
  rw [rounds_succ]
  go_wp2_with (go_at_call 33; refine (limit_any 1 60 (by simp) _).mono ?_; rintro e w3 ⟨rfl, hb3⟩)
  rw [rounds_succ]
  go_wp2
  go_ret
  exact ⟨rfl, (step (step (step ((Below.refl _ _).alloc (Nat.le_refl _) _) hb1) hb2) hb3)⟩

set_option maxHeartbeats 1000000 in
set_option maxRecDepth 100000 in
theorem valid_no5 (a b c : Int) (w : World) (h1 : 0 ≤ a) (h2 : a < 100) (h3 : 0 ≤ b) (h4 : b < 60) (hn0 : 0 ≤ c) (hn : 75 ≤ c) :
    Calls Tryd.prog 17 #[.agg #[.int .i64 a, .int .i64 b, .int .i64 c]] w fun e w' => e = .returned (.bool false) ∧ Below w.heap.size w w' := by
  have n1 : ¬ (a < 0) := by omega
  have n2 : ¬ (100 ≤ a) := by omega
  have n3 : ¬ (b < 0) := by omega
  have n4 : ¬ (60 ≤ b) := by omega
  have m1 : ¬ (c < 0) := by omega
  have i0 : ∀ w, (Instr.index 51 (.agg #[.int .i64 a, .int .i64 b, .int .i64 c]) (.int .i64 0)).run Tryd.prog w = .ok (.int .i64 a) w := fun _ => by kernel_rfl
  have i1 : ∀ w, (Instr.index 51 (.agg #[.int .i64 a, .int .i64 b, .int .i64 c]) (.int .i64 1)).run Tryd.prog w = .ok (.int .i64 b) w := fun _ => by kernel_rfl
  have i2 : ∀ w, (Instr.index 51 (.agg #[.int .i64 a, .int .i64 b, .int .i64 c]) (.int .i64 2)).run Tryd.prog w = .ok (.int .i64 c) w := fun _ => by kernel_rfl
  go_enter Tryd.func17, Tryd.ntmps17
  go_wp2_with (go_at_call 32; refine (split_any a b c _).mono ?_; rintro e w1 ⟨rfl, hb1⟩)
  refine wp_loop_rounds 4 ?_
  rw [rounds_succ]
  go_wp2_with (go_at_call 33; refine (limit_any 0 100 (by simp) _).mono ?_; rintro e w2 ⟨rfl, hb2⟩)
  rw [rounds_succ]
  go_wp2_with (go_at_call 33; refine (limit_any 1 60 (by simp) _).mono ?_; rintro e w3 ⟨rfl, hb3⟩)
  rw [rounds_succ]
  go_wp2_with (go_at_call 33; refine (limit_any 2 75 (by simp) _).mono ?_; rintro e w4 ⟨rfl, hb4⟩)
  go_ret
  exact ⟨rfl, (step (step (step (step ((Below.refl _ _).alloc (Nat.le_refl _) _) hb1) hb2) hb3) hb4)⟩

def okB (a b c : Int) : Bool := decide (0 ≤ a ∧ a < 100 ∧ 0 ≤ b ∧ b < 60 ∧ 0 ≤ c ∧ c < 75)
theorem okB_true {a b c : Int} (h : okB a b c = true) : 0 ≤ a ∧ a < 100 ∧ 0 ≤ b ∧ b < 60 ∧ 0 ≤ c ∧ c < 75 := of_decide_eq_true h
def address_Valid.f (a b c : Int) : Option Bool := some (okB a b c)
theorem address_Valid.calls (a b c : Int) (r : Bool) (w : World) (h : address_Valid.f a b c = some r) :
    Calls Tryd.prog 17 #[.agg #[.int .i64 a, .int .i64 b, .int .i64 c]] w fun e w' => e = .returned (.bool r) ∧ Below w.heap.size w w' := by
  obtain rfl := Option.some.inj h
  by_cases h1 : 0 ≤ a
  · by_cases h2 : a < 100
    · by_cases h3 : 0 ≤ b
      · by_cases h4 : b < 60
        · by_cases h5 : 0 ≤ c
          · by_cases h6 : c < 75
            · rw [show okB a b c = true from decide_eq_true ⟨h1, h2, h3, h4, h5, h6⟩]; exact valid_yes a b c w h1 h2 h3 h4 h5 h6
            · rw [show okB a b c = false from decide_eq_false (by omega)]; exact valid_no5 a b c w h1 h2 h3 h4 h5 (by omega)
          · rw [show okB a b c = false from decide_eq_false (by omega)]; exact valid_no4 a b c w h1 h2 h3 h4 (by omega)
        · rw [show okB a b c = false from decide_eq_false (by omega)]; exact valid_no3 a b c w h1 h2 h3 (by omega)
      · rw [show okB a b c = false from decide_eq_false (by omega)]; exact valid_no2 a b c w h1 h2 (by omega)
    · rw [show okB a b c = false from decide_eq_false (by omega)]; exact valid_no1 a b c w h1 (by omega)
  · rw [show okB a b c = false from decide_eq_false (by omega)]; exact valid_no0 a b c w (by omega)

end Go.Proofs.YtlkddpcdgofbjaaDoor.Hand
