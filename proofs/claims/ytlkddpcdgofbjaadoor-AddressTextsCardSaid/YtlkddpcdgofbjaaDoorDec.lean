/- Decode of the package address, walked by hand. -/
import Derived.Test.YtlkddpcdgofbjaaDoorEnc
namespace Go.Proofs.YtlkddpcdgofbjaaDoor.Hand
open Go.RowKit Go.Proofs.YtlkddpcdgofbjaaDoorW.PrintWords

theorem and15 (v : Int) (h0 : 0 ≤ v) (h1 : v < 256) : bits BinOp.and IntKind.u8 v 15 = v % 16 := by
  obtain ⟨k, rfl⟩ := Int.eq_ofNat_of_zero_le h0
  have hk : k < 256 := by omega
  have all : ∀ m : Fin 256, bits BinOp.and IntKind.u8 (m.val : Int) 15 = (m.val : Int) % 16 := by decide +kernel
  exact all ⟨k, hk⟩

set_option maxHeartbeats 1000000 in
set_option maxRecDepth 100000 in
theorem fbcd_yes (v : Int) (w : World) (h0 : 0 ≤ v) (h1 : v < 256) (h2 : v / 16 ≤ 9) (h3 : v % 16 ≤ 9) :
    Calls Tryd.prog 31 #[.int .u8 v] w fun e w' => e = .returned (.tuple #[.int .i64 (10 * (v / 16) + v % 16), .int .i64 0]) ∧ w = w' := by
  have e1 := and15 v h0 h1
  have n2 : ¬ (9 < v / 16) := by omega
  have n3 : ¬ (9 < v % 16) := by omega
  go_enter Tryd.func31, Tryd.ntmps31
  go_wp2
  go_ret2
  exact ⟨rfl, rfl⟩

set_option maxHeartbeats 1000000 in
set_option maxRecDepth 100000 in
theorem fbcd_no (v : Int) (w : World) (h0 : 0 ≤ v) (h1 : v < 256) (h2 : 9 < v / 16 ∨ 9 < v % 16) :
    Calls Tryd.prog 31 #[.int .u8 v] w fun e w' => e = .returned (.tuple #[.int .i64 0, .int .i64 2]) ∧ w = w' := by
  have e1 := and15 v h0 h1
  by_cases n2 : 9 < v / 16
  · clear h2
    go_enter Tryd.func31, Tryd.ntmps31
    go_wp2
    go_ret2
    exact ⟨rfl, rfl⟩
  · have n3 : 9 < v % 16 := by omega
    clear h2
    go_enter Tryd.func31, Tryd.ntmps31
    go_wp2
    go_ret2
    exact ⟨rfl, rfl⟩

theorem join_as (a b c : Int) (w : World) (v : Bool) (h : okB a b c = v) :
    Calls Tryd.prog 30 #[.agg #[.int .i64 a, .int .i64 b, .int .i64 c]] w fun e w' => e = .returned (.tuple #[.agg #[.int .i64 a, .int .i64 b, .int .i64 c], .bool v]) ∧ Below w.heap.size w w' := by
  subst h
  exact join_any a b c w

/-- What three bytes are read as. -/
def dec3 (x y z : Int) : Int × Int × Int × Int :=
  if x / 16 ≤ 9 ∧ x % 16 ≤ 9 ∧ y / 16 ≤ 9 ∧ y % 16 ≤ 9 ∧ z / 16 ≤ 9 ∧ z % 16 ≤ 9 ∧ okB (10 * (x / 16) + x % 16) (10 * (y / 16) + y % 16) (10 * (z / 16) + z % 16) = true then (10 * (x / 16) + x % 16, 10 * (y / 16) + y % 16, 10 * (z / 16) + z % 16, 0) else (0, 0, 0, 10)

def address_Decode.f (s : ByteArray) (at_ : Int) : Option (Int × Int × Int × Int) := if s.size ≤ 140737488351232 then some (if 0 ≤ at_ ∧ at_ ≤ (s.size : Int) - 3 then dec3 (bt s at_) (bt s (at_ + 1)) (bt s (at_ + 2)) else (0, 0, 0, 2)) else none

set_option maxHeartbeats 2000000 in
set_option maxRecDepth 100000 in
theorem decode_ok (s : ByteArray) (i : Int) (x y z : Int) (w : World) (hs : s.size ≤ 140737488351232) (h0 : 0 ≤ i) (h1 : i ≤ (s.size : Int) - 3) (hx : bt s (i) = x) (hy : bt s (i + 1) = y) (hz : bt s (i + 2) = z) (x1 : x / 16 ≤ 9) (x2 : x % 16 ≤ 9) (y1 : y / 16 ≤ 9) (y2 : y % 16 ≤ 9) (z1 : z / 16 ≤ 9) (z2 : z % 16 ≤ 9) (hv : okB (10 * (x / 16) + x % 16) (10 * (y / 16) + y % 16) (10 * (z / 16) + z % 16) = true) :
    Calls Tryd.prog 16 #[.string s, .int .i64 i] w fun e w' => e = .returned (.tuple #[.agg #[.int .i64 (10 * (x / 16) + x % 16), .int .i64 (10 * (y / 16) + y % 16), .int .i64 (10 * (z / 16) + z % 16)], .int .i64 0]) ∧ Below w.heap.size w w' := by
  have r0 := bt_range s (i)
  rw [hx] at r0
  have r1 := bt_range s (i + 1)
  rw [hy] at r1
  have r2 := bt_range s (i + 2)
  rw [hz] at r2
  have n0 : ¬ (i < 0) := by omega
  have n1 : ¬ ((s.size : Int) - 3 < i) := by omega
  have b0 := bt_at s (i)
  rw [hx] at b0
  have b1 := bt_at s (i + 1)
  rw [hy] at b1
  have b2 := bt_at s (i + 2)
  rw [hz] at b2
  clear hx hy hz
  have p0 : i < (s.size : Int) := by omega
  have p1 : i + 1 < (s.size : Int) := by omega
  have p2 : i + 2 < (s.size : Int) := by omega
  have q1 : 0 ≤ i + 1 := by omega
  have q2 : 0 ≤ i + 2 := by omega
  have HV := Lib.hid hv
  clear hv
  go_enter Tryd.func16, Tryd.ntmps16
  go_wp2
  refine wp_loop_rounds 4 ?_
  rw [rounds_succ]
  go_wp2_with (go_at_call 31; refine (fbcd_yes x _ (by omega) (by omega) (by omega) (by omega)).mono ?_; rintro e w1 ⟨rfl, rfl⟩)
  rw [rounds_succ]
  go_wp2_with (go_at_call 31; refine (fbcd_yes y _ (by omega) (by omega) (by omega) (by omega)).mono ?_; rintro e w1 ⟨rfl, rfl⟩)
  rw [rounds_succ]
  go_wp2_with (go_at_call 31; refine (fbcd_yes z _ (by omega) (by omega) (by omega) (by omega)).mono ?_; rintro e w1 ⟨rfl, rfl⟩)
  rw [rounds_succ]
  go_wp2_with (go_at_call 30; refine (join_as _ _ _ _ _ HV.out).mono ?_; rintro e w5 ⟨rfl, hb5⟩; have B0 : w5.heap[w.heap.size]? = some (.cells #[.int .i64 0, .int .i64 0, .int .i64 0] 23 (0, 0)) := blk_below (blk_alloc (blk_new _ _) _) hb5; have c0 := (blk_cell B0 0).trans (show _ = some (Value.int .i64 0) from rfl); have f0 := blk_frozen B0 0; have c1 := (blk_cell B0 1).trans (show _ = some (Value.int .i64 0) from rfl); have f1 := blk_frozen B0 1; have c2 := (blk_cell B0 2).trans (show _ = some (Value.int .i64 0) from rfl); have f2 := blk_frozen B0 2; have hw5 : Below w.heap.size w w5 := step (by go_grown) hb5; have hz5 : w.heap.size < w5.heap.size := blk_lt B0; clear hb5; replace B0 := Lib.hid B0)
  refine bodyPost_ret (results_ct rfl _ _ w.heap.size 23 #[.int .i64 (10 * (x / 16) + x % 16), .int .i64 (10 * (y / 16) + y % 16), .int .i64 (10 * (z / 16) + z % 16)] (0, 0) _ rfl (blk_alloc (blk_put (cs := #[.int .i64 (10 * (x / 16) + x % 16), .int .i64 (10 * (y / 16) + y % 16), .int .i64 0]) (blk_put (cs := #[.int .i64 (10 * (x / 16) + x % 16), .int .i64 0, .int .i64 0]) (blk_put B0.out 0 _ rfl) 1 _ rfl) 2 _ rfl) _) Tryd.underlying23 rfl (by kernel_rfl)) rfl ?_
  exact ⟨rfl, (below_set (below_set (below_set hw5 (Nat.le_refl _)) (Nat.le_refl _)) (Nat.le_refl _)).alloc (by simpa using hw5.size) _⟩

set_option maxHeartbeats 2000000 in
set_option maxRecDepth 100000 in
theorem decode_inv (s : ByteArray) (i : Int) (x y z : Int) (w : World) (hs : s.size ≤ 140737488351232) (h0 : 0 ≤ i) (h1 : i ≤ (s.size : Int) - 3) (hx : bt s (i) = x) (hy : bt s (i + 1) = y) (hz : bt s (i + 2) = z) (x1 : x / 16 ≤ 9) (x2 : x % 16 ≤ 9) (y1 : y / 16 ≤ 9) (y2 : y % 16 ≤ 9) (z1 : z / 16 ≤ 9) (z2 : z % 16 ≤ 9) (hv : okB (10 * (x / 16) + x % 16) (10 * (y / 16) + y % 16) (10 * (z / 16) + z % 16) = false) :
    Calls Tryd.prog 16 #[.string s, .int .i64 i] w fun e w' => e = .returned (.tuple #[.agg #[.int .i64 0, .int .i64 0, .int .i64 0], .int .i64 10]) ∧ Below w.heap.size w w' := by
  have r0 := bt_range s (i)
  rw [hx] at r0
  have r1 := bt_range s (i + 1)
  rw [hy] at r1
  have r2 := bt_range s (i + 2)
  rw [hz] at r2
  have n0 : ¬ (i < 0) := by omega
  have n1 : ¬ ((s.size : Int) - 3 < i) := by omega
  have b0 := bt_at s (i)
  rw [hx] at b0
  have b1 := bt_at s (i + 1)
  rw [hy] at b1
  have b2 := bt_at s (i + 2)
  rw [hz] at b2
  clear hx hy hz
  have p0 : i < (s.size : Int) := by omega
  have p1 : i + 1 < (s.size : Int) := by omega
  have p2 : i + 2 < (s.size : Int) := by omega
  have q1 : 0 ≤ i + 1 := by omega
  have q2 : 0 ≤ i + 2 := by omega
  have HV := Lib.hid hv
  clear hv
  go_enter Tryd.func16, Tryd.ntmps16
  go_wp2
  refine wp_loop_rounds 4 ?_
  rw [rounds_succ]
  go_wp2_with (go_at_call 31; refine (fbcd_yes x _ (by omega) (by omega) (by omega) (by omega)).mono ?_; rintro e w1 ⟨rfl, rfl⟩)
  rw [rounds_succ]
  go_wp2_with (go_at_call 31; refine (fbcd_yes y _ (by omega) (by omega) (by omega) (by omega)).mono ?_; rintro e w1 ⟨rfl, rfl⟩)
  rw [rounds_succ]
  go_wp2_with (go_at_call 31; refine (fbcd_yes z _ (by omega) (by omega) (by omega) (by omega)).mono ?_; rintro e w1 ⟨rfl, rfl⟩)
  rw [rounds_succ]
  go_wp2_with (go_at_call 30; refine (join_as _ _ _ _ _ HV.out).mono ?_; rintro e w5 ⟨rfl, hb5⟩; have B0 : w5.heap[w.heap.size]? = some (.cells #[.int .i64 0, .int .i64 0, .int .i64 0] 23 (0, 0)) := blk_below (blk_alloc (blk_new _ _) _) hb5; have c0 := (blk_cell B0 0).trans (show _ = some (Value.int .i64 0) from rfl); have f0 := blk_frozen B0 0; have c1 := (blk_cell B0 1).trans (show _ = some (Value.int .i64 0) from rfl); have f1 := blk_frozen B0 1; have c2 := (blk_cell B0 2).trans (show _ = some (Value.int .i64 0) from rfl); have f2 := blk_frozen B0 2; have hw5 : Below w.heap.size w w5 := step (by go_grown) hb5; have hz5 : w.heap.size < w5.heap.size := blk_lt B0; clear hb5; replace B0 := Lib.hid B0)
  refine bodyPost_ret (results_ct rfl _ _ w.heap.size 23 #[.int .i64 0, .int .i64 0, .int .i64 0] (0, 0) _ rfl (blk_alloc (blk_put (cs := #[.int .i64 0, .int .i64 0, .int .i64 0]) (blk_put (cs := #[.int .i64 0, .int .i64 0, .int .i64 0]) (blk_put B0.out 0 _ rfl) 1 _ rfl) 2 _ rfl) _) Tryd.underlying23 rfl (by kernel_rfl)) rfl ?_
  exact ⟨rfl, (below_set (below_set (below_set hw5 (Nat.le_refl _)) (Nat.le_refl _)) (Nat.le_refl _)).alloc (by simpa using hw5.size) _⟩

set_option maxHeartbeats 2000000 in
set_option maxRecDepth 100000 in
theorem decode_bad1 (s : ByteArray) (i : Int) (x : Int) (w : World) (hs : s.size ≤ 140737488351232) (h0 : 0 ≤ i) (h1 : i ≤ (s.size : Int) - 3) (hx : bt s (i) = x) (hv : 9 < x / 16 ∨ 9 < x % 16) :
    Calls Tryd.prog 16 #[.string s, .int .i64 i] w fun e w' => e = .returned (.tuple #[.agg #[.int .i64 0, .int .i64 0, .int .i64 0], .int .i64 10]) ∧ Below w.heap.size w w' := by
  have r0 := bt_range s (i)
  rw [hx] at r0
  have n0 : ¬ (i < 0) := by omega
  have n1 : ¬ ((s.size : Int) - 3 < i) := by omega
  have b0 := bt_at s (i)
  rw [hx] at b0
  clear hx
  have p0 : i < (s.size : Int) := by omega
  have HV := Lib.hid hv
  clear hv
  go_enter Tryd.func16, Tryd.ntmps16
  go_wp2
  refine wp_loop_rounds 4 ?_
  rw [rounds_succ]
  go_wp2_with (go_at_call 31; refine (fbcd_no x _ (by omega) (by omega) HV.out).mono ?_; rintro e w1 ⟨rfl, rfl⟩)
  go_returns
  exact ⟨rfl, by go_grown⟩

set_option maxHeartbeats 2000000 in
set_option maxRecDepth 100000 in
theorem decode_bad2 (s : ByteArray) (i : Int) (x y : Int) (w : World) (hs : s.size ≤ 140737488351232) (h0 : 0 ≤ i) (h1 : i ≤ (s.size : Int) - 3) (hx : bt s (i) = x) (hy : bt s (i + 1) = y) (x1 : x / 16 ≤ 9) (x2 : x % 16 ≤ 9) (hv : 9 < y / 16 ∨ 9 < y % 16) :
    Calls Tryd.prog 16 #[.string s, .int .i64 i] w fun e w' => e = .returned (.tuple #[.agg #[.int .i64 0, .int .i64 0, .int .i64 0], .int .i64 10]) ∧ Below w.heap.size w w' := by
  have r0 := bt_range s (i)
  rw [hx] at r0
  have r1 := bt_range s (i + 1)
  rw [hy] at r1
  have n0 : ¬ (i < 0) := by omega
  have n1 : ¬ ((s.size : Int) - 3 < i) := by omega
  have b0 := bt_at s (i)
  rw [hx] at b0
  have b1 := bt_at s (i + 1)
  rw [hy] at b1
  clear hx hy
  have p0 : i < (s.size : Int) := by omega
  have p1 : i + 1 < (s.size : Int) := by omega
  have q1 : 0 ≤ i + 1 := by omega
  have HV := Lib.hid hv
  clear hv
  go_enter Tryd.func16, Tryd.ntmps16
  go_wp2
  refine wp_loop_rounds 4 ?_
  rw [rounds_succ]
  go_wp2_with (go_at_call 31; refine (fbcd_yes x _ (by omega) (by omega) (by omega) (by omega)).mono ?_; rintro e w1 ⟨rfl, rfl⟩)
  rw [rounds_succ]
  go_wp2_with (go_at_call 31; refine (fbcd_no y _ (by omega) (by omega) HV.out).mono ?_; rintro e w1 ⟨rfl, rfl⟩)
  go_returns
  exact ⟨rfl, by go_grown⟩

set_option maxHeartbeats 2000000 in
set_option maxRecDepth 100000 in
theorem decode_bad3 (s : ByteArray) (i : Int) (x y z : Int) (w : World) (hs : s.size ≤ 140737488351232) (h0 : 0 ≤ i) (h1 : i ≤ (s.size : Int) - 3) (hx : bt s (i) = x) (hy : bt s (i + 1) = y) (hz : bt s (i + 2) = z) (x1 : x / 16 ≤ 9) (x2 : x % 16 ≤ 9) (y1 : y / 16 ≤ 9) (y2 : y % 16 ≤ 9) (hv : 9 < z / 16 ∨ 9 < z % 16) :
    Calls Tryd.prog 16 #[.string s, .int .i64 i] w fun e w' => e = .returned (.tuple #[.agg #[.int .i64 0, .int .i64 0, .int .i64 0], .int .i64 10]) ∧ Below w.heap.size w w' := by
  have r0 := bt_range s (i)
  rw [hx] at r0
  have r1 := bt_range s (i + 1)
  rw [hy] at r1
  have r2 := bt_range s (i + 2)
  rw [hz] at r2
  have n0 : ¬ (i < 0) := by omega
  have n1 : ¬ ((s.size : Int) - 3 < i) := by omega
  have b0 := bt_at s (i)
  rw [hx] at b0
  have b1 := bt_at s (i + 1)
  rw [hy] at b1
  have b2 := bt_at s (i + 2)
  rw [hz] at b2
  clear hx hy hz
  have p0 : i < (s.size : Int) := by omega
  have p1 : i + 1 < (s.size : Int) := by omega
  have p2 : i + 2 < (s.size : Int) := by omega
  have q1 : 0 ≤ i + 1 := by omega
  have q2 : 0 ≤ i + 2 := by omega
  have HV := Lib.hid hv
  clear hv
  go_enter Tryd.func16, Tryd.ntmps16
  go_wp2
  refine wp_loop_rounds 4 ?_
  rw [rounds_succ]
  go_wp2_with (go_at_call 31; refine (fbcd_yes x _ (by omega) (by omega) (by omega) (by omega)).mono ?_; rintro e w1 ⟨rfl, rfl⟩)
  rw [rounds_succ]
  go_wp2_with (go_at_call 31; refine (fbcd_yes y _ (by omega) (by omega) (by omega) (by omega)).mono ?_; rintro e w1 ⟨rfl, rfl⟩)
  rw [rounds_succ]
  go_wp2_with (go_at_call 31; refine (fbcd_no z _ (by omega) (by omega) HV.out).mono ?_; rintro e w1 ⟨rfl, rfl⟩)
  go_returns
  exact ⟨rfl, by go_grown⟩

set_option maxHeartbeats 2000000 in
set_option maxRecDepth 100000 in
theorem decode_out (s : ByteArray) (i : Int) (w : World) (hs : s.size ≤ 140737488351232) (h : i < 0 ∨ (s.size : Int) - 3 < i) :
    Calls Tryd.prog 16 #[.string s, .int .i64 i] w fun e w' => e = .returned (.tuple #[.agg #[.int .i64 0, .int .i64 0, .int .i64 0], .int .i64 2]) ∧ Below w.heap.size w w' := by
  by_cases n0 : i < 0
  · clear h
    go_enter Tryd.func16, Tryd.ntmps16
    go_wp2
    go_returns
    exact ⟨rfl, by go_grown⟩
  · have n1 : (s.size : Int) - 3 < i := by omega
    clear h
    go_enter Tryd.func16, Tryd.ntmps16
    go_wp2
    go_returns
    exact ⟨rfl, by go_grown⟩

theorem address_Decode.calls (s : ByteArray) (i : Int) (r1 r2 r3 r4 : Int) (w : World) (h : address_Decode.f s i = some (r1, r2, r3, r4)) :
    Calls Tryd.prog 16 #[.string s, .int .i64 i] w fun e w' => e = .returned (.tuple #[.agg #[.int .i64 r1, .int .i64 r2, .int .i64 r3], .int .i64 r4]) ∧ Below w.heap.size w w' := by
  unfold address_Decode.f at h
  by_cases hs : s.size ≤ 140737488351232
  case neg => rw [if_neg hs] at h; exact absurd h (by simp)
  rw [if_pos hs] at h
  have H := Option.some.inj h
  clear h
  by_cases h0 : 0 ≤ i ∧ i ≤ (s.size : Int) - 3
  · rw [if_pos h0] at H
    obtain ⟨h0, h1⟩ := h0
    unfold dec3 at H
    split at H
    · rename_i hk
      obtain ⟨x1, x2, y1, y2, z1, z2, hv⟩ := hk
      simp only [Prod.mk.injEq] at H
      obtain ⟨rfl, rfl, rfl, rfl⟩ := H
      exact decode_ok s i _ _ _ w hs h0 h1 rfl rfl rfl x1 x2 y1 y2 z1 z2 hv
    · rename_i hk
      simp only [Prod.mk.injEq] at H
      obtain ⟨rfl, rfl, rfl, rfl⟩ := H
      by_cases hx : bt s i / 16 ≤ 9 ∧ bt s i % 16 ≤ 9
      · by_cases hy : bt s (i + 1) / 16 ≤ 9 ∧ bt s (i + 1) % 16 ≤ 9
        · by_cases hz : bt s (i + 2) / 16 ≤ 9 ∧ bt s (i + 2) % 16 ≤ 9
          · refine decode_inv s i _ _ _ w hs h0 h1 rfl rfl rfl hx.1 hx.2 hy.1 hy.2 hz.1 hz.2 ?_
            exact (Bool.not_eq_true _).mp fun hv => hk ⟨hx.1, hx.2, hy.1, hy.2, hz.1, hz.2, hv⟩
          · exact decode_bad3 s i _ _ _ w hs h0 h1 rfl rfl rfl hx.1 hx.2 hy.1 hy.2 (by omega)
        · exact decode_bad2 s i _ _ w hs h0 h1 rfl rfl hx.1 hx.2 (by omega)
      · exact decode_bad1 s i _ w hs h0 h1 rfl (by omega)
  · rw [if_neg h0] at H
    simp only [Prod.mk.injEq] at H
    obtain ⟨rfl, rfl, rfl, rfl⟩ := H
    exact decode_out s i w hs (by omega)
end Go.Proofs.YtlkddpcdgofbjaaDoor.Hand
