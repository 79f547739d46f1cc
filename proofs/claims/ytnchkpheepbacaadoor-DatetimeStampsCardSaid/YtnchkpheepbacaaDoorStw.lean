/- The contract of datetime.ReadStamp, walked by hand (printed by genstamp.py). -/
import Derived.Test.YtnchkpheepbacaaDoorSt
import Derived.Test.YtnchkpheepbacaaDoorQ9
namespace Go.Proofs.YtnchkpheepbacaaDoor.Hand
open Go.RowKit Go.Proofs.YtnchkpheepbacaaDoor.Q Go.Proofs.YtnchkpheepbacaaDoorW.PrintWords Go.Proofs.YtnchkpheepbacaaDoorW.PrintLast Go.Proofs.YtnchkpheepbacaaDoorW.PrintMore
set_option linter.unusedVariables false
set_option linter.unusedSimpArgs false


theorem i64r {x : Int} (h0 : -9223372036854775808 ≤ x) (h1 : x ≤ 9223372036854775807) : wrap64 x = x := by
 unfold wrap64
 omega
theorem wrapsI {n : Int} (h0 : 0 ≤ n) (h1 : n < 2 ^ 62) : IntKind.i64.wrap n = n := by rw [IntKind.wrap_i64]; omega
theorem stKind_range (a : ByteArray) : 0 ≤ stKind a ∧ stKind a ≤ 65535 := by
 have b0 := bt_range a 0
 have b1 := bt_range a 1
 unfold stKind
 omega
theorem or_byte {x y : Int} (x0 : 0 ≤ x) (x1 : x ≤ 255) (y0 : 0 ≤ y) (y1 : y ≤ 255) : bits .or .i64 (wrap64 x) (wrap64 (wrap64 y * 256)) = x + 256 * y := by
 rw [i64r (x := x) (by omega) (by omega), i64r (x := y) (by omega) (by omega), i64r (x := y * 256) (by omega) (by omega)]
 have := bits_join .i64 62 (by decide) (fun n => wrapsI) 8 (y * 256) x (by omega) (by omega) (by omega) x0 (by omega) (by omega)
 have c : bits .or .i64 x (y * 256) = bits .or .i64 (y * 256) x := by simp only [bits, BitVec.toNat_or]; rw [Nat.or_comm]
 rw [c, this]
 omega
theorem st_kind (a : ByteArray) : bits .or .i64 (wrap64 (bt a 0)) (wrap64 (wrap64 (bt a 1) * 256)) = stKind a := by
 have b0 := bt_range a 0
 have b1 := bt_range a 1
 exact or_byte b0.1 b0.2 b1.1 b1.2
theorem st_mask {K : Int} (h0 : 0 ≤ K) (h1 : K ≤ 65535) : bits .and .i64 K 4095 = K % 4096 :=
 bits_mask .i64 62 (by decide) (fun n => wrapsI) 12 (by decide) K h0 (by omega)
theorem st_neg {K : Int} (h0 : 0 ≤ K) (h1 : K ≤ 65535) (h : K % 4096 ≥ 2048) : wrap64 (K % 4096 - 4096) = K % 4096 - 4096 := i64r (by omega) (by omega)
theorem isZone_yes {z : Int} (h : -1440 ≤ z ∧ z ≤ 1440) : datetime_isZone.f z = some true := by
 unfold datetime_isZone.f
 rw [if_pos h.1, decide_eq_true h.2]
theorem isZone_no {z : Int} (h : ¬ (-1440 ≤ z ∧ z ≤ 1440)) : datetime_isZone.f z = some false := by
 unfold datetime_isZone.f
 split
 ·rw [decide_eq_false (by omega)]
 ·rfl

theorem bt_ext (a : ByteArray) (j : Nat) (h : a.size = 12) (hj : j < 3) : bt (a.extract 9 a.size) (j : Int) = bt a ((9 + j : Nat) : Int) := by
 unfold bt
 have h1 : (a.extract 9 a.size).size = 3 := by rw [ByteArray.size_extract]; omega
 have h2 : ((9 : Int) + (j : Int)).toNat = 9 + j := by omega
 rw [dif_pos (by rw [h1]; simpa using hj), dif_pos (by rw [h]; simp; omega)]
 simp [ByteArray.getElem_extract, h2]
theorem cell_bt (w : World) (e : TypeId) (S : ByteArray) (j : Nat) (hj : j < S.size) : (Lib.bytesWorld w e S).cell? ⟨w.heap.size, j, none⟩ = some (.int .u8 (bt S (j : Int))) := by
 rw [Lib.bytesWorld_cell w e S j hj, ← rd_bytesOf]
 unfold rd bytesOf
 have h' : j < S.data.toList.length := by rw [data_length]; exact hj
 simp [List.getD_eq_getElem?_getD, hj]
theorem st_read {k : Nat} {a : ByteArray} {K z x9 x10 x11 r1 r2 r3 : Int} {r : Bool} (hR : stZone K = (z, r)) (h : datetime_read.f k (bt a 2 + 256 * bt a 3) (bt a 4) (bt a 5) (bt a 6) (bt a 7) (bt a 8) (stZone K).1 ((stZone K).2 && decide (x9 ≤ 99) && decide (x10 ≤ 99) && decide (x11 ≤ 99)) = some (r1, r2, r3)) :
  datetime_read.f k (bits .or .i64 (wrap64 (bt a 2)) (wrap64 (wrap64 (bt a 3) * 256))) (wrap64 (bt a 4)) (wrap64 (bt a 5)) (wrap64 (bt a 6)) (wrap64 (bt a 7)) (wrap64 (bt a 8)) z (r && decide (x9 ≤ 99) && decide (x10 ≤ 99) && decide (x11 ≤ 99)) = some (r1, r2, r3) := by
 have b2 := bt_range a 2
 have b3 := bt_range a 3
 have b4 := bt_range a 4
 have b5 := bt_range a 5
 have b6 := bt_range a 6
 have b7 := bt_range a 7
 have b8 := bt_range a 8
 rw [hR] at h
 rw [or_byte b2.1 b2.2 b3.1 b3.2, i64r (x := bt a 4) (by omega) (by omega), i64r (x := bt a 5) (by omega) (by omega), i64r (x := bt a 6) (by omega) (by omega), i64r (x := bt a 7) (by omega) (by omega), i64r (x := bt a 8) (by omega) (by omega)]
 exact h

def stR3.T : Bool × List (List Nat × List Nat) := (true, [([], []), ([0], [0]), ([1], [1]), ([], []), ([3], [3]), ([4], [4]), ([5], [5]), ([2, 6], [2, 6]), ([7, 0, 1, 2, 3, 4, 5, 6, 7], [7])])
def stR3.B : List Nat := [0, 1, 3, 0, 8, 24, 56, 127, 255]
theorem stR3.tab : rtab .any (opsOf Tryd.f25 3) = stR3.T := by kernel_rfl
theorem stR3.bits : waitsOk stR3.T.2 stR3.B = true := by kernel_rfl
def stR16.T : Bool × List (List Nat × List Nat) := (true, [([], []), ([0], [0]), ([1], [1]), ([], []), ([3], [3]), ([4], [4]), ([5], [5]), ([2, 6], [2, 6]), ([], []), ([8], [8]), ([9], [9]), ([], []), ([11], [11]), ([12], [12]), ([], []), ([14], [14]), ([15], [15]), ([], []), ([17], [17]), ([18], [18]), ([], []), ([20], [20]), ([21], [21]), ([7, 10, 13, 16, 19, 22], [7, 10, 13, 16, 19, 22]), ([], []), ([], []), ([23, 24, 25], [23, 24, 25]), ([26], [26]), ([26], [26]), ([26], [26]), ([27, 26, 0, 1, 2, 3, 4, 5, 6, 7, 8, 9, 10, 11, 12, 13, 14, 15, 16, 17, 18, 19, 20, 21, 22, 23, 24, 25, 26, 27, 28, 29], [27]), ([28, 30, 0, 1, 2, 3, 4, 5, 6, 7, 8, 9, 10, 11, 12, 13, 14, 15, 16, 17, 18, 19, 20, 21, 22, 23, 24, 25, 26, 27, 28, 29, 30], [28]), ([29, 31, 0, 1, 2, 3, 4, 5, 6, 7, 8, 9, 10, 11, 12, 13, 14, 15, 16, 17, 18, 19, 20, 21, 22, 23, 24, 25, 26, 27, 28, 29, 30, 31], [29])])
def stR16.B : List Nat := [0, 1, 3, 0, 8, 24, 56, 127, 0, 256, 768, 0, 2048, 6144, 0, 16384, 49152, 0, 131072, 393216, 0, 1048576, 3145728, 8388607, 0, 0, 67108863, 134217727, 134217727, 134217727, 1073741823, 2147483647, 4294967295]
theorem stR16.tab : rtab .any (opsOf Tryd.f25 16) = stR16.T := by kernel_rfl
theorem stR16.bits : waitsOk stR16.T.2 stR16.B = true := by kernel_rfl
set_option maxHeartbeats 8000000 in
set_option maxRecDepth 100000 in
theorem stamp_long (k : Nat) (a0 : ByteArray) (r1 r2 r3 : Int) (w : World) (h12 : (a0.size : Int) = 12) (H : datetime_read.f k (bt a0 2 + 256 * bt a0 3) (bt a0 4) (bt a0 5) (bt a0 6) (bt a0 7) (bt a0 8) (stZone (stKind a0)).1 ((stZone (stKind a0)).2 && decide (bt a0 9 ≤ 99) && decide (bt a0 10 ≤ 99) && decide (bt a0 11 ≤ 99)) = some (r1, r2, r3)) :
  Calls Tryd.prog 25 #[.string a0] w fun e w' => e = .returned (.tuple #[.int .i64 r1, .int .i64 r2, .int .i64 r3]) ∧ Below w.heap.size w w' := by
 have HC := Aside0.mk H
 clear H
 have HB := Aside0.mk (Below.refl w.heap.size w)
 have c2b0 : ((a0.size : Int) == 12) = true := beq_iff_eq.mpr h12
 have c2b1 : ((a0.size : Int) != 12) = false := bne_eq_false_iff_eq.mpr h12
 have hs : a0.size = 12 := by omega
 have q0 : 0 < a0.size := by omega
 have hx0 : ∀ h : 0 < a0.size, ((a0[0]'h).toNat : Int) = bt a0 0 := bt_at a0 0
 have qi0 : (0 < (a0.size : Int)) = True := eq_true (by omega)
 replace q0 := eq_true q0
 have q1 : 1 < a0.size := by omega
 have hx1 : ∀ h : 1 < a0.size, ((a0[1]'h).toNat : Int) = bt a0 1 := bt_at a0 1
 have qi1 : (1 < (a0.size : Int)) = True := eq_true (by omega)
 replace q1 := eq_true q1
 clear h12
 have HS := Aside0.mk hs
 clear hs
 go_enter Tryd.func25, Tryd.ntmps25
 try go_wp2
 have n0_ := Aside0.mk (below_drew1 HB.out)
 clear HB
 have HB := n0_
 clear n0_
 refine start_ (n := 9) (S := fun w' => True) (ds := []) #[false, false, false, false, false, false, false, false, false] (by kernel_rfl) rfl rfl trivial (fun hHeld => ?_); refine with_tabW stR3.tab stR3.bits (fun HT_ HW_ => ?_)
 generalize w.drew = w8 at HB hHeld ⊢
 refine pure_ (i := 0) (N := some 13) (v := ?_) (a' := ?_) #[true, false, false, false, false, false, false, false, false] rfl rfl (any_of HT_.out (by kernel_rfl)) (fun _ _ _ h => h) (Or.inl ⟨by rfl, ?_⟩) ?_ ?_
 (rotate_left; (focus (intro w'; go_simp; with_reducible rfl)); rotate_left; (focus (simp only [Act.put, List.setIfInBounds_toArray, List.set_cons_zero, List.set_cons_succ, i64_w, i32_w]; rfl)))
 refine pure_ (i := 3) (N := some 16) (v := ?_) (a' := ?_) #[true, false, false, true, false, false, false, false, false] rfl rfl (any_of HT_.out (by kernel_rfl)) (fun _ _ _ h => h) (Or.inl ⟨by rfl, ?_⟩) ?_ ?_
 (rotate_left; (focus (intro w'; go_simp; with_reducible rfl)); rotate_left; (focus (simp only [Act.put, List.setIfInBounds_toArray, List.set_cons_zero, List.set_cons_succ, i64_w, i32_w]; rfl)))
 refine take_ (i := 1) (N := some 14) (v := ?_) (a' := ?_) #[true, true, false, true, false, false, false, false, false] rfl rfl (take_ofW HT_.out HW_.out (by kernel_rfl)) (fun _ _ _ h => h) (Or.inl ⟨by rfl, ?_⟩) hHeld ?_ ?_
 (rotate_left; (focus (intro w' _; go_simp; with_reducible rfl)); rotate_left; (focus (simp only [Act.put, List.setIfInBounds_toArray, List.set_cons_zero, List.set_cons_succ, i64_w, i32_w]; rfl)))
 refine pure_ (i := 2) (N := some 15) (v := ?_) (a' := ?_) #[true, true, true, true, false, false, false, false, false] rfl rfl (any_of HT_.out (by kernel_rfl)) (fun _ _ _ h => h) (Or.inl ⟨by rfl, ?_⟩) ?_ ?_
 (rotate_left; (focus (intro w'; go_simp; with_reducible rfl)); rotate_left; (focus (simp only [Act.put, List.setIfInBounds_toArray, List.set_cons_zero, List.set_cons_succ, i64_w, i32_w]; rfl)))
 refine take_ (i := 4) (N := some 17) (v := ?_) (a' := ?_) #[true, true, true, true, true, false, false, false, false] rfl rfl (take_ofW HT_.out HW_.out (by kernel_rfl)) (fun _ _ _ h => h) (Or.inl ⟨by rfl, ?_⟩) hHeld ?_ ?_
 (rotate_left; (focus (intro w' _; go_simp; with_reducible rfl)); rotate_left; (focus (simp only [Act.put, List.setIfInBounds_toArray, List.set_cons_zero, List.set_cons_succ, i64_w, i32_w]; rfl)))
 refine pure_ (i := 5) (N := some 18) (v := ?_) (a' := ?_) #[true, true, true, true, true, true, false, false, false] rfl rfl (any_of HT_.out (by kernel_rfl)) (fun _ _ _ h => h) (Or.inl ⟨by rfl, ?_⟩) ?_ ?_
 (rotate_left; (focus (intro w'; go_simp; with_reducible rfl)); rotate_left; (focus (simp only [Act.put, List.setIfInBounds_toArray, List.set_cons_zero, List.set_cons_succ, i64_w, i32_w]; rfl)))
 refine pure_ (i := 6) (N := some 19) (v := ?_) (a' := ?_) #[true, true, true, true, true, true, true, false, false] rfl rfl (any_of HT_.out (by kernel_rfl)) (fun _ _ _ h => h) (Or.inl ⟨by rfl, ?_⟩) ?_ ?_
 (rotate_left; (focus (intro w'; go_simp; with_reducible rfl)); rotate_left; (focus (simp only [Act.put, List.setIfInBounds_toArray, List.set_cons_zero, List.set_cons_succ, i64_w, i32_w]; rfl)))
 refine pure_ (i := 7) (N := some 20) (v := ?_) (a' := ?_) #[true, true, true, true, true, true, true, true, false] rfl rfl (any_of HT_.out (by kernel_rfl)) (fun _ _ _ h => h) (Or.inl ⟨by rfl, ?_⟩) ?_ ?_
 (rotate_left; (focus (intro w'; go_simp; with_reducible rfl)); rotate_left; (focus (simp only [Act.put, List.setIfInBounds_toArray, List.set_cons_zero, List.set_cons_succ, i64_w, i32_w]; rfl)))
 refine pure_ (i := 8) (N := some 5) (v := ?_) (a' := ?_) #[true, true, true, true, true, true, true, true, true] rfl rfl (any_of HT_.out (by kernel_rfl)) (fun _ _ _ h => h) (Or.inl ⟨by rfl, ?_⟩) ?_ ?_
 (rotate_left; (focus (intro w'; go_simp; with_reducible rfl)); rotate_left; (focus (simp only [Act.put, List.setIfInBounds_toArray, List.set_cons_zero, List.set_cons_succ, i64_w, i32_w]; rfl)))
 refine done_ (done_of HT_.out (by kernel_rfl)) ?_
 rw [st_kind a0]
 have hK := stKind_range a0
 generalize stKind a0 = K at HC hK ⊢
 have hA := st_mask hK.1 hK.2
 have HK := Aside0.mk hK
 clear hK
 have HA := Aside0.mk hA
 clear hA
 go_upto_if 24 with (fail)
 rw [HA.out]
 clear HA
 clear HT_ HW_ hHeld
 go_cut [6] (fun v6 wc => ∃ z : Int, v6 = .int .i64 z ∧ Aside0 (stZ K = z) ∧ Aside0 (Below w.heap.size w wc))
 case first =>
  by_cases hn : K % 4096 ≥ 2048
  ·have e1 : decide (2048 ≤ K % 4096) = true := decide_eq_true hn
   have e2 := st_neg HK.out.1 HK.out.2 hn
   have hn' := Aside0.mk hn
   clear hn
   rw [e1]
   go_wp2
   go_meet
   case rel => exact ⟨_, rfl, ⟨by have := hn'.out; unfold stZ; first | (rw [if_pos (by omega)]; done) | (rw [if_pos (by omega)]; exact e2.symm)⟩, ⟨by repeat (first | (with_reducible first | exact HB.out | apply below_alloc | apply pw_below_drewN | apply below_drew1) | exact HB.out)⟩⟩
  ·have e1 : decide (2048 ≤ K % 4096) = false := decide_eq_false hn
   have hn' := Aside0.mk hn
   clear hn
   rw [e1]
   go_wp2
   go_meet
   case rel => exact ⟨_, rfl, ⟨by have := hn'.out; unfold stZ; rw [if_neg (by omega)]⟩, ⟨by repeat (first | (with_reducible first | exact HB.out | apply below_alloc | apply pw_below_drewN | apply below_drew1) | exact HB.out)⟩⟩
 case rest =>
  clear HB
  obtain ⟨z, rfl, HZ, HB⟩ := hcut
  go_upto_block 0 with (fail)
  go_cut [6, 7] (fun v6 v7 wc => ∃ (z' : Int) (r : Bool), v6 = .int .i64 z' ∧ v7 = .bool r ∧ Aside0 (stZone K = (z', r)) ∧ Aside0 (Below w.heap.size w wc))
  case first =>
   have HQ := Aside0.mk (show 0 ≤ K / 4096 by have := HK.out; omega)
   by_cases c0 : K / 4096 = 0
   ·have e0 : (K / 4096 == 0) = true := beq_iff_eq.mpr c0
    have C0 := Aside0.mk c0
    clear c0
    go_wp2
    go_meet
    case rel => exact ⟨_, _, rfl, rfl, ⟨by unfold stZone; rw [if_pos (Or.inl C0.out)]⟩, ⟨by repeat (first | (with_reducible first | exact HB.out | apply below_alloc | apply pw_below_drewN | apply below_drew1) | exact HB.out)⟩⟩
   ·have e0 : (K / 4096 == 0) = false := beq_eq_false_iff_ne.mpr c0
    have C0 := Aside0.mk c0
    clear c0
    by_cases c1 : K / 4096 = 1
    ·have e1 : (K / 4096 == 1) = true := beq_iff_eq.mpr c1
     have e1' : decide (1 < K / 4096) = false := decide_eq_false (by omega)
     have C1 := Aside0.mk c1
     clear c1
     by_cases c2 : z = -2047
     ·have e2 : (z == -2047) = true := beq_iff_eq.mpr c2
      have C2 := Aside0.mk c2
      clear c2
      go_wp2
      go_meet
      case rel => exact ⟨_, _, rfl, rfl, ⟨by unfold stZone; rw [HZ.out, if_pos (Or.inr ⟨C1.out, C2.out⟩)]⟩, ⟨by repeat (first | (with_reducible first | exact HB.out | apply below_alloc | apply pw_below_drewN | apply below_drew1) | exact HB.out)⟩⟩
     ·have e2 : (z == -2047) = false := beq_eq_false_iff_ne.mpr c2
      have C2 := Aside0.mk c2
      clear c2
      by_cases c3 : -1440 ≤ z ∧ z ≤ 1440
      ·have hz := Aside0.mk (isZone_yes c3)
       have C3 := Aside0.mk c3
       clear c3
       go_wp2_with (go_at_call 34; refine (datetime_isZone.calls z true _ hz.out).mono ?_; rintro e w1 ⟨rfl, ⟨nd, rfl⟩⟩)
       go_meet
       case rel => exact ⟨_, _, rfl, rfl, ⟨by unfold stZone; rw [HZ.out, if_neg (by have := C0.out; have := C2.out; omega), if_neg (by have := C1.out; have := C3.out; omega)]⟩, ⟨by repeat (first | (with_reducible first | exact HB.out | apply below_alloc | apply pw_below_drewN | apply below_drew1) | exact HB.out)⟩⟩
      ·have hz := Aside0.mk (isZone_no c3)
       have C3 := Aside0.mk c3
       clear c3
       go_wp2_with (go_at_call 34; refine (datetime_isZone.calls z false _ hz.out).mono ?_; rintro e w1 ⟨rfl, ⟨nd, rfl⟩⟩)
       go_meet
       case rel => exact ⟨_, _, rfl, rfl, ⟨by unfold stZone; rw [HZ.out, if_neg (by have := C0.out; have := C2.out; omega), if_pos (Or.inr C3.out)]⟩, ⟨by repeat (first | (with_reducible first | exact HB.out | apply below_alloc | apply pw_below_drewN | apply below_drew1) | exact HB.out)⟩⟩
    ·have e1 : (K / 4096 == 1) = false := beq_eq_false_iff_ne.mpr c1
     have e1' : decide (1 < K / 4096) = true := decide_eq_true (by have := HQ.out; have := C0.out; omega)
     have C1 := Aside0.mk c1
     clear c1
     go_wp2
     go_meet
     case rel => exact ⟨_, _, rfl, rfl, ⟨by unfold stZone; rw [HZ.out, if_neg (by have := C0.out; have := C1.out; omega), if_pos (Or.inl (by have := HQ.out; have := C0.out; have := C1.out; omega))]⟩, ⟨by repeat (first | (with_reducible first | exact HB.out | apply below_alloc | apply pw_below_drewN | apply below_drew1) | exact HB.out)⟩⟩
  case rest =>
   clear HB
   obtain ⟨z', r, rfl, rfl, HR, HB⟩ := hcut
   have hs := HS.out
   have q9 : (9 : Int) ≤ (a0.size : Int) := by omega
   have q9' : 9 ≤ a0.size := by omega
   have hsz : (a0.extract 9 a0.size).size = 3 := by rw [ByteArray.size_extract]; omega
   have g9 : bt (a0.extract 9 a0.size) ((0 : Nat) : Int) = bt a0 9 := bt_ext a0 0 hs (by omega)
   have g10 : bt (a0.extract 9 a0.size) ((1 : Nat) : Int) = bt a0 10 := bt_ext a0 1 hs (by omega)
   have g11 : bt (a0.extract 9 a0.size) ((2 : Nat) : Int) = bt a0 11 := bt_ext a0 2 hs (by omega)
   have hc0 := cell_bt wc 5 (a0.extract 9 a0.size) 0 (by omega)
   have hc1 := cell_bt wc 5 (a0.extract 9 a0.size) 1 (by omega)
   have hc2 := cell_bt wc 5 (a0.extract 9 a0.size) 2 (by omega)
   rw [g9] at hc0
   rw [g10] at hc1
   rw [g11] at hc2
   clear hs g9 g10 g11
   have HC0 := Aside0.mk hc0
   have HC1 := Aside0.mk hc1
   have HC2 := Aside0.mk hc2
   have HSZ := Aside0.mk hsz
   clear hc0 hc1 hc2 hsz
   have kb := fun W => print_bytes (P := Tryd.prog) 9 47 5 Tryd.underlying9 Tryd.underlying47 Tryd.underlying5 (a0.extract 9 a0.size) W
   go_upto_block 1 with (fail)
   clear kb q9 q9'
   have hBs := Aside0.mk (bytes_below HB.out (below_size HB.out) 5 (a0.extract 9 a0.size))
   have hc0 := HC0.out
   have hc1 := HC1.out
   have hc2 := HC2.out
   have hsz := HSZ.out
   clear HC0 HC1 HC2 HSZ HB
   have HB := hBs
   clear hBs
   generalize Lib.bytesWorld wc 5 (a0.extract 9 a0.size) = wd at HB hc0 hc1 hc2 ⊢
   clear hsz
   have hsz9 : a0.size - 9 = 3 := by have := HS.out; omega
   rw [hsz9]
   clear hsz9
   generalize bt a0 9 = x9 at HC hc0
   generalize bt a0 10 = x10 at HC hc1
   generalize bt a0 11 = x11 at HC hc2
   go_cut [7] (fun v7 we => v7 = .bool (r && decide (x9 ≤ 99) && decide (x10 ≤ 99) && decide (x11 ≤ 99)) ∧ Aside0 (Below w.heap.size w we))
   case first =>
    cases r
    ·(go_wp2; refine wp_loop_rounds 4 ?_; rw [rounds_succ]; go_wp2; rw [rounds_succ]; go_wp2; rw [rounds_succ]; go_wp2; rw [rounds_succ]; go_wp2; go_meet)
     exact ⟨by simp, ⟨HB.out⟩⟩
    ·by_cases h9 : x9 ≤ 99
     ·have d9 : decide (x9 ≤ 99) = true := decide_eq_true h9
      clear h9
      by_cases h10 : x10 ≤ 99
      ·have d10 : decide (x10 ≤ 99) = true := decide_eq_true h10
       clear h10
       by_cases h11 : x11 ≤ 99
       ·have d11 : decide (x11 ≤ 99) = true := decide_eq_true h11
        clear h11
        (go_wp2; refine wp_loop_rounds 4 ?_; rw [rounds_succ]; go_wp2; rw [rounds_succ]; go_wp2; rw [rounds_succ]; go_wp2; rw [rounds_succ]; go_wp2; go_meet)
        exact ⟨by simp [d9, d10, d11], ⟨HB.out⟩⟩
       ·have d11 : decide (x11 ≤ 99) = false := decide_eq_false h11
        clear h11
        (go_wp2; refine wp_loop_rounds 4 ?_; rw [rounds_succ]; go_wp2; rw [rounds_succ]; go_wp2; rw [rounds_succ]; go_wp2; rw [rounds_succ]; go_wp2; go_meet)
        exact ⟨by simp [d9, d10, d11], ⟨HB.out⟩⟩
      ·have d10 : decide (x10 ≤ 99) = false := decide_eq_false h10
       clear h10
       (go_wp2; refine wp_loop_rounds 4 ?_; rw [rounds_succ]; go_wp2; rw [rounds_succ]; go_wp2; rw [rounds_succ]; go_wp2; rw [rounds_succ]; go_wp2; go_meet)
       exact ⟨by simp [d9, d10], ⟨HB.out⟩⟩
     ·have d9 : decide (x9 ≤ 99) = false := decide_eq_false h9
      clear h9
      (go_wp2; refine wp_loop_rounds 4 ?_; rw [rounds_succ]; go_wp2; rw [rounds_succ]; go_wp2; rw [rounds_succ]; go_wp2; rw [rounds_succ]; go_wp2; go_meet)
      exact ⟨by simp [d9], ⟨HB.out⟩⟩
   case rest =>
    clear HB
    obtain ⟨rfl, HB⟩ := hcut
    have hs := HS.out
    clear HS
    have q2 : 2 < a0.size := by omega
    have hx2 : ∀ h : 2 < a0.size, ((a0[2]'h).toNat : Int) = bt a0 2 := bt_at a0 2
    have qi2 : (2 < (a0.size : Int)) = True := eq_true (by omega)
    replace q2 := eq_true q2
    have q3 : 3 < a0.size := by omega
    have hx3 : ∀ h : 3 < a0.size, ((a0[3]'h).toNat : Int) = bt a0 3 := bt_at a0 3
    have qi3 : (3 < (a0.size : Int)) = True := eq_true (by omega)
    replace q3 := eq_true q3
    have q4 : 4 < a0.size := by omega
    have hx4 : ∀ h : 4 < a0.size, ((a0[4]'h).toNat : Int) = bt a0 4 := bt_at a0 4
    have qi4 : (4 < (a0.size : Int)) = True := eq_true (by omega)
    replace q4 := eq_true q4
    have q5 : 5 < a0.size := by omega
    have hx5 : ∀ h : 5 < a0.size, ((a0[5]'h).toNat : Int) = bt a0 5 := bt_at a0 5
    have qi5 : (5 < (a0.size : Int)) = True := eq_true (by omega)
    replace q5 := eq_true q5
    have q6 : 6 < a0.size := by omega
    have hx6 : ∀ h : 6 < a0.size, ((a0[6]'h).toNat : Int) = bt a0 6 := bt_at a0 6
    have qi6 : (6 < (a0.size : Int)) = True := eq_true (by omega)
    replace q6 := eq_true q6
    have q7 : 7 < a0.size := by omega
    have hx7 : ∀ h : 7 < a0.size, ((a0[7]'h).toNat : Int) = bt a0 7 := bt_at a0 7
    have qi7 : (7 < (a0.size : Int)) = True := eq_true (by omega)
    replace q7 := eq_true q7
    have q8 : 8 < a0.size := by omega
    have hx8 : ∀ h : 8 < a0.size, ((a0[8]'h).toNat : Int) = bt a0 8 := bt_at a0 8
    have qi8 : (8 < (a0.size : Int)) = True := eq_true (by omega)
    replace q8 := eq_true q8
    clear hs
    have HD := Aside0.mk (st_read HR.out HC.out)
    clear HC HR
    generalize (r && decide (x9 ≤ 99) && decide (x10 ≤ 99) && decide (x11 ≤ 99)) = R at HD ⊢
    try go_wp2
    have n0_ := Aside0.mk (below_drew1 HB.out)
    clear HB
    have HB := n0_
    clear n0_
    refine start_ (n := 33) (S := fun w' => True) (ds := []) #[false, false, false, false, false, false, false, false, false, false, false, false, false, false, false, false, false, false, false, false, false, false, false, false, false, false, false, false, false, false, false, false, false] (by kernel_rfl) rfl rfl trivial (fun hHeld => ?_); refine with_tabW stR16.tab stR16.bits (fun HT_ HW_ => ?_)
    generalize wc.drew = w44 at HB hHeld ⊢
    refine pure_ (i := 0) (N := some 63) (v := ?_) (a' := ?_) #[true, false, false, false, false, false, false, false, false, false, false, false, false, false, false, false, false, false, false, false, false, false, false, false, false, false, false, false, false, false, false, false, false] rfl rfl (any_of HT_.out (by kernel_rfl)) (fun _ _ _ h => h) (Or.inl ⟨by rfl, ?_⟩) ?_ ?_
    (rotate_left; (focus (intro w'; go_simp; with_reducible rfl)); rotate_left; (focus (simp only [Act.put, List.setIfInBounds_toArray, List.set_cons_zero, List.set_cons_succ, i64_w, i32_w]; rfl)))
    refine pure_ (i := 3) (N := some 66) (v := ?_) (a' := ?_) #[true, false, false, true, false, false, false, false, false, false, false, false, false, false, false, false, false, false, false, false, false, false, false, false, false, false, false, false, false, false, false, false, false] rfl rfl (any_of HT_.out (by kernel_rfl)) (fun _ _ _ h => h) (Or.inl ⟨by rfl, ?_⟩) ?_ ?_
    (rotate_left; (focus (intro w'; go_simp; with_reducible rfl)); rotate_left; (focus (simp only [Act.put, List.setIfInBounds_toArray, List.set_cons_zero, List.set_cons_succ, i64_w, i32_w]; rfl)))
    refine pure_ (i := 8) (N := some 71) (v := ?_) (a' := ?_) #[true, false, false, true, false, false, false, false, true, false, false, false, false, false, false, false, false, false, false, false, false, false, false, false, false, false, false, false, false, false, false, false, false] rfl rfl (any_of HT_.out (by kernel_rfl)) (fun _ _ _ h => h) (Or.inl ⟨by rfl, ?_⟩) ?_ ?_
    (rotate_left; (focus (intro w'; go_simp; with_reducible rfl)); rotate_left; (focus (simp only [Act.put, List.setIfInBounds_toArray, List.set_cons_zero, List.set_cons_succ, i64_w, i32_w]; rfl)))
    refine pure_ (i := 11) (N := some 74) (v := ?_) (a' := ?_) #[true, false, false, true, false, false, false, false, true, false, false, true, false, false, false, false, false, false, false, false, false, false, false, false, false, false, false, false, false, false, false, false, false] rfl rfl (any_of HT_.out (by kernel_rfl)) (fun _ _ _ h => h) (Or.inl ⟨by rfl, ?_⟩) ?_ ?_
    (rotate_left; (focus (intro w'; go_simp; with_reducible rfl)); rotate_left; (focus (simp only [Act.put, List.setIfInBounds_toArray, List.set_cons_zero, List.set_cons_succ, i64_w, i32_w]; rfl)))
    refine pure_ (i := 14) (N := some 77) (v := ?_) (a' := ?_) #[true, false, false, true, false, false, false, false, true, false, false, true, false, false, true, false, false, false, false, false, false, false, false, false, false, false, false, false, false, false, false, false, false] rfl rfl (any_of HT_.out (by kernel_rfl)) (fun _ _ _ h => h) (Or.inl ⟨by rfl, ?_⟩) ?_ ?_
    (rotate_left; (focus (intro w'; go_simp; with_reducible rfl)); rotate_left; (focus (simp only [Act.put, List.setIfInBounds_toArray, List.set_cons_zero, List.set_cons_succ, i64_w, i32_w]; rfl)))
    refine pure_ (i := 17) (N := some 80) (v := ?_) (a' := ?_) #[true, false, false, true, false, false, false, false, true, false, false, true, false, false, true, false, false, true, false, false, false, false, false, false, false, false, false, false, false, false, false, false, false] rfl rfl (any_of HT_.out (by kernel_rfl)) (fun _ _ _ h => h) (Or.inl ⟨by rfl, ?_⟩) ?_ ?_
    (rotate_left; (focus (intro w'; go_simp; with_reducible rfl)); rotate_left; (focus (simp only [Act.put, List.setIfInBounds_toArray, List.set_cons_zero, List.set_cons_succ, i64_w, i32_w]; rfl)))
    refine pure_ (i := 20) (N := some 83) (v := ?_) (a' := ?_) #[true, false, false, true, false, false, false, false, true, false, false, true, false, false, true, false, false, true, false, false, true, false, false, false, false, false, false, false, false, false, false, false, false] rfl rfl (any_of HT_.out (by kernel_rfl)) (fun _ _ _ h => h) (Or.inl ⟨by rfl, ?_⟩) ?_ ?_
    (rotate_left; (focus (intro w'; go_simp; with_reducible rfl)); rotate_left; (focus (simp only [Act.put, List.setIfInBounds_toArray, List.set_cons_zero, List.set_cons_succ, i64_w, i32_w]; rfl)))
    refine pure_ (i := 24) (N := some 87) (v := ?_) (a' := ?_) #[true, false, false, true, false, false, false, false, true, false, false, true, false, false, true, false, false, true, false, false, true, false, false, false, true, false, false, false, false, false, false, false, false] rfl rfl (any_of HT_.out (by kernel_rfl)) (fun _ _ _ h => h) (Or.inl ⟨by rfl, ?_⟩) ?_ ?_
    (rotate_left; (focus (intro w'; go_simp; with_reducible rfl)); rotate_left; (focus (simp only [Act.put, List.setIfInBounds_toArray, List.set_cons_zero, List.set_cons_succ, i64_w, i32_w]; rfl)))
    refine pure_ (i := 25) (N := some 88) (v := ?_) (a' := ?_) #[true, false, false, true, false, false, false, false, true, false, false, true, false, false, true, false, false, true, false, false, true, false, false, false, true, true, false, false, false, false, false, false, false] rfl rfl (any_of HT_.out (by kernel_rfl)) (fun _ _ _ h => h) (Or.inl ⟨by rfl, ?_⟩) ?_ ?_
    (rotate_left; (focus (intro w'; go_simp; with_reducible rfl)); rotate_left; (focus (simp only [Act.put, List.setIfInBounds_toArray, List.set_cons_zero, List.set_cons_succ, i64_w, i32_w]; rfl)))
    refine take_ (i := 1) (N := some 64) (v := ?_) (a' := ?_) #[true, true, false, true, false, false, false, false, true, false, false, true, false, false, true, false, false, true, false, false, true, false, false, false, true, true, false, false, false, false, false, false, false] rfl rfl (take_ofW HT_.out HW_.out (by kernel_rfl)) (fun _ _ _ h => h) (Or.inl ⟨by rfl, ?_⟩) hHeld ?_ ?_
    (rotate_left; (focus (intro w' _; go_simp; with_reducible rfl)); rotate_left; (focus (simp only [Act.put, List.setIfInBounds_toArray, List.set_cons_zero, List.set_cons_succ, i64_w, i32_w]; rfl)))
    refine pure_ (i := 2) (N := some 65) (v := ?_) (a' := ?_) #[true, true, true, true, false, false, false, false, true, false, false, true, false, false, true, false, false, true, false, false, true, false, false, false, true, true, false, false, false, false, false, false, false] rfl rfl (any_of HT_.out (by kernel_rfl)) (fun _ _ _ h => h) (Or.inl ⟨by rfl, ?_⟩) ?_ ?_
    (rotate_left; (focus (intro w'; go_simp; with_reducible rfl)); rotate_left; (focus (simp only [Act.put, List.setIfInBounds_toArray, List.set_cons_zero, List.set_cons_succ, i64_w, i32_w]; rfl)))
    refine take_ (i := 4) (N := some 67) (v := ?_) (a' := ?_) #[true, true, true, true, true, false, false, false, true, false, false, true, false, false, true, false, false, true, false, false, true, false, false, false, true, true, false, false, false, false, false, false, false] rfl rfl (take_ofW HT_.out HW_.out (by kernel_rfl)) (fun _ _ _ h => h) (Or.inl ⟨by rfl, ?_⟩) hHeld ?_ ?_
    (rotate_left; (focus (intro w' _; go_simp; with_reducible rfl)); rotate_left; (focus (simp only [Act.put, List.setIfInBounds_toArray, List.set_cons_zero, List.set_cons_succ, i64_w, i32_w]; rfl)))
    refine pure_ (i := 5) (N := some 68) (v := ?_) (a' := ?_) #[true, true, true, true, true, true, false, false, true, false, false, true, false, false, true, false, false, true, false, false, true, false, false, false, true, true, false, false, false, false, false, false, false] rfl rfl (any_of HT_.out (by kernel_rfl)) (fun _ _ _ h => h) (Or.inl ⟨by rfl, ?_⟩) ?_ ?_
    (rotate_left; (focus (intro w'; go_simp; with_reducible rfl)); rotate_left; (focus (simp only [Act.put, List.setIfInBounds_toArray, List.set_cons_zero, List.set_cons_succ, i64_w, i32_w]; rfl)))
    refine pure_ (i := 6) (N := some 69) (v := ?_) (a' := ?_) #[true, true, true, true, true, true, true, false, true, false, false, true, false, false, true, false, false, true, false, false, true, false, false, false, true, true, false, false, false, false, false, false, false] rfl rfl (any_of HT_.out (by kernel_rfl)) (fun _ _ _ h => h) (Or.inl ⟨by rfl, ?_⟩) ?_ ?_
    (rotate_left; (focus (intro w'; go_simp; with_reducible rfl)); rotate_left; (focus (simp only [Act.put, List.setIfInBounds_toArray, List.set_cons_zero, List.set_cons_succ, i64_w, i32_w]; rfl)))
    refine pure_ (i := 7) (N := some 70) (v := ?_) (a' := ?_) #[true, true, true, true, true, true, true, true, true, false, false, true, false, false, true, false, false, true, false, false, true, false, false, false, true, true, false, false, false, false, false, false, false] rfl rfl (any_of HT_.out (by kernel_rfl)) (fun _ _ _ h => h) (Or.inl ⟨by rfl, ?_⟩) ?_ ?_
    (rotate_left; (focus (intro w'; go_simp; with_reducible rfl)); rotate_left; (focus (simp only [Act.put, List.setIfInBounds_toArray, List.set_cons_zero, List.set_cons_succ, i64_w, i32_w]; rfl)))
    refine take_ (i := 9) (N := some 72) (v := ?_) (a' := ?_) #[true, true, true, true, true, true, true, true, true, true, false, true, false, false, true, false, false, true, false, false, true, false, false, false, true, true, false, false, false, false, false, false, false] rfl rfl (take_ofW HT_.out HW_.out (by kernel_rfl)) (fun _ _ _ h => h) (Or.inl ⟨by rfl, ?_⟩) hHeld ?_ ?_
    (rotate_left; (focus (intro w' _; go_simp; with_reducible rfl)); rotate_left; (focus (simp only [Act.put, List.setIfInBounds_toArray, List.set_cons_zero, List.set_cons_succ, i64_w, i32_w]; rfl)))
    refine pure_ (i := 10) (N := some 73) (v := ?_) (a' := ?_) #[true, true, true, true, true, true, true, true, true, true, true, true, false, false, true, false, false, true, false, false, true, false, false, false, true, true, false, false, false, false, false, false, false] rfl rfl (any_of HT_.out (by kernel_rfl)) (fun _ _ _ h => h) (Or.inl ⟨by rfl, ?_⟩) ?_ ?_
    (rotate_left; (focus (intro w'; go_simp; with_reducible rfl)); rotate_left; (focus (simp only [Act.put, List.setIfInBounds_toArray, List.set_cons_zero, List.set_cons_succ, i64_w, i32_w]; rfl)))
    refine take_ (i := 12) (N := some 75) (v := ?_) (a' := ?_) #[true, true, true, true, true, true, true, true, true, true, true, true, true, false, true, false, false, true, false, false, true, false, false, false, true, true, false, false, false, false, false, false, false] rfl rfl (take_ofW HT_.out HW_.out (by kernel_rfl)) (fun _ _ _ h => h) (Or.inl ⟨by rfl, ?_⟩) hHeld ?_ ?_
    (rotate_left; (focus (intro w' _; go_simp; with_reducible rfl)); rotate_left; (focus (simp only [Act.put, List.setIfInBounds_toArray, List.set_cons_zero, List.set_cons_succ, i64_w, i32_w]; rfl)))
    refine pure_ (i := 13) (N := some 76) (v := ?_) (a' := ?_) #[true, true, true, true, true, true, true, true, true, true, true, true, true, true, true, false, false, true, false, false, true, false, false, false, true, true, false, false, false, false, false, false, false] rfl rfl (any_of HT_.out (by kernel_rfl)) (fun _ _ _ h => h) (Or.inl ⟨by rfl, ?_⟩) ?_ ?_
    (rotate_left; (focus (intro w'; go_simp; with_reducible rfl)); rotate_left; (focus (simp only [Act.put, List.setIfInBounds_toArray, List.set_cons_zero, List.set_cons_succ, i64_w, i32_w]; rfl)))
    refine take_ (i := 15) (N := some 78) (v := ?_) (a' := ?_) #[true, true, true, true, true, true, true, true, true, true, true, true, true, true, true, true, false, true, false, false, true, false, false, false, true, true, false, false, false, false, false, false, false] rfl rfl (take_ofW HT_.out HW_.out (by kernel_rfl)) (fun _ _ _ h => h) (Or.inl ⟨by rfl, ?_⟩) hHeld ?_ ?_
    (rotate_left; (focus (intro w' _; go_simp; with_reducible rfl)); rotate_left; (focus (simp only [Act.put, List.setIfInBounds_toArray, List.set_cons_zero, List.set_cons_succ, i64_w, i32_w]; rfl)))
    refine pure_ (i := 16) (N := some 79) (v := ?_) (a' := ?_) #[true, true, true, true, true, true, true, true, true, true, true, true, true, true, true, true, true, true, false, false, true, false, false, false, true, true, false, false, false, false, false, false, false] rfl rfl (any_of HT_.out (by kernel_rfl)) (fun _ _ _ h => h) (Or.inl ⟨by rfl, ?_⟩) ?_ ?_
    (rotate_left; (focus (intro w'; go_simp; with_reducible rfl)); rotate_left; (focus (simp only [Act.put, List.setIfInBounds_toArray, List.set_cons_zero, List.set_cons_succ, i64_w, i32_w]; rfl)))
    refine take_ (i := 18) (N := some 81) (v := ?_) (a' := ?_) #[true, true, true, true, true, true, true, true, true, true, true, true, true, true, true, true, true, true, true, false, true, false, false, false, true, true, false, false, false, false, false, false, false] rfl rfl (take_ofW HT_.out HW_.out (by kernel_rfl)) (fun _ _ _ h => h) (Or.inl ⟨by rfl, ?_⟩) hHeld ?_ ?_
    (rotate_left; (focus (intro w' _; go_simp; with_reducible rfl)); rotate_left; (focus (simp only [Act.put, List.setIfInBounds_toArray, List.set_cons_zero, List.set_cons_succ, i64_w, i32_w]; rfl)))
    refine pure_ (i := 19) (N := some 82) (v := ?_) (a' := ?_) #[true, true, true, true, true, true, true, true, true, true, true, true, true, true, true, true, true, true, true, true, true, false, false, false, true, true, false, false, false, false, false, false, false] rfl rfl (any_of HT_.out (by kernel_rfl)) (fun _ _ _ h => h) (Or.inl ⟨by rfl, ?_⟩) ?_ ?_
    (rotate_left; (focus (intro w'; go_simp; with_reducible rfl)); rotate_left; (focus (simp only [Act.put, List.setIfInBounds_toArray, List.set_cons_zero, List.set_cons_succ, i64_w, i32_w]; rfl)))
    refine take_ (i := 21) (N := some 84) (v := ?_) (a' := ?_) #[true, true, true, true, true, true, true, true, true, true, true, true, true, true, true, true, true, true, true, true, true, true, false, false, true, true, false, false, false, false, false, false, false] rfl rfl (take_ofW HT_.out HW_.out (by kernel_rfl)) (fun _ _ _ h => h) (Or.inl ⟨by rfl, ?_⟩) hHeld ?_ ?_
    (rotate_left; (focus (intro w' _; go_simp; with_reducible rfl)); rotate_left; (focus (simp only [Act.put, List.setIfInBounds_toArray, List.set_cons_zero, List.set_cons_succ, i64_w, i32_w]; rfl)))
    refine pure_ (i := 22) (N := some 85) (v := ?_) (a' := ?_) #[true, true, true, true, true, true, true, true, true, true, true, true, true, true, true, true, true, true, true, true, true, true, true, false, true, true, false, false, false, false, false, false, false] rfl rfl (any_of HT_.out (by kernel_rfl)) (fun _ _ _ h => h) (Or.inl ⟨by rfl, ?_⟩) ?_ ?_
    (rotate_left; (focus (intro w'; go_simp; with_reducible rfl)); rotate_left; (focus (simp only [Act.put, List.setIfInBounds_toArray, List.set_cons_zero, List.set_cons_succ, i64_w, i32_w]; rfl)))
    refine pure_ (i := 23) (N := some 86) (v := ?_) (a' := ?_) #[true, true, true, true, true, true, true, true, true, true, true, true, true, true, true, true, true, true, true, true, true, true, true, true, true, true, false, false, false, false, false, false, false] rfl rfl (any_of HT_.out (by kernel_rfl)) (fun _ _ _ h => h) (Or.inl ⟨by rfl, ?_⟩) ?_ ?_
    (rotate_left; (focus (intro w'; go_simp; with_reducible rfl)); rotate_left; (focus (simp only [Act.put, List.setIfInBounds_toArray, List.set_cons_zero, List.set_cons_succ, i64_w, i32_w]; rfl)))
    refine one_ (i := 26) (N := some 89) #[true, true, true, true, true, true, true, true, true, true, true, true, true, true, true, true, true, true, true, true, true, true, true, true, true, true, true, false, false, false, false, false, false] rfl rfl (one_of HT_.out (by kernel_rfl)) (by decide) (fun K hK => ?_)
    refine goes_ Tryd.func45 (by kernel_rfl) rfl #[.agg #[.int .i64 (bits .or .i64 (wrap64 (bt a0 2)) (wrap64 (wrap64 (bt a0 3) * 256))), .int .i64 (wrap64 (bt a0 4)), .int .i64 (wrap64 (bt a0 5)), .int .i64 (wrap64 (bt a0 6)), .int .i64 (wrap64 (bt a0 7)), .int .i64 (wrap64 (bt a0 8))], .int .i64 z', .bool R] (by rfl) rfl rfl (by ((try simp only [List.map_toArray, List.map_cons, List.map_nil]); first | done | rfl | (simp only [List.length_drop, List.length_take]; rfl))) ?_
    with_reducible refine (datetime_read.calls k (bits .or .i64 (wrap64 (bt a0 2)) (wrap64 (wrap64 (bt a0 3) * 256))) (wrap64 (bt a0 4)) (wrap64 (bt a0 5)) (wrap64 (bt a0 6)) (wrap64 (bt a0 7)) (wrap64 (bt a0 8)) z' R r1 r2 r3 _ HD.out).mono ?_
    rintro e w45 ⟨rfl, hb⟩
    refine ⟨_, rfl, ?_⟩
    have n0_ := Aside0.mk (below_step HB.out hb)
    clear HB
    have HB := n0_
    clear n0_
    clear hb
    refine hK.out _ _ trivial (fun hHeld => ?_)
    clear hK K
    refine norm_ (a' := ?_) ?_ ?_
    rotate_left
    ·show Act.put _ (some 89) _ = _
     simp only [Act.put, List.setIfInBounds_toArray, List.set_cons_zero, List.set_cons_succ, i64_w, i32_w]
     rfl
    refine pure_ (i := 27) (N := some 90) (v := ?_) (a' := ?_) #[true, true, true, true, true, true, true, true, true, true, true, true, true, true, true, true, true, true, true, true, true, true, true, true, true, true, true, true, false, false, false, false, false] rfl rfl (any_of HT_.out (by kernel_rfl)) (fun _ _ _ h => h) (Or.inl ⟨by rfl, ?_⟩) ?_ ?_
    (rotate_left; (focus (intro w'; go_simp; with_reducible rfl)); rotate_left; (focus (simp only [Act.put, List.setIfInBounds_toArray, List.set_cons_zero, List.set_cons_succ, i64_w, i32_w]; rfl)))
    refine pure_ (i := 28) (N := some 91) (v := ?_) (a' := ?_) #[true, true, true, true, true, true, true, true, true, true, true, true, true, true, true, true, true, true, true, true, true, true, true, true, true, true, true, true, true, false, false, false, false] rfl rfl (any_of HT_.out (by kernel_rfl)) (fun _ _ _ h => h) (Or.inl ⟨by rfl, ?_⟩) ?_ ?_
    (rotate_left; (focus (intro w'; go_simp; with_reducible rfl)); rotate_left; (focus (simp only [Act.put, List.setIfInBounds_toArray, List.set_cons_zero, List.set_cons_succ, i64_w, i32_w]; rfl)))
    refine pure_ (i := 29) (N := some 92) (v := ?_) (a' := ?_) #[true, true, true, true, true, true, true, true, true, true, true, true, true, true, true, true, true, true, true, true, true, true, true, true, true, true, true, true, true, true, false, false, false] rfl rfl (any_of HT_.out (by kernel_rfl)) (fun _ _ _ h => h) (Or.inl ⟨by rfl, ?_⟩) ?_ ?_
    (rotate_left; (focus (intro w'; go_simp; with_reducible rfl)); rotate_left; (focus (simp only [Act.put, List.setIfInBounds_toArray, List.set_cons_zero, List.set_cons_succ, i64_w, i32_w]; rfl)))
    refine pure_ (i := 30) (N := some 2) (v := ?_) (a' := ?_) #[true, true, true, true, true, true, true, true, true, true, true, true, true, true, true, true, true, true, true, true, true, true, true, true, true, true, true, true, true, true, true, false, false] rfl rfl (any_of HT_.out (by kernel_rfl)) (fun _ _ _ h => h) (Or.inl ⟨by rfl, ?_⟩) ?_ ?_
    (rotate_left; (focus (intro w'; go_simp; with_reducible rfl)); rotate_left; (focus (simp only [Act.put, List.setIfInBounds_toArray, List.set_cons_zero, List.set_cons_succ, i64_w, i32_w]; rfl)))
    refine pure_ (i := 31) (N := some 3) (v := ?_) (a' := ?_) #[true, true, true, true, true, true, true, true, true, true, true, true, true, true, true, true, true, true, true, true, true, true, true, true, true, true, true, true, true, true, true, true, false] rfl rfl (any_of HT_.out (by kernel_rfl)) (fun _ _ _ h => h) (Or.inl ⟨by rfl, ?_⟩) ?_ ?_
    (rotate_left; (focus (intro w'; go_simp; with_reducible rfl)); rotate_left; (focus (simp only [Act.put, List.setIfInBounds_toArray, List.set_cons_zero, List.set_cons_succ, i64_w, i32_w]; rfl)))
    refine pure_ (i := 32) (N := some 4) (v := ?_) (a' := ?_) #[true, true, true, true, true, true, true, true, true, true, true, true, true, true, true, true, true, true, true, true, true, true, true, true, true, true, true, true, true, true, true, true, true] rfl rfl (any_of HT_.out (by kernel_rfl)) (fun _ _ _ h => h) (Or.inl ⟨by rfl, ?_⟩) ?_ ?_
    (rotate_left; (focus (intro w'; go_simp; with_reducible rfl)); rotate_left; (focus (simp only [Act.put, List.setIfInBounds_toArray, List.set_cons_zero, List.set_cons_succ, i64_w, i32_w]; rfl)))
    refine done_ (done_of HT_.out (by kernel_rfl)) ?_
    try go_wp2
    go_ret3
    exact ⟨rfl, HB.out⟩
theorem datetime_ReadStamp.calls (k : Nat) (a0 : ByteArray) (r1 r2 r3 : Int) (w : World) (h : datetime_ReadStamp.f k a0 = some (r1, r2, r3)) :
  Calls Tryd.prog 25 #[.string a0] w fun e w' => e = .returned (.tuple #[.int .i64 r1, .int .i64 r2, .int .i64 r3]) ∧ Below w.heap.size w w' := by
 unfold datetime_ReadStamp.f at h
 by_cases c2 : (a0.size : Int) = 12
 ·rw [if_pos c2] at h
  exact stamp_long k a0 r1 r2 r3 w c2 h
 ·rw [if_neg c2] at h
  simp only [Option.some.injEq, Prod.mk.injEq] at h
  obtain ⟨rfl, rfl, rfl⟩ := h
  have c2b0 : ((a0.size : Int) == 12) = false := beq_eq_false_iff_ne.mpr c2
  have c2b1 : ((a0.size : Int) != 12) = true := bne_iff_ne.mpr c2
  clear c2
  go_enter Tryd.func25, Tryd.ntmps25
  go_wp2
  go_ret3
  exact ⟨rfl, Below.refl _ _⟩
end Go.Proofs.YtnchkpheepbacaaDoor.Hand

