/- Printed for this session's own hand contracts by its own program; Lean checks every line. -/
import Derived.Test.YtnchkpheepbacaaDoorQ0
import Derived.Test.YtnchkpheepbacaaDoorQ4
import Derived.Test.YtnchkpheepbacaaDoorQ5
import Derived.Test.YtnchkpheepbacaaDoorQ9
namespace Go.Proofs.YtnchkpheepbacaaDoor.Q
open Go.Proofs.YtnchkpheepbacaaDoor.Hand
open Go.RowKit Go.Proofs.YtnchkpheepbacaaDoorW.PrintWords Go.Proofs.YtnchkpheepbacaaDoorW.PrintLast Go.Proofs.YtnchkpheepbacaaDoorW.PrintMore
attribute [local go_sem] max2_int min2_int max_two min_two max_three min_three max_four min_four   -- for this text's walks alone
set_option linter.unusedVariables false
set_option linter.unusedSimpArgs false

/-! ### datetime_ReadRecord: function 21 -/
def datetime_ReadRecord.f (k : Nat) (a0 : ByteArray) : Option (Int × Int × Int) := if (a0.size : Int) = 7 then (if 6 < (a0.size : Int) then ((datetime_quarter.f (bt a0 6)).bind fun bt289 => (if 0 < (a0.size : Int) then (if 1 < (a0.size : Int) then (if 2 < (a0.size : Int) then (if 3 < (a0.size : Int) then (if 4 < (a0.size : Int) then (if 5 < (a0.size : Int) then ((datetime_read.f k (wrap64 (1900 + (wrap64 (bt a0 0)))) (wrap64 (bt a0 1)) (wrap64 (bt a0 2)) (wrap64 (bt a0 3)) (wrap64 (bt a0 4)) (wrap64 (bt a0 5)) bt289.1 bt289.2).bind fun bt291 => (some (bt291.1, bt291.2.1, bt291.2.2))) else (none)) else (none)) else (none)) else (none)) else (none)) else (none))) else (none)) else (some (0, 0, 1))
theorem datetime_ReadRecord.mono : ∀ a0 k, LeO (datetime_ReadRecord.f k a0) (datetime_ReadRecord.f (k + 1) a0) := by
 intro a0 k
 unfold datetime_ReadRecord.f
 repeat' first
   | (with_reducible exact datetime_read.mono _ _ _ _ _ _ _ _ _)
   | (with_reducible exact LeO.refl _)
   | (with_reducible exact LeO.none _)
   | (with_reducible refine LeO.ite ?_ ?_)
   | (with_reducible refine LeO.bind ?_ (fun _ => ?_))
   | exact datetime_read.mono _ _ _ _ _ _ _ _ _
   | exact LeO.none _
   | refine LeO.ite ?_ ?_
   | refine LeO.bind ?_ (fun _ => ?_)
def datetime_ReadRecord.T4 : Bool × List (List Nat × List Nat) := (true, [([], []), ([0], [0]), ([1], [1]), ([2], [2]), ([], []), ([4], [4]), ([5], [5]), ([], []), ([7], [7]), ([8], [8]), ([], []), ([10], [10]), ([11], [11]), ([], []), ([13], [13]), ([14], [14]), ([], []), ([16], [16]), ([17], [17]), ([3, 6, 9, 12, 15, 18], [3, 6, 9, 12, 15, 18]), ([], []), ([], []), ([19, 20, 21], [19, 20, 21]), ([22], [22]), ([22], [22]), ([22], [22]), ([23, 22, 0, 1, 2, 3, 4, 5, 6, 7, 8, 9, 10, 11, 12, 13, 14, 15, 16, 17, 18, 19, 20, 21, 22, 23, 24, 25], [23]), ([24, 26, 0, 1, 2, 3, 4, 5, 6, 7, 8, 9, 10, 11, 12, 13, 14, 15, 16, 17, 18, 19, 20, 21, 22, 23, 24, 25, 26], [24]), ([25, 27, 0, 1, 2, 3, 4, 5, 6, 7, 8, 9, 10, 11, 12, 13, 14, 15, 16, 17, 18, 19, 20, 21, 22, 23, 24, 25, 26, 27], [25])])
def datetime_ReadRecord.B4 : List Nat := [0, 1, 3, 7, 0, 16, 48, 0, 128, 384, 0, 1024, 3072, 0, 8192, 24576, 0, 65536, 196608, 524287, 0, 0, 4194303, 8388607, 8388607, 8388607, 67108863, 134217727, 268435455]
theorem datetime_ReadRecord.tab4 : rtab .any (opsOf Tryd.f21 4) = datetime_ReadRecord.T4 := by kernel_rfl
theorem datetime_ReadRecord.bits4 : waitsOk datetime_ReadRecord.T4.2 datetime_ReadRecord.B4 = true := by kernel_rfl
set_option maxHeartbeats 8000000 in
set_option maxRecDepth 100000 in
theorem datetime_ReadRecord.calls (k : Nat) (a0 : ByteArray) (r1 : Int) (r2 : Int) (r3 : Int) (w : World) (h : datetime_ReadRecord.f k a0 = some (r1, r2, r3)) :
  Calls Tryd.prog 21 #[.string a0] w fun e w' => e = .returned (.tuple #[.int .i64 r1, .int .i64 r2, .int .i64 r3]) ∧ Below w.heap.size w w' := by
 have hu23 := Tryd.underlying23
 have HB := Aside0.mk (Below.refl w.heap.size w)
 have H : (if (a0.size : Int) = 7 then (if 6 < (a0.size : Int) then ((datetime_quarter.f (bt a0 6)).bind fun bt289 => (if 0 < (a0.size : Int) then (if 1 < (a0.size : Int) then (if 2 < (a0.size : Int) then (if 3 < (a0.size : Int) then (if 4 < (a0.size : Int) then (if 5 < (a0.size : Int) then ((datetime_read.f k (wrap64 (1900 + (wrap64 (bt a0 0)))) (wrap64 (bt a0 1)) (wrap64 (bt a0 2)) (wrap64 (bt a0 3)) (wrap64 (bt a0 4)) (wrap64 (bt a0 5)) bt289.1 bt289.2).bind fun bt291 => (some (bt291.1, bt291.2.1, bt291.2.2))) else (none)) else (none)) else (none)) else (none)) else (none)) else (none))) else (none)) else (some (0, 0, 1))) = some (r1, r2, r3) := h
 clear h
 by_cases c2 : (a0.size : Int) = 7
 ·rw [if_pos c2] at H
  have c2b0 : ((a0.size : Int) == 7) = true := beq_iff_eq.mpr c2
  have c2b1 : ((a0.size : Int) != 7) = false := bne_eq_false_iff_eq.mpr c2
  clear c2
  by_cases c3 : 6 < (a0.size : Int)
  ·rw [if_pos c3] at H
   have c3b0 : decide (6 < (a0.size : Int)) = true := decide_eq_true c3
   have c3b1 : decide (6 < a0.size) = true := decide_eq_true (by omega)
   clear c3
   replace H := Option.bind_eq_some_iff.mp H
   obtain ⟨⟨t289, t290⟩, A50, H⟩ := H
   replace H : (if 0 < (a0.size : Int) then (if 1 < (a0.size : Int) then (if 2 < (a0.size : Int) then (if 3 < (a0.size : Int) then (if 4 < (a0.size : Int) then (if 5 < (a0.size : Int) then ((datetime_read.f k (wrap64 (1900 + (wrap64 (bt a0 0)))) (wrap64 (bt a0 1)) (wrap64 (bt a0 2)) (wrap64 (bt a0 3)) (wrap64 (bt a0 4)) (wrap64 (bt a0 5)) t289 t290).bind fun bt291 => (some (bt291.1, bt291.2.1, bt291.2.2))) else (none)) else (none)) else (none)) else (none)) else (none)) else (none)) = some (r1, r2, r3) := H
   have A5 := Aside0.mk A50
   clear A50
   by_cases c6 : 0 < (a0.size : Int)
   ·rw [if_pos c6] at H
    have c6b0 : decide (0 < (a0.size : Int)) = true := decide_eq_true c6
    have c6b1 : decide (0 < a0.size) = true := decide_eq_true (by omega)
    clear c6
    by_cases c8 : 1 < (a0.size : Int)
    ·rw [if_pos c8] at H
     have c8b0 : decide (1 < (a0.size : Int)) = true := decide_eq_true c8
     have c8b1 : decide (1 < a0.size) = true := decide_eq_true (by omega)
     clear c8
     by_cases c10 : 2 < (a0.size : Int)
     ·rw [if_pos c10] at H
      have c10b0 : decide (2 < (a0.size : Int)) = true := decide_eq_true c10
      have c10b1 : decide (2 < a0.size) = true := decide_eq_true (by omega)
      clear c10
      by_cases c12 : 3 < (a0.size : Int)
      ·rw [if_pos c12] at H
       have c12b0 : decide (3 < (a0.size : Int)) = true := decide_eq_true c12
       have c12b1 : decide (3 < a0.size) = true := decide_eq_true (by omega)
       clear c12
       by_cases c14 : 4 < (a0.size : Int)
       ·rw [if_pos c14] at H
        have c14b0 : decide (4 < (a0.size : Int)) = true := decide_eq_true c14
        have c14b1 : decide (4 < a0.size) = true := decide_eq_true (by omega)
        clear c14
        by_cases c16 : 5 < (a0.size : Int)
        ·rw [if_pos c16] at H
         have c16b0 : decide (5 < (a0.size : Int)) = true := decide_eq_true c16
         have c16b1 : decide (5 < a0.size) = true := decide_eq_true (by omega)
         clear c16
         replace H := Option.bind_eq_some_iff.mp H
         obtain ⟨⟨t291, t292, t293⟩, A180, H⟩ := H
         replace H : (some (t291, t292, t293)) = some (r1, r2, r3) := H
         have A18 := Aside0.mk A180
         clear A180
         simp only [Option.some.injEq, Prod.mk.injEq] at H
         obtain ⟨rfl, rfl, rfl⟩ := H
         have p4 : 0 ≤ (6 : Int) := (by omega)
         have q4 : 6 < a0.size := (by have : (6 : Int) < (a0.size : Int) := of_decide_eq_true (by first | (with_reducible assumption) | assumption); omega)
         have hx4 : ∀ h : 6 < a0.size, ((a0[6]'h).toNat : Int) = bt a0 6 := bt_at a0 6
         clear p4
         have qi4 : (6 < (a0.size : Int)) = True := eq_true (of_decide_eq_true (by first | (with_reducible assumption) | assumption))
         replace q4 := eq_true q4
         go_enter Tryd.func21, Tryd.ntmps21
         try go_wp2_with (first | ((with_reducible refine gate_callee (f := 44) rfl ?_); refine goesL_ (some 13) rfl rfl Tryd.func44 (by kernel_rfl) rfl #[.int .u8 (bt a0 6)] rfl (by ((try simp only [List.map_toArray, List.map_cons, List.map_nil]); first | done | rfl | (simp only [List.length_drop, List.length_take]; rfl))) ?_; (with_reducible refine (datetime_quarter.calls (bt a0 6) t289 t290 _ A5.out).mono ?_); rintro e w' ⟨rfl, ⟨nd, rfl⟩⟩; refine ⟨_, rfl, ?_⟩))
         have n0_ : Aside0 (Below w.heap.size w (w.drewN nd).drew) := Aside0.mk (below_drew1 (pw_below_drewN HB.out nd))
         clear HB
         have HB := n0_
         clear n0_
         have p7 : 0 ≤ (0 : Int) := (by omega)
         have q7 : 0 < a0.size := (by have : (0 : Int) < (a0.size : Int) := of_decide_eq_true (by first | (with_reducible assumption) | assumption); omega)
         have hx7 : ∀ h : 0 < a0.size, ((a0[0]'h).toNat : Int) = bt a0 0 := bt_at a0 0
         clear p7
         have qi7 : (0 < (a0.size : Int)) = True := eq_true (of_decide_eq_true (by first | (with_reducible assumption) | assumption))
         replace q7 := eq_true q7
         have p9 : 0 ≤ (1 : Int) := (by omega)
         have q9 : 1 < a0.size := (by have : (1 : Int) < (a0.size : Int) := of_decide_eq_true (by first | (with_reducible assumption) | assumption); omega)
         have hx9 : ∀ h : 1 < a0.size, ((a0[1]'h).toNat : Int) = bt a0 1 := bt_at a0 1
         clear p9
         have qi9 : (1 < (a0.size : Int)) = True := eq_true (of_decide_eq_true (by first | (with_reducible assumption) | assumption))
         replace q9 := eq_true q9
         have p11 : 0 ≤ (2 : Int) := (by omega)
         have q11 : 2 < a0.size := (by have : (2 : Int) < (a0.size : Int) := of_decide_eq_true (by first | (with_reducible assumption) | assumption); omega)
         have hx11 : ∀ h : 2 < a0.size, ((a0[2]'h).toNat : Int) = bt a0 2 := bt_at a0 2
         clear p11
         have qi11 : (2 < (a0.size : Int)) = True := eq_true (of_decide_eq_true (by first | (with_reducible assumption) | assumption))
         replace q11 := eq_true q11
         have p13 : 0 ≤ (3 : Int) := (by omega)
         have q13 : 3 < a0.size := (by have : (3 : Int) < (a0.size : Int) := of_decide_eq_true (by first | (with_reducible assumption) | assumption); omega)
         have hx13 : ∀ h : 3 < a0.size, ((a0[3]'h).toNat : Int) = bt a0 3 := bt_at a0 3
         clear p13
         have qi13 : (3 < (a0.size : Int)) = True := eq_true (of_decide_eq_true (by first | (with_reducible assumption) | assumption))
         replace q13 := eq_true q13
         have p15 : 0 ≤ (4 : Int) := (by omega)
         have q15 : 4 < a0.size := (by have : (4 : Int) < (a0.size : Int) := of_decide_eq_true (by first | (with_reducible assumption) | assumption); omega)
         have hx15 : ∀ h : 4 < a0.size, ((a0[4]'h).toNat : Int) = bt a0 4 := bt_at a0 4
         clear p15
         have qi15 : (4 < (a0.size : Int)) = True := eq_true (of_decide_eq_true (by first | (with_reducible assumption) | assumption))
         replace q15 := eq_true q15
         have p17 : 0 ≤ (5 : Int) := (by omega)
         have q17 : 5 < a0.size := (by have : (5 : Int) < (a0.size : Int) := of_decide_eq_true (by first | (with_reducible assumption) | assumption); omega)
         have hx17 : ∀ h : 5 < a0.size, ((a0[5]'h).toNat : Int) = bt a0 5 := bt_at a0 5
         clear p17
         have qi17 : (5 < (a0.size : Int)) = True := eq_true (of_decide_eq_true (by first | (with_reducible assumption) | assumption))
         replace q17 := eq_true q17
         refine start_ (n := 29) (S := fun w' => True) (ds := []) #[false, false, false, false, false, false, false, false, false, false, false, false, false, false, false, false, false, false, false, false, false, false, false, false, false, false, false, false, false] (by kernel_rfl) rfl rfl trivial (fun hHeld => ?_); refine with_tabW datetime_ReadRecord.tab4 datetime_ReadRecord.bits4 (fun HT_ HW_ => ?_)
         generalize (w.drewN nd).drew = w19 at HB hHeld ⊢
         refine pure_ (i := 0) (N := some 16) (v := ?_) (a' := ?_) #[true, false, false, false, false, false, false, false, false, false, false, false, false, false, false, false, false, false, false, false, false, false, false, false, false, false, false, false, false] rfl rfl (any_of HT_.out (by kernel_rfl)) (fun _ _ _ h => h) (Or.inl ⟨by rfl, ?_⟩) ?_ ?_
         (rotate_left; (focus (intro w'; go_simp; with_reducible rfl)); rotate_left; (focus (simp only [Act.put, List.setIfInBounds_toArray, List.set_cons_zero, List.set_cons_succ, i64_w, i32_w]; rfl)))
         refine pure_ (i := 4) (N := some 20) (v := ?_) (a' := ?_) #[true, false, false, false, true, false, false, false, false, false, false, false, false, false, false, false, false, false, false, false, false, false, false, false, false, false, false, false, false] rfl rfl (any_of HT_.out (by kernel_rfl)) (fun _ _ _ h => h) (Or.inl ⟨by rfl, ?_⟩) ?_ ?_
         (rotate_left; (focus (intro w'; go_simp; with_reducible rfl)); rotate_left; (focus (simp only [Act.put, List.setIfInBounds_toArray, List.set_cons_zero, List.set_cons_succ, i64_w, i32_w]; rfl)))
         refine pure_ (i := 7) (N := some 23) (v := ?_) (a' := ?_) #[true, false, false, false, true, false, false, true, false, false, false, false, false, false, false, false, false, false, false, false, false, false, false, false, false, false, false, false, false] rfl rfl (any_of HT_.out (by kernel_rfl)) (fun _ _ _ h => h) (Or.inl ⟨by rfl, ?_⟩) ?_ ?_
         (rotate_left; (focus (intro w'; go_simp; with_reducible rfl)); rotate_left; (focus (simp only [Act.put, List.setIfInBounds_toArray, List.set_cons_zero, List.set_cons_succ, i64_w, i32_w]; rfl)))
         refine pure_ (i := 10) (N := some 26) (v := ?_) (a' := ?_) #[true, false, false, false, true, false, false, true, false, false, true, false, false, false, false, false, false, false, false, false, false, false, false, false, false, false, false, false, false] rfl rfl (any_of HT_.out (by kernel_rfl)) (fun _ _ _ h => h) (Or.inl ⟨by rfl, ?_⟩) ?_ ?_
         (rotate_left; (focus (intro w'; go_simp; with_reducible rfl)); rotate_left; (focus (simp only [Act.put, List.setIfInBounds_toArray, List.set_cons_zero, List.set_cons_succ, i64_w, i32_w]; rfl)))
         refine pure_ (i := 13) (N := some 29) (v := ?_) (a' := ?_) #[true, false, false, false, true, false, false, true, false, false, true, false, false, true, false, false, false, false, false, false, false, false, false, false, false, false, false, false, false] rfl rfl (any_of HT_.out (by kernel_rfl)) (fun _ _ _ h => h) (Or.inl ⟨by rfl, ?_⟩) ?_ ?_
         (rotate_left; (focus (intro w'; go_simp; with_reducible rfl)); rotate_left; (focus (simp only [Act.put, List.setIfInBounds_toArray, List.set_cons_zero, List.set_cons_succ, i64_w, i32_w]; rfl)))
         refine pure_ (i := 16) (N := some 32) (v := ?_) (a' := ?_) #[true, false, false, false, true, false, false, true, false, false, true, false, false, true, false, false, true, false, false, false, false, false, false, false, false, false, false, false, false] rfl rfl (any_of HT_.out (by kernel_rfl)) (fun _ _ _ h => h) (Or.inl ⟨by rfl, ?_⟩) ?_ ?_
         (rotate_left; (focus (intro w'; go_simp; with_reducible rfl)); rotate_left; (focus (simp only [Act.put, List.setIfInBounds_toArray, List.set_cons_zero, List.set_cons_succ, i64_w, i32_w]; rfl)))
         refine pure_ (i := 20) (N := some 36) (v := ?_) (a' := ?_) #[true, false, false, false, true, false, false, true, false, false, true, false, false, true, false, false, true, false, false, false, true, false, false, false, false, false, false, false, false] rfl rfl (any_of HT_.out (by kernel_rfl)) (fun _ _ _ h => h) (Or.inl ⟨by rfl, ?_⟩) ?_ ?_
         (rotate_left; (focus (intro w'; go_simp; with_reducible rfl)); rotate_left; (focus (simp only [Act.put, List.setIfInBounds_toArray, List.set_cons_zero, List.set_cons_succ, i64_w, i32_w]; rfl)))
         refine pure_ (i := 21) (N := some 37) (v := ?_) (a' := ?_) #[true, false, false, false, true, false, false, true, false, false, true, false, false, true, false, false, true, false, false, false, true, true, false, false, false, false, false, false, false] rfl rfl (any_of HT_.out (by kernel_rfl)) (fun _ _ _ h => h) (Or.inl ⟨by rfl, ?_⟩) ?_ ?_
         (rotate_left; (focus (intro w'; go_simp; with_reducible rfl)); rotate_left; (focus (simp only [Act.put, List.setIfInBounds_toArray, List.set_cons_zero, List.set_cons_succ, i64_w, i32_w]; rfl)))
         refine take_ (i := 1) (N := some 17) (v := ?_) (a' := ?_) #[true, true, false, false, true, false, false, true, false, false, true, false, false, true, false, false, true, false, false, false, true, true, false, false, false, false, false, false, false] rfl rfl (take_ofW HT_.out HW_.out (by kernel_rfl)) (fun _ _ _ h => h) (Or.inl ⟨by rfl, ?_⟩) hHeld ?_ ?_
         (rotate_left; (focus (intro w' _; go_simp; with_reducible rfl)); rotate_left; (focus (simp only [Act.put, List.setIfInBounds_toArray, List.set_cons_zero, List.set_cons_succ, i64_w, i32_w]; rfl)))
         refine pure_ (i := 2) (N := some 18) (v := ?_) (a' := ?_) #[true, true, true, false, true, false, false, true, false, false, true, false, false, true, false, false, true, false, false, false, true, true, false, false, false, false, false, false, false] rfl rfl (any_of HT_.out (by kernel_rfl)) (fun _ _ _ h => h) (Or.inl ⟨by rfl, ?_⟩) ?_ ?_
         (rotate_left; (focus (intro w'; go_simp; with_reducible rfl)); rotate_left; (focus (simp only [Act.put, List.setIfInBounds_toArray, List.set_cons_zero, List.set_cons_succ, i64_w, i32_w]; rfl)))
         refine pure_ (i := 3) (N := some 19) (v := ?_) (a' := ?_) #[true, true, true, true, true, false, false, true, false, false, true, false, false, true, false, false, true, false, false, false, true, true, false, false, false, false, false, false, false] rfl rfl (any_of HT_.out (by kernel_rfl)) (fun _ _ _ h => h) (Or.inl ⟨by rfl, ?_⟩) ?_ ?_
         (rotate_left; (focus (intro w'; go_simp; with_reducible rfl)); rotate_left; (focus (simp only [Act.put, List.setIfInBounds_toArray, List.set_cons_zero, List.set_cons_succ, i64_w, i32_w]; rfl)))
         refine take_ (i := 5) (N := some 21) (v := ?_) (a' := ?_) #[true, true, true, true, true, true, false, true, false, false, true, false, false, true, false, false, true, false, false, false, true, true, false, false, false, false, false, false, false] rfl rfl (take_ofW HT_.out HW_.out (by kernel_rfl)) (fun _ _ _ h => h) (Or.inl ⟨by rfl, ?_⟩) hHeld ?_ ?_
         (rotate_left; (focus (intro w' _; go_simp; with_reducible rfl)); rotate_left; (focus (simp only [Act.put, List.setIfInBounds_toArray, List.set_cons_zero, List.set_cons_succ, i64_w, i32_w]; rfl)))
         refine pure_ (i := 6) (N := some 22) (v := ?_) (a' := ?_) #[true, true, true, true, true, true, true, true, false, false, true, false, false, true, false, false, true, false, false, false, true, true, false, false, false, false, false, false, false] rfl rfl (any_of HT_.out (by kernel_rfl)) (fun _ _ _ h => h) (Or.inl ⟨by rfl, ?_⟩) ?_ ?_
         (rotate_left; (focus (intro w'; go_simp; with_reducible rfl)); rotate_left; (focus (simp only [Act.put, List.setIfInBounds_toArray, List.set_cons_zero, List.set_cons_succ, i64_w, i32_w]; rfl)))
         refine take_ (i := 8) (N := some 24) (v := ?_) (a' := ?_) #[true, true, true, true, true, true, true, true, true, false, true, false, false, true, false, false, true, false, false, false, true, true, false, false, false, false, false, false, false] rfl rfl (take_ofW HT_.out HW_.out (by kernel_rfl)) (fun _ _ _ h => h) (Or.inl ⟨by rfl, ?_⟩) hHeld ?_ ?_
         (rotate_left; (focus (intro w' _; go_simp; with_reducible rfl)); rotate_left; (focus (simp only [Act.put, List.setIfInBounds_toArray, List.set_cons_zero, List.set_cons_succ, i64_w, i32_w]; rfl)))
         refine pure_ (i := 9) (N := some 25) (v := ?_) (a' := ?_) #[true, true, true, true, true, true, true, true, true, true, true, false, false, true, false, false, true, false, false, false, true, true, false, false, false, false, false, false, false] rfl rfl (any_of HT_.out (by kernel_rfl)) (fun _ _ _ h => h) (Or.inl ⟨by rfl, ?_⟩) ?_ ?_
         (rotate_left; (focus (intro w'; go_simp; with_reducible rfl)); rotate_left; (focus (simp only [Act.put, List.setIfInBounds_toArray, List.set_cons_zero, List.set_cons_succ, i64_w, i32_w]; rfl)))
         refine take_ (i := 11) (N := some 27) (v := ?_) (a' := ?_) #[true, true, true, true, true, true, true, true, true, true, true, true, false, true, false, false, true, false, false, false, true, true, false, false, false, false, false, false, false] rfl rfl (take_ofW HT_.out HW_.out (by kernel_rfl)) (fun _ _ _ h => h) (Or.inl ⟨by rfl, ?_⟩) hHeld ?_ ?_
         (rotate_left; (focus (intro w' _; go_simp; with_reducible rfl)); rotate_left; (focus (simp only [Act.put, List.setIfInBounds_toArray, List.set_cons_zero, List.set_cons_succ, i64_w, i32_w]; rfl)))
         refine pure_ (i := 12) (N := some 28) (v := ?_) (a' := ?_) #[true, true, true, true, true, true, true, true, true, true, true, true, true, true, false, false, true, false, false, false, true, true, false, false, false, false, false, false, false] rfl rfl (any_of HT_.out (by kernel_rfl)) (fun _ _ _ h => h) (Or.inl ⟨by rfl, ?_⟩) ?_ ?_
         (rotate_left; (focus (intro w'; go_simp; with_reducible rfl)); rotate_left; (focus (simp only [Act.put, List.setIfInBounds_toArray, List.set_cons_zero, List.set_cons_succ, i64_w, i32_w]; rfl)))
         refine take_ (i := 14) (N := some 30) (v := ?_) (a' := ?_) #[true, true, true, true, true, true, true, true, true, true, true, true, true, true, true, false, true, false, false, false, true, true, false, false, false, false, false, false, false] rfl rfl (take_ofW HT_.out HW_.out (by kernel_rfl)) (fun _ _ _ h => h) (Or.inl ⟨by rfl, ?_⟩) hHeld ?_ ?_
         (rotate_left; (focus (intro w' _; go_simp; with_reducible rfl)); rotate_left; (focus (simp only [Act.put, List.setIfInBounds_toArray, List.set_cons_zero, List.set_cons_succ, i64_w, i32_w]; rfl)))
         refine pure_ (i := 15) (N := some 31) (v := ?_) (a' := ?_) #[true, true, true, true, true, true, true, true, true, true, true, true, true, true, true, true, true, false, false, false, true, true, false, false, false, false, false, false, false] rfl rfl (any_of HT_.out (by kernel_rfl)) (fun _ _ _ h => h) (Or.inl ⟨by rfl, ?_⟩) ?_ ?_
         (rotate_left; (focus (intro w'; go_simp; with_reducible rfl)); rotate_left; (focus (simp only [Act.put, List.setIfInBounds_toArray, List.set_cons_zero, List.set_cons_succ, i64_w, i32_w]; rfl)))
         refine take_ (i := 17) (N := some 33) (v := ?_) (a' := ?_) #[true, true, true, true, true, true, true, true, true, true, true, true, true, true, true, true, true, true, false, false, true, true, false, false, false, false, false, false, false] rfl rfl (take_ofW HT_.out HW_.out (by kernel_rfl)) (fun _ _ _ h => h) (Or.inl ⟨by rfl, ?_⟩) hHeld ?_ ?_
         (rotate_left; (focus (intro w' _; go_simp; with_reducible rfl)); rotate_left; (focus (simp only [Act.put, List.setIfInBounds_toArray, List.set_cons_zero, List.set_cons_succ, i64_w, i32_w]; rfl)))
         refine pure_ (i := 18) (N := some 34) (v := ?_) (a' := ?_) #[true, true, true, true, true, true, true, true, true, true, true, true, true, true, true, true, true, true, true, false, true, true, false, false, false, false, false, false, false] rfl rfl (any_of HT_.out (by kernel_rfl)) (fun _ _ _ h => h) (Or.inl ⟨by rfl, ?_⟩) ?_ ?_
         (rotate_left; (focus (intro w'; go_simp; with_reducible rfl)); rotate_left; (focus (simp only [Act.put, List.setIfInBounds_toArray, List.set_cons_zero, List.set_cons_succ, i64_w, i32_w]; rfl)))
         refine pure_ (i := 19) (N := some 35) (v := ?_) (a' := ?_) #[true, true, true, true, true, true, true, true, true, true, true, true, true, true, true, true, true, true, true, true, true, true, false, false, false, false, false, false, false] rfl rfl (any_of HT_.out (by kernel_rfl)) (fun _ _ _ h => h) (Or.inl ⟨by rfl, ?_⟩) ?_ ?_
         (rotate_left; (focus (intro w'; go_simp; with_reducible rfl)); rotate_left; (focus (simp only [Act.put, List.setIfInBounds_toArray, List.set_cons_zero, List.set_cons_succ, i64_w, i32_w]; rfl)))
         refine one_ (i := 22) (N := some 38) #[true, true, true, true, true, true, true, true, true, true, true, true, true, true, true, true, true, true, true, true, true, true, true, false, false, false, false, false, false] rfl rfl (one_of HT_.out (by kernel_rfl)) (by decide) (fun K hK => ?_)
         refine goes_ Tryd.func45 (by kernel_rfl) rfl #[.agg #[.int .i64 (wrap64 (1900 + (wrap64 (bt a0 0)))), .int .i64 (wrap64 (bt a0 1)), .int .i64 (wrap64 (bt a0 2)), .int .i64 (wrap64 (bt a0 3)), .int .i64 (wrap64 (bt a0 4)), .int .i64 (wrap64 (bt a0 5))], .int .i64 t289, .bool t290] (by rfl) rfl rfl (by ((try simp only [List.map_toArray, List.map_cons, List.map_nil]); first | done | rfl | (simp only [List.length_drop, List.length_take]; rfl))) ?_
         with_reducible refine (datetime_read.calls k (wrap64 (1900 + (wrap64 (bt a0 0)))) (wrap64 (bt a0 1)) (wrap64 (bt a0 2)) (wrap64 (bt a0 3)) (wrap64 (bt a0 4)) (wrap64 (bt a0 5)) t289 t290 t291 t292 t293 _ A18.out).mono ?_
         rintro e w20 ⟨rfl, hb⟩
         refine ⟨_, rfl, ?_⟩
         have n0_ := Aside0.mk (below_step (by repeat (first | (with_reducible first | exact HB.out | apply below_alloc | apply pw_below_drewN | apply below_drew1) | exact HB.out)) hb)
         clear HB
         have HB := n0_
         clear n0_
         (try clear hb)
         (try clear hb2)
         (try clear hk)
         (try clear hi)
         refine hK.out _ _ trivial (fun hHeld => ?_)
         clear hK K
         refine norm_ (a' := ?_) ?_ ?_
         rotate_left
         ·show Act.put _ (some 38) _ = _
          simp only [Act.put, List.setIfInBounds_toArray, List.set_cons_zero, List.set_cons_succ, i64_w, i32_w]
          rfl
         refine pure_ (i := 23) (N := some 39) (v := ?_) (a' := ?_) #[true, true, true, true, true, true, true, true, true, true, true, true, true, true, true, true, true, true, true, true, true, true, true, true, false, false, false, false, false] rfl rfl (any_of HT_.out (by kernel_rfl)) (fun _ _ _ h => h) (Or.inl ⟨by rfl, ?_⟩) ?_ ?_
         (rotate_left; (focus (intro w'; go_simp; with_reducible rfl)); rotate_left; (focus (simp only [Act.put, List.setIfInBounds_toArray, List.set_cons_zero, List.set_cons_succ, i64_w, i32_w]; rfl)))
         refine pure_ (i := 24) (N := some 40) (v := ?_) (a' := ?_) #[true, true, true, true, true, true, true, true, true, true, true, true, true, true, true, true, true, true, true, true, true, true, true, true, true, false, false, false, false] rfl rfl (any_of HT_.out (by kernel_rfl)) (fun _ _ _ h => h) (Or.inl ⟨by rfl, ?_⟩) ?_ ?_
         (rotate_left; (focus (intro w'; go_simp; with_reducible rfl)); rotate_left; (focus (simp only [Act.put, List.setIfInBounds_toArray, List.set_cons_zero, List.set_cons_succ, i64_w, i32_w]; rfl)))
         refine pure_ (i := 25) (N := some 41) (v := ?_) (a' := ?_) #[true, true, true, true, true, true, true, true, true, true, true, true, true, true, true, true, true, true, true, true, true, true, true, true, true, true, false, false, false] rfl rfl (any_of HT_.out (by kernel_rfl)) (fun _ _ _ h => h) (Or.inl ⟨by rfl, ?_⟩) ?_ ?_
         (rotate_left; (focus (intro w'; go_simp; with_reducible rfl)); rotate_left; (focus (simp only [Act.put, List.setIfInBounds_toArray, List.set_cons_zero, List.set_cons_succ, i64_w, i32_w]; rfl)))
         refine pure_ (i := 26) (N := some 2) (v := ?_) (a' := ?_) #[true, true, true, true, true, true, true, true, true, true, true, true, true, true, true, true, true, true, true, true, true, true, true, true, true, true, true, false, false] rfl rfl (any_of HT_.out (by kernel_rfl)) (fun _ _ _ h => h) (Or.inl ⟨by rfl, ?_⟩) ?_ ?_
         (rotate_left; (focus (intro w'; go_simp; with_reducible rfl)); rotate_left; (focus (simp only [Act.put, List.setIfInBounds_toArray, List.set_cons_zero, List.set_cons_succ, i64_w, i32_w]; rfl)))
         refine pure_ (i := 27) (N := some 3) (v := ?_) (a' := ?_) #[true, true, true, true, true, true, true, true, true, true, true, true, true, true, true, true, true, true, true, true, true, true, true, true, true, true, true, true, false] rfl rfl (any_of HT_.out (by kernel_rfl)) (fun _ _ _ h => h) (Or.inl ⟨by rfl, ?_⟩) ?_ ?_
         (rotate_left; (focus (intro w'; go_simp; with_reducible rfl)); rotate_left; (focus (simp only [Act.put, List.setIfInBounds_toArray, List.set_cons_zero, List.set_cons_succ, i64_w, i32_w]; rfl)))
         refine pure_ (i := 28) (N := some 4) (v := ?_) (a' := ?_) #[true, true, true, true, true, true, true, true, true, true, true, true, true, true, true, true, true, true, true, true, true, true, true, true, true, true, true, true, true] rfl rfl (any_of HT_.out (by kernel_rfl)) (fun _ _ _ h => h) (Or.inl ⟨by rfl, ?_⟩) ?_ ?_
         (rotate_left; (focus (intro w'; go_simp; with_reducible rfl)); rotate_left; (focus (simp only [Act.put, List.setIfInBounds_toArray, List.set_cons_zero, List.set_cons_succ, i64_w, i32_w]; rfl)))
         refine done_ (done_of HT_.out (by kernel_rfl)) ?_
         try go_wp2
         go_ret3
         exact ⟨by (first | rfl | (simp [errW_none, errW_some] <;> rfl) | (simp [*, errW_none, errW_some] <;> rfl)), by repeat (first | (with_reducible first | exact HB.out | apply below_alloc | apply pw_below_drewN | apply below_drew1) | exact HB.out)⟩
        ·rw [if_neg c16] at H
         exact absurd H (by simp)
       ·rw [if_neg c14] at H
        exact absurd H (by simp)
      ·rw [if_neg c12] at H
       exact absurd H (by simp)
     ·rw [if_neg c10] at H
      exact absurd H (by simp)
    ·rw [if_neg c8] at H
     exact absurd H (by simp)
   ·rw [if_neg c6] at H
    exact absurd H (by simp)
  ·rw [if_neg c3] at H
   exact absurd H (by simp)
 ·rw [if_neg c2] at H
  have c2b0 : ((a0.size : Int) == 7) = false := beq_eq_false_iff_ne.mpr c2
  have c2b1 : ((a0.size : Int) != 7) = true := bne_iff_ne.mpr c2
  simp only [Option.some.injEq, Prod.mk.injEq] at H
  obtain ⟨rfl, rfl, rfl⟩ := H
  go_enter Tryd.func21, Tryd.ntmps21
  go_wp2
  go_ret3
  exact ⟨by (first | rfl | (simp [errW_none, errW_some] <;> rfl) | (simp [*, errW_none, errW_some] <;> rfl)), by repeat (first | (with_reducible first | exact HB.out | apply below_alloc | apply pw_below_drewN | apply below_drew1) | exact HB.out)⟩

/-! ### masterdiscref16_zone: function 46 -/
def masterdiscref16_zone.f (a0 : Int) : Option (Int × Bool) := if (wrap64 (a0)) ≥ 128 then (if (wrap64 ((wrap64 (a0)) - 256)) ≥ (-48) then (some (wrap64 (15 * (wrap64 ((wrap64 (a0)) - 256))), decide ((wrap64 ((wrap64 (a0)) - 256)) ≤ 52))) else (some (wrap64 (15 * (wrap64 ((wrap64 (a0)) - 256))), false))) else (if (wrap64 (a0)) ≥ (-48) then (some (wrap64 (15 * (wrap64 (a0))), decide ((wrap64 (a0)) ≤ 52))) else (some (wrap64 (15 * (wrap64 (a0))), false)))
set_option maxHeartbeats 8000000 in
set_option maxRecDepth 100000 in
theorem masterdiscref16_zone.calls (a0 : Int) (r1 : Int) (r2 : Bool) (w : World) (h : masterdiscref16_zone.f a0 = some (r1, r2)) :
  Calls Tryd.prog 46 #[.int .u8 a0] w fun e w' => e = .returned (.tuple #[.int .i64 r1, .bool r2]) ∧ Drawn0 w w' := by
 have H : (if (wrap64 (a0)) ≥ 128 then (if (wrap64 ((wrap64 (a0)) - 256)) ≥ (-48) then (some (wrap64 (15 * (wrap64 ((wrap64 (a0)) - 256))), decide ((wrap64 ((wrap64 (a0)) - 256)) ≤ 52))) else (some (wrap64 (15 * (wrap64 ((wrap64 (a0)) - 256))), false))) else (if (wrap64 (a0)) ≥ (-48) then (some (wrap64 (15 * (wrap64 (a0))), decide ((wrap64 (a0)) ≤ 52))) else (some (wrap64 (15 * (wrap64 (a0))), false)))) = some (r1, r2) := h
 clear h
 by_cases c2 : (wrap64 (a0)) ≥ 128
 ·rw [if_pos c2] at H
  have c2b0 : decide (128 ≤ (wrap64 (a0))) = true := decide_eq_true c2
  clear c2
  by_cases c3 : (wrap64 ((wrap64 (a0)) - 256)) ≥ (-48)
  ·rw [if_pos c3] at H
   have c3b0 : decide ((-48) ≤ (wrap64 ((wrap64 (a0)) - 256))) = true := decide_eq_true c3
   clear c3
   simp only [Option.some.injEq, Prod.mk.injEq] at H
   obtain ⟨rfl, rfl⟩ := H
   go_enter Tryd.func46, Tryd.ntmps46
   go_wp2
   go_ret2
   exact ⟨by first | rfl | (simp; done) | (simp [*]; done), by repeat (first | exact Drawn0.refl _ | apply Drawn0.step)⟩
  ·rw [if_neg c3] at H
   have c3b0 : decide ((-48) ≤ (wrap64 ((wrap64 (a0)) - 256))) = false := decide_eq_false c3
   clear c3
   simp only [Option.some.injEq, Prod.mk.injEq] at H
   obtain ⟨rfl, rfl⟩ := H
   go_enter Tryd.func46, Tryd.ntmps46
   go_wp2
   go_ret2
   exact ⟨by first | rfl | (simp; done) | (simp [*]; done), by repeat (first | exact Drawn0.refl _ | apply Drawn0.step)⟩
 ·rw [if_neg c2] at H
  have c2b0 : decide (128 ≤ (wrap64 (a0))) = false := decide_eq_false c2
  clear c2
  by_cases c4 : (wrap64 (a0)) ≥ (-48)
  ·rw [if_pos c4] at H
   have c4b0 : decide ((-48) ≤ (wrap64 (a0))) = true := decide_eq_true c4
   clear c4
   simp only [Option.some.injEq, Prod.mk.injEq] at H
   obtain ⟨rfl, rfl⟩ := H
   go_enter Tryd.func46, Tryd.ntmps46
   go_wp2
   go_ret2
   exact ⟨by first | rfl | (simp; done) | (simp [*]; done), by repeat (first | exact Drawn0.refl _ | apply Drawn0.step)⟩
  ·rw [if_neg c4] at H
   have c4b0 : decide ((-48) ≤ (wrap64 (a0))) = false := decide_eq_false c4
   clear c4
   simp only [Option.some.injEq, Prod.mk.injEq] at H
   obtain ⟨rfl, rfl⟩ := H
   go_enter Tryd.func46, Tryd.ntmps46
   go_wp2
   go_ret2
   exact ⟨by first | rfl | (simp; done) | (simp [*]; done), by repeat (first | exact Drawn0.refl _ | apply Drawn0.step)⟩

/-! ### masterdiscref16_finish: function 47 -/
def masterdiscref16_finish.f (k : Nat) (a0_0 : Int) (a0_1 : Int) (a0_2 : Int) (a0_3 : Int) (a0_4 : Int) (a0_5 : Int) (a1 : Int) : Option (Int × Int × Int) := (masterdiscref16_seconds.f k a0_0 a0_1 a0_2 a0_3 a0_4 a0_5).bind fun t295 => ((masterdiscref16_Time.f (wrap64 (t295 - (wrap64 (60 * a1))))).bind fun t296 => (if t296 = true then (some (wrap64 (t295 - (wrap64 (60 * a1))), a1, 0)) else (some (0, 0, 2))))
theorem masterdiscref16_finish.mono : ∀ a0 a1 a2 a3 a4 a5 a6 k, LeO (masterdiscref16_finish.f k a0 a1 a2 a3 a4 a5 a6) (masterdiscref16_finish.f (k + 1) a0 a1 a2 a3 a4 a5 a6) := by
 intro a0 a1 a2 a3 a4 a5 a6 k
 unfold masterdiscref16_finish.f
 repeat' first
   | (with_reducible exact masterdiscref16_seconds.mono _ _ _ _ _ _ _)
   | (with_reducible exact LeO.refl _)
   | (with_reducible exact LeO.none _)
   | (with_reducible refine LeO.ite ?_ ?_)
   | (with_reducible refine LeO.bind ?_ (fun _ => ?_))
   | exact masterdiscref16_seconds.mono _ _ _ _ _ _ _
   | exact LeO.none _
   | refine LeO.ite ?_ ?_
   | refine LeO.bind ?_ (fun _ => ?_)
set_option maxHeartbeats 8000000 in
set_option maxRecDepth 100000 in
theorem masterdiscref16_finish.calls (k : Nat) (a0_0 : Int) (a0_1 : Int) (a0_2 : Int) (a0_3 : Int) (a0_4 : Int) (a0_5 : Int) (a1 : Int) (r1 : Int) (r2 : Int) (r3 : Int) (w : World) (h : masterdiscref16_finish.f k a0_0 a0_1 a0_2 a0_3 a0_4 a0_5 a1 = some (r1, r2, r3)) :
  Calls Tryd.prog 47 #[.agg #[.int .i64 a0_0, .int .i64 a0_1, .int .i64 a0_2, .int .i64 a0_3, .int .i64 a0_4, .int .i64 a0_5], .int .i64 a1] w fun e w' => e = .returned (.tuple #[.int .i64 r1, .int .i64 r2, .int .i64 r3]) ∧ Below w.heap.size w w' := by
 have hu23 := Tryd.underlying23
 have HB := Aside0.mk (Below.refl w.heap.size w)
 have H : ((masterdiscref16_seconds.f k a0_0 a0_1 a0_2 a0_3 a0_4 a0_5).bind fun t295 => ((masterdiscref16_Time.f (wrap64 (t295 - (wrap64 (60 * a1))))).bind fun t296 => (if t296 = true then (some (wrap64 (t295 - (wrap64 (60 * a1))), a1, 0)) else (some (0, 0, 2))))) = some (r1, r2, r3) := h
 clear h
 replace H := Option.bind_eq_some_iff.mp H
 obtain ⟨t295, A30, H⟩ := H
 replace H : ((masterdiscref16_Time.f (wrap64 (t295 - (wrap64 (60 * a1))))).bind fun t296 => (if t296 = true then (some (wrap64 (t295 - (wrap64 (60 * a1))), a1, 0)) else (some (0, 0, 2)))) = some (r1, r2, r3) := H
 have A3 := Aside0.mk A30
 clear A30
 replace H := Option.bind_eq_some_iff.mp H
 obtain ⟨t296, A40, H⟩ := H
 replace H : (if t296 = true then (some (wrap64 (t295 - (wrap64 (60 * a1))), a1, 0)) else (some (0, 0, 2))) = some (r1, r2, r3) := H
 have A4 := Aside0.mk A40
 clear A40
 by_cases c5 : t296 = true
 ·subst c5
  have H1 : (some (wrap64 (t295 - (wrap64 (60 * a1))), a1, 0)) = some (r1, r2, r3) := by rw [if_pos rfl] at H; exact H
  clear H
  have H := H1
  clear H1
  simp only [Option.some.injEq, Prod.mk.injEq] at H
  obtain ⟨rfl, rfl, rfl⟩ := H
  go_enter Tryd.func47, Tryd.ntmps47
  go_wp2_with (first | ((with_reducible refine gate_dst (N := 2) rfl ?_); refine box_event ?hg (N := 2) ?hd (cs := #[.int .i64 a0_0, .int .i64 a0_1, .int .i64 a0_2, .int .i64 a0_3, .int .i64 a0_4, .int .i64 a0_5]) (t := 23) ?hr ?_; (case hd => rfl); (case hg => rfl); (case hr => first | (go_simp; done) | (go_simp; rfl)); intro gb294 hg w6 hbox hb; have n0_ := Aside0.mk (below_step (by repeat (first | (with_reducible first | exact HB.out | apply below_alloc | apply pw_below_drewN | apply below_drew1) | exact HB.out)) hb); have n1_ := Aside0.mk (hbox); have n2_ := Aside0.mk ((by rw [hg]; exact (below_size (by repeat (first | (with_reducible first | exact HB.out | apply below_alloc | apply pw_below_drewN | apply below_drew1) | exact HB.out))) : w.heap.size ≤ gb294)); have n3_ := Aside0.mk ((by rw [hg]; exact (below_size (by repeat (first | (with_reducible first | exact HB.out | apply below_alloc | apply pw_below_drewN | apply below_drew1) | exact HB.out))) : w.heap.size ≤ gb294)); clear HB; have HB := n0_; have BK294 := n1_; have GW294 := n2_; have GE294 := n3_; clear n0_ n1_ n2_ n3_; clear hb hbox hg; have hcz7_0 : w6.cell? ⟨gb294, 0, none⟩ = some (.int .i64 a0_0) := (blk_cell BK294.out 0).trans rfl; have hcz7_1 : w6.cell? ⟨gb294, 1, none⟩ = some (.int .i64 a0_1) := (blk_cell BK294.out 1).trans rfl; have hcz7_2 : w6.cell? ⟨gb294, 2, none⟩ = some (.int .i64 a0_2) := (blk_cell BK294.out 2).trans rfl; have hcz7_3 : w6.cell? ⟨gb294, 3, none⟩ = some (.int .i64 a0_3) := (blk_cell BK294.out 3).trans rfl; have hcz7_4 : w6.cell? ⟨gb294, 4, none⟩ = some (.int .i64 a0_4) := (blk_cell BK294.out 4).trans rfl; have hcz7_5 : w6.cell? ⟨gb294, 5, none⟩ = some (.int .i64 a0_5) := (blk_cell BK294.out 5).trans rfl; have hfz7_0 := blk_frozen BK294.out 0; have hfz7_1 := blk_frozen BK294.out 1; have hfz7_2 := blk_frozen BK294.out 2; have hfz7_3 := blk_frozen BK294.out 3; have hfz7_4 := blk_frozen BK294.out 4; have hfz7_5 := blk_frozen BK294.out 5) | ((with_reducible refine gate_callee (f := 41) rfl ?_); refine goesL_ (some 9) rfl rfl Tryd.func41 (by kernel_rfl) rfl #[.agg #[.int .i64 a0_0, .int .i64 a0_1, .int .i64 a0_2, .int .i64 a0_3, .int .i64 a0_4, .int .i64 a0_5]] rfl (by ((try simp only [List.map_toArray, List.map_cons, List.map_nil]); first | done | rfl | (simp only [List.length_drop, List.length_take]; rfl))) ?_; (with_reducible refine (masterdiscref16_seconds.calls k a0_0 a0_1 a0_2 a0_3 a0_4 a0_5 t295 _ A3.out).mono ?_); rintro e w8 ⟨rfl, hb⟩; refine ⟨_, rfl, ?_⟩; have n0_ := Aside0.mk (blk_below (g := gb294) (o := .cells #[.int .i64 a0_0, .int .i64 a0_1, .int .i64 a0_2, .int .i64 a0_3, .int .i64 a0_4, .int .i64 a0_5] 23 (0, 0)) (by (with_reducible repeat (first | refine blk_drewN ?_ _ | refine blk_drew ?_ | refine blk_alloc ?_ _)); exact BK294.out) hb); have n1_ := Aside0.mk (below_step (by repeat (first | (with_reducible first | exact HB.out | apply below_alloc | apply pw_below_drewN | apply below_drew1 | refine below_set ?_ GE294.out) | exact HB.out)) hb); clear BK294; clear HB; have BK294 := n0_; have HB := n1_; clear n0_ n1_; ((try clear hb); (try clear hb2); (try clear hk); (try clear hi))) | ((with_reducible refine gate_callee (f := 16) rfl ?_); refine goesL_ (some 14) rfl rfl Tryd.func16 (by kernel_rfl) rfl #[.int .i64 (wrap64 (t295 - (wrap64 (60 * a1))))] rfl (by ((try simp only [List.map_toArray, List.map_cons, List.map_nil]); first | done | rfl | (simp only [List.length_drop, List.length_take]; rfl))) ?_; (with_reducible refine (masterdiscref16_Time.calls (wrap64 (t295 - (wrap64 (60 * a1)))) true _ A4.out).mono ?_); rintro e w' ⟨rfl, ⟨nd, rfl⟩⟩; refine ⟨_, rfl, ?_⟩))
  go_ret3
  exact ⟨by (first | rfl | (simp [errW_none, errW_some] <;> rfl) | (simp [*, errW_none, errW_some] <;> rfl)), by repeat (first | (with_reducible first | exact HB.out | apply below_alloc | apply pw_below_drewN | apply below_drew1 | refine below_set ?_ GE294.out) | exact HB.out)⟩
 ·replace c5 := Bool.eq_false_iff.mpr c5
  subst c5
  have H1 : (some (0, 0, 2)) = some (r1, r2, r3) := by rw [if_neg (show ¬ (false = true) by decide)] at H; exact H
  clear H
  have H := H1
  clear H1
  simp only [Option.some.injEq, Prod.mk.injEq] at H
  obtain ⟨rfl, rfl, rfl⟩ := H
  go_enter Tryd.func47, Tryd.ntmps47
  go_wp2_with (first | ((with_reducible refine gate_dst (N := 2) rfl ?_); refine box_event ?hg (N := 2) ?hd (cs := #[.int .i64 a0_0, .int .i64 a0_1, .int .i64 a0_2, .int .i64 a0_3, .int .i64 a0_4, .int .i64 a0_5]) (t := 23) ?hr ?_; (case hd => rfl); (case hg => rfl); (case hr => first | (go_simp; done) | (go_simp; rfl)); intro gb294 hg w9 hbox hb; have n0_ := Aside0.mk (below_step (by repeat (first | (with_reducible first | exact HB.out | apply below_alloc | apply pw_below_drewN | apply below_drew1) | exact HB.out)) hb); have n1_ := Aside0.mk (hbox); have n2_ := Aside0.mk ((by rw [hg]; exact (below_size (by repeat (first | (with_reducible first | exact HB.out | apply below_alloc | apply pw_below_drewN | apply below_drew1) | exact HB.out))) : w.heap.size ≤ gb294)); have n3_ := Aside0.mk ((by rw [hg]; exact (below_size (by repeat (first | (with_reducible first | exact HB.out | apply below_alloc | apply pw_below_drewN | apply below_drew1) | exact HB.out))) : w.heap.size ≤ gb294)); clear HB; have HB := n0_; have BK294 := n1_; have GW294 := n2_; have GE294 := n3_; clear n0_ n1_ n2_ n3_; clear hb hbox hg; have hcz10_0 : w9.cell? ⟨gb294, 0, none⟩ = some (.int .i64 a0_0) := (blk_cell BK294.out 0).trans rfl; have hcz10_1 : w9.cell? ⟨gb294, 1, none⟩ = some (.int .i64 a0_1) := (blk_cell BK294.out 1).trans rfl; have hcz10_2 : w9.cell? ⟨gb294, 2, none⟩ = some (.int .i64 a0_2) := (blk_cell BK294.out 2).trans rfl; have hcz10_3 : w9.cell? ⟨gb294, 3, none⟩ = some (.int .i64 a0_3) := (blk_cell BK294.out 3).trans rfl; have hcz10_4 : w9.cell? ⟨gb294, 4, none⟩ = some (.int .i64 a0_4) := (blk_cell BK294.out 4).trans rfl; have hcz10_5 : w9.cell? ⟨gb294, 5, none⟩ = some (.int .i64 a0_5) := (blk_cell BK294.out 5).trans rfl; have hfz10_0 := blk_frozen BK294.out 0; have hfz10_1 := blk_frozen BK294.out 1; have hfz10_2 := blk_frozen BK294.out 2; have hfz10_3 := blk_frozen BK294.out 3; have hfz10_4 := blk_frozen BK294.out 4; have hfz10_5 := blk_frozen BK294.out 5) | ((with_reducible refine gate_callee (f := 41) rfl ?_); refine goesL_ (some 9) rfl rfl Tryd.func41 (by kernel_rfl) rfl #[.agg #[.int .i64 a0_0, .int .i64 a0_1, .int .i64 a0_2, .int .i64 a0_3, .int .i64 a0_4, .int .i64 a0_5]] rfl (by ((try simp only [List.map_toArray, List.map_cons, List.map_nil]); first | done | rfl | (simp only [List.length_drop, List.length_take]; rfl))) ?_; (with_reducible refine (masterdiscref16_seconds.calls k a0_0 a0_1 a0_2 a0_3 a0_4 a0_5 t295 _ A3.out).mono ?_); rintro e w11 ⟨rfl, hb⟩; refine ⟨_, rfl, ?_⟩; have n0_ := Aside0.mk (blk_below (g := gb294) (o := .cells #[.int .i64 a0_0, .int .i64 a0_1, .int .i64 a0_2, .int .i64 a0_3, .int .i64 a0_4, .int .i64 a0_5] 23 (0, 0)) (by (with_reducible repeat (first | refine blk_drewN ?_ _ | refine blk_drew ?_ | refine blk_alloc ?_ _)); exact BK294.out) hb); have n1_ := Aside0.mk (below_step (by repeat (first | (with_reducible first | exact HB.out | apply below_alloc | apply pw_below_drewN | apply below_drew1 | refine below_set ?_ GE294.out) | exact HB.out)) hb); clear BK294; clear HB; have BK294 := n0_; have HB := n1_; clear n0_ n1_; ((try clear hb); (try clear hb2); (try clear hk); (try clear hi))) | ((with_reducible refine gate_callee (f := 16) rfl ?_); refine goesL_ (some 14) rfl rfl Tryd.func16 (by kernel_rfl) rfl #[.int .i64 (wrap64 (t295 - (wrap64 (60 * a1))))] rfl (by ((try simp only [List.map_toArray, List.map_cons, List.map_nil]); first | done | rfl | (simp only [List.length_drop, List.length_take]; rfl))) ?_; (with_reducible refine (masterdiscref16_Time.calls (wrap64 (t295 - (wrap64 (60 * a1)))) false _ A4.out).mono ?_); rintro e w' ⟨rfl, ⟨nd, rfl⟩⟩; refine ⟨_, rfl, ?_⟩))
  go_ret3
  exact ⟨by (first | rfl | (simp [errW_none, errW_some] <;> rfl) | (simp [*, errW_none, errW_some] <;> rfl)), by repeat (first | (with_reducible first | exact HB.out | apply below_alloc | apply pw_below_drewN | apply below_drew1 | refine below_set ?_ GE294.out) | exact HB.out)⟩

end Go.Proofs.YtnchkpheepbacaaDoor.Q
