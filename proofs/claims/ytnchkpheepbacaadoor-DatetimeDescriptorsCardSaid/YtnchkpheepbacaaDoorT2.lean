/- Printed for this session's own hand contracts by its own program; Lean checks every line. -/
import Derived.Test.YtnchkpheepbacaaDoorT1
namespace Go.Proofs.YtnchkpheepbacaaDoor.T
open Go.Proofs.YtnchkpheepbacaaDoor.Y
open Go.Proofs.YtnchkpheepbacaaDoor.Hand (HG HG.below)
open Go.RowKit Go.Proofs.YtnchkpheepbacaaDoorW.PrintWords Go.Proofs.YtnchkpheepbacaaDoorW.PrintLast Go.Proofs.YtnchkpheepbacaaDoorW.PrintMore
attribute [local go_sem] max2_int min2_int max_two min_two max_three min_three max_four min_four   -- for this text's walks alone
set_option linter.unusedVariables false
set_option linter.unusedSimpArgs false

/-! ### masterdiscref16_ReadDescriptor: function 30 -/
def masterdiscref16_ReadDescriptor.l0 : Nat → ByteArray → Int → Option (Int × Int × Int)
 | 0, _, _ => none
 | k + 1, x0, x5 => if x5 < 16 then (if 0 ≤ x5 then (if x5 < (x0.size : Int) then (if (bt x0 x5) < 48 then (some (0, 0, 10)) else (if (bt x0 x5) > 57 then (some (0, 0, 10)) else (masterdiscref16_ReadDescriptor.l0 k x0 (wrap64 (x5 + 1))))) else (none)) else (none)) else (if 0 ≤ 4 then (if 4 ≤ (x0.size : Int) then ((masterdiscref16_number.f k (x0.extract 0 4)).bind fun t125 => (if 4 ≤ 6 then (if 6 ≤ (x0.size : Int) then ((masterdiscref16_number.f k (x0.extract 4 6)).bind fun t126 => (if 6 ≤ 8 then (if 8 ≤ (x0.size : Int) then ((masterdiscref16_number.f k (x0.extract 6 8)).bind fun t127 => (if 8 ≤ 10 then (if 10 ≤ (x0.size : Int) then ((masterdiscref16_number.f k (x0.extract 8 10)).bind fun t128 => (if 10 ≤ 12 then (if 12 ≤ (x0.size : Int) then ((masterdiscref16_number.f k (x0.extract 10 12)).bind fun t129 => (if 12 ≤ 14 then (if 14 ≤ (x0.size : Int) then ((masterdiscref16_number.f k (x0.extract 12 14)).bind fun t130 => (if 16 < (x0.size : Int) then ((masterdiscref16_zone.f (bt x0 16)).bind fun bt132 => ((masterdiscref16_Valid.f t125 t126 t127 t128 t129 t130).bind fun t134 => (if t134 = true then (if bt132.2 = true then ((masterdiscref16_finish.f t125 t126 t127 t128 t129 t130 bt132.1).bind fun bt135 => (some (bt135.1, bt135.2.1, bt135.2.2))) else (some (0, 0, 10))) else (some (0, 0, 10))))) else (none))) else (none)) else (none))) else (none)) else (none))) else (none)) else (none))) else (none)) else (none))) else (none)) else (none))) else (none)) else (none))
def masterdiscref16_ReadDescriptor.f (k : Nat) (a0 : ByteArray) : Option (Int × Int × Int) := if (a0.size : Int) = 17 then ((masterdiscref16_Unspecified.f).bind fun t124 => (if a0.toList = t124.toList then (some (0, 0, 0)) else (masterdiscref16_ReadDescriptor.l0 k a0 0))) else (some (0, 0, 1))
theorem masterdiscref16_ReadDescriptor.mono_l : ∀ k, (∀ y0 y1, LeO (masterdiscref16_ReadDescriptor.l0 k y0 y1) (masterdiscref16_ReadDescriptor.l0 (k + 1) y0 y1))
 | 0 => fun _ _ r h => by simp [masterdiscref16_ReadDescriptor.l0] at h
 | k + 1 => by
  have ih0 := masterdiscref16_ReadDescriptor.mono_l k
  ·intro y0 y1
   unfold masterdiscref16_ReadDescriptor.l0
   repeat' first
   | (with_reducible exact ih0 _ _)
   | (with_reducible exact masterdiscref16_number.mono _ _)
   | (with_reducible exact LeO.refl _)
   | (with_reducible exact LeO.none _)
   | (with_reducible refine LeO.ite ?_ ?_)
   | (with_reducible refine LeO.bind ?_ (fun _ => ?_))
   | exact ih0 _ _
   | exact masterdiscref16_number.mono _ _
   | exact LeO.none _
   | refine LeO.ite ?_ ?_
   | refine LeO.bind ?_ (fun _ => ?_)
theorem masterdiscref16_ReadDescriptor.mono : ∀ a0 k, LeO (masterdiscref16_ReadDescriptor.f k a0) (masterdiscref16_ReadDescriptor.f (k + 1) a0) := by
 intro a0 k
 have ih0 := masterdiscref16_ReadDescriptor.mono_l k
 unfold masterdiscref16_ReadDescriptor.f
 repeat' first
   | (with_reducible exact ih0 _ _)
   | (with_reducible exact masterdiscref16_number.mono _ _)
   | (with_reducible exact LeO.refl _)
   | (with_reducible exact LeO.none _)
   | (with_reducible refine LeO.ite ?_ ?_)
   | (with_reducible refine LeO.bind ?_ (fun _ => ?_))
   | exact ih0 _ _
   | exact masterdiscref16_number.mono _ _
   | exact LeO.none _
   | refine LeO.ite ?_ ?_
   | refine LeO.bind ?_ (fun _ => ?_)
def masterdiscref16_ReadDescriptor.T10 : Bool × List (List Nat × List Nat) := (true, [([], []), ([0], [0]), ([1], [1]), ([], []), ([3], [3]), ([4, 2], [4]), ([], []), ([6], [6]), ([7, 5], [7]), ([], []), ([9], [9]), ([10, 8], [10]), ([], []), ([12], [12]), ([13, 11], [13]), ([], []), ([15], [15]), ([16, 14], [16]), ([2, 5, 8, 11, 14, 17], [2, 5, 8, 11, 14, 17]), ([], []), ([19, 18, 17, 0, 1, 2, 3, 4, 5, 6, 7, 8, 9, 10, 11, 12, 13, 14, 15, 16, 17, 18, 19], [18, 19])])
def masterdiscref16_ReadDescriptor.B10 : List Nat := [0, 1, 3, 0, 8, 31, 0, 64, 255, 0, 512, 2047, 0, 4096, 16383, 0, 32768, 131071, 262143, 0, 1048575]
theorem masterdiscref16_ReadDescriptor.tab10 : rtab .any (opsOf Tryd.f30 10) = masterdiscref16_ReadDescriptor.T10 := by kernel_rfl
theorem masterdiscref16_ReadDescriptor.bits10 : waitsOk masterdiscref16_ReadDescriptor.T10.2 masterdiscref16_ReadDescriptor.B10 = true := by kernel_rfl
set_option maxHeartbeats 8000000 in
set_option maxRecDepth 100000 in
theorem masterdiscref16_ReadDescriptor.calls (k : Nat) (a0 : ByteArray) (r1 : Int) (r2 : Int) (r3 : Int) (w : World) (h : masterdiscref16_ReadDescriptor.f k a0 = some (r1, r2, r3)) :
  Calls Tryd.prog 30 #[.string a0] w fun e w' => e = .returned (.tuple #[.int .i64 r1, .int .i64 r2, .int .i64 r3]) ∧ Below w.heap.size w w' := by
 have hu23 := Tryd.underlying23
 have HB := Aside0.mk (Below.refl w.heap.size w)
 have H : (if (a0.size : Int) = 17 then ((masterdiscref16_Unspecified.f).bind fun t124 => (if a0.toList = t124.toList then (some (0, 0, 0)) else (masterdiscref16_ReadDescriptor.l0 k a0 0))) else (some (0, 0, 1))) = some (r1, r2, r3) := h
 clear h
 by_cases c2 : (a0.size : Int) = 17
 ·rw [if_pos c2] at H
  have c2b0 : ((a0.size : Int) == 17) = true := beq_iff_eq.mpr c2
  have c2b1 : ((a0.size : Int) != 17) = false := bne_eq_false_iff_eq.mpr c2
  clear c2
  replace H := Option.bind_eq_some_iff.mp H
  obtain ⟨t124, A30, H⟩ := H
  replace H : (if a0.toList = t124.toList then (some (0, 0, 0)) else (masterdiscref16_ReadDescriptor.l0 k a0 0)) = some (r1, r2, r3) := H
  have A3 := Aside0.mk A30
  clear A30
  by_cases c4 : a0.toList = t124.toList
  ·rw [if_pos c4] at H
   have c4b0 : (a0.toList == t124.toList) = true := beq_iff_eq.mpr c4
   have c4b1 : (a0.toList != t124.toList) = false := bne_eq_false_iff_eq.mpr c4
   clear c4
   simp only [Option.some.injEq, Prod.mk.injEq] at H
   obtain ⟨rfl, rfl, rfl⟩ := H
   go_enter Tryd.func30, Tryd.ntmps30
   go_wp2_with (first | ((with_reducible refine gate_callee (f := 52) rfl ?_); refine goesL_ (some 13) rfl rfl Tryd.func52 (by kernel_rfl) rfl #[] rfl (by ((try simp only [List.map_toArray, List.map_cons, List.map_nil]); first | done | rfl | (simp only [List.length_drop, List.length_take]; rfl))) ?_; (with_reducible refine (masterdiscref16_Unspecified.calls  t124 _ A3.out).mono ?_); rintro e w' ⟨rfl, ⟨nd, rfl⟩⟩; refine ⟨_, rfl, ?_⟩))
   go_ret3
   exact ⟨by (first | rfl | (simp [errW_none, errW_some] <;> rfl) | (simp [*, errW_none, errW_some] <;> rfl)), by repeat (first | (with_reducible first | exact HB.out | apply below_alloc | apply pw_below_drewN | apply below_drew1) | exact HB.out)⟩
  ·rw [if_neg c4] at H
   have c4b0 : (a0.toList == t124.toList) = false := beq_eq_false_iff_ne.mpr c4
   have c4b1 : (a0.toList != t124.toList) = true := bne_iff_ne.mpr c4
   have H' := Aside0.mk H
   clear H
   go_enter Tryd.func30, Tryd.ntmps30
   go_wp2_with (first | ((with_reducible refine gate_callee (f := 52) rfl ?_); refine goesL_ (some 13) rfl rfl Tryd.func52 (by kernel_rfl) rfl #[] rfl (by ((try simp only [List.map_toArray, List.map_cons, List.map_nil]); first | done | rfl | (simp only [List.length_drop, List.length_take]; rfl))) ?_; (with_reducible refine (masterdiscref16_Unspecified.calls  t124 _ A3.out).mono ?_); rintro e w' ⟨rfl, ⟨nd, rfl⟩⟩; refine ⟨_, rfl, ?_⟩))
   go_loopg [5] k (fun kq v5 w' => ∃ (x5_1 : Int), v5 = .int .i64 x5_1 ∧ Aside0 (masterdiscref16_ReadDescriptor.l0 kq a0 x5_1 = some (r1, r2, r3)) ∧ Aside0 (kq ≤ k) ∧ Aside0 (Below w.heap.size w w'))
   case atStart => exact ⟨(0), (by first | rfl | (simp; done) | (simp [*]; done)), H', ⟨Nat.le_refl _⟩, ⟨by repeat (first | (with_reducible first | exact HB.out | apply below_alloc | apply pw_below_drewN | apply below_drew1) | exact HB.out)⟩⟩
   case round =>
    clear H'
    try clear c2
    try clear c2b0
    try clear c2b1
    try clear p2
    try clear c3
    try clear c4
    try clear c4b0
    try clear c4b1
    obtain ⟨x5_1, rfl, HA, HK1, HB⟩ := hrel
    cases gk with
    | zero => exact absurd HA.out (by simp [masterdiscref16_ReadDescriptor.l0])
    | succ k1 =>
     have H := HA.out
     clear HA
     simp only [masterdiscref16_ReadDescriptor.l0] at H
     by_cases c5 : x5_1 < 16
     ·rw [if_pos c5] at H
      have c5b0 : decide (x5_1 < 16) = true := decide_eq_true c5
      clear c5
      by_cases c6 : 0 ≤ x5_1
      ·rw [if_pos c6] at H
       have c6b0 : decide (0 ≤ x5_1) = true := decide_eq_true c6
       clear c6
       by_cases c7 : x5_1 < (a0.size : Int)
       ·rw [if_pos c7] at H
        have c7b0 : decide (x5_1 < (a0.size : Int)) = true := decide_eq_true c7
        clear c7
        by_cases c9 : (bt a0 x5_1) < 48
        ·rw [if_pos c9] at H
         have c9b0 : decide ((bt a0 x5_1) < 48) = true := decide_eq_true c9
         clear c9
         simp only [Option.some.injEq, Prod.mk.injEq] at H
         obtain ⟨rfl, rfl, rfl⟩ := H
         have p8 : 0 ≤ (x5_1 : Int) := of_decide_eq_true (by first | (with_reducible assumption) | assumption)
         have q8 : x5_1 < (a0.size : Int) := of_decide_eq_true (by first | (with_reducible assumption) | assumption)
         have hx8 := bt_at a0 x5_1
         replace p8 := eq_true p8
         replace q8 := eq_true q8
         go_wp2
         go_ret3
         exact ⟨by (first | rfl | (simp [errW_none, errW_some] <;> rfl) | (simp [*, errW_none, errW_some] <;> rfl)), by repeat (first | (with_reducible first | exact HB.out | apply below_alloc | apply pw_below_drewN | apply below_drew1) | exact HB.out)⟩
        ·rw [if_neg c9] at H
         have c9b0 : decide ((bt a0 x5_1) < 48) = false := decide_eq_false c9
         clear c9
         by_cases c11 : (bt a0 x5_1) > 57
         ·rw [if_pos c11] at H
          have c11b0 : decide (57 < (bt a0 x5_1)) = true := decide_eq_true c11
          clear c11
          simp only [Option.some.injEq, Prod.mk.injEq] at H
          obtain ⟨rfl, rfl, rfl⟩ := H
          have p8 : 0 ≤ (x5_1 : Int) := of_decide_eq_true (by first | (with_reducible assumption) | assumption)
          have q8 : x5_1 < (a0.size : Int) := of_decide_eq_true (by first | (with_reducible assumption) | assumption)
          have hx8 := bt_at a0 x5_1
          replace p8 := eq_true p8
          replace q8 := eq_true q8
          have p10 : 0 ≤ (x5_1 : Int) := of_decide_eq_true (by first | (with_reducible assumption) | assumption)
          have q10 : x5_1 < (a0.size : Int) := of_decide_eq_true (by first | (with_reducible assumption) | assumption)
          have hx10 := bt_at a0 x5_1
          replace p10 := eq_true p10
          replace q10 := eq_true q10
          go_wp2
          go_ret3
          exact ⟨by (first | rfl | (simp [errW_none, errW_some] <;> rfl) | (simp [*, errW_none, errW_some] <;> rfl)), by repeat (first | (with_reducible first | exact HB.out | apply below_alloc | apply pw_below_drewN | apply below_drew1) | exact HB.out)⟩
         ·rw [if_neg c11] at H
          have c11b0 : decide (57 < (bt a0 x5_1)) = false := decide_eq_false c11
          clear c11
          have H' := Aside0.mk H
          clear H
          have p8 : 0 ≤ (x5_1 : Int) := of_decide_eq_true (by first | (with_reducible assumption) | assumption)
          have q8 : x5_1 < (a0.size : Int) := of_decide_eq_true (by first | (with_reducible assumption) | assumption)
          have hx8 := bt_at a0 x5_1
          replace p8 := eq_true p8
          replace q8 := eq_true q8
          have p10 : 0 ≤ (x5_1 : Int) := of_decide_eq_true (by first | (with_reducible assumption) | assumption)
          have q10 : x5_1 < (a0.size : Int) := of_decide_eq_true (by first | (with_reducible assumption) | assumption)
          have hx10 := bt_at a0 x5_1
          replace p10 := eq_true p10
          replace q10 := eq_true q10
          go_wp2
          go_roundg k1
          case measure => have := HK1.out; omega
          case rel => exact ⟨(wrap64 (x5_1 + 1)), (by first | rfl | (simp; done) | (simp [*]; done)), H', ⟨by have := HK1.out; omega⟩, ⟨by repeat (first | (with_reducible first | exact HB.out | apply below_alloc | apply pw_below_drewN | apply below_drew1) | exact HB.out)⟩⟩
       ·rw [if_neg c7] at H
        exact absurd H (by simp)
      ·rw [if_neg c6] at H
       exact absurd H (by simp)
     ·rw [if_neg c5] at H
      have c5b0 : decide (x5_1 < 16) = false := decide_eq_false c5
      clear c5
      by_cases c12 : 0 ≤ 4
      ·rw [if_pos c12] at H
       have c12b0 := eq_true c12
       have c12b1 : decide (0 ≤ 4) = true := decide_eq_true c12
       clear c12
       by_cases c13 : 4 ≤ (a0.size : Int)
       ·rw [if_pos c13] at H
        have c13b0 := eq_true c13
        have c13b1 : decide (4 ≤ (a0.size : Int)) = true := decide_eq_true c13
        clear c13
        replace H := Option.bind_eq_some_iff.mp H
        obtain ⟨t125, A140, H⟩ := H
        replace H : (if 4 ≤ 6 then (if 6 ≤ (a0.size : Int) then ((masterdiscref16_number.f k1 (a0.extract 4 6)).bind fun t126 => (if 6 ≤ 8 then (if 8 ≤ (a0.size : Int) then ((masterdiscref16_number.f k1 (a0.extract 6 8)).bind fun t127 => (if 8 ≤ 10 then (if 10 ≤ (a0.size : Int) then ((masterdiscref16_number.f k1 (a0.extract 8 10)).bind fun t128 => (if 10 ≤ 12 then (if 12 ≤ (a0.size : Int) then ((masterdiscref16_number.f k1 (a0.extract 10 12)).bind fun t129 => (if 12 ≤ 14 then (if 14 ≤ (a0.size : Int) then ((masterdiscref16_number.f k1 (a0.extract 12 14)).bind fun t130 => (if 16 < (a0.size : Int) then ((masterdiscref16_zone.f (bt a0 16)).bind fun bt132 => ((masterdiscref16_Valid.f t125 t126 t127 t128 t129 t130).bind fun t134 => (if t134 = true then (if bt132.2 = true then ((masterdiscref16_finish.f t125 t126 t127 t128 t129 t130 bt132.1).bind fun bt135 => (some (bt135.1, bt135.2.1, bt135.2.2))) else (some (0, 0, 10))) else (some (0, 0, 10))))) else (none))) else (none)) else (none))) else (none)) else (none))) else (none)) else (none))) else (none)) else (none))) else (none)) else (none)) = some (r1, r2, r3) := H
        have A14 := Aside0.mk A140
        clear A140
        by_cases c15 : 4 ≤ 6
        ·rw [if_pos c15] at H
         have c15b0 := eq_true c15
         have c15b1 : decide (4 ≤ 6) = true := decide_eq_true c15
         clear c15
         by_cases c16 : 6 ≤ (a0.size : Int)
         ·rw [if_pos c16] at H
          have c16b0 := eq_true c16
          have c16b1 : decide (6 ≤ (a0.size : Int)) = true := decide_eq_true c16
          clear c16
          replace H := Option.bind_eq_some_iff.mp H
          obtain ⟨t126, A170, H⟩ := H
          replace H : (if 6 ≤ 8 then (if 8 ≤ (a0.size : Int) then ((masterdiscref16_number.f k1 (a0.extract 6 8)).bind fun t127 => (if 8 ≤ 10 then (if 10 ≤ (a0.size : Int) then ((masterdiscref16_number.f k1 (a0.extract 8 10)).bind fun t128 => (if 10 ≤ 12 then (if 12 ≤ (a0.size : Int) then ((masterdiscref16_number.f k1 (a0.extract 10 12)).bind fun t129 => (if 12 ≤ 14 then (if 14 ≤ (a0.size : Int) then ((masterdiscref16_number.f k1 (a0.extract 12 14)).bind fun t130 => (if 16 < (a0.size : Int) then ((masterdiscref16_zone.f (bt a0 16)).bind fun bt132 => ((masterdiscref16_Valid.f t125 t126 t127 t128 t129 t130).bind fun t134 => (if t134 = true then (if bt132.2 = true then ((masterdiscref16_finish.f t125 t126 t127 t128 t129 t130 bt132.1).bind fun bt135 => (some (bt135.1, bt135.2.1, bt135.2.2))) else (some (0, 0, 10))) else (some (0, 0, 10))))) else (none))) else (none)) else (none))) else (none)) else (none))) else (none)) else (none))) else (none)) else (none)) = some (r1, r2, r3) := H
          have A17 := Aside0.mk A170
          clear A170
          by_cases c18 : 6 ≤ 8
          ·rw [if_pos c18] at H
           have c18b0 := eq_true c18
           have c18b1 : decide (6 ≤ 8) = true := decide_eq_true c18
           clear c18
           by_cases c19 : 8 ≤ (a0.size : Int)
           ·rw [if_pos c19] at H
            have c19b0 := eq_true c19
            have c19b1 : decide (8 ≤ (a0.size : Int)) = true := decide_eq_true c19
            clear c19
            replace H := Option.bind_eq_some_iff.mp H
            obtain ⟨t127, A200, H⟩ := H
            replace H : (if 8 ≤ 10 then (if 10 ≤ (a0.size : Int) then ((masterdiscref16_number.f k1 (a0.extract 8 10)).bind fun t128 => (if 10 ≤ 12 then (if 12 ≤ (a0.size : Int) then ((masterdiscref16_number.f k1 (a0.extract 10 12)).bind fun t129 => (if 12 ≤ 14 then (if 14 ≤ (a0.size : Int) then ((masterdiscref16_number.f k1 (a0.extract 12 14)).bind fun t130 => (if 16 < (a0.size : Int) then ((masterdiscref16_zone.f (bt a0 16)).bind fun bt132 => ((masterdiscref16_Valid.f t125 t126 t127 t128 t129 t130).bind fun t134 => (if t134 = true then (if bt132.2 = true then ((masterdiscref16_finish.f t125 t126 t127 t128 t129 t130 bt132.1).bind fun bt135 => (some (bt135.1, bt135.2.1, bt135.2.2))) else (some (0, 0, 10))) else (some (0, 0, 10))))) else (none))) else (none)) else (none))) else (none)) else (none))) else (none)) else (none)) = some (r1, r2, r3) := H
            have A20 := Aside0.mk A200
            clear A200
            by_cases c21 : 8 ≤ 10
            ·rw [if_pos c21] at H
             have c21b0 := eq_true c21
             have c21b1 : decide (8 ≤ 10) = true := decide_eq_true c21
             clear c21
             by_cases c22 : 10 ≤ (a0.size : Int)
             ·rw [if_pos c22] at H
              have c22b0 := eq_true c22
              have c22b1 : decide (10 ≤ (a0.size : Int)) = true := decide_eq_true c22
              clear c22
              replace H := Option.bind_eq_some_iff.mp H
              obtain ⟨t128, A230, H⟩ := H
              replace H : (if 10 ≤ 12 then (if 12 ≤ (a0.size : Int) then ((masterdiscref16_number.f k1 (a0.extract 10 12)).bind fun t129 => (if 12 ≤ 14 then (if 14 ≤ (a0.size : Int) then ((masterdiscref16_number.f k1 (a0.extract 12 14)).bind fun t130 => (if 16 < (a0.size : Int) then ((masterdiscref16_zone.f (bt a0 16)).bind fun bt132 => ((masterdiscref16_Valid.f t125 t126 t127 t128 t129 t130).bind fun t134 => (if t134 = true then (if bt132.2 = true then ((masterdiscref16_finish.f t125 t126 t127 t128 t129 t130 bt132.1).bind fun bt135 => (some (bt135.1, bt135.2.1, bt135.2.2))) else (some (0, 0, 10))) else (some (0, 0, 10))))) else (none))) else (none)) else (none))) else (none)) else (none)) = some (r1, r2, r3) := H
              have A23 := Aside0.mk A230
              clear A230
              by_cases c24 : 10 ≤ 12
              ·rw [if_pos c24] at H
               have c24b0 := eq_true c24
               have c24b1 : decide (10 ≤ 12) = true := decide_eq_true c24
               clear c24
               by_cases c25 : 12 ≤ (a0.size : Int)
               ·rw [if_pos c25] at H
                have c25b0 := eq_true c25
                have c25b1 : decide (12 ≤ (a0.size : Int)) = true := decide_eq_true c25
                clear c25
                replace H := Option.bind_eq_some_iff.mp H
                obtain ⟨t129, A260, H⟩ := H
                replace H : (if 12 ≤ 14 then (if 14 ≤ (a0.size : Int) then ((masterdiscref16_number.f k1 (a0.extract 12 14)).bind fun t130 => (if 16 < (a0.size : Int) then ((masterdiscref16_zone.f (bt a0 16)).bind fun bt132 => ((masterdiscref16_Valid.f t125 t126 t127 t128 t129 t130).bind fun t134 => (if t134 = true then (if bt132.2 = true then ((masterdiscref16_finish.f t125 t126 t127 t128 t129 t130 bt132.1).bind fun bt135 => (some (bt135.1, bt135.2.1, bt135.2.2))) else (some (0, 0, 10))) else (some (0, 0, 10))))) else (none))) else (none)) else (none)) = some (r1, r2, r3) := H
                have A26 := Aside0.mk A260
                clear A260
                by_cases c27 : 12 ≤ 14
                ·rw [if_pos c27] at H
                 have c27b0 := eq_true c27
                 have c27b1 : decide (12 ≤ 14) = true := decide_eq_true c27
                 clear c27
                 by_cases c28 : 14 ≤ (a0.size : Int)
                 ·rw [if_pos c28] at H
                  have c28b0 := eq_true c28
                  have c28b1 : decide (14 ≤ (a0.size : Int)) = true := decide_eq_true c28
                  clear c28
                  replace H := Option.bind_eq_some_iff.mp H
                  obtain ⟨t130, A290, H⟩ := H
                  replace H : (if 16 < (a0.size : Int) then ((masterdiscref16_zone.f (bt a0 16)).bind fun bt132 => ((masterdiscref16_Valid.f t125 t126 t127 t128 t129 t130).bind fun t134 => (if t134 = true then (if bt132.2 = true then ((masterdiscref16_finish.f t125 t126 t127 t128 t129 t130 bt132.1).bind fun bt135 => (some (bt135.1, bt135.2.1, bt135.2.2))) else (some (0, 0, 10))) else (some (0, 0, 10))))) else (none)) = some (r1, r2, r3) := H
                  have A29 := Aside0.mk A290
                  clear A290
                  by_cases c30 : 16 < (a0.size : Int)
                  ·rw [if_pos c30] at H
                   have c30b0 : decide (16 < (a0.size : Int)) = true := decide_eq_true c30
                   have c30b1 : decide (16 < a0.size) = true := decide_eq_true (by omega)
                   clear c30
                   replace H := Option.bind_eq_some_iff.mp H
                   obtain ⟨⟨t132, t133⟩, A320, H⟩ := H
                   replace H : ((masterdiscref16_Valid.f t125 t126 t127 t128 t129 t130).bind fun t134 => (if t134 = true then (if t133 = true then ((masterdiscref16_finish.f t125 t126 t127 t128 t129 t130 t132).bind fun bt135 => (some (bt135.1, bt135.2.1, bt135.2.2))) else (some (0, 0, 10))) else (some (0, 0, 10)))) = some (r1, r2, r3) := H
                   have A32 := Aside0.mk A320
                   clear A320
                   replace H := Option.bind_eq_some_iff.mp H
                   obtain ⟨t134, A330, H⟩ := H
                   replace H : (if t134 = true then (if t133 = true then ((masterdiscref16_finish.f t125 t126 t127 t128 t129 t130 t132).bind fun bt135 => (some (bt135.1, bt135.2.1, bt135.2.2))) else (some (0, 0, 10))) else (some (0, 0, 10))) = some (r1, r2, r3) := H
                   have A33 := Aside0.mk A330
                   clear A330
                   have HW0 := Aside0.mk H
                   clear H
                   try go_wp2
                   have n0_ := Aside0.mk (below_drew1 HB.out)
                   clear HB
                   have HB := n0_
                   clear n0_
                   refine start_ (n := 21) (S := fun w' => True) (ds := []) #[false, false, false, false, false, false, false, false, false, false, false, false, false, false, false, false, false, false, false, false, false] (by kernel_rfl) rfl rfl trivial (fun hHeld => ?_); refine with_tabW masterdiscref16_ReadDescriptor.tab10 masterdiscref16_ReadDescriptor.bits10 (fun HT_ HW_ => ?_)
                   generalize wr.drew = w37 at HB hHeld ⊢
                   refine pure_ (i := 0) (N := some 29) (v := ?_) (a' := ?_) #[true, false, false, false, false, false, false, false, false, false, false, false, false, false, false, false, false, false, false, false, false] rfl rfl (any_of HT_.out (by kernel_rfl)) (fun _ _ _ h => h) (Or.inl ⟨by rfl, ?_⟩) ?_ ?_
                   (rotate_left; (focus (intro w'; go_simp; with_reducible rfl)); rotate_left; (focus (simp only [Act.put, List.setIfInBounds_toArray, List.set_cons_zero, List.set_cons_succ, i64_w, i32_w]; rfl)))
                   refine pure_ (i := 1) (N := some 30) (v := ?_) (a' := ?_) #[true, true, false, false, false, false, false, false, false, false, false, false, false, false, false, false, false, false, false, false, false] rfl rfl (any_of HT_.out (by kernel_rfl)) (fun _ _ _ h => h) (Or.inl ⟨by rfl, ?_⟩) ?_ ?_
                   (rotate_left; (focus (intro w'; go_simp; with_reducible rfl)); rotate_left; (focus (simp only [Act.put, List.setIfInBounds_toArray, List.set_cons_zero, List.set_cons_succ, i64_w, i32_w]; rfl)))
                   refine pure_ (i := 3) (N := some 32) (v := ?_) (a' := ?_) #[true, true, false, true, false, false, false, false, false, false, false, false, false, false, false, false, false, false, false, false, false] rfl rfl (any_of HT_.out (by kernel_rfl)) (fun _ _ _ h => h) (Or.inl ⟨by rfl, ?_⟩) ?_ ?_
                   (rotate_left; (focus (intro w'; go_simp; with_reducible rfl)); rotate_left; (focus (simp only [Act.put, List.setIfInBounds_toArray, List.set_cons_zero, List.set_cons_succ, i64_w, i32_w]; rfl)))
                   refine pure_ (i := 4) (N := some 33) (v := ?_) (a' := ?_) #[true, true, false, true, true, false, false, false, false, false, false, false, false, false, false, false, false, false, false, false, false] rfl rfl (any_of HT_.out (by kernel_rfl)) (fun _ _ _ h => h) (Or.inl ⟨by rfl, ?_⟩) ?_ ?_
                   (rotate_left; (focus (intro w'; go_simp; with_reducible rfl)); rotate_left; (focus (simp only [Act.put, List.setIfInBounds_toArray, List.set_cons_zero, List.set_cons_succ, i64_w, i32_w]; rfl)))
                   refine pure_ (i := 6) (N := some 35) (v := ?_) (a' := ?_) #[true, true, false, true, true, false, true, false, false, false, false, false, false, false, false, false, false, false, false, false, false] rfl rfl (any_of HT_.out (by kernel_rfl)) (fun _ _ _ h => h) (Or.inl ⟨by rfl, ?_⟩) ?_ ?_
                   (rotate_left; (focus (intro w'; go_simp; with_reducible rfl)); rotate_left; (focus (simp only [Act.put, List.setIfInBounds_toArray, List.set_cons_zero, List.set_cons_succ, i64_w, i32_w]; rfl)))
                   refine pure_ (i := 7) (N := some 36) (v := ?_) (a' := ?_) #[true, true, false, true, true, false, true, true, false, false, false, false, false, false, false, false, false, false, false, false, false] rfl rfl (any_of HT_.out (by kernel_rfl)) (fun _ _ _ h => h) (Or.inl ⟨by rfl, ?_⟩) ?_ ?_
                   (rotate_left; (focus (intro w'; go_simp; with_reducible rfl)); rotate_left; (focus (simp only [Act.put, List.setIfInBounds_toArray, List.set_cons_zero, List.set_cons_succ, i64_w, i32_w]; rfl)))
                   refine pure_ (i := 9) (N := some 38) (v := ?_) (a' := ?_) #[true, true, false, true, true, false, true, true, false, true, false, false, false, false, false, false, false, false, false, false, false] rfl rfl (any_of HT_.out (by kernel_rfl)) (fun _ _ _ h => h) (Or.inl ⟨by rfl, ?_⟩) ?_ ?_
                   (rotate_left; (focus (intro w'; go_simp; with_reducible rfl)); rotate_left; (focus (simp only [Act.put, List.setIfInBounds_toArray, List.set_cons_zero, List.set_cons_succ, i64_w, i32_w]; rfl)))
                   refine pure_ (i := 10) (N := some 39) (v := ?_) (a' := ?_) #[true, true, false, true, true, false, true, true, false, true, true, false, false, false, false, false, false, false, false, false, false] rfl rfl (any_of HT_.out (by kernel_rfl)) (fun _ _ _ h => h) (Or.inl ⟨by rfl, ?_⟩) ?_ ?_
                   (rotate_left; (focus (intro w'; go_simp; with_reducible rfl)); rotate_left; (focus (simp only [Act.put, List.setIfInBounds_toArray, List.set_cons_zero, List.set_cons_succ, i64_w, i32_w]; rfl)))
                   refine pure_ (i := 12) (N := some 41) (v := ?_) (a' := ?_) #[true, true, false, true, true, false, true, true, false, true, true, false, true, false, false, false, false, false, false, false, false] rfl rfl (any_of HT_.out (by kernel_rfl)) (fun _ _ _ h => h) (Or.inl ⟨by rfl, ?_⟩) ?_ ?_
                   (rotate_left; (focus (intro w'; go_simp; with_reducible rfl)); rotate_left; (focus (simp only [Act.put, List.setIfInBounds_toArray, List.set_cons_zero, List.set_cons_succ, i64_w, i32_w]; rfl)))
                   refine pure_ (i := 13) (N := some 42) (v := ?_) (a' := ?_) #[true, true, false, true, true, false, true, true, false, true, true, false, true, true, false, false, false, false, false, false, false] rfl rfl (any_of HT_.out (by kernel_rfl)) (fun _ _ _ h => h) (Or.inl ⟨by rfl, ?_⟩) ?_ ?_
                   (rotate_left; (focus (intro w'; go_simp; with_reducible rfl)); rotate_left; (focus (simp only [Act.put, List.setIfInBounds_toArray, List.set_cons_zero, List.set_cons_succ, i64_w, i32_w]; rfl)))
                   refine pure_ (i := 15) (N := some 44) (v := ?_) (a' := ?_) #[true, true, false, true, true, false, true, true, false, true, true, false, true, true, false, true, false, false, false, false, false] rfl rfl (any_of HT_.out (by kernel_rfl)) (fun _ _ _ h => h) (Or.inl ⟨by rfl, ?_⟩) ?_ ?_
                   (rotate_left; (focus (intro w'; go_simp; with_reducible rfl)); rotate_left; (focus (simp only [Act.put, List.setIfInBounds_toArray, List.set_cons_zero, List.set_cons_succ, i64_w, i32_w]; rfl)))
                   refine pure_ (i := 16) (N := some 45) (v := ?_) (a' := ?_) #[true, true, false, true, true, false, true, true, false, true, true, false, true, true, false, true, true, false, false, false, false] rfl rfl (any_of HT_.out (by kernel_rfl)) (fun _ _ _ h => h) (Or.inl ⟨by rfl, ?_⟩) ?_ ?_
                   (rotate_left; (focus (intro w'; go_simp; with_reducible rfl)); rotate_left; (focus (simp only [Act.put, List.setIfInBounds_toArray, List.set_cons_zero, List.set_cons_succ, i64_w, i32_w]; rfl)))
                   refine join_ (σ := Nat) 1 #[true, true, true, true, true, true, true, true, true, true, true, true, true, true, true, true, true, true, true, true, false] (fun s_ => [(31, .int .i64 t125), (34, .int .i64 t126), (37, .int .i64 t127), (40, .int .i64 t128), (43, .int .i64 t129), (46, .int .i64 t130), (6, .pointer (some ⟨s_, 0, none⟩)), (47, .agg #[.int .i64 t125, .int .i64 t126, .int .i64 t127, .int .i64 t128, .int .i64 t129, .int .i64 t130])]) (fun s_ w' => (w'.heap[s_]? = some (.cells #[.int .i64 0, .int .i64 0, .int .i64 0, .int .i64 0, .int .i64 0, .int .i64 0] 23 (0, 0))) ∧ (w.heap.size ≤ s_) ∧ (w.heap.size ≤ s_) ∧ (Below w.heap.size w w')) ?_ ?_
                   rotate_left
                   ·intro hJ2_5_8_11_14_17_19
                    refine join_ (σ := Unit) 2 #[true, true, true, true, true, true, true, true, true, true, true, true, true, true, true, true, true, true, true, false, false] (fun s_ => [(31, .int .i64 t125), (34, .int .i64 t126), (37, .int .i64 t127), (40, .int .i64 t128), (43, .int .i64 t129), (46, .int .i64 t130), (47, .agg #[.int .i64 t125, .int .i64 t126, .int .i64 t127, .int .i64 t128, .int .i64 t129, .int .i64 t130])]) (fun s_ w' => (Below w.heap.size w w')) ?_ ?_
                    rotate_left
                    ·intro hJ2_5_8_11_14_17
                     refine join_ (σ := Nat) 3 #[true, true, true, true, true, true, true, true, true, true, true, true, true, true, true, true, true, false, false, true, false] (fun s_ => [(31, .int .i64 t125), (34, .int .i64 t126), (37, .int .i64 t127), (40, .int .i64 t128), (43, .int .i64 t129), (6, .pointer (some ⟨s_, 0, none⟩))]) (fun s_ w' => (w'.heap[s_]? = some (.cells #[.int .i64 0, .int .i64 0, .int .i64 0, .int .i64 0, .int .i64 0, .int .i64 0] 23 (0, 0))) ∧ (w.heap.size ≤ s_) ∧ (w.heap.size ≤ s_) ∧ (Below w.heap.size w w')) ?_ ?_
                     rotate_left
                     ·intro hJ2_5_8_11_14_19
                      refine join_ (σ := Unit) 4 #[true, true, true, true, true, true, true, true, true, true, true, true, true, true, true, true, true, false, false, false, false] (fun s_ => [(31, .int .i64 t125), (34, .int .i64 t126), (37, .int .i64 t127), (40, .int .i64 t128), (43, .int .i64 t129)]) (fun s_ w' => (Below w.heap.size w w')) ?_ ?_
                      rotate_left
                      ·intro hJ2_5_8_11_14
                       refine join_ (σ := Nat) 4 #[true, true, true, true, true, true, true, true, true, true, true, true, true, true, false, true, true, false, false, true, false] (fun s_ => [(31, .int .i64 t125), (34, .int .i64 t126), (37, .int .i64 t127), (40, .int .i64 t128), (6, .pointer (some ⟨s_, 0, none⟩))]) (fun s_ w' => (w'.heap[s_]? = some (.cells #[.int .i64 0, .int .i64 0, .int .i64 0, .int .i64 0, .int .i64 0, .int .i64 0] 23 (0, 0))) ∧ (w.heap.size ≤ s_) ∧ (w.heap.size ≤ s_) ∧ (Below w.heap.size w w')) ?_ ?_
                       rotate_left
                       ·intro hJ2_5_8_11_19
                        refine join_ (σ := Unit) 5 #[true, true, true, true, true, true, true, true, true, true, true, true, true, true, false, true, true, false, false, false, false] (fun s_ => [(31, .int .i64 t125), (34, .int .i64 t126), (37, .int .i64 t127), (40, .int .i64 t128)]) (fun s_ w' => (Below w.heap.size w w')) ?_ ?_
                        rotate_left
                        ·intro hJ2_5_8_11
                         refine join_ (σ := Nat) 5 #[true, true, true, true, true, true, true, true, true, true, true, false, true, true, false, true, true, false, false, true, false] (fun s_ => [(31, .int .i64 t125), (34, .int .i64 t126), (37, .int .i64 t127), (6, .pointer (some ⟨s_, 0, none⟩))]) (fun s_ w' => (w'.heap[s_]? = some (.cells #[.int .i64 0, .int .i64 0, .int .i64 0, .int .i64 0, .int .i64 0, .int .i64 0] 23 (0, 0))) ∧ (w.heap.size ≤ s_) ∧ (w.heap.size ≤ s_) ∧ (Below w.heap.size w w')) ?_ ?_
                         rotate_left
                         ·intro hJ2_5_8_19
                          refine join_ (σ := Unit) 6 #[true, true, true, true, true, true, true, true, true, true, true, false, true, true, false, true, true, false, false, false, false] (fun s_ => [(31, .int .i64 t125), (34, .int .i64 t126), (37, .int .i64 t127)]) (fun s_ w' => (Below w.heap.size w w')) ?_ ?_
                          rotate_left
                          ·intro hJ2_5_8
                           refine join_ (σ := Nat) 6 #[true, true, true, true, true, true, true, true, false, true, true, false, true, true, false, true, true, false, false, true, false] (fun s_ => [(31, .int .i64 t125), (34, .int .i64 t126), (6, .pointer (some ⟨s_, 0, none⟩))]) (fun s_ w' => (w'.heap[s_]? = some (.cells #[.int .i64 0, .int .i64 0, .int .i64 0, .int .i64 0, .int .i64 0, .int .i64 0] 23 (0, 0))) ∧ (w.heap.size ≤ s_) ∧ (w.heap.size ≤ s_) ∧ (Below w.heap.size w w')) ?_ ?_
                           rotate_left
                           ·intro hJ2_5_19
                            refine join_ (σ := Unit) 7 #[true, true, true, true, true, true, true, true, false, true, true, false, true, true, false, true, true, false, false, false, false] (fun s_ => [(31, .int .i64 t125), (34, .int .i64 t126)]) (fun s_ w' => (Below w.heap.size w w')) ?_ ?_
                            rotate_left
                            ·intro hJ2_5
                             refine join_ (σ := Nat) 7 #[true, true, true, true, true, false, true, true, false, true, true, false, true, true, false, true, true, false, false, true, false] (fun s_ => [(31, .int .i64 t125), (6, .pointer (some ⟨s_, 0, none⟩))]) (fun s_ w' => (w'.heap[s_]? = some (.cells #[.int .i64 0, .int .i64 0, .int .i64 0, .int .i64 0, .int .i64 0, .int .i64 0] 23 (0, 0))) ∧ (w.heap.size ≤ s_) ∧ (w.heap.size ≤ s_) ∧ (Below w.heap.size w w')) ?_ ?_
                             rotate_left
                             ·intro hJ2_19
                              refine join_ (σ := Unit) 8 #[true, true, true, true, true, false, true, true, false, true, true, false, true, true, false, true, true, false, false, false, false] (fun s_ => [(31, .int .i64 t125)]) (fun s_ w' => (Below w.heap.size w w')) ?_ ?_
                              rotate_left
                              ·intro hJ2
                               refine join_ (σ := Nat) 8 #[true, true, false, true, true, false, true, true, false, true, true, false, true, true, false, true, true, false, false, true, false] (fun s_ => [(6, .pointer (some ⟨s_, 0, none⟩))]) (fun s_ w' => (w'.heap[s_]? = some (.cells #[.int .i64 0, .int .i64 0, .int .i64 0, .int .i64 0, .int .i64 0, .int .i64 0] 23 (0, 0))) ∧ (w.heap.size ≤ s_) ∧ (w.heap.size ≤ s_) ∧ (Below w.heap.size w w')) ?_ ?_
                               rotate_left
                               ·intro hJ19
                                refine two_ (i := 2) (j := 19) (Ni := some 31) (Nj := some 6) #[true, true, true, true, true, false, true, true, false, true, true, false, true, true, false, true, true, false, false, false, false] #[true, true, false, true, true, false, true, true, false, true, true, false, true, true, false, true, true, false, false, true, false] rfl rfl rfl rfl (two_of HT_.out (by kernel_rfl)) (by decide) (by decide) (fun K hK => ?_) (fun K hK => ?_)
                                ·skip
                                 refine goes_ Tryd.func53 (by kernel_rfl) rfl #[.string (a0.extract 0 4)] (by rfl) rfl rfl (by ((try simp only [List.map_toArray, List.map_cons, List.map_nil]); first | done | rfl | (simp only [List.length_drop, List.length_take]; rfl))) ?_
                                 with_reducible refine (masterdiscref16_number.calls k1 (a0.extract 0 4) t125 _ A14.out).mono ?_
                                 rintro e w' ⟨rfl, ⟨nd, rfl⟩⟩
                                 refine ⟨_, rfl, ?_⟩
                                 refine hK.out _ _ trivial (fun hHeld => ?_)
                                 clear hK K
                                 refine norm_ (a' := ?_) ?_ ?_
                                 rotate_left
                                 ·show Act.put _ (some 31) _ = _
                                  simp only [Act.put, List.setIfInBounds_toArray, List.set_cons_zero, List.set_cons_succ, i64_w, i32_w]
                                  rfl
                                 exact norm_ (by first | (simp only [putAll, Act.put, List.setIfInBounds_toArray, List.set_cons_zero, List.set_cons_succ]; done) | (simp only [putAll, Act.put, List.setIfInBounds_toArray, List.set_cons_zero, List.set_cons_succ]; rfl)) (hJ2 () _ (by repeat (first | (with_reducible first | exact HB.out | apply below_alloc | apply pw_below_drewN | apply below_drew1) | exact HB.out)))
                                ·skip
                                 refine box_step ?hg (N := 6) ?hd (cs := #[.int .i64 0, .int .i64 0, .int .i64 0, .int .i64 0, .int .i64 0, .int .i64 0]) (t := 23) ?hr ?_; (case hd => rfl); (case hg => rfl); (case hr => first | (go_simp; done) | (go_simp; rfl))
                                 intro gb131 hg w38 hbox hb
                                 have n0_ := Aside0.mk (below_step (by repeat (first | (with_reducible first | exact HB.out | apply below_alloc | apply pw_below_drewN | apply below_drew1) | exact HB.out)) hb)
                                 have n1_ := Aside0.mk (hbox)
                                 have n2_ := Aside0.mk ((by rw [hg]; exact (below_size (by repeat (first | (with_reducible first | exact HB.out | apply below_alloc | apply pw_below_drewN | apply below_drew1) | exact HB.out))) : w.heap.size ≤ gb131))
                                 have n3_ := Aside0.mk ((by rw [hg]; exact (below_size (by repeat (first | (with_reducible first | exact HB.out | apply below_alloc | apply pw_below_drewN | apply below_drew1) | exact HB.out))) : w.heap.size ≤ gb131))
                                 clear HB
                                 have HB := n0_
                                 have BK131 := n1_
                                 have GW131 := n2_
                                 have GE131 := n3_
                                 clear n0_ n1_ n2_ n3_
                                 clear hb hbox hg
                                 refine hK.out _ _ trivial (fun hHeld => ?_)
                                 clear hK K
                                 refine norm_ (a' := ?_) ?_ ?_
                                 rotate_left
                                 ·show Act.put _ (some 6) _ = _
                                  simp only [Act.put, List.setIfInBounds_toArray, List.set_cons_zero, List.set_cons_succ, i64_w, i32_w]
                                  rfl
                                 exact norm_ (by first | (simp only [putAll, Act.put, List.setIfInBounds_toArray, List.set_cons_zero, List.set_cons_succ]; done) | (simp only [putAll, Act.put, List.setIfInBounds_toArray, List.set_cons_zero, List.set_cons_succ]; rfl)) (hJ19 (gb131) _ ⟨(by (with_reducible repeat (first | refine blk_drewN ?_ _ | refine blk_drew ?_ | refine blk_alloc ?_ _)); exact BK131.out), GW131.out, GE131.out, (by repeat (first | (with_reducible first | exact HB.out | apply below_alloc | apply pw_below_drewN | apply below_drew1 | refine below_set ?_ GE131.out) | exact HB.out))⟩)
                               ·skip
                                rintro gb131 w39 ⟨h0_, h1_, h2_, h3_⟩
                                have n0_ : Aside0 (w39.heap[gb131]? = some (.cells #[.int .i64 0, .int .i64 0, .int .i64 0, .int .i64 0, .int .i64 0, .int .i64 0] 23 (0, 0))) := ⟨h0_⟩
                                have n1_ : Aside0 (w.heap.size ≤ gb131) := ⟨h1_⟩
                                have n2_ : Aside0 (w.heap.size ≤ gb131) := ⟨h2_⟩
                                have n3_ : Aside0 (Below w.heap.size w w39) := ⟨h3_⟩
                                clear HB
                                clear h0_ h1_ h2_ h3_
                                have BK131 := n0_
                                have GW131 := n1_
                                have GE131 := n2_
                                have HB := n3_
                                clear n0_ n1_ n2_ n3_
                                have hHeld := trivial
                                refine norm_ (a' := ?_) ?_ ?_
                                rotate_left
                                ·simp only [putAll, Act.put, List.setIfInBounds_toArray, List.set_cons_zero, List.set_cons_succ]
                                 rfl
                                refine one_ (i := 2) (N := some 31) #[true, true, true, true, true, false, true, true, false, true, true, false, true, true, false, true, true, false, false, true, false] rfl rfl (one_of HT_.out (by kernel_rfl)) (by decide) (fun K hK => ?_)
                                refine goes_ Tryd.func53 (by kernel_rfl) rfl #[.string (a0.extract 0 4)] (by rfl) rfl rfl (by ((try simp only [List.map_toArray, List.map_cons, List.map_nil]); first | done | rfl | (simp only [List.length_drop, List.length_take]; rfl))) ?_
                                with_reducible refine (masterdiscref16_number.calls k1 (a0.extract 0 4) t125 _ A14.out).mono ?_
                                rintro e w' ⟨rfl, ⟨nd, rfl⟩⟩
                                refine ⟨_, rfl, ?_⟩
                                refine hK.out _ _ trivial (fun hHeld => ?_)
                                clear hK K
                                refine norm_ (a' := ?_) ?_ ?_
                                rotate_left
                                ·show Act.put _ (some 31) _ = _
                                 simp only [Act.put, List.setIfInBounds_toArray, List.set_cons_zero, List.set_cons_succ, i64_w, i32_w]
                                 rfl
                                exact norm_ (by first | (simp only [putAll, Act.put, List.setIfInBounds_toArray, List.set_cons_zero, List.set_cons_succ]; done) | (simp only [putAll, Act.put, List.setIfInBounds_toArray, List.set_cons_zero, List.set_cons_succ]; rfl)) (hJ2_19 (gb131) _ ⟨(by (with_reducible repeat (first | refine blk_drewN ?_ _ | refine blk_drew ?_ | refine blk_alloc ?_ _)); exact BK131.out), GW131.out, GE131.out, (by repeat (first | (with_reducible first | exact HB.out | apply below_alloc | apply pw_below_drewN | apply below_drew1 | refine below_set ?_ GE131.out) | exact HB.out))⟩)
                              ·skip
                               rintro _ w38 h0_
                               have n0_ : Aside0 (Below w.heap.size w w38) := ⟨h0_⟩
                               clear HB
                               clear h0_
                               have HB := n0_
                               clear n0_
                               have hHeld := trivial
                               refine norm_ (a' := ?_) ?_ ?_
                               rotate_left
                               ·simp only [putAll, Act.put, List.setIfInBounds_toArray, List.set_cons_zero, List.set_cons_succ]
                                rfl
                               refine two_ (i := 5) (j := 19) (Ni := some 34) (Nj := some 6) #[true, true, true, true, true, true, true, true, false, true, true, false, true, true, false, true, true, false, false, false, false] #[true, true, true, true, true, false, true, true, false, true, true, false, true, true, false, true, true, false, false, true, false] rfl rfl rfl rfl (two_of HT_.out (by kernel_rfl)) (by decide) (by decide) (fun K hK => ?_) (fun K hK => ?_)
                               ·skip
                                refine goes_ Tryd.func53 (by kernel_rfl) rfl #[.string (a0.extract 4 6)] (by rfl) rfl rfl (by ((try simp only [List.map_toArray, List.map_cons, List.map_nil]); first | done | rfl | (simp only [List.length_drop, List.length_take]; rfl))) ?_
                                with_reducible refine (masterdiscref16_number.calls k1 (a0.extract 4 6) t126 _ A17.out).mono ?_
                                rintro e w' ⟨rfl, ⟨nd, rfl⟩⟩
                                refine ⟨_, rfl, ?_⟩
                                refine hK.out _ _ trivial (fun hHeld => ?_)
                                clear hK K
                                refine norm_ (a' := ?_) ?_ ?_
                                rotate_left
                                ·show Act.put _ (some 34) _ = _
                                 simp only [Act.put, List.setIfInBounds_toArray, List.set_cons_zero, List.set_cons_succ, i64_w, i32_w]
                                 rfl
                                exact norm_ (by first | (simp only [putAll, Act.put, List.setIfInBounds_toArray, List.set_cons_zero, List.set_cons_succ]; done) | (simp only [putAll, Act.put, List.setIfInBounds_toArray, List.set_cons_zero, List.set_cons_succ]; rfl)) (hJ2_5 () _ (by repeat (first | (with_reducible first | exact HB.out | apply below_alloc | apply pw_below_drewN | apply below_drew1) | exact HB.out)))
                               ·skip
                                refine box_step ?hg (N := 6) ?hd (cs := #[.int .i64 0, .int .i64 0, .int .i64 0, .int .i64 0, .int .i64 0, .int .i64 0]) (t := 23) ?hr ?_; (case hd => rfl); (case hg => rfl); (case hr => first | (go_simp; done) | (go_simp; rfl))
                                intro gb131 hg w39 hbox hb
                                have n0_ := Aside0.mk (below_step (by repeat (first | (with_reducible first | exact HB.out | apply below_alloc | apply pw_below_drewN | apply below_drew1) | exact HB.out)) hb)
                                have n1_ := Aside0.mk (hbox)
                                have n2_ := Aside0.mk ((by rw [hg]; exact (below_size (by repeat (first | (with_reducible first | exact HB.out | apply below_alloc | apply pw_below_drewN | apply below_drew1) | exact HB.out))) : w.heap.size ≤ gb131))
                                have n3_ := Aside0.mk ((by rw [hg]; exact (below_size (by repeat (first | (with_reducible first | exact HB.out | apply below_alloc | apply pw_below_drewN | apply below_drew1) | exact HB.out))) : w.heap.size ≤ gb131))
                                clear HB
                                have HB := n0_
                                have BK131 := n1_
                                have GW131 := n2_
                                have GE131 := n3_
                                clear n0_ n1_ n2_ n3_
                                clear hb hbox hg
                                refine hK.out _ _ trivial (fun hHeld => ?_)
                                clear hK K
                                refine norm_ (a' := ?_) ?_ ?_
                                rotate_left
                                ·show Act.put _ (some 6) _ = _
                                 simp only [Act.put, List.setIfInBounds_toArray, List.set_cons_zero, List.set_cons_succ, i64_w, i32_w]
                                 rfl
                                exact norm_ (by first | (simp only [putAll, Act.put, List.setIfInBounds_toArray, List.set_cons_zero, List.set_cons_succ]; done) | (simp only [putAll, Act.put, List.setIfInBounds_toArray, List.set_cons_zero, List.set_cons_succ]; rfl)) (hJ2_19 (gb131) _ ⟨(by (with_reducible repeat (first | refine blk_drewN ?_ _ | refine blk_drew ?_ | refine blk_alloc ?_ _)); exact BK131.out), GW131.out, GE131.out, (by repeat (first | (with_reducible first | exact HB.out | apply below_alloc | apply pw_below_drewN | apply below_drew1 | refine below_set ?_ GE131.out) | exact HB.out))⟩)
                             ·skip
                              rintro gb131 w39 ⟨h0_, h1_, h2_, h3_⟩
                              have n0_ : Aside0 (w39.heap[gb131]? = some (.cells #[.int .i64 0, .int .i64 0, .int .i64 0, .int .i64 0, .int .i64 0, .int .i64 0] 23 (0, 0))) := ⟨h0_⟩
                              have n1_ : Aside0 (w.heap.size ≤ gb131) := ⟨h1_⟩
                              have n2_ : Aside0 (w.heap.size ≤ gb131) := ⟨h2_⟩
                              have n3_ : Aside0 (Below w.heap.size w w39) := ⟨h3_⟩
                              clear HB
                              clear h0_ h1_ h2_ h3_
                              have BK131 := n0_
                              have GW131 := n1_
                              have GE131 := n2_
                              have HB := n3_
                              clear n0_ n1_ n2_ n3_
                              have hHeld := trivial
                              refine norm_ (a' := ?_) ?_ ?_
                              rotate_left
                              ·simp only [putAll, Act.put, List.setIfInBounds_toArray, List.set_cons_zero, List.set_cons_succ]
                               rfl
                              refine one_ (i := 5) (N := some 34) #[true, true, true, true, true, true, true, true, false, true, true, false, true, true, false, true, true, false, false, true, false] rfl rfl (one_of HT_.out (by kernel_rfl)) (by decide) (fun K hK => ?_)
                              refine goes_ Tryd.func53 (by kernel_rfl) rfl #[.string (a0.extract 4 6)] (by rfl) rfl rfl (by ((try simp only [List.map_toArray, List.map_cons, List.map_nil]); first | done | rfl | (simp only [List.length_drop, List.length_take]; rfl))) ?_
                              with_reducible refine (masterdiscref16_number.calls k1 (a0.extract 4 6) t126 _ A17.out).mono ?_
                              rintro e w' ⟨rfl, ⟨nd, rfl⟩⟩
                              refine ⟨_, rfl, ?_⟩
                              refine hK.out _ _ trivial (fun hHeld => ?_)
                              clear hK K
                              refine norm_ (a' := ?_) ?_ ?_
                              rotate_left
                              ·show Act.put _ (some 34) _ = _
                               simp only [Act.put, List.setIfInBounds_toArray, List.set_cons_zero, List.set_cons_succ, i64_w, i32_w]
                               rfl
                              exact norm_ (by first | (simp only [putAll, Act.put, List.setIfInBounds_toArray, List.set_cons_zero, List.set_cons_succ]; done) | (simp only [putAll, Act.put, List.setIfInBounds_toArray, List.set_cons_zero, List.set_cons_succ]; rfl)) (hJ2_5_19 (gb131) _ ⟨(by (with_reducible repeat (first | refine blk_drewN ?_ _ | refine blk_drew ?_ | refine blk_alloc ?_ _)); exact BK131.out), GW131.out, GE131.out, (by repeat (first | (with_reducible first | exact HB.out | apply below_alloc | apply pw_below_drewN | apply below_drew1 | refine below_set ?_ GE131.out) | exact HB.out))⟩)
                            ·skip
                             rintro _ w38 h0_
                             have n0_ : Aside0 (Below w.heap.size w w38) := ⟨h0_⟩
                             clear HB
                             clear h0_
                             have HB := n0_
                             clear n0_
                             have hHeld := trivial
                             refine norm_ (a' := ?_) ?_ ?_
                             rotate_left
                             ·simp only [putAll, Act.put, List.setIfInBounds_toArray, List.set_cons_zero, List.set_cons_succ]
                              rfl
                             refine two_ (i := 8) (j := 19) (Ni := some 37) (Nj := some 6) #[true, true, true, true, true, true, true, true, true, true, true, false, true, true, false, true, true, false, false, false, false] #[true, true, true, true, true, true, true, true, false, true, true, false, true, true, false, true, true, false, false, true, false] rfl rfl rfl rfl (two_of HT_.out (by kernel_rfl)) (by decide) (by decide) (fun K hK => ?_) (fun K hK => ?_)
                             ·skip
                              refine goes_ Tryd.func53 (by kernel_rfl) rfl #[.string (a0.extract 6 8)] (by rfl) rfl rfl (by ((try simp only [List.map_toArray, List.map_cons, List.map_nil]); first | done | rfl | (simp only [List.length_drop, List.length_take]; rfl))) ?_
                              with_reducible refine (masterdiscref16_number.calls k1 (a0.extract 6 8) t127 _ A20.out).mono ?_
                              rintro e w' ⟨rfl, ⟨nd, rfl⟩⟩
                              refine ⟨_, rfl, ?_⟩
                              refine hK.out _ _ trivial (fun hHeld => ?_)
                              clear hK K
                              refine norm_ (a' := ?_) ?_ ?_
                              rotate_left
                              ·show Act.put _ (some 37) _ = _
                               simp only [Act.put, List.setIfInBounds_toArray, List.set_cons_zero, List.set_cons_succ, i64_w, i32_w]
                               rfl
                              exact norm_ (by first | (simp only [putAll, Act.put, List.setIfInBounds_toArray, List.set_cons_zero, List.set_cons_succ]; done) | (simp only [putAll, Act.put, List.setIfInBounds_toArray, List.set_cons_zero, List.set_cons_succ]; rfl)) (hJ2_5_8 () _ (by repeat (first | (with_reducible first | exact HB.out | apply below_alloc | apply pw_below_drewN | apply below_drew1) | exact HB.out)))
                             ·skip
                              refine box_step ?hg (N := 6) ?hd (cs := #[.int .i64 0, .int .i64 0, .int .i64 0, .int .i64 0, .int .i64 0, .int .i64 0]) (t := 23) ?hr ?_; (case hd => rfl); (case hg => rfl); (case hr => first | (go_simp; done) | (go_simp; rfl))
                              intro gb131 hg w39 hbox hb
                              have n0_ := Aside0.mk (below_step (by repeat (first | (with_reducible first | exact HB.out | apply below_alloc | apply pw_below_drewN | apply below_drew1) | exact HB.out)) hb)
                              have n1_ := Aside0.mk (hbox)
                              have n2_ := Aside0.mk ((by rw [hg]; exact (below_size (by repeat (first | (with_reducible first | exact HB.out | apply below_alloc | apply pw_below_drewN | apply below_drew1) | exact HB.out))) : w.heap.size ≤ gb131))
                              have n3_ := Aside0.mk ((by rw [hg]; exact (below_size (by repeat (first | (with_reducible first | exact HB.out | apply below_alloc | apply pw_below_drewN | apply below_drew1) | exact HB.out))) : w.heap.size ≤ gb131))
                              clear HB
                              have HB := n0_
                              have BK131 := n1_
                              have GW131 := n2_
                              have GE131 := n3_
                              clear n0_ n1_ n2_ n3_
                              clear hb hbox hg
                              refine hK.out _ _ trivial (fun hHeld => ?_)
                              clear hK K
                              refine norm_ (a' := ?_) ?_ ?_
                              rotate_left
                              ·show Act.put _ (some 6) _ = _
                               simp only [Act.put, List.setIfInBounds_toArray, List.set_cons_zero, List.set_cons_succ, i64_w, i32_w]
                               rfl
                              exact norm_ (by first | (simp only [putAll, Act.put, List.setIfInBounds_toArray, List.set_cons_zero, List.set_cons_succ]; done) | (simp only [putAll, Act.put, List.setIfInBounds_toArray, List.set_cons_zero, List.set_cons_succ]; rfl)) (hJ2_5_19 (gb131) _ ⟨(by (with_reducible repeat (first | refine blk_drewN ?_ _ | refine blk_drew ?_ | refine blk_alloc ?_ _)); exact BK131.out), GW131.out, GE131.out, (by repeat (first | (with_reducible first | exact HB.out | apply below_alloc | apply pw_below_drewN | apply below_drew1 | refine below_set ?_ GE131.out) | exact HB.out))⟩)
                           ·skip
                            rintro gb131 w39 ⟨h0_, h1_, h2_, h3_⟩
                            have n0_ : Aside0 (w39.heap[gb131]? = some (.cells #[.int .i64 0, .int .i64 0, .int .i64 0, .int .i64 0, .int .i64 0, .int .i64 0] 23 (0, 0))) := ⟨h0_⟩
                            have n1_ : Aside0 (w.heap.size ≤ gb131) := ⟨h1_⟩
                            have n2_ : Aside0 (w.heap.size ≤ gb131) := ⟨h2_⟩
                            have n3_ : Aside0 (Below w.heap.size w w39) := ⟨h3_⟩
                            clear HB
                            clear h0_ h1_ h2_ h3_
                            have BK131 := n0_
                            have GW131 := n1_
                            have GE131 := n2_
                            have HB := n3_
                            clear n0_ n1_ n2_ n3_
                            have hHeld := trivial
                            refine norm_ (a' := ?_) ?_ ?_
                            rotate_left
                            ·simp only [putAll, Act.put, List.setIfInBounds_toArray, List.set_cons_zero, List.set_cons_succ]
                             rfl
                            refine one_ (i := 8) (N := some 37) #[true, true, true, true, true, true, true, true, true, true, true, false, true, true, false, true, true, false, false, true, false] rfl rfl (one_of HT_.out (by kernel_rfl)) (by decide) (fun K hK => ?_)
                            refine goes_ Tryd.func53 (by kernel_rfl) rfl #[.string (a0.extract 6 8)] (by rfl) rfl rfl (by ((try simp only [List.map_toArray, List.map_cons, List.map_nil]); first | done | rfl | (simp only [List.length_drop, List.length_take]; rfl))) ?_
                            with_reducible refine (masterdiscref16_number.calls k1 (a0.extract 6 8) t127 _ A20.out).mono ?_
                            rintro e w' ⟨rfl, ⟨nd, rfl⟩⟩
                            refine ⟨_, rfl, ?_⟩
                            refine hK.out _ _ trivial (fun hHeld => ?_)
                            clear hK K
                            refine norm_ (a' := ?_) ?_ ?_
                            rotate_left
                            ·show Act.put _ (some 37) _ = _
                             simp only [Act.put, List.setIfInBounds_toArray, List.set_cons_zero, List.set_cons_succ, i64_w, i32_w]
                             rfl
                            exact norm_ (by first | (simp only [putAll, Act.put, List.setIfInBounds_toArray, List.set_cons_zero, List.set_cons_succ]; done) | (simp only [putAll, Act.put, List.setIfInBounds_toArray, List.set_cons_zero, List.set_cons_succ]; rfl)) (hJ2_5_8_19 (gb131) _ ⟨(by (with_reducible repeat (first | refine blk_drewN ?_ _ | refine blk_drew ?_ | refine blk_alloc ?_ _)); exact BK131.out), GW131.out, GE131.out, (by repeat (first | (with_reducible first | exact HB.out | apply below_alloc | apply pw_below_drewN | apply below_drew1 | refine below_set ?_ GE131.out) | exact HB.out))⟩)
                          ·skip
                           rintro _ w38 h0_
                           have n0_ : Aside0 (Below w.heap.size w w38) := ⟨h0_⟩
                           clear HB
                           clear h0_
                           have HB := n0_
                           clear n0_
                           have hHeld := trivial
                           refine norm_ (a' := ?_) ?_ ?_
                           rotate_left
                           ·simp only [putAll, Act.put, List.setIfInBounds_toArray, List.set_cons_zero, List.set_cons_succ]
                            rfl
                           refine two_ (i := 11) (j := 19) (Ni := some 40) (Nj := some 6) #[true, true, true, true, true, true, true, true, true, true, true, true, true, true, false, true, true, false, false, false, false] #[true, true, true, true, true, true, true, true, true, true, true, false, true, true, false, true, true, false, false, true, false] rfl rfl rfl rfl (two_of HT_.out (by kernel_rfl)) (by decide) (by decide) (fun K hK => ?_) (fun K hK => ?_)
                           ·skip
                            refine goes_ Tryd.func53 (by kernel_rfl) rfl #[.string (a0.extract 8 10)] (by rfl) rfl rfl (by ((try simp only [List.map_toArray, List.map_cons, List.map_nil]); first | done | rfl | (simp only [List.length_drop, List.length_take]; rfl))) ?_
                            with_reducible refine (masterdiscref16_number.calls k1 (a0.extract 8 10) t128 _ A23.out).mono ?_
                            rintro e w' ⟨rfl, ⟨nd, rfl⟩⟩
                            refine ⟨_, rfl, ?_⟩
                            refine hK.out _ _ trivial (fun hHeld => ?_)
                            clear hK K
                            refine norm_ (a' := ?_) ?_ ?_
                            rotate_left
                            ·show Act.put _ (some 40) _ = _
                             simp only [Act.put, List.setIfInBounds_toArray, List.set_cons_zero, List.set_cons_succ, i64_w, i32_w]
                             rfl
                            exact norm_ (by first | (simp only [putAll, Act.put, List.setIfInBounds_toArray, List.set_cons_zero, List.set_cons_succ]; done) | (simp only [putAll, Act.put, List.setIfInBounds_toArray, List.set_cons_zero, List.set_cons_succ]; rfl)) (hJ2_5_8_11 () _ (by repeat (first | (with_reducible first | exact HB.out | apply below_alloc | apply pw_below_drewN | apply below_drew1) | exact HB.out)))
                           ·skip
                            refine box_step ?hg (N := 6) ?hd (cs := #[.int .i64 0, .int .i64 0, .int .i64 0, .int .i64 0, .int .i64 0, .int .i64 0]) (t := 23) ?hr ?_; (case hd => rfl); (case hg => rfl); (case hr => first | (go_simp; done) | (go_simp; rfl))
                            intro gb131 hg w39 hbox hb
                            have n0_ := Aside0.mk (below_step (by repeat (first | (with_reducible first | exact HB.out | apply below_alloc | apply pw_below_drewN | apply below_drew1) | exact HB.out)) hb)
                            have n1_ := Aside0.mk (hbox)
                            have n2_ := Aside0.mk ((by rw [hg]; exact (below_size (by repeat (first | (with_reducible first | exact HB.out | apply below_alloc | apply pw_below_drewN | apply below_drew1) | exact HB.out))) : w.heap.size ≤ gb131))
                            have n3_ := Aside0.mk ((by rw [hg]; exact (below_size (by repeat (first | (with_reducible first | exact HB.out | apply below_alloc | apply pw_below_drewN | apply below_drew1) | exact HB.out))) : w.heap.size ≤ gb131))
                            clear HB
                            have HB := n0_
                            have BK131 := n1_
                            have GW131 := n2_
                            have GE131 := n3_
                            clear n0_ n1_ n2_ n3_
                            clear hb hbox hg
                            refine hK.out _ _ trivial (fun hHeld => ?_)
                            clear hK K
                            refine norm_ (a' := ?_) ?_ ?_
                            rotate_left
                            ·show Act.put _ (some 6) _ = _
                             simp only [Act.put, List.setIfInBounds_toArray, List.set_cons_zero, List.set_cons_succ, i64_w, i32_w]
                             rfl
                            exact norm_ (by first | (simp only [putAll, Act.put, List.setIfInBounds_toArray, List.set_cons_zero, List.set_cons_succ]; done) | (simp only [putAll, Act.put, List.setIfInBounds_toArray, List.set_cons_zero, List.set_cons_succ]; rfl)) (hJ2_5_8_19 (gb131) _ ⟨(by (with_reducible repeat (first | refine blk_drewN ?_ _ | refine blk_drew ?_ | refine blk_alloc ?_ _)); exact BK131.out), GW131.out, GE131.out, (by repeat (first | (with_reducible first | exact HB.out | apply below_alloc | apply pw_below_drewN | apply below_drew1 | refine below_set ?_ GE131.out) | exact HB.out))⟩)
                         ·skip
                          rintro gb131 w39 ⟨h0_, h1_, h2_, h3_⟩
                          have n0_ : Aside0 (w39.heap[gb131]? = some (.cells #[.int .i64 0, .int .i64 0, .int .i64 0, .int .i64 0, .int .i64 0, .int .i64 0] 23 (0, 0))) := ⟨h0_⟩
                          have n1_ : Aside0 (w.heap.size ≤ gb131) := ⟨h1_⟩
                          have n2_ : Aside0 (w.heap.size ≤ gb131) := ⟨h2_⟩
                          have n3_ : Aside0 (Below w.heap.size w w39) := ⟨h3_⟩
                          clear HB
                          clear h0_ h1_ h2_ h3_
                          have BK131 := n0_
                          have GW131 := n1_
                          have GE131 := n2_
                          have HB := n3_
                          clear n0_ n1_ n2_ n3_
                          have hHeld := trivial
                          refine norm_ (a' := ?_) ?_ ?_
                          rotate_left
                          ·simp only [putAll, Act.put, List.setIfInBounds_toArray, List.set_cons_zero, List.set_cons_succ]
                           rfl
                          refine one_ (i := 11) (N := some 40) #[true, true, true, true, true, true, true, true, true, true, true, true, true, true, false, true, true, false, false, true, false] rfl rfl (one_of HT_.out (by kernel_rfl)) (by decide) (fun K hK => ?_)
                          refine goes_ Tryd.func53 (by kernel_rfl) rfl #[.string (a0.extract 8 10)] (by rfl) rfl rfl (by ((try simp only [List.map_toArray, List.map_cons, List.map_nil]); first | done | rfl | (simp only [List.length_drop, List.length_take]; rfl))) ?_
                          with_reducible refine (masterdiscref16_number.calls k1 (a0.extract 8 10) t128 _ A23.out).mono ?_
                          rintro e w' ⟨rfl, ⟨nd, rfl⟩⟩
                          refine ⟨_, rfl, ?_⟩
                          refine hK.out _ _ trivial (fun hHeld => ?_)
                          clear hK K
                          refine norm_ (a' := ?_) ?_ ?_
                          rotate_left
                          ·show Act.put _ (some 40) _ = _
                           simp only [Act.put, List.setIfInBounds_toArray, List.set_cons_zero, List.set_cons_succ, i64_w, i32_w]
                           rfl
                          exact norm_ (by first | (simp only [putAll, Act.put, List.setIfInBounds_toArray, List.set_cons_zero, List.set_cons_succ]; done) | (simp only [putAll, Act.put, List.setIfInBounds_toArray, List.set_cons_zero, List.set_cons_succ]; rfl)) (hJ2_5_8_11_19 (gb131) _ ⟨(by (with_reducible repeat (first | refine blk_drewN ?_ _ | refine blk_drew ?_ | refine blk_alloc ?_ _)); exact BK131.out), GW131.out, GE131.out, (by repeat (first | (with_reducible first | exact HB.out | apply below_alloc | apply pw_below_drewN | apply below_drew1 | refine below_set ?_ GE131.out) | exact HB.out))⟩)
                        ·skip
                         rintro _ w38 h0_
                         have n0_ : Aside0 (Below w.heap.size w w38) := ⟨h0_⟩
                         clear HB
                         clear h0_
                         have HB := n0_
                         clear n0_
                         have hHeld := trivial
                         refine norm_ (a' := ?_) ?_ ?_
                         rotate_left
                         ·simp only [putAll, Act.put, List.setIfInBounds_toArray, List.set_cons_zero, List.set_cons_succ]
                          rfl
                         refine two_ (i := 14) (j := 19) (Ni := some 43) (Nj := some 6) #[true, true, true, true, true, true, true, true, true, true, true, true, true, true, true, true, true, false, false, false, false] #[true, true, true, true, true, true, true, true, true, true, true, true, true, true, false, true, true, false, false, true, false] rfl rfl rfl rfl (two_of HT_.out (by kernel_rfl)) (by decide) (by decide) (fun K hK => ?_) (fun K hK => ?_)
                         ·skip
                          refine goes_ Tryd.func53 (by kernel_rfl) rfl #[.string (a0.extract 10 12)] (by rfl) rfl rfl (by ((try simp only [List.map_toArray, List.map_cons, List.map_nil]); first | done | rfl | (simp only [List.length_drop, List.length_take]; rfl))) ?_
                          with_reducible refine (masterdiscref16_number.calls k1 (a0.extract 10 12) t129 _ A26.out).mono ?_
                          rintro e w' ⟨rfl, ⟨nd, rfl⟩⟩
                          refine ⟨_, rfl, ?_⟩
                          refine hK.out _ _ trivial (fun hHeld => ?_)
                          clear hK K
                          refine norm_ (a' := ?_) ?_ ?_
                          rotate_left
                          ·show Act.put _ (some 43) _ = _
                           simp only [Act.put, List.setIfInBounds_toArray, List.set_cons_zero, List.set_cons_succ, i64_w, i32_w]
                           rfl
                          exact norm_ (by first | (simp only [putAll, Act.put, List.setIfInBounds_toArray, List.set_cons_zero, List.set_cons_succ]; done) | (simp only [putAll, Act.put, List.setIfInBounds_toArray, List.set_cons_zero, List.set_cons_succ]; rfl)) (hJ2_5_8_11_14 () _ (by repeat (first | (with_reducible first | exact HB.out | apply below_alloc | apply pw_below_drewN | apply below_drew1) | exact HB.out)))
                         ·skip
                          refine box_step ?hg (N := 6) ?hd (cs := #[.int .i64 0, .int .i64 0, .int .i64 0, .int .i64 0, .int .i64 0, .int .i64 0]) (t := 23) ?hr ?_; (case hd => rfl); (case hg => rfl); (case hr => first | (go_simp; done) | (go_simp; rfl))
                          intro gb131 hg w39 hbox hb
                          have n0_ := Aside0.mk (below_step (by repeat (first | (with_reducible first | exact HB.out | apply below_alloc | apply pw_below_drewN | apply below_drew1) | exact HB.out)) hb)
                          have n1_ := Aside0.mk (hbox)
                          have n2_ := Aside0.mk ((by rw [hg]; exact (below_size (by repeat (first | (with_reducible first | exact HB.out | apply below_alloc | apply pw_below_drewN | apply below_drew1) | exact HB.out))) : w.heap.size ≤ gb131))
                          have n3_ := Aside0.mk ((by rw [hg]; exact (below_size (by repeat (first | (with_reducible first | exact HB.out | apply below_alloc | apply pw_below_drewN | apply below_drew1) | exact HB.out))) : w.heap.size ≤ gb131))
                          clear HB
                          have HB := n0_
                          have BK131 := n1_
                          have GW131 := n2_
                          have GE131 := n3_
                          clear n0_ n1_ n2_ n3_
                          clear hb hbox hg
                          refine hK.out _ _ trivial (fun hHeld => ?_)
                          clear hK K
                          refine norm_ (a' := ?_) ?_ ?_
                          rotate_left
                          ·show Act.put _ (some 6) _ = _
                           simp only [Act.put, List.setIfInBounds_toArray, List.set_cons_zero, List.set_cons_succ, i64_w, i32_w]
                           rfl
                          exact norm_ (by first | (simp only [putAll, Act.put, List.setIfInBounds_toArray, List.set_cons_zero, List.set_cons_succ]; done) | (simp only [putAll, Act.put, List.setIfInBounds_toArray, List.set_cons_zero, List.set_cons_succ]; rfl)) (hJ2_5_8_11_19 (gb131) _ ⟨(by (with_reducible repeat (first | refine blk_drewN ?_ _ | refine blk_drew ?_ | refine blk_alloc ?_ _)); exact BK131.out), GW131.out, GE131.out, (by repeat (first | (with_reducible first | exact HB.out | apply below_alloc | apply pw_below_drewN | apply below_drew1 | refine below_set ?_ GE131.out) | exact HB.out))⟩)
                       ·skip
                        rintro gb131 w39 ⟨h0_, h1_, h2_, h3_⟩
                        have n0_ : Aside0 (w39.heap[gb131]? = some (.cells #[.int .i64 0, .int .i64 0, .int .i64 0, .int .i64 0, .int .i64 0, .int .i64 0] 23 (0, 0))) := ⟨h0_⟩
                        have n1_ : Aside0 (w.heap.size ≤ gb131) := ⟨h1_⟩
                        have n2_ : Aside0 (w.heap.size ≤ gb131) := ⟨h2_⟩
                        have n3_ : Aside0 (Below w.heap.size w w39) := ⟨h3_⟩
                        clear HB
                        clear h0_ h1_ h2_ h3_
                        have BK131 := n0_
                        have GW131 := n1_
                        have GE131 := n2_
                        have HB := n3_
                        clear n0_ n1_ n2_ n3_
                        have hHeld := trivial
                        refine norm_ (a' := ?_) ?_ ?_
                        rotate_left
                        ·simp only [putAll, Act.put, List.setIfInBounds_toArray, List.set_cons_zero, List.set_cons_succ]
                         rfl
                        refine one_ (i := 14) (N := some 43) #[true, true, true, true, true, true, true, true, true, true, true, true, true, true, true, true, true, false, false, true, false] rfl rfl (one_of HT_.out (by kernel_rfl)) (by decide) (fun K hK => ?_)
                        refine goes_ Tryd.func53 (by kernel_rfl) rfl #[.string (a0.extract 10 12)] (by rfl) rfl rfl (by ((try simp only [List.map_toArray, List.map_cons, List.map_nil]); first | done | rfl | (simp only [List.length_drop, List.length_take]; rfl))) ?_
                        with_reducible refine (masterdiscref16_number.calls k1 (a0.extract 10 12) t129 _ A26.out).mono ?_
                        rintro e w' ⟨rfl, ⟨nd, rfl⟩⟩
                        refine ⟨_, rfl, ?_⟩
                        refine hK.out _ _ trivial (fun hHeld => ?_)
                        clear hK K
                        refine norm_ (a' := ?_) ?_ ?_
                        rotate_left
                        ·show Act.put _ (some 43) _ = _
                         simp only [Act.put, List.setIfInBounds_toArray, List.set_cons_zero, List.set_cons_succ, i64_w, i32_w]
                         rfl
                        exact norm_ (by first | (simp only [putAll, Act.put, List.setIfInBounds_toArray, List.set_cons_zero, List.set_cons_succ]; done) | (simp only [putAll, Act.put, List.setIfInBounds_toArray, List.set_cons_zero, List.set_cons_succ]; rfl)) (hJ2_5_8_11_14_19 (gb131) _ ⟨(by (with_reducible repeat (first | refine blk_drewN ?_ _ | refine blk_drew ?_ | refine blk_alloc ?_ _)); exact BK131.out), GW131.out, GE131.out, (by repeat (first | (with_reducible first | exact HB.out | apply below_alloc | apply pw_below_drewN | apply below_drew1 | refine below_set ?_ GE131.out) | exact HB.out))⟩)
                      ·skip
                       rintro _ w38 h0_
                       have n0_ : Aside0 (Below w.heap.size w w38) := ⟨h0_⟩
                       clear HB
                       clear h0_
                       have HB := n0_
                       clear n0_
                       have hHeld := trivial
                       refine norm_ (a' := ?_) ?_ ?_
                       rotate_left
                       ·simp only [putAll, Act.put, List.setIfInBounds_toArray, List.set_cons_zero, List.set_cons_succ]
                        rfl
                       refine two_ (i := 17) (j := 19) (Ni := some 46) (Nj := some 6) #[true, true, true, true, true, true, true, true, true, true, true, true, true, true, true, true, true, true, false, false, false] #[true, true, true, true, true, true, true, true, true, true, true, true, true, true, true, true, true, false, false, true, false] rfl rfl rfl rfl (two_of HT_.out (by kernel_rfl)) (by decide) (by decide) (fun K hK => ?_) (fun K hK => ?_)
                       ·skip
                        refine goes_ Tryd.func53 (by kernel_rfl) rfl #[.string (a0.extract 12 14)] (by rfl) rfl rfl (by ((try simp only [List.map_toArray, List.map_cons, List.map_nil]); first | done | rfl | (simp only [List.length_drop, List.length_take]; rfl))) ?_
                        with_reducible refine (masterdiscref16_number.calls k1 (a0.extract 12 14) t130 _ A29.out).mono ?_
                        rintro e w' ⟨rfl, ⟨nd, rfl⟩⟩
                        refine ⟨_, rfl, ?_⟩
                        refine hK.out _ _ trivial (fun hHeld => ?_)
                        clear hK K
                        refine norm_ (a' := ?_) ?_ ?_
                        rotate_left
                        ·show Act.put _ (some 46) _ = _
                         simp only [Act.put, List.setIfInBounds_toArray, List.set_cons_zero, List.set_cons_succ, i64_w, i32_w]
                         rfl
                        refine pure_ (i := 18) (N := some 47) (v := ?_) (a' := ?_) #[true, true, true, true, true, true, true, true, true, true, true, true, true, true, true, true, true, true, true, false, false] rfl rfl (any_of HT_.out (by kernel_rfl)) (fun _ _ _ h => h) (Or.inl ⟨by rfl, ?_⟩) ?_ ?_
                        (rotate_left; (focus (intro w'; go_simp; with_reducible rfl)); rotate_left; (focus (simp only [Act.put, List.setIfInBounds_toArray, List.set_cons_zero, List.set_cons_succ, i64_w, i32_w]; rfl)))
                        exact norm_ (by first | (simp only [putAll, Act.put, List.setIfInBounds_toArray, List.set_cons_zero, List.set_cons_succ]; done) | (simp only [putAll, Act.put, List.setIfInBounds_toArray, List.set_cons_zero, List.set_cons_succ]; rfl)) (hJ2_5_8_11_14_17 () _ (by repeat (first | (with_reducible first | exact HB.out | apply below_alloc | apply pw_below_drewN | apply below_drew1) | exact HB.out)))
                       ·skip
                        refine box_step ?hg (N := 6) ?hd (cs := #[.int .i64 0, .int .i64 0, .int .i64 0, .int .i64 0, .int .i64 0, .int .i64 0]) (t := 23) ?hr ?_; (case hd => rfl); (case hg => rfl); (case hr => first | (go_simp; done) | (go_simp; rfl))
                        intro gb131 hg w39 hbox hb
                        have n0_ := Aside0.mk (below_step (by repeat (first | (with_reducible first | exact HB.out | apply below_alloc | apply pw_below_drewN | apply below_drew1) | exact HB.out)) hb)
                        have n1_ := Aside0.mk (hbox)
                        have n2_ := Aside0.mk ((by rw [hg]; exact (below_size (by repeat (first | (with_reducible first | exact HB.out | apply below_alloc | apply pw_below_drewN | apply below_drew1) | exact HB.out))) : w.heap.size ≤ gb131))
                        have n3_ := Aside0.mk ((by rw [hg]; exact (below_size (by repeat (first | (with_reducible first | exact HB.out | apply below_alloc | apply pw_below_drewN | apply below_drew1) | exact HB.out))) : w.heap.size ≤ gb131))
                        clear HB
                        have HB := n0_
                        have BK131 := n1_
                        have GW131 := n2_
                        have GE131 := n3_
                        clear n0_ n1_ n2_ n3_
                        clear hb hbox hg
                        refine hK.out _ _ trivial (fun hHeld => ?_)
                        clear hK K
                        refine norm_ (a' := ?_) ?_ ?_
                        rotate_left
                        ·show Act.put _ (some 6) _ = _
                         simp only [Act.put, List.setIfInBounds_toArray, List.set_cons_zero, List.set_cons_succ, i64_w, i32_w]
                         rfl
                        exact norm_ (by first | (simp only [putAll, Act.put, List.setIfInBounds_toArray, List.set_cons_zero, List.set_cons_succ]; done) | (simp only [putAll, Act.put, List.setIfInBounds_toArray, List.set_cons_zero, List.set_cons_succ]; rfl)) (hJ2_5_8_11_14_19 (gb131) _ ⟨(by (with_reducible repeat (first | refine blk_drewN ?_ _ | refine blk_drew ?_ | refine blk_alloc ?_ _)); exact BK131.out), GW131.out, GE131.out, (by repeat (first | (with_reducible first | exact HB.out | apply below_alloc | apply pw_below_drewN | apply below_drew1 | refine below_set ?_ GE131.out) | exact HB.out))⟩)
                     ·skip
                      rintro gb131 w39 ⟨h0_, h1_, h2_, h3_⟩
                      have n0_ : Aside0 (w39.heap[gb131]? = some (.cells #[.int .i64 0, .int .i64 0, .int .i64 0, .int .i64 0, .int .i64 0, .int .i64 0] 23 (0, 0))) := ⟨h0_⟩
                      have n1_ : Aside0 (w.heap.size ≤ gb131) := ⟨h1_⟩
                      have n2_ : Aside0 (w.heap.size ≤ gb131) := ⟨h2_⟩
                      have n3_ : Aside0 (Below w.heap.size w w39) := ⟨h3_⟩
                      clear HB
                      clear h0_ h1_ h2_ h3_
                      have BK131 := n0_
                      have GW131 := n1_
                      have GE131 := n2_
                      have HB := n3_
                      clear n0_ n1_ n2_ n3_
                      have hHeld := trivial
                      refine norm_ (a' := ?_) ?_ ?_
                      rotate_left
                      ·simp only [putAll, Act.put, List.setIfInBounds_toArray, List.set_cons_zero, List.set_cons_succ]
                       rfl
                      refine one_ (i := 17) (N := some 46) #[true, true, true, true, true, true, true, true, true, true, true, true, true, true, true, true, true, true, false, true, false] rfl rfl (one_of HT_.out (by kernel_rfl)) (by decide) (fun K hK => ?_)
                      refine goes_ Tryd.func53 (by kernel_rfl) rfl #[.string (a0.extract 12 14)] (by rfl) rfl rfl (by ((try simp only [List.map_toArray, List.map_cons, List.map_nil]); first | done | rfl | (simp only [List.length_drop, List.length_take]; rfl))) ?_
                      with_reducible refine (masterdiscref16_number.calls k1 (a0.extract 12 14) t130 _ A29.out).mono ?_
                      rintro e w' ⟨rfl, ⟨nd, rfl⟩⟩
                      refine ⟨_, rfl, ?_⟩
                      refine hK.out _ _ trivial (fun hHeld => ?_)
                      clear hK K
                      refine norm_ (a' := ?_) ?_ ?_
                      rotate_left
                      ·show Act.put _ (some 46) _ = _
                       simp only [Act.put, List.setIfInBounds_toArray, List.set_cons_zero, List.set_cons_succ, i64_w, i32_w]
                       rfl
                      refine pure_ (i := 18) (N := some 47) (v := ?_) (a' := ?_) #[true, true, true, true, true, true, true, true, true, true, true, true, true, true, true, true, true, true, true, true, false] rfl rfl (any_of HT_.out (by kernel_rfl)) (fun _ _ _ h => h) (Or.inl ⟨by rfl, ?_⟩) ?_ ?_
                      (rotate_left; (focus (intro w'; go_simp; with_reducible rfl)); rotate_left; (focus (simp only [Act.put, List.setIfInBounds_toArray, List.set_cons_zero, List.set_cons_succ, i64_w, i32_w]; rfl)))
                      exact norm_ (by first | (simp only [putAll, Act.put, List.setIfInBounds_toArray, List.set_cons_zero, List.set_cons_succ]; done) | (simp only [putAll, Act.put, List.setIfInBounds_toArray, List.set_cons_zero, List.set_cons_succ]; rfl)) (hJ2_5_8_11_14_17_19 (gb131) _ ⟨(by (with_reducible repeat (first | refine blk_drewN ?_ _ | refine blk_drew ?_ | refine blk_alloc ?_ _)); exact BK131.out), GW131.out, GE131.out, (by repeat (first | (with_reducible first | exact HB.out | apply below_alloc | apply pw_below_drewN | apply below_drew1 | refine below_set ?_ GE131.out) | exact HB.out))⟩)
                    ·skip
                     rintro _ w38 h0_
                     have n0_ : Aside0 (Below w.heap.size w w38) := ⟨h0_⟩
                     clear HB
                     clear h0_
                     have HB := n0_
                     clear n0_
                     have hHeld := trivial
                     refine norm_ (a' := ?_) ?_ ?_
                     rotate_left
                     ·simp only [putAll, Act.put, List.setIfInBounds_toArray, List.set_cons_zero, List.set_cons_succ]
                      rfl
                     refine one_ (i := 19) (N := some 6) #[true, true, true, true, true, true, true, true, true, true, true, true, true, true, true, true, true, true, true, true, false] rfl rfl (one_of HT_.out (by kernel_rfl)) (by decide) (fun K hK => ?_)
                     refine box_step ?hg (N := 6) ?hd (cs := #[.int .i64 0, .int .i64 0, .int .i64 0, .int .i64 0, .int .i64 0, .int .i64 0]) (t := 23) ?hr ?_; (case hd => rfl); (case hg => rfl); (case hr => first | (go_simp; done) | (go_simp; rfl))
                     intro gb131 hg w39 hbox hb
                     have n0_ := Aside0.mk (below_step (by repeat (first | (with_reducible first | exact HB.out | apply below_alloc | apply pw_below_drewN | apply below_drew1) | exact HB.out)) hb)
                     have n1_ := Aside0.mk (hbox)
                     have n2_ := Aside0.mk ((by rw [hg]; exact (below_size (by repeat (first | (with_reducible first | exact HB.out | apply below_alloc | apply pw_below_drewN | apply below_drew1) | exact HB.out))) : w.heap.size ≤ gb131))
                     have n3_ := Aside0.mk ((by rw [hg]; exact (below_size (by repeat (first | (with_reducible first | exact HB.out | apply below_alloc | apply pw_below_drewN | apply below_drew1) | exact HB.out))) : w.heap.size ≤ gb131))
                     clear HB
                     have HB := n0_
                     have BK131 := n1_
                     have GW131 := n2_
                     have GE131 := n3_
                     clear n0_ n1_ n2_ n3_
                     clear hb hbox hg
                     refine hK.out _ _ trivial (fun hHeld => ?_)
                     clear hK K
                     refine norm_ (a' := ?_) ?_ ?_
                     rotate_left
                     ·show Act.put _ (some 6) _ = _
                      simp only [Act.put, List.setIfInBounds_toArray, List.set_cons_zero, List.set_cons_succ, i64_w, i32_w]
                      rfl
                     exact norm_ (by first | (simp only [putAll, Act.put, List.setIfInBounds_toArray, List.set_cons_zero, List.set_cons_succ]; done) | (simp only [putAll, Act.put, List.setIfInBounds_toArray, List.set_cons_zero, List.set_cons_succ]; rfl)) (hJ2_5_8_11_14_17_19 (gb131) _ ⟨(by (with_reducible repeat (first | refine blk_drewN ?_ _ | refine blk_drew ?_ | refine blk_alloc ?_ _)); exact BK131.out), GW131.out, GE131.out, (by repeat (first | (with_reducible first | exact HB.out | apply below_alloc | apply pw_below_drewN | apply below_drew1 | refine below_set ?_ GE131.out) | exact HB.out))⟩)
                   rintro gb131 w39 ⟨h0_, h1_, h2_, h3_⟩
                   have n0_ : Aside0 (w39.heap[gb131]? = some (.cells #[.int .i64 0, .int .i64 0, .int .i64 0, .int .i64 0, .int .i64 0, .int .i64 0] 23 (0, 0))) := ⟨h0_⟩
                   have n1_ : Aside0 (w.heap.size ≤ gb131) := ⟨h1_⟩
                   have n2_ : Aside0 (w.heap.size ≤ gb131) := ⟨h2_⟩
                   have n3_ : Aside0 (Below w.heap.size w w39) := ⟨h3_⟩
                   clear HB
                   clear h0_ h1_ h2_ h3_
                   have BK131 := n0_
                   have GW131 := n1_
                   have GE131 := n2_
                   have HB := n3_
                   clear n0_ n1_ n2_ n3_
                   have hHeld := trivial
                   refine norm_ (a' := ?_) ?_ ?_
                   rotate_left
                   ·simp only [putAll, Act.put, List.setIfInBounds_toArray, List.set_cons_zero, List.set_cons_succ]
                    rfl
                   refine one_ (i := 20) (N := none) #[true, true, true, true, true, true, true, true, true, true, true, true, true, true, true, true, true, true, true, true, true] rfl rfl (one_of HT_.out (by kernel_rfl)) (by decide) (fun K hK => ?_)
                   have hs40 : w39.cell? ⟨gb131, 0, none⟩ = some (.int .i64 0) := (blk_cell BK131.out 0).trans rfl
                   have hfs40 := blk_frozen BK131.out 0
                   have hs41 : w39.cell? ⟨gb131, 1, none⟩ = some (.int .i64 0) := (blk_cell BK131.out 1).trans rfl
                   have hfs41 := blk_frozen BK131.out 1
                   have hs42 : w39.cell? ⟨gb131, 2, none⟩ = some (.int .i64 0) := (blk_cell BK131.out 2).trans rfl
                   have hfs42 := blk_frozen BK131.out 2
                   have hs43 : w39.cell? ⟨gb131, 3, none⟩ = some (.int .i64 0) := (blk_cell BK131.out 3).trans rfl
                   have hfs43 := blk_frozen BK131.out 3
                   have hs44 : w39.cell? ⟨gb131, 4, none⟩ = some (.int .i64 0) := (blk_cell BK131.out 4).trans rfl
                   have hfs44 := blk_frozen BK131.out 4
                   have hs45 : w39.cell? ⟨gb131, 5, none⟩ = some (.int .i64 0) := (blk_cell BK131.out 5).trans rfl
                   have hfs45 := blk_frozen BK131.out 5
                   refine skip_ (w1 := ?_) (by rfl) rfl ?_ ?_
                   rotate_left
                   ·go_simp
                    rfl
                   refine hK.out _ _ trivial (fun hHeld => ?_)
                   clear hK K
                   refine done_ (done_of HT_.out (by kernel_rfl)) ?_
                   have H := HW0.out
                   clear HW0
                   by_cases c34 : t134 = true
                   ·subst c34
                    have H1 : (if t133 = true then ((masterdiscref16_finish.f t125 t126 t127 t128 t129 t130 t132).bind fun bt135 => (some (bt135.1, bt135.2.1, bt135.2.2))) else (some (0, 0, 10))) = some (r1, r2, r3) := by rw [if_pos rfl] at H; exact H
                    clear H
                    have H := H1
                    clear H1
                    by_cases c35 : t133 = true
                    ·subst c35
                     have H1 : ((masterdiscref16_finish.f t125 t126 t127 t128 t129 t130 t132).bind fun bt135 => (some (bt135.1, bt135.2.1, bt135.2.2))) = some (r1, r2, r3) := by rw [if_pos rfl] at H; exact H
                     clear H
                     have H := H1
                     clear H1
                     replace H := Option.bind_eq_some_iff.mp H
                     obtain ⟨⟨t135, t136, t137⟩, A360, H⟩ := H
                     replace H : (some (t135, t136, t137)) = some (r1, r2, r3) := H
                     have A36 := Aside0.mk A360
                     clear A360
                     simp only [Option.some.injEq, Prod.mk.injEq] at H
                     obtain ⟨rfl, rfl, rfl⟩ := H
                     have p31 : 0 ≤ (16 : Int) := (by omega)
                     have q31 : 16 < a0.size := (by have : (16 : Int) < (a0.size : Int) := of_decide_eq_true (by first | (with_reducible assumption) | assumption); omega)
                     have hx31 : ∀ h : 16 < a0.size, ((a0[16]'h).toNat : Int) = bt a0 16 := bt_at a0 16
                     clear p31
                     have qi31 : (16 < (a0.size : Int)) = True := eq_true (of_decide_eq_true (by first | (with_reducible assumption) | assumption))
                     replace q31 := eq_true q31
                     try go_wp2_with (first | ((with_reducible refine gate_callee (f := 46) rfl ?_); refine goesL_ (some 51) rfl rfl Tryd.func46 (by kernel_rfl) rfl #[.int .u8 (bt a0 16)] rfl (by ((try simp only [List.map_toArray, List.map_cons, List.map_nil]); first | done | rfl | (simp only [List.length_drop, List.length_take]; rfl))) ?_; (with_reducible refine (masterdiscref16_zone.calls (bt a0 16) t132 true _ A32.out).mono ?_); rintro e w46 ⟨rfl, hb⟩; refine ⟨_, rfl, ?_⟩; have n0_ := Aside0.mk (blk_below (g := gb131) (o := .cells #[.int .i64 t125, .int .i64 t126, .int .i64 t127, .int .i64 t128, .int .i64 t129, .int .i64 t130] 23 (0, 0)) (by (with_reducible repeat (first | refine blk_drewN ?_ _ | refine blk_drew ?_ | refine blk_alloc ?_ _)); refine blk_put (cs := #[.int .i64 t125, .int .i64 t126, .int .i64 t127, .int .i64 t128, .int .i64 t129, .int .i64 0]) ?_ 5 _ rfl; (with_reducible repeat (first | refine blk_drewN ?_ _ | refine blk_drew ?_ | refine blk_alloc ?_ _)); refine blk_put (cs := #[.int .i64 t125, .int .i64 t126, .int .i64 t127, .int .i64 t128, .int .i64 0, .int .i64 0]) ?_ 4 _ rfl; (with_reducible repeat (first | refine blk_drewN ?_ _ | refine blk_drew ?_ | refine blk_alloc ?_ _)); refine blk_put (cs := #[.int .i64 t125, .int .i64 t126, .int .i64 t127, .int .i64 0, .int .i64 0, .int .i64 0]) ?_ 3 _ rfl; (with_reducible repeat (first | refine blk_drewN ?_ _ | refine blk_drew ?_ | refine blk_alloc ?_ _)); refine blk_put (cs := #[.int .i64 t125, .int .i64 t126, .int .i64 0, .int .i64 0, .int .i64 0, .int .i64 0]) ?_ 2 _ rfl; (with_reducible repeat (first | refine blk_drewN ?_ _ | refine blk_drew ?_ | refine blk_alloc ?_ _)); refine blk_put (cs := #[.int .i64 t125, .int .i64 0, .int .i64 0, .int .i64 0, .int .i64 0, .int .i64 0]) ?_ 1 _ rfl; (with_reducible repeat (first | refine blk_drewN ?_ _ | refine blk_drew ?_ | refine blk_alloc ?_ _)); refine blk_put (cs := #[.int .i64 0, .int .i64 0, .int .i64 0, .int .i64 0, .int .i64 0, .int .i64 0]) ?_ 0 _ rfl; (with_reducible repeat (first | refine blk_drewN ?_ _ | refine blk_drew ?_ | refine blk_alloc ?_ _)); exact BK131.out) hb); have n1_ := Aside0.mk (below_step (by repeat (first | (with_reducible first | exact HB.out | apply below_alloc | apply pw_below_drewN | apply below_drew1 | refine below_set ?_ GE131.out) | exact HB.out)) hb); clear BK131; clear HB; have BK131 := n0_; have HB := n1_; clear n0_ n1_; ((try clear hb); (try clear hb2); (try clear hk); (try clear hi)); have hcz47_0 : w46.cell? ⟨gb131, 0, none⟩ = some (.int .i64 t125) := (blk_cell BK131.out 0).trans rfl; have hcz47_1 : w46.cell? ⟨gb131, 1, none⟩ = some (.int .i64 t126) := (blk_cell BK131.out 1).trans rfl; have hcz47_2 : w46.cell? ⟨gb131, 2, none⟩ = some (.int .i64 t127) := (blk_cell BK131.out 2).trans rfl; have hcz47_3 : w46.cell? ⟨gb131, 3, none⟩ = some (.int .i64 t128) := (blk_cell BK131.out 3).trans rfl; have hcz47_4 : w46.cell? ⟨gb131, 4, none⟩ = some (.int .i64 t129) := (blk_cell BK131.out 4).trans rfl; have hcz47_5 : w46.cell? ⟨gb131, 5, none⟩ = some (.int .i64 t130) := (blk_cell BK131.out 5).trans rfl; have hfz47_0 := blk_frozen BK131.out 0; have hfz47_1 := blk_frozen BK131.out 1; have hfz47_2 := blk_frozen BK131.out 2; have hfz47_3 := blk_frozen BK131.out 3; have hfz47_4 := blk_frozen BK131.out 4; have hfz47_5 := blk_frozen BK131.out 5) | ((with_reducible refine gate_callee (f := 40) rfl ?_); refine goesL_ (some 55) rfl rfl Tryd.func40 (by kernel_rfl) rfl #[.agg #[.int .i64 t125, .int .i64 t126, .int .i64 t127, .int .i64 t128, .int .i64 t129, .int .i64 t130]] rfl (by ((try simp only [List.map_toArray, List.map_cons, List.map_nil]); first | done | rfl | (simp only [List.length_drop, List.length_take]; rfl))) ?_; (with_reducible refine (masterdiscref16_Valid.calls t125 t126 t127 t128 t129 t130 true _ A33.out).mono ?_); rintro e w48 ⟨rfl, hb⟩; refine ⟨_, rfl, ?_⟩; have n0_ := Aside0.mk (blk_below (g := gb131) (o := .cells #[.int .i64 t125, .int .i64 t126, .int .i64 t127, .int .i64 t128, .int .i64 t129, .int .i64 t130] 23 (0, 0)) (by (with_reducible repeat (first | refine blk_drewN ?_ _ | refine blk_drew ?_ | refine blk_alloc ?_ _)); exact BK131.out) hb); have n1_ := Aside0.mk (below_step (by repeat (first | (with_reducible first | exact HB.out | apply below_alloc | apply pw_below_drewN | apply below_drew1 | refine below_set ?_ GE131.out) | exact HB.out)) hb); clear BK131; clear HB; have BK131 := n0_; have HB := n1_; clear n0_ n1_; ((try clear hb); (try clear hb2); (try clear hk); (try clear hi)); have hcz49_0 : w48.cell? ⟨gb131, 0, none⟩ = some (.int .i64 t125) := (blk_cell BK131.out 0).trans rfl; have hcz49_1 : w48.cell? ⟨gb131, 1, none⟩ = some (.int .i64 t126) := (blk_cell BK131.out 1).trans rfl; have hcz49_2 : w48.cell? ⟨gb131, 2, none⟩ = some (.int .i64 t127) := (blk_cell BK131.out 2).trans rfl; have hcz49_3 : w48.cell? ⟨gb131, 3, none⟩ = some (.int .i64 t128) := (blk_cell BK131.out 3).trans rfl; have hcz49_4 : w48.cell? ⟨gb131, 4, none⟩ = some (.int .i64 t129) := (blk_cell BK131.out 4).trans rfl; have hcz49_5 : w48.cell? ⟨gb131, 5, none⟩ = some (.int .i64 t130) := (blk_cell BK131.out 5).trans rfl; have hfz49_0 := blk_frozen BK131.out 0; have hfz49_1 := blk_frozen BK131.out 1; have hfz49_2 := blk_frozen BK131.out 2; have hfz49_3 := blk_frozen BK131.out 3; have hfz49_4 := blk_frozen BK131.out 4; have hfz49_5 := blk_frozen BK131.out 5) | ((with_reducible refine gate_callee (f := 47) rfl ?_); refine goesL_ (some 63) rfl rfl Tryd.func47 (by kernel_rfl) rfl #[.agg #[.int .i64 t125, .int .i64 t126, .int .i64 t127, .int .i64 t128, .int .i64 t129, .int .i64 t130], .int .i64 t132] rfl (by ((try simp only [List.map_toArray, List.map_cons, List.map_nil]); first | done | rfl | (simp only [List.length_drop, List.length_take]; rfl))) ?_; (with_reducible refine (masterdiscref16_finish.calls t125 t126 t127 t128 t129 t130 t132 t135 t136 t137 _ A36.out).mono ?_); rintro e w50 ⟨rfl, hb⟩; refine ⟨_, rfl, ?_⟩; have n0_ := Aside0.mk (blk_below (g := gb131) (o := .cells #[.int .i64 t125, .int .i64 t126, .int .i64 t127, .int .i64 t128, .int .i64 t129, .int .i64 t130] 23 (0, 0)) (by (with_reducible repeat (first | refine blk_drewN ?_ _ | refine blk_drew ?_ | refine blk_alloc ?_ _)); exact BK131.out) hb); have n1_ := Aside0.mk (below_step (by repeat (first | (with_reducible first | exact HB.out | apply below_alloc | apply pw_below_drewN | apply below_drew1 | refine below_set ?_ GE131.out) | exact HB.out)) hb); clear BK131; clear HB; have BK131 := n0_; have HB := n1_; clear n0_ n1_; ((try clear hb); (try clear hb2); (try clear hk); (try clear hi))))
                     go_ret3
                     exact ⟨by (first | rfl | (simp [errW_none, errW_some] <;> rfl) | (simp [*, errW_none, errW_some] <;> rfl)), by repeat (first | (with_reducible first | exact HB.out | apply below_alloc | apply pw_below_drewN | apply below_drew1 | refine below_set ?_ GE131.out) | exact HB.out)⟩
                    ·replace c35 := Bool.eq_false_iff.mpr c35
                     subst c35
                     have H1 : (some (0, 0, 10)) = some (r1, r2, r3) := by rw [if_neg (show ¬ (false = true) by decide)] at H; exact H
                     clear H
                     have H := H1
                     clear H1
                     simp only [Option.some.injEq, Prod.mk.injEq] at H
                     obtain ⟨rfl, rfl, rfl⟩ := H
                     have p31 : 0 ≤ (16 : Int) := (by omega)
                     have q31 : 16 < a0.size := (by have : (16 : Int) < (a0.size : Int) := of_decide_eq_true (by first | (with_reducible assumption) | assumption); omega)
                     have hx31 : ∀ h : 16 < a0.size, ((a0[16]'h).toNat : Int) = bt a0 16 := bt_at a0 16
                     clear p31
                     have qi31 : (16 < (a0.size : Int)) = True := eq_true (of_decide_eq_true (by first | (with_reducible assumption) | assumption))
                     replace q31 := eq_true q31
                     try go_wp2_with (first | ((with_reducible refine gate_callee (f := 46) rfl ?_); refine goesL_ (some 51) rfl rfl Tryd.func46 (by kernel_rfl) rfl #[.int .u8 (bt a0 16)] rfl (by ((try simp only [List.map_toArray, List.map_cons, List.map_nil]); first | done | rfl | (simp only [List.length_drop, List.length_take]; rfl))) ?_; (with_reducible refine (masterdiscref16_zone.calls (bt a0 16) t132 false _ A32.out).mono ?_); rintro e w60 ⟨rfl, hb⟩; refine ⟨_, rfl, ?_⟩; have n0_ := Aside0.mk (blk_below (g := gb131) (o := .cells #[.int .i64 t125, .int .i64 t126, .int .i64 t127, .int .i64 t128, .int .i64 t129, .int .i64 t130] 23 (0, 0)) (by (with_reducible repeat (first | refine blk_drewN ?_ _ | refine blk_drew ?_ | refine blk_alloc ?_ _)); refine blk_put (cs := #[.int .i64 t125, .int .i64 t126, .int .i64 t127, .int .i64 t128, .int .i64 t129, .int .i64 0]) ?_ 5 _ rfl; (with_reducible repeat (first | refine blk_drewN ?_ _ | refine blk_drew ?_ | refine blk_alloc ?_ _)); refine blk_put (cs := #[.int .i64 t125, .int .i64 t126, .int .i64 t127, .int .i64 t128, .int .i64 0, .int .i64 0]) ?_ 4 _ rfl; (with_reducible repeat (first | refine blk_drewN ?_ _ | refine blk_drew ?_ | refine blk_alloc ?_ _)); refine blk_put (cs := #[.int .i64 t125, .int .i64 t126, .int .i64 t127, .int .i64 0, .int .i64 0, .int .i64 0]) ?_ 3 _ rfl; (with_reducible repeat (first | refine blk_drewN ?_ _ | refine blk_drew ?_ | refine blk_alloc ?_ _)); refine blk_put (cs := #[.int .i64 t125, .int .i64 t126, .int .i64 0, .int .i64 0, .int .i64 0, .int .i64 0]) ?_ 2 _ rfl; (with_reducible repeat (first | refine blk_drewN ?_ _ | refine blk_drew ?_ | refine blk_alloc ?_ _)); refine blk_put (cs := #[.int .i64 t125, .int .i64 0, .int .i64 0, .int .i64 0, .int .i64 0, .int .i64 0]) ?_ 1 _ rfl; (with_reducible repeat (first | refine blk_drewN ?_ _ | refine blk_drew ?_ | refine blk_alloc ?_ _)); refine blk_put (cs := #[.int .i64 0, .int .i64 0, .int .i64 0, .int .i64 0, .int .i64 0, .int .i64 0]) ?_ 0 _ rfl; (with_reducible repeat (first | refine blk_drewN ?_ _ | refine blk_drew ?_ | refine blk_alloc ?_ _)); exact BK131.out) hb); have n1_ := Aside0.mk (below_step (by repeat (first | (with_reducible first | exact HB.out | apply below_alloc | apply pw_below_drewN | apply below_drew1 | refine below_set ?_ GE131.out) | exact HB.out)) hb); clear BK131; clear HB; have BK131 := n0_; have HB := n1_; clear n0_ n1_; ((try clear hb); (try clear hb2); (try clear hk); (try clear hi)); have hcz61_0 : w60.cell? ⟨gb131, 0, none⟩ = some (.int .i64 t125) := (blk_cell BK131.out 0).trans rfl; have hcz61_1 : w60.cell? ⟨gb131, 1, none⟩ = some (.int .i64 t126) := (blk_cell BK131.out 1).trans rfl; have hcz61_2 : w60.cell? ⟨gb131, 2, none⟩ = some (.int .i64 t127) := (blk_cell BK131.out 2).trans rfl; have hcz61_3 : w60.cell? ⟨gb131, 3, none⟩ = some (.int .i64 t128) := (blk_cell BK131.out 3).trans rfl; have hcz61_4 : w60.cell? ⟨gb131, 4, none⟩ = some (.int .i64 t129) := (blk_cell BK131.out 4).trans rfl; have hcz61_5 : w60.cell? ⟨gb131, 5, none⟩ = some (.int .i64 t130) := (blk_cell BK131.out 5).trans rfl; have hfz61_0 := blk_frozen BK131.out 0; have hfz61_1 := blk_frozen BK131.out 1; have hfz61_2 := blk_frozen BK131.out 2; have hfz61_3 := blk_frozen BK131.out 3; have hfz61_4 := blk_frozen BK131.out 4; have hfz61_5 := blk_frozen BK131.out 5) | ((with_reducible refine gate_callee (f := 40) rfl ?_); refine goesL_ (some 55) rfl rfl Tryd.func40 (by kernel_rfl) rfl #[.agg #[.int .i64 t125, .int .i64 t126, .int .i64 t127, .int .i64 t128, .int .i64 t129, .int .i64 t130]] rfl (by ((try simp only [List.map_toArray, List.map_cons, List.map_nil]); first | done | rfl | (simp only [List.length_drop, List.length_take]; rfl))) ?_; (with_reducible refine (masterdiscref16_Valid.calls t125 t126 t127 t128 t129 t130 true _ A33.out).mono ?_); rintro e w62 ⟨rfl, hb⟩; refine ⟨_, rfl, ?_⟩; have n0_ := Aside0.mk (blk_below (g := gb131) (o := .cells #[.int .i64 t125, .int .i64 t126, .int .i64 t127, .int .i64 t128, .int .i64 t129, .int .i64 t130] 23 (0, 0)) (by (with_reducible repeat (first | refine blk_drewN ?_ _ | refine blk_drew ?_ | refine blk_alloc ?_ _)); exact BK131.out) hb); have n1_ := Aside0.mk (below_step (by repeat (first | (with_reducible first | exact HB.out | apply below_alloc | apply pw_below_drewN | apply below_drew1 | refine below_set ?_ GE131.out) | exact HB.out)) hb); clear BK131; clear HB; have BK131 := n0_; have HB := n1_; clear n0_ n1_; ((try clear hb); (try clear hb2); (try clear hk); (try clear hi))))
                     go_ret3
                     exact ⟨by (first | rfl | (simp [errW_none, errW_some] <;> rfl) | (simp [*, errW_none, errW_some] <;> rfl)), by repeat (first | (with_reducible first | exact HB.out | apply below_alloc | apply pw_below_drewN | apply below_drew1 | refine below_set ?_ GE131.out) | exact HB.out)⟩
                   ·replace c34 := Bool.eq_false_iff.mpr c34
                    subst c34
                    have H1 : (some (0, 0, 10)) = some (r1, r2, r3) := by rw [if_neg (show ¬ (false = true) by decide)] at H; exact H
                    clear H
                    have H := H1
                    clear H1
                    simp only [Option.some.injEq, Prod.mk.injEq] at H
                    obtain ⟨rfl, rfl, rfl⟩ := H
                    have p31 : 0 ≤ (16 : Int) := (by omega)
                    have q31 : 16 < a0.size := (by have : (16 : Int) < (a0.size : Int) := of_decide_eq_true (by first | (with_reducible assumption) | assumption); omega)
                    have hx31 : ∀ h : 16 < a0.size, ((a0[16]'h).toNat : Int) = bt a0 16 := bt_at a0 16
                    clear p31
                    have qi31 : (16 < (a0.size : Int)) = True := eq_true (of_decide_eq_true (by first | (with_reducible assumption) | assumption))
                    replace q31 := eq_true q31
                    try go_wp2_with (first | ((with_reducible refine gate_callee (f := 46) rfl ?_); refine goesL_ (some 51) rfl rfl Tryd.func46 (by kernel_rfl) rfl #[.int .u8 (bt a0 16)] rfl (by ((try simp only [List.map_toArray, List.map_cons, List.map_nil]); first | done | rfl | (simp only [List.length_drop, List.length_take]; rfl))) ?_; (with_reducible refine (masterdiscref16_zone.calls (bt a0 16) t132 t133 _ A32.out).mono ?_); rintro e w72 ⟨rfl, hb⟩; refine ⟨_, rfl, ?_⟩; have n0_ := Aside0.mk (blk_below (g := gb131) (o := .cells #[.int .i64 t125, .int .i64 t126, .int .i64 t127, .int .i64 t128, .int .i64 t129, .int .i64 t130] 23 (0, 0)) (by (with_reducible repeat (first | refine blk_drewN ?_ _ | refine blk_drew ?_ | refine blk_alloc ?_ _)); refine blk_put (cs := #[.int .i64 t125, .int .i64 t126, .int .i64 t127, .int .i64 t128, .int .i64 t129, .int .i64 0]) ?_ 5 _ rfl; (with_reducible repeat (first | refine blk_drewN ?_ _ | refine blk_drew ?_ | refine blk_alloc ?_ _)); refine blk_put (cs := #[.int .i64 t125, .int .i64 t126, .int .i64 t127, .int .i64 t128, .int .i64 0, .int .i64 0]) ?_ 4 _ rfl; (with_reducible repeat (first | refine blk_drewN ?_ _ | refine blk_drew ?_ | refine blk_alloc ?_ _)); refine blk_put (cs := #[.int .i64 t125, .int .i64 t126, .int .i64 t127, .int .i64 0, .int .i64 0, .int .i64 0]) ?_ 3 _ rfl; (with_reducible repeat (first | refine blk_drewN ?_ _ | refine blk_drew ?_ | refine blk_alloc ?_ _)); refine blk_put (cs := #[.int .i64 t125, .int .i64 t126, .int .i64 0, .int .i64 0, .int .i64 0, .int .i64 0]) ?_ 2 _ rfl; (with_reducible repeat (first | refine blk_drewN ?_ _ | refine blk_drew ?_ | refine blk_alloc ?_ _)); refine blk_put (cs := #[.int .i64 t125, .int .i64 0, .int .i64 0, .int .i64 0, .int .i64 0, .int .i64 0]) ?_ 1 _ rfl; (with_reducible repeat (first | refine blk_drewN ?_ _ | refine blk_drew ?_ | refine blk_alloc ?_ _)); refine blk_put (cs := #[.int .i64 0, .int .i64 0, .int .i64 0, .int .i64 0, .int .i64 0, .int .i64 0]) ?_ 0 _ rfl; (with_reducible repeat (first | refine blk_drewN ?_ _ | refine blk_drew ?_ | refine blk_alloc ?_ _)); exact BK131.out) hb); have n1_ := Aside0.mk (below_step (by repeat (first | (with_reducible first | exact HB.out | apply below_alloc | apply pw_below_drewN | apply below_drew1 | refine below_set ?_ GE131.out) | exact HB.out)) hb); clear BK131; clear HB; have BK131 := n0_; have HB := n1_; clear n0_ n1_; ((try clear hb); (try clear hb2); (try clear hk); (try clear hi)); have hcz73_0 : w72.cell? ⟨gb131, 0, none⟩ = some (.int .i64 t125) := (blk_cell BK131.out 0).trans rfl; have hcz73_1 : w72.cell? ⟨gb131, 1, none⟩ = some (.int .i64 t126) := (blk_cell BK131.out 1).trans rfl; have hcz73_2 : w72.cell? ⟨gb131, 2, none⟩ = some (.int .i64 t127) := (blk_cell BK131.out 2).trans rfl; have hcz73_3 : w72.cell? ⟨gb131, 3, none⟩ = some (.int .i64 t128) := (blk_cell BK131.out 3).trans rfl; have hcz73_4 : w72.cell? ⟨gb131, 4, none⟩ = some (.int .i64 t129) := (blk_cell BK131.out 4).trans rfl; have hcz73_5 : w72.cell? ⟨gb131, 5, none⟩ = some (.int .i64 t130) := (blk_cell BK131.out 5).trans rfl; have hfz73_0 := blk_frozen BK131.out 0; have hfz73_1 := blk_frozen BK131.out 1; have hfz73_2 := blk_frozen BK131.out 2; have hfz73_3 := blk_frozen BK131.out 3; have hfz73_4 := blk_frozen BK131.out 4; have hfz73_5 := blk_frozen BK131.out 5) | ((with_reducible refine gate_callee (f := 40) rfl ?_); refine goesL_ (some 55) rfl rfl Tryd.func40 (by kernel_rfl) rfl #[.agg #[.int .i64 t125, .int .i64 t126, .int .i64 t127, .int .i64 t128, .int .i64 t129, .int .i64 t130]] rfl (by ((try simp only [List.map_toArray, List.map_cons, List.map_nil]); first | done | rfl | (simp only [List.length_drop, List.length_take]; rfl))) ?_; (with_reducible refine (masterdiscref16_Valid.calls t125 t126 t127 t128 t129 t130 false _ A33.out).mono ?_); rintro e w74 ⟨rfl, hb⟩; refine ⟨_, rfl, ?_⟩; have n0_ := Aside0.mk (blk_below (g := gb131) (o := .cells #[.int .i64 t125, .int .i64 t126, .int .i64 t127, .int .i64 t128, .int .i64 t129, .int .i64 t130] 23 (0, 0)) (by (with_reducible repeat (first | refine blk_drewN ?_ _ | refine blk_drew ?_ | refine blk_alloc ?_ _)); exact BK131.out) hb); have n1_ := Aside0.mk (below_step (by repeat (first | (with_reducible first | exact HB.out | apply below_alloc | apply pw_below_drewN | apply below_drew1 | refine below_set ?_ GE131.out) | exact HB.out)) hb); clear BK131; clear HB; have BK131 := n0_; have HB := n1_; clear n0_ n1_; ((try clear hb); (try clear hb2); (try clear hk); (try clear hi))))
                    go_ret3
                    exact ⟨by (first | rfl | (simp [errW_none, errW_some] <;> rfl) | (simp [*, errW_none, errW_some] <;> rfl)), by repeat (first | (with_reducible first | exact HB.out | apply below_alloc | apply pw_below_drewN | apply below_drew1 | refine below_set ?_ GE131.out) | exact HB.out)⟩
                  ·rw [if_neg c30] at H
                   exact absurd H (by simp)
                 ·rw [if_neg c28] at H
                  exact absurd H (by simp)
                ·rw [if_neg c27] at H
                 exact absurd H (by simp)
               ·rw [if_neg c25] at H
                exact absurd H (by simp)
              ·rw [if_neg c24] at H
               exact absurd H (by simp)
             ·rw [if_neg c22] at H
              exact absurd H (by simp)
            ·rw [if_neg c21] at H
             exact absurd H (by simp)
           ·rw [if_neg c19] at H
            exact absurd H (by simp)
          ·rw [if_neg c18] at H
           exact absurd H (by simp)
         ·rw [if_neg c16] at H
          exact absurd H (by simp)
        ·rw [if_neg c15] at H
         exact absurd H (by simp)
       ·rw [if_neg c13] at H
        exact absurd H (by simp)
      ·rw [if_neg c12] at H
       exact absurd H (by simp)
 ·rw [if_neg c2] at H
  have c2b0 : ((a0.size : Int) == 17) = false := beq_eq_false_iff_ne.mpr c2
  have c2b1 : ((a0.size : Int) != 17) = true := bne_iff_ne.mpr c2
  simp only [Option.some.injEq, Prod.mk.injEq] at H
  obtain ⟨rfl, rfl, rfl⟩ := H
  go_enter Tryd.func30, Tryd.ntmps30
  go_wp2
  go_ret3
  exact ⟨by (first | rfl | (simp [errW_none, errW_some] <;> rfl) | (simp [*, errW_none, errW_some] <;> rfl)), by repeat (first | (with_reducible first | exact HB.out | apply below_alloc | apply pw_below_drewN | apply below_drew1) | exact HB.out)⟩

end Go.Proofs.YtnchkpheepbacaaDoor.T

namespace Go.Proofs.YtnchkpheepbacaaDoor.T
open Go.Proofs.YtnchkpheepbacaaDoor.Y
open Go.Proofs.YtnchkpheepbacaaDoor.Hand (HG HG.below)
open Go.RowKit Go.Proofs.YtnchkpheepbacaaDoorW.PrintWords Go.Proofs.YtnchkpheepbacaaDoorW.PrintLast Go.Proofs.YtnchkpheepbacaaDoorW.PrintMore
attribute [local go_sem] max2_int min2_int max_two min_two max_three min_three max_four min_four   -- for this text's walks alone
set_option linter.unusedVariables false
set_option linter.unusedSimpArgs false

/-! ### masterdisclaw16_DatetimeDescriptors: function 9 -/
def masterdisclaw16_DatetimeDescriptors.f (k : Nat) (a0 : Int) (a1 : Int) (a2 : ByteArray) : Option (Bool) := (masterdisclaw16_awake.f).bind fun t138 => (if t138 = true then (if (a2.size : Int) > 40 then (some true) else ((datetime_Descriptor.f a0 a1).bind fun bt139 => ((masterdiscref16_Descriptor.f k a0 a1).bind fun bt141 => ((datetime_ReadDescriptor.f a2).bind fun bt143 => ((masterdiscref16_ReadDescriptor.f k a2).bind fun bt146 => (if bt139.1.toList = bt141.1.toList then (if bt139.2 = bt141.2 then (if bt143.1 = bt146.1 then (if bt143.2.1 = bt146.2.1 then (some (bt143.2.2 == bt146.2.2)) else (some false)) else (some false)) else (some false)) else (some false))))))) else (some false))
theorem masterdisclaw16_DatetimeDescriptors.mono : ∀ a0 a1 a2 k, LeO (masterdisclaw16_DatetimeDescriptors.f k a0 a1 a2) (masterdisclaw16_DatetimeDescriptors.f (k + 1) a0 a1 a2) := by
 intro a0 a1 a2 k
 unfold masterdisclaw16_DatetimeDescriptors.f
 repeat' first
   | (with_reducible exact masterdiscref16_Descriptor.mono _ _ _)
   | (with_reducible exact masterdiscref16_ReadDescriptor.mono _ _)
   | (with_reducible exact LeO.refl _)
   | (with_reducible exact LeO.none _)
   | (with_reducible refine LeO.ite ?_ ?_)
   | (with_reducible refine LeO.bind ?_ (fun _ => ?_))
   | exact masterdiscref16_Descriptor.mono _ _ _
   | exact masterdiscref16_ReadDescriptor.mono _ _
   | exact LeO.none _
   | refine LeO.ite ?_ ?_
   | refine LeO.bind ?_ (fun _ => ?_)
set_option maxHeartbeats 8000000 in
set_option maxRecDepth 100000 in
theorem masterdisclaw16_DatetimeDescriptors.calls (k : Nat) (a0 : Int) (a1 : Int) (a2 : ByteArray) (r : Bool) (w : World) (hG_ : HG w) (h : masterdisclaw16_DatetimeDescriptors.f k a0 a1 a2 = some r) :
  Calls Tryd.prog 9 #[.int .i64 a0, .int .i64 a1, .string a2] w fun e w' => e = .returned (.bool r) ∧ Below w.heap.size w w' := by
 have HB := Aside0.mk (Below.refl w.heap.size w)
 have H : ((masterdisclaw16_awake.f).bind fun t138 => (if t138 = true then (if (a2.size : Int) > 40 then (some true) else ((datetime_Descriptor.f a0 a1).bind fun bt139 => ((masterdiscref16_Descriptor.f k a0 a1).bind fun bt141 => ((datetime_ReadDescriptor.f a2).bind fun bt143 => ((masterdiscref16_ReadDescriptor.f k a2).bind fun bt146 => (if bt139.1.toList = bt141.1.toList then (if bt139.2 = bt141.2 then (if bt143.1 = bt146.1 then (if bt143.2.1 = bt146.2.1 then (some (bt143.2.2 == bt146.2.2)) else (some false)) else (some false)) else (some false)) else (some false))))))) else (some false))) = some r := h
 clear h
 replace H := Option.bind_eq_some_iff.mp H
 obtain ⟨t138, A40, H⟩ := H
 replace H : (if t138 = true then (if (a2.size : Int) > 40 then (some true) else ((datetime_Descriptor.f a0 a1).bind fun bt139 => ((masterdiscref16_Descriptor.f k a0 a1).bind fun bt141 => ((datetime_ReadDescriptor.f a2).bind fun bt143 => ((masterdiscref16_ReadDescriptor.f k a2).bind fun bt146 => (if bt139.1.toList = bt141.1.toList then (if bt139.2 = bt141.2 then (if bt143.1 = bt146.1 then (if bt143.2.1 = bt146.2.1 then (some (bt143.2.2 == bt146.2.2)) else (some false)) else (some false)) else (some false)) else (some false))))))) else (some false)) = some r := H
 have A4 := Aside0.mk A40
 clear A40
 by_cases c5 : t138 = true
 ·subst c5
  have H1 : (if (a2.size : Int) > 40 then (some true) else ((datetime_Descriptor.f a0 a1).bind fun bt139 => ((masterdiscref16_Descriptor.f k a0 a1).bind fun bt141 => ((datetime_ReadDescriptor.f a2).bind fun bt143 => ((masterdiscref16_ReadDescriptor.f k a2).bind fun bt146 => (if bt139.1.toList = bt141.1.toList then (if bt139.2 = bt141.2 then (if bt143.1 = bt146.1 then (if bt143.2.1 = bt146.2.1 then (some (bt143.2.2 == bt146.2.2)) else (some false)) else (some false)) else (some false)) else (some false))))))) = some r := by rw [if_pos rfl] at H; exact H
  clear H
  have H := H1
  clear H1
  by_cases c6 : (a2.size : Int) > 40
  ·rw [if_pos c6] at H
   have c6b0 : decide (40 < (a2.size : Int)) = true := decide_eq_true c6
   have c6b1 : decide (40 < a2.size) = true := decide_eq_true (by omega)
   clear c6
   obtain rfl := Option.some.inj H
   go_enter Tryd.func9, Tryd.ntmps9
   go_wp2_with (first | ((with_reducible refine gate_callee (f := 11) rfl ?_); refine goesL_ (some 17) rfl rfl Tryd.func11 (by kernel_rfl) rfl #[] rfl (by ((try simp only [List.map_toArray, List.map_cons, List.map_nil]); first | done | rfl | (simp only [List.length_drop, List.length_take]; rfl))) ?_; (with_reducible refine (masterdisclaw16_awake.calls  true _ ?side1 A4.out).mono ?_); (case side1 => exact HG.below hG_ (by repeat (first | (with_reducible first | exact HB.out | apply below_alloc | apply pw_below_drewN | apply below_drew1) | exact HB.out))); rintro e w7 ⟨rfl, hb⟩; refine ⟨_, rfl, ?_⟩; have n0_ := Aside0.mk (below_step (by repeat (first | (with_reducible first | exact HB.out | apply below_alloc | apply pw_below_drewN | apply below_drew1) | exact HB.out)) hb); clear HB; have HB := n0_; clear n0_; ((try clear hb); (try clear hb2); (try clear hk); (try clear hi))))
   go_ret
   exact ⟨by (first | rfl | (simp [errW_none, errW_some] <;> rfl) | (simp [*, errW_none, errW_some] <;> rfl)), by repeat (first | (with_reducible first | exact HB.out | apply below_alloc | apply pw_below_drewN | apply below_drew1) | exact HB.out)⟩
  ·rw [if_neg c6] at H
   have c6b0 : decide (40 < (a2.size : Int)) = false := decide_eq_false c6
   have c6b1 : decide (40 < a2.size) = false := decide_eq_false (by omega)
   clear c6
   replace H := Option.bind_eq_some_iff.mp H
   obtain ⟨⟨t139, t140⟩, A80, H⟩ := H
   replace H : ((masterdiscref16_Descriptor.f k a0 a1).bind fun bt141 => ((datetime_ReadDescriptor.f a2).bind fun bt143 => ((masterdiscref16_ReadDescriptor.f k a2).bind fun bt146 => (if t139.toList = bt141.1.toList then (if t140 = bt141.2 then (if bt143.1 = bt146.1 then (if bt143.2.1 = bt146.2.1 then (some (bt143.2.2 == bt146.2.2)) else (some false)) else (some false)) else (some false)) else (some false))))) = some r := H
   have A8 := Aside0.mk A80
   clear A80
   replace H := Option.bind_eq_some_iff.mp H
   obtain ⟨⟨t141, t142⟩, A90, H⟩ := H
   replace H : ((datetime_ReadDescriptor.f a2).bind fun bt143 => ((masterdiscref16_ReadDescriptor.f k a2).bind fun bt146 => (if t139.toList = t141.toList then (if t140 = t142 then (if bt143.1 = bt146.1 then (if bt143.2.1 = bt146.2.1 then (some (bt143.2.2 == bt146.2.2)) else (some false)) else (some false)) else (some false)) else (some false)))) = some r := H
   have A9 := Aside0.mk A90
   clear A90
   replace H := Option.bind_eq_some_iff.mp H
   obtain ⟨⟨t143, t144, t145⟩, A100, H⟩ := H
   replace H : ((masterdiscref16_ReadDescriptor.f k a2).bind fun bt146 => (if t139.toList = t141.toList then (if t140 = t142 then (if t143 = bt146.1 then (if t144 = bt146.2.1 then (some (t145 == bt146.2.2)) else (some false)) else (some false)) else (some false)) else (some false))) = some r := H
   have A10 := Aside0.mk A100
   clear A100
   replace H := Option.bind_eq_some_iff.mp H
   obtain ⟨⟨t146, t147, t148⟩, A110, H⟩ := H
   replace H : (if t139.toList = t141.toList then (if t140 = t142 then (if t143 = t146 then (if t144 = t147 then (some (t145 == t148)) else (some false)) else (some false)) else (some false)) else (some false)) = some r := H
   have A11 := Aside0.mk A110
   clear A110
   by_cases c12 : t139.toList = t141.toList
   ·rw [if_pos c12] at H
    have c12b0 : (t139.toList == t141.toList) = true := beq_iff_eq.mpr c12
    have c12b1 : (t139.toList != t141.toList) = false := bne_eq_false_iff_eq.mpr c12
    clear c12
    by_cases c13 : t140 = t142
    ·rw [if_pos c13] at H
     have c13b0 : (t140 == t142) = true := beq_iff_eq.mpr c13
     have c13b1 : (t140 != t142) = false := bne_eq_false_iff_eq.mpr c13
     clear c13
     by_cases c14 : t143 = t146
     ·rw [if_pos c14] at H
      have c14b0 : (t143 == t146) = true := beq_iff_eq.mpr c14
      have c14b1 : (t143 != t146) = false := bne_eq_false_iff_eq.mpr c14
      clear c14
      by_cases c15 : t144 = t147
      ·rw [if_pos c15] at H
       have c15b0 : (t144 == t147) = true := beq_iff_eq.mpr c15
       have c15b1 : (t144 != t147) = false := bne_eq_false_iff_eq.mpr c15
       clear c15
       obtain rfl := Option.some.inj H
       go_enter Tryd.func9, Tryd.ntmps9
       go_wp2_with (first | ((with_reducible refine gate_callee (f := 11) rfl ?_); refine goesL_ (some 17) rfl rfl Tryd.func11 (by kernel_rfl) rfl #[] rfl (by ((try simp only [List.map_toArray, List.map_cons, List.map_nil]); first | done | rfl | (simp only [List.length_drop, List.length_take]; rfl))) ?_; (with_reducible refine (masterdisclaw16_awake.calls  true _ ?side1 A4.out).mono ?_); (case side1 => exact HG.below hG_ (by repeat (first | (with_reducible first | exact HB.out | apply below_alloc | apply pw_below_drewN | apply below_drew1) | exact HB.out))); rintro e w16 ⟨rfl, hb⟩; refine ⟨_, rfl, ?_⟩; have n0_ := Aside0.mk (below_step (by repeat (first | (with_reducible first | exact HB.out | apply below_alloc | apply pw_below_drewN | apply below_drew1) | exact HB.out)) hb); clear HB; have HB := n0_; clear n0_; ((try clear hb); (try clear hb2); (try clear hk); (try clear hi))) | ((with_reducible refine gate_callee (f := 27) rfl ?_); refine goesL_ (some 25) rfl rfl Tryd.func27 (by kernel_rfl) rfl #[.int .i64 a0, .int .i64 a1] rfl (by ((try simp only [List.map_toArray, List.map_cons, List.map_nil]); first | done | rfl | (simp only [List.length_drop, List.length_take]; rfl))) ?_; (with_reducible refine (datetime_Descriptor.calls a0 a1 t139 t140 _ ?side1 A8.out).mono ?_); (case side1 => exact HG.below hG_ (by repeat (first | (with_reducible first | exact HB.out | apply below_alloc | apply pw_below_drewN | apply below_drew1) | exact HB.out))); rintro e w17 ⟨rfl, hb⟩; refine ⟨_, rfl, ?_⟩; have n0_ := Aside0.mk (below_step (by repeat (first | (with_reducible first | exact HB.out | apply below_alloc | apply pw_below_drewN | apply below_drew1) | exact HB.out)) hb); clear HB; have HB := n0_; clear n0_; ((try clear hb); (try clear hb2); (try clear hk); (try clear hi))) | ((with_reducible refine gate_callee (f := 28) rfl ?_); refine goesL_ (some 31) rfl rfl Tryd.func28 (by kernel_rfl) rfl #[.int .i64 a0, .int .i64 a1] rfl (by ((try simp only [List.map_toArray, List.map_cons, List.map_nil]); first | done | rfl | (simp only [List.length_drop, List.length_take]; rfl))) ?_; (with_reducible refine (masterdiscref16_Descriptor.calls k a0 a1 t141 t142 _ A9.out).mono ?_); rintro e w18 ⟨rfl, hb⟩; refine ⟨_, rfl, ?_⟩; have n0_ := Aside0.mk (below_step (by repeat (first | (with_reducible first | exact HB.out | apply below_alloc | apply pw_below_drewN | apply below_drew1) | exact HB.out)) hb); clear HB; have HB := n0_; clear n0_; ((try clear hb); (try clear hb2); (try clear hk); (try clear hi))) | ((with_reducible refine gate_callee (f := 29) rfl ?_); refine goesL_ (some 36) rfl rfl Tryd.func29 (by kernel_rfl) rfl #[.string a2] rfl (by ((try simp only [List.map_toArray, List.map_cons, List.map_nil]); first | done | rfl | (simp only [List.length_drop, List.length_take]; rfl))) ?_; (with_reducible refine (datetime_ReadDescriptor.calls a2 t143 t144 t145 _ A10.out).mono ?_); rintro e w19 ⟨rfl, hb⟩; refine ⟨_, rfl, ?_⟩; have n0_ := Aside0.mk (below_step (by repeat (first | (with_reducible first | exact HB.out | apply below_alloc | apply pw_below_drewN | apply below_drew1) | exact HB.out)) hb); clear HB; have HB := n0_; clear n0_; ((try clear hb); (try clear hb2); (try clear hk); (try clear hi))) | ((with_reducible refine gate_callee (f := 30) rfl ?_); refine goesL_ (some 42) rfl rfl Tryd.func30 (by kernel_rfl) rfl #[.string a2] rfl (by ((try simp only [List.map_toArray, List.map_cons, List.map_nil]); first | done | rfl | (simp only [List.length_drop, List.length_take]; rfl))) ?_; (with_reducible refine (masterdiscref16_ReadDescriptor.calls k a2 t146 t147 t148 _ A11.out).mono ?_); rintro e w20 ⟨rfl, hb⟩; refine ⟨_, rfl, ?_⟩; have n0_ := Aside0.mk (below_step (by repeat (first | (with_reducible first | exact HB.out | apply below_alloc | apply pw_below_drewN | apply below_drew1) | exact HB.out)) hb); clear HB; have HB := n0_; clear n0_; ((try clear hb); (try clear hb2); (try clear hk); (try clear hi))))
       go_ret
       exact ⟨by (first | rfl | (simp [errW_none, errW_some] <;> rfl) | (simp [*, errW_none, errW_some] <;> rfl)), by repeat (first | (with_reducible first | exact HB.out | apply below_alloc | apply pw_below_drewN | apply below_drew1) | exact HB.out)⟩
      ·rw [if_neg c15] at H
       have c15b0 : (t144 == t147) = false := beq_eq_false_iff_ne.mpr c15
       have c15b1 : (t144 != t147) = true := bne_iff_ne.mpr c15
       obtain rfl := Option.some.inj H
       go_enter Tryd.func9, Tryd.ntmps9
       go_wp2_with (first | ((with_reducible refine gate_callee (f := 11) rfl ?_); refine goesL_ (some 17) rfl rfl Tryd.func11 (by kernel_rfl) rfl #[] rfl (by ((try simp only [List.map_toArray, List.map_cons, List.map_nil]); first | done | rfl | (simp only [List.length_drop, List.length_take]; rfl))) ?_; (with_reducible refine (masterdisclaw16_awake.calls  true _ ?side1 A4.out).mono ?_); (case side1 => exact HG.below hG_ (by repeat (first | (with_reducible first | exact HB.out | apply below_alloc | apply pw_below_drewN | apply below_drew1) | exact HB.out))); rintro e w21 ⟨rfl, hb⟩; refine ⟨_, rfl, ?_⟩; have n0_ := Aside0.mk (below_step (by repeat (first | (with_reducible first | exact HB.out | apply below_alloc | apply pw_below_drewN | apply below_drew1) | exact HB.out)) hb); clear HB; have HB := n0_; clear n0_; ((try clear hb); (try clear hb2); (try clear hk); (try clear hi))) | ((with_reducible refine gate_callee (f := 27) rfl ?_); refine goesL_ (some 25) rfl rfl Tryd.func27 (by kernel_rfl) rfl #[.int .i64 a0, .int .i64 a1] rfl (by ((try simp only [List.map_toArray, List.map_cons, List.map_nil]); first | done | rfl | (simp only [List.length_drop, List.length_take]; rfl))) ?_; (with_reducible refine (datetime_Descriptor.calls a0 a1 t139 t140 _ ?side1 A8.out).mono ?_); (case side1 => exact HG.below hG_ (by repeat (first | (with_reducible first | exact HB.out | apply below_alloc | apply pw_below_drewN | apply below_drew1) | exact HB.out))); rintro e w22 ⟨rfl, hb⟩; refine ⟨_, rfl, ?_⟩; have n0_ := Aside0.mk (below_step (by repeat (first | (with_reducible first | exact HB.out | apply below_alloc | apply pw_below_drewN | apply below_drew1) | exact HB.out)) hb); clear HB; have HB := n0_; clear n0_; ((try clear hb); (try clear hb2); (try clear hk); (try clear hi))) | ((with_reducible refine gate_callee (f := 28) rfl ?_); refine goesL_ (some 31) rfl rfl Tryd.func28 (by kernel_rfl) rfl #[.int .i64 a0, .int .i64 a1] rfl (by ((try simp only [List.map_toArray, List.map_cons, List.map_nil]); first | done | rfl | (simp only [List.length_drop, List.length_take]; rfl))) ?_; (with_reducible refine (masterdiscref16_Descriptor.calls k a0 a1 t141 t142 _ A9.out).mono ?_); rintro e w23 ⟨rfl, hb⟩; refine ⟨_, rfl, ?_⟩; have n0_ := Aside0.mk (below_step (by repeat (first | (with_reducible first | exact HB.out | apply below_alloc | apply pw_below_drewN | apply below_drew1) | exact HB.out)) hb); clear HB; have HB := n0_; clear n0_; ((try clear hb); (try clear hb2); (try clear hk); (try clear hi))) | ((with_reducible refine gate_callee (f := 29) rfl ?_); refine goesL_ (some 36) rfl rfl Tryd.func29 (by kernel_rfl) rfl #[.string a2] rfl (by ((try simp only [List.map_toArray, List.map_cons, List.map_nil]); first | done | rfl | (simp only [List.length_drop, List.length_take]; rfl))) ?_; (with_reducible refine (datetime_ReadDescriptor.calls a2 t143 t144 t145 _ A10.out).mono ?_); rintro e w24 ⟨rfl, hb⟩; refine ⟨_, rfl, ?_⟩; have n0_ := Aside0.mk (below_step (by repeat (first | (with_reducible first | exact HB.out | apply below_alloc | apply pw_below_drewN | apply below_drew1) | exact HB.out)) hb); clear HB; have HB := n0_; clear n0_; ((try clear hb); (try clear hb2); (try clear hk); (try clear hi))) | ((with_reducible refine gate_callee (f := 30) rfl ?_); refine goesL_ (some 42) rfl rfl Tryd.func30 (by kernel_rfl) rfl #[.string a2] rfl (by ((try simp only [List.map_toArray, List.map_cons, List.map_nil]); first | done | rfl | (simp only [List.length_drop, List.length_take]; rfl))) ?_; (with_reducible refine (masterdiscref16_ReadDescriptor.calls k a2 t146 t147 t148 _ A11.out).mono ?_); rintro e w25 ⟨rfl, hb⟩; refine ⟨_, rfl, ?_⟩; have n0_ := Aside0.mk (below_step (by repeat (first | (with_reducible first | exact HB.out | apply below_alloc | apply pw_below_drewN | apply below_drew1) | exact HB.out)) hb); clear HB; have HB := n0_; clear n0_; ((try clear hb); (try clear hb2); (try clear hk); (try clear hi))))
       go_ret
       exact ⟨by (first | rfl | (simp [errW_none, errW_some] <;> rfl) | (simp [*, errW_none, errW_some] <;> rfl)), by repeat (first | (with_reducible first | exact HB.out | apply below_alloc | apply pw_below_drewN | apply below_drew1) | exact HB.out)⟩
     ·rw [if_neg c14] at H
      have c14b0 : (t143 == t146) = false := beq_eq_false_iff_ne.mpr c14
      have c14b1 : (t143 != t146) = true := bne_iff_ne.mpr c14
      obtain rfl := Option.some.inj H
      go_enter Tryd.func9, Tryd.ntmps9
      go_wp2_with (first | ((with_reducible refine gate_callee (f := 11) rfl ?_); refine goesL_ (some 17) rfl rfl Tryd.func11 (by kernel_rfl) rfl #[] rfl (by ((try simp only [List.map_toArray, List.map_cons, List.map_nil]); first | done | rfl | (simp only [List.length_drop, List.length_take]; rfl))) ?_; (with_reducible refine (masterdisclaw16_awake.calls  true _ ?side1 A4.out).mono ?_); (case side1 => exact HG.below hG_ (by repeat (first | (with_reducible first | exact HB.out | apply below_alloc | apply pw_below_drewN | apply below_drew1) | exact HB.out))); rintro e w26 ⟨rfl, hb⟩; refine ⟨_, rfl, ?_⟩; have n0_ := Aside0.mk (below_step (by repeat (first | (with_reducible first | exact HB.out | apply below_alloc | apply pw_below_drewN | apply below_drew1) | exact HB.out)) hb); clear HB; have HB := n0_; clear n0_; ((try clear hb); (try clear hb2); (try clear hk); (try clear hi))) | ((with_reducible refine gate_callee (f := 27) rfl ?_); refine goesL_ (some 25) rfl rfl Tryd.func27 (by kernel_rfl) rfl #[.int .i64 a0, .int .i64 a1] rfl (by ((try simp only [List.map_toArray, List.map_cons, List.map_nil]); first | done | rfl | (simp only [List.length_drop, List.length_take]; rfl))) ?_; (with_reducible refine (datetime_Descriptor.calls a0 a1 t139 t140 _ ?side1 A8.out).mono ?_); (case side1 => exact HG.below hG_ (by repeat (first | (with_reducible first | exact HB.out | apply below_alloc | apply pw_below_drewN | apply below_drew1) | exact HB.out))); rintro e w27 ⟨rfl, hb⟩; refine ⟨_, rfl, ?_⟩; have n0_ := Aside0.mk (below_step (by repeat (first | (with_reducible first | exact HB.out | apply below_alloc | apply pw_below_drewN | apply below_drew1) | exact HB.out)) hb); clear HB; have HB := n0_; clear n0_; ((try clear hb); (try clear hb2); (try clear hk); (try clear hi))) | ((with_reducible refine gate_callee (f := 28) rfl ?_); refine goesL_ (some 31) rfl rfl Tryd.func28 (by kernel_rfl) rfl #[.int .i64 a0, .int .i64 a1] rfl (by ((try simp only [List.map_toArray, List.map_cons, List.map_nil]); first | done | rfl | (simp only [List.length_drop, List.length_take]; rfl))) ?_; (with_reducible refine (masterdiscref16_Descriptor.calls k a0 a1 t141 t142 _ A9.out).mono ?_); rintro e w28 ⟨rfl, hb⟩; refine ⟨_, rfl, ?_⟩; have n0_ := Aside0.mk (below_step (by repeat (first | (with_reducible first | exact HB.out | apply below_alloc | apply pw_below_drewN | apply below_drew1) | exact HB.out)) hb); clear HB; have HB := n0_; clear n0_; ((try clear hb); (try clear hb2); (try clear hk); (try clear hi))) | ((with_reducible refine gate_callee (f := 29) rfl ?_); refine goesL_ (some 36) rfl rfl Tryd.func29 (by kernel_rfl) rfl #[.string a2] rfl (by ((try simp only [List.map_toArray, List.map_cons, List.map_nil]); first | done | rfl | (simp only [List.length_drop, List.length_take]; rfl))) ?_; (with_reducible refine (datetime_ReadDescriptor.calls a2 t143 t144 t145 _ A10.out).mono ?_); rintro e w29 ⟨rfl, hb⟩; refine ⟨_, rfl, ?_⟩; have n0_ := Aside0.mk (below_step (by repeat (first | (with_reducible first | exact HB.out | apply below_alloc | apply pw_below_drewN | apply below_drew1) | exact HB.out)) hb); clear HB; have HB := n0_; clear n0_; ((try clear hb); (try clear hb2); (try clear hk); (try clear hi))) | ((with_reducible refine gate_callee (f := 30) rfl ?_); refine goesL_ (some 42) rfl rfl Tryd.func30 (by kernel_rfl) rfl #[.string a2] rfl (by ((try simp only [List.map_toArray, List.map_cons, List.map_nil]); first | done | rfl | (simp only [List.length_drop, List.length_take]; rfl))) ?_; (with_reducible refine (masterdiscref16_ReadDescriptor.calls k a2 t146 t147 t148 _ A11.out).mono ?_); rintro e w30 ⟨rfl, hb⟩; refine ⟨_, rfl, ?_⟩; have n0_ := Aside0.mk (below_step (by repeat (first | (with_reducible first | exact HB.out | apply below_alloc | apply pw_below_drewN | apply below_drew1) | exact HB.out)) hb); clear HB; have HB := n0_; clear n0_; ((try clear hb); (try clear hb2); (try clear hk); (try clear hi))))
      go_ret
      exact ⟨by (first | rfl | (simp [errW_none, errW_some] <;> rfl) | (simp [*, errW_none, errW_some] <;> rfl)), by repeat (first | (with_reducible first | exact HB.out | apply below_alloc | apply pw_below_drewN | apply below_drew1) | exact HB.out)⟩
    ·rw [if_neg c13] at H
     have c13b0 : (t140 == t142) = false := beq_eq_false_iff_ne.mpr c13
     have c13b1 : (t140 != t142) = true := bne_iff_ne.mpr c13
     obtain rfl := Option.some.inj H
     go_enter Tryd.func9, Tryd.ntmps9
     go_wp2_with (first | ((with_reducible refine gate_callee (f := 11) rfl ?_); refine goesL_ (some 17) rfl rfl Tryd.func11 (by kernel_rfl) rfl #[] rfl (by ((try simp only [List.map_toArray, List.map_cons, List.map_nil]); first | done | rfl | (simp only [List.length_drop, List.length_take]; rfl))) ?_; (with_reducible refine (masterdisclaw16_awake.calls  true _ ?side1 A4.out).mono ?_); (case side1 => exact HG.below hG_ (by repeat (first | (with_reducible first | exact HB.out | apply below_alloc | apply pw_below_drewN | apply below_drew1) | exact HB.out))); rintro e w31 ⟨rfl, hb⟩; refine ⟨_, rfl, ?_⟩; have n0_ := Aside0.mk (below_step (by repeat (first | (with_reducible first | exact HB.out | apply below_alloc | apply pw_below_drewN | apply below_drew1) | exact HB.out)) hb); clear HB; have HB := n0_; clear n0_; ((try clear hb); (try clear hb2); (try clear hk); (try clear hi))) | ((with_reducible refine gate_callee (f := 27) rfl ?_); refine goesL_ (some 25) rfl rfl Tryd.func27 (by kernel_rfl) rfl #[.int .i64 a0, .int .i64 a1] rfl (by ((try simp only [List.map_toArray, List.map_cons, List.map_nil]); first | done | rfl | (simp only [List.length_drop, List.length_take]; rfl))) ?_; (with_reducible refine (datetime_Descriptor.calls a0 a1 t139 t140 _ ?side1 A8.out).mono ?_); (case side1 => exact HG.below hG_ (by repeat (first | (with_reducible first | exact HB.out | apply below_alloc | apply pw_below_drewN | apply below_drew1) | exact HB.out))); rintro e w32 ⟨rfl, hb⟩; refine ⟨_, rfl, ?_⟩; have n0_ := Aside0.mk (below_step (by repeat (first | (with_reducible first | exact HB.out | apply below_alloc | apply pw_below_drewN | apply below_drew1) | exact HB.out)) hb); clear HB; have HB := n0_; clear n0_; ((try clear hb); (try clear hb2); (try clear hk); (try clear hi))) | ((with_reducible refine gate_callee (f := 28) rfl ?_); refine goesL_ (some 31) rfl rfl Tryd.func28 (by kernel_rfl) rfl #[.int .i64 a0, .int .i64 a1] rfl (by ((try simp only [List.map_toArray, List.map_cons, List.map_nil]); first | done | rfl | (simp only [List.length_drop, List.length_take]; rfl))) ?_; (with_reducible refine (masterdiscref16_Descriptor.calls k a0 a1 t141 t142 _ A9.out).mono ?_); rintro e w33 ⟨rfl, hb⟩; refine ⟨_, rfl, ?_⟩; have n0_ := Aside0.mk (below_step (by repeat (first | (with_reducible first | exact HB.out | apply below_alloc | apply pw_below_drewN | apply below_drew1) | exact HB.out)) hb); clear HB; have HB := n0_; clear n0_; ((try clear hb); (try clear hb2); (try clear hk); (try clear hi))) | ((with_reducible refine gate_callee (f := 29) rfl ?_); refine goesL_ (some 36) rfl rfl Tryd.func29 (by kernel_rfl) rfl #[.string a2] rfl (by ((try simp only [List.map_toArray, List.map_cons, List.map_nil]); first | done | rfl | (simp only [List.length_drop, List.length_take]; rfl))) ?_; (with_reducible refine (datetime_ReadDescriptor.calls a2 t143 t144 t145 _ A10.out).mono ?_); rintro e w34 ⟨rfl, hb⟩; refine ⟨_, rfl, ?_⟩; have n0_ := Aside0.mk (below_step (by repeat (first | (with_reducible first | exact HB.out | apply below_alloc | apply pw_below_drewN | apply below_drew1) | exact HB.out)) hb); clear HB; have HB := n0_; clear n0_; ((try clear hb); (try clear hb2); (try clear hk); (try clear hi))) | ((with_reducible refine gate_callee (f := 30) rfl ?_); refine goesL_ (some 42) rfl rfl Tryd.func30 (by kernel_rfl) rfl #[.string a2] rfl (by ((try simp only [List.map_toArray, List.map_cons, List.map_nil]); first | done | rfl | (simp only [List.length_drop, List.length_take]; rfl))) ?_; (with_reducible refine (masterdiscref16_ReadDescriptor.calls k a2 t146 t147 t148 _ A11.out).mono ?_); rintro e w35 ⟨rfl, hb⟩; refine ⟨_, rfl, ?_⟩; have n0_ := Aside0.mk (below_step (by repeat (first | (with_reducible first | exact HB.out | apply below_alloc | apply pw_below_drewN | apply below_drew1) | exact HB.out)) hb); clear HB; have HB := n0_; clear n0_; ((try clear hb); (try clear hb2); (try clear hk); (try clear hi))))
     go_ret
     exact ⟨by (first | rfl | (simp [errW_none, errW_some] <;> rfl) | (simp [*, errW_none, errW_some] <;> rfl)), by repeat (first | (with_reducible first | exact HB.out | apply below_alloc | apply pw_below_drewN | apply below_drew1) | exact HB.out)⟩
   ·rw [if_neg c12] at H
    have c12b0 : (t139.toList == t141.toList) = false := beq_eq_false_iff_ne.mpr c12
    have c12b1 : (t139.toList != t141.toList) = true := bne_iff_ne.mpr c12
    obtain rfl := Option.some.inj H
    go_enter Tryd.func9, Tryd.ntmps9
    go_wp2_with (first | ((with_reducible refine gate_callee (f := 11) rfl ?_); refine goesL_ (some 17) rfl rfl Tryd.func11 (by kernel_rfl) rfl #[] rfl (by ((try simp only [List.map_toArray, List.map_cons, List.map_nil]); first | done | rfl | (simp only [List.length_drop, List.length_take]; rfl))) ?_; (with_reducible refine (masterdisclaw16_awake.calls  true _ ?side1 A4.out).mono ?_); (case side1 => exact HG.below hG_ (by repeat (first | (with_reducible first | exact HB.out | apply below_alloc | apply pw_below_drewN | apply below_drew1) | exact HB.out))); rintro e w36 ⟨rfl, hb⟩; refine ⟨_, rfl, ?_⟩; have n0_ := Aside0.mk (below_step (by repeat (first | (with_reducible first | exact HB.out | apply below_alloc | apply pw_below_drewN | apply below_drew1) | exact HB.out)) hb); clear HB; have HB := n0_; clear n0_; ((try clear hb); (try clear hb2); (try clear hk); (try clear hi))) | ((with_reducible refine gate_callee (f := 27) rfl ?_); refine goesL_ (some 25) rfl rfl Tryd.func27 (by kernel_rfl) rfl #[.int .i64 a0, .int .i64 a1] rfl (by ((try simp only [List.map_toArray, List.map_cons, List.map_nil]); first | done | rfl | (simp only [List.length_drop, List.length_take]; rfl))) ?_; (with_reducible refine (datetime_Descriptor.calls a0 a1 t139 t140 _ ?side1 A8.out).mono ?_); (case side1 => exact HG.below hG_ (by repeat (first | (with_reducible first | exact HB.out | apply below_alloc | apply pw_below_drewN | apply below_drew1) | exact HB.out))); rintro e w37 ⟨rfl, hb⟩; refine ⟨_, rfl, ?_⟩; have n0_ := Aside0.mk (below_step (by repeat (first | (with_reducible first | exact HB.out | apply below_alloc | apply pw_below_drewN | apply below_drew1) | exact HB.out)) hb); clear HB; have HB := n0_; clear n0_; ((try clear hb); (try clear hb2); (try clear hk); (try clear hi))) | ((with_reducible refine gate_callee (f := 28) rfl ?_); refine goesL_ (some 31) rfl rfl Tryd.func28 (by kernel_rfl) rfl #[.int .i64 a0, .int .i64 a1] rfl (by ((try simp only [List.map_toArray, List.map_cons, List.map_nil]); first | done | rfl | (simp only [List.length_drop, List.length_take]; rfl))) ?_; (with_reducible refine (masterdiscref16_Descriptor.calls k a0 a1 t141 t142 _ A9.out).mono ?_); rintro e w38 ⟨rfl, hb⟩; refine ⟨_, rfl, ?_⟩; have n0_ := Aside0.mk (below_step (by repeat (first | (with_reducible first | exact HB.out | apply below_alloc | apply pw_below_drewN | apply below_drew1) | exact HB.out)) hb); clear HB; have HB := n0_; clear n0_; ((try clear hb); (try clear hb2); (try clear hk); (try clear hi))) | ((with_reducible refine gate_callee (f := 29) rfl ?_); refine goesL_ (some 36) rfl rfl Tryd.func29 (by kernel_rfl) rfl #[.string a2] rfl (by ((try simp only [List.map_toArray, List.map_cons, List.map_nil]); first | done | rfl | (simp only [List.length_drop, List.length_take]; rfl))) ?_; (with_reducible refine (datetime_ReadDescriptor.calls a2 t143 t144 t145 _ A10.out).mono ?_); rintro e w39 ⟨rfl, hb⟩; refine ⟨_, rfl, ?_⟩; have n0_ := Aside0.mk (below_step (by repeat (first | (with_reducible first | exact HB.out | apply below_alloc | apply pw_below_drewN | apply below_drew1) | exact HB.out)) hb); clear HB; have HB := n0_; clear n0_; ((try clear hb); (try clear hb2); (try clear hk); (try clear hi))) | ((with_reducible refine gate_callee (f := 30) rfl ?_); refine goesL_ (some 42) rfl rfl Tryd.func30 (by kernel_rfl) rfl #[.string a2] rfl (by ((try simp only [List.map_toArray, List.map_cons, List.map_nil]); first | done | rfl | (simp only [List.length_drop, List.length_take]; rfl))) ?_; (with_reducible refine (masterdiscref16_ReadDescriptor.calls k a2 t146 t147 t148 _ A11.out).mono ?_); rintro e w40 ⟨rfl, hb⟩; refine ⟨_, rfl, ?_⟩; have n0_ := Aside0.mk (below_step (by repeat (first | (with_reducible first | exact HB.out | apply below_alloc | apply pw_below_drewN | apply below_drew1) | exact HB.out)) hb); clear HB; have HB := n0_; clear n0_; ((try clear hb); (try clear hb2); (try clear hk); (try clear hi))))
    go_ret
    exact ⟨by (first | rfl | (simp [errW_none, errW_some] <;> rfl) | (simp [*, errW_none, errW_some] <;> rfl)), by repeat (first | (with_reducible first | exact HB.out | apply below_alloc | apply pw_below_drewN | apply below_drew1) | exact HB.out)⟩
 ·replace c5 := Bool.eq_false_iff.mpr c5
  subst c5
  have H1 : (some false) = some r := by rw [if_neg (show ¬ (false = true) by decide)] at H; exact H
  clear H
  have H := H1
  clear H1
  obtain rfl := Option.some.inj H
  go_enter Tryd.func9, Tryd.ntmps9
  go_wp2_with (first | ((with_reducible refine gate_callee (f := 11) rfl ?_); refine goesL_ (some 17) rfl rfl Tryd.func11 (by kernel_rfl) rfl #[] rfl (by ((try simp only [List.map_toArray, List.map_cons, List.map_nil]); first | done | rfl | (simp only [List.length_drop, List.length_take]; rfl))) ?_; (with_reducible refine (masterdisclaw16_awake.calls  false _ ?side1 A4.out).mono ?_); (case side1 => exact HG.below hG_ (by repeat (first | (with_reducible first | exact HB.out | apply below_alloc | apply pw_below_drewN | apply below_drew1) | exact HB.out))); rintro e w41 ⟨rfl, hb⟩; refine ⟨_, rfl, ?_⟩; have n0_ := Aside0.mk (below_step (by repeat (first | (with_reducible first | exact HB.out | apply below_alloc | apply pw_below_drewN | apply below_drew1) | exact HB.out)) hb); clear HB; have HB := n0_; clear n0_; ((try clear hb); (try clear hb2); (try clear hk); (try clear hi))))
  go_ret
  exact ⟨by (first | rfl | (simp [errW_none, errW_some] <;> rfl) | (simp [*, errW_none, errW_some] <;> rfl)), by repeat (first | (with_reducible first | exact HB.out | apply below_alloc | apply pw_below_drewN | apply below_drew1) | exact HB.out)⟩

/-- THE ONE PURE STATEMENT of masterdisclaw16_DatetimeDescriptors: yours. -/
def masterdisclaw16_DatetimeDescriptors.Pure : Prop := ∀ (a0 : Int) (a1 : Int) (a2 : ByteArray), (Lit.int .i64 a0).wf = true → (Lit.int .i64 a1).wf = true → a2.size ≤ 140737488351232 → ∃ k, masterdisclaw16_DatetimeDescriptors.f k a0 a1 a2 = some true
theorem masterdisclaw16_DatetimeDescriptors.walk (P : masterdisclaw16_DatetimeDescriptors.Pure) (a0 : Int) (a1 : Int) (a2 : ByteArray) (w : World) (hG_ : HG w) (w0 : (Lit.int .i64 a0).wf = true) (w1 : (Lit.int .i64 a1).wf = true) (w2 : a2.size ≤ 140737488351232) :
  Calls Tryd.prog 9 #[.int .i64 a0, .int .i64 a1, .string a2] w fun e w' => e = .returned (.bool true) ∧ Below w.heap.size w w' := by
 obtain ⟨k, h⟩ := P a0 a1 a2 w0 w1 w2
 refine (masterdisclaw16_DatetimeDescriptors.calls k a0 a1 a2 true w hG_ h).mono ?_
 rintro e w' ⟨rfl, hd⟩
 exact ⟨rfl, hd⟩

end Go.Proofs.YtnchkpheepbacaaDoor.T
