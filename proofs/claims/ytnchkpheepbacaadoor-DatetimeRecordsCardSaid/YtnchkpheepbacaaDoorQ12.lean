/- Printed for this session's own hand contracts by its own program; Lean checks every line. -/
import Derived.Test.YtnchkpheepbacaaDoorQ0
import Derived.Test.YtnchkpheepbacaaDoorQ3
import Derived.Test.YtnchkpheepbacaaDoorQ4
import Derived.Test.YtnchkpheepbacaaDoorQ5
import Derived.Test.YtnchkpheepbacaaDoorQ9
import Derived.Test.YtnchkpheepbacaaDoorQ10
import Derived.Test.YtnchkpheepbacaaDoorQ11
namespace Go.Proofs.YtnchkpheepbacaaDoor.Q
open Go.Proofs.YtnchkpheepbacaaDoor.Hand
open Go.RowKit Go.Proofs.YtnchkpheepbacaaDoorW.PrintWords Go.Proofs.YtnchkpheepbacaaDoorW.PrintLast Go.Proofs.YtnchkpheepbacaaDoorW.PrintMore
attribute [local go_sem] max2_int min2_int max_two min_two max_three min_three max_four min_four   -- for this text's walks alone
set_option linter.unusedVariables false
set_option linter.unusedSimpArgs false

/-! ### masterdisclaw16_DatetimeRecords: function 6 -/
def masterdisclaw16_DatetimeRecords.f (k : Nat) (a0 : Int) (a1 : Int) (a2 : ByteArray) : Option (Bool) := (masterdisclaw16_awake.f k).bind fun t304 => (if t304 = true then (if (a2.size : Int) > 40 then (some true) else ((datetime_Record.f k a0 a1).bind fun bt305 => ((masterdiscref16_Record.f k a0 a1).bind fun bt307 => ((datetime_ReadRecord.f k a2).bind fun bt309 => ((masterdiscref16_ReadRecord.f k a2).bind fun bt312 => (if bt305.1.toList = bt307.1.toList then (if bt305.2 = bt307.2 then (if bt309.1 = bt312.1 then (if bt309.2.1 = bt312.2.1 then (some (bt309.2.2 == bt312.2.2)) else (some false)) else (some false)) else (some false)) else (some false))))))) else (some false))
theorem masterdisclaw16_DatetimeRecords.mono : ∀ a0 a1 a2 k, LeO (masterdisclaw16_DatetimeRecords.f k a0 a1 a2) (masterdisclaw16_DatetimeRecords.f (k + 1) a0 a1 a2) := by
 intro a0 a1 a2 k
 unfold masterdisclaw16_DatetimeRecords.f
 repeat' first
   | (with_reducible exact datetime_ReadRecord.mono _ _)
   | (with_reducible exact datetime_Record.mono _ _ _)
   | (with_reducible exact masterdisclaw16_awake.mono _)
   | (with_reducible exact masterdiscref16_ReadRecord.mono _ _)
   | (with_reducible exact masterdiscref16_Record.mono _ _ _)
   | (with_reducible exact LeO.refl _)
   | (with_reducible exact LeO.none _)
   | (with_reducible refine LeO.ite ?_ ?_)
   | (with_reducible refine LeO.bind ?_ (fun _ => ?_))
   | exact datetime_ReadRecord.mono _ _
   | exact datetime_Record.mono _ _ _
   | exact masterdisclaw16_awake.mono _
   | exact masterdiscref16_ReadRecord.mono _ _
   | exact masterdiscref16_Record.mono _ _ _
   | exact LeO.none _
   | refine LeO.ite ?_ ?_
   | refine LeO.bind ?_ (fun _ => ?_)
set_option maxHeartbeats 8000000 in
set_option maxRecDepth 100000 in
theorem masterdisclaw16_DatetimeRecords.calls (k : Nat) (a0 : Int) (a1 : Int) (a2 : ByteArray) (r : Bool) (w : World) (hG_ : HG w) (h : masterdisclaw16_DatetimeRecords.f k a0 a1 a2 = some r) :
  Calls Tryd.prog 6 #[.int .i64 a0, .int .i64 a1, .string a2] w fun e w' => e = .returned (.bool r) ∧ Below w.heap.size w w' := by
 have HB := Aside0.mk (Below.refl w.heap.size w)
 have H : ((masterdisclaw16_awake.f k).bind fun t304 => (if t304 = true then (if (a2.size : Int) > 40 then (some true) else ((datetime_Record.f k a0 a1).bind fun bt305 => ((masterdiscref16_Record.f k a0 a1).bind fun bt307 => ((datetime_ReadRecord.f k a2).bind fun bt309 => ((masterdiscref16_ReadRecord.f k a2).bind fun bt312 => (if bt305.1.toList = bt307.1.toList then (if bt305.2 = bt307.2 then (if bt309.1 = bt312.1 then (if bt309.2.1 = bt312.2.1 then (some (bt309.2.2 == bt312.2.2)) else (some false)) else (some false)) else (some false)) else (some false))))))) else (some false))) = some r := h
 clear h
 replace H := Option.bind_eq_some_iff.mp H
 obtain ⟨t304, A40, H⟩ := H
 replace H : (if t304 = true then (if (a2.size : Int) > 40 then (some true) else ((datetime_Record.f k a0 a1).bind fun bt305 => ((masterdiscref16_Record.f k a0 a1).bind fun bt307 => ((datetime_ReadRecord.f k a2).bind fun bt309 => ((masterdiscref16_ReadRecord.f k a2).bind fun bt312 => (if bt305.1.toList = bt307.1.toList then (if bt305.2 = bt307.2 then (if bt309.1 = bt312.1 then (if bt309.2.1 = bt312.2.1 then (some (bt309.2.2 == bt312.2.2)) else (some false)) else (some false)) else (some false)) else (some false))))))) else (some false)) = some r := H
 have A4 := Aside0.mk A40
 clear A40
 by_cases c5 : t304 = true
 ·subst c5
  have H1 : (if (a2.size : Int) > 40 then (some true) else ((datetime_Record.f k a0 a1).bind fun bt305 => ((masterdiscref16_Record.f k a0 a1).bind fun bt307 => ((datetime_ReadRecord.f k a2).bind fun bt309 => ((masterdiscref16_ReadRecord.f k a2).bind fun bt312 => (if bt305.1.toList = bt307.1.toList then (if bt305.2 = bt307.2 then (if bt309.1 = bt312.1 then (if bt309.2.1 = bt312.2.1 then (some (bt309.2.2 == bt312.2.2)) else (some false)) else (some false)) else (some false)) else (some false))))))) = some r := by rw [if_pos rfl] at H; exact H
  clear H
  have H := H1
  clear H1
  by_cases c6 : (a2.size : Int) > 40
  ·rw [if_pos c6] at H
   have c6b0 : decide (40 < (a2.size : Int)) = true := decide_eq_true c6
   have c6b1 : decide (40 < a2.size) = true := decide_eq_true (by omega)
   clear c6
   obtain rfl := Option.some.inj H
   go_enter Tryd.func6, Tryd.ntmps6
   go_wp2_with (first | ((with_reducible refine gate_callee (f := 11) rfl ?_); refine goesL_ (some 17) rfl rfl Tryd.func11 (by kernel_rfl) rfl #[] rfl (by ((try simp only [List.map_toArray, List.map_cons, List.map_nil]); first | done | rfl | (simp only [List.length_drop, List.length_take]; rfl))) ?_; (with_reducible refine (masterdisclaw16_awake.calls k  true _ ?side1 A4.out).mono ?_); (case side1 => exact HG.below hG_ (by repeat (first | (with_reducible first | exact HB.out | apply below_alloc | apply pw_below_drewN | apply below_drew1) | exact HB.out))); rintro e w7 ⟨rfl, hb⟩; refine ⟨_, rfl, ?_⟩; have n0_ := Aside0.mk (below_step (by repeat (first | (with_reducible first | exact HB.out | apply below_alloc | apply pw_below_drewN | apply below_drew1) | exact HB.out)) hb); clear HB; have HB := n0_; clear n0_; ((try clear hb); (try clear hb2); (try clear hk); (try clear hi))))
   go_ret
   exact ⟨by (first | rfl | (simp [errW_none, errW_some] <;> rfl) | (simp [*, errW_none, errW_some] <;> rfl)), by repeat (first | (with_reducible first | exact HB.out | apply below_alloc | apply pw_below_drewN | apply below_drew1) | exact HB.out)⟩
  ·rw [if_neg c6] at H
   have c6b0 : decide (40 < (a2.size : Int)) = false := decide_eq_false c6
   have c6b1 : decide (40 < a2.size) = false := decide_eq_false (by omega)
   clear c6
   replace H := Option.bind_eq_some_iff.mp H
   obtain ⟨⟨t305, t306⟩, A80, H⟩ := H
   replace H : ((masterdiscref16_Record.f k a0 a1).bind fun bt307 => ((datetime_ReadRecord.f k a2).bind fun bt309 => ((masterdiscref16_ReadRecord.f k a2).bind fun bt312 => (if t305.toList = bt307.1.toList then (if t306 = bt307.2 then (if bt309.1 = bt312.1 then (if bt309.2.1 = bt312.2.1 then (some (bt309.2.2 == bt312.2.2)) else (some false)) else (some false)) else (some false)) else (some false))))) = some r := H
   have A8 := Aside0.mk A80
   clear A80
   replace H := Option.bind_eq_some_iff.mp H
   obtain ⟨⟨t307, t308⟩, A90, H⟩ := H
   replace H : ((datetime_ReadRecord.f k a2).bind fun bt309 => ((masterdiscref16_ReadRecord.f k a2).bind fun bt312 => (if t305.toList = t307.toList then (if t306 = t308 then (if bt309.1 = bt312.1 then (if bt309.2.1 = bt312.2.1 then (some (bt309.2.2 == bt312.2.2)) else (some false)) else (some false)) else (some false)) else (some false)))) = some r := H
   have A9 := Aside0.mk A90
   clear A90
   replace H := Option.bind_eq_some_iff.mp H
   obtain ⟨⟨t309, t310, t311⟩, A100, H⟩ := H
   replace H : ((masterdiscref16_ReadRecord.f k a2).bind fun bt312 => (if t305.toList = t307.toList then (if t306 = t308 then (if t309 = bt312.1 then (if t310 = bt312.2.1 then (some (t311 == bt312.2.2)) else (some false)) else (some false)) else (some false)) else (some false))) = some r := H
   have A10 := Aside0.mk A100
   clear A100
   replace H := Option.bind_eq_some_iff.mp H
   obtain ⟨⟨t312, t313, t314⟩, A110, H⟩ := H
   replace H : (if t305.toList = t307.toList then (if t306 = t308 then (if t309 = t312 then (if t310 = t313 then (some (t311 == t314)) else (some false)) else (some false)) else (some false)) else (some false)) = some r := H
   have A11 := Aside0.mk A110
   clear A110
   by_cases c12 : t305.toList = t307.toList
   ·rw [if_pos c12] at H
    have c12b0 : (t305.toList == t307.toList) = true := beq_iff_eq.mpr c12
    have c12b1 : (t305.toList != t307.toList) = false := bne_eq_false_iff_eq.mpr c12
    clear c12
    by_cases c13 : t306 = t308
    ·rw [if_pos c13] at H
     have c13b0 : (t306 == t308) = true := beq_iff_eq.mpr c13
     have c13b1 : (t306 != t308) = false := bne_eq_false_iff_eq.mpr c13
     clear c13
     by_cases c14 : t309 = t312
     ·rw [if_pos c14] at H
      have c14b0 : (t309 == t312) = true := beq_iff_eq.mpr c14
      have c14b1 : (t309 != t312) = false := bne_eq_false_iff_eq.mpr c14
      clear c14
      by_cases c15 : t310 = t313
      ·rw [if_pos c15] at H
       have c15b0 : (t310 == t313) = true := beq_iff_eq.mpr c15
       have c15b1 : (t310 != t313) = false := bne_eq_false_iff_eq.mpr c15
       clear c15
       obtain rfl := Option.some.inj H
       go_enter Tryd.func6, Tryd.ntmps6
       go_wp2_with (first | ((with_reducible refine gate_callee (f := 11) rfl ?_); refine goesL_ (some 17) rfl rfl Tryd.func11 (by kernel_rfl) rfl #[] rfl (by ((try simp only [List.map_toArray, List.map_cons, List.map_nil]); first | done | rfl | (simp only [List.length_drop, List.length_take]; rfl))) ?_; (with_reducible refine (masterdisclaw16_awake.calls k  true _ ?side1 A4.out).mono ?_); (case side1 => exact HG.below hG_ (by repeat (first | (with_reducible first | exact HB.out | apply below_alloc | apply pw_below_drewN | apply below_drew1) | exact HB.out))); rintro e w16 ⟨rfl, hb⟩; refine ⟨_, rfl, ?_⟩; have n0_ := Aside0.mk (below_step (by repeat (first | (with_reducible first | exact HB.out | apply below_alloc | apply pw_below_drewN | apply below_drew1) | exact HB.out)) hb); clear HB; have HB := n0_; clear n0_; ((try clear hb); (try clear hb2); (try clear hk); (try clear hi))) | ((with_reducible refine gate_callee (f := 19) rfl ?_); refine goesL_ (some 25) rfl rfl Tryd.func19 (by kernel_rfl) rfl #[.int .i64 a0, .int .i64 a1] rfl (by ((try simp only [List.map_toArray, List.map_cons, List.map_nil]); first | done | rfl | (simp only [List.length_drop, List.length_take]; rfl))) ?_; (with_reducible refine (datetime_Record.calls k a0 a1 t305 t306 _ A8.out).mono ?_); rintro e w17 ⟨rfl, hb⟩; refine ⟨_, rfl, ?_⟩; have n0_ := Aside0.mk (below_step (by repeat (first | (with_reducible first | exact HB.out | apply below_alloc | apply pw_below_drewN | apply below_drew1) | exact HB.out)) hb); clear HB; have HB := n0_; clear n0_; ((try clear hb); (try clear hb2); (try clear hk); (try clear hi))) | ((with_reducible refine gate_callee (f := 20) rfl ?_); refine goesL_ (some 31) rfl rfl Tryd.func20 (by kernel_rfl) rfl #[.int .i64 a0, .int .i64 a1] rfl (by ((try simp only [List.map_toArray, List.map_cons, List.map_nil]); first | done | rfl | (simp only [List.length_drop, List.length_take]; rfl))) ?_; (with_reducible refine (masterdiscref16_Record.calls k a0 a1 t307 t308 _ A9.out).mono ?_); rintro e w18 ⟨rfl, hb⟩; refine ⟨_, rfl, ?_⟩; have n0_ := Aside0.mk (below_step (by repeat (first | (with_reducible first | exact HB.out | apply below_alloc | apply pw_below_drewN | apply below_drew1) | exact HB.out)) hb); clear HB; have HB := n0_; clear n0_; ((try clear hb); (try clear hb2); (try clear hk); (try clear hi))) | ((with_reducible refine gate_callee (f := 21) rfl ?_); refine goesL_ (some 36) rfl rfl Tryd.func21 (by kernel_rfl) rfl #[.string a2] rfl (by ((try simp only [List.map_toArray, List.map_cons, List.map_nil]); first | done | rfl | (simp only [List.length_drop, List.length_take]; rfl))) ?_; (with_reducible refine (datetime_ReadRecord.calls k a2 t309 t310 t311 _ A10.out).mono ?_); rintro e w19 ⟨rfl, hb⟩; refine ⟨_, rfl, ?_⟩; have n0_ := Aside0.mk (below_step (by repeat (first | (with_reducible first | exact HB.out | apply below_alloc | apply pw_below_drewN | apply below_drew1) | exact HB.out)) hb); clear HB; have HB := n0_; clear n0_; ((try clear hb); (try clear hb2); (try clear hk); (try clear hi))) | ((with_reducible refine gate_callee (f := 22) rfl ?_); refine goesL_ (some 42) rfl rfl Tryd.func22 (by kernel_rfl) rfl #[.string a2] rfl (by ((try simp only [List.map_toArray, List.map_cons, List.map_nil]); first | done | rfl | (simp only [List.length_drop, List.length_take]; rfl))) ?_; (with_reducible refine (masterdiscref16_ReadRecord.calls k a2 t312 t313 t314 _ A11.out).mono ?_); rintro e w20 ⟨rfl, hb⟩; refine ⟨_, rfl, ?_⟩; have n0_ := Aside0.mk (below_step (by repeat (first | (with_reducible first | exact HB.out | apply below_alloc | apply pw_below_drewN | apply below_drew1) | exact HB.out)) hb); clear HB; have HB := n0_; clear n0_; ((try clear hb); (try clear hb2); (try clear hk); (try clear hi))))
       go_ret
       exact ⟨by (first | rfl | (simp [errW_none, errW_some] <;> rfl) | (simp [*, errW_none, errW_some] <;> rfl)), by repeat (first | (with_reducible first | exact HB.out | apply below_alloc | apply pw_below_drewN | apply below_drew1) | exact HB.out)⟩
      ·rw [if_neg c15] at H
       have c15b0 : (t310 == t313) = false := beq_eq_false_iff_ne.mpr c15
       have c15b1 : (t310 != t313) = true := bne_iff_ne.mpr c15
       obtain rfl := Option.some.inj H
       go_enter Tryd.func6, Tryd.ntmps6
       go_wp2_with (first | ((with_reducible refine gate_callee (f := 11) rfl ?_); refine goesL_ (some 17) rfl rfl Tryd.func11 (by kernel_rfl) rfl #[] rfl (by ((try simp only [List.map_toArray, List.map_cons, List.map_nil]); first | done | rfl | (simp only [List.length_drop, List.length_take]; rfl))) ?_; (with_reducible refine (masterdisclaw16_awake.calls k  true _ ?side1 A4.out).mono ?_); (case side1 => exact HG.below hG_ (by repeat (first | (with_reducible first | exact HB.out | apply below_alloc | apply pw_below_drewN | apply below_drew1) | exact HB.out))); rintro e w21 ⟨rfl, hb⟩; refine ⟨_, rfl, ?_⟩; have n0_ := Aside0.mk (below_step (by repeat (first | (with_reducible first | exact HB.out | apply below_alloc | apply pw_below_drewN | apply below_drew1) | exact HB.out)) hb); clear HB; have HB := n0_; clear n0_; ((try clear hb); (try clear hb2); (try clear hk); (try clear hi))) | ((with_reducible refine gate_callee (f := 19) rfl ?_); refine goesL_ (some 25) rfl rfl Tryd.func19 (by kernel_rfl) rfl #[.int .i64 a0, .int .i64 a1] rfl (by ((try simp only [List.map_toArray, List.map_cons, List.map_nil]); first | done | rfl | (simp only [List.length_drop, List.length_take]; rfl))) ?_; (with_reducible refine (datetime_Record.calls k a0 a1 t305 t306 _ A8.out).mono ?_); rintro e w22 ⟨rfl, hb⟩; refine ⟨_, rfl, ?_⟩; have n0_ := Aside0.mk (below_step (by repeat (first | (with_reducible first | exact HB.out | apply below_alloc | apply pw_below_drewN | apply below_drew1) | exact HB.out)) hb); clear HB; have HB := n0_; clear n0_; ((try clear hb); (try clear hb2); (try clear hk); (try clear hi))) | ((with_reducible refine gate_callee (f := 20) rfl ?_); refine goesL_ (some 31) rfl rfl Tryd.func20 (by kernel_rfl) rfl #[.int .i64 a0, .int .i64 a1] rfl (by ((try simp only [List.map_toArray, List.map_cons, List.map_nil]); first | done | rfl | (simp only [List.length_drop, List.length_take]; rfl))) ?_; (with_reducible refine (masterdiscref16_Record.calls k a0 a1 t307 t308 _ A9.out).mono ?_); rintro e w23 ⟨rfl, hb⟩; refine ⟨_, rfl, ?_⟩; have n0_ := Aside0.mk (below_step (by repeat (first | (with_reducible first | exact HB.out | apply below_alloc | apply pw_below_drewN | apply below_drew1) | exact HB.out)) hb); clear HB; have HB := n0_; clear n0_; ((try clear hb); (try clear hb2); (try clear hk); (try clear hi))) | ((with_reducible refine gate_callee (f := 21) rfl ?_); refine goesL_ (some 36) rfl rfl Tryd.func21 (by kernel_rfl) rfl #[.string a2] rfl (by ((try simp only [List.map_toArray, List.map_cons, List.map_nil]); first | done | rfl | (simp only [List.length_drop, List.length_take]; rfl))) ?_; (with_reducible refine (datetime_ReadRecord.calls k a2 t309 t310 t311 _ A10.out).mono ?_); rintro e w24 ⟨rfl, hb⟩; refine ⟨_, rfl, ?_⟩; have n0_ := Aside0.mk (below_step (by repeat (first | (with_reducible first | exact HB.out | apply below_alloc | apply pw_below_drewN | apply below_drew1) | exact HB.out)) hb); clear HB; have HB := n0_; clear n0_; ((try clear hb); (try clear hb2); (try clear hk); (try clear hi))) | ((with_reducible refine gate_callee (f := 22) rfl ?_); refine goesL_ (some 42) rfl rfl Tryd.func22 (by kernel_rfl) rfl #[.string a2] rfl (by ((try simp only [List.map_toArray, List.map_cons, List.map_nil]); first | done | rfl | (simp only [List.length_drop, List.length_take]; rfl))) ?_; (with_reducible refine (masterdiscref16_ReadRecord.calls k a2 t312 t313 t314 _ A11.out).mono ?_); rintro e w25 ⟨rfl, hb⟩; refine ⟨_, rfl, ?_⟩; have n0_ := Aside0.mk (below_step (by repeat (first | (with_reducible first | exact HB.out | apply below_alloc | apply pw_below_drewN | apply below_drew1) | exact HB.out)) hb); clear HB; have HB := n0_; clear n0_; ((try clear hb); (try clear hb2); (try clear hk); (try clear hi))))
       go_ret
       exact ⟨by (first | rfl | (simp [errW_none, errW_some] <;> rfl) | (simp [*, errW_none, errW_some] <;> rfl)), by repeat (first | (with_reducible first | exact HB.out | apply below_alloc | apply pw_below_drewN | apply below_drew1) | exact HB.out)⟩
     ·rw [if_neg c14] at H
      have c14b0 : (t309 == t312) = false := beq_eq_false_iff_ne.mpr c14
      have c14b1 : (t309 != t312) = true := bne_iff_ne.mpr c14
      obtain rfl := Option.some.inj H
      go_enter Tryd.func6, Tryd.ntmps6
      go_wp2_with (first | ((with_reducible refine gate_callee (f := 11) rfl ?_); refine goesL_ (some 17) rfl rfl Tryd.func11 (by kernel_rfl) rfl #[] rfl (by ((try simp only [List.map_toArray, List.map_cons, List.map_nil]); first | done | rfl | (simp only [List.length_drop, List.length_take]; rfl))) ?_; (with_reducible refine (masterdisclaw16_awake.calls k  true _ ?side1 A4.out).mono ?_); (case side1 => exact HG.below hG_ (by repeat (first | (with_reducible first | exact HB.out | apply below_alloc | apply pw_below_drewN | apply below_drew1) | exact HB.out))); rintro e w26 ⟨rfl, hb⟩; refine ⟨_, rfl, ?_⟩; have n0_ := Aside0.mk (below_step (by repeat (first | (with_reducible first | exact HB.out | apply below_alloc | apply pw_below_drewN | apply below_drew1) | exact HB.out)) hb); clear HB; have HB := n0_; clear n0_; ((try clear hb); (try clear hb2); (try clear hk); (try clear hi))) | ((with_reducible refine gate_callee (f := 19) rfl ?_); refine goesL_ (some 25) rfl rfl Tryd.func19 (by kernel_rfl) rfl #[.int .i64 a0, .int .i64 a1] rfl (by ((try simp only [List.map_toArray, List.map_cons, List.map_nil]); first | done | rfl | (simp only [List.length_drop, List.length_take]; rfl))) ?_; (with_reducible refine (datetime_Record.calls k a0 a1 t305 t306 _ A8.out).mono ?_); rintro e w27 ⟨rfl, hb⟩; refine ⟨_, rfl, ?_⟩; have n0_ := Aside0.mk (below_step (by repeat (first | (with_reducible first | exact HB.out | apply below_alloc | apply pw_below_drewN | apply below_drew1) | exact HB.out)) hb); clear HB; have HB := n0_; clear n0_; ((try clear hb); (try clear hb2); (try clear hk); (try clear hi))) | ((with_reducible refine gate_callee (f := 20) rfl ?_); refine goesL_ (some 31) rfl rfl Tryd.func20 (by kernel_rfl) rfl #[.int .i64 a0, .int .i64 a1] rfl (by ((try simp only [List.map_toArray, List.map_cons, List.map_nil]); first | done | rfl | (simp only [List.length_drop, List.length_take]; rfl))) ?_; (with_reducible refine (masterdiscref16_Record.calls k a0 a1 t307 t308 _ A9.out).mono ?_); rintro e w28 ⟨rfl, hb⟩; refine ⟨_, rfl, ?_⟩; have n0_ := Aside0.mk (below_step (by repeat (first | (with_reducible first | exact HB.out | apply below_alloc | apply pw_below_drewN | apply below_drew1) | exact HB.out)) hb); clear HB; have HB := n0_; clear n0_; ((try clear hb); (try clear hb2); (try clear hk); (try clear hi))) | ((with_reducible refine gate_callee (f := 21) rfl ?_); refine goesL_ (some 36) rfl rfl Tryd.func21 (by kernel_rfl) rfl #[.string a2] rfl (by ((try simp only [List.map_toArray, List.map_cons, List.map_nil]); first | done | rfl | (simp only [List.length_drop, List.length_take]; rfl))) ?_; (with_reducible refine (datetime_ReadRecord.calls k a2 t309 t310 t311 _ A10.out).mono ?_); rintro e w29 ⟨rfl, hb⟩; refine ⟨_, rfl, ?_⟩; have n0_ := Aside0.mk (below_step (by repeat (first | (with_reducible first | exact HB.out | apply below_alloc | apply pw_below_drewN | apply below_drew1) | exact HB.out)) hb); clear HB; have HB := n0_; clear n0_; ((try clear hb); (try clear hb2); (try clear hk); (try clear hi))) | ((with_reducible refine gate_callee (f := 22) rfl ?_); refine goesL_ (some 42) rfl rfl Tryd.func22 (by kernel_rfl) rfl #[.string a2] rfl (by ((try simp only [List.map_toArray, List.map_cons, List.map_nil]); first | done | rfl | (simp only [List.length_drop, List.length_take]; rfl))) ?_; (with_reducible refine (masterdiscref16_ReadRecord.calls k a2 t312 t313 t314 _ A11.out).mono ?_); rintro e w30 ⟨rfl, hb⟩; refine ⟨_, rfl, ?_⟩; have n0_ := Aside0.mk (below_step (by repeat (first | (with_reducible first | exact HB.out | apply below_alloc | apply pw_below_drewN | apply below_drew1) | exact HB.out)) hb); clear HB; have HB := n0_; clear n0_; ((try clear hb); (try clear hb2); (try clear hk); (try clear hi))))
      go_ret
      exact ⟨by (first | rfl | (simp [errW_none, errW_some] <;> rfl) | (simp [*, errW_none, errW_some] <;> rfl)), by repeat (first | (with_reducible first | exact HB.out | apply below_alloc | apply pw_below_drewN | apply below_drew1) | exact HB.out)⟩
    ·rw [if_neg c13] at H
     have c13b0 : (t306 == t308) = false := beq_eq_false_iff_ne.mpr c13
     have c13b1 : (t306 != t308) = true := bne_iff_ne.mpr c13
     obtain rfl := Option.some.inj H
     go_enter Tryd.func6, Tryd.ntmps6
     go_wp2_with (first | ((with_reducible refine gate_callee (f := 11) rfl ?_); refine goesL_ (some 17) rfl rfl Tryd.func11 (by kernel_rfl) rfl #[] rfl (by ((try simp only [List.map_toArray, List.map_cons, List.map_nil]); first | done | rfl | (simp only [List.length_drop, List.length_take]; rfl))) ?_; (with_reducible refine (masterdisclaw16_awake.calls k  true _ ?side1 A4.out).mono ?_); (case side1 => exact HG.below hG_ (by repeat (first | (with_reducible first | exact HB.out | apply below_alloc | apply pw_below_drewN | apply below_drew1) | exact HB.out))); rintro e w31 ⟨rfl, hb⟩; refine ⟨_, rfl, ?_⟩; have n0_ := Aside0.mk (below_step (by repeat (first | (with_reducible first | exact HB.out | apply below_alloc | apply pw_below_drewN | apply below_drew1) | exact HB.out)) hb); clear HB; have HB := n0_; clear n0_; ((try clear hb); (try clear hb2); (try clear hk); (try clear hi))) | ((with_reducible refine gate_callee (f := 19) rfl ?_); refine goesL_ (some 25) rfl rfl Tryd.func19 (by kernel_rfl) rfl #[.int .i64 a0, .int .i64 a1] rfl (by ((try simp only [List.map_toArray, List.map_cons, List.map_nil]); first | done | rfl | (simp only [List.length_drop, List.length_take]; rfl))) ?_; (with_reducible refine (datetime_Record.calls k a0 a1 t305 t306 _ A8.out).mono ?_); rintro e w32 ⟨rfl, hb⟩; refine ⟨_, rfl, ?_⟩; have n0_ := Aside0.mk (below_step (by repeat (first | (with_reducible first | exact HB.out | apply below_alloc | apply pw_below_drewN | apply below_drew1) | exact HB.out)) hb); clear HB; have HB := n0_; clear n0_; ((try clear hb); (try clear hb2); (try clear hk); (try clear hi))) | ((with_reducible refine gate_callee (f := 20) rfl ?_); refine goesL_ (some 31) rfl rfl Tryd.func20 (by kernel_rfl) rfl #[.int .i64 a0, .int .i64 a1] rfl (by ((try simp only [List.map_toArray, List.map_cons, List.map_nil]); first | done | rfl | (simp only [List.length_drop, List.length_take]; rfl))) ?_; (with_reducible refine (masterdiscref16_Record.calls k a0 a1 t307 t308 _ A9.out).mono ?_); rintro e w33 ⟨rfl, hb⟩; refine ⟨_, rfl, ?_⟩; have n0_ := Aside0.mk (below_step (by repeat (first | (with_reducible first | exact HB.out | apply below_alloc | apply pw_below_drewN | apply below_drew1) | exact HB.out)) hb); clear HB; have HB := n0_; clear n0_; ((try clear hb); (try clear hb2); (try clear hk); (try clear hi))) | ((with_reducible refine gate_callee (f := 21) rfl ?_); refine goesL_ (some 36) rfl rfl Tryd.func21 (by kernel_rfl) rfl #[.string a2] rfl (by ((try simp only [List.map_toArray, List.map_cons, List.map_nil]); first | done | rfl | (simp only [List.length_drop, List.length_take]; rfl))) ?_; (with_reducible refine (datetime_ReadRecord.calls k a2 t309 t310 t311 _ A10.out).mono ?_); rintro e w34 ⟨rfl, hb⟩; refine ⟨_, rfl, ?_⟩; have n0_ := Aside0.mk (below_step (by repeat (first | (with_reducible first | exact HB.out | apply below_alloc | apply pw_below_drewN | apply below_drew1) | exact HB.out)) hb); clear HB; have HB := n0_; clear n0_; ((try clear hb); (try clear hb2); (try clear hk); (try clear hi))) | ((with_reducible refine gate_callee (f := 22) rfl ?_); refine goesL_ (some 42) rfl rfl Tryd.func22 (by kernel_rfl) rfl #[.string a2] rfl (by ((try simp only [List.map_toArray, List.map_cons, List.map_nil]); first | done | rfl | (simp only [List.length_drop, List.length_take]; rfl))) ?_; (with_reducible refine (masterdiscref16_ReadRecord.calls k a2 t312 t313 t314 _ A11.out).mono ?_); rintro e w35 ⟨rfl, hb⟩; refine ⟨_, rfl, ?_⟩; have n0_ := Aside0.mk (below_step (by repeat (first | (with_reducible first | exact HB.out | apply below_alloc | apply pw_below_drewN | apply below_drew1) | exact HB.out)) hb); clear HB; have HB := n0_; clear n0_; ((try clear hb); (try clear hb2); (try clear hk); (try clear hi))))
     go_ret
     exact ⟨by (first | rfl | (simp [errW_none, errW_some] <;> rfl) | (simp [*, errW_none, errW_some] <;> rfl)), by repeat (first | (with_reducible first | exact HB.out | apply below_alloc | apply pw_below_drewN | apply below_drew1) | exact HB.out)⟩
   ·rw [if_neg c12] at H
    have c12b0 : (t305.toList == t307.toList) = false := beq_eq_false_iff_ne.mpr c12
    have c12b1 : (t305.toList != t307.toList) = true := bne_iff_ne.mpr c12
    obtain rfl := Option.some.inj H
    go_enter Tryd.func6, Tryd.ntmps6
    go_wp2_with (first | ((with_reducible refine gate_callee (f := 11) rfl ?_); refine goesL_ (some 17) rfl rfl Tryd.func11 (by kernel_rfl) rfl #[] rfl (by ((try simp only [List.map_toArray, List.map_cons, List.map_nil]); first | done | rfl | (simp only [List.length_drop, List.length_take]; rfl))) ?_; (with_reducible refine (masterdisclaw16_awake.calls k  true _ ?side1 A4.out).mono ?_); (case side1 => exact HG.below hG_ (by repeat (first | (with_reducible first | exact HB.out | apply below_alloc | apply pw_below_drewN | apply below_drew1) | exact HB.out))); rintro e w36 ⟨rfl, hb⟩; refine ⟨_, rfl, ?_⟩; have n0_ := Aside0.mk (below_step (by repeat (first | (with_reducible first | exact HB.out | apply below_alloc | apply pw_below_drewN | apply below_drew1) | exact HB.out)) hb); clear HB; have HB := n0_; clear n0_; ((try clear hb); (try clear hb2); (try clear hk); (try clear hi))) | ((with_reducible refine gate_callee (f := 19) rfl ?_); refine goesL_ (some 25) rfl rfl Tryd.func19 (by kernel_rfl) rfl #[.int .i64 a0, .int .i64 a1] rfl (by ((try simp only [List.map_toArray, List.map_cons, List.map_nil]); first | done | rfl | (simp only [List.length_drop, List.length_take]; rfl))) ?_; (with_reducible refine (datetime_Record.calls k a0 a1 t305 t306 _ A8.out).mono ?_); rintro e w37 ⟨rfl, hb⟩; refine ⟨_, rfl, ?_⟩; have n0_ := Aside0.mk (below_step (by repeat (first | (with_reducible first | exact HB.out | apply below_alloc | apply pw_below_drewN | apply below_drew1) | exact HB.out)) hb); clear HB; have HB := n0_; clear n0_; ((try clear hb); (try clear hb2); (try clear hk); (try clear hi))) | ((with_reducible refine gate_callee (f := 20) rfl ?_); refine goesL_ (some 31) rfl rfl Tryd.func20 (by kernel_rfl) rfl #[.int .i64 a0, .int .i64 a1] rfl (by ((try simp only [List.map_toArray, List.map_cons, List.map_nil]); first | done | rfl | (simp only [List.length_drop, List.length_take]; rfl))) ?_; (with_reducible refine (masterdiscref16_Record.calls k a0 a1 t307 t308 _ A9.out).mono ?_); rintro e w38 ⟨rfl, hb⟩; refine ⟨_, rfl, ?_⟩; have n0_ := Aside0.mk (below_step (by repeat (first | (with_reducible first | exact HB.out | apply below_alloc | apply pw_below_drewN | apply below_drew1) | exact HB.out)) hb); clear HB; have HB := n0_; clear n0_; ((try clear hb); (try clear hb2); (try clear hk); (try clear hi))) | ((with_reducible refine gate_callee (f := 21) rfl ?_); refine goesL_ (some 36) rfl rfl Tryd.func21 (by kernel_rfl) rfl #[.string a2] rfl (by ((try simp only [List.map_toArray, List.map_cons, List.map_nil]); first | done | rfl | (simp only [List.length_drop, List.length_take]; rfl))) ?_; (with_reducible refine (datetime_ReadRecord.calls k a2 t309 t310 t311 _ A10.out).mono ?_); rintro e w39 ⟨rfl, hb⟩; refine ⟨_, rfl, ?_⟩; have n0_ := Aside0.mk (below_step (by repeat (first | (with_reducible first | exact HB.out | apply below_alloc | apply pw_below_drewN | apply below_drew1) | exact HB.out)) hb); clear HB; have HB := n0_; clear n0_; ((try clear hb); (try clear hb2); (try clear hk); (try clear hi))) | ((with_reducible refine gate_callee (f := 22) rfl ?_); refine goesL_ (some 42) rfl rfl Tryd.func22 (by kernel_rfl) rfl #[.string a2] rfl (by ((try simp only [List.map_toArray, List.map_cons, List.map_nil]); first | done | rfl | (simp only [List.length_drop, List.length_take]; rfl))) ?_; (with_reducible refine (masterdiscref16_ReadRecord.calls k a2 t312 t313 t314 _ A11.out).mono ?_); rintro e w40 ⟨rfl, hb⟩; refine ⟨_, rfl, ?_⟩; have n0_ := Aside0.mk (below_step (by repeat (first | (with_reducible first | exact HB.out | apply below_alloc | apply pw_below_drewN | apply below_drew1) | exact HB.out)) hb); clear HB; have HB := n0_; clear n0_; ((try clear hb); (try clear hb2); (try clear hk); (try clear hi))))
    go_ret
    exact ⟨by (first | rfl | (simp [errW_none, errW_some] <;> rfl) | (simp [*, errW_none, errW_some] <;> rfl)), by repeat (first | (with_reducible first | exact HB.out | apply below_alloc | apply pw_below_drewN | apply below_drew1) | exact HB.out)⟩
 ·replace c5 := Bool.eq_false_iff.mpr c5
  subst c5
  have H1 : (some false) = some r := by rw [if_neg (show ¬ (false = true) by decide)] at H; exact H
  clear H
  have H := H1
  clear H1
  obtain rfl := Option.some.inj H
  go_enter Tryd.func6, Tryd.ntmps6
  go_wp2_with (first | ((with_reducible refine gate_callee (f := 11) rfl ?_); refine goesL_ (some 17) rfl rfl Tryd.func11 (by kernel_rfl) rfl #[] rfl (by ((try simp only [List.map_toArray, List.map_cons, List.map_nil]); first | done | rfl | (simp only [List.length_drop, List.length_take]; rfl))) ?_; (with_reducible refine (masterdisclaw16_awake.calls k  false _ ?side1 A4.out).mono ?_); (case side1 => exact HG.below hG_ (by repeat (first | (with_reducible first | exact HB.out | apply below_alloc | apply pw_below_drewN | apply below_drew1) | exact HB.out))); rintro e w41 ⟨rfl, hb⟩; refine ⟨_, rfl, ?_⟩; have n0_ := Aside0.mk (below_step (by repeat (first | (with_reducible first | exact HB.out | apply below_alloc | apply pw_below_drewN | apply below_drew1) | exact HB.out)) hb); clear HB; have HB := n0_; clear n0_; ((try clear hb); (try clear hb2); (try clear hk); (try clear hi))))
  go_ret
  exact ⟨by (first | rfl | (simp [errW_none, errW_some] <;> rfl) | (simp [*, errW_none, errW_some] <;> rfl)), by repeat (first | (with_reducible first | exact HB.out | apply below_alloc | apply pw_below_drewN | apply below_drew1) | exact HB.out)⟩

/-- THE ONE PURE STATEMENT of masterdisclaw16_DatetimeRecords: yours. -/
def masterdisclaw16_DatetimeRecords.Pure : Prop := ∀ (a0 : Int) (a1 : Int) (a2 : ByteArray), (Lit.int .i64 a0).wf = true → (Lit.int .i64 a1).wf = true → a2.size ≤ 140737488351232 → ∃ k, masterdisclaw16_DatetimeRecords.f k a0 a1 a2 = some true
theorem masterdisclaw16_DatetimeRecords.walk (P : masterdisclaw16_DatetimeRecords.Pure) (a0 : Int) (a1 : Int) (a2 : ByteArray) (w : World) (hG_ : HG w) (w0 : (Lit.int .i64 a0).wf = true) (w1 : (Lit.int .i64 a1).wf = true) (w2 : a2.size ≤ 140737488351232) :
  Calls Tryd.prog 6 #[.int .i64 a0, .int .i64 a1, .string a2] w fun e w' => e = .returned (.bool true) ∧ Below w.heap.size w w' := by
 obtain ⟨k, h⟩ := P a0 a1 a2 w0 w1 w2
 refine (masterdisclaw16_DatetimeRecords.calls k a0 a1 a2 true w hG_ h).mono ?_
 rintro e w' ⟨rfl, hd⟩
 exact ⟨rfl, hd⟩

end Go.Proofs.YtnchkpheepbacaaDoor.Q
