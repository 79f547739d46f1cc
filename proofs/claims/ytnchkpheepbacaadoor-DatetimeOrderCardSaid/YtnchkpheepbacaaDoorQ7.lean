/- Printed for this session's own hand contracts by its own program; Lean checks every line. -/
import Derived.Test.YtnchkpheepbacaaDoorQ0
import Derived.Test.YtnchkpheepbacaaDoorQ2
import Derived.Test.YtnchkpheepbacaaDoorQ3
import Derived.Test.YtnchkpheepbacaaDoorQ4
import Derived.Test.YtnchkpheepbacaaDoorQ6
namespace Go.Proofs.YtnchkpheepbacaaDoor.Q
open Go.Proofs.YtnchkpheepbacaaDoor.Hand
open Go.RowKit Go.Proofs.YtnchkpheepbacaaDoorW.PrintWords Go.Proofs.YtnchkpheepbacaaDoorW.PrintLast Go.Proofs.YtnchkpheepbacaaDoorW.PrintMore
attribute [local go_sem] max2_int min2_int max_two min_two max_three min_three max_four min_four   -- for this text's walks alone
set_option linter.unusedVariables false
set_option linter.unusedSimpArgs false

/-! ### masterdisclaw16_DatetimeOrder: function 4 -/
mutual
def masterdisclaw16_DatetimeOrder.j0 : Nat → Int → Int → Int → Bool → Option (Bool)
  | 0, _, _, _, _ => none
  | k + 1, x0, x1, x2, x30 => if x30 = true then (some true) else ((datetime_Split.f k x0 x2).bind fun bt237 => ((datetime_Split.f k x1 x2).bind fun bt245 => (if bt237.2.2.2.2.2.2 = 0 then (masterdisclaw16_DatetimeOrder.j1 k x0 x1 x2 (bt245.2.2.2.2.2.2 != 0) bt237.1 bt237.2.1 bt237.2.2.1 bt237.2.2.2.1 bt237.2.2.2.2.1 bt237.2.2.2.2.2.1 bt245.1 bt245.2.1 bt245.2.2.1 bt245.2.2.2.1 bt245.2.2.2.2.1 bt245.2.2.2.2.2.1) else (masterdisclaw16_DatetimeOrder.j1 k x0 x1 x2 true bt237.1 bt237.2.1 bt237.2.2.1 bt237.2.2.2.1 bt237.2.2.2.2.1 bt237.2.2.2.2.2.1 bt245.1 bt245.2.1 bt245.2.2.1 bt245.2.2.2.1 bt245.2.2.2.2.1 bt245.2.2.2.2.2.1))))
def masterdisclaw16_DatetimeOrder.j1 : Nat → Int → Int → Int → Bool → Int → Int → Int → Int → Int → Int → Int → Int → Int → Int → Int → Int → Option (Bool)
  | 0, _, _, _, _, _, _, _, _, _, _, _, _, _, _, _, _ => none
  | k + 1, x0, x1, x2, x48, x245000, x245001, x245002, x245003, x245004, x245005, x253000, x253001, x253002, x253003, x253004, x253005 => if x48 = true then (some false) else ((masterdisclaw16_clocks.f k x245000 x245001 x245002 x245003 x245004 x245005 x253000 x253001 x253002 x253003 x253004 x253005).bind fun t253 => (if ((decide (t253 < 0)) != (decide (x0 < x1))) = true then (masterdisclaw16_DatetimeOrder.j2 k x0 x1 x2 true x245000 x245001 x245002 x245003 x245004 x245005 x253000 x253001 x253002 x253003 x253004 x253005) else (masterdisclaw16_DatetimeOrder.j2 k x0 x1 x2 ((decide (t253 > 0)) != (decide (x0 > x1))) x245000 x245001 x245002 x245003 x245004 x245005 x253000 x253001 x253002 x253003 x253004 x253005)))
def masterdisclaw16_DatetimeOrder.j2 : Nat → Int → Int → Int → Bool → Int → Int → Int → Int → Int → Int → Int → Int → Int → Int → Int → Int → Option (Bool)
  | 0, _, _, _, _, _, _, _, _, _, _, _, _, _, _, _, _ => none
  | k + 1, x0, x1, x2, x65, x245000, x245001, x245002, x245003, x245004, x245005, x253000, x253001, x253002, x253003, x253004, x253005 => if x65 = true then (some false) else ((datetime_Join.f k x245000 x245001 x245002 x245003 x245004 x245005 x2).bind fun bt254 => ((datetime_Join.f k x253000 x253001 x253002 x253003 x253004 x253005 x2).bind fun bt256 => (if bt254.2 = 0 then (if bt256.2 = 0 then (if bt254.1 = x0 then (some (bt256.1 == x1)) else (some false)) else (some false)) else (some false))))
end
def masterdisclaw16_DatetimeOrder.f (k : Nat) (a0 : Int) (a1 : Int) (a2 : Int) : Option (Bool) := (masterdisclaw16_awake.f k).bind fun t233 => (if t233 = true then ((masterdiscref16_Time.f a0).bind fun t234 => (if t234 = true then ((masterdiscref16_Time.f a1).bind fun t235 => (if t235 = true then ((masterdiscref16_Zone.f a2).bind fun t236 => (masterdisclaw16_DatetimeOrder.j0 k a0 a1 a2 (!t236))) else (masterdisclaw16_DatetimeOrder.j0 k a0 a1 a2 true))) else (masterdisclaw16_DatetimeOrder.j0 k a0 a1 a2 true))) else (some false))
theorem masterdisclaw16_DatetimeOrder.mono_l : ∀ k, (∀ y0 y1 y2 y3, LeO (masterdisclaw16_DatetimeOrder.j0 k y0 y1 y2 y3) (masterdisclaw16_DatetimeOrder.j0 (k + 1) y0 y1 y2 y3)) ∧ (∀ y0 y1 y2 y3 y4 y5 y6 y7 y8 y9 y10 y11 y12 y13 y14 y15, LeO (masterdisclaw16_DatetimeOrder.j1 k y0 y1 y2 y3 y4 y5 y6 y7 y8 y9 y10 y11 y12 y13 y14 y15) (masterdisclaw16_DatetimeOrder.j1 (k + 1) y0 y1 y2 y3 y4 y5 y6 y7 y8 y9 y10 y11 y12 y13 y14 y15)) ∧ (∀ y0 y1 y2 y3 y4 y5 y6 y7 y8 y9 y10 y11 y12 y13 y14 y15, LeO (masterdisclaw16_DatetimeOrder.j2 k y0 y1 y2 y3 y4 y5 y6 y7 y8 y9 y10 y11 y12 y13 y14 y15) (masterdisclaw16_DatetimeOrder.j2 (k + 1) y0 y1 y2 y3 y4 y5 y6 y7 y8 y9 y10 y11 y12 y13 y14 y15))
  | 0 => ⟨fun _ _ _ _ r h => by simp [masterdisclaw16_DatetimeOrder.j0] at h, fun _ _ _ _ _ _ _ _ _ _ _ _ _ _ _ _ r h => by simp [masterdisclaw16_DatetimeOrder.j1] at h, fun _ _ _ _ _ _ _ _ _ _ _ _ _ _ _ _ r h => by simp [masterdisclaw16_DatetimeOrder.j2] at h⟩
  | k + 1 => by
    obtain ⟨ih0, ih1, ih2⟩ := masterdisclaw16_DatetimeOrder.mono_l k
    refine ⟨?_, ?_, ?_⟩
    · intro y0 y1 y2 y3
      unfold masterdisclaw16_DatetimeOrder.j0
      repeat' first
      | (with_reducible exact ih0 _ _ _ _)
      | (with_reducible exact ih1 _ _ _ _ _ _ _ _ _ _ _ _ _ _ _ _)
      | (with_reducible exact ih2 _ _ _ _ _ _ _ _ _ _ _ _ _ _ _ _)
      | (with_reducible exact datetime_Join.mono _ _ _ _ _ _ _ _)
      | (with_reducible exact datetime_Split.mono _ _ _)
      | (with_reducible exact masterdisclaw16_awake.mono _)
      | (with_reducible exact masterdisclaw16_clocks.mono _ _ _ _ _ _ _ _ _ _ _ _ _)
      | (with_reducible exact LeO.refl _)
      | (with_reducible exact LeO.none _)
      | (with_reducible refine LeO.ite ?_ ?_)
      | (with_reducible refine LeO.bind ?_ (fun _ => ?_))
      | exact ih0 _ _ _ _
      | exact ih1 _ _ _ _ _ _ _ _ _ _ _ _ _ _ _ _
      | exact ih2 _ _ _ _ _ _ _ _ _ _ _ _ _ _ _ _
      | exact datetime_Join.mono _ _ _ _ _ _ _ _
      | exact datetime_Split.mono _ _ _
      | exact masterdisclaw16_awake.mono _
      | exact masterdisclaw16_clocks.mono _ _ _ _ _ _ _ _ _ _ _ _ _
      | exact LeO.none _
      | refine LeO.ite ?_ ?_
      | refine LeO.bind ?_ (fun _ => ?_)
    · intro y0 y1 y2 y3 y4 y5 y6 y7 y8 y9 y10 y11 y12 y13 y14 y15
      unfold masterdisclaw16_DatetimeOrder.j1
      repeat' first
      | (with_reducible exact ih0 _ _ _ _)
      | (with_reducible exact ih1 _ _ _ _ _ _ _ _ _ _ _ _ _ _ _ _)
      | (with_reducible exact ih2 _ _ _ _ _ _ _ _ _ _ _ _ _ _ _ _)
      | (with_reducible exact datetime_Join.mono _ _ _ _ _ _ _ _)
      | (with_reducible exact datetime_Split.mono _ _ _)
      | (with_reducible exact masterdisclaw16_awake.mono _)
      | (with_reducible exact masterdisclaw16_clocks.mono _ _ _ _ _ _ _ _ _ _ _ _ _)
      | (with_reducible exact LeO.refl _)
      | (with_reducible exact LeO.none _)
      | (with_reducible refine LeO.ite ?_ ?_)
      | (with_reducible refine LeO.bind ?_ (fun _ => ?_))
      | exact ih0 _ _ _ _
      | exact ih1 _ _ _ _ _ _ _ _ _ _ _ _ _ _ _ _
      | exact ih2 _ _ _ _ _ _ _ _ _ _ _ _ _ _ _ _
      | exact datetime_Join.mono _ _ _ _ _ _ _ _
      | exact datetime_Split.mono _ _ _
      | exact masterdisclaw16_awake.mono _
      | exact masterdisclaw16_clocks.mono _ _ _ _ _ _ _ _ _ _ _ _ _
      | exact LeO.none _
      | refine LeO.ite ?_ ?_
      | refine LeO.bind ?_ (fun _ => ?_)
    · intro y0 y1 y2 y3 y4 y5 y6 y7 y8 y9 y10 y11 y12 y13 y14 y15
      unfold masterdisclaw16_DatetimeOrder.j2
      repeat' first
      | (with_reducible exact ih0 _ _ _ _)
      | (with_reducible exact ih1 _ _ _ _ _ _ _ _ _ _ _ _ _ _ _ _)
      | (with_reducible exact ih2 _ _ _ _ _ _ _ _ _ _ _ _ _ _ _ _)
      | (with_reducible exact datetime_Join.mono _ _ _ _ _ _ _ _)
      | (with_reducible exact datetime_Split.mono _ _ _)
      | (with_reducible exact masterdisclaw16_awake.mono _)
      | (with_reducible exact masterdisclaw16_clocks.mono _ _ _ _ _ _ _ _ _ _ _ _ _)
      | (with_reducible exact LeO.refl _)
      | (with_reducible exact LeO.none _)
      | (with_reducible refine LeO.ite ?_ ?_)
      | (with_reducible refine LeO.bind ?_ (fun _ => ?_))
      | exact ih0 _ _ _ _
      | exact ih1 _ _ _ _ _ _ _ _ _ _ _ _ _ _ _ _
      | exact ih2 _ _ _ _ _ _ _ _ _ _ _ _ _ _ _ _
      | exact datetime_Join.mono _ _ _ _ _ _ _ _
      | exact datetime_Split.mono _ _ _
      | exact masterdisclaw16_awake.mono _
      | exact masterdisclaw16_clocks.mono _ _ _ _ _ _ _ _ _ _ _ _ _
      | exact LeO.none _
      | refine LeO.ite ?_ ?_
      | refine LeO.bind ?_ (fun _ => ?_)
theorem masterdisclaw16_DatetimeOrder.mono : ∀ a0 a1 a2 k, LeO (masterdisclaw16_DatetimeOrder.f k a0 a1 a2) (masterdisclaw16_DatetimeOrder.f (k + 1) a0 a1 a2) := by
  intro a0 a1 a2 k
  obtain ⟨ih0, ih1, ih2⟩ := masterdisclaw16_DatetimeOrder.mono_l k
  unfold masterdisclaw16_DatetimeOrder.f
  repeat' first
      | (with_reducible exact ih0 _ _ _ _)
      | (with_reducible exact ih1 _ _ _ _ _ _ _ _ _ _ _ _ _ _ _ _)
      | (with_reducible exact ih2 _ _ _ _ _ _ _ _ _ _ _ _ _ _ _ _)
      | (with_reducible exact datetime_Join.mono _ _ _ _ _ _ _ _)
      | (with_reducible exact datetime_Split.mono _ _ _)
      | (with_reducible exact masterdisclaw16_awake.mono _)
      | (with_reducible exact masterdisclaw16_clocks.mono _ _ _ _ _ _ _ _ _ _ _ _ _)
      | (with_reducible exact LeO.refl _)
      | (with_reducible exact LeO.none _)
      | (with_reducible refine LeO.ite ?_ ?_)
      | (with_reducible refine LeO.bind ?_ (fun _ => ?_))
      | exact ih0 _ _ _ _
      | exact ih1 _ _ _ _ _ _ _ _ _ _ _ _ _ _ _ _
      | exact ih2 _ _ _ _ _ _ _ _ _ _ _ _ _ _ _ _
      | exact datetime_Join.mono _ _ _ _ _ _ _ _
      | exact datetime_Split.mono _ _ _
      | exact masterdisclaw16_awake.mono _
      | exact masterdisclaw16_clocks.mono _ _ _ _ _ _ _ _ _ _ _ _ _
      | exact LeO.none _
      | refine LeO.ite ?_ ?_
      | refine LeO.bind ?_ (fun _ => ?_)
set_option maxHeartbeats 8000000 in
set_option maxRecDepth 100000 in
theorem masterdisclaw16_DatetimeOrder.calls (k : Nat) (a0 : Int) (a1 : Int) (a2 : Int) (r : Bool) (w : World) (hG_ : HG w) (h : masterdisclaw16_DatetimeOrder.f k a0 a1 a2 = some r) :
    Calls Tryd.prog 4 #[.int .i64 a0, .int .i64 a1, .int .i64 a2] w fun e w' => e = .returned (.bool r) ∧ Below w.heap.size w w' := by
  have hu23 := Tryd.underlying23
  have HB := Aside0.mk (Below.refl w.heap.size w)
  have H : ((masterdisclaw16_awake.f k).bind fun t233 => (if t233 = true then ((masterdiscref16_Time.f a0).bind fun t234 => (if t234 = true then ((masterdiscref16_Time.f a1).bind fun t235 => (if t235 = true then ((masterdiscref16_Zone.f a2).bind fun t236 => (masterdisclaw16_DatetimeOrder.j0 k a0 a1 a2 (!t236))) else (masterdisclaw16_DatetimeOrder.j0 k a0 a1 a2 true))) else (masterdisclaw16_DatetimeOrder.j0 k a0 a1 a2 true))) else (some false))) = some r := h
  clear h
  replace H := Option.bind_eq_some_iff.mp H
  obtain ⟨t233, A40, H⟩ := H
  replace H : (if t233 = true then ((masterdiscref16_Time.f a0).bind fun t234 => (if t234 = true then ((masterdiscref16_Time.f a1).bind fun t235 => (if t235 = true then ((masterdiscref16_Zone.f a2).bind fun t236 => (masterdisclaw16_DatetimeOrder.j0 k a0 a1 a2 (!t236))) else (masterdisclaw16_DatetimeOrder.j0 k a0 a1 a2 true))) else (masterdisclaw16_DatetimeOrder.j0 k a0 a1 a2 true))) else (some false)) = some r := H
  have A4 := Aside0.mk A40
  clear A40
  by_cases c5 : t233 = true
  · subst c5
    have H1 : ((masterdiscref16_Time.f a0).bind fun t234 => (if t234 = true then ((masterdiscref16_Time.f a1).bind fun t235 => (if t235 = true then ((masterdiscref16_Zone.f a2).bind fun t236 => (masterdisclaw16_DatetimeOrder.j0 k a0 a1 a2 (!t236))) else (masterdisclaw16_DatetimeOrder.j0 k a0 a1 a2 true))) else (masterdisclaw16_DatetimeOrder.j0 k a0 a1 a2 true))) = some r := by rw [if_pos rfl] at H; exact H
    clear H
    have H := H1
    clear H1
    have HC6 := Aside0.mk H
    clear H
    go_enter Tryd.func4, Tryd.ntmps4
    go_upto_region 3 with (first | ((with_reducible refine gate_callee (f := 11) rfl ?_); refine goesL_ (some 16) rfl rfl Tryd.func11 (by kernel_rfl) rfl #[] rfl (by (try simp only [List.map_toArray, List.map_cons, List.map_nil]); first | done | rfl | (simp only [List.length_drop, List.length_take]; rfl)) ?_; (with_reducible refine (masterdisclaw16_awake.calls k  true _ ?side1 A4.out).mono ?_); (case side1 => exact HG.below hG_ (by repeat (first | (with_reducible first | exact HB.out | apply below_alloc | apply pw_below_drewN | apply below_drew1) | exact HB.out))); rintro e w7 ⟨rfl, hb⟩; refine ⟨_, rfl, ?_⟩; have n0_ := Aside0.mk (below_step (by repeat (first | (with_reducible first | exact HB.out | apply below_alloc | apply pw_below_drewN | apply below_drew1) | exact HB.out)) hb); clear HB; have HB := n0_; clear n0_; (try clear hb); (try clear hb2); (try clear hk); (try clear hi)))
    (try simp only [Act.put, List.setIfInBounds_toArray, List.set_cons_zero, List.set_cons_succ])
    go_cut [30] (fun v30 wc => ∃ (kq : Nat) (x30_5 : Bool), v30 = .bool x30_5 ∧ Aside0 (masterdisclaw16_DatetimeOrder.j0 kq a0 a1 a2 x30_5 = some r) ∧ Aside0 (kq ≤ k) ∧ Aside0 (Below w.heap.size w wc))
    case first =>
      have H := HC6.out
      clear HC6
      replace H := Option.bind_eq_some_iff.mp H
      obtain ⟨t234, A80, H⟩ := H
      replace H : (if t234 = true then ((masterdiscref16_Time.f a1).bind fun t235 => (if t235 = true then ((masterdiscref16_Zone.f a2).bind fun t236 => (masterdisclaw16_DatetimeOrder.j0 k a0 a1 a2 (!t236))) else (masterdisclaw16_DatetimeOrder.j0 k a0 a1 a2 true))) else (masterdisclaw16_DatetimeOrder.j0 k a0 a1 a2 true)) = some r := H
      have A8 := Aside0.mk A80
      clear A80
      by_cases c9 : t234 = true
      · subst c9
        have H1 : ((masterdiscref16_Time.f a1).bind fun t235 => (if t235 = true then ((masterdiscref16_Zone.f a2).bind fun t236 => (masterdisclaw16_DatetimeOrder.j0 k a0 a1 a2 (!t236))) else (masterdisclaw16_DatetimeOrder.j0 k a0 a1 a2 true))) = some r := by rw [if_pos rfl] at H; exact H
        clear H
        have H := H1
        clear H1
        replace H := Option.bind_eq_some_iff.mp H
        obtain ⟨t235, A100, H⟩ := H
        replace H : (if t235 = true then ((masterdiscref16_Zone.f a2).bind fun t236 => (masterdisclaw16_DatetimeOrder.j0 k a0 a1 a2 (!t236))) else (masterdisclaw16_DatetimeOrder.j0 k a0 a1 a2 true)) = some r := H
        have A10 := Aside0.mk A100
        clear A100
        by_cases c11 : t235 = true
        · subst c11
          have H1 : ((masterdiscref16_Zone.f a2).bind fun t236 => (masterdisclaw16_DatetimeOrder.j0 k a0 a1 a2 (!t236))) = some r := by rw [if_pos rfl] at H; exact H
          clear H
          have H := H1
          clear H1
          replace H := Option.bind_eq_some_iff.mp H
          obtain ⟨t236, A120, H⟩ := H
          replace H : (masterdisclaw16_DatetimeOrder.j0 k a0 a1 a2 (!t236)) = some r := H
          have A12 := Aside0.mk A120
          clear A120
          have H' := Aside0.mk H
          clear H
          go_wp2_with (first | ((with_reducible refine gate_callee (f := 16) rfl ?_); refine goesL_ (some 19) rfl rfl Tryd.func16 (by kernel_rfl) rfl #[.int .i64 a0] rfl (by (try simp only [List.map_toArray, List.map_cons, List.map_nil]); first | done | rfl | (simp only [List.length_drop, List.length_take]; rfl)) ?_; (with_reducible refine (masterdiscref16_Time.calls a0 true _ A8.out).mono ?_); rintro e w' ⟨rfl, ⟨nd, rfl⟩⟩; refine ⟨_, rfl, ?_⟩) | (go_at_call 16; (with_reducible refine (masterdiscref16_Time.calls a1 true _ A10.out).mono ?_); rintro e w' ⟨rfl, ⟨nd, rfl⟩⟩) | (go_at_call 17; (with_reducible refine (masterdiscref16_Zone.calls a2 t236 _ A12.out).mono ?_); rintro e w' ⟨rfl, ⟨nd, rfl⟩⟩))
          go_meet
          case rel => exact ⟨_, (!t236), (by first | rfl | (simp; done) | (simp [*]; done)), H', ⟨by first | omega | exact Nat.le_refl _⟩, ⟨by repeat (first | (with_reducible first | exact HB.out | apply below_alloc | apply pw_below_drewN | apply below_drew1) | exact HB.out)⟩⟩
        · replace c11 := Bool.eq_false_iff.mpr c11
          subst c11
          have H1 : (masterdisclaw16_DatetimeOrder.j0 k a0 a1 a2 true) = some r := by rw [if_neg (show ¬ (false = true) by decide)] at H; exact H
          clear H
          have H := H1
          clear H1
          have H' := Aside0.mk H
          clear H
          go_wp2_with (first | ((with_reducible refine gate_callee (f := 16) rfl ?_); refine goesL_ (some 19) rfl rfl Tryd.func16 (by kernel_rfl) rfl #[.int .i64 a0] rfl (by (try simp only [List.map_toArray, List.map_cons, List.map_nil]); first | done | rfl | (simp only [List.length_drop, List.length_take]; rfl)) ?_; (with_reducible refine (masterdiscref16_Time.calls a0 true _ A8.out).mono ?_); rintro e w' ⟨rfl, ⟨nd, rfl⟩⟩; refine ⟨_, rfl, ?_⟩) | (go_at_call 16; (with_reducible refine (masterdiscref16_Time.calls a1 false _ A10.out).mono ?_); rintro e w' ⟨rfl, ⟨nd, rfl⟩⟩))
          go_meet
          case rel => exact ⟨_, (true), (by first | rfl | (simp; done) | (simp [*]; done)), H', ⟨by first | omega | exact Nat.le_refl _⟩, ⟨by repeat (first | (with_reducible first | exact HB.out | apply below_alloc | apply pw_below_drewN | apply below_drew1) | exact HB.out)⟩⟩
      · replace c9 := Bool.eq_false_iff.mpr c9
        subst c9
        have H1 : (masterdisclaw16_DatetimeOrder.j0 k a0 a1 a2 true) = some r := by rw [if_neg (show ¬ (false = true) by decide)] at H; exact H
        clear H
        have H := H1
        clear H1
        have H' := Aside0.mk H
        clear H
        go_wp2_with (first | ((with_reducible refine gate_callee (f := 16) rfl ?_); refine goesL_ (some 19) rfl rfl Tryd.func16 (by kernel_rfl) rfl #[.int .i64 a0] rfl (by (try simp only [List.map_toArray, List.map_cons, List.map_nil]); first | done | rfl | (simp only [List.length_drop, List.length_take]; rfl)) ?_; (with_reducible refine (masterdiscref16_Time.calls a0 false _ A8.out).mono ?_); rintro e w' ⟨rfl, ⟨nd, rfl⟩⟩; refine ⟨_, rfl, ?_⟩))
        go_meet
        case rel => exact ⟨_, (true), (by first | rfl | (simp; done) | (simp [*]; done)), H', ⟨by first | omega | exact Nat.le_refl _⟩, ⟨by repeat (first | (with_reducible first | exact HB.out | apply below_alloc | apply pw_below_drewN | apply below_drew1) | exact HB.out)⟩⟩
    case rest =>
      clear HC6
      try clear c1
      try clear p2
      try clear c4
      try clear c5
      try clear c9
      try clear c11
      obtain ⟨kq, x30_5, rfl, HA, HJ5, HB⟩ := hcut
      cases kq with
      | zero => exact absurd HA.out (by simp [masterdisclaw16_DatetimeOrder.j0])
      | succ kj5 =>
        have H := HA.out
        clear HA
        simp only [masterdisclaw16_DatetimeOrder.j0] at H
        by_cases c13 : x30_5 = true
        · subst c13
          have H1 : (some true) = some r := by rw [if_pos rfl] at H; exact H
          clear H
          have H := H1
          clear H1
          obtain rfl := Option.some.inj H
          go_wp2
          go_ret
          exact ⟨by first | rfl | (simp [errW_none, errW_some] <;> rfl) | (simp [*, errW_none, errW_some] <;> rfl), by repeat (first | (with_reducible first | exact HB.out | apply below_alloc | apply pw_below_drewN | apply below_drew1) | exact HB.out)⟩
        · replace c13 := Bool.eq_false_iff.mpr c13
          subst c13
          have H1 : ((datetime_Split.f kj5 a0 a2).bind fun bt237 => ((datetime_Split.f kj5 a1 a2).bind fun bt245 => (if bt237.2.2.2.2.2.2 = 0 then (masterdisclaw16_DatetimeOrder.j1 kj5 a0 a1 a2 (bt245.2.2.2.2.2.2 != 0) bt237.1 bt237.2.1 bt237.2.2.1 bt237.2.2.2.1 bt237.2.2.2.2.1 bt237.2.2.2.2.2.1 bt245.1 bt245.2.1 bt245.2.2.1 bt245.2.2.2.1 bt245.2.2.2.2.1 bt245.2.2.2.2.2.1) else (masterdisclaw16_DatetimeOrder.j1 kj5 a0 a1 a2 true bt237.1 bt237.2.1 bt237.2.2.1 bt237.2.2.2.1 bt237.2.2.2.2.1 bt237.2.2.2.2.2.1 bt245.1 bt245.2.1 bt245.2.2.1 bt245.2.2.2.1 bt245.2.2.2.2.1 bt245.2.2.2.2.2.1)))) = some r := by rw [if_neg (show ¬ (false = true) by decide)] at H; exact H
          clear H
          have H := H1
          clear H1
          replace H := Option.bind_eq_some_iff.mp H
          obtain ⟨⟨t237, t238, t239, t240, t241, t242, t243⟩, A140, H⟩ := H
          replace H : ((datetime_Split.f kj5 a1 a2).bind fun bt245 => (if t243 = 0 then (masterdisclaw16_DatetimeOrder.j1 kj5 a0 a1 a2 (bt245.2.2.2.2.2.2 != 0) t237 t238 t239 t240 t241 t242 bt245.1 bt245.2.1 bt245.2.2.1 bt245.2.2.2.1 bt245.2.2.2.2.1 bt245.2.2.2.2.2.1) else (masterdisclaw16_DatetimeOrder.j1 kj5 a0 a1 a2 true t237 t238 t239 t240 t241 t242 bt245.1 bt245.2.1 bt245.2.2.1 bt245.2.2.2.1 bt245.2.2.2.2.1 bt245.2.2.2.2.2.1))) = some r := H
          have A14 := Aside0.mk A140
          clear A140
          replace H := Option.bind_eq_some_iff.mp H
          obtain ⟨⟨t245, t246, t247, t248, t249, t250, t251⟩, A150, H⟩ := H
          replace H : (if t243 = 0 then (masterdisclaw16_DatetimeOrder.j1 kj5 a0 a1 a2 (t251 != 0) t237 t238 t239 t240 t241 t242 t245 t246 t247 t248 t249 t250) else (masterdisclaw16_DatetimeOrder.j1 kj5 a0 a1 a2 true t237 t238 t239 t240 t241 t242 t245 t246 t247 t248 t249 t250)) = some r := H
          have A15 := Aside0.mk A150
          clear A150
          have HC16 := Aside0.mk H
          clear H
          go_upto_region 7 with (first | ((with_reducible refine gate_callee (f := 12) rfl ?_); refine goesL_ (some 34) rfl rfl Tryd.func12 (by kernel_rfl) rfl #[.int .i64 a0, .int .i64 a2] rfl (by (try simp only [List.map_toArray, List.map_cons, List.map_nil]); first | done | rfl | (simp only [List.length_drop, List.length_take]; rfl)) ?_; (with_reducible refine (datetime_Split.calls kj5 a0 a2 t237 t238 t239 t240 t241 t242 t243 _ A14.out).mono ?_); rintro e w17 ⟨rfl, hb⟩; refine ⟨_, rfl, ?_⟩; have n0_ := Aside0.mk (below_step (by repeat (first | (with_reducible first | exact HB.out | apply below_alloc | apply pw_below_drewN | apply below_drew1) | exact HB.out)) hb); clear HB; have HB := n0_; clear n0_; (try clear hb); (try clear hb2); (try clear hk); (try clear hi)) | ((with_reducible refine gate_dst (N := 7) rfl ?_); refine box_event ?hg (N := 7) ?hd (cs := #[.int .i64 0, .int .i64 0, .int .i64 0, .int .i64 0, .int .i64 0, .int .i64 0]) (t := 23) ?hr ?_; (case hd => rfl); (case hg => rfl); (case hr => first | (go_simp; done) | (go_simp; rfl)); intro gb244 hg w18 hbox hb; have n0_ := Aside0.mk (below_step (by repeat (first | (with_reducible first | exact HB.out | apply below_alloc | apply pw_below_drewN | apply below_drew1) | exact HB.out)) hb); have n1_ := Aside0.mk (hbox); have n2_ := Aside0.mk ((by rw [hg]; exact (below_size (by repeat (first | (with_reducible first | exact HB.out | apply below_alloc | apply pw_below_drewN | apply below_drew1) | exact HB.out))) : w.heap.size ≤ gb244)); have n3_ := Aside0.mk ((by rw [hg]; exact (below_size (by repeat (first | (with_reducible first | exact HB.out | apply below_alloc | apply pw_below_drewN | apply below_drew1) | exact HB.out))) : w.heap.size ≤ gb244)); clear HB; have HB := n0_; have BK244 := n1_; have GW244 := n2_; have GE244 := n3_; clear n0_ n1_ n2_ n3_; clear hb hbox hg; have hcz19_0 : w18.cell? ⟨gb244, 0, none⟩ = some (.int .i64 0) := (blk_cell BK244.out 0).trans rfl; have hcz19_1 : w18.cell? ⟨gb244, 1, none⟩ = some (.int .i64 0) := (blk_cell BK244.out 1).trans rfl; have hcz19_2 : w18.cell? ⟨gb244, 2, none⟩ = some (.int .i64 0) := (blk_cell BK244.out 2).trans rfl; have hcz19_3 : w18.cell? ⟨gb244, 3, none⟩ = some (.int .i64 0) := (blk_cell BK244.out 3).trans rfl; have hcz19_4 : w18.cell? ⟨gb244, 4, none⟩ = some (.int .i64 0) := (blk_cell BK244.out 4).trans rfl; have hcz19_5 : w18.cell? ⟨gb244, 5, none⟩ = some (.int .i64 0) := (blk_cell BK244.out 5).trans rfl; have hfz19_0 := blk_frozen BK244.out 0; have hfz19_1 := blk_frozen BK244.out 1; have hfz19_2 := blk_frozen BK244.out 2; have hfz19_3 := blk_frozen BK244.out 3; have hfz19_4 := blk_frozen BK244.out 4; have hfz19_5 := blk_frozen BK244.out 5) | ((with_reducible refine gate_callee (f := 12) rfl ?_); refine goesL_ (some 40) rfl rfl Tryd.func12 (by kernel_rfl) rfl #[.int .i64 a1, .int .i64 a2] rfl (by (try simp only [List.map_toArray, List.map_cons, List.map_nil]); first | done | rfl | (simp only [List.length_drop, List.length_take]; rfl)) ?_; (with_reducible refine (datetime_Split.calls kj5 a1 a2 t245 t246 t247 t248 t249 t250 t251 _ A15.out).mono ?_); rintro e w20 ⟨rfl, hb⟩; refine ⟨_, rfl, ?_⟩; have n0_ := Aside0.mk (blk_below (g := gb244) (o := .cells #[.int .i64 t237, .int .i64 t238, .int .i64 t239, .int .i64 t240, .int .i64 t241, .int .i64 t242] 23 (0, 0)) (by (with_reducible repeat (first | refine blk_drewN ?_ _ | refine blk_drew ?_ | refine blk_alloc ?_ _)); refine blk_put (cs := #[.int .i64 t237, .int .i64 t238, .int .i64 t239, .int .i64 t240, .int .i64 t241, .int .i64 0]) ?_ 5 _ rfl; (with_reducible repeat (first | refine blk_drewN ?_ _ | refine blk_drew ?_ | refine blk_alloc ?_ _)); refine blk_put (cs := #[.int .i64 t237, .int .i64 t238, .int .i64 t239, .int .i64 t240, .int .i64 0, .int .i64 0]) ?_ 4 _ rfl; (with_reducible repeat (first | refine blk_drewN ?_ _ | refine blk_drew ?_ | refine blk_alloc ?_ _)); refine blk_put (cs := #[.int .i64 t237, .int .i64 t238, .int .i64 t239, .int .i64 0, .int .i64 0, .int .i64 0]) ?_ 3 _ rfl; (with_reducible repeat (first | refine blk_drewN ?_ _ | refine blk_drew ?_ | refine blk_alloc ?_ _)); refine blk_put (cs := #[.int .i64 t237, .int .i64 t238, .int .i64 0, .int .i64 0, .int .i64 0, .int .i64 0]) ?_ 2 _ rfl; (with_reducible repeat (first | refine blk_drewN ?_ _ | refine blk_drew ?_ | refine blk_alloc ?_ _)); refine blk_put (cs := #[.int .i64 t237, .int .i64 0, .int .i64 0, .int .i64 0, .int .i64 0, .int .i64 0]) ?_ 1 _ rfl; (with_reducible repeat (first | refine blk_drewN ?_ _ | refine blk_drew ?_ | refine blk_alloc ?_ _)); refine blk_put (cs := #[.int .i64 0, .int .i64 0, .int .i64 0, .int .i64 0, .int .i64 0, .int .i64 0]) ?_ 0 _ rfl; (with_reducible repeat (first | refine blk_drewN ?_ _ | refine blk_drew ?_ | refine blk_alloc ?_ _)); exact BK244.out) hb); have n1_ := Aside0.mk (below_step (by repeat (first | (with_reducible first | exact HB.out | apply below_alloc | apply pw_below_drewN | apply below_drew1 | refine below_set ?_ GE244.out) | exact HB.out)) hb); clear BK244; clear HB; have BK244 := n0_; have HB := n1_; clear n0_ n1_; (try clear hb); (try clear hb2); (try clear hk); (try clear hi)) | ((with_reducible refine gate_dst (N := 9) rfl ?_); refine box_event ?hg (N := 9) ?hd (cs := #[.int .i64 0, .int .i64 0, .int .i64 0, .int .i64 0, .int .i64 0, .int .i64 0]) (t := 23) ?hr ?_; (case hd => rfl); (case hg => rfl); (case hr => first | (go_simp; done) | (go_simp; rfl)); intro gb252 hg w21 hbox hb; have n0_ := Aside0.mk (blk_below (g := gb244) (o := .cells #[.int .i64 t237, .int .i64 t238, .int .i64 t239, .int .i64 t240, .int .i64 t241, .int .i64 t242] 23 (0, 0)) (by (with_reducible repeat (first | refine blk_drewN ?_ _ | refine blk_drew ?_ | refine blk_alloc ?_ _)); exact BK244.out) hb); have n1_ := Aside0.mk (below_step (by repeat (first | (with_reducible first | exact HB.out | apply below_alloc | apply pw_below_drewN | apply below_drew1 | refine below_set ?_ GE244.out) | exact HB.out)) hb); have n2_ := Aside0.mk (hbox); have n3_ := Aside0.mk ((by rw [hg]; exact (below_size (by repeat (first | (with_reducible first | exact HB.out | apply below_alloc | apply pw_below_drewN | apply below_drew1 | refine below_set ?_ GE244.out) | exact HB.out))) : w.heap.size ≤ gb252)); have n4_ := Aside0.mk ((by rw [hg]; exact (below_size (by repeat (first | (with_reducible first | exact HB.out | apply below_alloc | apply pw_below_drewN | apply below_drew1 | refine below_set ?_ GE244.out) | exact HB.out))) : w.heap.size ≤ gb252)); have n5_ := Aside0.mk ((by rw [hg]; exact Nat.ne_of_lt (blk_lt (g := gb244) (o := .cells #[.int .i64 t237, .int .i64 t238, .int .i64 t239, .int .i64 t240, .int .i64 t241, .int .i64 t242] 23 (0, 0)) (by (with_reducible repeat (first | refine blk_drewN ?_ _ | refine blk_drew ?_ | refine blk_alloc ?_ _)); exact BK244.out)) : gb244 ≠ gb252)); have n6_ := Aside0.mk ((by rw [hg]; exact Nat.ne_of_gt (blk_lt (g := gb244) (o := .cells #[.int .i64 t237, .int .i64 t238, .int .i64 t239, .int .i64 t240, .int .i64 t241, .int .i64 t242] 23 (0, 0)) (by (with_reducible repeat (first | refine blk_drewN ?_ _ | refine blk_drew ?_ | refine blk_alloc ?_ _)); exact BK244.out)) : gb252 ≠ gb244)); clear BK244; clear HB; have BK244 := n0_; have HB := n1_; have BK252 := n2_; have GW252 := n3_; have GE252 := n4_; have NB244_252 := n5_; have NB252_244 := n6_; clear n0_ n1_ n2_ n3_ n4_ n5_ n6_; clear hb hbox hg; have hnb22 := NB252_244.out; have hnc22 := NB244_252.out; have hcz23_0 : w21.cell? ⟨gb252, 0, none⟩ = some (.int .i64 0) := (blk_cell BK252.out 0).trans rfl; have hcz23_1 : w21.cell? ⟨gb252, 1, none⟩ = some (.int .i64 0) := (blk_cell BK252.out 1).trans rfl; have hcz23_2 : w21.cell? ⟨gb252, 2, none⟩ = some (.int .i64 0) := (blk_cell BK252.out 2).trans rfl; have hcz23_3 : w21.cell? ⟨gb252, 3, none⟩ = some (.int .i64 0) := (blk_cell BK252.out 3).trans rfl; have hcz23_4 : w21.cell? ⟨gb252, 4, none⟩ = some (.int .i64 0) := (blk_cell BK252.out 4).trans rfl; have hcz23_5 : w21.cell? ⟨gb252, 5, none⟩ = some (.int .i64 0) := (blk_cell BK252.out 5).trans rfl; have hfz23_0 := blk_frozen BK252.out 0; have hfz23_1 := blk_frozen BK252.out 1; have hfz23_2 := blk_frozen BK252.out 2; have hfz23_3 := blk_frozen BK252.out 3; have hfz23_4 := blk_frozen BK252.out 4; have hfz23_5 := blk_frozen BK252.out 5))
          (try simp only [Act.put, List.setIfInBounds_toArray, List.set_cons_zero, List.set_cons_succ])
          go_cut [48] (fun v48 wc => ∃ (kq : Nat) (x48_15 : Bool), v48 = .bool x48_15 ∧ Aside0 (masterdisclaw16_DatetimeOrder.j1 kq a0 a1 a2 x48_15 t237 t238 t239 t240 t241 t242 t245 t246 t247 t248 t249 t250 = some r) ∧ Aside0 (kq ≤ kj5) ∧ Aside0 (wc.heap[gb244]? = some (.cells #[.int .i64 t237, .int .i64 t238, .int .i64 t239, .int .i64 t240, .int .i64 t241, .int .i64 t242] 23 (0, 0))) ∧ Aside0 (wc.heap[gb252]? = some (.cells #[.int .i64 t245, .int .i64 t246, .int .i64 t247, .int .i64 t248, .int .i64 t249, .int .i64 t250] 23 (0, 0))) ∧ Aside0 (Below w.heap.size w wc))
          case first =>
            have H := HC16.out
            clear HC16
            by_cases c24 : t243 = 0
            · rw [if_pos c24] at H
              have c24b0 : (t243 == 0) = true := beq_iff_eq.mpr c24
              have c24b1 : (t243 != 0) = false := bne_eq_false_iff_eq.mpr c24
              clear c24
              (first | rw [c24b0] | (simp only [i64_w, i32_w]; rw [c24b0]) | skip)
              have H' := Aside0.mk H
              clear H
              go_wp2
              go_meet
              case rel => exact ⟨_, ((t251 != 0)), (by first | rfl | (simp; done) | (simp [*]; done)), H', ⟨by have := HJ5.out; first | omega | exact Nat.le_refl _⟩, ⟨by (with_reducible repeat (first | refine blk_drewN ?_ _ | refine blk_drew ?_ | refine blk_alloc ?_ _)); refine blk_far ?_ NB244_252.out _; (with_reducible repeat (first | refine blk_drewN ?_ _ | refine blk_drew ?_ | refine blk_alloc ?_ _)); refine blk_far ?_ NB244_252.out _; (with_reducible repeat (first | refine blk_drewN ?_ _ | refine blk_drew ?_ | refine blk_alloc ?_ _)); refine blk_far ?_ NB244_252.out _; (with_reducible repeat (first | refine blk_drewN ?_ _ | refine blk_drew ?_ | refine blk_alloc ?_ _)); refine blk_far ?_ NB244_252.out _; (with_reducible repeat (first | refine blk_drewN ?_ _ | refine blk_drew ?_ | refine blk_alloc ?_ _)); refine blk_far ?_ NB244_252.out _; (with_reducible repeat (first | refine blk_drewN ?_ _ | refine blk_drew ?_ | refine blk_alloc ?_ _)); refine blk_far ?_ NB244_252.out _; (with_reducible repeat (first | refine blk_drewN ?_ _ | refine blk_drew ?_ | refine blk_alloc ?_ _)); exact BK244.out⟩, ⟨by (with_reducible repeat (first | refine blk_drewN ?_ _ | refine blk_drew ?_ | refine blk_alloc ?_ _)); refine blk_put (cs := #[.int .i64 t245, .int .i64 t246, .int .i64 t247, .int .i64 t248, .int .i64 t249, .int .i64 0]) ?_ 5 _ rfl; (with_reducible repeat (first | refine blk_drewN ?_ _ | refine blk_drew ?_ | refine blk_alloc ?_ _)); refine blk_put (cs := #[.int .i64 t245, .int .i64 t246, .int .i64 t247, .int .i64 t248, .int .i64 0, .int .i64 0]) ?_ 4 _ rfl; (with_reducible repeat (first | refine blk_drewN ?_ _ | refine blk_drew ?_ | refine blk_alloc ?_ _)); refine blk_put (cs := #[.int .i64 t245, .int .i64 t246, .int .i64 t247, .int .i64 0, .int .i64 0, .int .i64 0]) ?_ 3 _ rfl; (with_reducible repeat (first | refine blk_drewN ?_ _ | refine blk_drew ?_ | refine blk_alloc ?_ _)); refine blk_put (cs := #[.int .i64 t245, .int .i64 t246, .int .i64 0, .int .i64 0, .int .i64 0, .int .i64 0]) ?_ 2 _ rfl; (with_reducible repeat (first | refine blk_drewN ?_ _ | refine blk_drew ?_ | refine blk_alloc ?_ _)); refine blk_put (cs := #[.int .i64 t245, .int .i64 0, .int .i64 0, .int .i64 0, .int .i64 0, .int .i64 0]) ?_ 1 _ rfl; (with_reducible repeat (first | refine blk_drewN ?_ _ | refine blk_drew ?_ | refine blk_alloc ?_ _)); refine blk_put (cs := #[.int .i64 0, .int .i64 0, .int .i64 0, .int .i64 0, .int .i64 0, .int .i64 0]) ?_ 0 _ rfl; (with_reducible repeat (first | refine blk_drewN ?_ _ | refine blk_drew ?_ | refine blk_alloc ?_ _)); exact BK252.out⟩, ⟨by repeat (first | (with_reducible first | exact HB.out | apply below_alloc | apply pw_below_drewN | apply below_drew1 | refine below_set ?_ GE244.out | refine below_set ?_ GE252.out) | exact HB.out)⟩⟩
            · rw [if_neg c24] at H
              have c24b0 : (t243 == 0) = false := beq_eq_false_iff_ne.mpr c24
              have c24b1 : (t243 != 0) = true := bne_iff_ne.mpr c24
              (first | rw [c24b0] | (simp only [i64_w, i32_w]; rw [c24b0]) | skip)
              have H' := Aside0.mk H
              clear H
              go_wp2
              go_meet
              case rel => exact ⟨_, (true), (by first | rfl | (simp; done) | (simp [*]; done)), H', ⟨by have := HJ5.out; first | omega | exact Nat.le_refl _⟩, ⟨by (with_reducible repeat (first | refine blk_drewN ?_ _ | refine blk_drew ?_ | refine blk_alloc ?_ _)); refine blk_far ?_ NB244_252.out _; (with_reducible repeat (first | refine blk_drewN ?_ _ | refine blk_drew ?_ | refine blk_alloc ?_ _)); refine blk_far ?_ NB244_252.out _; (with_reducible repeat (first | refine blk_drewN ?_ _ | refine blk_drew ?_ | refine blk_alloc ?_ _)); refine blk_far ?_ NB244_252.out _; (with_reducible repeat (first | refine blk_drewN ?_ _ | refine blk_drew ?_ | refine blk_alloc ?_ _)); refine blk_far ?_ NB244_252.out _; (with_reducible repeat (first | refine blk_drewN ?_ _ | refine blk_drew ?_ | refine blk_alloc ?_ _)); refine blk_far ?_ NB244_252.out _; (with_reducible repeat (first | refine blk_drewN ?_ _ | refine blk_drew ?_ | refine blk_alloc ?_ _)); refine blk_far ?_ NB244_252.out _; (with_reducible repeat (first | refine blk_drewN ?_ _ | refine blk_drew ?_ | refine blk_alloc ?_ _)); exact BK244.out⟩, ⟨by (with_reducible repeat (first | refine blk_drewN ?_ _ | refine blk_drew ?_ | refine blk_alloc ?_ _)); refine blk_put (cs := #[.int .i64 t245, .int .i64 t246, .int .i64 t247, .int .i64 t248, .int .i64 t249, .int .i64 0]) ?_ 5 _ rfl; (with_reducible repeat (first | refine blk_drewN ?_ _ | refine blk_drew ?_ | refine blk_alloc ?_ _)); refine blk_put (cs := #[.int .i64 t245, .int .i64 t246, .int .i64 t247, .int .i64 t248, .int .i64 0, .int .i64 0]) ?_ 4 _ rfl; (with_reducible repeat (first | refine blk_drewN ?_ _ | refine blk_drew ?_ | refine blk_alloc ?_ _)); refine blk_put (cs := #[.int .i64 t245, .int .i64 t246, .int .i64 t247, .int .i64 0, .int .i64 0, .int .i64 0]) ?_ 3 _ rfl; (with_reducible repeat (first | refine blk_drewN ?_ _ | refine blk_drew ?_ | refine blk_alloc ?_ _)); refine blk_put (cs := #[.int .i64 t245, .int .i64 t246, .int .i64 0, .int .i64 0, .int .i64 0, .int .i64 0]) ?_ 2 _ rfl; (with_reducible repeat (first | refine blk_drewN ?_ _ | refine blk_drew ?_ | refine blk_alloc ?_ _)); refine blk_put (cs := #[.int .i64 t245, .int .i64 0, .int .i64 0, .int .i64 0, .int .i64 0, .int .i64 0]) ?_ 1 _ rfl; (with_reducible repeat (first | refine blk_drewN ?_ _ | refine blk_drew ?_ | refine blk_alloc ?_ _)); refine blk_put (cs := #[.int .i64 0, .int .i64 0, .int .i64 0, .int .i64 0, .int .i64 0, .int .i64 0]) ?_ 0 _ rfl; (with_reducible repeat (first | refine blk_drewN ?_ _ | refine blk_drew ?_ | refine blk_alloc ?_ _)); exact BK252.out⟩, ⟨by repeat (first | (with_reducible first | exact HB.out | apply below_alloc | apply pw_below_drewN | apply below_drew1 | refine below_set ?_ GE244.out | refine below_set ?_ GE252.out) | exact HB.out)⟩⟩
          case rest =>
            clear HC16
            try clear c1
            try clear c2
            try clear p2
            try clear c4
            try clear c5
            try clear c9
            try clear c11
            try clear c12
            try clear c13
            try clear c16
            try clear c22
            try clear c24
            try clear c24b0
            try clear c24b1
            try clear hcz19_0
            try clear hcz19_1
            try clear hcz19_2
            try clear hcz19_3
            try clear hcz19_4
            try clear hcz19_5
            try clear hcz23_0
            try clear hcz23_1
            try clear hcz23_2
            try clear hcz23_3
            try clear hcz23_4
            try clear hcz23_5
            try clear hfz19_0
            try clear hfz19_1
            try clear hfz19_2
            try clear hfz19_3
            try clear hfz19_4
            try clear hfz19_5
            try clear hfz23_0
            try clear hfz23_1
            try clear hfz23_2
            try clear hfz23_3
            try clear hfz23_4
            try clear hfz23_5
            try clear p2
            obtain ⟨kq, x48_15, rfl, HA, HJ15, BK244, BK252, HB⟩ := hcut
            cases kq with
            | zero => exact absurd HA.out (by simp [masterdisclaw16_DatetimeOrder.j1])
            | succ kj15 =>
              have H := HA.out
              clear HA
              simp only [masterdisclaw16_DatetimeOrder.j1] at H
              by_cases c25 : x48_15 = true
              · subst c25
                have H1 : (some false) = some r := by rw [if_pos rfl] at H; exact H
                clear H
                have H := H1
                clear H1
                obtain rfl := Option.some.inj H
                go_wp2
                go_ret
                exact ⟨by first | rfl | (simp [errW_none, errW_some] <;> rfl) | (simp [*, errW_none, errW_some] <;> rfl), by repeat (first | (with_reducible first | exact HB.out | apply below_alloc | apply pw_below_drewN | apply below_drew1 | refine below_set ?_ GE244.out | refine below_set ?_ GE252.out) | exact HB.out)⟩
              · replace c25 := Bool.eq_false_iff.mpr c25
                subst c25
                have H1 : ((masterdisclaw16_clocks.f kj15 t237 t238 t239 t240 t241 t242 t245 t246 t247 t248 t249 t250).bind fun t253 => (if ((decide (t253 < 0)) != (decide (a0 < a1))) = true then (masterdisclaw16_DatetimeOrder.j2 kj15 a0 a1 a2 true t237 t238 t239 t240 t241 t242 t245 t246 t247 t248 t249 t250) else (masterdisclaw16_DatetimeOrder.j2 kj15 a0 a1 a2 ((decide (t253 > 0)) != (decide (a0 > a1))) t237 t238 t239 t240 t241 t242 t245 t246 t247 t248 t249 t250))) = some r := by rw [if_neg (show ¬ (false = true) by decide)] at H; exact H
                clear H
                have H := H1
                clear H1
                replace H := Option.bind_eq_some_iff.mp H
                obtain ⟨t253, A260, H⟩ := H
                replace H : (if ((decide (t253 < 0)) != (decide (a0 < a1))) = true then (masterdisclaw16_DatetimeOrder.j2 kj15 a0 a1 a2 true t237 t238 t239 t240 t241 t242 t245 t246 t247 t248 t249 t250) else (masterdisclaw16_DatetimeOrder.j2 kj15 a0 a1 a2 ((decide (t253 > 0)) != (decide (a0 > a1))) t237 t238 t239 t240 t241 t242 t245 t246 t247 t248 t249 t250)) = some r := H
                have A26 := Aside0.mk A260
                clear A260
                have HC27 := Aside0.mk H
                clear H
                have hnb28 := NB244_252.out
                have hnc28 := NB252_244.out
                have hcz29_0 : wc.cell? ⟨gb244, 0, none⟩ = some (.int .i64 t237) := (blk_cell BK244.out 0).trans rfl
                have hcz29_1 : wc.cell? ⟨gb244, 1, none⟩ = some (.int .i64 t238) := (blk_cell BK244.out 1).trans rfl
                have hcz29_2 : wc.cell? ⟨gb244, 2, none⟩ = some (.int .i64 t239) := (blk_cell BK244.out 2).trans rfl
                have hcz29_3 : wc.cell? ⟨gb244, 3, none⟩ = some (.int .i64 t240) := (blk_cell BK244.out 3).trans rfl
                have hcz29_4 : wc.cell? ⟨gb244, 4, none⟩ = some (.int .i64 t241) := (blk_cell BK244.out 4).trans rfl
                have hcz29_5 : wc.cell? ⟨gb244, 5, none⟩ = some (.int .i64 t242) := (blk_cell BK244.out 5).trans rfl
                have hfz29_0 := blk_frozen BK244.out 0
                have hfz29_1 := blk_frozen BK244.out 1
                have hfz29_2 := blk_frozen BK244.out 2
                have hfz29_3 := blk_frozen BK244.out 3
                have hfz29_4 := blk_frozen BK244.out 4
                have hfz29_5 := blk_frozen BK244.out 5
                have hcz30_0 : wc.cell? ⟨gb252, 0, none⟩ = some (.int .i64 t245) := (blk_cell BK252.out 0).trans rfl
                have hcz30_1 : wc.cell? ⟨gb252, 1, none⟩ = some (.int .i64 t246) := (blk_cell BK252.out 1).trans rfl
                have hcz30_2 : wc.cell? ⟨gb252, 2, none⟩ = some (.int .i64 t247) := (blk_cell BK252.out 2).trans rfl
                have hcz30_3 : wc.cell? ⟨gb252, 3, none⟩ = some (.int .i64 t248) := (blk_cell BK252.out 3).trans rfl
                have hcz30_4 : wc.cell? ⟨gb252, 4, none⟩ = some (.int .i64 t249) := (blk_cell BK252.out 4).trans rfl
                have hcz30_5 : wc.cell? ⟨gb252, 5, none⟩ = some (.int .i64 t250) := (blk_cell BK252.out 5).trans rfl
                have hfz30_0 := blk_frozen BK252.out 0
                have hfz30_1 := blk_frozen BK252.out 1
                have hfz30_2 := blk_frozen BK252.out 2
                have hfz30_3 := blk_frozen BK252.out 3
                have hfz30_4 := blk_frozen BK252.out 4
                have hfz30_5 := blk_frozen BK252.out 5
                go_upto_region 10 with (first | ((with_reducible refine gate_callee (f := 18) rfl ?_); refine goesL_ (some 51) rfl rfl Tryd.func18 (by kernel_rfl) rfl #[.agg #[.int .i64 t237, .int .i64 t238, .int .i64 t239, .int .i64 t240, .int .i64 t241, .int .i64 t242], .agg #[.int .i64 t245, .int .i64 t246, .int .i64 t247, .int .i64 t248, .int .i64 t249, .int .i64 t250]] rfl (by (try simp only [List.map_toArray, List.map_cons, List.map_nil]); first | done | rfl | (simp only [List.length_drop, List.length_take]; rfl)) ?_; (with_reducible refine (masterdisclaw16_clocks.calls kj15 t237 t238 t239 t240 t241 t242 t245 t246 t247 t248 t249 t250 t253 _ A26.out).mono ?_); rintro e w31 ⟨rfl, hb⟩; refine ⟨_, rfl, ?_⟩; have n0_ := Aside0.mk (blk_below (g := gb244) (o := .cells #[.int .i64 t237, .int .i64 t238, .int .i64 t239, .int .i64 t240, .int .i64 t241, .int .i64 t242] 23 (0, 0)) (by (with_reducible repeat (first | refine blk_drewN ?_ _ | refine blk_drew ?_ | refine blk_alloc ?_ _)); exact BK244.out) hb); have n1_ := Aside0.mk (blk_below (g := gb252) (o := .cells #[.int .i64 t245, .int .i64 t246, .int .i64 t247, .int .i64 t248, .int .i64 t249, .int .i64 t250] 23 (0, 0)) (by (with_reducible repeat (first | refine blk_drewN ?_ _ | refine blk_drew ?_ | refine blk_alloc ?_ _)); exact BK252.out) hb); have n2_ := Aside0.mk (below_step (by repeat (first | (with_reducible first | exact HB.out | apply below_alloc | apply pw_below_drewN | apply below_drew1 | refine below_set ?_ GE244.out | refine below_set ?_ GE252.out) | exact HB.out)) hb); clear BK244; clear BK252; clear HB; have BK244 := n0_; have BK252 := n1_; have HB := n2_; clear n0_ n1_ n2_; (try clear hb); (try clear hb2); (try clear hk); (try clear hi)))
                (try simp only [Act.put, List.setIfInBounds_toArray, List.set_cons_zero, List.set_cons_succ])
                go_cut [65] (fun v65 wc => ∃ (kq : Nat) (x65_26 : Bool), v65 = .bool x65_26 ∧ Aside0 (masterdisclaw16_DatetimeOrder.j2 kq a0 a1 a2 x65_26 t237 t238 t239 t240 t241 t242 t245 t246 t247 t248 t249 t250 = some r) ∧ Aside0 (kq ≤ kj15) ∧ Aside0 (wc.heap[gb244]? = some (.cells #[.int .i64 t237, .int .i64 t238, .int .i64 t239, .int .i64 t240, .int .i64 t241, .int .i64 t242] 23 (0, 0))) ∧ Aside0 (wc.heap[gb252]? = some (.cells #[.int .i64 t245, .int .i64 t246, .int .i64 t247, .int .i64 t248, .int .i64 t249, .int .i64 t250] 23 (0, 0))) ∧ Aside0 (Below w.heap.size w wc))
                case first =>
                  have H := HC27.out
                  clear HC27
                  by_cases c32 : ((decide (t253 < 0)) != (decide (a0 < a1))) = true
                  · rw [if_pos c32] at H
                    have c32b0 : ((decide (t253 < 0)) != (decide (a0 < a1))) = true := c32
                    (try (have c32b1 : decide ((decide (t253 < 0)) = (decide (a0 < a1))) = false := by simpa using c32))
                    (try (have c32b2 : ((decide (t253 < 0)) == (decide (a0 < a1))) = false := by simpa using c32))
                    (try (have c32b3 : ¬ ((decide (t253 < 0)) = (decide (a0 < a1))) := by simpa using c32))
                    clear c32
                    (first | rw [c32b0] | (simp only [i64_w, i32_w]; rw [c32b0]) | skip)
                    have H' := Aside0.mk H
                    clear H
                    go_wp2
                    go_meet
                    case rel => exact ⟨_, (true), (by first | rfl | (simp; done) | (simp [*]; done)), H', ⟨by have := HJ5.out; have := HJ15.out; first | omega | exact Nat.le_refl _⟩, ⟨by (with_reducible repeat (first | refine blk_drewN ?_ _ | refine blk_drew ?_ | refine blk_alloc ?_ _)); exact BK244.out⟩, ⟨by (with_reducible repeat (first | refine blk_drewN ?_ _ | refine blk_drew ?_ | refine blk_alloc ?_ _)); exact BK252.out⟩, ⟨by repeat (first | (with_reducible first | exact HB.out | apply below_alloc | apply pw_below_drewN | apply below_drew1 | refine below_set ?_ GE244.out | refine below_set ?_ GE252.out) | exact HB.out)⟩⟩
                  · rw [if_neg c32] at H
                    have c32b0 : ((decide (t253 < 0)) != (decide (a0 < a1))) = false := by simpa using c32
                    (try (have c32b1 : decide ((decide (t253 < 0)) = (decide (a0 < a1))) = true := by simpa using c32))
                    (try (have c32b2 : ((decide (t253 < 0)) == (decide (a0 < a1))) = true := by simpa using c32))
                    clear c32
                    (first | rw [c32b0] | (simp only [i64_w, i32_w]; rw [c32b0]) | skip)
                    have H' := Aside0.mk H
                    clear H
                    go_wp2
                    go_meet
                    case rel => exact ⟨_, (((decide (t253 > 0)) != (decide (a0 > a1)))), (by first | rfl | (simp; done) | (simp [*]; done)), H', ⟨by have := HJ5.out; have := HJ15.out; first | omega | exact Nat.le_refl _⟩, ⟨by (with_reducible repeat (first | refine blk_drewN ?_ _ | refine blk_drew ?_ | refine blk_alloc ?_ _)); exact BK244.out⟩, ⟨by (with_reducible repeat (first | refine blk_drewN ?_ _ | refine blk_drew ?_ | refine blk_alloc ?_ _)); exact BK252.out⟩, ⟨by repeat (first | (with_reducible first | exact HB.out | apply below_alloc | apply pw_below_drewN | apply below_drew1 | refine below_set ?_ GE244.out | refine below_set ?_ GE252.out) | exact HB.out)⟩⟩
                case rest =>
                  clear HC27
                  try clear c1
                  try clear c2
                  try clear p2
                  try clear c3
                  try clear c4
                  try clear c5
                  try clear c9
                  try clear c11
                  try clear c12
                  try clear c13
                  try clear c16
                  try clear c18
                  try clear c22
                  try clear c24
                  try clear c24b0
                  try clear c24b1
                  try clear c25
                  try clear c28
                  try clear c32
                  try clear c32b0
                  try clear c32b1
                  try clear c32b2
                  try clear hcz19_0
                  try clear hcz19_1
                  try clear hcz19_2
                  try clear hcz19_3
                  try clear hcz19_4
                  try clear hcz19_5
                  try clear hcz23_0
                  try clear hcz23_1
                  try clear hcz23_2
                  try clear hcz23_3
                  try clear hcz23_4
                  try clear hcz23_5
                  try clear hcz29_0
                  try clear hcz29_1
                  try clear hcz29_2
                  try clear hcz29_3
                  try clear hcz29_4
                  try clear hcz29_5
                  try clear hcz30_0
                  try clear hcz30_1
                  try clear hcz30_2
                  try clear hcz30_3
                  try clear hcz30_4
                  try clear hcz30_5
                  try clear hfz19_0
                  try clear hfz19_1
                  try clear hfz19_2
                  try clear hfz19_3
                  try clear hfz19_4
                  try clear hfz19_5
                  try clear hfz23_0
                  try clear hfz23_1
                  try clear hfz23_2
                  try clear hfz23_3
                  try clear hfz23_4
                  try clear hfz23_5
                  try clear hfz29_0
                  try clear hfz29_1
                  try clear hfz29_2
                  try clear hfz29_3
                  try clear hfz29_4
                  try clear hfz29_5
                  try clear hfz30_0
                  try clear hfz30_1
                  try clear hfz30_2
                  try clear hfz30_3
                  try clear hfz30_4
                  try clear hfz30_5
                  try clear p2
                  obtain ⟨kq, x65_26, rfl, HA, HJ26, BK244, BK252, HB⟩ := hcut
                  cases kq with
                  | zero => exact absurd HA.out (by simp [masterdisclaw16_DatetimeOrder.j2])
                  | succ kj26 =>
                    have H := HA.out
                    clear HA
                    simp only [masterdisclaw16_DatetimeOrder.j2] at H
                    by_cases c33 : x65_26 = true
                    · subst c33
                      have H1 : (some false) = some r := by rw [if_pos rfl] at H; exact H
                      clear H
                      have H := H1
                      clear H1
                      obtain rfl := Option.some.inj H
                      go_wp2
                      go_ret
                      exact ⟨by first | rfl | (simp [errW_none, errW_some] <;> rfl) | (simp [*, errW_none, errW_some] <;> rfl), by repeat (first | (with_reducible first | exact HB.out | apply below_alloc | apply pw_below_drewN | apply below_drew1 | refine below_set ?_ GE244.out | refine below_set ?_ GE252.out) | exact HB.out)⟩
                    · replace c33 := Bool.eq_false_iff.mpr c33
                      subst c33
                      have H1 : ((datetime_Join.f kj26 t237 t238 t239 t240 t241 t242 a2).bind fun bt254 => ((datetime_Join.f kj26 t245 t246 t247 t248 t249 t250 a2).bind fun bt256 => (if bt254.2 = 0 then (if bt256.2 = 0 then (if bt254.1 = a0 then (some (bt256.1 == a1)) else (some false)) else (some false)) else (some false)))) = some r := by rw [if_neg (show ¬ (false = true) by decide)] at H; exact H
                      clear H
                      have H := H1
                      clear H1
                      replace H := Option.bind_eq_some_iff.mp H
                      obtain ⟨⟨t254, t255⟩, A340, H⟩ := H
                      replace H : ((datetime_Join.f kj26 t245 t246 t247 t248 t249 t250 a2).bind fun bt256 => (if t255 = 0 then (if bt256.2 = 0 then (if t254 = a0 then (some (bt256.1 == a1)) else (some false)) else (some false)) else (some false))) = some r := H
                      have A34 := Aside0.mk A340
                      clear A340
                      replace H := Option.bind_eq_some_iff.mp H
                      obtain ⟨⟨t256, t257⟩, A350, H⟩ := H
                      replace H : (if t255 = 0 then (if t257 = 0 then (if t254 = a0 then (some (t256 == a1)) else (some false)) else (some false)) else (some false)) = some r := H
                      have A35 := Aside0.mk A350
                      clear A350
                      by_cases c36 : t255 = 0
                      · rw [if_pos c36] at H
                        have c36b0 : (t255 == 0) = true := beq_iff_eq.mpr c36
                        have c36b1 : (t255 != 0) = false := bne_eq_false_iff_eq.mpr c36
                        clear c36
                        by_cases c37 : t257 = 0
                        · rw [if_pos c37] at H
                          have c37b0 : (t257 == 0) = true := beq_iff_eq.mpr c37
                          have c37b1 : (t257 != 0) = false := bne_eq_false_iff_eq.mpr c37
                          clear c37
                          by_cases c38 : t254 = a0
                          · rw [if_pos c38] at H
                            have c38b0 : (t254 == a0) = true := beq_iff_eq.mpr c38
                            have c38b1 : (t254 != a0) = false := bne_eq_false_iff_eq.mpr c38
                            clear c38
                            obtain rfl := Option.some.inj H
                            have hnb39 := NB244_252.out
                            have hnc39 := NB252_244.out
                            have hcz40_0 : wc.cell? ⟨gb244, 0, none⟩ = some (.int .i64 t237) := (blk_cell BK244.out 0).trans rfl
                            have hcz40_1 : wc.cell? ⟨gb244, 1, none⟩ = some (.int .i64 t238) := (blk_cell BK244.out 1).trans rfl
                            have hcz40_2 : wc.cell? ⟨gb244, 2, none⟩ = some (.int .i64 t239) := (blk_cell BK244.out 2).trans rfl
                            have hcz40_3 : wc.cell? ⟨gb244, 3, none⟩ = some (.int .i64 t240) := (blk_cell BK244.out 3).trans rfl
                            have hcz40_4 : wc.cell? ⟨gb244, 4, none⟩ = some (.int .i64 t241) := (blk_cell BK244.out 4).trans rfl
                            have hcz40_5 : wc.cell? ⟨gb244, 5, none⟩ = some (.int .i64 t242) := (blk_cell BK244.out 5).trans rfl
                            have hfz40_0 := blk_frozen BK244.out 0
                            have hfz40_1 := blk_frozen BK244.out 1
                            have hfz40_2 := blk_frozen BK244.out 2
                            have hfz40_3 := blk_frozen BK244.out 3
                            have hfz40_4 := blk_frozen BK244.out 4
                            have hfz40_5 := blk_frozen BK244.out 5
                            go_wp2_with (first | ((with_reducible refine gate_callee (f := 14) rfl ?_); refine goesL_ (some 69) rfl rfl Tryd.func14 (by kernel_rfl) rfl #[.agg #[.int .i64 t237, .int .i64 t238, .int .i64 t239, .int .i64 t240, .int .i64 t241, .int .i64 t242], .int .i64 a2] rfl (by (try simp only [List.map_toArray, List.map_cons, List.map_nil]); first | done | rfl | (simp only [List.length_drop, List.length_take]; rfl)) ?_; (with_reducible refine (datetime_Join.calls kj26 t237 t238 t239 t240 t241 t242 a2 t254 t255 _ A34.out).mono ?_); rintro e w41 ⟨rfl, hb⟩; refine ⟨_, rfl, ?_⟩; have n0_ := Aside0.mk (blk_below (g := gb244) (o := .cells #[.int .i64 t237, .int .i64 t238, .int .i64 t239, .int .i64 t240, .int .i64 t241, .int .i64 t242] 23 (0, 0)) (by (with_reducible repeat (first | refine blk_drewN ?_ _ | refine blk_drew ?_ | refine blk_alloc ?_ _)); exact BK244.out) hb); have n1_ := Aside0.mk (blk_below (g := gb252) (o := .cells #[.int .i64 t245, .int .i64 t246, .int .i64 t247, .int .i64 t248, .int .i64 t249, .int .i64 t250] 23 (0, 0)) (by (with_reducible repeat (first | refine blk_drewN ?_ _ | refine blk_drew ?_ | refine blk_alloc ?_ _)); exact BK252.out) hb); have n2_ := Aside0.mk (below_step (by repeat (first | (with_reducible first | exact HB.out | apply below_alloc | apply pw_below_drewN | apply below_drew1 | refine below_set ?_ GE244.out | refine below_set ?_ GE252.out) | exact HB.out)) hb); clear BK244; clear BK252; clear HB; have BK244 := n0_; have BK252 := n1_; have HB := n2_; clear n0_ n1_ n2_; (try clear hb); (try clear hb2); (try clear hk); (try clear hi); have hcz42_0 : w41.cell? ⟨gb252, 0, none⟩ = some (.int .i64 t245) := (blk_cell BK252.out 0).trans rfl; have hcz42_1 : w41.cell? ⟨gb252, 1, none⟩ = some (.int .i64 t246) := (blk_cell BK252.out 1).trans rfl; have hcz42_2 : w41.cell? ⟨gb252, 2, none⟩ = some (.int .i64 t247) := (blk_cell BK252.out 2).trans rfl; have hcz42_3 : w41.cell? ⟨gb252, 3, none⟩ = some (.int .i64 t248) := (blk_cell BK252.out 3).trans rfl; have hcz42_4 : w41.cell? ⟨gb252, 4, none⟩ = some (.int .i64 t249) := (blk_cell BK252.out 4).trans rfl; have hcz42_5 : w41.cell? ⟨gb252, 5, none⟩ = some (.int .i64 t250) := (blk_cell BK252.out 5).trans rfl; have hfz42_0 := blk_frozen BK252.out 0; have hfz42_1 := blk_frozen BK252.out 1; have hfz42_2 := blk_frozen BK252.out 2; have hfz42_3 := blk_frozen BK252.out 3; have hfz42_4 := blk_frozen BK252.out 4; have hfz42_5 := blk_frozen BK252.out 5) | ((with_reducible refine gate_callee (f := 14) rfl ?_); refine goesL_ (some 75) rfl rfl Tryd.func14 (by kernel_rfl) rfl #[.agg #[.int .i64 t245, .int .i64 t246, .int .i64 t247, .int .i64 t248, .int .i64 t249, .int .i64 t250], .int .i64 a2] rfl (by (try simp only [List.map_toArray, List.map_cons, List.map_nil]); first | done | rfl | (simp only [List.length_drop, List.length_take]; rfl)) ?_; (with_reducible refine (datetime_Join.calls kj26 t245 t246 t247 t248 t249 t250 a2 t256 t257 _ A35.out).mono ?_); rintro e w43 ⟨rfl, hb⟩; refine ⟨_, rfl, ?_⟩; have n0_ := Aside0.mk (blk_below (g := gb244) (o := .cells #[.int .i64 t237, .int .i64 t238, .int .i64 t239, .int .i64 t240, .int .i64 t241, .int .i64 t242] 23 (0, 0)) (by (with_reducible repeat (first | refine blk_drewN ?_ _ | refine blk_drew ?_ | refine blk_alloc ?_ _)); exact BK244.out) hb); have n1_ := Aside0.mk (blk_below (g := gb252) (o := .cells #[.int .i64 t245, .int .i64 t246, .int .i64 t247, .int .i64 t248, .int .i64 t249, .int .i64 t250] 23 (0, 0)) (by (with_reducible repeat (first | refine blk_drewN ?_ _ | refine blk_drew ?_ | refine blk_alloc ?_ _)); exact BK252.out) hb); have n2_ := Aside0.mk (below_step (by repeat (first | (with_reducible first | exact HB.out | apply below_alloc | apply pw_below_drewN | apply below_drew1 | refine below_set ?_ GE244.out | refine below_set ?_ GE252.out) | exact HB.out)) hb); clear BK244; clear BK252; clear HB; have BK244 := n0_; have BK252 := n1_; have HB := n2_; clear n0_ n1_ n2_; (try clear hb); (try clear hb2); (try clear hk); (try clear hi)))
                            go_ret
                            exact ⟨by first | rfl | (simp [errW_none, errW_some] <;> rfl) | (simp [*, errW_none, errW_some] <;> rfl), by repeat (first | (with_reducible first | exact HB.out | apply below_alloc | apply pw_below_drewN | apply below_drew1 | refine below_set ?_ GE244.out | refine below_set ?_ GE252.out) | exact HB.out)⟩
                          · rw [if_neg c38] at H
                            have c38b0 : (t254 == a0) = false := beq_eq_false_iff_ne.mpr c38
                            have c38b1 : (t254 != a0) = true := bne_iff_ne.mpr c38
                            obtain rfl := Option.some.inj H
                            have hnb44 := NB244_252.out
                            have hnc44 := NB252_244.out
                            have hcz45_0 : wc.cell? ⟨gb244, 0, none⟩ = some (.int .i64 t237) := (blk_cell BK244.out 0).trans rfl
                            have hcz45_1 : wc.cell? ⟨gb244, 1, none⟩ = some (.int .i64 t238) := (blk_cell BK244.out 1).trans rfl
                            have hcz45_2 : wc.cell? ⟨gb244, 2, none⟩ = some (.int .i64 t239) := (blk_cell BK244.out 2).trans rfl
                            have hcz45_3 : wc.cell? ⟨gb244, 3, none⟩ = some (.int .i64 t240) := (blk_cell BK244.out 3).trans rfl
                            have hcz45_4 : wc.cell? ⟨gb244, 4, none⟩ = some (.int .i64 t241) := (blk_cell BK244.out 4).trans rfl
                            have hcz45_5 : wc.cell? ⟨gb244, 5, none⟩ = some (.int .i64 t242) := (blk_cell BK244.out 5).trans rfl
                            have hfz45_0 := blk_frozen BK244.out 0
                            have hfz45_1 := blk_frozen BK244.out 1
                            have hfz45_2 := blk_frozen BK244.out 2
                            have hfz45_3 := blk_frozen BK244.out 3
                            have hfz45_4 := blk_frozen BK244.out 4
                            have hfz45_5 := blk_frozen BK244.out 5
                            go_wp2_with (first | ((with_reducible refine gate_callee (f := 14) rfl ?_); refine goesL_ (some 69) rfl rfl Tryd.func14 (by kernel_rfl) rfl #[.agg #[.int .i64 t237, .int .i64 t238, .int .i64 t239, .int .i64 t240, .int .i64 t241, .int .i64 t242], .int .i64 a2] rfl (by (try simp only [List.map_toArray, List.map_cons, List.map_nil]); first | done | rfl | (simp only [List.length_drop, List.length_take]; rfl)) ?_; (with_reducible refine (datetime_Join.calls kj26 t237 t238 t239 t240 t241 t242 a2 t254 t255 _ A34.out).mono ?_); rintro e w46 ⟨rfl, hb⟩; refine ⟨_, rfl, ?_⟩; have n0_ := Aside0.mk (blk_below (g := gb244) (o := .cells #[.int .i64 t237, .int .i64 t238, .int .i64 t239, .int .i64 t240, .int .i64 t241, .int .i64 t242] 23 (0, 0)) (by (with_reducible repeat (first | refine blk_drewN ?_ _ | refine blk_drew ?_ | refine blk_alloc ?_ _)); exact BK244.out) hb); have n1_ := Aside0.mk (blk_below (g := gb252) (o := .cells #[.int .i64 t245, .int .i64 t246, .int .i64 t247, .int .i64 t248, .int .i64 t249, .int .i64 t250] 23 (0, 0)) (by (with_reducible repeat (first | refine blk_drewN ?_ _ | refine blk_drew ?_ | refine blk_alloc ?_ _)); exact BK252.out) hb); have n2_ := Aside0.mk (below_step (by repeat (first | (with_reducible first | exact HB.out | apply below_alloc | apply pw_below_drewN | apply below_drew1 | refine below_set ?_ GE244.out | refine below_set ?_ GE252.out) | exact HB.out)) hb); clear BK244; clear BK252; clear HB; have BK244 := n0_; have BK252 := n1_; have HB := n2_; clear n0_ n1_ n2_; (try clear hb); (try clear hb2); (try clear hk); (try clear hi); have hcz47_0 : w46.cell? ⟨gb252, 0, none⟩ = some (.int .i64 t245) := (blk_cell BK252.out 0).trans rfl; have hcz47_1 : w46.cell? ⟨gb252, 1, none⟩ = some (.int .i64 t246) := (blk_cell BK252.out 1).trans rfl; have hcz47_2 : w46.cell? ⟨gb252, 2, none⟩ = some (.int .i64 t247) := (blk_cell BK252.out 2).trans rfl; have hcz47_3 : w46.cell? ⟨gb252, 3, none⟩ = some (.int .i64 t248) := (blk_cell BK252.out 3).trans rfl; have hcz47_4 : w46.cell? ⟨gb252, 4, none⟩ = some (.int .i64 t249) := (blk_cell BK252.out 4).trans rfl; have hcz47_5 : w46.cell? ⟨gb252, 5, none⟩ = some (.int .i64 t250) := (blk_cell BK252.out 5).trans rfl; have hfz47_0 := blk_frozen BK252.out 0; have hfz47_1 := blk_frozen BK252.out 1; have hfz47_2 := blk_frozen BK252.out 2; have hfz47_3 := blk_frozen BK252.out 3; have hfz47_4 := blk_frozen BK252.out 4; have hfz47_5 := blk_frozen BK252.out 5) | ((with_reducible refine gate_callee (f := 14) rfl ?_); refine goesL_ (some 75) rfl rfl Tryd.func14 (by kernel_rfl) rfl #[.agg #[.int .i64 t245, .int .i64 t246, .int .i64 t247, .int .i64 t248, .int .i64 t249, .int .i64 t250], .int .i64 a2] rfl (by (try simp only [List.map_toArray, List.map_cons, List.map_nil]); first | done | rfl | (simp only [List.length_drop, List.length_take]; rfl)) ?_; (with_reducible refine (datetime_Join.calls kj26 t245 t246 t247 t248 t249 t250 a2 t256 t257 _ A35.out).mono ?_); rintro e w48 ⟨rfl, hb⟩; refine ⟨_, rfl, ?_⟩; have n0_ := Aside0.mk (blk_below (g := gb244) (o := .cells #[.int .i64 t237, .int .i64 t238, .int .i64 t239, .int .i64 t240, .int .i64 t241, .int .i64 t242] 23 (0, 0)) (by (with_reducible repeat (first | refine blk_drewN ?_ _ | refine blk_drew ?_ | refine blk_alloc ?_ _)); exact BK244.out) hb); have n1_ := Aside0.mk (blk_below (g := gb252) (o := .cells #[.int .i64 t245, .int .i64 t246, .int .i64 t247, .int .i64 t248, .int .i64 t249, .int .i64 t250] 23 (0, 0)) (by (with_reducible repeat (first | refine blk_drewN ?_ _ | refine blk_drew ?_ | refine blk_alloc ?_ _)); exact BK252.out) hb); have n2_ := Aside0.mk (below_step (by repeat (first | (with_reducible first | exact HB.out | apply below_alloc | apply pw_below_drewN | apply below_drew1 | refine below_set ?_ GE244.out | refine below_set ?_ GE252.out) | exact HB.out)) hb); clear BK244; clear BK252; clear HB; have BK244 := n0_; have BK252 := n1_; have HB := n2_; clear n0_ n1_ n2_; (try clear hb); (try clear hb2); (try clear hk); (try clear hi)))
                            go_ret
                            exact ⟨by first | rfl | (simp [errW_none, errW_some] <;> rfl) | (simp [*, errW_none, errW_some] <;> rfl), by repeat (first | (with_reducible first | exact HB.out | apply below_alloc | apply pw_below_drewN | apply below_drew1 | refine below_set ?_ GE244.out | refine below_set ?_ GE252.out) | exact HB.out)⟩
                        · rw [if_neg c37] at H
                          have c37b0 : (t257 == 0) = false := beq_eq_false_iff_ne.mpr c37
                          have c37b1 : (t257 != 0) = true := bne_iff_ne.mpr c37
                          obtain rfl := Option.some.inj H
                          have hnb49 := NB244_252.out
                          have hnc49 := NB252_244.out
                          have hcz50_0 : wc.cell? ⟨gb244, 0, none⟩ = some (.int .i64 t237) := (blk_cell BK244.out 0).trans rfl
                          have hcz50_1 : wc.cell? ⟨gb244, 1, none⟩ = some (.int .i64 t238) := (blk_cell BK244.out 1).trans rfl
                          have hcz50_2 : wc.cell? ⟨gb244, 2, none⟩ = some (.int .i64 t239) := (blk_cell BK244.out 2).trans rfl
                          have hcz50_3 : wc.cell? ⟨gb244, 3, none⟩ = some (.int .i64 t240) := (blk_cell BK244.out 3).trans rfl
                          have hcz50_4 : wc.cell? ⟨gb244, 4, none⟩ = some (.int .i64 t241) := (blk_cell BK244.out 4).trans rfl
                          have hcz50_5 : wc.cell? ⟨gb244, 5, none⟩ = some (.int .i64 t242) := (blk_cell BK244.out 5).trans rfl
                          have hfz50_0 := blk_frozen BK244.out 0
                          have hfz50_1 := blk_frozen BK244.out 1
                          have hfz50_2 := blk_frozen BK244.out 2
                          have hfz50_3 := blk_frozen BK244.out 3
                          have hfz50_4 := blk_frozen BK244.out 4
                          have hfz50_5 := blk_frozen BK244.out 5
                          go_wp2_with (first | ((with_reducible refine gate_callee (f := 14) rfl ?_); refine goesL_ (some 69) rfl rfl Tryd.func14 (by kernel_rfl) rfl #[.agg #[.int .i64 t237, .int .i64 t238, .int .i64 t239, .int .i64 t240, .int .i64 t241, .int .i64 t242], .int .i64 a2] rfl (by (try simp only [List.map_toArray, List.map_cons, List.map_nil]); first | done | rfl | (simp only [List.length_drop, List.length_take]; rfl)) ?_; (with_reducible refine (datetime_Join.calls kj26 t237 t238 t239 t240 t241 t242 a2 t254 t255 _ A34.out).mono ?_); rintro e w51 ⟨rfl, hb⟩; refine ⟨_, rfl, ?_⟩; have n0_ := Aside0.mk (blk_below (g := gb244) (o := .cells #[.int .i64 t237, .int .i64 t238, .int .i64 t239, .int .i64 t240, .int .i64 t241, .int .i64 t242] 23 (0, 0)) (by (with_reducible repeat (first | refine blk_drewN ?_ _ | refine blk_drew ?_ | refine blk_alloc ?_ _)); exact BK244.out) hb); have n1_ := Aside0.mk (blk_below (g := gb252) (o := .cells #[.int .i64 t245, .int .i64 t246, .int .i64 t247, .int .i64 t248, .int .i64 t249, .int .i64 t250] 23 (0, 0)) (by (with_reducible repeat (first | refine blk_drewN ?_ _ | refine blk_drew ?_ | refine blk_alloc ?_ _)); exact BK252.out) hb); have n2_ := Aside0.mk (below_step (by repeat (first | (with_reducible first | exact HB.out | apply below_alloc | apply pw_below_drewN | apply below_drew1 | refine below_set ?_ GE244.out | refine below_set ?_ GE252.out) | exact HB.out)) hb); clear BK244; clear BK252; clear HB; have BK244 := n0_; have BK252 := n1_; have HB := n2_; clear n0_ n1_ n2_; (try clear hb); (try clear hb2); (try clear hk); (try clear hi); have hcz52_0 : w51.cell? ⟨gb252, 0, none⟩ = some (.int .i64 t245) := (blk_cell BK252.out 0).trans rfl; have hcz52_1 : w51.cell? ⟨gb252, 1, none⟩ = some (.int .i64 t246) := (blk_cell BK252.out 1).trans rfl; have hcz52_2 : w51.cell? ⟨gb252, 2, none⟩ = some (.int .i64 t247) := (blk_cell BK252.out 2).trans rfl; have hcz52_3 : w51.cell? ⟨gb252, 3, none⟩ = some (.int .i64 t248) := (blk_cell BK252.out 3).trans rfl; have hcz52_4 : w51.cell? ⟨gb252, 4, none⟩ = some (.int .i64 t249) := (blk_cell BK252.out 4).trans rfl; have hcz52_5 : w51.cell? ⟨gb252, 5, none⟩ = some (.int .i64 t250) := (blk_cell BK252.out 5).trans rfl; have hfz52_0 := blk_frozen BK252.out 0; have hfz52_1 := blk_frozen BK252.out 1; have hfz52_2 := blk_frozen BK252.out 2; have hfz52_3 := blk_frozen BK252.out 3; have hfz52_4 := blk_frozen BK252.out 4; have hfz52_5 := blk_frozen BK252.out 5) | ((with_reducible refine gate_callee (f := 14) rfl ?_); refine goesL_ (some 75) rfl rfl Tryd.func14 (by kernel_rfl) rfl #[.agg #[.int .i64 t245, .int .i64 t246, .int .i64 t247, .int .i64 t248, .int .i64 t249, .int .i64 t250], .int .i64 a2] rfl (by (try simp only [List.map_toArray, List.map_cons, List.map_nil]); first | done | rfl | (simp only [List.length_drop, List.length_take]; rfl)) ?_; (with_reducible refine (datetime_Join.calls kj26 t245 t246 t247 t248 t249 t250 a2 t256 t257 _ A35.out).mono ?_); rintro e w53 ⟨rfl, hb⟩; refine ⟨_, rfl, ?_⟩; have n0_ := Aside0.mk (blk_below (g := gb244) (o := .cells #[.int .i64 t237, .int .i64 t238, .int .i64 t239, .int .i64 t240, .int .i64 t241, .int .i64 t242] 23 (0, 0)) (by (with_reducible repeat (first | refine blk_drewN ?_ _ | refine blk_drew ?_ | refine blk_alloc ?_ _)); exact BK244.out) hb); have n1_ := Aside0.mk (blk_below (g := gb252) (o := .cells #[.int .i64 t245, .int .i64 t246, .int .i64 t247, .int .i64 t248, .int .i64 t249, .int .i64 t250] 23 (0, 0)) (by (with_reducible repeat (first | refine blk_drewN ?_ _ | refine blk_drew ?_ | refine blk_alloc ?_ _)); exact BK252.out) hb); have n2_ := Aside0.mk (below_step (by repeat (first | (with_reducible first | exact HB.out | apply below_alloc | apply pw_below_drewN | apply below_drew1 | refine below_set ?_ GE244.out | refine below_set ?_ GE252.out) | exact HB.out)) hb); clear BK244; clear BK252; clear HB; have BK244 := n0_; have BK252 := n1_; have HB := n2_; clear n0_ n1_ n2_; (try clear hb); (try clear hb2); (try clear hk); (try clear hi)))
                          go_ret
                          exact ⟨by first | rfl | (simp [errW_none, errW_some] <;> rfl) | (simp [*, errW_none, errW_some] <;> rfl), by repeat (first | (with_reducible first | exact HB.out | apply below_alloc | apply pw_below_drewN | apply below_drew1 | refine below_set ?_ GE244.out | refine below_set ?_ GE252.out) | exact HB.out)⟩
                      · rw [if_neg c36] at H
                        have c36b0 : (t255 == 0) = false := beq_eq_false_iff_ne.mpr c36
                        have c36b1 : (t255 != 0) = true := bne_iff_ne.mpr c36
                        obtain rfl := Option.some.inj H
                        have hnb54 := NB244_252.out
                        have hnc54 := NB252_244.out
                        have hcz55_0 : wc.cell? ⟨gb244, 0, none⟩ = some (.int .i64 t237) := (blk_cell BK244.out 0).trans rfl
                        have hcz55_1 : wc.cell? ⟨gb244, 1, none⟩ = some (.int .i64 t238) := (blk_cell BK244.out 1).trans rfl
                        have hcz55_2 : wc.cell? ⟨gb244, 2, none⟩ = some (.int .i64 t239) := (blk_cell BK244.out 2).trans rfl
                        have hcz55_3 : wc.cell? ⟨gb244, 3, none⟩ = some (.int .i64 t240) := (blk_cell BK244.out 3).trans rfl
                        have hcz55_4 : wc.cell? ⟨gb244, 4, none⟩ = some (.int .i64 t241) := (blk_cell BK244.out 4).trans rfl
                        have hcz55_5 : wc.cell? ⟨gb244, 5, none⟩ = some (.int .i64 t242) := (blk_cell BK244.out 5).trans rfl
                        have hfz55_0 := blk_frozen BK244.out 0
                        have hfz55_1 := blk_frozen BK244.out 1
                        have hfz55_2 := blk_frozen BK244.out 2
                        have hfz55_3 := blk_frozen BK244.out 3
                        have hfz55_4 := blk_frozen BK244.out 4
                        have hfz55_5 := blk_frozen BK244.out 5
                        go_wp2_with (first | ((with_reducible refine gate_callee (f := 14) rfl ?_); refine goesL_ (some 69) rfl rfl Tryd.func14 (by kernel_rfl) rfl #[.agg #[.int .i64 t237, .int .i64 t238, .int .i64 t239, .int .i64 t240, .int .i64 t241, .int .i64 t242], .int .i64 a2] rfl (by (try simp only [List.map_toArray, List.map_cons, List.map_nil]); first | done | rfl | (simp only [List.length_drop, List.length_take]; rfl)) ?_; (with_reducible refine (datetime_Join.calls kj26 t237 t238 t239 t240 t241 t242 a2 t254 t255 _ A34.out).mono ?_); rintro e w56 ⟨rfl, hb⟩; refine ⟨_, rfl, ?_⟩; have n0_ := Aside0.mk (blk_below (g := gb244) (o := .cells #[.int .i64 t237, .int .i64 t238, .int .i64 t239, .int .i64 t240, .int .i64 t241, .int .i64 t242] 23 (0, 0)) (by (with_reducible repeat (first | refine blk_drewN ?_ _ | refine blk_drew ?_ | refine blk_alloc ?_ _)); exact BK244.out) hb); have n1_ := Aside0.mk (blk_below (g := gb252) (o := .cells #[.int .i64 t245, .int .i64 t246, .int .i64 t247, .int .i64 t248, .int .i64 t249, .int .i64 t250] 23 (0, 0)) (by (with_reducible repeat (first | refine blk_drewN ?_ _ | refine blk_drew ?_ | refine blk_alloc ?_ _)); exact BK252.out) hb); have n2_ := Aside0.mk (below_step (by repeat (first | (with_reducible first | exact HB.out | apply below_alloc | apply pw_below_drewN | apply below_drew1 | refine below_set ?_ GE244.out | refine below_set ?_ GE252.out) | exact HB.out)) hb); clear BK244; clear BK252; clear HB; have BK244 := n0_; have BK252 := n1_; have HB := n2_; clear n0_ n1_ n2_; (try clear hb); (try clear hb2); (try clear hk); (try clear hi); have hcz57_0 : w56.cell? ⟨gb252, 0, none⟩ = some (.int .i64 t245) := (blk_cell BK252.out 0).trans rfl; have hcz57_1 : w56.cell? ⟨gb252, 1, none⟩ = some (.int .i64 t246) := (blk_cell BK252.out 1).trans rfl; have hcz57_2 : w56.cell? ⟨gb252, 2, none⟩ = some (.int .i64 t247) := (blk_cell BK252.out 2).trans rfl; have hcz57_3 : w56.cell? ⟨gb252, 3, none⟩ = some (.int .i64 t248) := (blk_cell BK252.out 3).trans rfl; have hcz57_4 : w56.cell? ⟨gb252, 4, none⟩ = some (.int .i64 t249) := (blk_cell BK252.out 4).trans rfl; have hcz57_5 : w56.cell? ⟨gb252, 5, none⟩ = some (.int .i64 t250) := (blk_cell BK252.out 5).trans rfl; have hfz57_0 := blk_frozen BK252.out 0; have hfz57_1 := blk_frozen BK252.out 1; have hfz57_2 := blk_frozen BK252.out 2; have hfz57_3 := blk_frozen BK252.out 3; have hfz57_4 := blk_frozen BK252.out 4; have hfz57_5 := blk_frozen BK252.out 5) | ((with_reducible refine gate_callee (f := 14) rfl ?_); refine goesL_ (some 75) rfl rfl Tryd.func14 (by kernel_rfl) rfl #[.agg #[.int .i64 t245, .int .i64 t246, .int .i64 t247, .int .i64 t248, .int .i64 t249, .int .i64 t250], .int .i64 a2] rfl (by (try simp only [List.map_toArray, List.map_cons, List.map_nil]); first | done | rfl | (simp only [List.length_drop, List.length_take]; rfl)) ?_; (with_reducible refine (datetime_Join.calls kj26 t245 t246 t247 t248 t249 t250 a2 t256 t257 _ A35.out).mono ?_); rintro e w58 ⟨rfl, hb⟩; refine ⟨_, rfl, ?_⟩; have n0_ := Aside0.mk (blk_below (g := gb244) (o := .cells #[.int .i64 t237, .int .i64 t238, .int .i64 t239, .int .i64 t240, .int .i64 t241, .int .i64 t242] 23 (0, 0)) (by (with_reducible repeat (first | refine blk_drewN ?_ _ | refine blk_drew ?_ | refine blk_alloc ?_ _)); exact BK244.out) hb); have n1_ := Aside0.mk (blk_below (g := gb252) (o := .cells #[.int .i64 t245, .int .i64 t246, .int .i64 t247, .int .i64 t248, .int .i64 t249, .int .i64 t250] 23 (0, 0)) (by (with_reducible repeat (first | refine blk_drewN ?_ _ | refine blk_drew ?_ | refine blk_alloc ?_ _)); exact BK252.out) hb); have n2_ := Aside0.mk (below_step (by repeat (first | (with_reducible first | exact HB.out | apply below_alloc | apply pw_below_drewN | apply below_drew1 | refine below_set ?_ GE244.out | refine below_set ?_ GE252.out) | exact HB.out)) hb); clear BK244; clear BK252; clear HB; have BK244 := n0_; have BK252 := n1_; have HB := n2_; clear n0_ n1_ n2_; (try clear hb); (try clear hb2); (try clear hk); (try clear hi)))
                        go_ret
                        exact ⟨by first | rfl | (simp [errW_none, errW_some] <;> rfl) | (simp [*, errW_none, errW_some] <;> rfl), by repeat (first | (with_reducible first | exact HB.out | apply below_alloc | apply pw_below_drewN | apply below_drew1 | refine below_set ?_ GE244.out | refine below_set ?_ GE252.out) | exact HB.out)⟩
  · replace c5 := Bool.eq_false_iff.mpr c5
    subst c5
    have H1 : (some false) = some r := by rw [if_neg (show ¬ (false = true) by decide)] at H; exact H
    clear H
    have H := H1
    clear H1
    obtain rfl := Option.some.inj H
    go_enter Tryd.func4, Tryd.ntmps4
    go_wp2_with (first | ((with_reducible refine gate_callee (f := 11) rfl ?_); refine goesL_ (some 16) rfl rfl Tryd.func11 (by kernel_rfl) rfl #[] rfl (by (try simp only [List.map_toArray, List.map_cons, List.map_nil]); first | done | rfl | (simp only [List.length_drop, List.length_take]; rfl)) ?_; (with_reducible refine (masterdisclaw16_awake.calls k  false _ ?side1 A4.out).mono ?_); (case side1 => exact HG.below hG_ (by repeat (first | (with_reducible first | exact HB.out | apply below_alloc | apply pw_below_drewN | apply below_drew1) | exact HB.out))); rintro e w59 ⟨rfl, hb⟩; refine ⟨_, rfl, ?_⟩; have n0_ := Aside0.mk (below_step (by repeat (first | (with_reducible first | exact HB.out | apply below_alloc | apply pw_below_drewN | apply below_drew1) | exact HB.out)) hb); clear HB; have HB := n0_; clear n0_; (try clear hb); (try clear hb2); (try clear hk); (try clear hi)))
    go_ret
    exact ⟨by first | rfl | (simp [errW_none, errW_some] <;> rfl) | (simp [*, errW_none, errW_some] <;> rfl), by repeat (first | (with_reducible first | exact HB.out | apply below_alloc | apply pw_below_drewN | apply below_drew1) | exact HB.out)⟩

/-- THE ONE PURE STATEMENT of masterdisclaw16_DatetimeOrder: yours. -/
def masterdisclaw16_DatetimeOrder.Pure : Prop := ∀ (a0 : Int) (a1 : Int) (a2 : Int), (Lit.int .i64 a0).wf = true → (Lit.int .i64 a1).wf = true → (Lit.int .i64 a2).wf = true → ∃ k, masterdisclaw16_DatetimeOrder.f k a0 a1 a2 = some true
theorem masterdisclaw16_DatetimeOrder.walk (P : masterdisclaw16_DatetimeOrder.Pure) (a0 : Int) (a1 : Int) (a2 : Int) (w : World) (hG_ : HG w) (w0 : (Lit.int .i64 a0).wf = true) (w1 : (Lit.int .i64 a1).wf = true) (w2 : (Lit.int .i64 a2).wf = true) :
    Calls Tryd.prog 4 #[.int .i64 a0, .int .i64 a1, .int .i64 a2] w fun e w' => e = .returned (.bool true) ∧ Below w.heap.size w w' := by
  obtain ⟨k, h⟩ := P a0 a1 a2 w0 w1 w2
  refine (masterdisclaw16_DatetimeOrder.calls k a0 a1 a2 true w hG_ h).mono ?_
  rintro e w' ⟨rfl, hd⟩
  exact ⟨rfl, hd⟩

end Go.Proofs.YtnchkpheepbacaaDoor.Q
