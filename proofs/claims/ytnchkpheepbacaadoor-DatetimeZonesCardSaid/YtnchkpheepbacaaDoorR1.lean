/- Printed for this session's own hand contracts by its own program; Lean checks every line. -/
import Derived.Test.YtnchkpheepbacaaDoorR0
namespace Go.Proofs.YtnchkpheepbacaaDoor.R
open Go.Proofs.YtnchkpheepbacaaDoor.Z
open Go.Proofs.YtnchkpheepbacaaDoor.Hand (HG HG.below)
open Go.RowKit Go.Proofs.YtnchkpheepbacaaDoorW.PrintWords Go.Proofs.YtnchkpheepbacaaDoorW.PrintLast Go.Proofs.YtnchkpheepbacaaDoorW.PrintMore
attribute [local go_sem] max2_int min2_int max_two min_two max_three min_three max_four min_four   -- for this text's walks alone
set_option linter.unusedVariables false
set_option linter.unusedSimpArgs false

-- function 11 (masterdisclaw16_awake): walked by hand

-- function 12 (datetime_Split): walked by hand

-- function 14 (datetime_Join): walked by hand

/-! ### masterdiscref16_Time: function 16 -/
def masterdiscref16_Time.f (a0 : Int) : Option (Bool) := if a0 ≥ 315532800 then (some (decide (a0 ≤ 4102444799))) else (some false)
set_option maxHeartbeats 8000000 in
set_option maxRecDepth 100000 in
theorem masterdiscref16_Time.calls (a0 : Int) (r : Bool) (w : World) (h : masterdiscref16_Time.f a0 = some r) :
  Calls Tryd.prog 16 #[.int .i64 a0] w fun e w' => e = .returned (.bool r) ∧ Drawn0 w w' := by
 have H : (if a0 ≥ 315532800 then (some (decide (a0 ≤ 4102444799))) else (some false)) = some r := h
 clear h
 by_cases c2 : a0 ≥ 315532800
 ·rw [if_pos c2] at H
  have c2b0 : decide (315532800 ≤ a0) = true := decide_eq_true c2
  clear c2
  obtain rfl := Option.some.inj H
  go_enter Tryd.func16, Tryd.ntmps16
  go_wp2
  go_ret
  exact ⟨by first | rfl | (simp; done) | (simp [*]; done), by repeat (first | exact Drawn0.refl _ | apply Drawn0.step)⟩
 ·rw [if_neg c2] at H
  have c2b0 : decide (315532800 ≤ a0) = false := decide_eq_false c2
  clear c2
  obtain rfl := Option.some.inj H
  go_enter Tryd.func16, Tryd.ntmps16
  go_wp2
  go_ret
  exact ⟨by first | rfl | (simp; done) | (simp [*]; done), by repeat (first | exact Drawn0.refl _ | apply Drawn0.step)⟩

/-! ### masterdiscref16_Zone: function 17 -/
def masterdiscref16_Zone.f (a0 : Int) : Option (Bool) := if a0 ≥ (-1440) then (some (decide (a0 ≤ 1440))) else (some false)
set_option maxHeartbeats 8000000 in
set_option maxRecDepth 100000 in
theorem masterdiscref16_Zone.calls (a0 : Int) (r : Bool) (w : World) (h : masterdiscref16_Zone.f a0 = some r) :
  Calls Tryd.prog 17 #[.int .i64 a0] w fun e w' => e = .returned (.bool r) ∧ Drawn0 w w' := by
 have H : (if a0 ≥ (-1440) then (some (decide (a0 ≤ 1440))) else (some false)) = some r := h
 clear h
 by_cases c2 : a0 ≥ (-1440)
 ·rw [if_pos c2] at H
  have c2b0 : decide ((-1440) ≤ a0) = true := decide_eq_true c2
  clear c2
  obtain rfl := Option.some.inj H
  go_enter Tryd.func17, Tryd.ntmps17
  go_wp2
  go_ret
  exact ⟨by first | rfl | (simp; done) | (simp [*]; done), by repeat (first | exact Drawn0.refl _ | apply Drawn0.step)⟩
 ·rw [if_neg c2] at H
  have c2b0 : decide ((-1440) ≤ a0) = false := decide_eq_false c2
  clear c2
  obtain rfl := Option.some.inj H
  go_enter Tryd.func17, Tryd.ntmps17
  go_wp2
  go_ret
  exact ⟨by first | rfl | (simp; done) | (simp [*]; done), by repeat (first | exact Drawn0.refl _ | apply Drawn0.step)⟩

-- function 23 (datetime_Stamp): walked by hand

-- function 25 (datetime_ReadStamp): walked by hand

/-! ### masterdisclaw16_DatetimeZones: function 8 -/
mutual
def masterdisclaw16_DatetimeZones.j0 : Nat → Int → Int → Int → Bool → Option (Bool)
 | 0, _, _, _, _ => none
 | k + 1, x0, x1, x2, x37 => if x37 = true then (some true) else ((datetime_Stamp.f x0 x1).bind fun bt105 => ((datetime_Stamp.f x0 x2).bind fun bt107 => ((datetime_ReadStamp.f bt105.1).bind fun bt109 => ((datetime_ReadStamp.f bt107.1).bind fun bt112 => (if bt109.2.2 = 0 then (if bt112.2.2 = 0 then (masterdisclaw16_DatetimeZones.j1 k x0 x1 x2 (bt109.1 != bt112.1)) else (masterdisclaw16_DatetimeZones.j1 k x0 x1 x2 true)) else (masterdisclaw16_DatetimeZones.j1 k x0 x1 x2 true))))))
def masterdisclaw16_DatetimeZones.j1 : Nat → Int → Int → Int → Bool → Option (Bool)
 | 0, _, _, _, _ => none
 | k + 1, x0, x1, x2, x72 => if x72 = true then (some false) else ((datetime_Split.f x0 x1).bind fun bt115 => ((datetime_Split.f x0 x2).bind fun bt123 => (if bt115.2.2.2.2.2.2 = 0 then (masterdisclaw16_DatetimeZones.j2 k x1 x2 (bt123.2.2.2.2.2.2 != 0) bt115.1 bt115.2.1 bt115.2.2.1 bt115.2.2.2.1 bt115.2.2.2.2.1 bt115.2.2.2.2.2.1 bt123.1 bt123.2.1 bt123.2.2.1 bt123.2.2.2.1 bt123.2.2.2.2.1 bt123.2.2.2.2.2.1) else (masterdisclaw16_DatetimeZones.j2 k x1 x2 true bt115.1 bt115.2.1 bt115.2.2.1 bt115.2.2.2.1 bt115.2.2.2.2.1 bt115.2.2.2.2.2.1 bt123.1 bt123.2.1 bt123.2.2.1 bt123.2.2.2.1 bt123.2.2.2.2.1 bt123.2.2.2.2.2.1))))
def masterdisclaw16_DatetimeZones.j2 : Nat → Int → Int → Bool → Int → Int → Int → Int → Int → Int → Int → Int → Int → Int → Int → Int → Option (Bool)
 | 0, _, _, _, _, _, _, _, _, _, _, _, _, _, _, _ => none
 | k + 1, x1, x2, x90, x123000, x123001, x123002, x123003, x123004, x123005, x131000, x131001, x131002, x131003, x131004, x131005 => if x90 = true then (some false) else ((datetime_Join.f x123000 x123001 x123002 x123003 x123004 x123005 0).bind fun bt131 => ((datetime_Join.f x131000 x131001 x131002 x131003 x131004 x131005 0).bind fun bt133 => (if bt131.2 = 0 then (if bt133.2 = 0 then (some ((wrap64 (bt131.1 - bt133.1)) == (wrap64 (60 * (wrap64 (x1 - x2)))))) else (some true)) else (some true))))
end
def masterdisclaw16_DatetimeZones.f (k : Nat) (a0 : Int) (a1 : Int) (a2 : Int) : Option (Bool) := (masterdisclaw16_awake.f).bind fun t101 => (if t101 = true then ((masterdiscref16_Time.f a0).bind fun t102 => (if t102 = true then ((masterdiscref16_Zone.f a1).bind fun t103 => (if t103 = true then ((masterdiscref16_Zone.f a2).bind fun t104 => (masterdisclaw16_DatetimeZones.j0 k a0 a1 a2 (!t104))) else (masterdisclaw16_DatetimeZones.j0 k a0 a1 a2 true))) else (masterdisclaw16_DatetimeZones.j0 k a0 a1 a2 true))) else (some false))
theorem masterdisclaw16_DatetimeZones.mono_l : ∀ k, (∀ y0 y1 y2 y3, LeO (masterdisclaw16_DatetimeZones.j0 k y0 y1 y2 y3) (masterdisclaw16_DatetimeZones.j0 (k + 1) y0 y1 y2 y3)) ∧ (∀ y0 y1 y2 y3, LeO (masterdisclaw16_DatetimeZones.j1 k y0 y1 y2 y3) (masterdisclaw16_DatetimeZones.j1 (k + 1) y0 y1 y2 y3)) ∧ (∀ y0 y1 y2 y3 y4 y5 y6 y7 y8 y9 y10 y11 y12 y13 y14, LeO (masterdisclaw16_DatetimeZones.j2 k y0 y1 y2 y3 y4 y5 y6 y7 y8 y9 y10 y11 y12 y13 y14) (masterdisclaw16_DatetimeZones.j2 (k + 1) y0 y1 y2 y3 y4 y5 y6 y7 y8 y9 y10 y11 y12 y13 y14))
 | 0 => ⟨fun _ _ _ _ r h => by simp [masterdisclaw16_DatetimeZones.j0] at h, fun _ _ _ _ r h => by simp [masterdisclaw16_DatetimeZones.j1] at h, fun _ _ _ _ _ _ _ _ _ _ _ _ _ _ _ r h => by simp [masterdisclaw16_DatetimeZones.j2] at h⟩
 | k + 1 => by
  obtain ⟨ih0, ih1, ih2⟩ := masterdisclaw16_DatetimeZones.mono_l k
  refine ⟨?_, ?_, ?_⟩
  ·intro y0 y1 y2 y3
   unfold masterdisclaw16_DatetimeZones.j0
   repeat' first
   | (with_reducible exact ih0 _ _ _ _)
   | (with_reducible exact ih1 _ _ _ _)
   | (with_reducible exact ih2 _ _ _ _ _ _ _ _ _ _ _ _ _ _ _)
   | (with_reducible exact LeO.refl _)
   | (with_reducible exact LeO.none _)
   | (with_reducible refine LeO.ite ?_ ?_)
   | (with_reducible refine LeO.bind ?_ (fun _ => ?_))
   | exact ih0 _ _ _ _
   | exact ih1 _ _ _ _
   | exact ih2 _ _ _ _ _ _ _ _ _ _ _ _ _ _ _
   | exact LeO.none _
   | refine LeO.ite ?_ ?_
   | refine LeO.bind ?_ (fun _ => ?_)
  ·intro y0 y1 y2 y3
   unfold masterdisclaw16_DatetimeZones.j1
   repeat' first
   | (with_reducible exact ih0 _ _ _ _)
   | (with_reducible exact ih1 _ _ _ _)
   | (with_reducible exact ih2 _ _ _ _ _ _ _ _ _ _ _ _ _ _ _)
   | (with_reducible exact LeO.refl _)
   | (with_reducible exact LeO.none _)
   | (with_reducible refine LeO.ite ?_ ?_)
   | (with_reducible refine LeO.bind ?_ (fun _ => ?_))
   | exact ih0 _ _ _ _
   | exact ih1 _ _ _ _
   | exact ih2 _ _ _ _ _ _ _ _ _ _ _ _ _ _ _
   | exact LeO.none _
   | refine LeO.ite ?_ ?_
   | refine LeO.bind ?_ (fun _ => ?_)
  ·intro y0 y1 y2 y3 y4 y5 y6 y7 y8 y9 y10 y11 y12 y13 y14
   unfold masterdisclaw16_DatetimeZones.j2
   repeat' first
   | (with_reducible exact ih0 _ _ _ _)
   | (with_reducible exact ih1 _ _ _ _)
   | (with_reducible exact ih2 _ _ _ _ _ _ _ _ _ _ _ _ _ _ _)
   | (with_reducible exact LeO.refl _)
   | (with_reducible exact LeO.none _)
   | (with_reducible refine LeO.ite ?_ ?_)
   | (with_reducible refine LeO.bind ?_ (fun _ => ?_))
   | exact ih0 _ _ _ _
   | exact ih1 _ _ _ _
   | exact ih2 _ _ _ _ _ _ _ _ _ _ _ _ _ _ _
   | exact LeO.none _
   | refine LeO.ite ?_ ?_
   | refine LeO.bind ?_ (fun _ => ?_)
theorem masterdisclaw16_DatetimeZones.mono : ∀ a0 a1 a2 k, LeO (masterdisclaw16_DatetimeZones.f k a0 a1 a2) (masterdisclaw16_DatetimeZones.f (k + 1) a0 a1 a2) := by
 intro a0 a1 a2 k
 obtain ⟨ih0, ih1, ih2⟩ := masterdisclaw16_DatetimeZones.mono_l k
 unfold masterdisclaw16_DatetimeZones.f
 repeat' first
   | (with_reducible exact ih0 _ _ _ _)
   | (with_reducible exact ih1 _ _ _ _)
   | (with_reducible exact ih2 _ _ _ _ _ _ _ _ _ _ _ _ _ _ _)
   | (with_reducible exact LeO.refl _)
   | (with_reducible exact LeO.none _)
   | (with_reducible refine LeO.ite ?_ ?_)
   | (with_reducible refine LeO.bind ?_ (fun _ => ?_))
   | exact ih0 _ _ _ _
   | exact ih1 _ _ _ _
   | exact ih2 _ _ _ _ _ _ _ _ _ _ _ _ _ _ _
   | exact LeO.none _
   | refine LeO.ite ?_ ?_
   | refine LeO.bind ?_ (fun _ => ?_)
set_option maxHeartbeats 8000000 in
set_option maxRecDepth 100000 in
theorem masterdisclaw16_DatetimeZones.calls (k : Nat) (a0 : Int) (a1 : Int) (a2 : Int) (r : Bool) (w : World) (hG_ : HG w) (h : masterdisclaw16_DatetimeZones.f k a0 a1 a2 = some r) :
  Calls Tryd.prog 8 #[.int .i64 a0, .int .i64 a1, .int .i64 a2] w fun e w' => e = .returned (.bool r) ∧ Below w.heap.size w w' := by
 have hu23 := Tryd.underlying23
 have HB := Aside0.mk (Below.refl w.heap.size w)
 have H : ((masterdisclaw16_awake.f).bind fun t101 => (if t101 = true then ((masterdiscref16_Time.f a0).bind fun t102 => (if t102 = true then ((masterdiscref16_Zone.f a1).bind fun t103 => (if t103 = true then ((masterdiscref16_Zone.f a2).bind fun t104 => (masterdisclaw16_DatetimeZones.j0 k a0 a1 a2 (!t104))) else (masterdisclaw16_DatetimeZones.j0 k a0 a1 a2 true))) else (masterdisclaw16_DatetimeZones.j0 k a0 a1 a2 true))) else (some false))) = some r := h
 clear h
 replace H := Option.bind_eq_some_iff.mp H
 obtain ⟨t101, A40, H⟩ := H
 replace H : (if t101 = true then ((masterdiscref16_Time.f a0).bind fun t102 => (if t102 = true then ((masterdiscref16_Zone.f a1).bind fun t103 => (if t103 = true then ((masterdiscref16_Zone.f a2).bind fun t104 => (masterdisclaw16_DatetimeZones.j0 k a0 a1 a2 (!t104))) else (masterdisclaw16_DatetimeZones.j0 k a0 a1 a2 true))) else (masterdisclaw16_DatetimeZones.j0 k a0 a1 a2 true))) else (some false)) = some r := H
 have A4 := Aside0.mk A40
 clear A40
 by_cases c5 : t101 = true
 ·subst c5
  have H1 : ((masterdiscref16_Time.f a0).bind fun t102 => (if t102 = true then ((masterdiscref16_Zone.f a1).bind fun t103 => (if t103 = true then ((masterdiscref16_Zone.f a2).bind fun t104 => (masterdisclaw16_DatetimeZones.j0 k a0 a1 a2 (!t104))) else (masterdisclaw16_DatetimeZones.j0 k a0 a1 a2 true))) else (masterdisclaw16_DatetimeZones.j0 k a0 a1 a2 true))) = some r := by rw [if_pos rfl] at H; exact H
  clear H
  have H := H1
  clear H1
  have HC6 := Aside0.mk H
  clear H
  go_enter Tryd.func8, Tryd.ntmps8
  go_upto_region 3 with (first | ((with_reducible refine gate_callee (f := 11) rfl ?_); refine goesL_ (some 23) rfl rfl Tryd.func11 (by kernel_rfl) rfl #[] rfl (by ((try simp only [List.map_toArray, List.map_cons, List.map_nil]); first | done | rfl | (simp only [List.length_drop, List.length_take]; rfl))) ?_; (with_reducible refine (masterdisclaw16_awake.calls  true _ ?side1 A4.out).mono ?_); (case side1 => exact HG.below hG_ (by repeat (first | (with_reducible first | exact HB.out | apply below_alloc | apply pw_below_drewN | apply below_drew1) | exact HB.out))); rintro e w7 ⟨rfl, hb⟩; refine ⟨_, rfl, ?_⟩; have n0_ := Aside0.mk (below_step (by repeat (first | (with_reducible first | exact HB.out | apply below_alloc | apply pw_below_drewN | apply below_drew1) | exact HB.out)) hb); clear HB; have HB := n0_; clear n0_; ((try clear hb); (try clear hb2); (try clear hk); (try clear hi))))
  (try simp only [Act.put, List.setIfInBounds_toArray, List.set_cons_zero, List.set_cons_succ])
  go_cut [37] (fun v37 wc => ∃ (kq : Nat) (x37_5 : Bool), v37 = .bool x37_5 ∧ Aside0 (masterdisclaw16_DatetimeZones.j0 kq a0 a1 a2 x37_5 = some r) ∧ Aside0 (kq ≤ k) ∧ Aside0 (Below w.heap.size w wc))
  case first =>
   have H := HC6.out
   clear HC6
   replace H := Option.bind_eq_some_iff.mp H
   obtain ⟨t102, A80, H⟩ := H
   replace H : (if t102 = true then ((masterdiscref16_Zone.f a1).bind fun t103 => (if t103 = true then ((masterdiscref16_Zone.f a2).bind fun t104 => (masterdisclaw16_DatetimeZones.j0 k a0 a1 a2 (!t104))) else (masterdisclaw16_DatetimeZones.j0 k a0 a1 a2 true))) else (masterdisclaw16_DatetimeZones.j0 k a0 a1 a2 true)) = some r := H
   have A8 := Aside0.mk A80
   clear A80
   by_cases c9 : t102 = true
   ·subst c9
    have H1 : ((masterdiscref16_Zone.f a1).bind fun t103 => (if t103 = true then ((masterdiscref16_Zone.f a2).bind fun t104 => (masterdisclaw16_DatetimeZones.j0 k a0 a1 a2 (!t104))) else (masterdisclaw16_DatetimeZones.j0 k a0 a1 a2 true))) = some r := by rw [if_pos rfl] at H; exact H
    clear H
    have H := H1
    clear H1
    replace H := Option.bind_eq_some_iff.mp H
    obtain ⟨t103, A100, H⟩ := H
    replace H : (if t103 = true then ((masterdiscref16_Zone.f a2).bind fun t104 => (masterdisclaw16_DatetimeZones.j0 k a0 a1 a2 (!t104))) else (masterdisclaw16_DatetimeZones.j0 k a0 a1 a2 true)) = some r := H
    have A10 := Aside0.mk A100
    clear A100
    by_cases c11 : t103 = true
    ·subst c11
     have H1 : ((masterdiscref16_Zone.f a2).bind fun t104 => (masterdisclaw16_DatetimeZones.j0 k a0 a1 a2 (!t104))) = some r := by rw [if_pos rfl] at H; exact H
     clear H
     have H := H1
     clear H1
     replace H := Option.bind_eq_some_iff.mp H
     obtain ⟨t104, A120, H⟩ := H
     replace H : (masterdisclaw16_DatetimeZones.j0 k a0 a1 a2 (!t104)) = some r := H
     have A12 := Aside0.mk A120
     clear A120
     have H' := Aside0.mk H
     clear H
     go_wp2_with (first | ((with_reducible refine gate_callee (f := 16) rfl ?_); refine goesL_ (some 26) rfl rfl Tryd.func16 (by kernel_rfl) rfl #[.int .i64 a0] rfl (by ((try simp only [List.map_toArray, List.map_cons, List.map_nil]); first | done | rfl | (simp only [List.length_drop, List.length_take]; rfl))) ?_; (with_reducible refine (masterdiscref16_Time.calls a0 true _ A8.out).mono ?_); rintro e w' ⟨rfl, ⟨nd, rfl⟩⟩; refine ⟨_, rfl, ?_⟩) | (go_at_call 17; (with_reducible refine (masterdiscref16_Zone.calls a1 true _ A10.out).mono ?_); rintro e w' ⟨rfl, ⟨nd, rfl⟩⟩) | (go_at_call 17; (with_reducible refine (masterdiscref16_Zone.calls a2 t104 _ A12.out).mono ?_); rintro e w' ⟨rfl, ⟨nd, rfl⟩⟩))
     go_meet
     case rel => exact ⟨_, (!t104), (by first | rfl | (simp; done) | (simp [*]; done)), H', ⟨by first | omega | exact Nat.le_refl _⟩, ⟨by repeat (first | (with_reducible first | exact HB.out | apply below_alloc | apply pw_below_drewN | apply below_drew1) | exact HB.out)⟩⟩
    ·replace c11 := Bool.eq_false_iff.mpr c11
     subst c11
     have H1 : (masterdisclaw16_DatetimeZones.j0 k a0 a1 a2 true) = some r := by rw [if_neg (show ¬ (false = true) by decide)] at H; exact H
     clear H
     have H := H1
     clear H1
     have H' := Aside0.mk H
     clear H
     go_wp2_with (first | ((with_reducible refine gate_callee (f := 16) rfl ?_); refine goesL_ (some 26) rfl rfl Tryd.func16 (by kernel_rfl) rfl #[.int .i64 a0] rfl (by ((try simp only [List.map_toArray, List.map_cons, List.map_nil]); first | done | rfl | (simp only [List.length_drop, List.length_take]; rfl))) ?_; (with_reducible refine (masterdiscref16_Time.calls a0 true _ A8.out).mono ?_); rintro e w' ⟨rfl, ⟨nd, rfl⟩⟩; refine ⟨_, rfl, ?_⟩) | (go_at_call 17; (with_reducible refine (masterdiscref16_Zone.calls a1 false _ A10.out).mono ?_); rintro e w' ⟨rfl, ⟨nd, rfl⟩⟩))
     go_meet
     case rel => exact ⟨_, (true), (by first | rfl | (simp; done) | (simp [*]; done)), H', ⟨by first | omega | exact Nat.le_refl _⟩, ⟨by repeat (first | (with_reducible first | exact HB.out | apply below_alloc | apply pw_below_drewN | apply below_drew1) | exact HB.out)⟩⟩
   ·replace c9 := Bool.eq_false_iff.mpr c9
    subst c9
    have H1 : (masterdisclaw16_DatetimeZones.j0 k a0 a1 a2 true) = some r := by rw [if_neg (show ¬ (false = true) by decide)] at H; exact H
    clear H
    have H := H1
    clear H1
    have H' := Aside0.mk H
    clear H
    go_wp2_with (first | ((with_reducible refine gate_callee (f := 16) rfl ?_); refine goesL_ (some 26) rfl rfl Tryd.func16 (by kernel_rfl) rfl #[.int .i64 a0] rfl (by ((try simp only [List.map_toArray, List.map_cons, List.map_nil]); first | done | rfl | (simp only [List.length_drop, List.length_take]; rfl))) ?_; (with_reducible refine (masterdiscref16_Time.calls a0 false _ A8.out).mono ?_); rintro e w' ⟨rfl, ⟨nd, rfl⟩⟩; refine ⟨_, rfl, ?_⟩))
    go_meet
    case rel => exact ⟨_, (true), (by first | rfl | (simp; done) | (simp [*]; done)), H', ⟨by first | omega | exact Nat.le_refl _⟩, ⟨by repeat (first | (with_reducible first | exact HB.out | apply below_alloc | apply pw_below_drewN | apply below_drew1) | exact HB.out)⟩⟩
  case rest =>
   clear HC6
   try clear c1
   try clear p2
   try clear c5
   try clear c8
   try clear c9
   try clear c11
   obtain ⟨kq, x37_5, rfl, HA, HJ5, HB⟩ := hcut
   cases kq with
   | zero => exact absurd HA.out (by simp [masterdisclaw16_DatetimeZones.j0])
   | succ kj5 =>
    have H := HA.out
    clear HA
    simp only [masterdisclaw16_DatetimeZones.j0] at H
    by_cases c13 : x37_5 = true
    ·subst c13
     have H1 : (some true) = some r := by rw [if_pos rfl] at H; exact H
     clear H
     have H := H1
     clear H1
     obtain rfl := Option.some.inj H
     go_wp2
     go_ret
     exact ⟨by (first | rfl | (simp [errW_none, errW_some] <;> rfl) | (simp [*, errW_none, errW_some] <;> rfl)), by repeat (first | (with_reducible first | exact HB.out | apply below_alloc | apply pw_below_drewN | apply below_drew1) | exact HB.out)⟩
    ·replace c13 := Bool.eq_false_iff.mpr c13
     subst c13
     have H1 : ((datetime_Stamp.f a0 a1).bind fun bt105 => ((datetime_Stamp.f a0 a2).bind fun bt107 => ((datetime_ReadStamp.f bt105.1).bind fun bt109 => ((datetime_ReadStamp.f bt107.1).bind fun bt112 => (if bt109.2.2 = 0 then (if bt112.2.2 = 0 then (masterdisclaw16_DatetimeZones.j1 kj5 a0 a1 a2 (bt109.1 != bt112.1)) else (masterdisclaw16_DatetimeZones.j1 kj5 a0 a1 a2 true)) else (masterdisclaw16_DatetimeZones.j1 kj5 a0 a1 a2 true)))))) = some r := by rw [if_neg (show ¬ (false = true) by decide)] at H; exact H
     clear H
     have H := H1
     clear H1
     replace H := Option.bind_eq_some_iff.mp H
     obtain ⟨⟨t105, t106⟩, A140, H⟩ := H
     replace H : ((datetime_Stamp.f a0 a2).bind fun bt107 => ((datetime_ReadStamp.f t105).bind fun bt109 => ((datetime_ReadStamp.f bt107.1).bind fun bt112 => (if bt109.2.2 = 0 then (if bt112.2.2 = 0 then (masterdisclaw16_DatetimeZones.j1 kj5 a0 a1 a2 (bt109.1 != bt112.1)) else (masterdisclaw16_DatetimeZones.j1 kj5 a0 a1 a2 true)) else (masterdisclaw16_DatetimeZones.j1 kj5 a0 a1 a2 true))))) = some r := H
     have A14 := Aside0.mk A140
     clear A140
     replace H := Option.bind_eq_some_iff.mp H
     obtain ⟨⟨t107, t108⟩, A150, H⟩ := H
     replace H : ((datetime_ReadStamp.f t105).bind fun bt109 => ((datetime_ReadStamp.f t107).bind fun bt112 => (if bt109.2.2 = 0 then (if bt112.2.2 = 0 then (masterdisclaw16_DatetimeZones.j1 kj5 a0 a1 a2 (bt109.1 != bt112.1)) else (masterdisclaw16_DatetimeZones.j1 kj5 a0 a1 a2 true)) else (masterdisclaw16_DatetimeZones.j1 kj5 a0 a1 a2 true)))) = some r := H
     have A15 := Aside0.mk A150
     clear A150
     replace H := Option.bind_eq_some_iff.mp H
     obtain ⟨⟨t109, t110, t111⟩, A160, H⟩ := H
     replace H : ((datetime_ReadStamp.f t107).bind fun bt112 => (if t111 = 0 then (if bt112.2.2 = 0 then (masterdisclaw16_DatetimeZones.j1 kj5 a0 a1 a2 (t109 != bt112.1)) else (masterdisclaw16_DatetimeZones.j1 kj5 a0 a1 a2 true)) else (masterdisclaw16_DatetimeZones.j1 kj5 a0 a1 a2 true))) = some r := H
     have A16 := Aside0.mk A160
     clear A160
     replace H := Option.bind_eq_some_iff.mp H
     obtain ⟨⟨t112, t113, t114⟩, A170, H⟩ := H
     replace H : (if t111 = 0 then (if t114 = 0 then (masterdisclaw16_DatetimeZones.j1 kj5 a0 a1 a2 (t109 != t112)) else (masterdisclaw16_DatetimeZones.j1 kj5 a0 a1 a2 true)) else (masterdisclaw16_DatetimeZones.j1 kj5 a0 a1 a2 true)) = some r := H
     have A17 := Aside0.mk A170
     clear A170
     have HC18 := Aside0.mk H
     clear H
     go_upto_region 9 with (first | ((with_reducible refine gate_callee (f := 23) rfl ?_); refine goesL_ (some 41) rfl rfl Tryd.func23 (by kernel_rfl) rfl #[.int .i64 a0, .int .i64 a1] rfl (by ((try simp only [List.map_toArray, List.map_cons, List.map_nil]); first | done | rfl | (simp only [List.length_drop, List.length_take]; rfl))) ?_; (with_reducible refine (datetime_Stamp.calls a0 a1 t105 t106 _ A14.out).mono ?_); rintro e w19 ⟨rfl, hb⟩; refine ⟨_, rfl, ?_⟩; have n0_ := Aside0.mk (below_step (by repeat (first | (with_reducible first | exact HB.out | apply below_alloc | apply pw_below_drewN | apply below_drew1) | exact HB.out)) hb); clear HB; have HB := n0_; clear n0_; ((try clear hb); (try clear hb2); (try clear hk); (try clear hi))) | ((with_reducible refine gate_callee (f := 23) rfl ?_); refine goesL_ (some 47) rfl rfl Tryd.func23 (by kernel_rfl) rfl #[.int .i64 a0, .int .i64 a2] rfl (by ((try simp only [List.map_toArray, List.map_cons, List.map_nil]); first | done | rfl | (simp only [List.length_drop, List.length_take]; rfl))) ?_; (with_reducible refine (datetime_Stamp.calls a0 a2 t107 t108 _ A15.out).mono ?_); rintro e w20 ⟨rfl, hb⟩; refine ⟨_, rfl, ?_⟩; have n0_ := Aside0.mk (below_step (by repeat (first | (with_reducible first | exact HB.out | apply below_alloc | apply pw_below_drewN | apply below_drew1) | exact HB.out)) hb); clear HB; have HB := n0_; clear n0_; ((try clear hb); (try clear hb2); (try clear hk); (try clear hi))) | ((with_reducible refine gate_callee (f := 25) rfl ?_); refine goesL_ (some 52) rfl rfl Tryd.func25 (by kernel_rfl) rfl #[.string t105] rfl (by ((try simp only [List.map_toArray, List.map_cons, List.map_nil]); first | done | rfl | (simp only [List.length_drop, List.length_take]; rfl))) ?_; (with_reducible refine (datetime_ReadStamp.calls t105 t109 t110 t111 _ A16.out).mono ?_); rintro e w21 ⟨rfl, hb⟩; refine ⟨_, rfl, ?_⟩; have n0_ := Aside0.mk (below_step (by repeat (first | (with_reducible first | exact HB.out | apply below_alloc | apply pw_below_drewN | apply below_drew1) | exact HB.out)) hb); clear HB; have HB := n0_; clear n0_; ((try clear hb); (try clear hb2); (try clear hk); (try clear hi))) | ((with_reducible refine gate_callee (f := 25) rfl ?_); refine goesL_ (some 58) rfl rfl Tryd.func25 (by kernel_rfl) rfl #[.string t107] rfl (by ((try simp only [List.map_toArray, List.map_cons, List.map_nil]); first | done | rfl | (simp only [List.length_drop, List.length_take]; rfl))) ?_; (with_reducible refine (datetime_ReadStamp.calls t107 t112 t113 t114 _ A17.out).mono ?_); rintro e w22 ⟨rfl, hb⟩; refine ⟨_, rfl, ?_⟩; have n0_ := Aside0.mk (below_step (by repeat (first | (with_reducible first | exact HB.out | apply below_alloc | apply pw_below_drewN | apply below_drew1) | exact HB.out)) hb); clear HB; have HB := n0_; clear n0_; ((try clear hb); (try clear hb2); (try clear hk); (try clear hi))))
     (try simp only [Act.put, List.setIfInBounds_toArray, List.set_cons_zero, List.set_cons_succ])
     go_cut [72] (fun v72 wc => ∃ (kq : Nat) (x72_17 : Bool), v72 = .bool x72_17 ∧ Aside0 (masterdisclaw16_DatetimeZones.j1 kq a0 a1 a2 x72_17 = some r) ∧ Aside0 (kq ≤ kj5) ∧ Aside0 (Below w.heap.size w wc))
     case first =>
      have H := HC18.out
      clear HC18
      by_cases c23 : t111 = 0
      ·rw [if_pos c23] at H
       have c23b0 : (t111 == 0) = true := beq_iff_eq.mpr c23
       have c23b1 : (t111 != 0) = false := bne_eq_false_iff_eq.mpr c23
       clear c23
       (first | rw [c23b0] | (simp only [i64_w, i32_w]; rw [c23b0]) | skip)
       by_cases c24 : t114 = 0
       ·rw [if_pos c24] at H
        have c24b0 : (t114 == 0) = true := beq_iff_eq.mpr c24
        have c24b1 : (t114 != 0) = false := bne_eq_false_iff_eq.mpr c24
        clear c24
        have H' := Aside0.mk H
        clear H
        go_wp2
        go_meet
        case rel => exact ⟨_, ((t109 != t112)), (by first | rfl | (simp; done) | (simp [*]; done)), H', ⟨by have := HJ5.out; first | omega | exact Nat.le_refl _⟩, ⟨by repeat (first | (with_reducible first | exact HB.out | apply below_alloc | apply pw_below_drewN | apply below_drew1) | exact HB.out)⟩⟩
       ·rw [if_neg c24] at H
        have c24b0 : (t114 == 0) = false := beq_eq_false_iff_ne.mpr c24
        have c24b1 : (t114 != 0) = true := bne_iff_ne.mpr c24
        have H' := Aside0.mk H
        clear H
        go_wp2
        go_meet
        case rel => exact ⟨_, (true), (by first | rfl | (simp; done) | (simp [*]; done)), H', ⟨by have := HJ5.out; first | omega | exact Nat.le_refl _⟩, ⟨by repeat (first | (with_reducible first | exact HB.out | apply below_alloc | apply pw_below_drewN | apply below_drew1) | exact HB.out)⟩⟩
      ·rw [if_neg c23] at H
       have c23b0 : (t111 == 0) = false := beq_eq_false_iff_ne.mpr c23
       have c23b1 : (t111 != 0) = true := bne_iff_ne.mpr c23
       (first | rw [c23b0] | (simp only [i64_w, i32_w]; rw [c23b0]) | skip)
       have H' := Aside0.mk H
       clear H
       go_wp2
       go_meet
       case rel => exact ⟨_, (true), (by first | rfl | (simp; done) | (simp [*]; done)), H', ⟨by have := HJ5.out; first | omega | exact Nat.le_refl _⟩, ⟨by repeat (first | (with_reducible first | exact HB.out | apply below_alloc | apply pw_below_drewN | apply below_drew1) | exact HB.out)⟩⟩
     case rest =>
      clear HC18
      try clear c1
      try clear c2
      try clear p2
      try clear c5
      try clear c8
      try clear c9
      try clear c11
      try clear c13
      try clear c16
      try clear c23
      try clear c23b0
      try clear c23b1
      try clear c24
      try clear c24b0
      try clear c24b1
      try clear p2
      obtain ⟨kq, x72_17, rfl, HA, HJ17, HB⟩ := hcut
      cases kq with
      | zero => exact absurd HA.out (by simp [masterdisclaw16_DatetimeZones.j1])
      | succ kj17 =>
       have H := HA.out
       clear HA
       simp only [masterdisclaw16_DatetimeZones.j1] at H
       by_cases c25 : x72_17 = true
       ·subst c25
        have H1 : (some false) = some r := by rw [if_pos rfl] at H; exact H
        clear H
        have H := H1
        clear H1
        obtain rfl := Option.some.inj H
        go_wp2
        go_ret
        exact ⟨by (first | rfl | (simp [errW_none, errW_some] <;> rfl) | (simp [*, errW_none, errW_some] <;> rfl)), by repeat (first | (with_reducible first | exact HB.out | apply below_alloc | apply pw_below_drewN | apply below_drew1) | exact HB.out)⟩
       ·replace c25 := Bool.eq_false_iff.mpr c25
        subst c25
        have H1 : ((datetime_Split.f a0 a1).bind fun bt115 => ((datetime_Split.f a0 a2).bind fun bt123 => (if bt115.2.2.2.2.2.2 = 0 then (masterdisclaw16_DatetimeZones.j2 kj17 a1 a2 (bt123.2.2.2.2.2.2 != 0) bt115.1 bt115.2.1 bt115.2.2.1 bt115.2.2.2.1 bt115.2.2.2.2.1 bt115.2.2.2.2.2.1 bt123.1 bt123.2.1 bt123.2.2.1 bt123.2.2.2.1 bt123.2.2.2.2.1 bt123.2.2.2.2.2.1) else (masterdisclaw16_DatetimeZones.j2 kj17 a1 a2 true bt115.1 bt115.2.1 bt115.2.2.1 bt115.2.2.2.1 bt115.2.2.2.2.1 bt115.2.2.2.2.2.1 bt123.1 bt123.2.1 bt123.2.2.1 bt123.2.2.2.1 bt123.2.2.2.2.1 bt123.2.2.2.2.2.1)))) = some r := by rw [if_neg (show ¬ (false = true) by decide)] at H; exact H
        clear H
        have H := H1
        clear H1
        replace H := Option.bind_eq_some_iff.mp H
        obtain ⟨⟨t115, t116, t117, t118, t119, t120, t121⟩, A260, H⟩ := H
        replace H : ((datetime_Split.f a0 a2).bind fun bt123 => (if t121 = 0 then (masterdisclaw16_DatetimeZones.j2 kj17 a1 a2 (bt123.2.2.2.2.2.2 != 0) t115 t116 t117 t118 t119 t120 bt123.1 bt123.2.1 bt123.2.2.1 bt123.2.2.2.1 bt123.2.2.2.2.1 bt123.2.2.2.2.2.1) else (masterdisclaw16_DatetimeZones.j2 kj17 a1 a2 true t115 t116 t117 t118 t119 t120 bt123.1 bt123.2.1 bt123.2.2.1 bt123.2.2.2.1 bt123.2.2.2.2.1 bt123.2.2.2.2.2.1))) = some r := H
        have A26 := Aside0.mk A260
        clear A260
        replace H := Option.bind_eq_some_iff.mp H
        obtain ⟨⟨t123, t124, t125, t126, t127, t128, t129⟩, A270, H⟩ := H
        replace H : (if t121 = 0 then (masterdisclaw16_DatetimeZones.j2 kj17 a1 a2 (t129 != 0) t115 t116 t117 t118 t119 t120 t123 t124 t125 t126 t127 t128) else (masterdisclaw16_DatetimeZones.j2 kj17 a1 a2 true t115 t116 t117 t118 t119 t120 t123 t124 t125 t126 t127 t128)) = some r := H
        have A27 := Aside0.mk A270
        clear A270
        have HC28 := Aside0.mk H
        clear H
        go_upto_region 13 with (first | ((with_reducible refine gate_callee (f := 12) rfl ?_); refine goesL_ (some 76) rfl rfl Tryd.func12 (by kernel_rfl) rfl #[.int .i64 a0, .int .i64 a1] rfl (by ((try simp only [List.map_toArray, List.map_cons, List.map_nil]); first | done | rfl | (simp only [List.length_drop, List.length_take]; rfl))) ?_; (with_reducible refine (datetime_Split.calls a0 a1 t115 t116 t117 t118 t119 t120 t121 _ A26.out).mono ?_); rintro e w29 ⟨rfl, hb⟩; refine ⟨_, rfl, ?_⟩; have n0_ := Aside0.mk (below_step (by repeat (first | (with_reducible first | exact HB.out | apply below_alloc | apply pw_below_drewN | apply below_drew1) | exact HB.out)) hb); clear HB; have HB := n0_; clear n0_; ((try clear hb); (try clear hb2); (try clear hk); (try clear hi))) | ((with_reducible refine gate_dst (N := 17) rfl ?_); refine box_event ?hg (N := 17) ?hd (cs := #[.int .i64 0, .int .i64 0, .int .i64 0, .int .i64 0, .int .i64 0, .int .i64 0]) (t := 23) ?hr ?_; (case hd => rfl); (case hg => rfl); (case hr => first | (go_simp; done) | (go_simp; rfl)); intro gb122 hg w30 hbox hb; have n0_ := Aside0.mk (below_step (by repeat (first | (with_reducible first | exact HB.out | apply below_alloc | apply pw_below_drewN | apply below_drew1) | exact HB.out)) hb); have n1_ := Aside0.mk (hbox); have n2_ := Aside0.mk ((by rw [hg]; exact (below_size (by repeat (first | (with_reducible first | exact HB.out | apply below_alloc | apply pw_below_drewN | apply below_drew1) | exact HB.out))) : w.heap.size ≤ gb122)); have n3_ := Aside0.mk ((by rw [hg]; exact (below_size (by repeat (first | (with_reducible first | exact HB.out | apply below_alloc | apply pw_below_drewN | apply below_drew1) | exact HB.out))) : w.heap.size ≤ gb122)); clear HB; have HB := n0_; have BK122 := n1_; have GW122 := n2_; have GE122 := n3_; clear n0_ n1_ n2_ n3_; clear hb hbox hg; have hcz31_0 : w30.cell? ⟨gb122, 0, none⟩ = some (.int .i64 0) := (blk_cell BK122.out 0).trans rfl; have hcz31_1 : w30.cell? ⟨gb122, 1, none⟩ = some (.int .i64 0) := (blk_cell BK122.out 1).trans rfl; have hcz31_2 : w30.cell? ⟨gb122, 2, none⟩ = some (.int .i64 0) := (blk_cell BK122.out 2).trans rfl; have hcz31_3 : w30.cell? ⟨gb122, 3, none⟩ = some (.int .i64 0) := (blk_cell BK122.out 3).trans rfl; have hcz31_4 : w30.cell? ⟨gb122, 4, none⟩ = some (.int .i64 0) := (blk_cell BK122.out 4).trans rfl; have hcz31_5 : w30.cell? ⟨gb122, 5, none⟩ = some (.int .i64 0) := (blk_cell BK122.out 5).trans rfl; have hfz31_0 := blk_frozen BK122.out 0; have hfz31_1 := blk_frozen BK122.out 1; have hfz31_2 := blk_frozen BK122.out 2; have hfz31_3 := blk_frozen BK122.out 3; have hfz31_4 := blk_frozen BK122.out 4; have hfz31_5 := blk_frozen BK122.out 5) | ((with_reducible refine gate_callee (f := 12) rfl ?_); refine goesL_ (some 82) rfl rfl Tryd.func12 (by kernel_rfl) rfl #[.int .i64 a0, .int .i64 a2] rfl (by ((try simp only [List.map_toArray, List.map_cons, List.map_nil]); first | done | rfl | (simp only [List.length_drop, List.length_take]; rfl))) ?_; (with_reducible refine (datetime_Split.calls a0 a2 t123 t124 t125 t126 t127 t128 t129 _ A27.out).mono ?_); rintro e w32 ⟨rfl, hb⟩; refine ⟨_, rfl, ?_⟩; have n0_ := Aside0.mk (blk_below (g := gb122) (o := .cells #[.int .i64 t115, .int .i64 t116, .int .i64 t117, .int .i64 t118, .int .i64 t119, .int .i64 t120] 23 (0, 0)) (by (with_reducible repeat (first | refine blk_drewN ?_ _ | refine blk_drew ?_ | refine blk_alloc ?_ _)); refine blk_put (cs := #[.int .i64 t115, .int .i64 t116, .int .i64 t117, .int .i64 t118, .int .i64 t119, .int .i64 0]) ?_ 5 _ rfl; (with_reducible repeat (first | refine blk_drewN ?_ _ | refine blk_drew ?_ | refine blk_alloc ?_ _)); refine blk_put (cs := #[.int .i64 t115, .int .i64 t116, .int .i64 t117, .int .i64 t118, .int .i64 0, .int .i64 0]) ?_ 4 _ rfl; (with_reducible repeat (first | refine blk_drewN ?_ _ | refine blk_drew ?_ | refine blk_alloc ?_ _)); refine blk_put (cs := #[.int .i64 t115, .int .i64 t116, .int .i64 t117, .int .i64 0, .int .i64 0, .int .i64 0]) ?_ 3 _ rfl; (with_reducible repeat (first | refine blk_drewN ?_ _ | refine blk_drew ?_ | refine blk_alloc ?_ _)); refine blk_put (cs := #[.int .i64 t115, .int .i64 t116, .int .i64 0, .int .i64 0, .int .i64 0, .int .i64 0]) ?_ 2 _ rfl; (with_reducible repeat (first | refine blk_drewN ?_ _ | refine blk_drew ?_ | refine blk_alloc ?_ _)); refine blk_put (cs := #[.int .i64 t115, .int .i64 0, .int .i64 0, .int .i64 0, .int .i64 0, .int .i64 0]) ?_ 1 _ rfl; (with_reducible repeat (first | refine blk_drewN ?_ _ | refine blk_drew ?_ | refine blk_alloc ?_ _)); refine blk_put (cs := #[.int .i64 0, .int .i64 0, .int .i64 0, .int .i64 0, .int .i64 0, .int .i64 0]) ?_ 0 _ rfl; (with_reducible repeat (first | refine blk_drewN ?_ _ | refine blk_drew ?_ | refine blk_alloc ?_ _)); exact BK122.out) hb); have n1_ := Aside0.mk (below_step (by repeat (first | (with_reducible first | exact HB.out | apply below_alloc | apply pw_below_drewN | apply below_drew1 | refine below_set ?_ GE122.out) | exact HB.out)) hb); clear BK122; clear HB; have BK122 := n0_; have HB := n1_; clear n0_ n1_; ((try clear hb); (try clear hb2); (try clear hk); (try clear hi))) | ((with_reducible refine gate_dst (N := 18) rfl ?_); refine box_event ?hg (N := 18) ?hd (cs := #[.int .i64 0, .int .i64 0, .int .i64 0, .int .i64 0, .int .i64 0, .int .i64 0]) (t := 23) ?hr ?_; (case hd => rfl); (case hg => rfl); (case hr => first | (go_simp; done) | (go_simp; rfl)); intro gb130 hg w33 hbox hb; have n0_ := Aside0.mk (blk_below (g := gb122) (o := .cells #[.int .i64 t115, .int .i64 t116, .int .i64 t117, .int .i64 t118, .int .i64 t119, .int .i64 t120] 23 (0, 0)) (by (with_reducible repeat (first | refine blk_drewN ?_ _ | refine blk_drew ?_ | refine blk_alloc ?_ _)); exact BK122.out) hb); have n1_ := Aside0.mk (below_step (by repeat (first | (with_reducible first | exact HB.out | apply below_alloc | apply pw_below_drewN | apply below_drew1 | refine below_set ?_ GE122.out) | exact HB.out)) hb); have n2_ := Aside0.mk (hbox); have n3_ := Aside0.mk ((by rw [hg]; exact (below_size (by repeat (first | (with_reducible first | exact HB.out | apply below_alloc | apply pw_below_drewN | apply below_drew1 | refine below_set ?_ GE122.out) | exact HB.out))) : w.heap.size ≤ gb130)); have n4_ := Aside0.mk ((by rw [hg]; exact (below_size (by repeat (first | (with_reducible first | exact HB.out | apply below_alloc | apply pw_below_drewN | apply below_drew1 | refine below_set ?_ GE122.out) | exact HB.out))) : w.heap.size ≤ gb130)); have n5_ := Aside0.mk ((by rw [hg]; exact Nat.ne_of_lt (blk_lt (g := gb122) (o := .cells #[.int .i64 t115, .int .i64 t116, .int .i64 t117, .int .i64 t118, .int .i64 t119, .int .i64 t120] 23 (0, 0)) (by (with_reducible repeat (first | refine blk_drewN ?_ _ | refine blk_drew ?_ | refine blk_alloc ?_ _)); exact BK122.out)) : gb122 ≠ gb130)); have n6_ := Aside0.mk ((by rw [hg]; exact Nat.ne_of_gt (blk_lt (g := gb122) (o := .cells #[.int .i64 t115, .int .i64 t116, .int .i64 t117, .int .i64 t118, .int .i64 t119, .int .i64 t120] 23 (0, 0)) (by (with_reducible repeat (first | refine blk_drewN ?_ _ | refine blk_drew ?_ | refine blk_alloc ?_ _)); exact BK122.out)) : gb130 ≠ gb122)); clear BK122; clear HB; have BK122 := n0_; have HB := n1_; have BK130 := n2_; have GW130 := n3_; have GE130 := n4_; have NB122_130 := n5_; have NB130_122 := n6_; clear n0_ n1_ n2_ n3_ n4_ n5_ n6_; clear hb hbox hg; have hnb34 := NB130_122.out; have hnc34 := NB122_130.out; have hcz35_0 : w33.cell? ⟨gb130, 0, none⟩ = some (.int .i64 0) := (blk_cell BK130.out 0).trans rfl; have hcz35_1 : w33.cell? ⟨gb130, 1, none⟩ = some (.int .i64 0) := (blk_cell BK130.out 1).trans rfl; have hcz35_2 : w33.cell? ⟨gb130, 2, none⟩ = some (.int .i64 0) := (blk_cell BK130.out 2).trans rfl; have hcz35_3 : w33.cell? ⟨gb130, 3, none⟩ = some (.int .i64 0) := (blk_cell BK130.out 3).trans rfl; have hcz35_4 : w33.cell? ⟨gb130, 4, none⟩ = some (.int .i64 0) := (blk_cell BK130.out 4).trans rfl; have hcz35_5 : w33.cell? ⟨gb130, 5, none⟩ = some (.int .i64 0) := (blk_cell BK130.out 5).trans rfl; have hfz35_0 := blk_frozen BK130.out 0; have hfz35_1 := blk_frozen BK130.out 1; have hfz35_2 := blk_frozen BK130.out 2; have hfz35_3 := blk_frozen BK130.out 3; have hfz35_4 := blk_frozen BK130.out 4; have hfz35_5 := blk_frozen BK130.out 5))
        (try simp only [Act.put, List.setIfInBounds_toArray, List.set_cons_zero, List.set_cons_succ])
        go_cut [90] (fun v90 wc => ∃ (kq : Nat) (x90_27 : Bool), v90 = .bool x90_27 ∧ Aside0 (masterdisclaw16_DatetimeZones.j2 kq a1 a2 x90_27 t115 t116 t117 t118 t119 t120 t123 t124 t125 t126 t127 t128 = some r) ∧ Aside0 (kq ≤ kj17) ∧ Aside0 (wc.heap[gb122]? = some (.cells #[.int .i64 t115, .int .i64 t116, .int .i64 t117, .int .i64 t118, .int .i64 t119, .int .i64 t120] 23 (0, 0))) ∧ Aside0 (wc.heap[gb130]? = some (.cells #[.int .i64 t123, .int .i64 t124, .int .i64 t125, .int .i64 t126, .int .i64 t127, .int .i64 t128] 23 (0, 0))) ∧ Aside0 (Below w.heap.size w wc))
        case first =>
         have H := HC28.out
         clear HC28
         by_cases c36 : t121 = 0
         ·rw [if_pos c36] at H
          have c36b0 : (t121 == 0) = true := beq_iff_eq.mpr c36
          have c36b1 : (t121 != 0) = false := bne_eq_false_iff_eq.mpr c36
          clear c36
          (first | rw [c36b0] | (simp only [i64_w, i32_w]; rw [c36b0]) | skip)
          have H' := Aside0.mk H
          clear H
          go_wp2
          go_meet
          case rel => exact ⟨_, ((t129 != 0)), (by first | rfl | (simp; done) | (simp [*]; done)), H', ⟨by have := HJ5.out; have := HJ17.out; first | omega | exact Nat.le_refl _⟩, ⟨by (with_reducible repeat (first | refine blk_drewN ?_ _ | refine blk_drew ?_ | refine blk_alloc ?_ _)); refine blk_far ?_ NB122_130.out _; (with_reducible repeat (first | refine blk_drewN ?_ _ | refine blk_drew ?_ | refine blk_alloc ?_ _)); refine blk_far ?_ NB122_130.out _; (with_reducible repeat (first | refine blk_drewN ?_ _ | refine blk_drew ?_ | refine blk_alloc ?_ _)); refine blk_far ?_ NB122_130.out _; (with_reducible repeat (first | refine blk_drewN ?_ _ | refine blk_drew ?_ | refine blk_alloc ?_ _)); refine blk_far ?_ NB122_130.out _; (with_reducible repeat (first | refine blk_drewN ?_ _ | refine blk_drew ?_ | refine blk_alloc ?_ _)); refine blk_far ?_ NB122_130.out _; (with_reducible repeat (first | refine blk_drewN ?_ _ | refine blk_drew ?_ | refine blk_alloc ?_ _)); refine blk_far ?_ NB122_130.out _; (with_reducible repeat (first | refine blk_drewN ?_ _ | refine blk_drew ?_ | refine blk_alloc ?_ _)); exact BK122.out⟩, ⟨by (with_reducible repeat (first | refine blk_drewN ?_ _ | refine blk_drew ?_ | refine blk_alloc ?_ _)); refine blk_put (cs := #[.int .i64 t123, .int .i64 t124, .int .i64 t125, .int .i64 t126, .int .i64 t127, .int .i64 0]) ?_ 5 _ rfl; (with_reducible repeat (first | refine blk_drewN ?_ _ | refine blk_drew ?_ | refine blk_alloc ?_ _)); refine blk_put (cs := #[.int .i64 t123, .int .i64 t124, .int .i64 t125, .int .i64 t126, .int .i64 0, .int .i64 0]) ?_ 4 _ rfl; (with_reducible repeat (first | refine blk_drewN ?_ _ | refine blk_drew ?_ | refine blk_alloc ?_ _)); refine blk_put (cs := #[.int .i64 t123, .int .i64 t124, .int .i64 t125, .int .i64 0, .int .i64 0, .int .i64 0]) ?_ 3 _ rfl; (with_reducible repeat (first | refine blk_drewN ?_ _ | refine blk_drew ?_ | refine blk_alloc ?_ _)); refine blk_put (cs := #[.int .i64 t123, .int .i64 t124, .int .i64 0, .int .i64 0, .int .i64 0, .int .i64 0]) ?_ 2 _ rfl; (with_reducible repeat (first | refine blk_drewN ?_ _ | refine blk_drew ?_ | refine blk_alloc ?_ _)); refine blk_put (cs := #[.int .i64 t123, .int .i64 0, .int .i64 0, .int .i64 0, .int .i64 0, .int .i64 0]) ?_ 1 _ rfl; (with_reducible repeat (first | refine blk_drewN ?_ _ | refine blk_drew ?_ | refine blk_alloc ?_ _)); refine blk_put (cs := #[.int .i64 0, .int .i64 0, .int .i64 0, .int .i64 0, .int .i64 0, .int .i64 0]) ?_ 0 _ rfl; (with_reducible repeat (first | refine blk_drewN ?_ _ | refine blk_drew ?_ | refine blk_alloc ?_ _)); exact BK130.out⟩, ⟨by repeat (first | (with_reducible first | exact HB.out | apply below_alloc | apply pw_below_drewN | apply below_drew1 | refine below_set ?_ GE122.out | refine below_set ?_ GE130.out) | exact HB.out)⟩⟩
         ·rw [if_neg c36] at H
          have c36b0 : (t121 == 0) = false := beq_eq_false_iff_ne.mpr c36
          have c36b1 : (t121 != 0) = true := bne_iff_ne.mpr c36
          (first | rw [c36b0] | (simp only [i64_w, i32_w]; rw [c36b0]) | skip)
          have H' := Aside0.mk H
          clear H
          go_wp2
          go_meet
          case rel => exact ⟨_, (true), (by first | rfl | (simp; done) | (simp [*]; done)), H', ⟨by have := HJ5.out; have := HJ17.out; first | omega | exact Nat.le_refl _⟩, ⟨by (with_reducible repeat (first | refine blk_drewN ?_ _ | refine blk_drew ?_ | refine blk_alloc ?_ _)); refine blk_far ?_ NB122_130.out _; (with_reducible repeat (first | refine blk_drewN ?_ _ | refine blk_drew ?_ | refine blk_alloc ?_ _)); refine blk_far ?_ NB122_130.out _; (with_reducible repeat (first | refine blk_drewN ?_ _ | refine blk_drew ?_ | refine blk_alloc ?_ _)); refine blk_far ?_ NB122_130.out _; (with_reducible repeat (first | refine blk_drewN ?_ _ | refine blk_drew ?_ | refine blk_alloc ?_ _)); refine blk_far ?_ NB122_130.out _; (with_reducible repeat (first | refine blk_drewN ?_ _ | refine blk_drew ?_ | refine blk_alloc ?_ _)); refine blk_far ?_ NB122_130.out _; (with_reducible repeat (first | refine blk_drewN ?_ _ | refine blk_drew ?_ | refine blk_alloc ?_ _)); refine blk_far ?_ NB122_130.out _; (with_reducible repeat (first | refine blk_drewN ?_ _ | refine blk_drew ?_ | refine blk_alloc ?_ _)); exact BK122.out⟩, ⟨by (with_reducible repeat (first | refine blk_drewN ?_ _ | refine blk_drew ?_ | refine blk_alloc ?_ _)); refine blk_put (cs := #[.int .i64 t123, .int .i64 t124, .int .i64 t125, .int .i64 t126, .int .i64 t127, .int .i64 0]) ?_ 5 _ rfl; (with_reducible repeat (first | refine blk_drewN ?_ _ | refine blk_drew ?_ | refine blk_alloc ?_ _)); refine blk_put (cs := #[.int .i64 t123, .int .i64 t124, .int .i64 t125, .int .i64 t126, .int .i64 0, .int .i64 0]) ?_ 4 _ rfl; (with_reducible repeat (first | refine blk_drewN ?_ _ | refine blk_drew ?_ | refine blk_alloc ?_ _)); refine blk_put (cs := #[.int .i64 t123, .int .i64 t124, .int .i64 t125, .int .i64 0, .int .i64 0, .int .i64 0]) ?_ 3 _ rfl; (with_reducible repeat (first | refine blk_drewN ?_ _ | refine blk_drew ?_ | refine blk_alloc ?_ _)); refine blk_put (cs := #[.int .i64 t123, .int .i64 t124, .int .i64 0, .int .i64 0, .int .i64 0, .int .i64 0]) ?_ 2 _ rfl; (with_reducible repeat (first | refine blk_drewN ?_ _ | refine blk_drew ?_ | refine blk_alloc ?_ _)); refine blk_put (cs := #[.int .i64 t123, .int .i64 0, .int .i64 0, .int .i64 0, .int .i64 0, .int .i64 0]) ?_ 1 _ rfl; (with_reducible repeat (first | refine blk_drewN ?_ _ | refine blk_drew ?_ | refine blk_alloc ?_ _)); refine blk_put (cs := #[.int .i64 0, .int .i64 0, .int .i64 0, .int .i64 0, .int .i64 0, .int .i64 0]) ?_ 0 _ rfl; (with_reducible repeat (first | refine blk_drewN ?_ _ | refine blk_drew ?_ | refine blk_alloc ?_ _)); exact BK130.out⟩, ⟨by repeat (first | (with_reducible first | exact HB.out | apply below_alloc | apply pw_below_drewN | apply below_drew1 | refine below_set ?_ GE122.out | refine below_set ?_ GE130.out) | exact HB.out)⟩⟩
        case rest =>
         clear HC28
         try clear c1
         try clear c2
         try clear p2
         try clear c3
         try clear c5
         try clear c8
         try clear c9
         try clear c11
         try clear c12
         try clear c13
         try clear c16
         try clear c23
         try clear c23b0
         try clear c23b1
         try clear c24
         try clear c24b0
         try clear c24b1
         try clear c25
         try clear c34
         try clear c36
         try clear c36b0
         try clear c36b1
         try clear hcz31_0
         try clear hcz31_1
         try clear hcz31_2
         try clear hcz31_3
         try clear hcz31_4
         try clear hcz31_5
         try clear hcz35_0
         try clear hcz35_1
         try clear hcz35_2
         try clear hcz35_3
         try clear hcz35_4
         try clear hcz35_5
         try clear hfz31_0
         try clear hfz31_1
         try clear hfz31_2
         try clear hfz31_3
         try clear hfz31_4
         try clear hfz31_5
         try clear hfz35_0
         try clear hfz35_1
         try clear hfz35_2
         try clear hfz35_3
         try clear hfz35_4
         try clear hfz35_5
         try clear p2
         obtain ⟨kq, x90_27, rfl, HA, HJ27, BK122, BK130, HB⟩ := hcut
         cases kq with
         | zero => exact absurd HA.out (by simp [masterdisclaw16_DatetimeZones.j2])
         | succ kj27 =>
          have H := HA.out
          clear HA
          simp only [masterdisclaw16_DatetimeZones.j2] at H
          by_cases c37 : x90_27 = true
          ·subst c37
           have H1 : (some false) = some r := by rw [if_pos rfl] at H; exact H
           clear H
           have H := H1
           clear H1
           obtain rfl := Option.some.inj H
           go_wp2
           go_ret
           exact ⟨by (first | rfl | (simp [errW_none, errW_some] <;> rfl) | (simp [*, errW_none, errW_some] <;> rfl)), by repeat (first | (with_reducible first | exact HB.out | apply below_alloc | apply pw_below_drewN | apply below_drew1 | refine below_set ?_ GE122.out | refine below_set ?_ GE130.out) | exact HB.out)⟩
          ·replace c37 := Bool.eq_false_iff.mpr c37
           subst c37
           have H1 : ((datetime_Join.f t115 t116 t117 t118 t119 t120 0).bind fun bt131 => ((datetime_Join.f t123 t124 t125 t126 t127 t128 0).bind fun bt133 => (if bt131.2 = 0 then (if bt133.2 = 0 then (some ((wrap64 (bt131.1 - bt133.1)) == (wrap64 (60 * (wrap64 (a1 - a2)))))) else (some true)) else (some true)))) = some r := by rw [if_neg (show ¬ (false = true) by decide)] at H; exact H
           clear H
           have H := H1
           clear H1
           replace H := Option.bind_eq_some_iff.mp H
           obtain ⟨⟨t131, t132⟩, A380, H⟩ := H
           replace H : ((datetime_Join.f t123 t124 t125 t126 t127 t128 0).bind fun bt133 => (if t132 = 0 then (if bt133.2 = 0 then (some ((wrap64 (t131 - bt133.1)) == (wrap64 (60 * (wrap64 (a1 - a2)))))) else (some true)) else (some true))) = some r := H
           have A38 := Aside0.mk A380
           clear A380
           replace H := Option.bind_eq_some_iff.mp H
           obtain ⟨⟨t133, t134⟩, A390, H⟩ := H
           replace H : (if t132 = 0 then (if t134 = 0 then (some ((wrap64 (t131 - t133)) == (wrap64 (60 * (wrap64 (a1 - a2)))))) else (some true)) else (some true)) = some r := H
           have A39 := Aside0.mk A390
           clear A390
           by_cases c40 : t132 = 0
           ·rw [if_pos c40] at H
            have c40b0 : (t132 == 0) = true := beq_iff_eq.mpr c40
            have c40b1 : (t132 != 0) = false := bne_eq_false_iff_eq.mpr c40
            clear c40
            by_cases c41 : t134 = 0
            ·rw [if_pos c41] at H
             have c41b0 : (t134 == 0) = true := beq_iff_eq.mpr c41
             have c41b1 : (t134 != 0) = false := bne_eq_false_iff_eq.mpr c41
             clear c41
             obtain rfl := Option.some.inj H
             have hnb42 := NB122_130.out
             have hnc42 := NB130_122.out
             have hcz43_0 : wc.cell? ⟨gb122, 0, none⟩ = some (.int .i64 t115) := (blk_cell BK122.out 0).trans rfl
             have hcz43_1 : wc.cell? ⟨gb122, 1, none⟩ = some (.int .i64 t116) := (blk_cell BK122.out 1).trans rfl
             have hcz43_2 : wc.cell? ⟨gb122, 2, none⟩ = some (.int .i64 t117) := (blk_cell BK122.out 2).trans rfl
             have hcz43_3 : wc.cell? ⟨gb122, 3, none⟩ = some (.int .i64 t118) := (blk_cell BK122.out 3).trans rfl
             have hcz43_4 : wc.cell? ⟨gb122, 4, none⟩ = some (.int .i64 t119) := (blk_cell BK122.out 4).trans rfl
             have hcz43_5 : wc.cell? ⟨gb122, 5, none⟩ = some (.int .i64 t120) := (blk_cell BK122.out 5).trans rfl
             have hfz43_0 := blk_frozen BK122.out 0
             have hfz43_1 := blk_frozen BK122.out 1
             have hfz43_2 := blk_frozen BK122.out 2
             have hfz43_3 := blk_frozen BK122.out 3
             have hfz43_4 := blk_frozen BK122.out 4
             have hfz43_5 := blk_frozen BK122.out 5
             go_wp2_with (first | ((with_reducible refine gate_callee (f := 14) rfl ?_); refine goesL_ (some 93) rfl rfl Tryd.func14 (by kernel_rfl) rfl #[.agg #[.int .i64 t115, .int .i64 t116, .int .i64 t117, .int .i64 t118, .int .i64 t119, .int .i64 t120], .int .i64 0] rfl (by ((try simp only [List.map_toArray, List.map_cons, List.map_nil]); first | done | rfl | (simp only [List.length_drop, List.length_take]; rfl))) ?_; (with_reducible refine (datetime_Join.calls t115 t116 t117 t118 t119 t120 0 t131 t132 _ A38.out).mono ?_); rintro e w44 ⟨rfl, hb⟩; refine ⟨_, rfl, ?_⟩; have n0_ := Aside0.mk (blk_below (g := gb122) (o := .cells #[.int .i64 t115, .int .i64 t116, .int .i64 t117, .int .i64 t118, .int .i64 t119, .int .i64 t120] 23 (0, 0)) (by (with_reducible repeat (first | refine blk_drewN ?_ _ | refine blk_drew ?_ | refine blk_alloc ?_ _)); exact BK122.out) hb); have n1_ := Aside0.mk (blk_below (g := gb130) (o := .cells #[.int .i64 t123, .int .i64 t124, .int .i64 t125, .int .i64 t126, .int .i64 t127, .int .i64 t128] 23 (0, 0)) (by (with_reducible repeat (first | refine blk_drewN ?_ _ | refine blk_drew ?_ | refine blk_alloc ?_ _)); exact BK130.out) hb); have n2_ := Aside0.mk (below_step (by repeat (first | (with_reducible first | exact HB.out | apply below_alloc | apply pw_below_drewN | apply below_drew1 | refine below_set ?_ GE122.out | refine below_set ?_ GE130.out) | exact HB.out)) hb); clear BK122; clear BK130; clear HB; have BK122 := n0_; have BK130 := n1_; have HB := n2_; clear n0_ n1_ n2_; ((try clear hb); (try clear hb2); (try clear hk); (try clear hi)); have hcz45_0 : w44.cell? ⟨gb130, 0, none⟩ = some (.int .i64 t123) := (blk_cell BK130.out 0).trans rfl; have hcz45_1 : w44.cell? ⟨gb130, 1, none⟩ = some (.int .i64 t124) := (blk_cell BK130.out 1).trans rfl; have hcz45_2 : w44.cell? ⟨gb130, 2, none⟩ = some (.int .i64 t125) := (blk_cell BK130.out 2).trans rfl; have hcz45_3 : w44.cell? ⟨gb130, 3, none⟩ = some (.int .i64 t126) := (blk_cell BK130.out 3).trans rfl; have hcz45_4 : w44.cell? ⟨gb130, 4, none⟩ = some (.int .i64 t127) := (blk_cell BK130.out 4).trans rfl; have hcz45_5 : w44.cell? ⟨gb130, 5, none⟩ = some (.int .i64 t128) := (blk_cell BK130.out 5).trans rfl; have hfz45_0 := blk_frozen BK130.out 0; have hfz45_1 := blk_frozen BK130.out 1; have hfz45_2 := blk_frozen BK130.out 2; have hfz45_3 := blk_frozen BK130.out 3; have hfz45_4 := blk_frozen BK130.out 4; have hfz45_5 := blk_frozen BK130.out 5) | ((with_reducible refine gate_callee (f := 14) rfl ?_); refine goesL_ (some 98) rfl rfl Tryd.func14 (by kernel_rfl) rfl #[.agg #[.int .i64 t123, .int .i64 t124, .int .i64 t125, .int .i64 t126, .int .i64 t127, .int .i64 t128], .int .i64 0] rfl (by ((try simp only [List.map_toArray, List.map_cons, List.map_nil]); first | done | rfl | (simp only [List.length_drop, List.length_take]; rfl))) ?_; (with_reducible refine (datetime_Join.calls t123 t124 t125 t126 t127 t128 0 t133 t134 _ A39.out).mono ?_); rintro e w46 ⟨rfl, hb⟩; refine ⟨_, rfl, ?_⟩; have n0_ := Aside0.mk (blk_below (g := gb122) (o := .cells #[.int .i64 t115, .int .i64 t116, .int .i64 t117, .int .i64 t118, .int .i64 t119, .int .i64 t120] 23 (0, 0)) (by (with_reducible repeat (first | refine blk_drewN ?_ _ | refine blk_drew ?_ | refine blk_alloc ?_ _)); exact BK122.out) hb); have n1_ := Aside0.mk (blk_below (g := gb130) (o := .cells #[.int .i64 t123, .int .i64 t124, .int .i64 t125, .int .i64 t126, .int .i64 t127, .int .i64 t128] 23 (0, 0)) (by (with_reducible repeat (first | refine blk_drewN ?_ _ | refine blk_drew ?_ | refine blk_alloc ?_ _)); exact BK130.out) hb); have n2_ := Aside0.mk (below_step (by repeat (first | (with_reducible first | exact HB.out | apply below_alloc | apply pw_below_drewN | apply below_drew1 | refine below_set ?_ GE122.out | refine below_set ?_ GE130.out) | exact HB.out)) hb); clear BK122; clear BK130; clear HB; have BK122 := n0_; have BK130 := n1_; have HB := n2_; clear n0_ n1_ n2_; ((try clear hb); (try clear hb2); (try clear hk); (try clear hi))))
             go_ret
             exact ⟨by (first | rfl | (simp [errW_none, errW_some] <;> rfl) | (simp [*, errW_none, errW_some] <;> rfl)), by repeat (first | (with_reducible first | exact HB.out | apply below_alloc | apply pw_below_drewN | apply below_drew1 | refine below_set ?_ GE122.out | refine below_set ?_ GE130.out) | exact HB.out)⟩
            ·rw [if_neg c41] at H
             have c41b0 : (t134 == 0) = false := beq_eq_false_iff_ne.mpr c41
             have c41b1 : (t134 != 0) = true := bne_iff_ne.mpr c41
             obtain rfl := Option.some.inj H
             have hnb47 := NB122_130.out
             have hnc47 := NB130_122.out
             have hcz48_0 : wc.cell? ⟨gb122, 0, none⟩ = some (.int .i64 t115) := (blk_cell BK122.out 0).trans rfl
             have hcz48_1 : wc.cell? ⟨gb122, 1, none⟩ = some (.int .i64 t116) := (blk_cell BK122.out 1).trans rfl
             have hcz48_2 : wc.cell? ⟨gb122, 2, none⟩ = some (.int .i64 t117) := (blk_cell BK122.out 2).trans rfl
             have hcz48_3 : wc.cell? ⟨gb122, 3, none⟩ = some (.int .i64 t118) := (blk_cell BK122.out 3).trans rfl
             have hcz48_4 : wc.cell? ⟨gb122, 4, none⟩ = some (.int .i64 t119) := (blk_cell BK122.out 4).trans rfl
             have hcz48_5 : wc.cell? ⟨gb122, 5, none⟩ = some (.int .i64 t120) := (blk_cell BK122.out 5).trans rfl
             have hfz48_0 := blk_frozen BK122.out 0
             have hfz48_1 := blk_frozen BK122.out 1
             have hfz48_2 := blk_frozen BK122.out 2
             have hfz48_3 := blk_frozen BK122.out 3
             have hfz48_4 := blk_frozen BK122.out 4
             have hfz48_5 := blk_frozen BK122.out 5
             go_wp2_with (first | ((with_reducible refine gate_callee (f := 14) rfl ?_); refine goesL_ (some 93) rfl rfl Tryd.func14 (by kernel_rfl) rfl #[.agg #[.int .i64 t115, .int .i64 t116, .int .i64 t117, .int .i64 t118, .int .i64 t119, .int .i64 t120], .int .i64 0] rfl (by ((try simp only [List.map_toArray, List.map_cons, List.map_nil]); first | done | rfl | (simp only [List.length_drop, List.length_take]; rfl))) ?_; (with_reducible refine (datetime_Join.calls t115 t116 t117 t118 t119 t120 0 t131 t132 _ A38.out).mono ?_); rintro e w49 ⟨rfl, hb⟩; refine ⟨_, rfl, ?_⟩; have n0_ := Aside0.mk (blk_below (g := gb122) (o := .cells #[.int .i64 t115, .int .i64 t116, .int .i64 t117, .int .i64 t118, .int .i64 t119, .int .i64 t120] 23 (0, 0)) (by (with_reducible repeat (first | refine blk_drewN ?_ _ | refine blk_drew ?_ | refine blk_alloc ?_ _)); exact BK122.out) hb); have n1_ := Aside0.mk (blk_below (g := gb130) (o := .cells #[.int .i64 t123, .int .i64 t124, .int .i64 t125, .int .i64 t126, .int .i64 t127, .int .i64 t128] 23 (0, 0)) (by (with_reducible repeat (first | refine blk_drewN ?_ _ | refine blk_drew ?_ | refine blk_alloc ?_ _)); exact BK130.out) hb); have n2_ := Aside0.mk (below_step (by repeat (first | (with_reducible first | exact HB.out | apply below_alloc | apply pw_below_drewN | apply below_drew1 | refine below_set ?_ GE122.out | refine below_set ?_ GE130.out) | exact HB.out)) hb); clear BK122; clear BK130; clear HB; have BK122 := n0_; have BK130 := n1_; have HB := n2_; clear n0_ n1_ n2_; ((try clear hb); (try clear hb2); (try clear hk); (try clear hi)); have hcz50_0 : w49.cell? ⟨gb130, 0, none⟩ = some (.int .i64 t123) := (blk_cell BK130.out 0).trans rfl; have hcz50_1 : w49.cell? ⟨gb130, 1, none⟩ = some (.int .i64 t124) := (blk_cell BK130.out 1).trans rfl; have hcz50_2 : w49.cell? ⟨gb130, 2, none⟩ = some (.int .i64 t125) := (blk_cell BK130.out 2).trans rfl; have hcz50_3 : w49.cell? ⟨gb130, 3, none⟩ = some (.int .i64 t126) := (blk_cell BK130.out 3).trans rfl; have hcz50_4 : w49.cell? ⟨gb130, 4, none⟩ = some (.int .i64 t127) := (blk_cell BK130.out 4).trans rfl; have hcz50_5 : w49.cell? ⟨gb130, 5, none⟩ = some (.int .i64 t128) := (blk_cell BK130.out 5).trans rfl; have hfz50_0 := blk_frozen BK130.out 0; have hfz50_1 := blk_frozen BK130.out 1; have hfz50_2 := blk_frozen BK130.out 2; have hfz50_3 := blk_frozen BK130.out 3; have hfz50_4 := blk_frozen BK130.out 4; have hfz50_5 := blk_frozen BK130.out 5) | ((with_reducible refine gate_callee (f := 14) rfl ?_); refine goesL_ (some 98) rfl rfl Tryd.func14 (by kernel_rfl) rfl #[.agg #[.int .i64 t123, .int .i64 t124, .int .i64 t125, .int .i64 t126, .int .i64 t127, .int .i64 t128], .int .i64 0] rfl (by ((try simp only [List.map_toArray, List.map_cons, List.map_nil]); first | done | rfl | (simp only [List.length_drop, List.length_take]; rfl))) ?_; (with_reducible refine (datetime_Join.calls t123 t124 t125 t126 t127 t128 0 t133 t134 _ A39.out).mono ?_); rintro e w51 ⟨rfl, hb⟩; refine ⟨_, rfl, ?_⟩; have n0_ := Aside0.mk (blk_below (g := gb122) (o := .cells #[.int .i64 t115, .int .i64 t116, .int .i64 t117, .int .i64 t118, .int .i64 t119, .int .i64 t120] 23 (0, 0)) (by (with_reducible repeat (first | refine blk_drewN ?_ _ | refine blk_drew ?_ | refine blk_alloc ?_ _)); exact BK122.out) hb); have n1_ := Aside0.mk (blk_below (g := gb130) (o := .cells #[.int .i64 t123, .int .i64 t124, .int .i64 t125, .int .i64 t126, .int .i64 t127, .int .i64 t128] 23 (0, 0)) (by (with_reducible repeat (first | refine blk_drewN ?_ _ | refine blk_drew ?_ | refine blk_alloc ?_ _)); exact BK130.out) hb); have n2_ := Aside0.mk (below_step (by repeat (first | (with_reducible first | exact HB.out | apply below_alloc | apply pw_below_drewN | apply below_drew1 | refine below_set ?_ GE122.out | refine below_set ?_ GE130.out) | exact HB.out)) hb); clear BK122; clear BK130; clear HB; have BK122 := n0_; have BK130 := n1_; have HB := n2_; clear n0_ n1_ n2_; ((try clear hb); (try clear hb2); (try clear hk); (try clear hi))))
             go_ret
             exact ⟨by (first | rfl | (simp [errW_none, errW_some] <;> rfl) | (simp [*, errW_none, errW_some] <;> rfl)), by repeat (first | (with_reducible first | exact HB.out | apply below_alloc | apply pw_below_drewN | apply below_drew1 | refine below_set ?_ GE122.out | refine below_set ?_ GE130.out) | exact HB.out)⟩
           ·rw [if_neg c40] at H
            have c40b0 : (t132 == 0) = false := beq_eq_false_iff_ne.mpr c40
            have c40b1 : (t132 != 0) = true := bne_iff_ne.mpr c40
            obtain rfl := Option.some.inj H
            have hnb52 := NB122_130.out
            have hnc52 := NB130_122.out
            have hcz53_0 : wc.cell? ⟨gb122, 0, none⟩ = some (.int .i64 t115) := (blk_cell BK122.out 0).trans rfl
            have hcz53_1 : wc.cell? ⟨gb122, 1, none⟩ = some (.int .i64 t116) := (blk_cell BK122.out 1).trans rfl
            have hcz53_2 : wc.cell? ⟨gb122, 2, none⟩ = some (.int .i64 t117) := (blk_cell BK122.out 2).trans rfl
            have hcz53_3 : wc.cell? ⟨gb122, 3, none⟩ = some (.int .i64 t118) := (blk_cell BK122.out 3).trans rfl
            have hcz53_4 : wc.cell? ⟨gb122, 4, none⟩ = some (.int .i64 t119) := (blk_cell BK122.out 4).trans rfl
            have hcz53_5 : wc.cell? ⟨gb122, 5, none⟩ = some (.int .i64 t120) := (blk_cell BK122.out 5).trans rfl
            have hfz53_0 := blk_frozen BK122.out 0
            have hfz53_1 := blk_frozen BK122.out 1
            have hfz53_2 := blk_frozen BK122.out 2
            have hfz53_3 := blk_frozen BK122.out 3
            have hfz53_4 := blk_frozen BK122.out 4
            have hfz53_5 := blk_frozen BK122.out 5
            go_wp2_with (first | ((with_reducible refine gate_callee (f := 14) rfl ?_); refine goesL_ (some 93) rfl rfl Tryd.func14 (by kernel_rfl) rfl #[.agg #[.int .i64 t115, .int .i64 t116, .int .i64 t117, .int .i64 t118, .int .i64 t119, .int .i64 t120], .int .i64 0] rfl (by ((try simp only [List.map_toArray, List.map_cons, List.map_nil]); first | done | rfl | (simp only [List.length_drop, List.length_take]; rfl))) ?_; (with_reducible refine (datetime_Join.calls t115 t116 t117 t118 t119 t120 0 t131 t132 _ A38.out).mono ?_); rintro e w54 ⟨rfl, hb⟩; refine ⟨_, rfl, ?_⟩; have n0_ := Aside0.mk (blk_below (g := gb122) (o := .cells #[.int .i64 t115, .int .i64 t116, .int .i64 t117, .int .i64 t118, .int .i64 t119, .int .i64 t120] 23 (0, 0)) (by (with_reducible repeat (first | refine blk_drewN ?_ _ | refine blk_drew ?_ | refine blk_alloc ?_ _)); exact BK122.out) hb); have n1_ := Aside0.mk (blk_below (g := gb130) (o := .cells #[.int .i64 t123, .int .i64 t124, .int .i64 t125, .int .i64 t126, .int .i64 t127, .int .i64 t128] 23 (0, 0)) (by (with_reducible repeat (first | refine blk_drewN ?_ _ | refine blk_drew ?_ | refine blk_alloc ?_ _)); exact BK130.out) hb); have n2_ := Aside0.mk (below_step (by repeat (first | (with_reducible first | exact HB.out | apply below_alloc | apply pw_below_drewN | apply below_drew1 | refine below_set ?_ GE122.out | refine below_set ?_ GE130.out) | exact HB.out)) hb); clear BK122; clear BK130; clear HB; have BK122 := n0_; have BK130 := n1_; have HB := n2_; clear n0_ n1_ n2_; ((try clear hb); (try clear hb2); (try clear hk); (try clear hi)); have hcz55_0 : w54.cell? ⟨gb130, 0, none⟩ = some (.int .i64 t123) := (blk_cell BK130.out 0).trans rfl; have hcz55_1 : w54.cell? ⟨gb130, 1, none⟩ = some (.int .i64 t124) := (blk_cell BK130.out 1).trans rfl; have hcz55_2 : w54.cell? ⟨gb130, 2, none⟩ = some (.int .i64 t125) := (blk_cell BK130.out 2).trans rfl; have hcz55_3 : w54.cell? ⟨gb130, 3, none⟩ = some (.int .i64 t126) := (blk_cell BK130.out 3).trans rfl; have hcz55_4 : w54.cell? ⟨gb130, 4, none⟩ = some (.int .i64 t127) := (blk_cell BK130.out 4).trans rfl; have hcz55_5 : w54.cell? ⟨gb130, 5, none⟩ = some (.int .i64 t128) := (blk_cell BK130.out 5).trans rfl; have hfz55_0 := blk_frozen BK130.out 0; have hfz55_1 := blk_frozen BK130.out 1; have hfz55_2 := blk_frozen BK130.out 2; have hfz55_3 := blk_frozen BK130.out 3; have hfz55_4 := blk_frozen BK130.out 4; have hfz55_5 := blk_frozen BK130.out 5) | ((with_reducible refine gate_callee (f := 14) rfl ?_); refine goesL_ (some 98) rfl rfl Tryd.func14 (by kernel_rfl) rfl #[.agg #[.int .i64 t123, .int .i64 t124, .int .i64 t125, .int .i64 t126, .int .i64 t127, .int .i64 t128], .int .i64 0] rfl (by ((try simp only [List.map_toArray, List.map_cons, List.map_nil]); first | done | rfl | (simp only [List.length_drop, List.length_take]; rfl))) ?_; (with_reducible refine (datetime_Join.calls t123 t124 t125 t126 t127 t128 0 t133 t134 _ A39.out).mono ?_); rintro e w56 ⟨rfl, hb⟩; refine ⟨_, rfl, ?_⟩; have n0_ := Aside0.mk (blk_below (g := gb122) (o := .cells #[.int .i64 t115, .int .i64 t116, .int .i64 t117, .int .i64 t118, .int .i64 t119, .int .i64 t120] 23 (0, 0)) (by (with_reducible repeat (first | refine blk_drewN ?_ _ | refine blk_drew ?_ | refine blk_alloc ?_ _)); exact BK122.out) hb); have n1_ := Aside0.mk (blk_below (g := gb130) (o := .cells #[.int .i64 t123, .int .i64 t124, .int .i64 t125, .int .i64 t126, .int .i64 t127, .int .i64 t128] 23 (0, 0)) (by (with_reducible repeat (first | refine blk_drewN ?_ _ | refine blk_drew ?_ | refine blk_alloc ?_ _)); exact BK130.out) hb); have n2_ := Aside0.mk (below_step (by repeat (first | (with_reducible first | exact HB.out | apply below_alloc | apply pw_below_drewN | apply below_drew1 | refine below_set ?_ GE122.out | refine below_set ?_ GE130.out) | exact HB.out)) hb); clear BK122; clear BK130; clear HB; have BK122 := n0_; have BK130 := n1_; have HB := n2_; clear n0_ n1_ n2_; ((try clear hb); (try clear hb2); (try clear hk); (try clear hi))))
            go_ret
            exact ⟨by (first | rfl | (simp [errW_none, errW_some] <;> rfl) | (simp [*, errW_none, errW_some] <;> rfl)), by repeat (first | (with_reducible first | exact HB.out | apply below_alloc | apply pw_below_drewN | apply below_drew1 | refine below_set ?_ GE122.out | refine below_set ?_ GE130.out) | exact HB.out)⟩
 ·replace c5 := Bool.eq_false_iff.mpr c5
  subst c5
  have H1 : (some false) = some r := by rw [if_neg (show ¬ (false = true) by decide)] at H; exact H
  clear H
  have H := H1
  clear H1
  obtain rfl := Option.some.inj H
  go_enter Tryd.func8, Tryd.ntmps8
  go_wp2_with (first | ((with_reducible refine gate_callee (f := 11) rfl ?_); refine goesL_ (some 23) rfl rfl Tryd.func11 (by kernel_rfl) rfl #[] rfl (by ((try simp only [List.map_toArray, List.map_cons, List.map_nil]); first | done | rfl | (simp only [List.length_drop, List.length_take]; rfl))) ?_; (with_reducible refine (masterdisclaw16_awake.calls  false _ ?side1 A4.out).mono ?_); (case side1 => exact HG.below hG_ (by repeat (first | (with_reducible first | exact HB.out | apply below_alloc | apply pw_below_drewN | apply below_drew1) | exact HB.out))); rintro e w57 ⟨rfl, hb⟩; refine ⟨_, rfl, ?_⟩; have n0_ := Aside0.mk (below_step (by repeat (first | (with_reducible first | exact HB.out | apply below_alloc | apply pw_below_drewN | apply below_drew1) | exact HB.out)) hb); clear HB; have HB := n0_; clear n0_; ((try clear hb); (try clear hb2); (try clear hk); (try clear hi))))
  go_ret
  exact ⟨by (first | rfl | (simp [errW_none, errW_some] <;> rfl) | (simp [*, errW_none, errW_some] <;> rfl)), by repeat (first | (with_reducible first | exact HB.out | apply below_alloc | apply pw_below_drewN | apply below_drew1) | exact HB.out)⟩

/-- THE ONE PURE STATEMENT of masterdisclaw16_DatetimeZones: yours. -/
def masterdisclaw16_DatetimeZones.Pure : Prop := ∀ (a0 : Int) (a1 : Int) (a2 : Int), (Lit.int .i64 a0).wf = true → (Lit.int .i64 a1).wf = true → (Lit.int .i64 a2).wf = true → ∃ k, masterdisclaw16_DatetimeZones.f k a0 a1 a2 = some true
theorem masterdisclaw16_DatetimeZones.walk (P : masterdisclaw16_DatetimeZones.Pure) (a0 : Int) (a1 : Int) (a2 : Int) (w : World) (hG_ : HG w) (w0 : (Lit.int .i64 a0).wf = true) (w1 : (Lit.int .i64 a1).wf = true) (w2 : (Lit.int .i64 a2).wf = true) :
  Calls Tryd.prog 8 #[.int .i64 a0, .int .i64 a1, .int .i64 a2] w fun e w' => e = .returned (.bool true) ∧ Below w.heap.size w w' := by
 obtain ⟨k, h⟩ := P a0 a1 a2 w0 w1 w2
 refine (masterdisclaw16_DatetimeZones.calls k a0 a1 a2 true w hG_ h).mono ?_
 rintro e w' ⟨rfl, hd⟩
 exact ⟨rfl, hd⟩

end Go.Proofs.YtnchkpheepbacaaDoor.R
