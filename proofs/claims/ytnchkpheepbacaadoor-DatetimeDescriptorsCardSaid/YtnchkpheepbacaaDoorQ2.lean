/- Printed for this session's own hand contracts by its own program; Lean checks every line. -/
import Derived.Test.YtnchkpheepbacaaDoorQ0
namespace Go.Proofs.YtnchkpheepbacaaDoor.Q
open Go.Proofs.YtnchkpheepbacaaDoor.Hand
open Go.RowKit Go.Proofs.YtnchkpheepbacaaDoorW.PrintWords Go.Proofs.YtnchkpheepbacaaDoorW.PrintLast Go.Proofs.YtnchkpheepbacaaDoorW.PrintMore
attribute [local go_sem] max2_int min2_int max_two min_two max_three min_three max_four min_four   -- for this text's walks alone
set_option linter.unusedVariables false
set_option linter.unusedSimpArgs false

/-! ### datetime_isTime: function 33 -/
def datetime_isTime.f (a0 : Int) : Option (Bool) := if a0 ≥ 315532800 then (some (decide (a0 ≤ 4102444799))) else (some false)
set_option maxHeartbeats 8000000 in
set_option maxRecDepth 100000 in
theorem datetime_isTime.calls (a0 : Int) (r : Bool) (w : World) (h : datetime_isTime.f a0 = some r) :
    Calls Tryd.prog 33 #[.int .i64 a0] w fun e w' => e = .returned (.bool r) ∧ Drawn0 w w' := by
  have H : (if a0 ≥ 315532800 then (some (decide (a0 ≤ 4102444799))) else (some false)) = some r := h
  clear h
  by_cases c2 : a0 ≥ 315532800
  · rw [if_pos c2] at H
    have c2b0 : decide (315532800 ≤ a0) = true := decide_eq_true c2
    clear c2
    obtain rfl := Option.some.inj H
    go_enter Tryd.func33, Tryd.ntmps33
    go_wp2
    go_ret
    exact ⟨by first | rfl | (simp; done) | (simp [*]; done), by repeat (first | exact Drawn0.refl _ | apply Drawn0.step)⟩
  · rw [if_neg c2] at H
    have c2b0 : decide (315532800 ≤ a0) = false := decide_eq_false c2
    clear c2
    obtain rfl := Option.some.inj H
    go_enter Tryd.func33, Tryd.ntmps33
    go_wp2
    go_ret
    exact ⟨by first | rfl | (simp; done) | (simp [*]; done), by repeat (first | exact Drawn0.refl _ | apply Drawn0.step)⟩

/-! ### datetime_isZone: function 34 -/
def datetime_isZone.f (a0 : Int) : Option (Bool) := if a0 ≥ (-1440) then (some (decide (a0 ≤ 1440))) else (some false)
set_option maxHeartbeats 8000000 in
set_option maxRecDepth 100000 in
theorem datetime_isZone.calls (a0 : Int) (r : Bool) (w : World) (h : datetime_isZone.f a0 = some r) :
    Calls Tryd.prog 34 #[.int .i64 a0] w fun e w' => e = .returned (.bool r) ∧ Drawn0 w w' := by
  have H : (if a0 ≥ (-1440) then (some (decide (a0 ≤ 1440))) else (some false)) = some r := h
  clear h
  by_cases c2 : a0 ≥ (-1440)
  · rw [if_pos c2] at H
    have c2b0 : decide ((-1440) ≤ a0) = true := decide_eq_true c2
    clear c2
    obtain rfl := Option.some.inj H
    go_enter Tryd.func34, Tryd.ntmps34
    go_wp2
    go_ret
    exact ⟨by first | rfl | (simp; done) | (simp [*]; done), by repeat (first | exact Drawn0.refl _ | apply Drawn0.step)⟩
  · rw [if_neg c2] at H
    have c2b0 : decide ((-1440) ≤ a0) = false := decide_eq_false c2
    clear c2
    obtain rfl := Option.some.inj H
    go_enter Tryd.func34, Tryd.ntmps34
    go_wp2
    go_ret
    exact ⟨by first | rfl | (simp; done) | (simp [*]; done), by repeat (first | exact Drawn0.refl _ | apply Drawn0.step)⟩

/-! ### datetime_leap: function 54 -/
def datetime_leap.f (a0 : Int) : Option (Bool) := if (Int.tmod a0 400) = 0 then (some true) else (if (Int.tmod a0 4) = 0 then (some ((Int.tmod a0 100) != 0)) else (some false))
set_option maxHeartbeats 8000000 in
set_option maxRecDepth 100000 in
theorem datetime_leap.calls (a0 : Int) (r : Bool) (w : World) (h : datetime_leap.f a0 = some r) :
    Calls Tryd.prog 54 #[.int .i64 a0] w fun e w' => e = .returned (.bool r) ∧ Drawn0 w w' := by
  have H : (if (Int.tmod a0 400) = 0 then (some true) else (if (Int.tmod a0 4) = 0 then (some ((Int.tmod a0 100) != 0)) else (some false))) = some r := h
  clear h
  by_cases c2 : (Int.tmod a0 400) = 0
  · rw [if_pos c2] at H
    have c2b0 : ((Int.tmod a0 400) == 0) = true := beq_iff_eq.mpr c2
    have c2b1 : ((Int.tmod a0 400) != 0) = false := bne_eq_false_iff_eq.mpr c2
    clear c2
    obtain rfl := Option.some.inj H
    go_enter Tryd.func54, Tryd.ntmps54
    go_wp2
    go_ret
    exact ⟨by first | rfl | (simp; done) | (simp [*]; done), by repeat (first | exact Drawn0.refl _ | apply Drawn0.step)⟩
  · rw [if_neg c2] at H
    have c2b0 : ((Int.tmod a0 400) == 0) = false := beq_eq_false_iff_ne.mpr c2
    have c2b1 : ((Int.tmod a0 400) != 0) = true := bne_iff_ne.mpr c2
    by_cases c3 : (Int.tmod a0 4) = 0
    · rw [if_pos c3] at H
      have c3b0 : ((Int.tmod a0 4) == 0) = true := beq_iff_eq.mpr c3
      have c3b1 : ((Int.tmod a0 4) != 0) = false := bne_eq_false_iff_eq.mpr c3
      clear c3
      obtain rfl := Option.some.inj H
      go_enter Tryd.func54, Tryd.ntmps54
      go_wp2
      go_ret
      exact ⟨by first | rfl | (simp; done) | (simp [*]; done), by repeat (first | exact Drawn0.refl _ | apply Drawn0.step)⟩
    · rw [if_neg c3] at H
      have c3b0 : ((Int.tmod a0 4) == 0) = false := beq_eq_false_iff_ne.mpr c3
      have c3b1 : ((Int.tmod a0 4) != 0) = true := bne_iff_ne.mpr c3
      obtain rfl := Option.some.inj H
      go_enter Tryd.func54, Tryd.ntmps54
      go_wp2
      go_ret
      exact ⟨by first | rfl | (simp; done) | (simp [*]; done), by repeat (first | exact Drawn0.refl _ | apply Drawn0.step)⟩

/-! ### datetime_yearDays: function 35 -/
def datetime_yearDays.f (a0 : Int) : Option (Int) := (datetime_leap.f a0).bind fun t101 => (if t101 = true then (some 366) else (some 365))
set_option maxHeartbeats 8000000 in
set_option maxRecDepth 100000 in
theorem datetime_yearDays.calls (a0 : Int) (r : Int) (w : World) (h : datetime_yearDays.f a0 = some r) :
    Calls Tryd.prog 35 #[.int .i64 a0] w fun e w' => e = .returned (.int .i64 r) ∧ Below w.heap.size w w' := by
  have HB := Aside0.mk (Below.refl w.heap.size w)
  have H : ((datetime_leap.f a0).bind fun t101 => (if t101 = true then (some 366) else (some 365))) = some r := h
  clear h
  replace H := Option.bind_eq_some_iff.mp H
  obtain ⟨t101, A20, H⟩ := H
  replace H : (if t101 = true then (some 366) else (some 365)) = some r := H
  have A2 := Aside0.mk A20
  clear A20
  by_cases c3 : t101 = true
  · subst c3
    have H1 : (some 366) = some r := by rw [if_pos rfl] at H; exact H
    clear H
    have H := H1
    clear H1
    obtain rfl := Option.some.inj H
    go_enter Tryd.func35, Tryd.ntmps35
    go_wp2_with (first | ((with_reducible refine gate_callee (f := 54) rfl ?_); refine goesL_ (some 4) rfl rfl Tryd.func54 (by kernel_rfl) rfl #[.int .i64 a0] rfl (by (try simp only [List.map_toArray, List.map_cons, List.map_nil]); first | done | rfl | (simp only [List.length_drop, List.length_take]; rfl)) ?_; (with_reducible refine (datetime_leap.calls a0 true _ A2.out).mono ?_); rintro e w' ⟨rfl, ⟨nd, rfl⟩⟩; refine ⟨_, rfl, ?_⟩))
    go_ret
    exact ⟨by first | rfl | (simp [errW_none, errW_some] <;> rfl) | (simp [*, errW_none, errW_some] <;> rfl), by repeat (first | (with_reducible first | exact HB.out | apply below_alloc | apply pw_below_drewN | apply below_drew1) | exact HB.out)⟩
  · replace c3 := Bool.eq_false_iff.mpr c3
    subst c3
    have H1 : (some 365) = some r := by rw [if_neg (show ¬ (false = true) by decide)] at H; exact H
    clear H
    have H := H1
    clear H1
    obtain rfl := Option.some.inj H
    go_enter Tryd.func35, Tryd.ntmps35
    go_wp2_with (first | ((with_reducible refine gate_callee (f := 54) rfl ?_); refine goesL_ (some 4) rfl rfl Tryd.func54 (by kernel_rfl) rfl #[.int .i64 a0] rfl (by (try simp only [List.map_toArray, List.map_cons, List.map_nil]); first | done | rfl | (simp only [List.length_drop, List.length_take]; rfl)) ?_; (with_reducible refine (datetime_leap.calls a0 false _ A2.out).mono ?_); rintro e w' ⟨rfl, ⟨nd, rfl⟩⟩; refine ⟨_, rfl, ?_⟩))
    go_ret
    exact ⟨by first | rfl | (simp [errW_none, errW_some] <;> rfl) | (simp [*, errW_none, errW_some] <;> rfl), by repeat (first | (with_reducible first | exact HB.out | apply below_alloc | apply pw_below_drewN | apply below_drew1) | exact HB.out)⟩

-- function 36 (datetime_monthDays): walked by hand

/-! ### datetime_Split: function 12 -/
mutual
def datetime_Split.j0 : Nat → Int → Int → Bool → Option (Int × Int × Int × Int × Int × Int × Int)
  | 0, _, _, _ => none
  | k + 1, x0, x1, x17 => if x17 = true then (some (0, 0, 0, 0, 0, 0, 2)) else (datetime_Split.l0 k (wrap64 (Int.tdiv (wrap64 (x0 + (wrap64 (60 * x1)))) 86400)) 1970 1 0 (wrap64 (Int.tdiv (Int.tmod (wrap64 (x0 + (wrap64 (60 * x1)))) 86400) 3600)) (Int.tmod (wrap64 (Int.tdiv (Int.tmod (wrap64 (x0 + (wrap64 (60 * x1)))) 86400) 60)) 60) (Int.tmod (wrap64 (x0 + (wrap64 (60 * x1)))) 60))
def datetime_Split.l0 : Nat → Int → Int → Int → Int → Int → Int → Int → Option (Int × Int × Int × Int × Int × Int × Int)
  | 0, _, _, _, _, _, _, _ => none
  | k + 1, x7, x106000, x106001, x106002, x106003, x106004, x106005 => (datetime_yearDays.f x106000).bind fun t106 => (if x7 ≥ t106 then ((datetime_yearDays.f x106000).bind fun t107 => (datetime_Split.l0 k (wrap64 (x7 - t107)) (wrap64 (x106000 + 1)) x106001 x106002 x106003 x106004 x106005)) else (datetime_Split.l1 k x7 x106000 x106001 x106002 x106003 x106004 x106005))
def datetime_Split.l1 : Nat → Int → Int → Int → Int → Int → Int → Int → Option (Int × Int × Int × Int × Int × Int × Int)
  | 0, _, _, _, _, _, _, _ => none
  | k + 1, x7, x106000, x106001, x106002, x106003, x106004, x106005 => (datetime_monthDays.f x106000 x106001).bind fun t108 => (if x7 ≥ t108 then ((datetime_monthDays.f x106000 x106001).bind fun t109 => (datetime_Split.l1 k (wrap64 (x7 - t109)) x106000 (wrap64 (x106001 + 1)) x106002 x106003 x106004 x106005)) else (some (x106000, x106001, wrap64 (x7 + 1), x106003, x106004, x106005, 0)))
end
def datetime_Split.f (k : Nat) (a0 : Int) (a1 : Int) : Option (Int × Int × Int × Int × Int × Int × Int) := (datetime_isTime.f a0).bind fun t103 => (if t103 = true then ((datetime_isZone.f a1).bind fun t104 => (datetime_Split.j0 k a0 a1 (!t104))) else (datetime_Split.j0 k a0 a1 true))
theorem datetime_Split.mono_l : ∀ k, (∀ y0 y1 y2, LeO (datetime_Split.j0 k y0 y1 y2) (datetime_Split.j0 (k + 1) y0 y1 y2)) ∧ (∀ y0 y1 y2 y3 y4 y5 y6, LeO (datetime_Split.l0 k y0 y1 y2 y3 y4 y5 y6) (datetime_Split.l0 (k + 1) y0 y1 y2 y3 y4 y5 y6)) ∧ (∀ y0 y1 y2 y3 y4 y5 y6, LeO (datetime_Split.l1 k y0 y1 y2 y3 y4 y5 y6) (datetime_Split.l1 (k + 1) y0 y1 y2 y3 y4 y5 y6))
  | 0 => ⟨fun _ _ _ r h => by simp [datetime_Split.j0] at h, fun _ _ _ _ _ _ _ r h => by simp [datetime_Split.l0] at h, fun _ _ _ _ _ _ _ r h => by simp [datetime_Split.l1] at h⟩
  | k + 1 => by
    obtain ⟨ih0, ih1, ih2⟩ := datetime_Split.mono_l k
    refine ⟨?_, ?_, ?_⟩
    · intro y0 y1 y2
      unfold datetime_Split.j0
      repeat' first
      | (with_reducible exact ih0 _ _ _)
      | (with_reducible exact ih1 _ _ _ _ _ _ _)
      | (with_reducible exact ih2 _ _ _ _ _ _ _)
      | (with_reducible exact LeO.refl _)
      | (with_reducible exact LeO.none _)
      | (with_reducible refine LeO.ite ?_ ?_)
      | (with_reducible refine LeO.bind ?_ (fun _ => ?_))
      | exact ih0 _ _ _
      | exact ih1 _ _ _ _ _ _ _
      | exact ih2 _ _ _ _ _ _ _
      | exact LeO.none _
      | refine LeO.ite ?_ ?_
      | refine LeO.bind ?_ (fun _ => ?_)
    · intro y0 y1 y2 y3 y4 y5 y6
      unfold datetime_Split.l0
      repeat' first
      | (with_reducible exact ih0 _ _ _)
      | (with_reducible exact ih1 _ _ _ _ _ _ _)
      | (with_reducible exact ih2 _ _ _ _ _ _ _)
      | (with_reducible exact LeO.refl _)
      | (with_reducible exact LeO.none _)
      | (with_reducible refine LeO.ite ?_ ?_)
      | (with_reducible refine LeO.bind ?_ (fun _ => ?_))
      | exact ih0 _ _ _
      | exact ih1 _ _ _ _ _ _ _
      | exact ih2 _ _ _ _ _ _ _
      | exact LeO.none _
      | refine LeO.ite ?_ ?_
      | refine LeO.bind ?_ (fun _ => ?_)
    · intro y0 y1 y2 y3 y4 y5 y6
      unfold datetime_Split.l1
      repeat' first
      | (with_reducible exact ih0 _ _ _)
      | (with_reducible exact ih1 _ _ _ _ _ _ _)
      | (with_reducible exact ih2 _ _ _ _ _ _ _)
      | (with_reducible exact LeO.refl _)
      | (with_reducible exact LeO.none _)
      | (with_reducible refine LeO.ite ?_ ?_)
      | (with_reducible refine LeO.bind ?_ (fun _ => ?_))
      | exact ih0 _ _ _
      | exact ih1 _ _ _ _ _ _ _
      | exact ih2 _ _ _ _ _ _ _
      | exact LeO.none _
      | refine LeO.ite ?_ ?_
      | refine LeO.bind ?_ (fun _ => ?_)
theorem datetime_Split.mono : ∀ a0 a1 k, LeO (datetime_Split.f k a0 a1) (datetime_Split.f (k + 1) a0 a1) := by
  intro a0 a1 k
  obtain ⟨ih0, ih1, ih2⟩ := datetime_Split.mono_l k
  unfold datetime_Split.f
  repeat' first
      | (with_reducible exact ih0 _ _ _)
      | (with_reducible exact ih1 _ _ _ _ _ _ _)
      | (with_reducible exact ih2 _ _ _ _ _ _ _)
      | (with_reducible exact LeO.refl _)
      | (with_reducible exact LeO.none _)
      | (with_reducible refine LeO.ite ?_ ?_)
      | (with_reducible refine LeO.bind ?_ (fun _ => ?_))
      | exact ih0 _ _ _
      | exact ih1 _ _ _ _ _ _ _
      | exact ih2 _ _ _ _ _ _ _
      | exact LeO.none _
      | refine LeO.ite ?_ ?_
      | refine LeO.bind ?_ (fun _ => ?_)
set_option maxHeartbeats 8000000 in
set_option maxRecDepth 100000 in
theorem datetime_Split.calls (k : Nat) (a0 : Int) (a1 : Int) (r1 : Int) (r2 : Int) (r3 : Int) (r4 : Int) (r5 : Int) (r6 : Int) (r7 : Int) (w : World) (h : datetime_Split.f k a0 a1 = some (r1, r2, r3, r4, r5, r6, r7)) :
    Calls Tryd.prog 12 #[.int .i64 a0, .int .i64 a1] w fun e w' => e = .returned (.tuple #[.agg #[.int .i64 r1, .int .i64 r2, .int .i64 r3, .int .i64 r4, .int .i64 r5, .int .i64 r6], .int .i64 r7]) ∧ Below w.heap.size w w' := by
  have hu23 := Tryd.underlying23
  have HB := Aside0.mk (Below.refl w.heap.size w)
  have H : ((datetime_isTime.f a0).bind fun t103 => (if t103 = true then ((datetime_isZone.f a1).bind fun t104 => (datetime_Split.j0 k a0 a1 (!t104))) else (datetime_Split.j0 k a0 a1 true))) = some (r1, r2, r3, r4, r5, r6, r7) := h
  clear h
  have HC3 := Aside0.mk H
  clear H
  go_enter Tryd.func12, Tryd.ntmps12
  go_upto_region 1 with (first | ((with_reducible refine gate_dst (N := 4) rfl ?_); refine box_event ?hg (N := 4) ?hd (cs := #[.int .i64 0, .int .i64 0, .int .i64 0, .int .i64 0, .int .i64 0, .int .i64 0]) (t := 23) ?hr ?_; (case hd => rfl); (case hg => rfl); (case hr => first | (go_simp; done) | (go_simp; rfl)); intro gb102 hg w4 hbox hb; have n0_ := Aside0.mk (below_step (by repeat (first | (with_reducible first | exact HB.out | apply below_alloc | apply pw_below_drewN | apply below_drew1) | exact HB.out)) hb); have n1_ := Aside0.mk (hbox); have n2_ := Aside0.mk ((by rw [hg]; exact (below_size (by repeat (first | (with_reducible first | exact HB.out | apply below_alloc | apply pw_below_drewN | apply below_drew1) | exact HB.out))) : w.heap.size ≤ gb102)); have n3_ := Aside0.mk ((by rw [hg]; exact (below_size (by repeat (first | (with_reducible first | exact HB.out | apply below_alloc | apply pw_below_drewN | apply below_drew1) | exact HB.out))) : w.heap.size ≤ gb102)); clear HB; have HB := n0_; have BK102 := n1_; have GW102 := n2_; have GE102 := n3_; clear n0_ n1_ n2_ n3_; clear hb hbox hg))
  (try simp only [Act.put, List.setIfInBounds_toArray, List.set_cons_zero, List.set_cons_succ])
  go_cut [17] (fun v17 wc => ∃ (kq : Nat) (x17_2 : Bool), v17 = .bool x17_2 ∧ Aside0 (datetime_Split.j0 kq a0 a1 x17_2 = some (r1, r2, r3, r4, r5, r6, r7)) ∧ Aside0 (kq ≤ k) ∧ Aside0 (wc.heap[gb102]? = some (.cells #[.int .i64 0, .int .i64 0, .int .i64 0, .int .i64 0, .int .i64 0, .int .i64 0] 23 (0, 0))) ∧ Aside0 (Below w.heap.size w wc))
  case first =>
    have H := HC3.out
    clear HC3
    replace H := Option.bind_eq_some_iff.mp H
    obtain ⟨t103, A50, H⟩ := H
    replace H : (if t103 = true then ((datetime_isZone.f a1).bind fun t104 => (datetime_Split.j0 k a0 a1 (!t104))) else (datetime_Split.j0 k a0 a1 true)) = some (r1, r2, r3, r4, r5, r6, r7) := H
    have A5 := Aside0.mk A50
    clear A50
    by_cases c6 : t103 = true
    · subst c6
      have H1 : ((datetime_isZone.f a1).bind fun t104 => (datetime_Split.j0 k a0 a1 (!t104))) = some (r1, r2, r3, r4, r5, r6, r7) := by rw [if_pos rfl] at H; exact H
      clear H
      have H := H1
      clear H1
      replace H := Option.bind_eq_some_iff.mp H
      obtain ⟨t104, A70, H⟩ := H
      replace H : (datetime_Split.j0 k a0 a1 (!t104)) = some (r1, r2, r3, r4, r5, r6, r7) := H
      have A7 := Aside0.mk A70
      clear A70
      have H' := Aside0.mk H
      clear H
      go_wp2_with (first | ((with_reducible refine gate_callee (f := 33) rfl ?_); refine goesL_ (some 11) rfl rfl Tryd.func33 (by kernel_rfl) rfl #[.int .i64 a0] rfl (by (try simp only [List.map_toArray, List.map_cons, List.map_nil]); first | done | rfl | (simp only [List.length_drop, List.length_take]; rfl)) ?_; (with_reducible refine (datetime_isTime.calls a0 true _ A5.out).mono ?_); rintro e w' ⟨rfl, ⟨nd, rfl⟩⟩; refine ⟨_, rfl, ?_⟩) | (go_at_call 34; (with_reducible refine (datetime_isZone.calls a1 t104 _ A7.out).mono ?_); rintro e w' ⟨rfl, ⟨nd, rfl⟩⟩))
      go_meet
      case rel => exact ⟨_, (!t104), (by first | rfl | (simp; done) | (simp [*]; done)), H', ⟨by first | omega | exact Nat.le_refl _⟩, ⟨by (with_reducible repeat (first | refine blk_drewN ?_ _ | refine blk_drew ?_ | refine blk_alloc ?_ _)); exact BK102.out⟩, ⟨by repeat (first | (with_reducible first | exact HB.out | apply below_alloc | apply pw_below_drewN | apply below_drew1 | refine below_set ?_ GE102.out) | exact HB.out)⟩⟩
    · replace c6 := Bool.eq_false_iff.mpr c6
      subst c6
      have H1 : (datetime_Split.j0 k a0 a1 true) = some (r1, r2, r3, r4, r5, r6, r7) := by rw [if_neg (show ¬ (false = true) by decide)] at H; exact H
      clear H
      have H := H1
      clear H1
      have H' := Aside0.mk H
      clear H
      go_wp2_with (first | ((with_reducible refine gate_callee (f := 33) rfl ?_); refine goesL_ (some 11) rfl rfl Tryd.func33 (by kernel_rfl) rfl #[.int .i64 a0] rfl (by (try simp only [List.map_toArray, List.map_cons, List.map_nil]); first | done | rfl | (simp only [List.length_drop, List.length_take]; rfl)) ?_; (with_reducible refine (datetime_isTime.calls a0 false _ A5.out).mono ?_); rintro e w' ⟨rfl, ⟨nd, rfl⟩⟩; refine ⟨_, rfl, ?_⟩))
      go_meet
      case rel => exact ⟨_, (true), (by first | rfl | (simp; done) | (simp [*]; done)), H', ⟨by first | omega | exact Nat.le_refl _⟩, ⟨by (with_reducible repeat (first | refine blk_drewN ?_ _ | refine blk_drew ?_ | refine blk_alloc ?_ _)); exact BK102.out⟩, ⟨by repeat (first | (with_reducible first | exact HB.out | apply below_alloc | apply pw_below_drewN | apply below_drew1 | refine below_set ?_ GE102.out) | exact HB.out)⟩⟩
  case rest =>
    clear HC3
    try clear c1
    try clear p2
    try clear c3
    try clear c6
    obtain ⟨kq, x17_2, rfl, HA, HJ2, BK102, HB⟩ := hcut
    cases kq with
    | zero => exact absurd HA.out (by simp [datetime_Split.j0])
    | succ kj2 =>
      have H := HA.out
      clear HA
      simp only [datetime_Split.j0] at H
      by_cases c8 : x17_2 = true
      · subst c8
        have H1 : (some (0, 0, 0, 0, 0, 0, 2)) = some (r1, r2, r3, r4, r5, r6, r7) := by rw [if_pos rfl] at H; exact H
        clear H
        have H := H1
        clear H1
        simp only [Option.some.injEq, Prod.mk.injEq] at H
        obtain ⟨rfl, rfl, rfl, rfl, rfl, rfl, rfl⟩ := H
        have hcz9_0 : wc.cell? ⟨gb102, 0, none⟩ = some (.int .i64 0) := (blk_cell BK102.out 0).trans rfl
        have hcz9_1 : wc.cell? ⟨gb102, 1, none⟩ = some (.int .i64 0) := (blk_cell BK102.out 1).trans rfl
        have hcz9_2 : wc.cell? ⟨gb102, 2, none⟩ = some (.int .i64 0) := (blk_cell BK102.out 2).trans rfl
        have hcz9_3 : wc.cell? ⟨gb102, 3, none⟩ = some (.int .i64 0) := (blk_cell BK102.out 3).trans rfl
        have hcz9_4 : wc.cell? ⟨gb102, 4, none⟩ = some (.int .i64 0) := (blk_cell BK102.out 4).trans rfl
        have hcz9_5 : wc.cell? ⟨gb102, 5, none⟩ = some (.int .i64 0) := (blk_cell BK102.out 5).trans rfl
        have hfz9_0 := blk_frozen BK102.out 0
        have hfz9_1 := blk_frozen BK102.out 1
        have hfz9_2 := blk_frozen BK102.out 2
        have hfz9_3 := blk_frozen BK102.out 3
        have hfz9_4 := blk_frozen BK102.out 4
        have hfz9_5 := blk_frozen BK102.out 5
        go_wp2
        refine bodyPost_ret (results_ct rfl _ _ gb102 23 #[.int .i64 0, .int .i64 0, .int .i64 0, .int .i64 0, .int .i64 0, .int .i64 0] (0, 0) _ rfl (by (with_reducible repeat (first | refine blk_drewN ?_ _ | refine blk_drew ?_ | refine blk_alloc ?_ _)); refine blk_put (cs := #[.int .i64 0, .int .i64 0, .int .i64 0, .int .i64 0, .int .i64 0, .int .i64 0]) ?_ 5 _ rfl; (with_reducible repeat (first | refine blk_drewN ?_ _ | refine blk_drew ?_ | refine blk_alloc ?_ _)); refine blk_put (cs := #[.int .i64 0, .int .i64 0, .int .i64 0, .int .i64 0, .int .i64 0, .int .i64 0]) ?_ 4 _ rfl; (with_reducible repeat (first | refine blk_drewN ?_ _ | refine blk_drew ?_ | refine blk_alloc ?_ _)); refine blk_put (cs := #[.int .i64 0, .int .i64 0, .int .i64 0, .int .i64 0, .int .i64 0, .int .i64 0]) ?_ 3 _ rfl; (with_reducible repeat (first | refine blk_drewN ?_ _ | refine blk_drew ?_ | refine blk_alloc ?_ _)); refine blk_put (cs := #[.int .i64 0, .int .i64 0, .int .i64 0, .int .i64 0, .int .i64 0, .int .i64 0]) ?_ 2 _ rfl; (with_reducible repeat (first | refine blk_drewN ?_ _ | refine blk_drew ?_ | refine blk_alloc ?_ _)); refine blk_put (cs := #[.int .i64 0, .int .i64 0, .int .i64 0, .int .i64 0, .int .i64 0, .int .i64 0]) ?_ 1 _ rfl; (with_reducible repeat (first | refine blk_drewN ?_ _ | refine blk_drew ?_ | refine blk_alloc ?_ _)); refine blk_put (cs := #[.int .i64 0, .int .i64 0, .int .i64 0, .int .i64 0, .int .i64 0, .int .i64 0]) ?_ 0 _ rfl; (with_reducible repeat (first | refine blk_drewN ?_ _ | refine blk_drew ?_ | refine blk_alloc ?_ _)); exact BK102.out) Tryd.underlying23 rfl (by kernel_rfl)) rfl ?_
        exact ⟨by first | rfl | (simp [errW_none, errW_some] <;> rfl) | (simp [*, errW_none, errW_some] <;> rfl), by repeat (first | (with_reducible first | exact HB.out | apply below_alloc | apply pw_below_drewN | apply below_drew1 | refine below_set ?_ GE102.out) | exact HB.out)⟩
      · replace c8 := Bool.eq_false_iff.mpr c8
        subst c8
        have H1 : (datetime_Split.l0 kj2 (wrap64 (Int.tdiv (wrap64 (a0 + (wrap64 (60 * a1)))) 86400)) 1970 1 0 (wrap64 (Int.tdiv (Int.tmod (wrap64 (a0 + (wrap64 (60 * a1)))) 86400) 3600)) (Int.tmod (wrap64 (Int.tdiv (Int.tmod (wrap64 (a0 + (wrap64 (60 * a1)))) 86400) 60)) 60) (Int.tmod (wrap64 (a0 + (wrap64 (60 * a1)))) 60)) = some (r1, r2, r3, r4, r5, r6, r7) := by rw [if_neg (show ¬ (false = true) by decide)] at H; exact H
        clear H
        have H := H1
        clear H1
        have H' := Aside0.mk H
        clear H
        go_wp2_with (first | ((with_reducible refine gate_dst (N := 9) rfl ?_); refine box_event ?hg (N := 9) ?hd (cs := #[.int .i64 0, .int .i64 0, .int .i64 0, .int .i64 0, .int .i64 0, .int .i64 0]) (t := 23) ?hr ?_; (case hd => rfl); (case hg => rfl); (case hr => first | (go_simp; done) | (go_simp; rfl)); intro gb105 hg w10 hbox hb; have n0_ := Aside0.mk (blk_below (g := gb102) (o := .cells #[.int .i64 0, .int .i64 0, .int .i64 0, .int .i64 0, .int .i64 0, .int .i64 0] 23 (0, 0)) (by (with_reducible repeat (first | refine blk_drewN ?_ _ | refine blk_drew ?_ | refine blk_alloc ?_ _)); exact BK102.out) hb); have n1_ := Aside0.mk (below_step (by repeat (first | (with_reducible first | exact HB.out | apply below_alloc | apply pw_below_drewN | apply below_drew1 | refine below_set ?_ GE102.out) | exact HB.out)) hb); have n2_ := Aside0.mk (hbox); have n3_ := Aside0.mk ((by rw [hg]; exact (below_size (by repeat (first | (with_reducible first | exact HB.out | apply below_alloc | apply pw_below_drewN | apply below_drew1 | refine below_set ?_ GE102.out) | exact HB.out))) : w.heap.size ≤ gb105)); have n4_ := Aside0.mk ((by rw [hg]; exact (below_size (by repeat (first | (with_reducible first | exact HB.out | apply below_alloc | apply pw_below_drewN | apply below_drew1 | refine below_set ?_ GE102.out) | exact HB.out))) : w.heap.size ≤ gb105)); have n5_ := Aside0.mk ((by rw [hg]; exact Nat.ne_of_lt (blk_lt (g := gb102) (o := .cells #[.int .i64 0, .int .i64 0, .int .i64 0, .int .i64 0, .int .i64 0, .int .i64 0] 23 (0, 0)) (by (with_reducible repeat (first | refine blk_drewN ?_ _ | refine blk_drew ?_ | refine blk_alloc ?_ _)); exact BK102.out)) : gb102 ≠ gb105)); have n6_ := Aside0.mk ((by rw [hg]; exact Nat.ne_of_gt (blk_lt (g := gb102) (o := .cells #[.int .i64 0, .int .i64 0, .int .i64 0, .int .i64 0, .int .i64 0, .int .i64 0] 23 (0, 0)) (by (with_reducible repeat (first | refine blk_drewN ?_ _ | refine blk_drew ?_ | refine blk_alloc ?_ _)); exact BK102.out)) : gb105 ≠ gb102)); clear BK102; clear HB; have BK102 := n0_; have HB := n1_; have BK105 := n2_; have GW105 := n3_; have GE105 := n4_; have NB102_105 := n5_; have NB105_102 := n6_; clear n0_ n1_ n2_ n3_ n4_ n5_ n6_; clear hb hbox hg; have hnb11 := NB105_102.out; have hnc11 := NB102_105.out; have hcz12_0 : w10.cell? ⟨gb105, 0, none⟩ = some (.int .i64 0) := (blk_cell BK105.out 0).trans rfl; have hcz12_1 : w10.cell? ⟨gb105, 1, none⟩ = some (.int .i64 0) := (blk_cell BK105.out 1).trans rfl; have hcz12_2 : w10.cell? ⟨gb105, 2, none⟩ = some (.int .i64 0) := (blk_cell BK105.out 2).trans rfl; have hcz12_3 : w10.cell? ⟨gb105, 3, none⟩ = some (.int .i64 0) := (blk_cell BK105.out 3).trans rfl; have hcz12_4 : w10.cell? ⟨gb105, 4, none⟩ = some (.int .i64 0) := (blk_cell BK105.out 4).trans rfl; have hcz12_5 : w10.cell? ⟨gb105, 5, none⟩ = some (.int .i64 0) := (blk_cell BK105.out 5).trans rfl; have hfz12_0 := blk_frozen BK105.out 0; have hfz12_1 := blk_frozen BK105.out 1; have hfz12_2 := blk_frozen BK105.out 2; have hfz12_3 := blk_frozen BK105.out 3; have hfz12_4 := blk_frozen BK105.out 4; have hfz12_5 := blk_frozen BK105.out 5))
        go_loopg [7] kj2 (fun kq v7 w' => ∃ (x7_2 : Int) (x106000_2 : Int), v7 = .int .i64 x7_2 ∧ Aside0 (datetime_Split.l0 kq x7_2 x106000_2 1 0 (wrap64 (Int.tdiv (Int.tmod (wrap64 (a0 + (wrap64 (60 * a1)))) 86400) 3600)) (Int.tmod (wrap64 (Int.tdiv (Int.tmod (wrap64 (a0 + (wrap64 (60 * a1)))) 86400) 60)) 60) (Int.tmod (wrap64 (a0 + (wrap64 (60 * a1)))) 60) = some (r1, r2, r3, r4, r5, r6, r7)) ∧ Aside0 (kq ≤ kj2) ∧ Aside0 (w'.heap[gb102]? = some (.cells #[.int .i64 0, .int .i64 0, .int .i64 0, .int .i64 0, .int .i64 0, .int .i64 0] 23 (0, 0))) ∧ Aside0 (w'.heap[gb105]? = some (.cells #[.int .i64 x106000_2, .int .i64 1, .int .i64 0, .int .i64 (wrap64 (Int.tdiv (Int.tmod (wrap64 (a0 + (wrap64 (60 * a1)))) 86400) 3600)), .int .i64 (Int.tmod (wrap64 (Int.tdiv (Int.tmod (wrap64 (a0 + (wrap64 (60 * a1)))) 86400) 60)) 60), .int .i64 (Int.tmod (wrap64 (a0 + (wrap64 (60 * a1)))) 60)] 23 (0, 0))) ∧ Aside0 (Below w.heap.size w w'))
        case atStart => exact ⟨(wrap64 (Int.tdiv (wrap64 (a0 + (wrap64 (60 * a1)))) 86400)), (1970), (by first | rfl | (simp; done) | (simp [*]; done)), H', ⟨Nat.le_refl _⟩, ⟨by (with_reducible repeat (first | refine blk_drewN ?_ _ | refine blk_drew ?_ | refine blk_alloc ?_ _)); refine blk_far ?_ NB102_105.out _; (with_reducible repeat (first | refine blk_drewN ?_ _ | refine blk_drew ?_ | refine blk_alloc ?_ _)); refine blk_far ?_ NB102_105.out _; (with_reducible repeat (first | refine blk_drewN ?_ _ | refine blk_drew ?_ | refine blk_alloc ?_ _)); refine blk_far ?_ NB102_105.out _; (with_reducible repeat (first | refine blk_drewN ?_ _ | refine blk_drew ?_ | refine blk_alloc ?_ _)); refine blk_far ?_ NB102_105.out _; (with_reducible repeat (first | refine blk_drewN ?_ _ | refine blk_drew ?_ | refine blk_alloc ?_ _)); refine blk_far ?_ NB102_105.out _; (with_reducible repeat (first | refine blk_drewN ?_ _ | refine blk_drew ?_ | refine blk_alloc ?_ _)); refine blk_far ?_ NB102_105.out _; (with_reducible repeat (first | refine blk_drewN ?_ _ | refine blk_drew ?_ | refine blk_alloc ?_ _)); exact BK102.out⟩, ⟨by (with_reducible repeat (first | refine blk_drewN ?_ _ | refine blk_drew ?_ | refine blk_alloc ?_ _)); refine blk_put (cs := #[.int .i64 1970, .int .i64 1, .int .i64 0, .int .i64 (wrap64 (Int.tdiv (Int.tmod (wrap64 (a0 + (wrap64 (60 * a1)))) 86400) 3600)), .int .i64 (Int.tmod (wrap64 (Int.tdiv (Int.tmod (wrap64 (a0 + (wrap64 (60 * a1)))) 86400) 60)) 60), .int .i64 0]) ?_ 5 _ rfl; (with_reducible repeat (first | refine blk_drewN ?_ _ | refine blk_drew ?_ | refine blk_alloc ?_ _)); refine blk_put (cs := #[.int .i64 1970, .int .i64 1, .int .i64 0, .int .i64 (wrap64 (Int.tdiv (Int.tmod (wrap64 (a0 + (wrap64 (60 * a1)))) 86400) 3600)), .int .i64 0, .int .i64 0]) ?_ 4 _ rfl; (with_reducible repeat (first | refine blk_drewN ?_ _ | refine blk_drew ?_ | refine blk_alloc ?_ _)); refine blk_put (cs := #[.int .i64 1970, .int .i64 1, .int .i64 0, .int .i64 0, .int .i64 0, .int .i64 0]) ?_ 3 _ rfl; (with_reducible repeat (first | refine blk_drewN ?_ _ | refine blk_drew ?_ | refine blk_alloc ?_ _)); refine blk_put (cs := #[.int .i64 1970, .int .i64 1, .int .i64 0, .int .i64 0, .int .i64 0, .int .i64 0]) ?_ 2 _ rfl; (with_reducible repeat (first | refine blk_drewN ?_ _ | refine blk_drew ?_ | refine blk_alloc ?_ _)); refine blk_put (cs := #[.int .i64 1970, .int .i64 0, .int .i64 0, .int .i64 0, .int .i64 0, .int .i64 0]) ?_ 1 _ rfl; (with_reducible repeat (first | refine blk_drewN ?_ _ | refine blk_drew ?_ | refine blk_alloc ?_ _)); refine blk_put (cs := #[.int .i64 0, .int .i64 0, .int .i64 0, .int .i64 0, .int .i64 0, .int .i64 0]) ?_ 0 _ rfl; (with_reducible repeat (first | refine blk_drewN ?_ _ | refine blk_drew ?_ | refine blk_alloc ?_ _)); exact BK105.out⟩, ⟨by repeat (first | (with_reducible first | exact HB.out | apply below_alloc | apply pw_below_drewN | apply below_drew1 | refine below_set ?_ GE102.out | refine below_set ?_ GE105.out) | exact HB.out)⟩⟩
        case round =>
          clear H'
          try clear c1
          try clear p2
          try clear c3
          try clear c6
          try clear p6
          try clear c8
          try clear c11
          try clear c12
          try clear hcz12_0
          try clear hcz12_1
          try clear hcz12_2
          try clear hcz12_3
          try clear hcz12_4
          try clear hcz12_5
          try clear hcz9_0
          try clear hcz9_1
          try clear hcz9_2
          try clear hcz9_3
          try clear hcz9_4
          try clear hcz9_5
          try clear hfz12_0
          try clear hfz12_1
          try clear hfz12_2
          try clear hfz12_3
          try clear hfz12_4
          try clear hfz12_5
          try clear hfz9_0
          try clear hfz9_1
          try clear hfz9_2
          try clear hfz9_3
          try clear hfz9_4
          try clear hfz9_5
          try clear p2
          obtain ⟨x7_2, x106000_2, rfl, HA, HK2, BK102, BK105, HB⟩ := hrel
          cases gk with
          | zero => exact absurd HA.out (by simp [datetime_Split.l0])
          | succ k2 =>
            have H := HA.out
            clear HA
            simp only [datetime_Split.l0] at H
            replace H := Option.bind_eq_some_iff.mp H
            obtain ⟨t106, A130, H⟩ := H
            replace H : (if x7_2 ≥ t106 then ((datetime_yearDays.f x106000_2).bind fun t107 => (datetime_Split.l0 k2 (wrap64 (x7_2 - t107)) (wrap64 (x106000_2 + 1)) 1 0 (wrap64 (Int.tdiv (Int.tmod (wrap64 (a0 + (wrap64 (60 * a1)))) 86400) 3600)) (Int.tmod (wrap64 (Int.tdiv (Int.tmod (wrap64 (a0 + (wrap64 (60 * a1)))) 86400) 60)) 60) (Int.tmod (wrap64 (a0 + (wrap64 (60 * a1)))) 60))) else (datetime_Split.l1 k2 x7_2 x106000_2 1 0 (wrap64 (Int.tdiv (Int.tmod (wrap64 (a0 + (wrap64 (60 * a1)))) 86400) 3600)) (Int.tmod (wrap64 (Int.tdiv (Int.tmod (wrap64 (a0 + (wrap64 (60 * a1)))) 86400) 60)) 60) (Int.tmod (wrap64 (a0 + (wrap64 (60 * a1)))) 60))) = some (r1, r2, r3, r4, r5, r6, r7) := H
            have A13 := Aside0.mk A130
            clear A130
            by_cases c14 : x7_2 ≥ t106
            · rw [if_pos c14] at H
              have c14b0 : decide (t106 ≤ x7_2) = true := decide_eq_true c14
              clear c14
              replace H := Option.bind_eq_some_iff.mp H
              obtain ⟨t107, A150, H⟩ := H
              replace H : (datetime_Split.l0 k2 (wrap64 (x7_2 - t107)) (wrap64 (x106000_2 + 1)) 1 0 (wrap64 (Int.tdiv (Int.tmod (wrap64 (a0 + (wrap64 (60 * a1)))) 86400) 3600)) (Int.tmod (wrap64 (Int.tdiv (Int.tmod (wrap64 (a0 + (wrap64 (60 * a1)))) 86400) 60)) 60) (Int.tmod (wrap64 (a0 + (wrap64 (60 * a1)))) 60)) = some (r1, r2, r3, r4, r5, r6, r7) := H
              have A15 := Aside0.mk A150
              clear A150
              have H' := Aside0.mk H
              clear H
              have hnb16 := NB105_102.out
              have hnc16 := NB102_105.out
              have hcz17_0 : wr.cell? ⟨gb105, 0, none⟩ = some (.int .i64 x106000_2) := (blk_cell BK105.out 0).trans rfl
              have hcz17_1 : wr.cell? ⟨gb105, 1, none⟩ = some (.int .i64 1) := (blk_cell BK105.out 1).trans rfl
              have hcz17_2 : wr.cell? ⟨gb105, 2, none⟩ = some (.int .i64 0) := (blk_cell BK105.out 2).trans rfl
              have hcz17_3 : wr.cell? ⟨gb105, 3, none⟩ = some (.int .i64 (wrap64 (Int.tdiv (Int.tmod (wrap64 (a0 + (wrap64 (60 * a1)))) 86400) 3600))) := (blk_cell BK105.out 3).trans rfl
              have hcz17_4 : wr.cell? ⟨gb105, 4, none⟩ = some (.int .i64 (Int.tmod (wrap64 (Int.tdiv (Int.tmod (wrap64 (a0 + (wrap64 (60 * a1)))) 86400) 60)) 60)) := (blk_cell BK105.out 4).trans rfl
              have hcz17_5 : wr.cell? ⟨gb105, 5, none⟩ = some (.int .i64 (Int.tmod (wrap64 (a0 + (wrap64 (60 * a1)))) 60)) := (blk_cell BK105.out 5).trans rfl
              have hfz17_0 := blk_frozen BK105.out 0
              have hfz17_1 := blk_frozen BK105.out 1
              have hfz17_2 := blk_frozen BK105.out 2
              have hfz17_3 := blk_frozen BK105.out 3
              have hfz17_4 := blk_frozen BK105.out 4
              have hfz17_5 := blk_frozen BK105.out 5
              go_wp2_with (first | ((with_reducible refine gate_callee (f := 35) rfl ?_); refine goesL_ (some 38) rfl rfl Tryd.func35 (by kernel_rfl) rfl #[.int .i64 x106000_2] rfl (by (try simp only [List.map_toArray, List.map_cons, List.map_nil]); first | done | rfl | (simp only [List.length_drop, List.length_take]; rfl)) ?_; (with_reducible refine (datetime_yearDays.calls x106000_2 t106 _ A13.out).mono ?_); rintro e w18 ⟨rfl, hb⟩; refine ⟨_, rfl, ?_⟩; have n0_ := Aside0.mk (blk_below (g := gb102) (o := .cells #[.int .i64 0, .int .i64 0, .int .i64 0, .int .i64 0, .int .i64 0, .int .i64 0] 23 (0, 0)) (by (with_reducible repeat (first | refine blk_drewN ?_ _ | refine blk_drew ?_ | refine blk_alloc ?_ _)); exact BK102.out) hb); have n1_ := Aside0.mk (blk_below (g := gb105) (o := .cells #[.int .i64 x106000_2, .int .i64 1, .int .i64 0, .int .i64 (wrap64 (Int.tdiv (Int.tmod (wrap64 (a0 + (wrap64 (60 * a1)))) 86400) 3600)), .int .i64 (Int.tmod (wrap64 (Int.tdiv (Int.tmod (wrap64 (a0 + (wrap64 (60 * a1)))) 86400) 60)) 60), .int .i64 (Int.tmod (wrap64 (a0 + (wrap64 (60 * a1)))) 60)] 23 (0, 0)) (by (with_reducible repeat (first | refine blk_drewN ?_ _ | refine blk_drew ?_ | refine blk_alloc ?_ _)); exact BK105.out) hb); have n2_ := Aside0.mk (below_step (by repeat (first | (with_reducible first | exact HB.out | apply below_alloc | apply pw_below_drewN | apply below_drew1 | refine below_set ?_ GE102.out | refine below_set ?_ GE105.out) | exact HB.out)) hb); clear BK102; clear BK105; clear HB; have BK102 := n0_; have BK105 := n1_; have HB := n2_; clear n0_ n1_ n2_; (try clear hb); (try clear hb2); (try clear hk); (try clear hi); have hcz19_0 : w18.cell? ⟨gb105, 0, none⟩ = some (.int .i64 x106000_2) := (blk_cell BK105.out 0).trans rfl; have hcz19_1 : w18.cell? ⟨gb105, 1, none⟩ = some (.int .i64 1) := (blk_cell BK105.out 1).trans rfl; have hcz19_2 : w18.cell? ⟨gb105, 2, none⟩ = some (.int .i64 0) := (blk_cell BK105.out 2).trans rfl; have hcz19_3 : w18.cell? ⟨gb105, 3, none⟩ = some (.int .i64 (wrap64 (Int.tdiv (Int.tmod (wrap64 (a0 + (wrap64 (60 * a1)))) 86400) 3600))) := (blk_cell BK105.out 3).trans rfl; have hcz19_4 : w18.cell? ⟨gb105, 4, none⟩ = some (.int .i64 (Int.tmod (wrap64 (Int.tdiv (Int.tmod (wrap64 (a0 + (wrap64 (60 * a1)))) 86400) 60)) 60)) := (blk_cell BK105.out 4).trans rfl; have hcz19_5 : w18.cell? ⟨gb105, 5, none⟩ = some (.int .i64 (Int.tmod (wrap64 (a0 + (wrap64 (60 * a1)))) 60)) := (blk_cell BK105.out 5).trans rfl; have hfz19_0 := blk_frozen BK105.out 0; have hfz19_1 := blk_frozen BK105.out 1; have hfz19_2 := blk_frozen BK105.out 2; have hfz19_3 := blk_frozen BK105.out 3; have hfz19_4 := blk_frozen BK105.out 4; have hfz19_5 := blk_frozen BK105.out 5) | ((with_reducible refine gate_callee (f := 35) rfl ?_); refine goesL_ (some 43) rfl rfl Tryd.func35 (by kernel_rfl) rfl #[.int .i64 x106000_2] rfl (by (try simp only [List.map_toArray, List.map_cons, List.map_nil]); first | done | rfl | (simp only [List.length_drop, List.length_take]; rfl)) ?_; (with_reducible refine (datetime_yearDays.calls x106000_2 t107 _ A15.out).mono ?_); rintro e w20 ⟨rfl, hb⟩; refine ⟨_, rfl, ?_⟩; have n0_ := Aside0.mk (blk_below (g := gb102) (o := .cells #[.int .i64 0, .int .i64 0, .int .i64 0, .int .i64 0, .int .i64 0, .int .i64 0] 23 (0, 0)) (by (with_reducible repeat (first | refine blk_drewN ?_ _ | refine blk_drew ?_ | refine blk_alloc ?_ _)); exact BK102.out) hb); have n1_ := Aside0.mk (blk_below (g := gb105) (o := .cells #[.int .i64 x106000_2, .int .i64 1, .int .i64 0, .int .i64 (wrap64 (Int.tdiv (Int.tmod (wrap64 (a0 + (wrap64 (60 * a1)))) 86400) 3600)), .int .i64 (Int.tmod (wrap64 (Int.tdiv (Int.tmod (wrap64 (a0 + (wrap64 (60 * a1)))) 86400) 60)) 60), .int .i64 (Int.tmod (wrap64 (a0 + (wrap64 (60 * a1)))) 60)] 23 (0, 0)) (by (with_reducible repeat (first | refine blk_drewN ?_ _ | refine blk_drew ?_ | refine blk_alloc ?_ _)); exact BK105.out) hb); have n2_ := Aside0.mk (below_step (by repeat (first | (with_reducible first | exact HB.out | apply below_alloc | apply pw_below_drewN | apply below_drew1 | refine below_set ?_ GE102.out | refine below_set ?_ GE105.out) | exact HB.out)) hb); clear BK102; clear BK105; clear HB; have BK102 := n0_; have BK105 := n1_; have HB := n2_; clear n0_ n1_ n2_; (try clear hb); (try clear hb2); (try clear hk); (try clear hi); have hcz21_0 : w20.cell? ⟨gb105, 0, none⟩ = some (.int .i64 x106000_2) := (blk_cell BK105.out 0).trans rfl; have hcz21_1 : w20.cell? ⟨gb105, 1, none⟩ = some (.int .i64 1) := (blk_cell BK105.out 1).trans rfl; have hcz21_2 : w20.cell? ⟨gb105, 2, none⟩ = some (.int .i64 0) := (blk_cell BK105.out 2).trans rfl; have hcz21_3 : w20.cell? ⟨gb105, 3, none⟩ = some (.int .i64 (wrap64 (Int.tdiv (Int.tmod (wrap64 (a0 + (wrap64 (60 * a1)))) 86400) 3600))) := (blk_cell BK105.out 3).trans rfl; have hcz21_4 : w20.cell? ⟨gb105, 4, none⟩ = some (.int .i64 (Int.tmod (wrap64 (Int.tdiv (Int.tmod (wrap64 (a0 + (wrap64 (60 * a1)))) 86400) 60)) 60)) := (blk_cell BK105.out 4).trans rfl; have hcz21_5 : w20.cell? ⟨gb105, 5, none⟩ = some (.int .i64 (Int.tmod (wrap64 (a0 + (wrap64 (60 * a1)))) 60)) := (blk_cell BK105.out 5).trans rfl; have hfz21_0 := blk_frozen BK105.out 0; have hfz21_1 := blk_frozen BK105.out 1; have hfz21_2 := blk_frozen BK105.out 2; have hfz21_3 := blk_frozen BK105.out 3; have hfz21_4 := blk_frozen BK105.out 4; have hfz21_5 := blk_frozen BK105.out 5))
              go_roundg k2
              case measure => have := HJ2.out; have := HK2.out; omega
              case rel => exact ⟨(wrap64 (x7_2 - t107)), (wrap64 (x106000_2 + 1)), (by first | rfl | (simp; done) | (simp [*]; done)), H', ⟨by have := HJ2.out; have := HK2.out; omega⟩, ⟨by (with_reducible repeat (first | refine blk_drewN ?_ _ | refine blk_drew ?_ | refine blk_alloc ?_ _)); refine blk_far ?_ NB102_105.out _; (with_reducible repeat (first | refine blk_drewN ?_ _ | refine blk_drew ?_ | refine blk_alloc ?_ _)); exact BK102.out⟩, ⟨by (with_reducible repeat (first | refine blk_drewN ?_ _ | refine blk_drew ?_ | refine blk_alloc ?_ _)); refine blk_put (cs := #[.int .i64 x106000_2, .int .i64 1, .int .i64 0, .int .i64 (wrap64 (Int.tdiv (Int.tmod (wrap64 (a0 + (wrap64 (60 * a1)))) 86400) 3600)), .int .i64 (Int.tmod (wrap64 (Int.tdiv (Int.tmod (wrap64 (a0 + (wrap64 (60 * a1)))) 86400) 60)) 60), .int .i64 (Int.tmod (wrap64 (a0 + (wrap64 (60 * a1)))) 60)]) ?_ 0 _ rfl; (with_reducible repeat (first | refine blk_drewN ?_ _ | refine blk_drew ?_ | refine blk_alloc ?_ _)); exact BK105.out⟩, ⟨by repeat (first | (with_reducible first | exact HB.out | apply below_alloc | apply pw_below_drewN | apply below_drew1 | refine below_set ?_ GE102.out | refine below_set ?_ GE105.out) | exact HB.out)⟩⟩
            · rw [if_neg c14] at H
              have c14b0 : decide (t106 ≤ x7_2) = false := decide_eq_false c14
              clear c14
              have H' := Aside0.mk H
              clear H
              have hnb22 := NB105_102.out
              have hnc22 := NB102_105.out
              have hcz23_0 : wr.cell? ⟨gb105, 0, none⟩ = some (.int .i64 x106000_2) := (blk_cell BK105.out 0).trans rfl
              have hcz23_1 : wr.cell? ⟨gb105, 1, none⟩ = some (.int .i64 1) := (blk_cell BK105.out 1).trans rfl
              have hcz23_2 : wr.cell? ⟨gb105, 2, none⟩ = some (.int .i64 0) := (blk_cell BK105.out 2).trans rfl
              have hcz23_3 : wr.cell? ⟨gb105, 3, none⟩ = some (.int .i64 (wrap64 (Int.tdiv (Int.tmod (wrap64 (a0 + (wrap64 (60 * a1)))) 86400) 3600))) := (blk_cell BK105.out 3).trans rfl
              have hcz23_4 : wr.cell? ⟨gb105, 4, none⟩ = some (.int .i64 (Int.tmod (wrap64 (Int.tdiv (Int.tmod (wrap64 (a0 + (wrap64 (60 * a1)))) 86400) 60)) 60)) := (blk_cell BK105.out 4).trans rfl
              have hcz23_5 : wr.cell? ⟨gb105, 5, none⟩ = some (.int .i64 (Int.tmod (wrap64 (a0 + (wrap64 (60 * a1)))) 60)) := (blk_cell BK105.out 5).trans rfl
              have hfz23_0 := blk_frozen BK105.out 0
              have hfz23_1 := blk_frozen BK105.out 1
              have hfz23_2 := blk_frozen BK105.out 2
              have hfz23_3 := blk_frozen BK105.out 3
              have hfz23_4 := blk_frozen BK105.out 4
              have hfz23_5 := blk_frozen BK105.out 5
              go_wp2_with (first | ((with_reducible refine gate_callee (f := 35) rfl ?_); refine goesL_ (some 38) rfl rfl Tryd.func35 (by kernel_rfl) rfl #[.int .i64 x106000_2] rfl (by (try simp only [List.map_toArray, List.map_cons, List.map_nil]); first | done | rfl | (simp only [List.length_drop, List.length_take]; rfl)) ?_; (with_reducible refine (datetime_yearDays.calls x106000_2 t106 _ A13.out).mono ?_); rintro e w24 ⟨rfl, hb⟩; refine ⟨_, rfl, ?_⟩; have n0_ := Aside0.mk (blk_below (g := gb102) (o := .cells #[.int .i64 0, .int .i64 0, .int .i64 0, .int .i64 0, .int .i64 0, .int .i64 0] 23 (0, 0)) (by (with_reducible repeat (first | refine blk_drewN ?_ _ | refine blk_drew ?_ | refine blk_alloc ?_ _)); exact BK102.out) hb); have n1_ := Aside0.mk (blk_below (g := gb105) (o := .cells #[.int .i64 x106000_2, .int .i64 1, .int .i64 0, .int .i64 (wrap64 (Int.tdiv (Int.tmod (wrap64 (a0 + (wrap64 (60 * a1)))) 86400) 3600)), .int .i64 (Int.tmod (wrap64 (Int.tdiv (Int.tmod (wrap64 (a0 + (wrap64 (60 * a1)))) 86400) 60)) 60), .int .i64 (Int.tmod (wrap64 (a0 + (wrap64 (60 * a1)))) 60)] 23 (0, 0)) (by (with_reducible repeat (first | refine blk_drewN ?_ _ | refine blk_drew ?_ | refine blk_alloc ?_ _)); exact BK105.out) hb); have n2_ := Aside0.mk (below_step (by repeat (first | (with_reducible first | exact HB.out | apply below_alloc | apply pw_below_drewN | apply below_drew1 | refine below_set ?_ GE102.out | refine below_set ?_ GE105.out) | exact HB.out)) hb); clear BK102; clear BK105; clear HB; have BK102 := n0_; have BK105 := n1_; have HB := n2_; clear n0_ n1_ n2_; (try clear hb); (try clear hb2); (try clear hk); (try clear hi)))
              go_loopg [7] k2 (fun kq v7 w' => ∃ (x7_3 : Int) (x106001_3 : Int), v7 = .int .i64 x7_3 ∧ Aside0 (datetime_Split.l1 kq x7_3 x106000_2 x106001_3 0 (wrap64 (Int.tdiv (Int.tmod (wrap64 (a0 + (wrap64 (60 * a1)))) 86400) 3600)) (Int.tmod (wrap64 (Int.tdiv (Int.tmod (wrap64 (a0 + (wrap64 (60 * a1)))) 86400) 60)) 60) (Int.tmod (wrap64 (a0 + (wrap64 (60 * a1)))) 60) = some (r1, r2, r3, r4, r5, r6, r7)) ∧ Aside0 (kq ≤ k2) ∧ Aside0 (w'.heap[gb102]? = some (.cells #[.int .i64 0, .int .i64 0, .int .i64 0, .int .i64 0, .int .i64 0, .int .i64 0] 23 (0, 0))) ∧ Aside0 (w'.heap[gb105]? = some (.cells #[.int .i64 x106000_2, .int .i64 x106001_3, .int .i64 0, .int .i64 (wrap64 (Int.tdiv (Int.tmod (wrap64 (a0 + (wrap64 (60 * a1)))) 86400) 3600)), .int .i64 (Int.tmod (wrap64 (Int.tdiv (Int.tmod (wrap64 (a0 + (wrap64 (60 * a1)))) 86400) 60)) 60), .int .i64 (Int.tmod (wrap64 (a0 + (wrap64 (60 * a1)))) 60)] 23 (0, 0))) ∧ Aside0 (Below w.heap.size w w'))
              case atStart => exact ⟨(x7_2), (1), (by first | rfl | (simp; done) | (simp [*]; done)), H', ⟨Nat.le_refl _⟩, ⟨by (with_reducible repeat (first | refine blk_drewN ?_ _ | refine blk_drew ?_ | refine blk_alloc ?_ _)); exact BK102.out⟩, ⟨by (with_reducible repeat (first | refine blk_drewN ?_ _ | refine blk_drew ?_ | refine blk_alloc ?_ _)); exact BK105.out⟩, ⟨by repeat (first | (with_reducible first | exact HB.out | apply below_alloc | apply pw_below_drewN | apply below_drew1 | refine below_set ?_ GE102.out | refine below_set ?_ GE105.out) | exact HB.out)⟩⟩
              case round =>
                clear H'
                try clear c1
                try clear c2
                try clear p2
                try clear c3
                try clear c6
                try clear p6
                try clear c8
                try clear c11
                try clear c12
                try clear c14
                try clear c14b0
                try clear c16
                try clear c22
                try clear hcz12_0
                try clear hcz12_1
                try clear hcz12_2
                try clear hcz12_3
                try clear hcz12_4
                try clear hcz12_5
                try clear hcz17_0
                try clear hcz17_1
                try clear hcz17_2
                try clear hcz17_3
                try clear hcz17_4
                try clear hcz17_5
                try clear hcz19_0
                try clear hcz19_1
                try clear hcz19_2
                try clear hcz19_3
                try clear hcz19_4
                try clear hcz19_5
                try clear hcz21_0
                try clear hcz21_1
                try clear hcz21_2
                try clear hcz21_3
                try clear hcz21_4
                try clear hcz21_5
                try clear hcz23_0
                try clear hcz23_1
                try clear hcz23_2
                try clear hcz23_3
                try clear hcz23_4
                try clear hcz23_5
                try clear hcz9_0
                try clear hcz9_1
                try clear hcz9_2
                try clear hcz9_3
                try clear hcz9_4
                try clear hcz9_5
                try clear hfz12_0
                try clear hfz12_1
                try clear hfz12_2
                try clear hfz12_3
                try clear hfz12_4
                try clear hfz12_5
                try clear hfz17_0
                try clear hfz17_1
                try clear hfz17_2
                try clear hfz17_3
                try clear hfz17_4
                try clear hfz17_5
                try clear hfz19_0
                try clear hfz19_1
                try clear hfz19_2
                try clear hfz19_3
                try clear hfz19_4
                try clear hfz19_5
                try clear hfz21_0
                try clear hfz21_1
                try clear hfz21_2
                try clear hfz21_3
                try clear hfz21_4
                try clear hfz21_5
                try clear hfz23_0
                try clear hfz23_1
                try clear hfz23_2
                try clear hfz23_3
                try clear hfz23_4
                try clear hfz23_5
                try clear hfz9_0
                try clear hfz9_1
                try clear hfz9_2
                try clear hfz9_3
                try clear hfz9_4
                try clear hfz9_5
                try clear p2
                try clear p6
                obtain ⟨x7_3, x106001_3, rfl, HA, HK3, BK102, BK105, HB⟩ := hrel
                cases gk with
                | zero => exact absurd HA.out (by simp [datetime_Split.l1])
                | succ k3 =>
                  have H := HA.out
                  clear HA
                  simp only [datetime_Split.l1] at H
                  replace H := Option.bind_eq_some_iff.mp H
                  obtain ⟨t108, A250, H⟩ := H
                  replace H : (if x7_3 ≥ t108 then ((datetime_monthDays.f x106000_2 x106001_3).bind fun t109 => (datetime_Split.l1 k3 (wrap64 (x7_3 - t109)) x106000_2 (wrap64 (x106001_3 + 1)) 0 (wrap64 (Int.tdiv (Int.tmod (wrap64 (a0 + (wrap64 (60 * a1)))) 86400) 3600)) (Int.tmod (wrap64 (Int.tdiv (Int.tmod (wrap64 (a0 + (wrap64 (60 * a1)))) 86400) 60)) 60) (Int.tmod (wrap64 (a0 + (wrap64 (60 * a1)))) 60))) else (some (x106000_2, x106001_3, wrap64 (x7_3 + 1), (wrap64 (Int.tdiv (Int.tmod (wrap64 (a0 + (wrap64 (60 * a1)))) 86400) 3600)), (Int.tmod (wrap64 (Int.tdiv (Int.tmod (wrap64 (a0 + (wrap64 (60 * a1)))) 86400) 60)) 60), (Int.tmod (wrap64 (a0 + (wrap64 (60 * a1)))) 60), 0))) = some (r1, r2, r3, r4, r5, r6, r7) := H
                  have A25 := Aside0.mk A250
                  clear A250
                  by_cases c26 : x7_3 ≥ t108
                  · rw [if_pos c26] at H
                    have c26b0 : decide (t108 ≤ x7_3) = true := decide_eq_true c26
                    clear c26
                    replace H := Option.bind_eq_some_iff.mp H
                    obtain ⟨t109, A270, H⟩ := H
                    replace H : (datetime_Split.l1 k3 (wrap64 (x7_3 - t109)) x106000_2 (wrap64 (x106001_3 + 1)) 0 (wrap64 (Int.tdiv (Int.tmod (wrap64 (a0 + (wrap64 (60 * a1)))) 86400) 3600)) (Int.tmod (wrap64 (Int.tdiv (Int.tmod (wrap64 (a0 + (wrap64 (60 * a1)))) 86400) 60)) 60) (Int.tmod (wrap64 (a0 + (wrap64 (60 * a1)))) 60)) = some (r1, r2, r3, r4, r5, r6, r7) := H
                    have A27 := Aside0.mk A270
                    clear A270
                    have H' := Aside0.mk H
                    clear H
                    have hnb28 := NB105_102.out
                    have hnc28 := NB102_105.out
                    have hcz29_0 : wr.cell? ⟨gb105, 0, none⟩ = some (.int .i64 x106000_2) := (blk_cell BK105.out 0).trans rfl
                    have hcz29_1 : wr.cell? ⟨gb105, 1, none⟩ = some (.int .i64 x106001_3) := (blk_cell BK105.out 1).trans rfl
                    have hcz29_2 : wr.cell? ⟨gb105, 2, none⟩ = some (.int .i64 0) := (blk_cell BK105.out 2).trans rfl
                    have hcz29_3 : wr.cell? ⟨gb105, 3, none⟩ = some (.int .i64 (wrap64 (Int.tdiv (Int.tmod (wrap64 (a0 + (wrap64 (60 * a1)))) 86400) 3600))) := (blk_cell BK105.out 3).trans rfl
                    have hcz29_4 : wr.cell? ⟨gb105, 4, none⟩ = some (.int .i64 (Int.tmod (wrap64 (Int.tdiv (Int.tmod (wrap64 (a0 + (wrap64 (60 * a1)))) 86400) 60)) 60)) := (blk_cell BK105.out 4).trans rfl
                    have hcz29_5 : wr.cell? ⟨gb105, 5, none⟩ = some (.int .i64 (Int.tmod (wrap64 (a0 + (wrap64 (60 * a1)))) 60)) := (blk_cell BK105.out 5).trans rfl
                    have hfz29_0 := blk_frozen BK105.out 0
                    have hfz29_1 := blk_frozen BK105.out 1
                    have hfz29_2 := blk_frozen BK105.out 2
                    have hfz29_3 := blk_frozen BK105.out 3
                    have hfz29_4 := blk_frozen BK105.out 4
                    have hfz29_5 := blk_frozen BK105.out 5
                    go_wp2_with (first | ((with_reducible refine gate_callee (f := 36) rfl ?_); refine goesL_ (some 54) rfl rfl Tryd.func36 (by kernel_rfl) rfl #[.int .i64 x106000_2, .int .i64 x106001_3] rfl (by (try simp only [List.map_toArray, List.map_cons, List.map_nil]); first | done | rfl | (simp only [List.length_drop, List.length_take]; rfl)) ?_; (with_reducible refine (datetime_monthDays.calls x106000_2 x106001_3 t108 _ A25.out).mono ?_); rintro e w30 ⟨rfl, hb⟩; refine ⟨_, rfl, ?_⟩; have n0_ := Aside0.mk (blk_below (g := gb102) (o := .cells #[.int .i64 0, .int .i64 0, .int .i64 0, .int .i64 0, .int .i64 0, .int .i64 0] 23 (0, 0)) (by (with_reducible repeat (first | refine blk_drewN ?_ _ | refine blk_drew ?_ | refine blk_alloc ?_ _)); exact BK102.out) hb); have n1_ := Aside0.mk (blk_below (g := gb105) (o := .cells #[.int .i64 x106000_2, .int .i64 x106001_3, .int .i64 0, .int .i64 (wrap64 (Int.tdiv (Int.tmod (wrap64 (a0 + (wrap64 (60 * a1)))) 86400) 3600)), .int .i64 (Int.tmod (wrap64 (Int.tdiv (Int.tmod (wrap64 (a0 + (wrap64 (60 * a1)))) 86400) 60)) 60), .int .i64 (Int.tmod (wrap64 (a0 + (wrap64 (60 * a1)))) 60)] 23 (0, 0)) (by (with_reducible repeat (first | refine blk_drewN ?_ _ | refine blk_drew ?_ | refine blk_alloc ?_ _)); exact BK105.out) hb); have n2_ := Aside0.mk (below_step (by repeat (first | (with_reducible first | exact HB.out | apply below_alloc | apply pw_below_drewN | apply below_drew1 | refine below_set ?_ GE102.out | refine below_set ?_ GE105.out) | exact HB.out)) hb); clear BK102; clear BK105; clear HB; have BK102 := n0_; have BK105 := n1_; have HB := n2_; clear n0_ n1_ n2_; (try clear hb); (try clear hb2); (try clear hk); (try clear hi); have hcz31_0 : w30.cell? ⟨gb105, 0, none⟩ = some (.int .i64 x106000_2) := (blk_cell BK105.out 0).trans rfl; have hcz31_1 : w30.cell? ⟨gb105, 1, none⟩ = some (.int .i64 x106001_3) := (blk_cell BK105.out 1).trans rfl; have hcz31_2 : w30.cell? ⟨gb105, 2, none⟩ = some (.int .i64 0) := (blk_cell BK105.out 2).trans rfl; have hcz31_3 : w30.cell? ⟨gb105, 3, none⟩ = some (.int .i64 (wrap64 (Int.tdiv (Int.tmod (wrap64 (a0 + (wrap64 (60 * a1)))) 86400) 3600))) := (blk_cell BK105.out 3).trans rfl; have hcz31_4 : w30.cell? ⟨gb105, 4, none⟩ = some (.int .i64 (Int.tmod (wrap64 (Int.tdiv (Int.tmod (wrap64 (a0 + (wrap64 (60 * a1)))) 86400) 60)) 60)) := (blk_cell BK105.out 4).trans rfl; have hcz31_5 : w30.cell? ⟨gb105, 5, none⟩ = some (.int .i64 (Int.tmod (wrap64 (a0 + (wrap64 (60 * a1)))) 60)) := (blk_cell BK105.out 5).trans rfl; have hfz31_0 := blk_frozen BK105.out 0; have hfz31_1 := blk_frozen BK105.out 1; have hfz31_2 := blk_frozen BK105.out 2; have hfz31_3 := blk_frozen BK105.out 3; have hfz31_4 := blk_frozen BK105.out 4; have hfz31_5 := blk_frozen BK105.out 5) | ((with_reducible refine gate_callee (f := 36) rfl ?_); refine goesL_ (some 61) rfl rfl Tryd.func36 (by kernel_rfl) rfl #[.int .i64 x106000_2, .int .i64 x106001_3] rfl (by (try simp only [List.map_toArray, List.map_cons, List.map_nil]); first | done | rfl | (simp only [List.length_drop, List.length_take]; rfl)) ?_; (with_reducible refine (datetime_monthDays.calls x106000_2 x106001_3 t109 _ A27.out).mono ?_); rintro e w32 ⟨rfl, hb⟩; refine ⟨_, rfl, ?_⟩; have n0_ := Aside0.mk (blk_below (g := gb102) (o := .cells #[.int .i64 0, .int .i64 0, .int .i64 0, .int .i64 0, .int .i64 0, .int .i64 0] 23 (0, 0)) (by (with_reducible repeat (first | refine blk_drewN ?_ _ | refine blk_drew ?_ | refine blk_alloc ?_ _)); exact BK102.out) hb); have n1_ := Aside0.mk (blk_below (g := gb105) (o := .cells #[.int .i64 x106000_2, .int .i64 x106001_3, .int .i64 0, .int .i64 (wrap64 (Int.tdiv (Int.tmod (wrap64 (a0 + (wrap64 (60 * a1)))) 86400) 3600)), .int .i64 (Int.tmod (wrap64 (Int.tdiv (Int.tmod (wrap64 (a0 + (wrap64 (60 * a1)))) 86400) 60)) 60), .int .i64 (Int.tmod (wrap64 (a0 + (wrap64 (60 * a1)))) 60)] 23 (0, 0)) (by (with_reducible repeat (first | refine blk_drewN ?_ _ | refine blk_drew ?_ | refine blk_alloc ?_ _)); exact BK105.out) hb); have n2_ := Aside0.mk (below_step (by repeat (first | (with_reducible first | exact HB.out | apply below_alloc | apply pw_below_drewN | apply below_drew1 | refine below_set ?_ GE102.out | refine below_set ?_ GE105.out) | exact HB.out)) hb); clear BK102; clear BK105; clear HB; have BK102 := n0_; have BK105 := n1_; have HB := n2_; clear n0_ n1_ n2_; (try clear hb); (try clear hb2); (try clear hk); (try clear hi); have hcz33_0 : w32.cell? ⟨gb105, 0, none⟩ = some (.int .i64 x106000_2) := (blk_cell BK105.out 0).trans rfl; have hcz33_1 : w32.cell? ⟨gb105, 1, none⟩ = some (.int .i64 x106001_3) := (blk_cell BK105.out 1).trans rfl; have hcz33_2 : w32.cell? ⟨gb105, 2, none⟩ = some (.int .i64 0) := (blk_cell BK105.out 2).trans rfl; have hcz33_3 : w32.cell? ⟨gb105, 3, none⟩ = some (.int .i64 (wrap64 (Int.tdiv (Int.tmod (wrap64 (a0 + (wrap64 (60 * a1)))) 86400) 3600))) := (blk_cell BK105.out 3).trans rfl; have hcz33_4 : w32.cell? ⟨gb105, 4, none⟩ = some (.int .i64 (Int.tmod (wrap64 (Int.tdiv (Int.tmod (wrap64 (a0 + (wrap64 (60 * a1)))) 86400) 60)) 60)) := (blk_cell BK105.out 4).trans rfl; have hcz33_5 : w32.cell? ⟨gb105, 5, none⟩ = some (.int .i64 (Int.tmod (wrap64 (a0 + (wrap64 (60 * a1)))) 60)) := (blk_cell BK105.out 5).trans rfl; have hfz33_0 := blk_frozen BK105.out 0; have hfz33_1 := blk_frozen BK105.out 1; have hfz33_2 := blk_frozen BK105.out 2; have hfz33_3 := blk_frozen BK105.out 3; have hfz33_4 := blk_frozen BK105.out 4; have hfz33_5 := blk_frozen BK105.out 5))
                    go_roundg k3
                    case measure => have := HJ2.out; have := HK2.out; have := HK3.out; omega
                    case rel => exact ⟨(wrap64 (x7_3 - t109)), (wrap64 (x106001_3 + 1)), (by first | rfl | (simp; done) | (simp [*]; done)), H', ⟨by have := HJ2.out; have := HK2.out; have := HK3.out; omega⟩, ⟨by (with_reducible repeat (first | refine blk_drewN ?_ _ | refine blk_drew ?_ | refine blk_alloc ?_ _)); refine blk_far ?_ NB102_105.out _; (with_reducible repeat (first | refine blk_drewN ?_ _ | refine blk_drew ?_ | refine blk_alloc ?_ _)); exact BK102.out⟩, ⟨by (with_reducible repeat (first | refine blk_drewN ?_ _ | refine blk_drew ?_ | refine blk_alloc ?_ _)); refine blk_put (cs := #[.int .i64 x106000_2, .int .i64 x106001_3, .int .i64 0, .int .i64 (wrap64 (Int.tdiv (Int.tmod (wrap64 (a0 + (wrap64 (60 * a1)))) 86400) 3600)), .int .i64 (Int.tmod (wrap64 (Int.tdiv (Int.tmod (wrap64 (a0 + (wrap64 (60 * a1)))) 86400) 60)) 60), .int .i64 (Int.tmod (wrap64 (a0 + (wrap64 (60 * a1)))) 60)]) ?_ 1 _ rfl; (with_reducible repeat (first | refine blk_drewN ?_ _ | refine blk_drew ?_ | refine blk_alloc ?_ _)); exact BK105.out⟩, ⟨by repeat (first | (with_reducible first | exact HB.out | apply below_alloc | apply pw_below_drewN | apply below_drew1 | refine below_set ?_ GE102.out | refine below_set ?_ GE105.out) | exact HB.out)⟩⟩
                  · rw [if_neg c26] at H
                    have c26b0 : decide (t108 ≤ x7_3) = false := decide_eq_false c26
                    clear c26
                    simp only [Option.some.injEq, Prod.mk.injEq] at H
                    obtain ⟨rfl, rfl, rfl, rfl, rfl, rfl, rfl⟩ := H
                    have hnb34 := NB105_102.out
                    have hnc34 := NB102_105.out
                    have hcz35_0 : wr.cell? ⟨gb105, 0, none⟩ = some (.int .i64 x106000_2) := (blk_cell BK105.out 0).trans rfl
                    have hcz35_1 : wr.cell? ⟨gb105, 1, none⟩ = some (.int .i64 x106001_3) := (blk_cell BK105.out 1).trans rfl
                    have hcz35_2 : wr.cell? ⟨gb105, 2, none⟩ = some (.int .i64 0) := (blk_cell BK105.out 2).trans rfl
                    have hcz35_3 : wr.cell? ⟨gb105, 3, none⟩ = some (.int .i64 (wrap64 (Int.tdiv (Int.tmod (wrap64 (a0 + (wrap64 (60 * a1)))) 86400) 3600))) := (blk_cell BK105.out 3).trans rfl
                    have hcz35_4 : wr.cell? ⟨gb105, 4, none⟩ = some (.int .i64 (Int.tmod (wrap64 (Int.tdiv (Int.tmod (wrap64 (a0 + (wrap64 (60 * a1)))) 86400) 60)) 60)) := (blk_cell BK105.out 4).trans rfl
                    have hcz35_5 : wr.cell? ⟨gb105, 5, none⟩ = some (.int .i64 (Int.tmod (wrap64 (a0 + (wrap64 (60 * a1)))) 60)) := (blk_cell BK105.out 5).trans rfl
                    have hfz35_0 := blk_frozen BK105.out 0
                    have hfz35_1 := blk_frozen BK105.out 1
                    have hfz35_2 := blk_frozen BK105.out 2
                    have hfz35_3 := blk_frozen BK105.out 3
                    have hfz35_4 := blk_frozen BK105.out 4
                    have hfz35_5 := blk_frozen BK105.out 5
                    go_wp2_with (first | ((with_reducible refine gate_callee (f := 36) rfl ?_); refine goesL_ (some 54) rfl rfl Tryd.func36 (by kernel_rfl) rfl #[.int .i64 x106000_2, .int .i64 x106001_3] rfl (by (try simp only [List.map_toArray, List.map_cons, List.map_nil]); first | done | rfl | (simp only [List.length_drop, List.length_take]; rfl)) ?_; (with_reducible refine (datetime_monthDays.calls x106000_2 x106001_3 t108 _ A25.out).mono ?_); rintro e w36 ⟨rfl, hb⟩; refine ⟨_, rfl, ?_⟩; have n0_ := Aside0.mk (blk_below (g := gb102) (o := .cells #[.int .i64 0, .int .i64 0, .int .i64 0, .int .i64 0, .int .i64 0, .int .i64 0] 23 (0, 0)) (by (with_reducible repeat (first | refine blk_drewN ?_ _ | refine blk_drew ?_ | refine blk_alloc ?_ _)); exact BK102.out) hb); have n1_ := Aside0.mk (blk_below (g := gb105) (o := .cells #[.int .i64 x106000_2, .int .i64 x106001_3, .int .i64 0, .int .i64 (wrap64 (Int.tdiv (Int.tmod (wrap64 (a0 + (wrap64 (60 * a1)))) 86400) 3600)), .int .i64 (Int.tmod (wrap64 (Int.tdiv (Int.tmod (wrap64 (a0 + (wrap64 (60 * a1)))) 86400) 60)) 60), .int .i64 (Int.tmod (wrap64 (a0 + (wrap64 (60 * a1)))) 60)] 23 (0, 0)) (by (with_reducible repeat (first | refine blk_drewN ?_ _ | refine blk_drew ?_ | refine blk_alloc ?_ _)); exact BK105.out) hb); have n2_ := Aside0.mk (below_step (by repeat (first | (with_reducible first | exact HB.out | apply below_alloc | apply pw_below_drewN | apply below_drew1 | refine below_set ?_ GE102.out | refine below_set ?_ GE105.out) | exact HB.out)) hb); clear BK102; clear BK105; clear HB; have BK102 := n0_; have BK105 := n1_; have HB := n2_; clear n0_ n1_ n2_; (try clear hb); (try clear hb2); (try clear hk); (try clear hi); have hcz37_0 : w36.cell? ⟨gb105, 0, none⟩ = some (.int .i64 x106000_2) := (blk_cell BK105.out 0).trans rfl; have hcz37_1 : w36.cell? ⟨gb105, 1, none⟩ = some (.int .i64 x106001_3) := (blk_cell BK105.out 1).trans rfl; have hcz37_2 : w36.cell? ⟨gb105, 2, none⟩ = some (.int .i64 0) := (blk_cell BK105.out 2).trans rfl; have hcz37_3 : w36.cell? ⟨gb105, 3, none⟩ = some (.int .i64 (wrap64 (Int.tdiv (Int.tmod (wrap64 (a0 + (wrap64 (60 * a1)))) 86400) 3600))) := (blk_cell BK105.out 3).trans rfl; have hcz37_4 : w36.cell? ⟨gb105, 4, none⟩ = some (.int .i64 (Int.tmod (wrap64 (Int.tdiv (Int.tmod (wrap64 (a0 + (wrap64 (60 * a1)))) 86400) 60)) 60)) := (blk_cell BK105.out 4).trans rfl; have hcz37_5 : w36.cell? ⟨gb105, 5, none⟩ = some (.int .i64 (Int.tmod (wrap64 (a0 + (wrap64 (60 * a1)))) 60)) := (blk_cell BK105.out 5).trans rfl; have hfz37_0 := blk_frozen BK105.out 0; have hfz37_1 := blk_frozen BK105.out 1; have hfz37_2 := blk_frozen BK105.out 2; have hfz37_3 := blk_frozen BK105.out 3; have hfz37_4 := blk_frozen BK105.out 4; have hfz37_5 := blk_frozen BK105.out 5; have hcz38_0 : w36.cell? ⟨gb102, 0, none⟩ = some (.int .i64 0) := (blk_cell BK102.out 0).trans rfl; have hcz38_1 : w36.cell? ⟨gb102, 1, none⟩ = some (.int .i64 0) := (blk_cell BK102.out 1).trans rfl; have hcz38_2 : w36.cell? ⟨gb102, 2, none⟩ = some (.int .i64 0) := (blk_cell BK102.out 2).trans rfl; have hcz38_3 : w36.cell? ⟨gb102, 3, none⟩ = some (.int .i64 0) := (blk_cell BK102.out 3).trans rfl; have hcz38_4 : w36.cell? ⟨gb102, 4, none⟩ = some (.int .i64 0) := (blk_cell BK102.out 4).trans rfl; have hcz38_5 : w36.cell? ⟨gb102, 5, none⟩ = some (.int .i64 0) := (blk_cell BK102.out 5).trans rfl; have hfz38_0 := blk_frozen BK102.out 0; have hfz38_1 := blk_frozen BK102.out 1; have hfz38_2 := blk_frozen BK102.out 2; have hfz38_3 := blk_frozen BK102.out 3; have hfz38_4 := blk_frozen BK102.out 4; have hfz38_5 := blk_frozen BK102.out 5))
                    refine bodyPost_ret (results_ct rfl _ _ gb102 23 #[.int .i64 x106000_2, .int .i64 x106001_3, .int .i64 (wrap64 (x7_3 + 1)), .int .i64 (wrap64 (Int.tdiv (Int.tmod (wrap64 (a0 + (wrap64 (60 * a1)))) 86400) 3600)), .int .i64 (Int.tmod (wrap64 (Int.tdiv (Int.tmod (wrap64 (a0 + (wrap64 (60 * a1)))) 86400) 60)) 60), .int .i64 (Int.tmod (wrap64 (a0 + (wrap64 (60 * a1)))) 60)] (0, 0) _ rfl (by (with_reducible repeat (first | refine blk_drewN ?_ _ | refine blk_drew ?_ | refine blk_alloc ?_ _)); refine blk_put (cs := #[.int .i64 x106000_2, .int .i64 x106001_3, .int .i64 (wrap64 (x7_3 + 1)), .int .i64 (wrap64 (Int.tdiv (Int.tmod (wrap64 (a0 + (wrap64 (60 * a1)))) 86400) 3600)), .int .i64 (Int.tmod (wrap64 (Int.tdiv (Int.tmod (wrap64 (a0 + (wrap64 (60 * a1)))) 86400) 60)) 60), .int .i64 0]) ?_ 5 _ rfl; (with_reducible repeat (first | refine blk_drewN ?_ _ | refine blk_drew ?_ | refine blk_alloc ?_ _)); refine blk_put (cs := #[.int .i64 x106000_2, .int .i64 x106001_3, .int .i64 (wrap64 (x7_3 + 1)), .int .i64 (wrap64 (Int.tdiv (Int.tmod (wrap64 (a0 + (wrap64 (60 * a1)))) 86400) 3600)), .int .i64 0, .int .i64 0]) ?_ 4 _ rfl; (with_reducible repeat (first | refine blk_drewN ?_ _ | refine blk_drew ?_ | refine blk_alloc ?_ _)); refine blk_put (cs := #[.int .i64 x106000_2, .int .i64 x106001_3, .int .i64 (wrap64 (x7_3 + 1)), .int .i64 0, .int .i64 0, .int .i64 0]) ?_ 3 _ rfl; (with_reducible repeat (first | refine blk_drewN ?_ _ | refine blk_drew ?_ | refine blk_alloc ?_ _)); refine blk_put (cs := #[.int .i64 x106000_2, .int .i64 x106001_3, .int .i64 0, .int .i64 0, .int .i64 0, .int .i64 0]) ?_ 2 _ rfl; (with_reducible repeat (first | refine blk_drewN ?_ _ | refine blk_drew ?_ | refine blk_alloc ?_ _)); refine blk_put (cs := #[.int .i64 x106000_2, .int .i64 0, .int .i64 0, .int .i64 0, .int .i64 0, .int .i64 0]) ?_ 1 _ rfl; (with_reducible repeat (first | refine blk_drewN ?_ _ | refine blk_drew ?_ | refine blk_alloc ?_ _)); refine blk_put (cs := #[.int .i64 0, .int .i64 0, .int .i64 0, .int .i64 0, .int .i64 0, .int .i64 0]) ?_ 0 _ rfl; (with_reducible repeat (first | refine blk_drewN ?_ _ | refine blk_drew ?_ | refine blk_alloc ?_ _)); refine blk_far ?_ NB102_105.out _; (with_reducible repeat (first | refine blk_drewN ?_ _ | refine blk_drew ?_ | refine blk_alloc ?_ _)); exact BK102.out) Tryd.underlying23 rfl (by kernel_rfl)) rfl ?_
                    exact ⟨by first | rfl | (simp [errW_none, errW_some] <;> rfl) | (simp [*, errW_none, errW_some] <;> rfl), by repeat (first | (with_reducible first | exact HB.out | apply below_alloc | apply pw_below_drewN | apply below_drew1 | refine below_set ?_ GE102.out | refine below_set ?_ GE105.out) | exact HB.out)⟩

-- function 38 (datetime_valid): walked by hand

end Go.Proofs.YtnchkpheepbacaaDoor.Q
