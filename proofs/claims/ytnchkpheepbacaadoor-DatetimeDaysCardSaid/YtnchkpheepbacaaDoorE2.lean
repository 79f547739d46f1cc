/- Printed for this session's own hand contracts by its own program; Lean checks every line. -/
import Derived.Test.YtnchkpheepbacaaDoorE0
import Derived.Test.YtnchkpheepbacaaDoorE1
namespace Go.Proofs.YtnchkpheepbacaaDoor.E
open Go.Proofs.YtnchkpheepbacaaDoor.Z
open Go.Proofs.YtnchkpheepbacaaDoor.Hand (HG HG.below)
open Go.RowKit Go.Proofs.YtnchkpheepbacaaDoorW.PrintWords Go.Proofs.YtnchkpheepbacaaDoorW.PrintLast Go.Proofs.YtnchkpheepbacaaDoorW.PrintMore
attribute [local go_sem] max2_int min2_int max_two min_two max_three min_three max_four min_four   -- for this text's walks alone
set_option linter.unusedVariables false
set_option linter.unusedSimpArgs false

attribute [local go_sem high] eqA23
-- function 11 (masterdisclaw16_awake): walked by hand

-- function 12 (datetime_Split): walked by hand

-- function 14 (datetime_Join): walked by hand

/-! ### masterdisclaw16_DatetimeDays: function 5 -/
mutual
def masterdisclaw16_DatetimeDays.j0 : Nat → Int → Int → Int → Bool → Option (Bool)
  | 0, _, _, _, _ => none
  | k + 1, x0, x1, x2, x21 => if x21 = true then (some true) else ((datetime_Join.f x0 x1 x2 0 0 0 0).bind fun bt103 => (if x1 = 4 then (masterdisclaw16_DatetimeDays.j1 k x0 x1 x2 bt103.1 bt103.2 0 x1 (x1 == 4)) else (if x1 = 6 then (masterdisclaw16_DatetimeDays.j1 k x0 x1 x2 bt103.1 bt103.2 0 x1 (x1 == 6)) else (if x1 = 9 then (masterdisclaw16_DatetimeDays.j1 k x0 x1 x2 bt103.1 bt103.2 0 x1 (x1 == 9)) else (masterdisclaw16_DatetimeDays.j1 k x0 x1 x2 bt103.1 bt103.2 0 x1 (x1 == 11))))))
def masterdisclaw16_DatetimeDays.j3 : Nat → Int → Int → Int → Int → Int → Int → Option (Bool)
  | 0, _, _, _, _, _, _ => none
  | k + 1, x0, x1, x2, x8, x9, x10 => if x2 ≥ 1 then (masterdisclaw16_DatetimeDays.j4 k x0 x1 x2 x8 x9 x10 ((x9 == 0) != (decide (x2 ≤ x10)))) else (masterdisclaw16_DatetimeDays.j4 k x0 x1 x2 x8 x9 x10 ((x9 == 0) != false))
def masterdisclaw16_DatetimeDays.j4 : Nat → Int → Int → Int → Int → Int → Int → Bool → Option (Bool)
  | 0, _, _, _, _, _, _, _ => none
  | k + 1, x0, x1, x2, x8, x9, x10, x59 => if x59 = true then (some false) else (if x9 = 0 then ((datetime_Split.f (wrap64 (x8 + 86400)) 0).bind fun bt105 => (if x2 = x10 then (if (wrap64 (x1 + 1)) = 13 then (if bt105.2.2.2.2.2.2 = 0 then (some (bt105.1 == (wrap64 (x0 + 1)) && (bt105.2.1 == 1 && (bt105.2.2.1 == 1 && (bt105.2.2.2.1 == 0 && (bt105.2.2.2.2.1 == 0 && (bt105.2.2.2.2.2.1 == 0))))))) else (some false)) else (if bt105.2.2.2.2.2.2 = 0 then (some (bt105.1 == x0 && (bt105.2.1 == (wrap64 (x1 + 1)) && (bt105.2.2.1 == 1 && (bt105.2.2.2.1 == 0 && (bt105.2.2.2.2.1 == 0 && (bt105.2.2.2.2.2.1 == 0))))))) else (some false))) else (if x1 = 13 then (if bt105.2.2.2.2.2.2 = 0 then (some (bt105.1 == (wrap64 (x0 + 1)) && (bt105.2.1 == 1 && (bt105.2.2.1 == (wrap64 (x2 + 1)) && (bt105.2.2.2.1 == 0 && (bt105.2.2.2.2.1 == 0 && (bt105.2.2.2.2.2.1 == 0))))))) else (some false)) else (if bt105.2.2.2.2.2.2 = 0 then (some (bt105.1 == x0 && (bt105.2.1 == x1 && (bt105.2.2.1 == (wrap64 (x2 + 1)) && (bt105.2.2.2.1 == 0 && (bt105.2.2.2.2.1 == 0 && (bt105.2.2.2.2.2.1 == 0))))))) else (some false))))) else (if x9 = 1 then (some (x8 == 0)) else (some false)))
def masterdisclaw16_DatetimeDays.j1 : Nat → Int → Int → Int → Int → Int → Int → Int → Bool → Option (Bool)
  | 0, _, _, _, _, _, _, _, _ => none
  | k + 1, x0, x1, x2, x8, x9, x10, x31, x32 => if x32 = true then (masterdisclaw16_DatetimeDays.j3 k x0 x1 x2 x8 x9 30) else (if x31 = 1 then (masterdisclaw16_DatetimeDays.j2 k x0 x1 x2 x8 x9 x10 x31 (x31 == 1)) else (if x31 = 3 then (masterdisclaw16_DatetimeDays.j2 k x0 x1 x2 x8 x9 x10 x31 (x31 == 3)) else (if x31 = 5 then (masterdisclaw16_DatetimeDays.j2 k x0 x1 x2 x8 x9 x10 x31 (x31 == 5)) else (if x31 = 7 then (masterdisclaw16_DatetimeDays.j2 k x0 x1 x2 x8 x9 x10 x31 (x31 == 7)) else (if x31 = 8 then (masterdisclaw16_DatetimeDays.j2 k x0 x1 x2 x8 x9 x10 x31 (x31 == 8)) else (if x31 = 10 then (masterdisclaw16_DatetimeDays.j2 k x0 x1 x2 x8 x9 x10 x31 (x31 == 10)) else (masterdisclaw16_DatetimeDays.j2 k x0 x1 x2 x8 x9 x10 x31 (x31 == 12))))))))
def masterdisclaw16_DatetimeDays.j2 : Nat → Int → Int → Int → Int → Int → Int → Int → Bool → Option (Bool)
  | 0, _, _, _, _, _, _, _, _ => none
  | k + 1, x0, x1, x2, x8, x9, x10, x31, x37 => if x37 = true then (masterdisclaw16_DatetimeDays.j3 k x0 x1 x2 x8 x9 31) else (if x31 = 2 then (if (Int.tmod x0 4) = 0 then (masterdisclaw16_DatetimeDays.j3 k x0 x1 x2 x8 x9 29) else (masterdisclaw16_DatetimeDays.j3 k x0 x1 x2 x8 x9 28)) else (masterdisclaw16_DatetimeDays.j3 k x0 x1 x2 x8 x9 x10))
end
def masterdisclaw16_DatetimeDays.f (k : Nat) (a0 : Int) (a1 : Int) (a2 : Int) : Option (Bool) := (masterdisclaw16_awake.f).bind fun t101 => (if t101 = true then (if a0 < 1980 then (masterdisclaw16_DatetimeDays.j0 k a0 a1 a2 true) else (masterdisclaw16_DatetimeDays.j0 k a0 a1 a2 (decide (a0 > 2098)))) else (some false))
theorem masterdisclaw16_DatetimeDays.mono_l : ∀ k, (∀ y0 y1 y2 y3, LeO (masterdisclaw16_DatetimeDays.j0 k y0 y1 y2 y3) (masterdisclaw16_DatetimeDays.j0 (k + 1) y0 y1 y2 y3)) ∧ (∀ y0 y1 y2 y3 y4 y5, LeO (masterdisclaw16_DatetimeDays.j3 k y0 y1 y2 y3 y4 y5) (masterdisclaw16_DatetimeDays.j3 (k + 1) y0 y1 y2 y3 y4 y5)) ∧ (∀ y0 y1 y2 y3 y4 y5 y6, LeO (masterdisclaw16_DatetimeDays.j4 k y0 y1 y2 y3 y4 y5 y6) (masterdisclaw16_DatetimeDays.j4 (k + 1) y0 y1 y2 y3 y4 y5 y6)) ∧ (∀ y0 y1 y2 y3 y4 y5 y6 y7, LeO (masterdisclaw16_DatetimeDays.j1 k y0 y1 y2 y3 y4 y5 y6 y7) (masterdisclaw16_DatetimeDays.j1 (k + 1) y0 y1 y2 y3 y4 y5 y6 y7)) ∧ (∀ y0 y1 y2 y3 y4 y5 y6 y7, LeO (masterdisclaw16_DatetimeDays.j2 k y0 y1 y2 y3 y4 y5 y6 y7) (masterdisclaw16_DatetimeDays.j2 (k + 1) y0 y1 y2 y3 y4 y5 y6 y7))
  | 0 => ⟨fun _ _ _ _ r h => by simp [masterdisclaw16_DatetimeDays.j0] at h, fun _ _ _ _ _ _ r h => by simp [masterdisclaw16_DatetimeDays.j3] at h, fun _ _ _ _ _ _ _ r h => by simp [masterdisclaw16_DatetimeDays.j4] at h, fun _ _ _ _ _ _ _ _ r h => by simp [masterdisclaw16_DatetimeDays.j1] at h, fun _ _ _ _ _ _ _ _ r h => by simp [masterdisclaw16_DatetimeDays.j2] at h⟩
  | k + 1 => by
    obtain ⟨ih0, ih1, ih2, ih3, ih4⟩ := masterdisclaw16_DatetimeDays.mono_l k
    refine ⟨?_, ?_, ?_, ?_, ?_⟩
    · intro y0 y1 y2 y3
      unfold masterdisclaw16_DatetimeDays.j0
      repeat' first
      | (with_reducible exact ih0 _ _ _ _)
      | (with_reducible exact ih1 _ _ _ _ _ _)
      | (with_reducible exact ih2 _ _ _ _ _ _ _)
      | (with_reducible exact ih3 _ _ _ _ _ _ _ _)
      | (with_reducible exact ih4 _ _ _ _ _ _ _ _)
      | (with_reducible exact LeO.refl _)
      | (with_reducible exact LeO.none _)
      | (with_reducible refine LeO.ite ?_ ?_)
      | (with_reducible refine LeO.bind ?_ (fun _ => ?_))
      | exact ih0 _ _ _ _
      | exact ih1 _ _ _ _ _ _
      | exact ih2 _ _ _ _ _ _ _
      | exact ih3 _ _ _ _ _ _ _ _
      | exact ih4 _ _ _ _ _ _ _ _
      | exact LeO.none _
      | refine LeO.ite ?_ ?_
      | refine LeO.bind ?_ (fun _ => ?_)
    · intro y0 y1 y2 y3 y4 y5
      unfold masterdisclaw16_DatetimeDays.j3
      repeat' first
      | (with_reducible exact ih0 _ _ _ _)
      | (with_reducible exact ih1 _ _ _ _ _ _)
      | (with_reducible exact ih2 _ _ _ _ _ _ _)
      | (with_reducible exact ih3 _ _ _ _ _ _ _ _)
      | (with_reducible exact ih4 _ _ _ _ _ _ _ _)
      | (with_reducible exact LeO.refl _)
      | (with_reducible exact LeO.none _)
      | (with_reducible refine LeO.ite ?_ ?_)
      | (with_reducible refine LeO.bind ?_ (fun _ => ?_))
      | exact ih0 _ _ _ _
      | exact ih1 _ _ _ _ _ _
      | exact ih2 _ _ _ _ _ _ _
      | exact ih3 _ _ _ _ _ _ _ _
      | exact ih4 _ _ _ _ _ _ _ _
      | exact LeO.none _
      | refine LeO.ite ?_ ?_
      | refine LeO.bind ?_ (fun _ => ?_)
    · intro y0 y1 y2 y3 y4 y5 y6
      unfold masterdisclaw16_DatetimeDays.j4
      repeat' first
      | (with_reducible exact ih0 _ _ _ _)
      | (with_reducible exact ih1 _ _ _ _ _ _)
      | (with_reducible exact ih2 _ _ _ _ _ _ _)
      | (with_reducible exact ih3 _ _ _ _ _ _ _ _)
      | (with_reducible exact ih4 _ _ _ _ _ _ _ _)
      | (with_reducible exact LeO.refl _)
      | (with_reducible exact LeO.none _)
      | (with_reducible refine LeO.ite ?_ ?_)
      | (with_reducible refine LeO.bind ?_ (fun _ => ?_))
      | exact ih0 _ _ _ _
      | exact ih1 _ _ _ _ _ _
      | exact ih2 _ _ _ _ _ _ _
      | exact ih3 _ _ _ _ _ _ _ _
      | exact ih4 _ _ _ _ _ _ _ _
      | exact LeO.none _
      | refine LeO.ite ?_ ?_
      | refine LeO.bind ?_ (fun _ => ?_)
    · intro y0 y1 y2 y3 y4 y5 y6 y7
      unfold masterdisclaw16_DatetimeDays.j1
      repeat' first
      | (with_reducible exact ih0 _ _ _ _)
      | (with_reducible exact ih1 _ _ _ _ _ _)
      | (with_reducible exact ih2 _ _ _ _ _ _ _)
      | (with_reducible exact ih3 _ _ _ _ _ _ _ _)
      | (with_reducible exact ih4 _ _ _ _ _ _ _ _)
      | (with_reducible exact LeO.refl _)
      | (with_reducible exact LeO.none _)
      | (with_reducible refine LeO.ite ?_ ?_)
      | (with_reducible refine LeO.bind ?_ (fun _ => ?_))
      | exact ih0 _ _ _ _
      | exact ih1 _ _ _ _ _ _
      | exact ih2 _ _ _ _ _ _ _
      | exact ih3 _ _ _ _ _ _ _ _
      | exact ih4 _ _ _ _ _ _ _ _
      | exact LeO.none _
      | refine LeO.ite ?_ ?_
      | refine LeO.bind ?_ (fun _ => ?_)
    · intro y0 y1 y2 y3 y4 y5 y6 y7
      unfold masterdisclaw16_DatetimeDays.j2
      repeat' first
      | (with_reducible exact ih0 _ _ _ _)
      | (with_reducible exact ih1 _ _ _ _ _ _)
      | (with_reducible exact ih2 _ _ _ _ _ _ _)
      | (with_reducible exact ih3 _ _ _ _ _ _ _ _)
      | (with_reducible exact ih4 _ _ _ _ _ _ _ _)
      | (with_reducible exact LeO.refl _)
      | (with_reducible exact LeO.none _)
      | (with_reducible refine LeO.ite ?_ ?_)
      | (with_reducible refine LeO.bind ?_ (fun _ => ?_))
      | exact ih0 _ _ _ _
      | exact ih1 _ _ _ _ _ _
      | exact ih2 _ _ _ _ _ _ _
      | exact ih3 _ _ _ _ _ _ _ _
      | exact ih4 _ _ _ _ _ _ _ _
      | exact LeO.none _
      | refine LeO.ite ?_ ?_
      | refine LeO.bind ?_ (fun _ => ?_)
theorem masterdisclaw16_DatetimeDays.mono : ∀ a0 a1 a2 k, LeO (masterdisclaw16_DatetimeDays.f k a0 a1 a2) (masterdisclaw16_DatetimeDays.f (k + 1) a0 a1 a2) := by
  intro a0 a1 a2 k
  obtain ⟨ih0, ih1, ih2, ih3, ih4⟩ := masterdisclaw16_DatetimeDays.mono_l k
  unfold masterdisclaw16_DatetimeDays.f
  repeat' first
      | (with_reducible exact ih0 _ _ _ _)
      | (with_reducible exact ih1 _ _ _ _ _ _)
      | (with_reducible exact ih2 _ _ _ _ _ _ _)
      | (with_reducible exact ih3 _ _ _ _ _ _ _ _)
      | (with_reducible exact ih4 _ _ _ _ _ _ _ _)
      | (with_reducible exact LeO.refl _)
      | (with_reducible exact LeO.none _)
      | (with_reducible refine LeO.ite ?_ ?_)
      | (with_reducible refine LeO.bind ?_ (fun _ => ?_))
      | exact ih0 _ _ _ _
      | exact ih1 _ _ _ _ _ _
      | exact ih2 _ _ _ _ _ _ _
      | exact ih3 _ _ _ _ _ _ _ _
      | exact ih4 _ _ _ _ _ _ _ _
      | exact LeO.none _
      | refine LeO.ite ?_ ?_
      | refine LeO.bind ?_ (fun _ => ?_)
set_option maxHeartbeats 8000000 in
set_option maxRecDepth 100000 in
theorem masterdisclaw16_DatetimeDays.calls (k : Nat) (a0 : Int) (a1 : Int) (a2 : Int) (r : Bool) (w : World) (hG_ : HG w) (h : masterdisclaw16_DatetimeDays.f k a0 a1 a2 = some r) :
    Calls Tryd.prog 5 #[.int .i64 a0, .int .i64 a1, .int .i64 a2] w fun e w' => e = .returned (.bool r) ∧ Below w.heap.size w w' := by
  have hu23 := Tryd.underlying23
  have HB := Aside0.mk (Below.refl w.heap.size w)
  have H : ((masterdisclaw16_awake.f).bind fun t101 => (if t101 = true then (if a0 < 1980 then (masterdisclaw16_DatetimeDays.j0 k a0 a1 a2 true) else (masterdisclaw16_DatetimeDays.j0 k a0 a1 a2 (decide (a0 > 2098)))) else (some false))) = some r := h
  clear h
  replace H := Option.bind_eq_some_iff.mp H
  obtain ⟨t101, A40, H⟩ := H
  replace H : (if t101 = true then (if a0 < 1980 then (masterdisclaw16_DatetimeDays.j0 k a0 a1 a2 true) else (masterdisclaw16_DatetimeDays.j0 k a0 a1 a2 (decide (a0 > 2098)))) else (some false)) = some r := H
  have A4 := Aside0.mk A40
  clear A40
  by_cases c5 : t101 = true
  · subst c5
    have H1 : (if a0 < 1980 then (masterdisclaw16_DatetimeDays.j0 k a0 a1 a2 true) else (masterdisclaw16_DatetimeDays.j0 k a0 a1 a2 (decide (a0 > 2098)))) = some r := by rw [if_pos rfl] at H; exact H
    clear H
    have H := H1
    clear H1
    have HC6 := Aside0.mk H
    clear H
    go_enter Tryd.func5, Tryd.ntmps5
    go_upto_region 3 with (first | ((with_reducible refine gate_callee (f := 11) rfl ?_); refine goesL_ (some 14) rfl rfl Tryd.func11 (by kernel_rfl) rfl #[] rfl (by (try simp only [List.map_toArray, List.map_cons, List.map_nil]); first | done | rfl | (simp only [List.length_drop, List.length_take]; rfl)) ?_; (with_reducible refine (masterdisclaw16_awake.calls  true _ ?side1 A4.out).mono ?_); (case side1 => exact HG.below hG_ (by repeat (first | (with_reducible first | exact HB.out | apply below_alloc | apply pw_below_drewN | apply below_drew1) | exact HB.out))); rintro e w7 ⟨rfl, hb⟩; refine ⟨_, rfl, ?_⟩; have n0_ := Aside0.mk (below_step (by repeat (first | (with_reducible first | exact HB.out | apply below_alloc | apply pw_below_drewN | apply below_drew1) | exact HB.out)) hb); clear HB; have HB := n0_; clear n0_; (try clear hb); (try clear hb2); (try clear hk); (try clear hi)))
    (try simp only [Act.put, List.setIfInBounds_toArray, List.set_cons_zero, List.set_cons_succ])
    go_cut [21] (fun v21 wc => ∃ (kq : Nat) (x21_5 : Bool), v21 = .bool x21_5 ∧ Aside0 (masterdisclaw16_DatetimeDays.j0 kq a0 a1 a2 x21_5 = some r) ∧ Aside0 (kq ≤ k) ∧ Aside0 (Below w.heap.size w wc))
    case first =>
      have H := HC6.out
      clear HC6
      by_cases c8 : a0 < 1980
      · rw [if_pos c8] at H
        have c8b0 : decide (a0 < 1980) = true := decide_eq_true c8
        clear c8
        (first | rw [c8b0] | (simp only [i64_w, i32_w]; rw [c8b0]) | skip)
        have H' := Aside0.mk H
        clear H
        go_wp2
        go_meet
        case rel => exact ⟨_, (true), (by first | rfl | (simp; done) | (simp [*]; done)), H', ⟨by first | omega | exact Nat.le_refl _⟩, ⟨by repeat (first | (with_reducible first | exact HB.out | apply below_alloc | apply pw_below_drewN | apply below_drew1) | exact HB.out)⟩⟩
      · rw [if_neg c8] at H
        have c8b0 : decide (a0 < 1980) = false := decide_eq_false c8
        clear c8
        (first | rw [c8b0] | (simp only [i64_w, i32_w]; rw [c8b0]) | skip)
        have H' := Aside0.mk H
        clear H
        go_wp2
        go_meet
        case rel => exact ⟨_, (decide (a0 > 2098)), (by first | rfl | (simp; done) | (simp [*]; done)), H', ⟨by first | omega | exact Nat.le_refl _⟩, ⟨by repeat (first | (with_reducible first | exact HB.out | apply below_alloc | apply pw_below_drewN | apply below_drew1) | exact HB.out)⟩⟩
    case rest =>
      clear HC6
      try clear c1
      try clear p2
      try clear c5
      try clear c8
      try clear c8b0
      obtain ⟨kq, x21_5, rfl, HA, HJ5, HB⟩ := hcut
      cases kq with
      | zero => exact absurd HA.out (by simp [masterdisclaw16_DatetimeDays.j0])
      | succ kj5 =>
        have H := HA.out
        clear HA
        simp only [masterdisclaw16_DatetimeDays.j0] at H
        by_cases c9 : x21_5 = true
        · subst c9
          have H1 : (some true) = some r := by rw [if_pos rfl] at H; exact H
          clear H
          have H := H1
          clear H1
          obtain rfl := Option.some.inj H
          go_wp2
          go_ret
          exact ⟨by first | rfl | (simp [errW_none, errW_some] <;> rfl) | (simp [*, errW_none, errW_some] <;> rfl), by repeat (first | (with_reducible first | exact HB.out | apply below_alloc | apply pw_below_drewN | apply below_drew1) | exact HB.out)⟩
        · replace c9 := Bool.eq_false_iff.mpr c9
          subst c9
          have H1 : ((datetime_Join.f a0 a1 a2 0 0 0 0).bind fun bt103 => (if a1 = 4 then (masterdisclaw16_DatetimeDays.j1 kj5 a0 a1 a2 bt103.1 bt103.2 0 a1 (a1 == 4)) else (if a1 = 6 then (masterdisclaw16_DatetimeDays.j1 kj5 a0 a1 a2 bt103.1 bt103.2 0 a1 (a1 == 6)) else (if a1 = 9 then (masterdisclaw16_DatetimeDays.j1 kj5 a0 a1 a2 bt103.1 bt103.2 0 a1 (a1 == 9)) else (masterdisclaw16_DatetimeDays.j1 kj5 a0 a1 a2 bt103.1 bt103.2 0 a1 (a1 == 11)))))) = some r := by rw [if_neg (show ¬ (false = true) by decide)] at H; exact H
          clear H
          have H := H1
          clear H1
          replace H := Option.bind_eq_some_iff.mp H
          obtain ⟨⟨t103, t104⟩, A100, H⟩ := H
          replace H : (if a1 = 4 then (masterdisclaw16_DatetimeDays.j1 kj5 a0 a1 a2 t103 t104 0 a1 (a1 == 4)) else (if a1 = 6 then (masterdisclaw16_DatetimeDays.j1 kj5 a0 a1 a2 t103 t104 0 a1 (a1 == 6)) else (if a1 = 9 then (masterdisclaw16_DatetimeDays.j1 kj5 a0 a1 a2 t103 t104 0 a1 (a1 == 9)) else (masterdisclaw16_DatetimeDays.j1 kj5 a0 a1 a2 t103 t104 0 a1 (a1 == 11))))) = some r := H
          have A10 := Aside0.mk A100
          clear A100
          have HC11 := Aside0.mk H
          clear H
          go_upto_block 0 with (first | ((with_reducible refine gate_dst (N := 7) rfl ?_); refine box_event ?hg (N := 7) ?hd (cs := #[.int .i64 0, .int .i64 0, .int .i64 0, .int .i64 0, .int .i64 0, .int .i64 0]) (t := 23) ?hr ?_; (case hd => rfl); (case hg => rfl); (case hr => first | (go_simp; done) | (go_simp; rfl)); intro gb102 hg w12 hbox hb; have n0_ := Aside0.mk (below_step (by repeat (first | (with_reducible first | exact HB.out | apply below_alloc | apply pw_below_drewN | apply below_drew1) | exact HB.out)) hb); have n1_ := Aside0.mk (hbox); have n2_ := Aside0.mk ((by rw [hg]; exact (below_size (by repeat (first | (with_reducible first | exact HB.out | apply below_alloc | apply pw_below_drewN | apply below_drew1) | exact HB.out))) : w.heap.size ≤ gb102)); have n3_ := Aside0.mk ((by rw [hg]; exact (below_size (by repeat (first | (with_reducible first | exact HB.out | apply below_alloc | apply pw_below_drewN | apply below_drew1) | exact HB.out))) : w.heap.size ≤ gb102)); clear HB; have HB := n0_; have BK102 := n1_; have GW102 := n2_; have GE102 := n3_; clear n0_ n1_ n2_ n3_; clear hb hbox hg; have hcz13_0 : w12.cell? ⟨gb102, 0, none⟩ = some (.int .i64 0) := (blk_cell BK102.out 0).trans rfl; have hcz13_1 : w12.cell? ⟨gb102, 1, none⟩ = some (.int .i64 0) := (blk_cell BK102.out 1).trans rfl; have hcz13_2 : w12.cell? ⟨gb102, 2, none⟩ = some (.int .i64 0) := (blk_cell BK102.out 2).trans rfl; have hcz13_3 : w12.cell? ⟨gb102, 3, none⟩ = some (.int .i64 0) := (blk_cell BK102.out 3).trans rfl; have hcz13_4 : w12.cell? ⟨gb102, 4, none⟩ = some (.int .i64 0) := (blk_cell BK102.out 4).trans rfl; have hcz13_5 : w12.cell? ⟨gb102, 5, none⟩ = some (.int .i64 0) := (blk_cell BK102.out 5).trans rfl; have hfz13_0 := blk_frozen BK102.out 0; have hfz13_1 := blk_frozen BK102.out 1; have hfz13_2 := blk_frozen BK102.out 2; have hfz13_3 := blk_frozen BK102.out 3; have hfz13_4 := blk_frozen BK102.out 4; have hfz13_5 := blk_frozen BK102.out 5) | ((with_reducible refine gate_callee (f := 14) rfl ?_); refine goesL_ (some 28) rfl rfl Tryd.func14 (by kernel_rfl) rfl #[.agg #[.int .i64 a0, .int .i64 a1, .int .i64 a2, .int .i64 0, .int .i64 0, .int .i64 0], .int .i64 0] rfl (by (try simp only [List.map_toArray, List.map_cons, List.map_nil]); first | done | rfl | (simp only [List.length_drop, List.length_take]; rfl)) ?_; (with_reducible refine (datetime_Join.calls a0 a1 a2 0 0 0 0 t103 t104 _ A10.out).mono ?_); rintro e w14 ⟨rfl, hb⟩; refine ⟨_, rfl, ?_⟩; have n0_ := Aside0.mk (blk_below (g := gb102) (o := .cells #[.int .i64 a0, .int .i64 a1, .int .i64 a2, .int .i64 0, .int .i64 0, .int .i64 0] 23 (0, 0)) (by (with_reducible repeat (first | refine blk_drewN ?_ _ | refine blk_drew ?_ | refine blk_alloc ?_ _)); refine blk_put (cs := #[.int .i64 a0, .int .i64 a1, .int .i64 a2, .int .i64 0, .int .i64 0, .int .i64 0]) ?_ 5 _ rfl; (with_reducible repeat (first | refine blk_drewN ?_ _ | refine blk_drew ?_ | refine blk_alloc ?_ _)); refine blk_put (cs := #[.int .i64 a0, .int .i64 a1, .int .i64 a2, .int .i64 0, .int .i64 0, .int .i64 0]) ?_ 4 _ rfl; (with_reducible repeat (first | refine blk_drewN ?_ _ | refine blk_drew ?_ | refine blk_alloc ?_ _)); refine blk_put (cs := #[.int .i64 a0, .int .i64 a1, .int .i64 a2, .int .i64 0, .int .i64 0, .int .i64 0]) ?_ 3 _ rfl; (with_reducible repeat (first | refine blk_drewN ?_ _ | refine blk_drew ?_ | refine blk_alloc ?_ _)); refine blk_put (cs := #[.int .i64 a0, .int .i64 a1, .int .i64 0, .int .i64 0, .int .i64 0, .int .i64 0]) ?_ 2 _ rfl; (with_reducible repeat (first | refine blk_drewN ?_ _ | refine blk_drew ?_ | refine blk_alloc ?_ _)); refine blk_put (cs := #[.int .i64 a0, .int .i64 0, .int .i64 0, .int .i64 0, .int .i64 0, .int .i64 0]) ?_ 1 _ rfl; (with_reducible repeat (first | refine blk_drewN ?_ _ | refine blk_drew ?_ | refine blk_alloc ?_ _)); refine blk_put (cs := #[.int .i64 0, .int .i64 0, .int .i64 0, .int .i64 0, .int .i64 0, .int .i64 0]) ?_ 0 _ rfl; (with_reducible repeat (first | refine blk_drewN ?_ _ | refine blk_drew ?_ | refine blk_alloc ?_ _)); exact BK102.out) hb); have n1_ := Aside0.mk (below_step (by repeat (first | (with_reducible first | exact HB.out | apply below_alloc | apply pw_below_drewN | apply below_drew1 | refine below_set ?_ GE102.out) | exact HB.out)) hb); clear BK102; clear HB; have BK102 := n0_; have HB := n1_; clear n0_ n1_; (try clear hb); (try clear hb2); (try clear hk); (try clear hi)))
          (try simp only [Act.put, List.setIfInBounds_toArray, List.set_cons_zero, List.set_cons_succ])
          go_cut [10] (fun v10 wc => ∃ (kq : Nat) (x10_10 : Int), v10 = .int .i64 x10_10 ∧ Aside0 (masterdisclaw16_DatetimeDays.j3 kq a0 a1 a2 t103 t104 x10_10 = some r) ∧ Aside0 (kq ≤ kj5) ∧ Aside0 (wc.heap[gb102]? = some (.cells #[.int .i64 a0, .int .i64 a1, .int .i64 a2, .int .i64 0, .int .i64 0, .int .i64 0] 23 (0, 0))) ∧ Aside0 (Below w.heap.size w wc))
          case first =>
            have H := HC11.out
            clear HC11
            have HC15 := Aside0.mk H
            clear H
            go_upto_if 32 with (fail)
            go_cut [32] (fun v32 wc => ∃ (kq : Nat) (x32_14 : Bool), v32 = .bool x32_14 ∧ Aside0 (masterdisclaw16_DatetimeDays.j1 kq a0 a1 a2 t103 t104 0 a1 x32_14 = some r) ∧ Aside0 (kq ≤ kj5) ∧ Aside0 (wc.heap[gb102]? = some (.cells #[.int .i64 a0, .int .i64 a1, .int .i64 a2, .int .i64 0, .int .i64 0, .int .i64 0] 23 (0, 0))) ∧ Aside0 (Below w.heap.size w wc))
            case first =>
              have H := HC15.out
              clear HC15
              by_cases c16 : a1 = 4
              · rw [if_pos c16] at H
                have c16b0 : (a1 == 4) = true := beq_iff_eq.mpr c16
                have c16b1 : (a1 != 4) = false := bne_eq_false_iff_eq.mpr c16
                clear c16
                (first | rw [c16b0] | (simp only [i64_w, i32_w]; rw [c16b0]) | skip)
                have H' := Aside0.mk H
                clear H
                go_wp2
                go_meet
                case rel => exact ⟨_, ((a1 == 4)), (by first | rfl | (simp; done) | (simp [*]; done)), H', ⟨by have := HJ5.out; first | omega | exact Nat.le_refl _⟩, ⟨by (with_reducible repeat (first | refine blk_drewN ?_ _ | refine blk_drew ?_ | refine blk_alloc ?_ _)); exact BK102.out⟩, ⟨by repeat (first | (with_reducible first | exact HB.out | apply below_alloc | apply pw_below_drewN | apply below_drew1 | refine below_set ?_ GE102.out) | exact HB.out)⟩⟩
              · rw [if_neg c16] at H
                have c16b0 : (a1 == 4) = false := beq_eq_false_iff_ne.mpr c16
                have c16b1 : (a1 != 4) = true := bne_iff_ne.mpr c16
                (first | rw [c16b0] | (simp only [i64_w, i32_w]; rw [c16b0]) | skip)
                by_cases c17 : a1 = 6
                · rw [if_pos c17] at H
                  have c17b0 : (a1 == 6) = true := beq_iff_eq.mpr c17
                  have c17b1 : (a1 != 6) = false := bne_eq_false_iff_eq.mpr c17
                  clear c17
                  have H' := Aside0.mk H
                  clear H
                  go_wp2
                  go_meet
                  case rel => exact ⟨_, ((a1 == 6)), (by first | rfl | (simp; done) | (simp [*]; done)), H', ⟨by have := HJ5.out; first | omega | exact Nat.le_refl _⟩, ⟨by (with_reducible repeat (first | refine blk_drewN ?_ _ | refine blk_drew ?_ | refine blk_alloc ?_ _)); exact BK102.out⟩, ⟨by repeat (first | (with_reducible first | exact HB.out | apply below_alloc | apply pw_below_drewN | apply below_drew1 | refine below_set ?_ GE102.out) | exact HB.out)⟩⟩
                · rw [if_neg c17] at H
                  have c17b0 : (a1 == 6) = false := beq_eq_false_iff_ne.mpr c17
                  have c17b1 : (a1 != 6) = true := bne_iff_ne.mpr c17
                  by_cases c18 : a1 = 9
                  · rw [if_pos c18] at H
                    have c18b0 : (a1 == 9) = true := beq_iff_eq.mpr c18
                    have c18b1 : (a1 != 9) = false := bne_eq_false_iff_eq.mpr c18
                    clear c18
                    have H' := Aside0.mk H
                    clear H
                    go_wp2
                    go_meet
                    case rel => exact ⟨_, ((a1 == 9)), (by first | rfl | (simp; done) | (simp [*]; done)), H', ⟨by have := HJ5.out; first | omega | exact Nat.le_refl _⟩, ⟨by (with_reducible repeat (first | refine blk_drewN ?_ _ | refine blk_drew ?_ | refine blk_alloc ?_ _)); exact BK102.out⟩, ⟨by repeat (first | (with_reducible first | exact HB.out | apply below_alloc | apply pw_below_drewN | apply below_drew1 | refine below_set ?_ GE102.out) | exact HB.out)⟩⟩
                  · rw [if_neg c18] at H
                    have c18b0 : (a1 == 9) = false := beq_eq_false_iff_ne.mpr c18
                    have c18b1 : (a1 != 9) = true := bne_iff_ne.mpr c18
                    have H' := Aside0.mk H
                    clear H
                    go_wp2
                    go_meet
                    case rel => exact ⟨_, ((a1 == 11)), (by first | rfl | (simp; done) | (simp [*]; done)), H', ⟨by have := HJ5.out; first | omega | exact Nat.le_refl _⟩, ⟨by (with_reducible repeat (first | refine blk_drewN ?_ _ | refine blk_drew ?_ | refine blk_alloc ?_ _)); exact BK102.out⟩, ⟨by repeat (first | (with_reducible first | exact HB.out | apply below_alloc | apply pw_below_drewN | apply below_drew1 | refine below_set ?_ GE102.out) | exact HB.out)⟩⟩
            case rest =>
              clear HC15
              try clear c1
              try clear p2
              try clear c5
              try clear c8
              try clear c8b0
              try clear c9
              try clear c11
              try clear c14
              try clear c16
              try clear c16b0
              try clear c16b1
              try clear c17
              try clear c17b0
              try clear c17b1
              try clear c18
              try clear c18b0
              try clear c18b1
              try clear hcz13_0
              try clear hcz13_1
              try clear hcz13_2
              try clear hcz13_3
              try clear hcz13_4
              try clear hcz13_5
              try clear hfz13_0
              try clear hfz13_1
              try clear hfz13_2
              try clear hfz13_3
              try clear hfz13_4
              try clear hfz13_5
              try clear p2
              obtain ⟨kq, x32_14, rfl, HA, HJ14, BK102, HB⟩ := hcut
              cases kq with
              | zero => exact absurd HA.out (by simp [masterdisclaw16_DatetimeDays.j1])
              | succ kj14 =>
                have H := HA.out
                clear HA
                simp only [masterdisclaw16_DatetimeDays.j1] at H
                by_cases c19 : x32_14 = true
                · subst c19
                  have H1 : (masterdisclaw16_DatetimeDays.j3 kj14 a0 a1 a2 t103 t104 30) = some r := by rw [if_pos rfl] at H; exact H
                  clear H
                  have H := H1
                  clear H1
                  have H' := Aside0.mk H
                  clear H
                  go_wp2
                  go_meet
                  case rel => exact ⟨_, (30), (by first | rfl | (simp; done) | (simp [*]; done)), H', ⟨by have := HJ5.out; have := HJ14.out; first | omega | exact Nat.le_refl _⟩, ⟨by (with_reducible repeat (first | refine blk_drewN ?_ _ | refine blk_drew ?_ | refine blk_alloc ?_ _)); exact BK102.out⟩, ⟨by repeat (first | (with_reducible first | exact HB.out | apply below_alloc | apply pw_below_drewN | apply below_drew1 | refine below_set ?_ GE102.out) | exact HB.out)⟩⟩
                · replace c19 := Bool.eq_false_iff.mpr c19
                  subst c19
                  have H1 : (if a1 = 1 then (masterdisclaw16_DatetimeDays.j2 kj14 a0 a1 a2 t103 t104 0 a1 (a1 == 1)) else (if a1 = 3 then (masterdisclaw16_DatetimeDays.j2 kj14 a0 a1 a2 t103 t104 0 a1 (a1 == 3)) else (if a1 = 5 then (masterdisclaw16_DatetimeDays.j2 kj14 a0 a1 a2 t103 t104 0 a1 (a1 == 5)) else (if a1 = 7 then (masterdisclaw16_DatetimeDays.j2 kj14 a0 a1 a2 t103 t104 0 a1 (a1 == 7)) else (if a1 = 8 then (masterdisclaw16_DatetimeDays.j2 kj14 a0 a1 a2 t103 t104 0 a1 (a1 == 8)) else (if a1 = 10 then (masterdisclaw16_DatetimeDays.j2 kj14 a0 a1 a2 t103 t104 0 a1 (a1 == 10)) else (masterdisclaw16_DatetimeDays.j2 kj14 a0 a1 a2 t103 t104 0 a1 (a1 == 12)))))))) = some r := by rw [if_neg (show ¬ (false = true) by decide)] at H; exact H
                  clear H
                  have H := H1
                  clear H1
                  have HC20 := Aside0.mk H
                  clear H
                  go_upto_if 37 with (fail)
                  go_cut [37] (fun v37 wc => ∃ (kq : Nat) (x37_19 : Bool), v37 = .bool x37_19 ∧ Aside0 (masterdisclaw16_DatetimeDays.j2 kq a0 a1 a2 t103 t104 0 a1 x37_19 = some r) ∧ Aside0 (kq ≤ kj14) ∧ Aside0 (wc.heap[gb102]? = some (.cells #[.int .i64 a0, .int .i64 a1, .int .i64 a2, .int .i64 0, .int .i64 0, .int .i64 0] 23 (0, 0))) ∧ Aside0 (Below w.heap.size w wc))
                  case first =>
                    have H := HC20.out
                    clear HC20
                    by_cases c21 : a1 = 1
                    · rw [if_pos c21] at H
                      have c21b0 : (a1 == 1) = true := beq_iff_eq.mpr c21
                      have c21b1 : (a1 != 1) = false := bne_eq_false_iff_eq.mpr c21
                      clear c21
                      (first | rw [c21b0] | (simp only [i64_w, i32_w]; rw [c21b0]) | skip)
                      have H' := Aside0.mk H
                      clear H
                      go_wp2
                      go_meet
                      case rel => exact ⟨_, ((a1 == 1)), (by first | rfl | (simp; done) | (simp [*]; done)), H', ⟨by have := HJ5.out; have := HJ14.out; first | omega | exact Nat.le_refl _⟩, ⟨by (with_reducible repeat (first | refine blk_drewN ?_ _ | refine blk_drew ?_ | refine blk_alloc ?_ _)); exact BK102.out⟩, ⟨by repeat (first | (with_reducible first | exact HB.out | apply below_alloc | apply pw_below_drewN | apply below_drew1 | refine below_set ?_ GE102.out) | exact HB.out)⟩⟩
                    · rw [if_neg c21] at H
                      have c21b0 : (a1 == 1) = false := beq_eq_false_iff_ne.mpr c21
                      have c21b1 : (a1 != 1) = true := bne_iff_ne.mpr c21
                      (first | rw [c21b0] | (simp only [i64_w, i32_w]; rw [c21b0]) | skip)
                      by_cases c22 : a1 = 3
                      · rw [if_pos c22] at H
                        have c22b0 : (a1 == 3) = true := beq_iff_eq.mpr c22
                        have c22b1 : (a1 != 3) = false := bne_eq_false_iff_eq.mpr c22
                        clear c22
                        have H' := Aside0.mk H
                        clear H
                        go_wp2
                        go_meet
                        case rel => exact ⟨_, ((a1 == 3)), (by first | rfl | (simp; done) | (simp [*]; done)), H', ⟨by have := HJ5.out; have := HJ14.out; first | omega | exact Nat.le_refl _⟩, ⟨by (with_reducible repeat (first | refine blk_drewN ?_ _ | refine blk_drew ?_ | refine blk_alloc ?_ _)); exact BK102.out⟩, ⟨by repeat (first | (with_reducible first | exact HB.out | apply below_alloc | apply pw_below_drewN | apply below_drew1 | refine below_set ?_ GE102.out) | exact HB.out)⟩⟩
                      · rw [if_neg c22] at H
                        have c22b0 : (a1 == 3) = false := beq_eq_false_iff_ne.mpr c22
                        have c22b1 : (a1 != 3) = true := bne_iff_ne.mpr c22
                        by_cases c23 : a1 = 5
                        · rw [if_pos c23] at H
                          have c23b0 : (a1 == 5) = true := beq_iff_eq.mpr c23
                          have c23b1 : (a1 != 5) = false := bne_eq_false_iff_eq.mpr c23
                          clear c23
                          have H' := Aside0.mk H
                          clear H
                          go_wp2
                          go_meet
                          case rel => exact ⟨_, ((a1 == 5)), (by first | rfl | (simp; done) | (simp [*]; done)), H', ⟨by have := HJ5.out; have := HJ14.out; first | omega | exact Nat.le_refl _⟩, ⟨by (with_reducible repeat (first | refine blk_drewN ?_ _ | refine blk_drew ?_ | refine blk_alloc ?_ _)); exact BK102.out⟩, ⟨by repeat (first | (with_reducible first | exact HB.out | apply below_alloc | apply pw_below_drewN | apply below_drew1 | refine below_set ?_ GE102.out) | exact HB.out)⟩⟩
                        · rw [if_neg c23] at H
                          have c23b0 : (a1 == 5) = false := beq_eq_false_iff_ne.mpr c23
                          have c23b1 : (a1 != 5) = true := bne_iff_ne.mpr c23
                          by_cases c24 : a1 = 7
                          · rw [if_pos c24] at H
                            have c24b0 : (a1 == 7) = true := beq_iff_eq.mpr c24
                            have c24b1 : (a1 != 7) = false := bne_eq_false_iff_eq.mpr c24
                            clear c24
                            have H' := Aside0.mk H
                            clear H
                            go_wp2
                            go_meet
                            case rel => exact ⟨_, ((a1 == 7)), (by first | rfl | (simp; done) | (simp [*]; done)), H', ⟨by have := HJ5.out; have := HJ14.out; first | omega | exact Nat.le_refl _⟩, ⟨by (with_reducible repeat (first | refine blk_drewN ?_ _ | refine blk_drew ?_ | refine blk_alloc ?_ _)); exact BK102.out⟩, ⟨by repeat (first | (with_reducible first | exact HB.out | apply below_alloc | apply pw_below_drewN | apply below_drew1 | refine below_set ?_ GE102.out) | exact HB.out)⟩⟩
                          · rw [if_neg c24] at H
                            have c24b0 : (a1 == 7) = false := beq_eq_false_iff_ne.mpr c24
                            have c24b1 : (a1 != 7) = true := bne_iff_ne.mpr c24
                            by_cases c25 : a1 = 8
                            · rw [if_pos c25] at H
                              have c25b0 : (a1 == 8) = true := beq_iff_eq.mpr c25
                              have c25b1 : (a1 != 8) = false := bne_eq_false_iff_eq.mpr c25
                              clear c25
                              have H' := Aside0.mk H
                              clear H
                              go_wp2
                              go_meet
                              case rel => exact ⟨_, ((a1 == 8)), (by first | rfl | (simp; done) | (simp [*]; done)), H', ⟨by have := HJ5.out; have := HJ14.out; first | omega | exact Nat.le_refl _⟩, ⟨by (with_reducible repeat (first | refine blk_drewN ?_ _ | refine blk_drew ?_ | refine blk_alloc ?_ _)); exact BK102.out⟩, ⟨by repeat (first | (with_reducible first | exact HB.out | apply below_alloc | apply pw_below_drewN | apply below_drew1 | refine below_set ?_ GE102.out) | exact HB.out)⟩⟩
                            · rw [if_neg c25] at H
                              have c25b0 : (a1 == 8) = false := beq_eq_false_iff_ne.mpr c25
                              have c25b1 : (a1 != 8) = true := bne_iff_ne.mpr c25
                              by_cases c26 : a1 = 10
                              · rw [if_pos c26] at H
                                have c26b0 : (a1 == 10) = true := beq_iff_eq.mpr c26
                                have c26b1 : (a1 != 10) = false := bne_eq_false_iff_eq.mpr c26
                                clear c26
                                have H' := Aside0.mk H
                                clear H
                                go_wp2
                                go_meet
                                case rel => exact ⟨_, ((a1 == 10)), (by first | rfl | (simp; done) | (simp [*]; done)), H', ⟨by have := HJ5.out; have := HJ14.out; first | omega | exact Nat.le_refl _⟩, ⟨by (with_reducible repeat (first | refine blk_drewN ?_ _ | refine blk_drew ?_ | refine blk_alloc ?_ _)); exact BK102.out⟩, ⟨by repeat (first | (with_reducible first | exact HB.out | apply below_alloc | apply pw_below_drewN | apply below_drew1 | refine below_set ?_ GE102.out) | exact HB.out)⟩⟩
                              · rw [if_neg c26] at H
                                have c26b0 : (a1 == 10) = false := beq_eq_false_iff_ne.mpr c26
                                have c26b1 : (a1 != 10) = true := bne_iff_ne.mpr c26
                                have H' := Aside0.mk H
                                clear H
                                go_wp2
                                go_meet
                                case rel => exact ⟨_, ((a1 == 12)), (by first | rfl | (simp; done) | (simp [*]; done)), H', ⟨by have := HJ5.out; have := HJ14.out; first | omega | exact Nat.le_refl _⟩, ⟨by (with_reducible repeat (first | refine blk_drewN ?_ _ | refine blk_drew ?_ | refine blk_alloc ?_ _)); exact BK102.out⟩, ⟨by repeat (first | (with_reducible first | exact HB.out | apply below_alloc | apply pw_below_drewN | apply below_drew1 | refine below_set ?_ GE102.out) | exact HB.out)⟩⟩
                  case rest =>
                    clear HC20
                    try clear c1
                    try clear c2
                    try clear p2
                    try clear c5
                    try clear c8
                    try clear c8b0
                    try clear c9
                    try clear c11
                    try clear c14
                    try clear c16
                    try clear c16b0
                    try clear c16b1
                    try clear c17
                    try clear c17b0
                    try clear c17b1
                    try clear c18
                    try clear c18b0
                    try clear c18b1
                    try clear c19
                    try clear c21
                    try clear c21b0
                    try clear c21b1
                    try clear c22
                    try clear c22b0
                    try clear c22b1
                    try clear c23
                    try clear c23b0
                    try clear c23b1
                    try clear c24
                    try clear c24b0
                    try clear c24b1
                    try clear c25
                    try clear c25b0
                    try clear c25b1
                    try clear c26
                    try clear c26b0
                    try clear c26b1
                    try clear hcz13_0
                    try clear hcz13_1
                    try clear hcz13_2
                    try clear hcz13_3
                    try clear hcz13_4
                    try clear hcz13_5
                    try clear hfz13_0
                    try clear hfz13_1
                    try clear hfz13_2
                    try clear hfz13_3
                    try clear hfz13_4
                    try clear hfz13_5
                    try clear p2
                    obtain ⟨kq, x37_19, rfl, HA, HJ19, BK102, HB⟩ := hcut
                    cases kq with
                    | zero => exact absurd HA.out (by simp [masterdisclaw16_DatetimeDays.j2])
                    | succ kj19 =>
                      have H := HA.out
                      clear HA
                      simp only [masterdisclaw16_DatetimeDays.j2] at H
                      by_cases c27 : x37_19 = true
                      · subst c27
                        have H1 : (masterdisclaw16_DatetimeDays.j3 kj19 a0 a1 a2 t103 t104 31) = some r := by rw [if_pos rfl] at H; exact H
                        clear H
                        have H := H1
                        clear H1
                        have H' := Aside0.mk H
                        clear H
                        go_wp2
                        go_meet
                        case rel => exact ⟨_, (31), (by first | rfl | (simp; done) | (simp [*]; done)), H', ⟨by have := HJ5.out; have := HJ14.out; have := HJ19.out; first | omega | exact Nat.le_refl _⟩, ⟨by (with_reducible repeat (first | refine blk_drewN ?_ _ | refine blk_drew ?_ | refine blk_alloc ?_ _)); exact BK102.out⟩, ⟨by repeat (first | (with_reducible first | exact HB.out | apply below_alloc | apply pw_below_drewN | apply below_drew1 | refine below_set ?_ GE102.out) | exact HB.out)⟩⟩
                      · replace c27 := Bool.eq_false_iff.mpr c27
                        subst c27
                        have H1 : (if a1 = 2 then (if (Int.tmod a0 4) = 0 then (masterdisclaw16_DatetimeDays.j3 kj19 a0 a1 a2 t103 t104 29) else (masterdisclaw16_DatetimeDays.j3 kj19 a0 a1 a2 t103 t104 28)) else (masterdisclaw16_DatetimeDays.j3 kj19 a0 a1 a2 t103 t104 0)) = some r := by rw [if_neg (show ¬ (false = true) by decide)] at H; exact H
                        clear H
                        have H := H1
                        clear H1
                        by_cases c28 : a1 = 2
                        · rw [if_pos c28] at H
                          have c28b0 : (a1 == 2) = true := beq_iff_eq.mpr c28
                          have c28b1 : (a1 != 2) = false := bne_eq_false_iff_eq.mpr c28
                          clear c28
                          by_cases c29 : (Int.tmod a0 4) = 0
                          · rw [if_pos c29] at H
                            have c29b0 : ((Int.tmod a0 4) == 0) = true := beq_iff_eq.mpr c29
                            have c29b1 : ((Int.tmod a0 4) != 0) = false := bne_eq_false_iff_eq.mpr c29
                            clear c29
                            have H' := Aside0.mk H
                            clear H
                            go_wp2
                            go_meet
                            case rel => exact ⟨_, (29), (by first | rfl | (simp; done) | (simp [*]; done)), H', ⟨by have := HJ5.out; have := HJ14.out; have := HJ19.out; first | omega | exact Nat.le_refl _⟩, ⟨by (with_reducible repeat (first | refine blk_drewN ?_ _ | refine blk_drew ?_ | refine blk_alloc ?_ _)); exact BK102.out⟩, ⟨by repeat (first | (with_reducible first | exact HB.out | apply below_alloc | apply pw_below_drewN | apply below_drew1 | refine below_set ?_ GE102.out) | exact HB.out)⟩⟩
                          · rw [if_neg c29] at H
                            have c29b0 : ((Int.tmod a0 4) == 0) = false := beq_eq_false_iff_ne.mpr c29
                            have c29b1 : ((Int.tmod a0 4) != 0) = true := bne_iff_ne.mpr c29
                            have H' := Aside0.mk H
                            clear H
                            go_wp2
                            go_meet
                            case rel => exact ⟨_, (28), (by first | rfl | (simp; done) | (simp [*]; done)), H', ⟨by have := HJ5.out; have := HJ14.out; have := HJ19.out; first | omega | exact Nat.le_refl _⟩, ⟨by (with_reducible repeat (first | refine blk_drewN ?_ _ | refine blk_drew ?_ | refine blk_alloc ?_ _)); exact BK102.out⟩, ⟨by repeat (first | (with_reducible first | exact HB.out | apply below_alloc | apply pw_below_drewN | apply below_drew1 | refine below_set ?_ GE102.out) | exact HB.out)⟩⟩
                        · rw [if_neg c28] at H
                          have c28b0 : (a1 == 2) = false := beq_eq_false_iff_ne.mpr c28
                          have c28b1 : (a1 != 2) = true := bne_iff_ne.mpr c28
                          have H' := Aside0.mk H
                          clear H
                          go_wp2
                          go_meet
                          case rel => exact ⟨_, (0), (by first | rfl | (simp; done) | (simp [*]; done)), H', ⟨by have := HJ5.out; have := HJ14.out; have := HJ19.out; first | omega | exact Nat.le_refl _⟩, ⟨by (with_reducible repeat (first | refine blk_drewN ?_ _ | refine blk_drew ?_ | refine blk_alloc ?_ _)); exact BK102.out⟩, ⟨by repeat (first | (with_reducible first | exact HB.out | apply below_alloc | apply pw_below_drewN | apply below_drew1 | refine below_set ?_ GE102.out) | exact HB.out)⟩⟩
          case rest =>
            clear HC11
            try clear c1
            try clear c2
            try clear p2
            try clear c5
            try clear c8
            try clear c8b0
            try clear c9
            try clear c11
            try clear c14
            try clear c16
            try clear c16b0
            try clear c16b1
            try clear c17
            try clear c17b0
            try clear c17b1
            try clear c18
            try clear c18b0
            try clear c18b1
            try clear c19
            try clear c21
            try clear c21b0
            try clear c21b1
            try clear c22
            try clear c22b0
            try clear c22b1
            try clear c23
            try clear c23b0
            try clear c23b1
            try clear c24
            try clear c24b0
            try clear c24b1
            try clear c25
            try clear c25b0
            try clear c25b1
            try clear c26
            try clear c26b0
            try clear c26b1
            try clear c27
            try clear c28
            try clear c28b0
            try clear c28b1
            try clear c29
            try clear c29b0
            try clear c29b1
            try clear hcz13_0
            try clear hcz13_1
            try clear hcz13_2
            try clear hcz13_3
            try clear hcz13_4
            try clear hcz13_5
            try clear hfz13_0
            try clear hfz13_1
            try clear hfz13_2
            try clear hfz13_3
            try clear hfz13_4
            try clear hfz13_5
            try clear p2
            obtain ⟨kq, x10_10, rfl, HA, HJ10, BK102, HB⟩ := hcut
            cases kq with
            | zero => exact absurd HA.out (by simp [masterdisclaw16_DatetimeDays.j3])
            | succ kj10 =>
              have H := HA.out
              clear HA
              simp only [masterdisclaw16_DatetimeDays.j3] at H
              have HC30 := Aside0.mk H
              clear H
              go_upto_region 26 with (fail)
              go_cut [59] (fun v59 wc => ∃ (kq : Nat) (x59_29 : Bool), v59 = .bool x59_29 ∧ Aside0 (masterdisclaw16_DatetimeDays.j4 kq a0 a1 a2 t103 t104 x10_10 x59_29 = some r) ∧ Aside0 (kq ≤ kj10) ∧ Aside0 (wc.heap[gb102]? = some (.cells #[.int .i64 a0, .int .i64 a1, .int .i64 a2, .int .i64 0, .int .i64 0, .int .i64 0] 23 (0, 0))) ∧ Aside0 (Below w.heap.size w wc))
              case first =>
                have H := HC30.out
                clear HC30
                by_cases c31 : a2 ≥ 1
                · rw [if_pos c31] at H
                  have c31b0 : decide (1 ≤ a2) = true := decide_eq_true c31
                  clear c31
                  (first | rw [c31b0] | (simp only [i64_w, i32_w]; rw [c31b0]) | skip)
                  have H' := Aside0.mk H
                  clear H
                  go_wp2
                  go_meet
                  case rel => exact ⟨_, (((t104 == 0) != (decide (a2 ≤ x10_10)))), (by first | rfl | (simp; done) | (simp [*]; done)), H', ⟨by have := HJ5.out; have := HJ10.out; first | omega | exact Nat.le_refl _⟩, ⟨by (with_reducible repeat (first | refine blk_drewN ?_ _ | refine blk_drew ?_ | refine blk_alloc ?_ _)); exact BK102.out⟩, ⟨by repeat (first | (with_reducible first | exact HB.out | apply below_alloc | apply pw_below_drewN | apply below_drew1 | refine below_set ?_ GE102.out) | exact HB.out)⟩⟩
                · rw [if_neg c31] at H
                  have c31b0 : decide (1 ≤ a2) = false := decide_eq_false c31
                  clear c31
                  (first | rw [c31b0] | (simp only [i64_w, i32_w]; rw [c31b0]) | skip)
                  have H' := Aside0.mk H
                  clear H
                  go_wp2
                  go_meet
                  case rel => exact ⟨_, (((t104 == 0) != false)), (by first | rfl | (simp; done) | (simp [*]; done)), H', ⟨by have := HJ5.out; have := HJ10.out; first | omega | exact Nat.le_refl _⟩, ⟨by (with_reducible repeat (first | refine blk_drewN ?_ _ | refine blk_drew ?_ | refine blk_alloc ?_ _)); exact BK102.out⟩, ⟨by repeat (first | (with_reducible first | exact HB.out | apply below_alloc | apply pw_below_drewN | apply below_drew1 | refine below_set ?_ GE102.out) | exact HB.out)⟩⟩
              case rest =>
                clear HC30
                try clear c1
                try clear c2
                try clear p2
                try clear c3
                try clear c5
                try clear c8
                try clear c8b0
                try clear c9
                try clear c11
                try clear c14
                try clear c16
                try clear c16b0
                try clear c16b1
                try clear c17
                try clear c17b0
                try clear c17b1
                try clear c18
                try clear c18b0
                try clear c18b1
                try clear c19
                try clear c21
                try clear c21b0
                try clear c21b1
                try clear c22
                try clear c22b0
                try clear c22b1
                try clear c23
                try clear c23b0
                try clear c23b1
                try clear c24
                try clear c24b0
                try clear c24b1
                try clear c25
                try clear c25b0
                try clear c25b1
                try clear c26
                try clear c26b0
                try clear c26b1
                try clear c27
                try clear c28
                try clear c28b0
                try clear c28b1
                try clear c29
                try clear c29b0
                try clear c29b1
                try clear c31
                try clear c31b0
                try clear hcz13_0
                try clear hcz13_1
                try clear hcz13_2
                try clear hcz13_3
                try clear hcz13_4
                try clear hcz13_5
                try clear hfz13_0
                try clear hfz13_1
                try clear hfz13_2
                try clear hfz13_3
                try clear hfz13_4
                try clear hfz13_5
                try clear p2
                obtain ⟨kq, x59_29, rfl, HA, HJ29, BK102, HB⟩ := hcut
                cases kq with
                | zero => exact absurd HA.out (by simp [masterdisclaw16_DatetimeDays.j4])
                | succ kj29 =>
                  have H := HA.out
                  clear HA
                  simp only [masterdisclaw16_DatetimeDays.j4] at H
                  by_cases c32 : x59_29 = true
                  · subst c32
                    have H1 : (some false) = some r := by rw [if_pos rfl] at H; exact H
                    clear H
                    have H := H1
                    clear H1
                    obtain rfl := Option.some.inj H
                    go_wp2
                    go_ret
                    exact ⟨by first | rfl | (simp [errW_none, errW_some] <;> rfl) | (simp [*, errW_none, errW_some] <;> rfl), by repeat (first | (with_reducible first | exact HB.out | apply below_alloc | apply pw_below_drewN | apply below_drew1 | refine below_set ?_ GE102.out) | exact HB.out)⟩
                  · replace c32 := Bool.eq_false_iff.mpr c32
                    subst c32
                    have H1 : (if t104 = 0 then ((datetime_Split.f (wrap64 (t103 + 86400)) 0).bind fun bt105 => (if a2 = x10_10 then (if (wrap64 (a1 + 1)) = 13 then (if bt105.2.2.2.2.2.2 = 0 then (some (bt105.1 == (wrap64 (a0 + 1)) && (bt105.2.1 == 1 && (bt105.2.2.1 == 1 && (bt105.2.2.2.1 == 0 && (bt105.2.2.2.2.1 == 0 && (bt105.2.2.2.2.2.1 == 0))))))) else (some false)) else (if bt105.2.2.2.2.2.2 = 0 then (some (bt105.1 == a0 && (bt105.2.1 == (wrap64 (a1 + 1)) && (bt105.2.2.1 == 1 && (bt105.2.2.2.1 == 0 && (bt105.2.2.2.2.1 == 0 && (bt105.2.2.2.2.2.1 == 0))))))) else (some false))) else (if a1 = 13 then (if bt105.2.2.2.2.2.2 = 0 then (some (bt105.1 == (wrap64 (a0 + 1)) && (bt105.2.1 == 1 && (bt105.2.2.1 == (wrap64 (a2 + 1)) && (bt105.2.2.2.1 == 0 && (bt105.2.2.2.2.1 == 0 && (bt105.2.2.2.2.2.1 == 0))))))) else (some false)) else (if bt105.2.2.2.2.2.2 = 0 then (some (bt105.1 == a0 && (bt105.2.1 == a1 && (bt105.2.2.1 == (wrap64 (a2 + 1)) && (bt105.2.2.2.1 == 0 && (bt105.2.2.2.2.1 == 0 && (bt105.2.2.2.2.2.1 == 0))))))) else (some false))))) else (if t104 = 1 then (some (t103 == 0)) else (some false))) = some r := by rw [if_neg (show ¬ (false = true) by decide)] at H; exact H
                    clear H
                    have H := H1
                    clear H1
                    by_cases c33 : t104 = 0
                    · rw [if_pos c33] at H
                      have c33b0 : (t104 == 0) = true := beq_iff_eq.mpr c33
                      have c33b1 : (t104 != 0) = false := bne_eq_false_iff_eq.mpr c33
                      clear c33
                      replace H := Option.bind_eq_some_iff.mp H
                      obtain ⟨⟨t105, t106, t107, t108, t109, t110, t111⟩, A340, H⟩ := H
                      replace H : (if a2 = x10_10 then (if (wrap64 (a1 + 1)) = 13 then (if t111 = 0 then (some (t105 == (wrap64 (a0 + 1)) && (t106 == 1 && (t107 == 1 && (t108 == 0 && (t109 == 0 && (t110 == 0))))))) else (some false)) else (if t111 = 0 then (some (t105 == a0 && (t106 == (wrap64 (a1 + 1)) && (t107 == 1 && (t108 == 0 && (t109 == 0 && (t110 == 0))))))) else (some false))) else (if a1 = 13 then (if t111 = 0 then (some (t105 == (wrap64 (a0 + 1)) && (t106 == 1 && (t107 == (wrap64 (a2 + 1)) && (t108 == 0 && (t109 == 0 && (t110 == 0))))))) else (some false)) else (if t111 = 0 then (some (t105 == a0 && (t106 == a1 && (t107 == (wrap64 (a2 + 1)) && (t108 == 0 && (t109 == 0 && (t110 == 0))))))) else (some false)))) = some r := H
                      have A34 := Aside0.mk A340
                      clear A340
                      have HC40 := Aside0.mk H
                      clear H
                      go_upto_if 81 with (first | ((with_reducible refine gate_callee (f := 12) rfl ?_); refine goesL_ (some 71) rfl rfl Tryd.func12 (by kernel_rfl) rfl #[.int .i64 (wrap64 (t103 + 86400)), .int .i64 0] rfl (by (try simp only [List.map_toArray, List.map_cons, List.map_nil]); first | done | rfl | (simp only [List.length_drop, List.length_take]; rfl)) ?_; (with_reducible refine (datetime_Split.calls (wrap64 (t103 + 86400)) 0 t105 t106 t107 t108 t109 t110 t111 _ A34.out).mono ?_); rintro e w38 ⟨rfl, hb⟩; refine ⟨_, rfl, ?_⟩; have n0_ := Aside0.mk (blk_below (g := gb102) (o := .cells #[.int .i64 a0, .int .i64 a1, .int .i64 a2, .int .i64 0, .int .i64 0, .int .i64 0] 23 (0, 0)) (by (with_reducible repeat (first | refine blk_drewN ?_ _ | refine blk_drew ?_ | refine blk_alloc ?_ _)); exact BK102.out) hb); have n1_ := Aside0.mk (below_step (by repeat (first | (with_reducible first | exact HB.out | apply below_alloc | apply pw_below_drewN | apply below_drew1 | refine below_set ?_ GE102.out) | exact HB.out)) hb); clear BK102; clear HB; have BK102 := n0_; have HB := n1_; clear n0_ n1_; (try clear hb); (try clear hb2); (try clear hk); (try clear hi)) | ((with_reducible refine gate_dst (N := 11) rfl ?_); refine box_event ?hg (N := 11) ?hd (cs := #[.int .i64 0, .int .i64 0, .int .i64 0, .int .i64 0, .int .i64 0, .int .i64 0]) (t := 23) ?hr ?_; (case hd => rfl); (case hg => rfl); (case hr => first | (go_simp; done) | (go_simp; rfl)); intro gb112 hg w39 hbox hb; have n0_ := Aside0.mk (blk_below (g := gb102) (o := .cells #[.int .i64 a0, .int .i64 a1, .int .i64 a2, .int .i64 0, .int .i64 0, .int .i64 0] 23 (0, 0)) (by (with_reducible repeat (first | refine blk_drewN ?_ _ | refine blk_drew ?_ | refine blk_alloc ?_ _)); exact BK102.out) hb); have n1_ := Aside0.mk (below_step (by repeat (first | (with_reducible first | exact HB.out | apply below_alloc | apply pw_below_drewN | apply below_drew1 | refine below_set ?_ GE102.out) | exact HB.out)) hb); have n2_ := Aside0.mk (hbox); have n3_ := Aside0.mk ((by rw [hg]; exact (below_size (by repeat (first | (with_reducible first | exact HB.out | apply below_alloc | apply pw_below_drewN | apply below_drew1 | refine below_set ?_ GE102.out) | exact HB.out))) : w.heap.size ≤ gb112)); have n4_ := Aside0.mk ((by rw [hg]; exact (below_size (by repeat (first | (with_reducible first | exact HB.out | apply below_alloc | apply pw_below_drewN | apply below_drew1 | refine below_set ?_ GE102.out) | exact HB.out))) : w.heap.size ≤ gb112)); have n5_ := Aside0.mk ((by rw [hg]; exact Nat.ne_of_lt (blk_lt (g := gb102) (o := .cells #[.int .i64 a0, .int .i64 a1, .int .i64 a2, .int .i64 0, .int .i64 0, .int .i64 0] 23 (0, 0)) (by (with_reducible repeat (first | refine blk_drewN ?_ _ | refine blk_drew ?_ | refine blk_alloc ?_ _)); exact BK102.out)) : gb102 ≠ gb112)); have n6_ := Aside0.mk ((by rw [hg]; exact Nat.ne_of_gt (blk_lt (g := gb102) (o := .cells #[.int .i64 a0, .int .i64 a1, .int .i64 a2, .int .i64 0, .int .i64 0, .int .i64 0] 23 (0, 0)) (by (with_reducible repeat (first | refine blk_drewN ?_ _ | refine blk_drew ?_ | refine blk_alloc ?_ _)); exact BK102.out)) : gb112 ≠ gb102)); clear BK102; clear HB; have BK102 := n0_; have HB := n1_; have BK112 := n2_; have GW112 := n3_; have GE112 := n4_; have NB102_112 := n5_; have NB112_102 := n6_; clear n0_ n1_ n2_ n3_ n4_ n5_ n6_; clear hb hbox hg; have hnb40 := NB112_102.out; have hnc40 := NB102_112.out; have hcz41_0 : w39.cell? ⟨gb112, 0, none⟩ = some (.int .i64 0) := (blk_cell BK112.out 0).trans rfl; have hcz41_1 : w39.cell? ⟨gb112, 1, none⟩ = some (.int .i64 0) := (blk_cell BK112.out 1).trans rfl; have hcz41_2 : w39.cell? ⟨gb112, 2, none⟩ = some (.int .i64 0) := (blk_cell BK112.out 2).trans rfl; have hcz41_3 : w39.cell? ⟨gb112, 3, none⟩ = some (.int .i64 0) := (blk_cell BK112.out 3).trans rfl; have hcz41_4 : w39.cell? ⟨gb112, 4, none⟩ = some (.int .i64 0) := (blk_cell BK112.out 4).trans rfl; have hcz41_5 : w39.cell? ⟨gb112, 5, none⟩ = some (.int .i64 0) := (blk_cell BK112.out 5).trans rfl; have hfz41_0 := blk_frozen BK112.out 0; have hfz41_1 := blk_frozen BK112.out 1; have hfz41_2 := blk_frozen BK112.out 2; have hfz41_3 := blk_frozen BK112.out 3; have hfz41_4 := blk_frozen BK112.out 4; have hfz41_5 := blk_frozen BK112.out 5) | ((with_reducible refine gate_dst (N := 13) rfl ?_); refine box_event ?hg (N := 13) ?hd (cs := #[.int .i64 0, .int .i64 0, .int .i64 0, .int .i64 0, .int .i64 0, .int .i64 0]) (t := 23) ?hr ?_; (case hd => rfl); (case hg => rfl); (case hr => first | (go_simp; done) | (go_simp; rfl)); intro gb113 hg w42 hbox hb; have n0_ := Aside0.mk (blk_below (g := gb102) (o := .cells #[.int .i64 a0, .int .i64 a1, .int .i64 a2, .int .i64 0, .int .i64 0, .int .i64 0] 23 (0, 0)) (by (with_reducible repeat (first | refine blk_drewN ?_ _ | refine blk_drew ?_ | refine blk_alloc ?_ _)); refine blk_far ?_ NB102_112.out _; (with_reducible repeat (first | refine blk_drewN ?_ _ | refine blk_drew ?_ | refine blk_alloc ?_ _)); refine blk_far ?_ NB102_112.out _; (with_reducible repeat (first | refine blk_drewN ?_ _ | refine blk_drew ?_ | refine blk_alloc ?_ _)); refine blk_far ?_ NB102_112.out _; (with_reducible repeat (first | refine blk_drewN ?_ _ | refine blk_drew ?_ | refine blk_alloc ?_ _)); refine blk_far ?_ NB102_112.out _; (with_reducible repeat (first | refine blk_drewN ?_ _ | refine blk_drew ?_ | refine blk_alloc ?_ _)); refine blk_far ?_ NB102_112.out _; (with_reducible repeat (first | refine blk_drewN ?_ _ | refine blk_drew ?_ | refine blk_alloc ?_ _)); refine blk_far ?_ NB102_112.out _; (with_reducible repeat (first | refine blk_drewN ?_ _ | refine blk_drew ?_ | refine blk_alloc ?_ _)); exact BK102.out) hb); have n1_ := Aside0.mk (blk_below (g := gb112) (o := .cells #[.int .i64 t105, .int .i64 t106, .int .i64 t107, .int .i64 t108, .int .i64 t109, .int .i64 t110] 23 (0, 0)) (by (with_reducible repeat (first | refine blk_drewN ?_ _ | refine blk_drew ?_ | refine blk_alloc ?_ _)); refine blk_put (cs := #[.int .i64 t105, .int .i64 t106, .int .i64 t107, .int .i64 t108, .int .i64 t109, .int .i64 0]) ?_ 5 _ rfl; (with_reducible repeat (first | refine blk_drewN ?_ _ | refine blk_drew ?_ | refine blk_alloc ?_ _)); refine blk_put (cs := #[.int .i64 t105, .int .i64 t106, .int .i64 t107, .int .i64 t108, .int .i64 0, .int .i64 0]) ?_ 4 _ rfl; (with_reducible repeat (first | refine blk_drewN ?_ _ | refine blk_drew ?_ | refine blk_alloc ?_ _)); refine blk_put (cs := #[.int .i64 t105, .int .i64 t106, .int .i64 t107, .int .i64 0, .int .i64 0, .int .i64 0]) ?_ 3 _ rfl; (with_reducible repeat (first | refine blk_drewN ?_ _ | refine blk_drew ?_ | refine blk_alloc ?_ _)); refine blk_put (cs := #[.int .i64 t105, .int .i64 t106, .int .i64 0, .int .i64 0, .int .i64 0, .int .i64 0]) ?_ 2 _ rfl; (with_reducible repeat (first | refine blk_drewN ?_ _ | refine blk_drew ?_ | refine blk_alloc ?_ _)); refine blk_put (cs := #[.int .i64 t105, .int .i64 0, .int .i64 0, .int .i64 0, .int .i64 0, .int .i64 0]) ?_ 1 _ rfl; (with_reducible repeat (first | refine blk_drewN ?_ _ | refine blk_drew ?_ | refine blk_alloc ?_ _)); refine blk_put (cs := #[.int .i64 0, .int .i64 0, .int .i64 0, .int .i64 0, .int .i64 0, .int .i64 0]) ?_ 0 _ rfl; (with_reducible repeat (first | refine blk_drewN ?_ _ | refine blk_drew ?_ | refine blk_alloc ?_ _)); exact BK112.out) hb); have n2_ := Aside0.mk (below_step (by repeat (first | (with_reducible first | exact HB.out | apply below_alloc | apply pw_below_drewN | apply below_drew1 | refine below_set ?_ GE102.out | refine below_set ?_ GE112.out) | exact HB.out)) hb); have n3_ := Aside0.mk (hbox); have n4_ := Aside0.mk ((by rw [hg]; exact (below_size (by repeat (first | (with_reducible first | exact HB.out | apply below_alloc | apply pw_below_drewN | apply below_drew1 | refine below_set ?_ GE102.out | refine below_set ?_ GE112.out) | exact HB.out))) : w.heap.size ≤ gb113)); have n5_ := Aside0.mk ((by rw [hg]; exact (below_size (by repeat (first | (with_reducible first | exact HB.out | apply below_alloc | apply pw_below_drewN | apply below_drew1 | refine below_set ?_ GE102.out | refine below_set ?_ GE112.out) | exact HB.out))) : w.heap.size ≤ gb113)); have n6_ := Aside0.mk ((by rw [hg]; exact Nat.ne_of_lt (blk_lt (g := gb102) (o := .cells #[.int .i64 a0, .int .i64 a1, .int .i64 a2, .int .i64 0, .int .i64 0, .int .i64 0] 23 (0, 0)) (by (with_reducible repeat (first | refine blk_drewN ?_ _ | refine blk_drew ?_ | refine blk_alloc ?_ _)); refine blk_far ?_ NB102_112.out _; (with_reducible repeat (first | refine blk_drewN ?_ _ | refine blk_drew ?_ | refine blk_alloc ?_ _)); refine blk_far ?_ NB102_112.out _; (with_reducible repeat (first | refine blk_drewN ?_ _ | refine blk_drew ?_ | refine blk_alloc ?_ _)); refine blk_far ?_ NB102_112.out _; (with_reducible repeat (first | refine blk_drewN ?_ _ | refine blk_drew ?_ | refine blk_alloc ?_ _)); refine blk_far ?_ NB102_112.out _; (with_reducible repeat (first | refine blk_drewN ?_ _ | refine blk_drew ?_ | refine blk_alloc ?_ _)); refine blk_far ?_ NB102_112.out _; (with_reducible repeat (first | refine blk_drewN ?_ _ | refine blk_drew ?_ | refine blk_alloc ?_ _)); refine blk_far ?_ NB102_112.out _; (with_reducible repeat (first | refine blk_drewN ?_ _ | refine blk_drew ?_ | refine blk_alloc ?_ _)); exact BK102.out)) : gb102 ≠ gb113)); have n7_ := Aside0.mk ((by rw [hg]; exact Nat.ne_of_gt (blk_lt (g := gb102) (o := .cells #[.int .i64 a0, .int .i64 a1, .int .i64 a2, .int .i64 0, .int .i64 0, .int .i64 0] 23 (0, 0)) (by (with_reducible repeat (first | refine blk_drewN ?_ _ | refine blk_drew ?_ | refine blk_alloc ?_ _)); refine blk_far ?_ NB102_112.out _; (with_reducible repeat (first | refine blk_drewN ?_ _ | refine blk_drew ?_ | refine blk_alloc ?_ _)); refine blk_far ?_ NB102_112.out _; (with_reducible repeat (first | refine blk_drewN ?_ _ | refine blk_drew ?_ | refine blk_alloc ?_ _)); refine blk_far ?_ NB102_112.out _; (with_reducible repeat (first | refine blk_drewN ?_ _ | refine blk_drew ?_ | refine blk_alloc ?_ _)); refine blk_far ?_ NB102_112.out _; (with_reducible repeat (first | refine blk_drewN ?_ _ | refine blk_drew ?_ | refine blk_alloc ?_ _)); refine blk_far ?_ NB102_112.out _; (with_reducible repeat (first | refine blk_drewN ?_ _ | refine blk_drew ?_ | refine blk_alloc ?_ _)); refine blk_far ?_ NB102_112.out _; (with_reducible repeat (first | refine blk_drewN ?_ _ | refine blk_drew ?_ | refine blk_alloc ?_ _)); exact BK102.out)) : gb113 ≠ gb102)); have n8_ := Aside0.mk ((by rw [hg]; exact Nat.ne_of_lt (blk_lt (g := gb112) (o := .cells #[.int .i64 t105, .int .i64 t106, .int .i64 t107, .int .i64 t108, .int .i64 t109, .int .i64 t110] 23 (0, 0)) (by (with_reducible repeat (first | refine blk_drewN ?_ _ | refine blk_drew ?_ | refine blk_alloc ?_ _)); refine blk_put (cs := #[.int .i64 t105, .int .i64 t106, .int .i64 t107, .int .i64 t108, .int .i64 t109, .int .i64 0]) ?_ 5 _ rfl; (with_reducible repeat (first | refine blk_drewN ?_ _ | refine blk_drew ?_ | refine blk_alloc ?_ _)); refine blk_put (cs := #[.int .i64 t105, .int .i64 t106, .int .i64 t107, .int .i64 t108, .int .i64 0, .int .i64 0]) ?_ 4 _ rfl; (with_reducible repeat (first | refine blk_drewN ?_ _ | refine blk_drew ?_ | refine blk_alloc ?_ _)); refine blk_put (cs := #[.int .i64 t105, .int .i64 t106, .int .i64 t107, .int .i64 0, .int .i64 0, .int .i64 0]) ?_ 3 _ rfl; (with_reducible repeat (first | refine blk_drewN ?_ _ | refine blk_drew ?_ | refine blk_alloc ?_ _)); refine blk_put (cs := #[.int .i64 t105, .int .i64 t106, .int .i64 0, .int .i64 0, .int .i64 0, .int .i64 0]) ?_ 2 _ rfl; (with_reducible repeat (first | refine blk_drewN ?_ _ | refine blk_drew ?_ | refine blk_alloc ?_ _)); refine blk_put (cs := #[.int .i64 t105, .int .i64 0, .int .i64 0, .int .i64 0, .int .i64 0, .int .i64 0]) ?_ 1 _ rfl; (with_reducible repeat (first | refine blk_drewN ?_ _ | refine blk_drew ?_ | refine blk_alloc ?_ _)); refine blk_put (cs := #[.int .i64 0, .int .i64 0, .int .i64 0, .int .i64 0, .int .i64 0, .int .i64 0]) ?_ 0 _ rfl; (with_reducible repeat (first | refine blk_drewN ?_ _ | refine blk_drew ?_ | refine blk_alloc ?_ _)); exact BK112.out)) : gb112 ≠ gb113)); have n9_ := Aside0.mk ((by rw [hg]; exact Nat.ne_of_gt (blk_lt (g := gb112) (o := .cells #[.int .i64 t105, .int .i64 t106, .int .i64 t107, .int .i64 t108, .int .i64 t109, .int .i64 t110] 23 (0, 0)) (by (with_reducible repeat (first | refine blk_drewN ?_ _ | refine blk_drew ?_ | refine blk_alloc ?_ _)); refine blk_put (cs := #[.int .i64 t105, .int .i64 t106, .int .i64 t107, .int .i64 t108, .int .i64 t109, .int .i64 0]) ?_ 5 _ rfl; (with_reducible repeat (first | refine blk_drewN ?_ _ | refine blk_drew ?_ | refine blk_alloc ?_ _)); refine blk_put (cs := #[.int .i64 t105, .int .i64 t106, .int .i64 t107, .int .i64 t108, .int .i64 0, .int .i64 0]) ?_ 4 _ rfl; (with_reducible repeat (first | refine blk_drewN ?_ _ | refine blk_drew ?_ | refine blk_alloc ?_ _)); refine blk_put (cs := #[.int .i64 t105, .int .i64 t106, .int .i64 t107, .int .i64 0, .int .i64 0, .int .i64 0]) ?_ 3 _ rfl; (with_reducible repeat (first | refine blk_drewN ?_ _ | refine blk_drew ?_ | refine blk_alloc ?_ _)); refine blk_put (cs := #[.int .i64 t105, .int .i64 t106, .int .i64 0, .int .i64 0, .int .i64 0, .int .i64 0]) ?_ 2 _ rfl; (with_reducible repeat (first | refine blk_drewN ?_ _ | refine blk_drew ?_ | refine blk_alloc ?_ _)); refine blk_put (cs := #[.int .i64 t105, .int .i64 0, .int .i64 0, .int .i64 0, .int .i64 0, .int .i64 0]) ?_ 1 _ rfl; (with_reducible repeat (first | refine blk_drewN ?_ _ | refine blk_drew ?_ | refine blk_alloc ?_ _)); refine blk_put (cs := #[.int .i64 0, .int .i64 0, .int .i64 0, .int .i64 0, .int .i64 0, .int .i64 0]) ?_ 0 _ rfl; (with_reducible repeat (first | refine blk_drewN ?_ _ | refine blk_drew ?_ | refine blk_alloc ?_ _)); exact BK112.out)) : gb113 ≠ gb112)); clear BK102; clear BK112; clear HB; have BK102 := n0_; have BK112 := n1_; have HB := n2_; have BK113 := n3_; have GW113 := n4_; have GE113 := n5_; have NB102_113 := n6_; have NB113_102 := n7_; have NB112_113 := n8_; have NB113_112 := n9_; clear n0_ n1_ n2_ n3_ n4_ n5_ n6_ n7_ n8_ n9_; clear hb hbox hg; have hnb43 := NB113_102.out; have hnc43 := NB102_113.out; have hnb44 := NB113_112.out; have hnc44 := NB112_113.out; have hcz45_0 : w42.cell? ⟨gb113, 0, none⟩ = some (.int .i64 0) := (blk_cell BK113.out 0).trans rfl; have hcz45_1 : w42.cell? ⟨gb113, 1, none⟩ = some (.int .i64 0) := (blk_cell BK113.out 1).trans rfl; have hcz45_2 : w42.cell? ⟨gb113, 2, none⟩ = some (.int .i64 0) := (blk_cell BK113.out 2).trans rfl; have hcz45_3 : w42.cell? ⟨gb113, 3, none⟩ = some (.int .i64 0) := (blk_cell BK113.out 3).trans rfl; have hcz45_4 : w42.cell? ⟨gb113, 4, none⟩ = some (.int .i64 0) := (blk_cell BK113.out 4).trans rfl; have hcz45_5 : w42.cell? ⟨gb113, 5, none⟩ = some (.int .i64 0) := (blk_cell BK113.out 5).trans rfl; have hfz45_0 := blk_frozen BK113.out 0; have hfz45_1 := blk_frozen BK113.out 1; have hfz45_2 := blk_frozen BK113.out 2; have hfz45_3 := blk_frozen BK113.out 3; have hfz45_4 := blk_frozen BK113.out 4; have hfz45_5 := blk_frozen BK113.out 5; have hcz46_0 : w42.cell? ⟨gb112, 0, none⟩ = some (.int .i64 t105) := (blk_cell BK112.out 0).trans rfl; have hcz46_1 : w42.cell? ⟨gb112, 1, none⟩ = some (.int .i64 t106) := (blk_cell BK112.out 1).trans rfl; have hcz46_2 : w42.cell? ⟨gb112, 2, none⟩ = some (.int .i64 t107) := (blk_cell BK112.out 2).trans rfl; have hcz46_3 : w42.cell? ⟨gb112, 3, none⟩ = some (.int .i64 t108) := (blk_cell BK112.out 3).trans rfl; have hcz46_4 : w42.cell? ⟨gb112, 4, none⟩ = some (.int .i64 t109) := (blk_cell BK112.out 4).trans rfl; have hcz46_5 : w42.cell? ⟨gb112, 5, none⟩ = some (.int .i64 t110) := (blk_cell BK112.out 5).trans rfl; have hfz46_0 := blk_frozen BK112.out 0; have hfz46_1 := blk_frozen BK112.out 1; have hfz46_2 := blk_frozen BK112.out 2; have hfz46_3 := blk_frozen BK112.out 3; have hfz46_4 := blk_frozen BK112.out 4; have hfz46_5 := blk_frozen BK112.out 5))
                      clear c33b0 c33b1
                      go_cut [] (fun wc => ∃ (M D : Int), Aside0 ((if M = 13 then (if t111 = 0 then (some (t105 == (wrap64 (a0 + 1)) && (t106 == 1 && (t107 == D && (t108 == 0 && (t109 == 0 && (t110 == 0))))))) else (some false)) else (if t111 = 0 then (some (t105 == a0 && (t106 == M && (t107 == D && (t108 == 0 && (t109 == 0 && (t110 == 0))))))) else (some false))) = some r) ∧ Aside0 (wc.heap[gb112]? = some (.cells #[.int .i64 t105, .int .i64 t106, .int .i64 t107, .int .i64 t108, .int .i64 t109, .int .i64 t110] 23 (0, 0))) ∧ Aside0 (wc.heap[gb113]? = some (.cells #[.int .i64 a0, .int .i64 M, .int .i64 D, .int .i64 0, .int .i64 0, .int .i64 0] 23 (0, 0))) ∧ Aside0 (Below w.heap.size w wc))
                      case first =>
                        have H := HC40.out
                        clear HC40
                        by_cases c35 : a2 = x10_10
                        · rw [if_pos c35] at H
                          have c35b0 : (a2 == x10_10) = true := beq_iff_eq.mpr c35
                          clear c35
                          (first | rw [c35b0] | (simp only [i64_w, i32_w]; rw [c35b0]) | skip)
                          have H' := Aside0.mk H
                          clear H
                          go_wp2
                          go_meet
                          case rel => exact ⟨(wrap64 (a1 + 1)), 1, H', ⟨(by (with_reducible repeat (first | refine blk_drewN ?_ _ | refine blk_drew ?_ | refine blk_alloc ?_ _)); refine blk_far ?_ NB112_113.out _; (with_reducible repeat (first | refine blk_drewN ?_ _ | refine blk_drew ?_ | refine blk_alloc ?_ _)); refine blk_far ?_ NB112_113.out _; (with_reducible repeat (first | refine blk_drewN ?_ _ | refine blk_drew ?_ | refine blk_alloc ?_ _)); refine blk_far ?_ NB112_113.out _; (with_reducible repeat (first | refine blk_drewN ?_ _ | refine blk_drew ?_ | refine blk_alloc ?_ _)); refine blk_far ?_ NB112_113.out _; (with_reducible repeat (first | refine blk_drewN ?_ _ | refine blk_drew ?_ | refine blk_alloc ?_ _)); refine blk_far ?_ NB112_113.out _; (with_reducible repeat (first | refine blk_drewN ?_ _ | refine blk_drew ?_ | refine blk_alloc ?_ _)); refine blk_far ?_ NB112_113.out _; (with_reducible repeat (first | refine blk_drewN ?_ _ | refine blk_drew ?_ | refine blk_alloc ?_ _)); refine blk_far ?_ NB112_113.out _; (with_reducible repeat (first | refine blk_drewN ?_ _ | refine blk_drew ?_ | refine blk_alloc ?_ _)); refine blk_far ?_ NB112_113.out _; (with_reducible repeat (first | refine blk_drewN ?_ _ | refine blk_drew ?_ | refine blk_alloc ?_ _)); exact BK112.out)⟩, ⟨(by (with_reducible repeat (first | refine blk_drewN ?_ _ | refine blk_drew ?_ | refine blk_alloc ?_ _)); refine blk_put (cs := #[.int .i64 a0, .int .i64 (wrap64 (a1 + 1)), .int .i64 (wrap64 (a2 + 1)), .int .i64 0, .int .i64 0, .int .i64 0]) ?_ 2 _ rfl; (with_reducible repeat (first | refine blk_drewN ?_ _ | refine blk_drew ?_ | refine blk_alloc ?_ _)); refine blk_put (cs := #[.int .i64 a0, .int .i64 a1, .int .i64 (wrap64 (a2 + 1)), .int .i64 0, .int .i64 0, .int .i64 0]) ?_ 1 _ rfl; (with_reducible repeat (first | refine blk_drewN ?_ _ | refine blk_drew ?_ | refine blk_alloc ?_ _)); refine blk_put (cs := #[.int .i64 a0, .int .i64 a1, .int .i64 (wrap64 (a2 + 1)), .int .i64 0, .int .i64 0, .int .i64 0]) ?_ 5 _ rfl; (with_reducible repeat (first | refine blk_drewN ?_ _ | refine blk_drew ?_ | refine blk_alloc ?_ _)); refine blk_put (cs := #[.int .i64 a0, .int .i64 a1, .int .i64 (wrap64 (a2 + 1)), .int .i64 0, .int .i64 0, .int .i64 0]) ?_ 4 _ rfl; (with_reducible repeat (first | refine blk_drewN ?_ _ | refine blk_drew ?_ | refine blk_alloc ?_ _)); refine blk_put (cs := #[.int .i64 a0, .int .i64 a1, .int .i64 (wrap64 (a2 + 1)), .int .i64 0, .int .i64 0, .int .i64 0]) ?_ 3 _ rfl; (with_reducible repeat (first | refine blk_drewN ?_ _ | refine blk_drew ?_ | refine blk_alloc ?_ _)); refine blk_put (cs := #[.int .i64 a0, .int .i64 a1, .int .i64 0, .int .i64 0, .int .i64 0, .int .i64 0]) ?_ 2 _ rfl; (with_reducible repeat (first | refine blk_drewN ?_ _ | refine blk_drew ?_ | refine blk_alloc ?_ _)); refine blk_put (cs := #[.int .i64 a0, .int .i64 0, .int .i64 0, .int .i64 0, .int .i64 0, .int .i64 0]) ?_ 1 _ rfl; (with_reducible repeat (first | refine blk_drewN ?_ _ | refine blk_drew ?_ | refine blk_alloc ?_ _)); refine blk_put (cs := #[.int .i64 0, .int .i64 0, .int .i64 0, .int .i64 0, .int .i64 0, .int .i64 0]) ?_ 0 _ rfl; (with_reducible repeat (first | refine blk_drewN ?_ _ | refine blk_drew ?_ | refine blk_alloc ?_ _)); exact BK113.out)⟩, ⟨(by repeat (first | (with_reducible first | exact HB.out | apply below_alloc | apply pw_below_drewN | apply below_drew1 | refine below_set ?_ GE102.out | refine below_set ?_ GE112.out | refine below_set ?_ GE113.out) | exact HB.out))⟩⟩
                        · rw [if_neg c35] at H
                          have c35b0 : (a2 == x10_10) = false := beq_eq_false_iff_ne.mpr c35
                          clear c35
                          (first | rw [c35b0] | (simp only [i64_w, i32_w]; rw [c35b0]) | skip)
                          have H' := Aside0.mk H
                          clear H
                          go_wp2
                          go_meet
                          case rel => exact ⟨a1, (wrap64 (a2 + 1)), H', ⟨(by (with_reducible repeat (first | refine blk_drewN ?_ _ | refine blk_drew ?_ | refine blk_alloc ?_ _)); refine blk_far ?_ NB112_113.out _; (with_reducible repeat (first | refine blk_drewN ?_ _ | refine blk_drew ?_ | refine blk_alloc ?_ _)); refine blk_far ?_ NB112_113.out _; (with_reducible repeat (first | refine blk_drewN ?_ _ | refine blk_drew ?_ | refine blk_alloc ?_ _)); refine blk_far ?_ NB112_113.out _; (with_reducible repeat (first | refine blk_drewN ?_ _ | refine blk_drew ?_ | refine blk_alloc ?_ _)); refine blk_far ?_ NB112_113.out _; (with_reducible repeat (first | refine blk_drewN ?_ _ | refine blk_drew ?_ | refine blk_alloc ?_ _)); refine blk_far ?_ NB112_113.out _; (with_reducible repeat (first | refine blk_drewN ?_ _ | refine blk_drew ?_ | refine blk_alloc ?_ _)); refine blk_far ?_ NB112_113.out _; (with_reducible repeat (first | refine blk_drewN ?_ _ | refine blk_drew ?_ | refine blk_alloc ?_ _)); exact BK112.out)⟩, ⟨(by (with_reducible repeat (first | refine blk_drewN ?_ _ | refine blk_drew ?_ | refine blk_alloc ?_ _)); refine blk_put (cs := #[.int .i64 a0, .int .i64 a1, .int .i64 (wrap64 (a2 + 1)), .int .i64 0, .int .i64 0, .int .i64 0]) ?_ 5 _ rfl; (with_reducible repeat (first | refine blk_drewN ?_ _ | refine blk_drew ?_ | refine blk_alloc ?_ _)); refine blk_put (cs := #[.int .i64 a0, .int .i64 a1, .int .i64 (wrap64 (a2 + 1)), .int .i64 0, .int .i64 0, .int .i64 0]) ?_ 4 _ rfl; (with_reducible repeat (first | refine blk_drewN ?_ _ | refine blk_drew ?_ | refine blk_alloc ?_ _)); refine blk_put (cs := #[.int .i64 a0, .int .i64 a1, .int .i64 (wrap64 (a2 + 1)), .int .i64 0, .int .i64 0, .int .i64 0]) ?_ 3 _ rfl; (with_reducible repeat (first | refine blk_drewN ?_ _ | refine blk_drew ?_ | refine blk_alloc ?_ _)); refine blk_put (cs := #[.int .i64 a0, .int .i64 a1, .int .i64 0, .int .i64 0, .int .i64 0, .int .i64 0]) ?_ 2 _ rfl; (with_reducible repeat (first | refine blk_drewN ?_ _ | refine blk_drew ?_ | refine blk_alloc ?_ _)); refine blk_put (cs := #[.int .i64 a0, .int .i64 0, .int .i64 0, .int .i64 0, .int .i64 0, .int .i64 0]) ?_ 1 _ rfl; (with_reducible repeat (first | refine blk_drewN ?_ _ | refine blk_drew ?_ | refine blk_alloc ?_ _)); refine blk_put (cs := #[.int .i64 0, .int .i64 0, .int .i64 0, .int .i64 0, .int .i64 0, .int .i64 0]) ?_ 0 _ rfl; (with_reducible repeat (first | refine blk_drewN ?_ _ | refine blk_drew ?_ | refine blk_alloc ?_ _)); exact BK113.out)⟩, ⟨(by repeat (first | (with_reducible first | exact HB.out | apply below_alloc | apply pw_below_drewN | apply below_drew1 | refine below_set ?_ GE102.out | refine below_set ?_ GE112.out | refine below_set ?_ GE113.out) | exact HB.out))⟩⟩
                      case rest =>
                        clear HC40 BK112 BK113 BK102 HB
                        ((try clear hcz41_0); (try clear hfz41_0); (try clear hcz45_0); (try clear hfz45_0); (try clear hcz46_0); (try clear hfz46_0); (try clear hcz41_1); (try clear hfz41_1); (try clear hcz45_1); (try clear hfz45_1); (try clear hcz46_1); (try clear hfz46_1); (try clear hcz41_2); (try clear hfz41_2); (try clear hcz45_2); (try clear hfz45_2); (try clear hcz46_2); (try clear hfz46_2); (try clear hcz41_3); (try clear hfz41_3); (try clear hcz45_3); (try clear hfz45_3); (try clear hcz46_3); (try clear hfz46_3); (try clear hcz41_4); (try clear hfz41_4); (try clear hcz45_4); (try clear hfz45_4); (try clear hcz46_4); (try clear hfz46_4); (try clear hcz41_5); (try clear hfz41_5); (try clear hcz45_5); (try clear hfz45_5); (try clear hcz46_5); (try clear hfz46_5))
                        obtain ⟨M, D, HA, BK112, BK113, HB⟩ := hcut
                        have hcu0 : wc.cell? ⟨gb113, 0, none⟩ = some (.int .i64 a0) := (blk_cell BK113.out 0).trans rfl
                        have hcu1 : wc.cell? ⟨gb113, 1, none⟩ = some (.int .i64 M) := (blk_cell BK113.out 1).trans rfl
                        have hcu2 : wc.cell? ⟨gb113, 2, none⟩ = some (.int .i64 D) := (blk_cell BK113.out 2).trans rfl
                        have hcu3 : wc.cell? ⟨gb113, 3, none⟩ = some (.int .i64 0) := (blk_cell BK113.out 3).trans rfl
                        have hcu4 : wc.cell? ⟨gb113, 4, none⟩ = some (.int .i64 0) := (blk_cell BK113.out 4).trans rfl
                        have hcu5 : wc.cell? ⟨gb113, 5, none⟩ = some (.int .i64 0) := (blk_cell BK113.out 5).trans rfl
                        have hfu0 := blk_frozen BK113.out 0
                        have hfu1 := blk_frozen BK113.out 1
                        have hfu2 := blk_frozen BK113.out 2
                        have hfu3 := blk_frozen BK113.out 3
                        have hfu4 := blk_frozen BK113.out 4
                        have hfu5 := blk_frozen BK113.out 5
                        have hcv0 : wc.cell? ⟨gb112, 0, none⟩ = some (.int .i64 t105) := (blk_cell BK112.out 0).trans rfl
                        have hcv1 : wc.cell? ⟨gb112, 1, none⟩ = some (.int .i64 t106) := (blk_cell BK112.out 1).trans rfl
                        have hcv2 : wc.cell? ⟨gb112, 2, none⟩ = some (.int .i64 t107) := (blk_cell BK112.out 2).trans rfl
                        have hcv3 : wc.cell? ⟨gb112, 3, none⟩ = some (.int .i64 t108) := (blk_cell BK112.out 3).trans rfl
                        have hcv4 : wc.cell? ⟨gb112, 4, none⟩ = some (.int .i64 t109) := (blk_cell BK112.out 4).trans rfl
                        have hcv5 : wc.cell? ⟨gb112, 5, none⟩ = some (.int .i64 t110) := (blk_cell BK112.out 5).trans rfl
                        have hfv0 := blk_frozen BK112.out 0
                        have hfv1 := blk_frozen BK112.out 1
                        have hfv2 := blk_frozen BK112.out 2
                        have hfv3 := blk_frozen BK112.out 3
                        have hfv4 := blk_frozen BK112.out 4
                        have hfv5 := blk_frozen BK112.out 5
                        go_upto_if 88 with (fail)
                        go_cut [] (fun wc => ∃ (Y N E : Int), Aside0 ((if t111 = 0 then (some (t105 == Y && (t106 == N && (t107 == E && (t108 == 0 && (t109 == 0 && (t110 == 0))))))) else (some false)) = some r) ∧ Aside0 (wc.heap[gb112]? = some (.cells #[.int .i64 t105, .int .i64 t106, .int .i64 t107, .int .i64 t108, .int .i64 t109, .int .i64 t110] 23 (0, 0))) ∧ Aside0 (wc.heap[gb113]? = some (.cells #[.int .i64 Y, .int .i64 N, .int .i64 E, .int .i64 0, .int .i64 0, .int .i64 0] 23 (0, 0))) ∧ Aside0 (Below w.heap.size w wc))
                        case first =>
                          have H := HA.out
                          clear HA
                          by_cases c36 : M = 13
                          · rw [if_pos c36] at H
                            have c36b0 : (M == 13) = true := beq_iff_eq.mpr c36
                            clear c36
                            (first | rw [c36b0] | (simp only [i64_w, i32_w]; rw [c36b0]) | skip)
                            have H' := Aside0.mk H
                            clear H
                            go_wp2
                            go_meet
                            case rel => exact ⟨(wrap64 (a0 + 1)), 1, D, H', ⟨(by (with_reducible repeat (first | refine blk_drewN ?_ _ | refine blk_drew ?_ | refine blk_alloc ?_ _)); refine blk_far ?_ NB112_113.out _; (with_reducible repeat (first | refine blk_drewN ?_ _ | refine blk_drew ?_ | refine blk_alloc ?_ _)); refine blk_far ?_ NB112_113.out _; (with_reducible repeat (first | refine blk_drewN ?_ _ | refine blk_drew ?_ | refine blk_alloc ?_ _)); exact BK112.out)⟩, ⟨(by (with_reducible repeat (first | refine blk_drewN ?_ _ | refine blk_drew ?_ | refine blk_alloc ?_ _)); refine blk_put (cs := #[.int .i64 (wrap64 (a0 + 1)), .int .i64 M, .int .i64 D, .int .i64 0, .int .i64 0, .int .i64 0]) ?_ 1 _ rfl; (with_reducible repeat (first | refine blk_drewN ?_ _ | refine blk_drew ?_ | refine blk_alloc ?_ _)); refine blk_put (cs := #[.int .i64 a0, .int .i64 M, .int .i64 D, .int .i64 0, .int .i64 0, .int .i64 0]) ?_ 0 _ rfl; (with_reducible repeat (first | refine blk_drewN ?_ _ | refine blk_drew ?_ | refine blk_alloc ?_ _)); exact BK113.out)⟩, ⟨(by repeat (first | (with_reducible first | exact HB.out | apply below_alloc | apply pw_below_drewN | apply below_drew1 | refine below_set ?_ GE102.out | refine below_set ?_ GE112.out | refine below_set ?_ GE113.out) | exact HB.out))⟩⟩
                          · rw [if_neg c36] at H
                            have c36b0 : (M == 13) = false := beq_eq_false_iff_ne.mpr c36
                            clear c36
                            (first | rw [c36b0] | (simp only [i64_w, i32_w]; rw [c36b0]) | skip)
                            have H' := Aside0.mk H
                            clear H
                            go_wp2
                            go_meet
                            case rel => exact ⟨a0, M, D, H', ⟨(by (with_reducible repeat (first | refine blk_drewN ?_ _ | refine blk_drew ?_ | refine blk_alloc ?_ _)); exact BK112.out)⟩, ⟨(by (with_reducible repeat (first | refine blk_drewN ?_ _ | refine blk_drew ?_ | refine blk_alloc ?_ _)); exact BK113.out)⟩, ⟨(by repeat (first | (with_reducible first | exact HB.out | apply below_alloc | apply pw_below_drewN | apply below_drew1 | refine below_set ?_ GE102.out | refine below_set ?_ GE112.out | refine below_set ?_ GE113.out) | exact HB.out))⟩⟩
                        case rest =>
                          clear HA BK112 BK113 HB
                          ((try clear hcu0); (try clear hfu0); (try clear hcu1); (try clear hfu1); (try clear hcu2); (try clear hfu2); (try clear hcu3); (try clear hfu3); (try clear hcu4); (try clear hfu4); (try clear hcu5); (try clear hfu5); (try clear hcv0); (try clear hfv0); (try clear hcv1); (try clear hfv1); (try clear hcv2); (try clear hfv2); (try clear hcv3); (try clear hfv3); (try clear hcv4); (try clear hfv4); (try clear hcv5); (try clear hfv5))
                          obtain ⟨Y, N, E, HA, BK112, BK113, HB⟩ := hcut
                          have hcu0 : wc.cell? ⟨gb113, 0, none⟩ = some (.int .i64 Y) := (blk_cell BK113.out 0).trans rfl
                          have hcu1 : wc.cell? ⟨gb113, 1, none⟩ = some (.int .i64 N) := (blk_cell BK113.out 1).trans rfl
                          have hcu2 : wc.cell? ⟨gb113, 2, none⟩ = some (.int .i64 E) := (blk_cell BK113.out 2).trans rfl
                          have hcu3 : wc.cell? ⟨gb113, 3, none⟩ = some (.int .i64 0) := (blk_cell BK113.out 3).trans rfl
                          have hcu4 : wc.cell? ⟨gb113, 4, none⟩ = some (.int .i64 0) := (blk_cell BK113.out 4).trans rfl
                          have hcu5 : wc.cell? ⟨gb113, 5, none⟩ = some (.int .i64 0) := (blk_cell BK113.out 5).trans rfl
                          have hfu0 := blk_frozen BK113.out 0
                          have hfu1 := blk_frozen BK113.out 1
                          have hfu2 := blk_frozen BK113.out 2
                          have hfu3 := blk_frozen BK113.out 3
                          have hfu4 := blk_frozen BK113.out 4
                          have hfu5 := blk_frozen BK113.out 5
                          have hcv0 : wc.cell? ⟨gb112, 0, none⟩ = some (.int .i64 t105) := (blk_cell BK112.out 0).trans rfl
                          have hcv1 : wc.cell? ⟨gb112, 1, none⟩ = some (.int .i64 t106) := (blk_cell BK112.out 1).trans rfl
                          have hcv2 : wc.cell? ⟨gb112, 2, none⟩ = some (.int .i64 t107) := (blk_cell BK112.out 2).trans rfl
                          have hcv3 : wc.cell? ⟨gb112, 3, none⟩ = some (.int .i64 t108) := (blk_cell BK112.out 3).trans rfl
                          have hcv4 : wc.cell? ⟨gb112, 4, none⟩ = some (.int .i64 t109) := (blk_cell BK112.out 4).trans rfl
                          have hcv5 : wc.cell? ⟨gb112, 5, none⟩ = some (.int .i64 t110) := (blk_cell BK112.out 5).trans rfl
                          have hfv0 := blk_frozen BK112.out 0
                          have hfv1 := blk_frozen BK112.out 1
                          have hfv2 := blk_frozen BK112.out 2
                          have hfv3 := blk_frozen BK112.out 3
                          have hfv4 := blk_frozen BK112.out 4
                          have hfv5 := blk_frozen BK112.out 5
                          have H := HA.out
                          clear HA
                          by_cases c37 : t111 = 0
                          · rw [if_pos c37] at H
                            have c37b0 : (t111 == 0) = true := beq_iff_eq.mpr c37
                            have c37b1 : (t111 != 0) = false := bne_eq_false_iff_eq.mpr c37
                            clear c37
                            obtain rfl := Option.some.inj H
                            go_wp2
                            go_ret
                            exact ⟨by first | rfl | (simp [errW_none, errW_some] <;> rfl) | (simp [*, errW_none, errW_some] <;> rfl), (by repeat (first | (with_reducible first | exact HB.out | apply below_alloc | apply pw_below_drewN | apply below_drew1 | refine below_set ?_ GE102.out | refine below_set ?_ GE112.out | refine below_set ?_ GE113.out) | exact HB.out))⟩
                          · rw [if_neg c37] at H
                            have c37b0 : (t111 == 0) = false := beq_eq_false_iff_ne.mpr c37
                            have c37b1 : (t111 != 0) = true := bne_iff_ne.mpr c37
                            clear c37
                            obtain rfl := Option.some.inj H
                            go_wp2
                            go_ret
                            exact ⟨by first | rfl | (simp [errW_none, errW_some] <;> rfl) | (simp [*, errW_none, errW_some] <;> rfl), (by repeat (first | (with_reducible first | exact HB.out | apply below_alloc | apply pw_below_drewN | apply below_drew1 | refine below_set ?_ GE102.out | refine below_set ?_ GE112.out | refine below_set ?_ GE113.out) | exact HB.out))⟩
                    · rw [if_neg c33] at H
                      have c33b0 : (t104 == 0) = false := beq_eq_false_iff_ne.mpr c33
                      have c33b1 : (t104 != 0) = true := bne_iff_ne.mpr c33
                      by_cases c110 : t104 = 1
                      · rw [if_pos c110] at H
                        have c110b0 : (t104 == 1) = true := beq_iff_eq.mpr c110
                        have c110b1 : (t104 != 1) = false := bne_eq_false_iff_eq.mpr c110
                        clear c110
                        obtain rfl := Option.some.inj H
                        go_wp2
                        go_ret
                        exact ⟨by first | rfl | (simp [errW_none, errW_some] <;> rfl) | (simp [*, errW_none, errW_some] <;> rfl), by repeat (first | (with_reducible first | exact HB.out | apply below_alloc | apply pw_below_drewN | apply below_drew1 | refine below_set ?_ GE102.out) | exact HB.out)⟩
                      · rw [if_neg c110] at H
                        have c110b0 : (t104 == 1) = false := beq_eq_false_iff_ne.mpr c110
                        have c110b1 : (t104 != 1) = true := bne_iff_ne.mpr c110
                        obtain rfl := Option.some.inj H
                        go_wp2
                        go_ret
                        exact ⟨by first | rfl | (simp [errW_none, errW_some] <;> rfl) | (simp [*, errW_none, errW_some] <;> rfl), by repeat (first | (with_reducible first | exact HB.out | apply below_alloc | apply pw_below_drewN | apply below_drew1 | refine below_set ?_ GE102.out) | exact HB.out)⟩
  · replace c5 := Bool.eq_false_iff.mpr c5
    subst c5
    have H1 : (some false) = some r := by rw [if_neg (show ¬ (false = true) by decide)] at H; exact H
    clear H
    have H := H1
    clear H1
    obtain rfl := Option.some.inj H
    go_enter Tryd.func5, Tryd.ntmps5
    go_wp2_with (first | ((with_reducible refine gate_callee (f := 11) rfl ?_); refine goesL_ (some 14) rfl rfl Tryd.func11 (by kernel_rfl) rfl #[] rfl (by (try simp only [List.map_toArray, List.map_cons, List.map_nil]); first | done | rfl | (simp only [List.length_drop, List.length_take]; rfl)) ?_; (with_reducible refine (masterdisclaw16_awake.calls  false _ ?side1 A4.out).mono ?_); (case side1 => exact HG.below hG_ (by repeat (first | (with_reducible first | exact HB.out | apply below_alloc | apply pw_below_drewN | apply below_drew1) | exact HB.out))); rintro e w111 ⟨rfl, hb⟩; refine ⟨_, rfl, ?_⟩; have n0_ := Aside0.mk (below_step (by repeat (first | (with_reducible first | exact HB.out | apply below_alloc | apply pw_below_drewN | apply below_drew1) | exact HB.out)) hb); clear HB; have HB := n0_; clear n0_; (try clear hb); (try clear hb2); (try clear hk); (try clear hi)))
    go_ret
    exact ⟨by first | rfl | (simp [errW_none, errW_some] <;> rfl) | (simp [*, errW_none, errW_some] <;> rfl), by repeat (first | (with_reducible first | exact HB.out | apply below_alloc | apply pw_below_drewN | apply below_drew1) | exact HB.out)⟩

/-- THE ONE PURE STATEMENT of masterdisclaw16_DatetimeDays: yours. -/
def masterdisclaw16_DatetimeDays.Pure : Prop := ∀ (a0 : Int) (a1 : Int) (a2 : Int), (Lit.int .i64 a0).wf = true → (Lit.int .i64 a1).wf = true → (Lit.int .i64 a2).wf = true → ∃ k, masterdisclaw16_DatetimeDays.f k a0 a1 a2 = some true
theorem masterdisclaw16_DatetimeDays.walk (P : masterdisclaw16_DatetimeDays.Pure) (a0 : Int) (a1 : Int) (a2 : Int) (w : World) (hG_ : HG w) (w0 : (Lit.int .i64 a0).wf = true) (w1 : (Lit.int .i64 a1).wf = true) (w2 : (Lit.int .i64 a2).wf = true) :
    Calls Tryd.prog 5 #[.int .i64 a0, .int .i64 a1, .int .i64 a2] w fun e w' => e = .returned (.bool true) ∧ Below w.heap.size w w' := by
  obtain ⟨k, h⟩ := P a0 a1 a2 w0 w1 w2
  refine (masterdisclaw16_DatetimeDays.calls k a0 a1 a2 true w hG_ h).mono ?_
  rintro e w' ⟨rfl, hd⟩
  exact ⟨rfl, hd⟩

end Go.Proofs.YtnchkpheepbacaaDoor.E
