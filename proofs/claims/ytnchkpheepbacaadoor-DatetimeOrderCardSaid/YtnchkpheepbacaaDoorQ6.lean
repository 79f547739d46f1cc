/- Printed for this session's own hand contracts by its own program; Lean checks every line. -/
import Derived.Test.YtnchkpheepbacaaDoorQ0
import Derived.Test.YtnchkpheepbacaaDoorQ1
import Derived.Test.YtnchkpheepbacaaDoorQ2
import Derived.Test.YtnchkpheepbacaaDoorQ3
import Derived.Test.YtnchkpheepbacaaDoorQ4
import Derived.Test.YtnchkpheepbacaaDoorQ5
namespace Go.Proofs.YtnchkpheepbacaaDoor.Q
open Go.Proofs.YtnchkpheepbacaaDoor.Hand
open Go.RowKit Go.Proofs.YtnchkpheepbacaaDoorW.PrintWords Go.Proofs.YtnchkpheepbacaaDoorW.PrintLast Go.Proofs.YtnchkpheepbacaaDoorW.PrintMore
attribute [local go_sem] max2_int min2_int max_two min_two max_three min_three max_four min_four   -- for this text's walks alone
set_option linter.unusedVariables false
set_option linter.unusedSimpArgs false

attribute [local go_sem high] eqA23
/-! ### masterdisclaw16_DatetimeClocks: function 3 -/
def masterdisclaw16_DatetimeClocks.j0 : Nat → Int → Int → Int → Int → Int → Bool → Int → Int → Int → Int → Int → Int → Int → Int → Int → Int → Int → Int → Int → Int → Int → Int → Int → Int → Option (Bool)
  | 0, _, _, _, _, _, _, _, _, _, _, _, _, _, _, _, _, _, _, _, _, _, _, _, _ => none
  | k + 1, x1, x8, x10, x11, x12, x40, x206000, x206001, x206002, x206003, x206004, x206005, x215000, x215001, x215002, x215003, x215004, x215005, x223000, x223001, x223002, x223003, x223004, x223005 => if x40 = true then ((masterdiscref16_Join.f k x206000 x206001 x206002 x206003 x206004 x206005 x1).bind fun bt225 => (if x11 = bt225.1 then (if x12 = bt225.2 then (if (x215000 == x223000 && (x215001 == x223001 && (x215002 == x223002 && (x215003 == x223003 && (x215004 == x223004 && (x215005 == x223005)))))) = true then (some (x8 == x10)) else (some false)) else (some false)) else (some false))) else (if (x215000 == x223000 && (x215001 == x223001 && (x215002 == x223002 && (x215003 == x223003 && (x215004 == x223004 && (x215005 == x223005)))))) = true then (some (x8 == x10)) else (some false))
def masterdisclaw16_DatetimeClocks.f (k : Nat) (a0 : Int) (a1 : Int) (a2_0 : Int) (a2_1 : Int) (a2_2 : Int) (a2_3 : Int) (a2_4 : Int) (a2_5 : Int) : Option (Bool) := (masterdisclaw16_awake.f k).bind fun t206 => (if t206 = true then ((datetime_Split.f k a0 a1).bind fun bt207 => ((masterdiscref16_Split.f k a0 a1).bind fun bt215 => ((datetime_Join.f k a2_0 a2_1 a2_2 a2_3 a2_4 a2_5 a1).bind fun bt223 => (if a1 > (-1099511627776) then (masterdisclaw16_DatetimeClocks.j0 k a1 bt207.2.2.2.2.2.2 bt215.2.2.2.2.2.2 bt223.1 bt223.2 (decide (a1 < 1099511627776)) a2_0 a2_1 a2_2 a2_3 a2_4 a2_5 bt207.1 bt207.2.1 bt207.2.2.1 bt207.2.2.2.1 bt207.2.2.2.2.1 bt207.2.2.2.2.2.1 bt215.1 bt215.2.1 bt215.2.2.1 bt215.2.2.2.1 bt215.2.2.2.2.1 bt215.2.2.2.2.2.1) else (masterdisclaw16_DatetimeClocks.j0 k a1 bt207.2.2.2.2.2.2 bt215.2.2.2.2.2.2 bt223.1 bt223.2 false a2_0 a2_1 a2_2 a2_3 a2_4 a2_5 bt207.1 bt207.2.1 bt207.2.2.1 bt207.2.2.2.1 bt207.2.2.2.2.1 bt207.2.2.2.2.2.1 bt215.1 bt215.2.1 bt215.2.2.1 bt215.2.2.2.1 bt215.2.2.2.2.1 bt215.2.2.2.2.2.1))))) else (some false))
theorem masterdisclaw16_DatetimeClocks.mono_l : ∀ k, (∀ y0 y1 y2 y3 y4 y5 y6 y7 y8 y9 y10 y11 y12 y13 y14 y15 y16 y17 y18 y19 y20 y21 y22 y23, LeO (masterdisclaw16_DatetimeClocks.j0 k y0 y1 y2 y3 y4 y5 y6 y7 y8 y9 y10 y11 y12 y13 y14 y15 y16 y17 y18 y19 y20 y21 y22 y23) (masterdisclaw16_DatetimeClocks.j0 (k + 1) y0 y1 y2 y3 y4 y5 y6 y7 y8 y9 y10 y11 y12 y13 y14 y15 y16 y17 y18 y19 y20 y21 y22 y23))
  | 0 => fun _ _ _ _ _ _ _ _ _ _ _ _ _ _ _ _ _ _ _ _ _ _ _ _ r h => by simp [masterdisclaw16_DatetimeClocks.j0] at h
  | k + 1 => by
    have ih0 := masterdisclaw16_DatetimeClocks.mono_l k
    · intro y0 y1 y2 y3 y4 y5 y6 y7 y8 y9 y10 y11 y12 y13 y14 y15 y16 y17 y18 y19 y20 y21 y22 y23
      unfold masterdisclaw16_DatetimeClocks.j0
      repeat' first
      | (with_reducible exact ih0 _ _ _ _ _ _ _ _ _ _ _ _ _ _ _ _ _ _ _ _ _ _ _ _)
      | (with_reducible exact datetime_Join.mono _ _ _ _ _ _ _ _)
      | (with_reducible exact datetime_Split.mono _ _ _)
      | (with_reducible exact masterdisclaw16_awake.mono _)
      | (with_reducible exact masterdiscref16_Join.mono _ _ _ _ _ _ _ _)
      | (with_reducible exact masterdiscref16_Split.mono _ _ _)
      | (with_reducible exact LeO.refl _)
      | (with_reducible exact LeO.none _)
      | (with_reducible refine LeO.ite ?_ ?_)
      | (with_reducible refine LeO.bind ?_ (fun _ => ?_))
      | exact ih0 _ _ _ _ _ _ _ _ _ _ _ _ _ _ _ _ _ _ _ _ _ _ _ _
      | exact datetime_Join.mono _ _ _ _ _ _ _ _
      | exact datetime_Split.mono _ _ _
      | exact masterdisclaw16_awake.mono _
      | exact masterdiscref16_Join.mono _ _ _ _ _ _ _ _
      | exact masterdiscref16_Split.mono _ _ _
      | exact LeO.none _
      | refine LeO.ite ?_ ?_
      | refine LeO.bind ?_ (fun _ => ?_)
theorem masterdisclaw16_DatetimeClocks.mono : ∀ a0 a1 a2 a3 a4 a5 a6 a7 k, LeO (masterdisclaw16_DatetimeClocks.f k a0 a1 a2 a3 a4 a5 a6 a7) (masterdisclaw16_DatetimeClocks.f (k + 1) a0 a1 a2 a3 a4 a5 a6 a7) := by
  intro a0 a1 a2 a3 a4 a5 a6 a7 k
  have ih0 := masterdisclaw16_DatetimeClocks.mono_l k
  unfold masterdisclaw16_DatetimeClocks.f
  repeat' first
      | (with_reducible exact ih0 _ _ _ _ _ _ _ _ _ _ _ _ _ _ _ _ _ _ _ _ _ _ _ _)
      | (with_reducible exact datetime_Join.mono _ _ _ _ _ _ _ _)
      | (with_reducible exact datetime_Split.mono _ _ _)
      | (with_reducible exact masterdisclaw16_awake.mono _)
      | (with_reducible exact masterdiscref16_Join.mono _ _ _ _ _ _ _ _)
      | (with_reducible exact masterdiscref16_Split.mono _ _ _)
      | (with_reducible exact LeO.refl _)
      | (with_reducible exact LeO.none _)
      | (with_reducible refine LeO.ite ?_ ?_)
      | (with_reducible refine LeO.bind ?_ (fun _ => ?_))
      | exact ih0 _ _ _ _ _ _ _ _ _ _ _ _ _ _ _ _ _ _ _ _ _ _ _ _
      | exact datetime_Join.mono _ _ _ _ _ _ _ _
      | exact datetime_Split.mono _ _ _
      | exact masterdisclaw16_awake.mono _
      | exact masterdiscref16_Join.mono _ _ _ _ _ _ _ _
      | exact masterdiscref16_Split.mono _ _ _
      | exact LeO.none _
      | refine LeO.ite ?_ ?_
      | refine LeO.bind ?_ (fun _ => ?_)
set_option maxHeartbeats 8000000 in
set_option maxRecDepth 100000 in
theorem masterdisclaw16_DatetimeClocks.calls (k : Nat) (a0 : Int) (a1 : Int) (a2_0 : Int) (a2_1 : Int) (a2_2 : Int) (a2_3 : Int) (a2_4 : Int) (a2_5 : Int) (r : Bool) (w : World) (hG_ : HG w) (h : masterdisclaw16_DatetimeClocks.f k a0 a1 a2_0 a2_1 a2_2 a2_3 a2_4 a2_5 = some r) :
    Calls Tryd.prog 3 #[.int .i64 a0, .int .i64 a1, .agg #[.int .i64 a2_0, .int .i64 a2_1, .int .i64 a2_2, .int .i64 a2_3, .int .i64 a2_4, .int .i64 a2_5]] w fun e w' => e = .returned (.bool r) ∧ Below w.heap.size w w' := by
  have hu23 := Tryd.underlying23
  have HB := Aside0.mk (Below.refl w.heap.size w)
  have H : ((masterdisclaw16_awake.f k).bind fun t206 => (if t206 = true then ((datetime_Split.f k a0 a1).bind fun bt207 => ((masterdiscref16_Split.f k a0 a1).bind fun bt215 => ((datetime_Join.f k a2_0 a2_1 a2_2 a2_3 a2_4 a2_5 a1).bind fun bt223 => (if a1 > (-1099511627776) then (masterdisclaw16_DatetimeClocks.j0 k a1 bt207.2.2.2.2.2.2 bt215.2.2.2.2.2.2 bt223.1 bt223.2 (decide (a1 < 1099511627776)) a2_0 a2_1 a2_2 a2_3 a2_4 a2_5 bt207.1 bt207.2.1 bt207.2.2.1 bt207.2.2.2.1 bt207.2.2.2.2.1 bt207.2.2.2.2.2.1 bt215.1 bt215.2.1 bt215.2.2.1 bt215.2.2.2.1 bt215.2.2.2.2.1 bt215.2.2.2.2.2.1) else (masterdisclaw16_DatetimeClocks.j0 k a1 bt207.2.2.2.2.2.2 bt215.2.2.2.2.2.2 bt223.1 bt223.2 false a2_0 a2_1 a2_2 a2_3 a2_4 a2_5 bt207.1 bt207.2.1 bt207.2.2.1 bt207.2.2.2.1 bt207.2.2.2.2.1 bt207.2.2.2.2.2.1 bt215.1 bt215.2.1 bt215.2.2.1 bt215.2.2.2.1 bt215.2.2.2.2.1 bt215.2.2.2.2.2.1))))) else (some false))) = some r := h
  clear h
  replace H := Option.bind_eq_some_iff.mp H
  obtain ⟨t206, A40, H⟩ := H
  replace H : (if t206 = true then ((datetime_Split.f k a0 a1).bind fun bt207 => ((masterdiscref16_Split.f k a0 a1).bind fun bt215 => ((datetime_Join.f k a2_0 a2_1 a2_2 a2_3 a2_4 a2_5 a1).bind fun bt223 => (if a1 > (-1099511627776) then (masterdisclaw16_DatetimeClocks.j0 k a1 bt207.2.2.2.2.2.2 bt215.2.2.2.2.2.2 bt223.1 bt223.2 (decide (a1 < 1099511627776)) a2_0 a2_1 a2_2 a2_3 a2_4 a2_5 bt207.1 bt207.2.1 bt207.2.2.1 bt207.2.2.2.1 bt207.2.2.2.2.1 bt207.2.2.2.2.2.1 bt215.1 bt215.2.1 bt215.2.2.1 bt215.2.2.2.1 bt215.2.2.2.2.1 bt215.2.2.2.2.2.1) else (masterdisclaw16_DatetimeClocks.j0 k a1 bt207.2.2.2.2.2.2 bt215.2.2.2.2.2.2 bt223.1 bt223.2 false a2_0 a2_1 a2_2 a2_3 a2_4 a2_5 bt207.1 bt207.2.1 bt207.2.2.1 bt207.2.2.2.1 bt207.2.2.2.2.1 bt207.2.2.2.2.2.1 bt215.1 bt215.2.1 bt215.2.2.1 bt215.2.2.2.1 bt215.2.2.2.2.1 bt215.2.2.2.2.2.1))))) else (some false)) = some r := H
  have A4 := Aside0.mk A40
  clear A40
  by_cases c5 : t206 = true
  · subst c5
    have H1 : ((datetime_Split.f k a0 a1).bind fun bt207 => ((masterdiscref16_Split.f k a0 a1).bind fun bt215 => ((datetime_Join.f k a2_0 a2_1 a2_2 a2_3 a2_4 a2_5 a1).bind fun bt223 => (if a1 > (-1099511627776) then (masterdisclaw16_DatetimeClocks.j0 k a1 bt207.2.2.2.2.2.2 bt215.2.2.2.2.2.2 bt223.1 bt223.2 (decide (a1 < 1099511627776)) a2_0 a2_1 a2_2 a2_3 a2_4 a2_5 bt207.1 bt207.2.1 bt207.2.2.1 bt207.2.2.2.1 bt207.2.2.2.2.1 bt207.2.2.2.2.2.1 bt215.1 bt215.2.1 bt215.2.2.1 bt215.2.2.2.1 bt215.2.2.2.2.1 bt215.2.2.2.2.2.1) else (masterdisclaw16_DatetimeClocks.j0 k a1 bt207.2.2.2.2.2.2 bt215.2.2.2.2.2.2 bt223.1 bt223.2 false a2_0 a2_1 a2_2 a2_3 a2_4 a2_5 bt207.1 bt207.2.1 bt207.2.2.1 bt207.2.2.2.1 bt207.2.2.2.2.1 bt207.2.2.2.2.2.1 bt215.1 bt215.2.1 bt215.2.2.1 bt215.2.2.2.1 bt215.2.2.2.2.1 bt215.2.2.2.2.2.1))))) = some r := by rw [if_pos rfl] at H; exact H
    clear H
    have H := H1
    clear H1
    replace H := Option.bind_eq_some_iff.mp H
    obtain ⟨⟨t207, t208, t209, t210, t211, t212, t213⟩, A60, H⟩ := H
    replace H : ((masterdiscref16_Split.f k a0 a1).bind fun bt215 => ((datetime_Join.f k a2_0 a2_1 a2_2 a2_3 a2_4 a2_5 a1).bind fun bt223 => (if a1 > (-1099511627776) then (masterdisclaw16_DatetimeClocks.j0 k a1 t213 bt215.2.2.2.2.2.2 bt223.1 bt223.2 (decide (a1 < 1099511627776)) a2_0 a2_1 a2_2 a2_3 a2_4 a2_5 t207 t208 t209 t210 t211 t212 bt215.1 bt215.2.1 bt215.2.2.1 bt215.2.2.2.1 bt215.2.2.2.2.1 bt215.2.2.2.2.2.1) else (masterdisclaw16_DatetimeClocks.j0 k a1 t213 bt215.2.2.2.2.2.2 bt223.1 bt223.2 false a2_0 a2_1 a2_2 a2_3 a2_4 a2_5 t207 t208 t209 t210 t211 t212 bt215.1 bt215.2.1 bt215.2.2.1 bt215.2.2.2.1 bt215.2.2.2.2.1 bt215.2.2.2.2.2.1)))) = some r := H
    have A6 := Aside0.mk A60
    clear A60
    replace H := Option.bind_eq_some_iff.mp H
    obtain ⟨⟨t215, t216, t217, t218, t219, t220, t221⟩, A70, H⟩ := H
    replace H : ((datetime_Join.f k a2_0 a2_1 a2_2 a2_3 a2_4 a2_5 a1).bind fun bt223 => (if a1 > (-1099511627776) then (masterdisclaw16_DatetimeClocks.j0 k a1 t213 t221 bt223.1 bt223.2 (decide (a1 < 1099511627776)) a2_0 a2_1 a2_2 a2_3 a2_4 a2_5 t207 t208 t209 t210 t211 t212 t215 t216 t217 t218 t219 t220) else (masterdisclaw16_DatetimeClocks.j0 k a1 t213 t221 bt223.1 bt223.2 false a2_0 a2_1 a2_2 a2_3 a2_4 a2_5 t207 t208 t209 t210 t211 t212 t215 t216 t217 t218 t219 t220))) = some r := H
    have A7 := Aside0.mk A70
    clear A70
    replace H := Option.bind_eq_some_iff.mp H
    obtain ⟨⟨t223, t224⟩, A80, H⟩ := H
    replace H : (if a1 > (-1099511627776) then (masterdisclaw16_DatetimeClocks.j0 k a1 t213 t221 t223 t224 (decide (a1 < 1099511627776)) a2_0 a2_1 a2_2 a2_3 a2_4 a2_5 t207 t208 t209 t210 t211 t212 t215 t216 t217 t218 t219 t220) else (masterdisclaw16_DatetimeClocks.j0 k a1 t213 t221 t223 t224 false a2_0 a2_1 a2_2 a2_3 a2_4 a2_5 t207 t208 t209 t210 t211 t212 t215 t216 t217 t218 t219 t220)) = some r := H
    have A8 := Aside0.mk A80
    clear A80
    have HC9 := Aside0.mk H
    clear H
    go_enter Tryd.func3, Tryd.ntmps3
    go_upto_region 7 with (first | ((with_reducible refine gate_dst (N := 5) rfl ?_); refine box_event ?hg (N := 5) ?hd (cs := #[.int .i64 a2_0, .int .i64 a2_1, .int .i64 a2_2, .int .i64 a2_3, .int .i64 a2_4, .int .i64 a2_5]) (t := 23) ?hr ?_; (case hd => rfl); (case hg => rfl); (case hr => first | (go_simp; done) | (go_simp; rfl)); intro gb205 hg w10 hbox hb; have n0_ := Aside0.mk (below_step (by repeat (first | (with_reducible first | exact HB.out | apply below_alloc | apply pw_below_drewN | apply below_drew1) | exact HB.out)) hb); have n1_ := Aside0.mk (hbox); have n2_ := Aside0.mk ((by rw [hg]; exact (below_size (by repeat (first | (with_reducible first | exact HB.out | apply below_alloc | apply pw_below_drewN | apply below_drew1) | exact HB.out))) : w.heap.size ≤ gb205)); have n3_ := Aside0.mk ((by rw [hg]; exact (below_size (by repeat (first | (with_reducible first | exact HB.out | apply below_alloc | apply pw_below_drewN | apply below_drew1) | exact HB.out))) : w.heap.size ≤ gb205)); clear HB; have HB := n0_; have BK205 := n1_; have GW205 := n2_; have GE205 := n3_; clear n0_ n1_ n2_ n3_; clear hb hbox hg) | ((with_reducible refine gate_callee (f := 11) rfl ?_); refine goesL_ (some 15) rfl rfl Tryd.func11 (by kernel_rfl) rfl #[] rfl (by (try simp only [List.map_toArray, List.map_cons, List.map_nil]); first | done | rfl | (simp only [List.length_drop, List.length_take]; rfl)) ?_; (with_reducible refine (masterdisclaw16_awake.calls k  true _ ?side1 A4.out).mono ?_); (case side1 => exact HG.below hG_ (by repeat (first | (with_reducible first | exact HB.out | apply below_alloc | apply pw_below_drewN | apply below_drew1 | refine below_set ?_ GE205.out) | exact HB.out))); rintro e w11 ⟨rfl, hb⟩; refine ⟨_, rfl, ?_⟩; have n0_ := Aside0.mk (blk_below (g := gb205) (o := .cells #[.int .i64 a2_0, .int .i64 a2_1, .int .i64 a2_2, .int .i64 a2_3, .int .i64 a2_4, .int .i64 a2_5] 23 (0, 0)) (by (with_reducible repeat (first | refine blk_drewN ?_ _ | refine blk_drew ?_ | refine blk_alloc ?_ _)); exact BK205.out) hb); have n1_ := Aside0.mk (below_step (by repeat (first | (with_reducible first | exact HB.out | apply below_alloc | apply pw_below_drewN | apply below_drew1 | refine below_set ?_ GE205.out) | exact HB.out)) hb); clear BK205; clear HB; have BK205 := n0_; have HB := n1_; clear n0_ n1_; (try clear hb); (try clear hb2); (try clear hk); (try clear hi)) | ((with_reducible refine gate_callee (f := 12) rfl ?_); refine goesL_ (some 20) rfl rfl Tryd.func12 (by kernel_rfl) rfl #[.int .i64 a0, .int .i64 a1] rfl (by (try simp only [List.map_toArray, List.map_cons, List.map_nil]); first | done | rfl | (simp only [List.length_drop, List.length_take]; rfl)) ?_; (with_reducible refine (datetime_Split.calls k a0 a1 t207 t208 t209 t210 t211 t212 t213 _ A6.out).mono ?_); rintro e w12 ⟨rfl, hb⟩; refine ⟨_, rfl, ?_⟩; have n0_ := Aside0.mk (blk_below (g := gb205) (o := .cells #[.int .i64 a2_0, .int .i64 a2_1, .int .i64 a2_2, .int .i64 a2_3, .int .i64 a2_4, .int .i64 a2_5] 23 (0, 0)) (by (with_reducible repeat (first | refine blk_drewN ?_ _ | refine blk_drew ?_ | refine blk_alloc ?_ _)); exact BK205.out) hb); have n1_ := Aside0.mk (below_step (by repeat (first | (with_reducible first | exact HB.out | apply below_alloc | apply pw_below_drewN | apply below_drew1 | refine below_set ?_ GE205.out) | exact HB.out)) hb); clear BK205; clear HB; have BK205 := n0_; have HB := n1_; clear n0_ n1_; (try clear hb); (try clear hb2); (try clear hk); (try clear hi)) | ((with_reducible refine gate_dst (N := 7) rfl ?_); refine box_event ?hg (N := 7) ?hd (cs := #[.int .i64 0, .int .i64 0, .int .i64 0, .int .i64 0, .int .i64 0, .int .i64 0]) (t := 23) ?hr ?_; (case hd => rfl); (case hg => rfl); (case hr => first | (go_simp; done) | (go_simp; rfl)); intro gb214 hg w13 hbox hb; have n0_ := Aside0.mk (blk_below (g := gb205) (o := .cells #[.int .i64 a2_0, .int .i64 a2_1, .int .i64 a2_2, .int .i64 a2_3, .int .i64 a2_4, .int .i64 a2_5] 23 (0, 0)) (by (with_reducible repeat (first | refine blk_drewN ?_ _ | refine blk_drew ?_ | refine blk_alloc ?_ _)); exact BK205.out) hb); have n1_ := Aside0.mk (below_step (by repeat (first | (with_reducible first | exact HB.out | apply below_alloc | apply pw_below_drewN | apply below_drew1 | refine below_set ?_ GE205.out) | exact HB.out)) hb); have n2_ := Aside0.mk (hbox); have n3_ := Aside0.mk ((by rw [hg]; exact (below_size (by repeat (first | (with_reducible first | exact HB.out | apply below_alloc | apply pw_below_drewN | apply below_drew1 | refine below_set ?_ GE205.out) | exact HB.out))) : w.heap.size ≤ gb214)); have n4_ := Aside0.mk ((by rw [hg]; exact (below_size (by repeat (first | (with_reducible first | exact HB.out | apply below_alloc | apply pw_below_drewN | apply below_drew1 | refine below_set ?_ GE205.out) | exact HB.out))) : w.heap.size ≤ gb214)); have n5_ := Aside0.mk ((by rw [hg]; exact Nat.ne_of_lt (blk_lt (g := gb205) (o := .cells #[.int .i64 a2_0, .int .i64 a2_1, .int .i64 a2_2, .int .i64 a2_3, .int .i64 a2_4, .int .i64 a2_5] 23 (0, 0)) (by (with_reducible repeat (first | refine blk_drewN ?_ _ | refine blk_drew ?_ | refine blk_alloc ?_ _)); exact BK205.out)) : gb205 ≠ gb214)); have n6_ := Aside0.mk ((by rw [hg]; exact Nat.ne_of_gt (blk_lt (g := gb205) (o := .cells #[.int .i64 a2_0, .int .i64 a2_1, .int .i64 a2_2, .int .i64 a2_3, .int .i64 a2_4, .int .i64 a2_5] 23 (0, 0)) (by (with_reducible repeat (first | refine blk_drewN ?_ _ | refine blk_drew ?_ | refine blk_alloc ?_ _)); exact BK205.out)) : gb214 ≠ gb205)); clear BK205; clear HB; have BK205 := n0_; have HB := n1_; have BK214 := n2_; have GW214 := n3_; have GE214 := n4_; have NB205_214 := n5_; have NB214_205 := n6_; clear n0_ n1_ n2_ n3_ n4_ n5_ n6_; clear hb hbox hg; have hnb14 := NB214_205.out; have hnc14 := NB205_214.out; have hcz15_0 : w13.cell? ⟨gb214, 0, none⟩ = some (.int .i64 0) := (blk_cell BK214.out 0).trans rfl; have hcz15_1 : w13.cell? ⟨gb214, 1, none⟩ = some (.int .i64 0) := (blk_cell BK214.out 1).trans rfl; have hcz15_2 : w13.cell? ⟨gb214, 2, none⟩ = some (.int .i64 0) := (blk_cell BK214.out 2).trans rfl; have hcz15_3 : w13.cell? ⟨gb214, 3, none⟩ = some (.int .i64 0) := (blk_cell BK214.out 3).trans rfl; have hcz15_4 : w13.cell? ⟨gb214, 4, none⟩ = some (.int .i64 0) := (blk_cell BK214.out 4).trans rfl; have hcz15_5 : w13.cell? ⟨gb214, 5, none⟩ = some (.int .i64 0) := (blk_cell BK214.out 5).trans rfl; have hfz15_0 := blk_frozen BK214.out 0; have hfz15_1 := blk_frozen BK214.out 1; have hfz15_2 := blk_frozen BK214.out 2; have hfz15_3 := blk_frozen BK214.out 3; have hfz15_4 := blk_frozen BK214.out 4; have hfz15_5 := blk_frozen BK214.out 5) | ((with_reducible refine gate_callee (f := 13) rfl ?_); refine goesL_ (some 26) rfl rfl Tryd.func13 (by kernel_rfl) rfl #[.int .i64 a0, .int .i64 a1] rfl (by (try simp only [List.map_toArray, List.map_cons, List.map_nil]); first | done | rfl | (simp only [List.length_drop, List.length_take]; rfl)) ?_; (with_reducible refine (masterdiscref16_Split.calls k a0 a1 t215 t216 t217 t218 t219 t220 t221 _ A7.out).mono ?_); rintro e w16 ⟨rfl, hb⟩; refine ⟨_, rfl, ?_⟩; have n0_ := Aside0.mk (blk_below (g := gb205) (o := .cells #[.int .i64 a2_0, .int .i64 a2_1, .int .i64 a2_2, .int .i64 a2_3, .int .i64 a2_4, .int .i64 a2_5] 23 (0, 0)) (by (with_reducible repeat (first | refine blk_drewN ?_ _ | refine blk_drew ?_ | refine blk_alloc ?_ _)); refine blk_far ?_ NB205_214.out _; (with_reducible repeat (first | refine blk_drewN ?_ _ | refine blk_drew ?_ | refine blk_alloc ?_ _)); refine blk_far ?_ NB205_214.out _; (with_reducible repeat (first | refine blk_drewN ?_ _ | refine blk_drew ?_ | refine blk_alloc ?_ _)); refine blk_far ?_ NB205_214.out _; (with_reducible repeat (first | refine blk_drewN ?_ _ | refine blk_drew ?_ | refine blk_alloc ?_ _)); refine blk_far ?_ NB205_214.out _; (with_reducible repeat (first | refine blk_drewN ?_ _ | refine blk_drew ?_ | refine blk_alloc ?_ _)); refine blk_far ?_ NB205_214.out _; (with_reducible repeat (first | refine blk_drewN ?_ _ | refine blk_drew ?_ | refine blk_alloc ?_ _)); refine blk_far ?_ NB205_214.out _; (with_reducible repeat (first | refine blk_drewN ?_ _ | refine blk_drew ?_ | refine blk_alloc ?_ _)); exact BK205.out) hb); have n1_ := Aside0.mk (blk_below (g := gb214) (o := .cells #[.int .i64 t207, .int .i64 t208, .int .i64 t209, .int .i64 t210, .int .i64 t211, .int .i64 t212] 23 (0, 0)) (by (with_reducible repeat (first | refine blk_drewN ?_ _ | refine blk_drew ?_ | refine blk_alloc ?_ _)); refine blk_put (cs := #[.int .i64 t207, .int .i64 t208, .int .i64 t209, .int .i64 t210, .int .i64 t211, .int .i64 0]) ?_ 5 _ rfl; (with_reducible repeat (first | refine blk_drewN ?_ _ | refine blk_drew ?_ | refine blk_alloc ?_ _)); refine blk_put (cs := #[.int .i64 t207, .int .i64 t208, .int .i64 t209, .int .i64 t210, .int .i64 0, .int .i64 0]) ?_ 4 _ rfl; (with_reducible repeat (first | refine blk_drewN ?_ _ | refine blk_drew ?_ | refine blk_alloc ?_ _)); refine blk_put (cs := #[.int .i64 t207, .int .i64 t208, .int .i64 t209, .int .i64 0, .int .i64 0, .int .i64 0]) ?_ 3 _ rfl; (with_reducible repeat (first | refine blk_drewN ?_ _ | refine blk_drew ?_ | refine blk_alloc ?_ _)); refine blk_put (cs := #[.int .i64 t207, .int .i64 t208, .int .i64 0, .int .i64 0, .int .i64 0, .int .i64 0]) ?_ 2 _ rfl; (with_reducible repeat (first | refine blk_drewN ?_ _ | refine blk_drew ?_ | refine blk_alloc ?_ _)); refine blk_put (cs := #[.int .i64 t207, .int .i64 0, .int .i64 0, .int .i64 0, .int .i64 0, .int .i64 0]) ?_ 1 _ rfl; (with_reducible repeat (first | refine blk_drewN ?_ _ | refine blk_drew ?_ | refine blk_alloc ?_ _)); refine blk_put (cs := #[.int .i64 0, .int .i64 0, .int .i64 0, .int .i64 0, .int .i64 0, .int .i64 0]) ?_ 0 _ rfl; (with_reducible repeat (first | refine blk_drewN ?_ _ | refine blk_drew ?_ | refine blk_alloc ?_ _)); exact BK214.out) hb); have n2_ := Aside0.mk (below_step (by repeat (first | (with_reducible first | exact HB.out | apply below_alloc | apply pw_below_drewN | apply below_drew1 | refine below_set ?_ GE205.out | refine below_set ?_ GE214.out) | exact HB.out)) hb); clear BK205; clear BK214; clear HB; have BK205 := n0_; have BK214 := n1_; have HB := n2_; clear n0_ n1_ n2_; (try clear hb); (try clear hb2); (try clear hk); (try clear hi)) | ((with_reducible refine gate_dst (N := 9) rfl ?_); refine box_event ?hg (N := 9) ?hd (cs := #[.int .i64 0, .int .i64 0, .int .i64 0, .int .i64 0, .int .i64 0, .int .i64 0]) (t := 23) ?hr ?_; (case hd => rfl); (case hg => rfl); (case hr => first | (go_simp; done) | (go_simp; rfl)); intro gb222 hg w17 hbox hb; have n0_ := Aside0.mk (blk_below (g := gb205) (o := .cells #[.int .i64 a2_0, .int .i64 a2_1, .int .i64 a2_2, .int .i64 a2_3, .int .i64 a2_4, .int .i64 a2_5] 23 (0, 0)) (by (with_reducible repeat (first | refine blk_drewN ?_ _ | refine blk_drew ?_ | refine blk_alloc ?_ _)); exact BK205.out) hb); have n1_ := Aside0.mk (blk_below (g := gb214) (o := .cells #[.int .i64 t207, .int .i64 t208, .int .i64 t209, .int .i64 t210, .int .i64 t211, .int .i64 t212] 23 (0, 0)) (by (with_reducible repeat (first | refine blk_drewN ?_ _ | refine blk_drew ?_ | refine blk_alloc ?_ _)); exact BK214.out) hb); have n2_ := Aside0.mk (below_step (by repeat (first | (with_reducible first | exact HB.out | apply below_alloc | apply pw_below_drewN | apply below_drew1 | refine below_set ?_ GE205.out | refine below_set ?_ GE214.out) | exact HB.out)) hb); have n3_ := Aside0.mk (hbox); have n4_ := Aside0.mk ((by rw [hg]; exact (below_size (by repeat (first | (with_reducible first | exact HB.out | apply below_alloc | apply pw_below_drewN | apply below_drew1 | refine below_set ?_ GE205.out | refine below_set ?_ GE214.out) | exact HB.out))) : w.heap.size ≤ gb222)); have n5_ := Aside0.mk ((by rw [hg]; exact (below_size (by repeat (first | (with_reducible first | exact HB.out | apply below_alloc | apply pw_below_drewN | apply below_drew1 | refine below_set ?_ GE205.out | refine below_set ?_ GE214.out) | exact HB.out))) : w.heap.size ≤ gb222)); have n6_ := Aside0.mk ((by rw [hg]; exact Nat.ne_of_lt (blk_lt (g := gb205) (o := .cells #[.int .i64 a2_0, .int .i64 a2_1, .int .i64 a2_2, .int .i64 a2_3, .int .i64 a2_4, .int .i64 a2_5] 23 (0, 0)) (by (with_reducible repeat (first | refine blk_drewN ?_ _ | refine blk_drew ?_ | refine blk_alloc ?_ _)); exact BK205.out)) : gb205 ≠ gb222)); have n7_ := Aside0.mk ((by rw [hg]; exact Nat.ne_of_gt (blk_lt (g := gb205) (o := .cells #[.int .i64 a2_0, .int .i64 a2_1, .int .i64 a2_2, .int .i64 a2_3, .int .i64 a2_4, .int .i64 a2_5] 23 (0, 0)) (by (with_reducible repeat (first | refine blk_drewN ?_ _ | refine blk_drew ?_ | refine blk_alloc ?_ _)); exact BK205.out)) : gb222 ≠ gb205)); have n8_ := Aside0.mk ((by rw [hg]; exact Nat.ne_of_lt (blk_lt (g := gb214) (o := .cells #[.int .i64 t207, .int .i64 t208, .int .i64 t209, .int .i64 t210, .int .i64 t211, .int .i64 t212] 23 (0, 0)) (by (with_reducible repeat (first | refine blk_drewN ?_ _ | refine blk_drew ?_ | refine blk_alloc ?_ _)); exact BK214.out)) : gb214 ≠ gb222)); have n9_ := Aside0.mk ((by rw [hg]; exact Nat.ne_of_gt (blk_lt (g := gb214) (o := .cells #[.int .i64 t207, .int .i64 t208, .int .i64 t209, .int .i64 t210, .int .i64 t211, .int .i64 t212] 23 (0, 0)) (by (with_reducible repeat (first | refine blk_drewN ?_ _ | refine blk_drew ?_ | refine blk_alloc ?_ _)); exact BK214.out)) : gb222 ≠ gb214)); clear BK205; clear BK214; clear HB; have BK205 := n0_; have BK214 := n1_; have HB := n2_; have BK222 := n3_; have GW222 := n4_; have GE222 := n5_; have NB205_222 := n6_; have NB222_205 := n7_; have NB214_222 := n8_; have NB222_214 := n9_; clear n0_ n1_ n2_ n3_ n4_ n5_ n6_ n7_ n8_ n9_; clear hb hbox hg; have hnb18 := NB222_205.out; have hnc18 := NB205_222.out; have hnb19 := NB222_214.out; have hnc19 := NB214_222.out; have hcz20_0 : w17.cell? ⟨gb222, 0, none⟩ = some (.int .i64 0) := (blk_cell BK222.out 0).trans rfl; have hcz20_1 : w17.cell? ⟨gb222, 1, none⟩ = some (.int .i64 0) := (blk_cell BK222.out 1).trans rfl; have hcz20_2 : w17.cell? ⟨gb222, 2, none⟩ = some (.int .i64 0) := (blk_cell BK222.out 2).trans rfl; have hcz20_3 : w17.cell? ⟨gb222, 3, none⟩ = some (.int .i64 0) := (blk_cell BK222.out 3).trans rfl; have hcz20_4 : w17.cell? ⟨gb222, 4, none⟩ = some (.int .i64 0) := (blk_cell BK222.out 4).trans rfl; have hcz20_5 : w17.cell? ⟨gb222, 5, none⟩ = some (.int .i64 0) := (blk_cell BK222.out 5).trans rfl; have hfz20_0 := blk_frozen BK222.out 0; have hfz20_1 := blk_frozen BK222.out 1; have hfz20_2 := blk_frozen BK222.out 2; have hfz20_3 := blk_frozen BK222.out 3; have hfz20_4 := blk_frozen BK222.out 4; have hfz20_5 := blk_frozen BK222.out 5; have hcz21_0 : w17.cell? ⟨gb205, 0, none⟩ = some (.int .i64 a2_0) := (blk_cell BK205.out 0).trans rfl; have hcz21_1 : w17.cell? ⟨gb205, 1, none⟩ = some (.int .i64 a2_1) := (blk_cell BK205.out 1).trans rfl; have hcz21_2 : w17.cell? ⟨gb205, 2, none⟩ = some (.int .i64 a2_2) := (blk_cell BK205.out 2).trans rfl; have hcz21_3 : w17.cell? ⟨gb205, 3, none⟩ = some (.int .i64 a2_3) := (blk_cell BK205.out 3).trans rfl; have hcz21_4 : w17.cell? ⟨gb205, 4, none⟩ = some (.int .i64 a2_4) := (blk_cell BK205.out 4).trans rfl; have hcz21_5 : w17.cell? ⟨gb205, 5, none⟩ = some (.int .i64 a2_5) := (blk_cell BK205.out 5).trans rfl; have hfz21_0 := blk_frozen BK205.out 0; have hfz21_1 := blk_frozen BK205.out 1; have hfz21_2 := blk_frozen BK205.out 2; have hfz21_3 := blk_frozen BK205.out 3; have hfz21_4 := blk_frozen BK205.out 4; have hfz21_5 := blk_frozen BK205.out 5) | ((with_reducible refine gate_callee (f := 14) rfl ?_); refine goesL_ (some 32) rfl rfl Tryd.func14 (by kernel_rfl) rfl #[.agg #[.int .i64 a2_0, .int .i64 a2_1, .int .i64 a2_2, .int .i64 a2_3, .int .i64 a2_4, .int .i64 a2_5], .int .i64 a1] rfl (by (try simp only [List.map_toArray, List.map_cons, List.map_nil]); first | done | rfl | (simp only [List.length_drop, List.length_take]; rfl)) ?_; (with_reducible refine (datetime_Join.calls k a2_0 a2_1 a2_2 a2_3 a2_4 a2_5 a1 t223 t224 _ A8.out).mono ?_); rintro e w22 ⟨rfl, hb⟩; refine ⟨_, rfl, ?_⟩; have n0_ := Aside0.mk (blk_below (g := gb205) (o := .cells #[.int .i64 a2_0, .int .i64 a2_1, .int .i64 a2_2, .int .i64 a2_3, .int .i64 a2_4, .int .i64 a2_5] 23 (0, 0)) (by (with_reducible repeat (first | refine blk_drewN ?_ _ | refine blk_drew ?_ | refine blk_alloc ?_ _)); refine blk_far ?_ NB205_222.out _; (with_reducible repeat (first | refine blk_drewN ?_ _ | refine blk_drew ?_ | refine blk_alloc ?_ _)); refine blk_far ?_ NB205_222.out _; (with_reducible repeat (first | refine blk_drewN ?_ _ | refine blk_drew ?_ | refine blk_alloc ?_ _)); refine blk_far ?_ NB205_222.out _; (with_reducible repeat (first | refine blk_drewN ?_ _ | refine blk_drew ?_ | refine blk_alloc ?_ _)); refine blk_far ?_ NB205_222.out _; (with_reducible repeat (first | refine blk_drewN ?_ _ | refine blk_drew ?_ | refine blk_alloc ?_ _)); refine blk_far ?_ NB205_222.out _; (with_reducible repeat (first | refine blk_drewN ?_ _ | refine blk_drew ?_ | refine blk_alloc ?_ _)); refine blk_far ?_ NB205_222.out _; (with_reducible repeat (first | refine blk_drewN ?_ _ | refine blk_drew ?_ | refine blk_alloc ?_ _)); exact BK205.out) hb); have n1_ := Aside0.mk (blk_below (g := gb214) (o := .cells #[.int .i64 t207, .int .i64 t208, .int .i64 t209, .int .i64 t210, .int .i64 t211, .int .i64 t212] 23 (0, 0)) (by (with_reducible repeat (first | refine blk_drewN ?_ _ | refine blk_drew ?_ | refine blk_alloc ?_ _)); refine blk_far ?_ NB214_222.out _; (with_reducible repeat (first | refine blk_drewN ?_ _ | refine blk_drew ?_ | refine blk_alloc ?_ _)); refine blk_far ?_ NB214_222.out _; (with_reducible repeat (first | refine blk_drewN ?_ _ | refine blk_drew ?_ | refine blk_alloc ?_ _)); refine blk_far ?_ NB214_222.out _; (with_reducible repeat (first | refine blk_drewN ?_ _ | refine blk_drew ?_ | refine blk_alloc ?_ _)); refine blk_far ?_ NB214_222.out _; (with_reducible repeat (first | refine blk_drewN ?_ _ | refine blk_drew ?_ | refine blk_alloc ?_ _)); refine blk_far ?_ NB214_222.out _; (with_reducible repeat (first | refine blk_drewN ?_ _ | refine blk_drew ?_ | refine blk_alloc ?_ _)); refine blk_far ?_ NB214_222.out _; (with_reducible repeat (first | refine blk_drewN ?_ _ | refine blk_drew ?_ | refine blk_alloc ?_ _)); exact BK214.out) hb); have n2_ := Aside0.mk (blk_below (g := gb222) (o := .cells #[.int .i64 t215, .int .i64 t216, .int .i64 t217, .int .i64 t218, .int .i64 t219, .int .i64 t220] 23 (0, 0)) (by (with_reducible repeat (first | refine blk_drewN ?_ _ | refine blk_drew ?_ | refine blk_alloc ?_ _)); refine blk_put (cs := #[.int .i64 t215, .int .i64 t216, .int .i64 t217, .int .i64 t218, .int .i64 t219, .int .i64 0]) ?_ 5 _ rfl; (with_reducible repeat (first | refine blk_drewN ?_ _ | refine blk_drew ?_ | refine blk_alloc ?_ _)); refine blk_put (cs := #[.int .i64 t215, .int .i64 t216, .int .i64 t217, .int .i64 t218, .int .i64 0, .int .i64 0]) ?_ 4 _ rfl; (with_reducible repeat (first | refine blk_drewN ?_ _ | refine blk_drew ?_ | refine blk_alloc ?_ _)); refine blk_put (cs := #[.int .i64 t215, .int .i64 t216, .int .i64 t217, .int .i64 0, .int .i64 0, .int .i64 0]) ?_ 3 _ rfl; (with_reducible repeat (first | refine blk_drewN ?_ _ | refine blk_drew ?_ | refine blk_alloc ?_ _)); refine blk_put (cs := #[.int .i64 t215, .int .i64 t216, .int .i64 0, .int .i64 0, .int .i64 0, .int .i64 0]) ?_ 2 _ rfl; (with_reducible repeat (first | refine blk_drewN ?_ _ | refine blk_drew ?_ | refine blk_alloc ?_ _)); refine blk_put (cs := #[.int .i64 t215, .int .i64 0, .int .i64 0, .int .i64 0, .int .i64 0, .int .i64 0]) ?_ 1 _ rfl; (with_reducible repeat (first | refine blk_drewN ?_ _ | refine blk_drew ?_ | refine blk_alloc ?_ _)); refine blk_put (cs := #[.int .i64 0, .int .i64 0, .int .i64 0, .int .i64 0, .int .i64 0, .int .i64 0]) ?_ 0 _ rfl; (with_reducible repeat (first | refine blk_drewN ?_ _ | refine blk_drew ?_ | refine blk_alloc ?_ _)); exact BK222.out) hb); have n3_ := Aside0.mk (below_step (by repeat (first | (with_reducible first | exact HB.out | apply below_alloc | apply pw_below_drewN | apply below_drew1 | refine below_set ?_ GE205.out | refine below_set ?_ GE214.out | refine below_set ?_ GE222.out) | exact HB.out)) hb); clear BK205; clear BK214; clear BK222; clear HB; have BK205 := n0_; have BK214 := n1_; have BK222 := n2_; have HB := n3_; clear n0_ n1_ n2_ n3_; (try clear hb); (try clear hb2); (try clear hk); (try clear hi)))
    (try simp only [Act.put, List.setIfInBounds_toArray, List.set_cons_zero, List.set_cons_succ])
    go_cut [40] (fun v40 wc => ∃ (kq : Nat) (x40_8 : Bool), v40 = .bool x40_8 ∧ Aside0 (masterdisclaw16_DatetimeClocks.j0 kq a1 t213 t221 t223 t224 x40_8 a2_0 a2_1 a2_2 a2_3 a2_4 a2_5 t207 t208 t209 t210 t211 t212 t215 t216 t217 t218 t219 t220 = some r) ∧ Aside0 (kq ≤ k) ∧ Aside0 (wc.heap[gb205]? = some (.cells #[.int .i64 a2_0, .int .i64 a2_1, .int .i64 a2_2, .int .i64 a2_3, .int .i64 a2_4, .int .i64 a2_5] 23 (0, 0))) ∧ Aside0 (wc.heap[gb214]? = some (.cells #[.int .i64 t207, .int .i64 t208, .int .i64 t209, .int .i64 t210, .int .i64 t211, .int .i64 t212] 23 (0, 0))) ∧ Aside0 (wc.heap[gb222]? = some (.cells #[.int .i64 t215, .int .i64 t216, .int .i64 t217, .int .i64 t218, .int .i64 t219, .int .i64 t220] 23 (0, 0))) ∧ Aside0 (Below w.heap.size w wc))
    case first =>
      have H := HC9.out
      clear HC9
      by_cases c23 : a1 > (-1099511627776)
      · rw [if_pos c23] at H
        have c23b0 : decide ((-1099511627776) < a1) = true := decide_eq_true c23
        clear c23
        (first | rw [c23b0] | (simp only [i64_w, i32_w]; rw [c23b0]) | skip)
        have H' := Aside0.mk H
        clear H
        go_wp2
        go_meet
        case rel => exact ⟨_, (decide (a1 < 1099511627776)), (by first | rfl | (simp; done) | (simp [*]; done)), H', ⟨by first | omega | exact Nat.le_refl _⟩, ⟨by (with_reducible repeat (first | refine blk_drewN ?_ _ | refine blk_drew ?_ | refine blk_alloc ?_ _)); exact BK205.out⟩, ⟨by (with_reducible repeat (first | refine blk_drewN ?_ _ | refine blk_drew ?_ | refine blk_alloc ?_ _)); exact BK214.out⟩, ⟨by (with_reducible repeat (first | refine blk_drewN ?_ _ | refine blk_drew ?_ | refine blk_alloc ?_ _)); exact BK222.out⟩, ⟨by repeat (first | (with_reducible first | exact HB.out | apply below_alloc | apply pw_below_drewN | apply below_drew1 | refine below_set ?_ GE205.out | refine below_set ?_ GE214.out | refine below_set ?_ GE222.out) | exact HB.out)⟩⟩
      · rw [if_neg c23] at H
        have c23b0 : decide ((-1099511627776) < a1) = false := decide_eq_false c23
        clear c23
        (first | rw [c23b0] | (simp only [i64_w, i32_w]; rw [c23b0]) | skip)
        have H' := Aside0.mk H
        clear H
        go_wp2
        go_meet
        case rel => exact ⟨_, (false), (by first | rfl | (simp; done) | (simp [*]; done)), H', ⟨by first | omega | exact Nat.le_refl _⟩, ⟨by (with_reducible repeat (first | refine blk_drewN ?_ _ | refine blk_drew ?_ | refine blk_alloc ?_ _)); exact BK205.out⟩, ⟨by (with_reducible repeat (first | refine blk_drewN ?_ _ | refine blk_drew ?_ | refine blk_alloc ?_ _)); exact BK214.out⟩, ⟨by (with_reducible repeat (first | refine blk_drewN ?_ _ | refine blk_drew ?_ | refine blk_alloc ?_ _)); exact BK222.out⟩, ⟨by repeat (first | (with_reducible first | exact HB.out | apply below_alloc | apply pw_below_drewN | apply below_drew1 | refine below_set ?_ GE205.out | refine below_set ?_ GE214.out | refine below_set ?_ GE222.out) | exact HB.out)⟩⟩
    case rest =>
      clear HC9
      try clear c1
      try clear c2
      try clear p2
      try clear c3
      try clear c5
      try clear c11
      try clear c12
      try clear c13
      try clear c14
      try clear c18
      try clear c19
      try clear c23
      try clear c23b0
      try clear hcz15_0
      try clear hcz15_1
      try clear hcz15_2
      try clear hcz15_3
      try clear hcz15_4
      try clear hcz15_5
      try clear hcz20_0
      try clear hcz20_1
      try clear hcz20_2
      try clear hcz20_3
      try clear hcz20_4
      try clear hcz20_5
      try clear hcz21_0
      try clear hcz21_1
      try clear hcz21_2
      try clear hcz21_3
      try clear hcz21_4
      try clear hcz21_5
      try clear hfz15_0
      try clear hfz15_1
      try clear hfz15_2
      try clear hfz15_3
      try clear hfz15_4
      try clear hfz15_5
      try clear hfz20_0
      try clear hfz20_1
      try clear hfz20_2
      try clear hfz20_3
      try clear hfz20_4
      try clear hfz20_5
      try clear hfz21_0
      try clear hfz21_1
      try clear hfz21_2
      try clear hfz21_3
      try clear hfz21_4
      try clear hfz21_5
      obtain ⟨kq, x40_8, rfl, HA, HJ8, BK205, BK214, BK222, HB⟩ := hcut
      cases kq with
      | zero => exact absurd HA.out (by simp [masterdisclaw16_DatetimeClocks.j0])
      | succ kj8 =>
        have H := HA.out
        clear HA
        simp only [masterdisclaw16_DatetimeClocks.j0] at H
        by_cases c24 : x40_8 = true
        · subst c24
          have H1 : ((masterdiscref16_Join.f kj8 a2_0 a2_1 a2_2 a2_3 a2_4 a2_5 a1).bind fun bt225 => (if t223 = bt225.1 then (if t224 = bt225.2 then (if (t207 == t215 && (t208 == t216 && (t209 == t217 && (t210 == t218 && (t211 == t219 && (t212 == t220)))))) = true then (some (t213 == t221)) else (some false)) else (some false)) else (some false))) = some r := by rw [if_pos rfl] at H; exact H
          clear H
          have H := H1
          clear H1
          replace H := Option.bind_eq_some_iff.mp H
          obtain ⟨⟨t225, t226⟩, A250, H⟩ := H
          replace H : (if t223 = t225 then (if t224 = t226 then (if (t207 == t215 && (t208 == t216 && (t209 == t217 && (t210 == t218 && (t211 == t219 && (t212 == t220)))))) = true then (some (t213 == t221)) else (some false)) else (some false)) else (some false)) = some r := H
          have A25 := Aside0.mk A250
          clear A250
          by_cases c26 : t223 = t225
          · rw [if_pos c26] at H
            have c26b0 : (t223 == t225) = true := beq_iff_eq.mpr c26
            have c26b1 : (t223 != t225) = false := bne_eq_false_iff_eq.mpr c26
            clear c26
            by_cases c27 : t224 = t226
            · rw [if_pos c27] at H
              have c27b0 : (t224 == t226) = true := beq_iff_eq.mpr c27
              have c27b1 : (t224 != t226) = false := bne_eq_false_iff_eq.mpr c27
              clear c27
              by_cases c28 : (t207 == t215 && (t208 == t216 && (t209 == t217 && (t210 == t218 && (t211 == t219 && (t212 == t220)))))) = true
              · rw [if_pos c28] at H
                have c28b0 : (t207 == t215 && (t208 == t216 && (t209 == t217 && (t210 == t218 && (t211 == t219 && (t212 == t220)))))) = true := c28
                (try (have c28b1 : decide (t207 = t215 && (t208 == t216 && (t209 == t217 && (t210 == t218 && (t211 == t219 && (t212 == t220)))))) = true := by simpa using c28))
                (try (have c28b2 : (t207 == t215 && (t208 == t216 && (t209 == t217 && (t210 == t218 && (t211 == t219 && (t212 == t220)))))) = true := by simpa using c28))
                clear c28
                obtain rfl := Option.some.inj H
                have hnb29 := NB205_214.out
                have hnc29 := NB214_205.out
                have hnb30 := NB205_222.out
                have hnc30 := NB222_205.out
                have hcz31_0 : wc.cell? ⟨gb205, 0, none⟩ = some (.int .i64 a2_0) := (blk_cell BK205.out 0).trans rfl
                have hcz31_1 : wc.cell? ⟨gb205, 1, none⟩ = some (.int .i64 a2_1) := (blk_cell BK205.out 1).trans rfl
                have hcz31_2 : wc.cell? ⟨gb205, 2, none⟩ = some (.int .i64 a2_2) := (blk_cell BK205.out 2).trans rfl
                have hcz31_3 : wc.cell? ⟨gb205, 3, none⟩ = some (.int .i64 a2_3) := (blk_cell BK205.out 3).trans rfl
                have hcz31_4 : wc.cell? ⟨gb205, 4, none⟩ = some (.int .i64 a2_4) := (blk_cell BK205.out 4).trans rfl
                have hcz31_5 : wc.cell? ⟨gb205, 5, none⟩ = some (.int .i64 a2_5) := (blk_cell BK205.out 5).trans rfl
                have hfz31_0 := blk_frozen BK205.out 0
                have hfz31_1 := blk_frozen BK205.out 1
                have hfz31_2 := blk_frozen BK205.out 2
                have hfz31_3 := blk_frozen BK205.out 3
                have hfz31_4 := blk_frozen BK205.out 4
                have hfz31_5 := blk_frozen BK205.out 5
                go_wp2_with (first | ((with_reducible refine gate_callee (f := 15) rfl ?_); refine goesL_ (some 44) rfl rfl Tryd.func15 (by kernel_rfl) rfl #[.agg #[.int .i64 a2_0, .int .i64 a2_1, .int .i64 a2_2, .int .i64 a2_3, .int .i64 a2_4, .int .i64 a2_5], .int .i64 a1] rfl (by (try simp only [List.map_toArray, List.map_cons, List.map_nil]); first | done | rfl | (simp only [List.length_drop, List.length_take]; rfl)) ?_; (with_reducible refine (masterdiscref16_Join.calls kj8 a2_0 a2_1 a2_2 a2_3 a2_4 a2_5 a1 t225 t226 _ A25.out).mono ?_); rintro e w32 ⟨rfl, hb⟩; refine ⟨_, rfl, ?_⟩; have n0_ := Aside0.mk (blk_below (g := gb205) (o := .cells #[.int .i64 a2_0, .int .i64 a2_1, .int .i64 a2_2, .int .i64 a2_3, .int .i64 a2_4, .int .i64 a2_5] 23 (0, 0)) (by (with_reducible repeat (first | refine blk_drewN ?_ _ | refine blk_drew ?_ | refine blk_alloc ?_ _)); exact BK205.out) hb); have n1_ := Aside0.mk (blk_below (g := gb214) (o := .cells #[.int .i64 t207, .int .i64 t208, .int .i64 t209, .int .i64 t210, .int .i64 t211, .int .i64 t212] 23 (0, 0)) (by (with_reducible repeat (first | refine blk_drewN ?_ _ | refine blk_drew ?_ | refine blk_alloc ?_ _)); exact BK214.out) hb); have n2_ := Aside0.mk (blk_below (g := gb222) (o := .cells #[.int .i64 t215, .int .i64 t216, .int .i64 t217, .int .i64 t218, .int .i64 t219, .int .i64 t220] 23 (0, 0)) (by (with_reducible repeat (first | refine blk_drewN ?_ _ | refine blk_drew ?_ | refine blk_alloc ?_ _)); exact BK222.out) hb); have n3_ := Aside0.mk (below_step (by repeat (first | (with_reducible first | exact HB.out | apply below_alloc | apply pw_below_drewN | apply below_drew1 | refine below_set ?_ GE205.out | refine below_set ?_ GE214.out | refine below_set ?_ GE222.out) | exact HB.out)) hb); clear BK205; clear BK214; clear BK222; clear HB; have BK205 := n0_; have BK214 := n1_; have BK222 := n2_; have HB := n3_; clear n0_ n1_ n2_ n3_; (try clear hb); (try clear hb2); (try clear hk); (try clear hi); have hnb33 := NB214_222.out; have hnc33 := NB222_214.out; have hcz34_0 : w32.cell? ⟨gb214, 0, none⟩ = some (.int .i64 t207) := (blk_cell BK214.out 0).trans rfl; have hcz34_1 : w32.cell? ⟨gb214, 1, none⟩ = some (.int .i64 t208) := (blk_cell BK214.out 1).trans rfl; have hcz34_2 : w32.cell? ⟨gb214, 2, none⟩ = some (.int .i64 t209) := (blk_cell BK214.out 2).trans rfl; have hcz34_3 : w32.cell? ⟨gb214, 3, none⟩ = some (.int .i64 t210) := (blk_cell BK214.out 3).trans rfl; have hcz34_4 : w32.cell? ⟨gb214, 4, none⟩ = some (.int .i64 t211) := (blk_cell BK214.out 4).trans rfl; have hcz34_5 : w32.cell? ⟨gb214, 5, none⟩ = some (.int .i64 t212) := (blk_cell BK214.out 5).trans rfl; have hfz34_0 := blk_frozen BK214.out 0; have hfz34_1 := blk_frozen BK214.out 1; have hfz34_2 := blk_frozen BK214.out 2; have hfz34_3 := blk_frozen BK214.out 3; have hfz34_4 := blk_frozen BK214.out 4; have hfz34_5 := blk_frozen BK214.out 5; have hcz35_0 : w32.cell? ⟨gb222, 0, none⟩ = some (.int .i64 t215) := (blk_cell BK222.out 0).trans rfl; have hcz35_1 : w32.cell? ⟨gb222, 1, none⟩ = some (.int .i64 t216) := (blk_cell BK222.out 1).trans rfl; have hcz35_2 : w32.cell? ⟨gb222, 2, none⟩ = some (.int .i64 t217) := (blk_cell BK222.out 2).trans rfl; have hcz35_3 : w32.cell? ⟨gb222, 3, none⟩ = some (.int .i64 t218) := (blk_cell BK222.out 3).trans rfl; have hcz35_4 : w32.cell? ⟨gb222, 4, none⟩ = some (.int .i64 t219) := (blk_cell BK222.out 4).trans rfl; have hcz35_5 : w32.cell? ⟨gb222, 5, none⟩ = some (.int .i64 t220) := (blk_cell BK222.out 5).trans rfl; have hfz35_0 := blk_frozen BK222.out 0; have hfz35_1 := blk_frozen BK222.out 1; have hfz35_2 := blk_frozen BK222.out 2; have hfz35_3 := blk_frozen BK222.out 3; have hfz35_4 := blk_frozen BK222.out 4; have hfz35_5 := blk_frozen BK222.out 5))
                go_ret
                exact ⟨by first | rfl | (simp [errW_none, errW_some] <;> rfl) | (simp [*, errW_none, errW_some] <;> rfl), by repeat (first | (with_reducible first | exact HB.out | apply below_alloc | apply pw_below_drewN | apply below_drew1 | refine below_set ?_ GE205.out | refine below_set ?_ GE214.out | refine below_set ?_ GE222.out) | exact HB.out)⟩
              · rw [if_neg c28] at H
                have c28b0 : (t207 == t215 && (t208 == t216 && (t209 == t217 && (t210 == t218 && (t211 == t219 && (t212 == t220)))))) = false := by simpa using c28
                (try (have c28b1 : decide (t207 = t215 && (t208 == t216 && (t209 == t217 && (t210 == t218 && (t211 == t219 && (t212 == t220)))))) = false := by simpa using c28))
                (try (have c28b2 : (t207 == t215 && (t208 == t216 && (t209 == t217 && (t210 == t218 && (t211 == t219 && (t212 == t220)))))) = false := by simpa using c28))
                (try (have c28b3 : ¬ (t207 = t215 && (t208 == t216 && (t209 == t217 && (t210 == t218 && (t211 == t219 && (t212 == t220)))))) := by simpa using c28))
                clear c28
                obtain rfl := Option.some.inj H
                have hnb36 := NB205_214.out
                have hnc36 := NB214_205.out
                have hnb37 := NB205_222.out
                have hnc37 := NB222_205.out
                have hcz38_0 : wc.cell? ⟨gb205, 0, none⟩ = some (.int .i64 a2_0) := (blk_cell BK205.out 0).trans rfl
                have hcz38_1 : wc.cell? ⟨gb205, 1, none⟩ = some (.int .i64 a2_1) := (blk_cell BK205.out 1).trans rfl
                have hcz38_2 : wc.cell? ⟨gb205, 2, none⟩ = some (.int .i64 a2_2) := (blk_cell BK205.out 2).trans rfl
                have hcz38_3 : wc.cell? ⟨gb205, 3, none⟩ = some (.int .i64 a2_3) := (blk_cell BK205.out 3).trans rfl
                have hcz38_4 : wc.cell? ⟨gb205, 4, none⟩ = some (.int .i64 a2_4) := (blk_cell BK205.out 4).trans rfl
                have hcz38_5 : wc.cell? ⟨gb205, 5, none⟩ = some (.int .i64 a2_5) := (blk_cell BK205.out 5).trans rfl
                have hfz38_0 := blk_frozen BK205.out 0
                have hfz38_1 := blk_frozen BK205.out 1
                have hfz38_2 := blk_frozen BK205.out 2
                have hfz38_3 := blk_frozen BK205.out 3
                have hfz38_4 := blk_frozen BK205.out 4
                have hfz38_5 := blk_frozen BK205.out 5
                go_wp2_with (first | ((with_reducible refine gate_callee (f := 15) rfl ?_); refine goesL_ (some 44) rfl rfl Tryd.func15 (by kernel_rfl) rfl #[.agg #[.int .i64 a2_0, .int .i64 a2_1, .int .i64 a2_2, .int .i64 a2_3, .int .i64 a2_4, .int .i64 a2_5], .int .i64 a1] rfl (by (try simp only [List.map_toArray, List.map_cons, List.map_nil]); first | done | rfl | (simp only [List.length_drop, List.length_take]; rfl)) ?_; (with_reducible refine (masterdiscref16_Join.calls kj8 a2_0 a2_1 a2_2 a2_3 a2_4 a2_5 a1 t225 t226 _ A25.out).mono ?_); rintro e w39 ⟨rfl, hb⟩; refine ⟨_, rfl, ?_⟩; have n0_ := Aside0.mk (blk_below (g := gb205) (o := .cells #[.int .i64 a2_0, .int .i64 a2_1, .int .i64 a2_2, .int .i64 a2_3, .int .i64 a2_4, .int .i64 a2_5] 23 (0, 0)) (by (with_reducible repeat (first | refine blk_drewN ?_ _ | refine blk_drew ?_ | refine blk_alloc ?_ _)); exact BK205.out) hb); have n1_ := Aside0.mk (blk_below (g := gb214) (o := .cells #[.int .i64 t207, .int .i64 t208, .int .i64 t209, .int .i64 t210, .int .i64 t211, .int .i64 t212] 23 (0, 0)) (by (with_reducible repeat (first | refine blk_drewN ?_ _ | refine blk_drew ?_ | refine blk_alloc ?_ _)); exact BK214.out) hb); have n2_ := Aside0.mk (blk_below (g := gb222) (o := .cells #[.int .i64 t215, .int .i64 t216, .int .i64 t217, .int .i64 t218, .int .i64 t219, .int .i64 t220] 23 (0, 0)) (by (with_reducible repeat (first | refine blk_drewN ?_ _ | refine blk_drew ?_ | refine blk_alloc ?_ _)); exact BK222.out) hb); have n3_ := Aside0.mk (below_step (by repeat (first | (with_reducible first | exact HB.out | apply below_alloc | apply pw_below_drewN | apply below_drew1 | refine below_set ?_ GE205.out | refine below_set ?_ GE214.out | refine below_set ?_ GE222.out) | exact HB.out)) hb); clear BK205; clear BK214; clear BK222; clear HB; have BK205 := n0_; have BK214 := n1_; have BK222 := n2_; have HB := n3_; clear n0_ n1_ n2_ n3_; (try clear hb); (try clear hb2); (try clear hk); (try clear hi); have hnb40 := NB214_222.out; have hnc40 := NB222_214.out; have hcz41_0 : w39.cell? ⟨gb214, 0, none⟩ = some (.int .i64 t207) := (blk_cell BK214.out 0).trans rfl; have hcz41_1 : w39.cell? ⟨gb214, 1, none⟩ = some (.int .i64 t208) := (blk_cell BK214.out 1).trans rfl; have hcz41_2 : w39.cell? ⟨gb214, 2, none⟩ = some (.int .i64 t209) := (blk_cell BK214.out 2).trans rfl; have hcz41_3 : w39.cell? ⟨gb214, 3, none⟩ = some (.int .i64 t210) := (blk_cell BK214.out 3).trans rfl; have hcz41_4 : w39.cell? ⟨gb214, 4, none⟩ = some (.int .i64 t211) := (blk_cell BK214.out 4).trans rfl; have hcz41_5 : w39.cell? ⟨gb214, 5, none⟩ = some (.int .i64 t212) := (blk_cell BK214.out 5).trans rfl; have hfz41_0 := blk_frozen BK214.out 0; have hfz41_1 := blk_frozen BK214.out 1; have hfz41_2 := blk_frozen BK214.out 2; have hfz41_3 := blk_frozen BK214.out 3; have hfz41_4 := blk_frozen BK214.out 4; have hfz41_5 := blk_frozen BK214.out 5; have hcz42_0 : w39.cell? ⟨gb222, 0, none⟩ = some (.int .i64 t215) := (blk_cell BK222.out 0).trans rfl; have hcz42_1 : w39.cell? ⟨gb222, 1, none⟩ = some (.int .i64 t216) := (blk_cell BK222.out 1).trans rfl; have hcz42_2 : w39.cell? ⟨gb222, 2, none⟩ = some (.int .i64 t217) := (blk_cell BK222.out 2).trans rfl; have hcz42_3 : w39.cell? ⟨gb222, 3, none⟩ = some (.int .i64 t218) := (blk_cell BK222.out 3).trans rfl; have hcz42_4 : w39.cell? ⟨gb222, 4, none⟩ = some (.int .i64 t219) := (blk_cell BK222.out 4).trans rfl; have hcz42_5 : w39.cell? ⟨gb222, 5, none⟩ = some (.int .i64 t220) := (blk_cell BK222.out 5).trans rfl; have hfz42_0 := blk_frozen BK222.out 0; have hfz42_1 := blk_frozen BK222.out 1; have hfz42_2 := blk_frozen BK222.out 2; have hfz42_3 := blk_frozen BK222.out 3; have hfz42_4 := blk_frozen BK222.out 4; have hfz42_5 := blk_frozen BK222.out 5))
                go_ret
                exact ⟨by first | rfl | (simp [errW_none, errW_some] <;> rfl) | (simp [*, errW_none, errW_some] <;> rfl), by repeat (first | (with_reducible first | exact HB.out | apply below_alloc | apply pw_below_drewN | apply below_drew1 | refine below_set ?_ GE205.out | refine below_set ?_ GE214.out | refine below_set ?_ GE222.out) | exact HB.out)⟩
            · rw [if_neg c27] at H
              have c27b0 : (t224 == t226) = false := beq_eq_false_iff_ne.mpr c27
              have c27b1 : (t224 != t226) = true := bne_iff_ne.mpr c27
              obtain rfl := Option.some.inj H
              have hnb43 := NB205_214.out
              have hnc43 := NB214_205.out
              have hnb44 := NB205_222.out
              have hnc44 := NB222_205.out
              have hcz45_0 : wc.cell? ⟨gb205, 0, none⟩ = some (.int .i64 a2_0) := (blk_cell BK205.out 0).trans rfl
              have hcz45_1 : wc.cell? ⟨gb205, 1, none⟩ = some (.int .i64 a2_1) := (blk_cell BK205.out 1).trans rfl
              have hcz45_2 : wc.cell? ⟨gb205, 2, none⟩ = some (.int .i64 a2_2) := (blk_cell BK205.out 2).trans rfl
              have hcz45_3 : wc.cell? ⟨gb205, 3, none⟩ = some (.int .i64 a2_3) := (blk_cell BK205.out 3).trans rfl
              have hcz45_4 : wc.cell? ⟨gb205, 4, none⟩ = some (.int .i64 a2_4) := (blk_cell BK205.out 4).trans rfl
              have hcz45_5 : wc.cell? ⟨gb205, 5, none⟩ = some (.int .i64 a2_5) := (blk_cell BK205.out 5).trans rfl
              have hfz45_0 := blk_frozen BK205.out 0
              have hfz45_1 := blk_frozen BK205.out 1
              have hfz45_2 := blk_frozen BK205.out 2
              have hfz45_3 := blk_frozen BK205.out 3
              have hfz45_4 := blk_frozen BK205.out 4
              have hfz45_5 := blk_frozen BK205.out 5
              go_wp2_with (first | ((with_reducible refine gate_callee (f := 15) rfl ?_); refine goesL_ (some 44) rfl rfl Tryd.func15 (by kernel_rfl) rfl #[.agg #[.int .i64 a2_0, .int .i64 a2_1, .int .i64 a2_2, .int .i64 a2_3, .int .i64 a2_4, .int .i64 a2_5], .int .i64 a1] rfl (by (try simp only [List.map_toArray, List.map_cons, List.map_nil]); first | done | rfl | (simp only [List.length_drop, List.length_take]; rfl)) ?_; (with_reducible refine (masterdiscref16_Join.calls kj8 a2_0 a2_1 a2_2 a2_3 a2_4 a2_5 a1 t225 t226 _ A25.out).mono ?_); rintro e w46 ⟨rfl, hb⟩; refine ⟨_, rfl, ?_⟩; have n0_ := Aside0.mk (blk_below (g := gb205) (o := .cells #[.int .i64 a2_0, .int .i64 a2_1, .int .i64 a2_2, .int .i64 a2_3, .int .i64 a2_4, .int .i64 a2_5] 23 (0, 0)) (by (with_reducible repeat (first | refine blk_drewN ?_ _ | refine blk_drew ?_ | refine blk_alloc ?_ _)); exact BK205.out) hb); have n1_ := Aside0.mk (blk_below (g := gb214) (o := .cells #[.int .i64 t207, .int .i64 t208, .int .i64 t209, .int .i64 t210, .int .i64 t211, .int .i64 t212] 23 (0, 0)) (by (with_reducible repeat (first | refine blk_drewN ?_ _ | refine blk_drew ?_ | refine blk_alloc ?_ _)); exact BK214.out) hb); have n2_ := Aside0.mk (blk_below (g := gb222) (o := .cells #[.int .i64 t215, .int .i64 t216, .int .i64 t217, .int .i64 t218, .int .i64 t219, .int .i64 t220] 23 (0, 0)) (by (with_reducible repeat (first | refine blk_drewN ?_ _ | refine blk_drew ?_ | refine blk_alloc ?_ _)); exact BK222.out) hb); have n3_ := Aside0.mk (below_step (by repeat (first | (with_reducible first | exact HB.out | apply below_alloc | apply pw_below_drewN | apply below_drew1 | refine below_set ?_ GE205.out | refine below_set ?_ GE214.out | refine below_set ?_ GE222.out) | exact HB.out)) hb); clear BK205; clear BK214; clear BK222; clear HB; have BK205 := n0_; have BK214 := n1_; have BK222 := n2_; have HB := n3_; clear n0_ n1_ n2_ n3_; (try clear hb); (try clear hb2); (try clear hk); (try clear hi)))
              go_ret
              exact ⟨by first | rfl | (simp [errW_none, errW_some] <;> rfl) | (simp [*, errW_none, errW_some] <;> rfl), by repeat (first | (with_reducible first | exact HB.out | apply below_alloc | apply pw_below_drewN | apply below_drew1 | refine below_set ?_ GE205.out | refine below_set ?_ GE214.out | refine below_set ?_ GE222.out) | exact HB.out)⟩
          · rw [if_neg c26] at H
            have c26b0 : (t223 == t225) = false := beq_eq_false_iff_ne.mpr c26
            have c26b1 : (t223 != t225) = true := bne_iff_ne.mpr c26
            obtain rfl := Option.some.inj H
            have hnb47 := NB205_214.out
            have hnc47 := NB214_205.out
            have hnb48 := NB205_222.out
            have hnc48 := NB222_205.out
            have hcz49_0 : wc.cell? ⟨gb205, 0, none⟩ = some (.int .i64 a2_0) := (blk_cell BK205.out 0).trans rfl
            have hcz49_1 : wc.cell? ⟨gb205, 1, none⟩ = some (.int .i64 a2_1) := (blk_cell BK205.out 1).trans rfl
            have hcz49_2 : wc.cell? ⟨gb205, 2, none⟩ = some (.int .i64 a2_2) := (blk_cell BK205.out 2).trans rfl
            have hcz49_3 : wc.cell? ⟨gb205, 3, none⟩ = some (.int .i64 a2_3) := (blk_cell BK205.out 3).trans rfl
            have hcz49_4 : wc.cell? ⟨gb205, 4, none⟩ = some (.int .i64 a2_4) := (blk_cell BK205.out 4).trans rfl
            have hcz49_5 : wc.cell? ⟨gb205, 5, none⟩ = some (.int .i64 a2_5) := (blk_cell BK205.out 5).trans rfl
            have hfz49_0 := blk_frozen BK205.out 0
            have hfz49_1 := blk_frozen BK205.out 1
            have hfz49_2 := blk_frozen BK205.out 2
            have hfz49_3 := blk_frozen BK205.out 3
            have hfz49_4 := blk_frozen BK205.out 4
            have hfz49_5 := blk_frozen BK205.out 5
            go_wp2_with (first | ((with_reducible refine gate_callee (f := 15) rfl ?_); refine goesL_ (some 44) rfl rfl Tryd.func15 (by kernel_rfl) rfl #[.agg #[.int .i64 a2_0, .int .i64 a2_1, .int .i64 a2_2, .int .i64 a2_3, .int .i64 a2_4, .int .i64 a2_5], .int .i64 a1] rfl (by (try simp only [List.map_toArray, List.map_cons, List.map_nil]); first | done | rfl | (simp only [List.length_drop, List.length_take]; rfl)) ?_; (with_reducible refine (masterdiscref16_Join.calls kj8 a2_0 a2_1 a2_2 a2_3 a2_4 a2_5 a1 t225 t226 _ A25.out).mono ?_); rintro e w50 ⟨rfl, hb⟩; refine ⟨_, rfl, ?_⟩; have n0_ := Aside0.mk (blk_below (g := gb205) (o := .cells #[.int .i64 a2_0, .int .i64 a2_1, .int .i64 a2_2, .int .i64 a2_3, .int .i64 a2_4, .int .i64 a2_5] 23 (0, 0)) (by (with_reducible repeat (first | refine blk_drewN ?_ _ | refine blk_drew ?_ | refine blk_alloc ?_ _)); exact BK205.out) hb); have n1_ := Aside0.mk (blk_below (g := gb214) (o := .cells #[.int .i64 t207, .int .i64 t208, .int .i64 t209, .int .i64 t210, .int .i64 t211, .int .i64 t212] 23 (0, 0)) (by (with_reducible repeat (first | refine blk_drewN ?_ _ | refine blk_drew ?_ | refine blk_alloc ?_ _)); exact BK214.out) hb); have n2_ := Aside0.mk (blk_below (g := gb222) (o := .cells #[.int .i64 t215, .int .i64 t216, .int .i64 t217, .int .i64 t218, .int .i64 t219, .int .i64 t220] 23 (0, 0)) (by (with_reducible repeat (first | refine blk_drewN ?_ _ | refine blk_drew ?_ | refine blk_alloc ?_ _)); exact BK222.out) hb); have n3_ := Aside0.mk (below_step (by repeat (first | (with_reducible first | exact HB.out | apply below_alloc | apply pw_below_drewN | apply below_drew1 | refine below_set ?_ GE205.out | refine below_set ?_ GE214.out | refine below_set ?_ GE222.out) | exact HB.out)) hb); clear BK205; clear BK214; clear BK222; clear HB; have BK205 := n0_; have BK214 := n1_; have BK222 := n2_; have HB := n3_; clear n0_ n1_ n2_ n3_; (try clear hb); (try clear hb2); (try clear hk); (try clear hi)))
            go_ret
            exact ⟨by first | rfl | (simp [errW_none, errW_some] <;> rfl) | (simp [*, errW_none, errW_some] <;> rfl), by repeat (first | (with_reducible first | exact HB.out | apply below_alloc | apply pw_below_drewN | apply below_drew1 | refine below_set ?_ GE205.out | refine below_set ?_ GE214.out | refine below_set ?_ GE222.out) | exact HB.out)⟩
        · replace c24 := Bool.eq_false_iff.mpr c24
          subst c24
          have H1 : (if (t207 == t215 && (t208 == t216 && (t209 == t217 && (t210 == t218 && (t211 == t219 && (t212 == t220)))))) = true then (some (t213 == t221)) else (some false)) = some r := by rw [if_neg (show ¬ (false = true) by decide)] at H; exact H
          clear H
          have H := H1
          clear H1
          by_cases c51 : (t207 == t215 && (t208 == t216 && (t209 == t217 && (t210 == t218 && (t211 == t219 && (t212 == t220)))))) = true
          · rw [if_pos c51] at H
            have c51b0 : (t207 == t215 && (t208 == t216 && (t209 == t217 && (t210 == t218 && (t211 == t219 && (t212 == t220)))))) = true := c51
            (try (have c51b1 : decide (t207 = t215 && (t208 == t216 && (t209 == t217 && (t210 == t218 && (t211 == t219 && (t212 == t220)))))) = true := by simpa using c51))
            (try (have c51b2 : (t207 == t215 && (t208 == t216 && (t209 == t217 && (t210 == t218 && (t211 == t219 && (t212 == t220)))))) = true := by simpa using c51))
            clear c51
            obtain rfl := Option.some.inj H
            have hnb52 := NB214_205.out
            have hnc52 := NB205_214.out
            have hnb53 := NB214_222.out
            have hnc53 := NB222_214.out
            have hcz54_0 : wc.cell? ⟨gb214, 0, none⟩ = some (.int .i64 t207) := (blk_cell BK214.out 0).trans rfl
            have hcz54_1 : wc.cell? ⟨gb214, 1, none⟩ = some (.int .i64 t208) := (blk_cell BK214.out 1).trans rfl
            have hcz54_2 : wc.cell? ⟨gb214, 2, none⟩ = some (.int .i64 t209) := (blk_cell BK214.out 2).trans rfl
            have hcz54_3 : wc.cell? ⟨gb214, 3, none⟩ = some (.int .i64 t210) := (blk_cell BK214.out 3).trans rfl
            have hcz54_4 : wc.cell? ⟨gb214, 4, none⟩ = some (.int .i64 t211) := (blk_cell BK214.out 4).trans rfl
            have hcz54_5 : wc.cell? ⟨gb214, 5, none⟩ = some (.int .i64 t212) := (blk_cell BK214.out 5).trans rfl
            have hfz54_0 := blk_frozen BK214.out 0
            have hfz54_1 := blk_frozen BK214.out 1
            have hfz54_2 := blk_frozen BK214.out 2
            have hfz54_3 := blk_frozen BK214.out 3
            have hfz54_4 := blk_frozen BK214.out 4
            have hfz54_5 := blk_frozen BK214.out 5
            have hnb55 := NB222_205.out
            have hnc55 := NB205_222.out
            have hcz56_0 : wc.cell? ⟨gb222, 0, none⟩ = some (.int .i64 t215) := (blk_cell BK222.out 0).trans rfl
            have hcz56_1 : wc.cell? ⟨gb222, 1, none⟩ = some (.int .i64 t216) := (blk_cell BK222.out 1).trans rfl
            have hcz56_2 : wc.cell? ⟨gb222, 2, none⟩ = some (.int .i64 t217) := (blk_cell BK222.out 2).trans rfl
            have hcz56_3 : wc.cell? ⟨gb222, 3, none⟩ = some (.int .i64 t218) := (blk_cell BK222.out 3).trans rfl
            have hcz56_4 : wc.cell? ⟨gb222, 4, none⟩ = some (.int .i64 t219) := (blk_cell BK222.out 4).trans rfl
            have hcz56_5 : wc.cell? ⟨gb222, 5, none⟩ = some (.int .i64 t220) := (blk_cell BK222.out 5).trans rfl
            have hfz56_0 := blk_frozen BK222.out 0
            have hfz56_1 := blk_frozen BK222.out 1
            have hfz56_2 := blk_frozen BK222.out 2
            have hfz56_3 := blk_frozen BK222.out 3
            have hfz56_4 := blk_frozen BK222.out 4
            have hfz56_5 := blk_frozen BK222.out 5
            go_wp2
            go_ret
            exact ⟨by first | rfl | (simp [errW_none, errW_some] <;> rfl) | (simp [*, errW_none, errW_some] <;> rfl), by repeat (first | (with_reducible first | exact HB.out | apply below_alloc | apply pw_below_drewN | apply below_drew1 | refine below_set ?_ GE205.out | refine below_set ?_ GE214.out | refine below_set ?_ GE222.out) | exact HB.out)⟩
          · rw [if_neg c51] at H
            have c51b0 : (t207 == t215 && (t208 == t216 && (t209 == t217 && (t210 == t218 && (t211 == t219 && (t212 == t220)))))) = false := by simpa using c51
            (try (have c51b1 : decide (t207 = t215 && (t208 == t216 && (t209 == t217 && (t210 == t218 && (t211 == t219 && (t212 == t220)))))) = false := by simpa using c51))
            (try (have c51b2 : (t207 == t215 && (t208 == t216 && (t209 == t217 && (t210 == t218 && (t211 == t219 && (t212 == t220)))))) = false := by simpa using c51))
            (try (have c51b3 : ¬ (t207 = t215 && (t208 == t216 && (t209 == t217 && (t210 == t218 && (t211 == t219 && (t212 == t220)))))) := by simpa using c51))
            clear c51
            obtain rfl := Option.some.inj H
            have hnb57 := NB214_205.out
            have hnc57 := NB205_214.out
            have hnb58 := NB214_222.out
            have hnc58 := NB222_214.out
            have hcz59_0 : wc.cell? ⟨gb214, 0, none⟩ = some (.int .i64 t207) := (blk_cell BK214.out 0).trans rfl
            have hcz59_1 : wc.cell? ⟨gb214, 1, none⟩ = some (.int .i64 t208) := (blk_cell BK214.out 1).trans rfl
            have hcz59_2 : wc.cell? ⟨gb214, 2, none⟩ = some (.int .i64 t209) := (blk_cell BK214.out 2).trans rfl
            have hcz59_3 : wc.cell? ⟨gb214, 3, none⟩ = some (.int .i64 t210) := (blk_cell BK214.out 3).trans rfl
            have hcz59_4 : wc.cell? ⟨gb214, 4, none⟩ = some (.int .i64 t211) := (blk_cell BK214.out 4).trans rfl
            have hcz59_5 : wc.cell? ⟨gb214, 5, none⟩ = some (.int .i64 t212) := (blk_cell BK214.out 5).trans rfl
            have hfz59_0 := blk_frozen BK214.out 0
            have hfz59_1 := blk_frozen BK214.out 1
            have hfz59_2 := blk_frozen BK214.out 2
            have hfz59_3 := blk_frozen BK214.out 3
            have hfz59_4 := blk_frozen BK214.out 4
            have hfz59_5 := blk_frozen BK214.out 5
            have hnb60 := NB222_205.out
            have hnc60 := NB205_222.out
            have hcz61_0 : wc.cell? ⟨gb222, 0, none⟩ = some (.int .i64 t215) := (blk_cell BK222.out 0).trans rfl
            have hcz61_1 : wc.cell? ⟨gb222, 1, none⟩ = some (.int .i64 t216) := (blk_cell BK222.out 1).trans rfl
            have hcz61_2 : wc.cell? ⟨gb222, 2, none⟩ = some (.int .i64 t217) := (blk_cell BK222.out 2).trans rfl
            have hcz61_3 : wc.cell? ⟨gb222, 3, none⟩ = some (.int .i64 t218) := (blk_cell BK222.out 3).trans rfl
            have hcz61_4 : wc.cell? ⟨gb222, 4, none⟩ = some (.int .i64 t219) := (blk_cell BK222.out 4).trans rfl
            have hcz61_5 : wc.cell? ⟨gb222, 5, none⟩ = some (.int .i64 t220) := (blk_cell BK222.out 5).trans rfl
            have hfz61_0 := blk_frozen BK222.out 0
            have hfz61_1 := blk_frozen BK222.out 1
            have hfz61_2 := blk_frozen BK222.out 2
            have hfz61_3 := blk_frozen BK222.out 3
            have hfz61_4 := blk_frozen BK222.out 4
            have hfz61_5 := blk_frozen BK222.out 5
            go_wp2
            go_ret
            exact ⟨by first | rfl | (simp [errW_none, errW_some] <;> rfl) | (simp [*, errW_none, errW_some] <;> rfl), by repeat (first | (with_reducible first | exact HB.out | apply below_alloc | apply pw_below_drewN | apply below_drew1 | refine below_set ?_ GE205.out | refine below_set ?_ GE214.out | refine below_set ?_ GE222.out) | exact HB.out)⟩
  · replace c5 := Bool.eq_false_iff.mpr c5
    subst c5
    have H1 : (some false) = some r := by rw [if_neg (show ¬ (false = true) by decide)] at H; exact H
    clear H
    have H := H1
    clear H1
    obtain rfl := Option.some.inj H
    go_enter Tryd.func3, Tryd.ntmps3
    go_wp2_with (first | ((with_reducible refine gate_dst (N := 5) rfl ?_); refine box_event ?hg (N := 5) ?hd (cs := #[.int .i64 a2_0, .int .i64 a2_1, .int .i64 a2_2, .int .i64 a2_3, .int .i64 a2_4, .int .i64 a2_5]) (t := 23) ?hr ?_; (case hd => rfl); (case hg => rfl); (case hr => first | (go_simp; done) | (go_simp; rfl)); intro gb205 hg w62 hbox hb; have n0_ := Aside0.mk (below_step (by repeat (first | (with_reducible first | exact HB.out | apply below_alloc | apply pw_below_drewN | apply below_drew1) | exact HB.out)) hb); have n1_ := Aside0.mk (hbox); have n2_ := Aside0.mk ((by rw [hg]; exact (below_size (by repeat (first | (with_reducible first | exact HB.out | apply below_alloc | apply pw_below_drewN | apply below_drew1) | exact HB.out))) : w.heap.size ≤ gb205)); have n3_ := Aside0.mk ((by rw [hg]; exact (below_size (by repeat (first | (with_reducible first | exact HB.out | apply below_alloc | apply pw_below_drewN | apply below_drew1) | exact HB.out))) : w.heap.size ≤ gb205)); clear HB; have HB := n0_; have BK205 := n1_; have GW205 := n2_; have GE205 := n3_; clear n0_ n1_ n2_ n3_; clear hb hbox hg) | ((with_reducible refine gate_callee (f := 11) rfl ?_); refine goesL_ (some 15) rfl rfl Tryd.func11 (by kernel_rfl) rfl #[] rfl (by (try simp only [List.map_toArray, List.map_cons, List.map_nil]); first | done | rfl | (simp only [List.length_drop, List.length_take]; rfl)) ?_; (with_reducible refine (masterdisclaw16_awake.calls k  false _ ?side1 A4.out).mono ?_); (case side1 => exact HG.below hG_ (by repeat (first | (with_reducible first | exact HB.out | apply below_alloc | apply pw_below_drewN | apply below_drew1 | refine below_set ?_ GE205.out) | exact HB.out))); rintro e w63 ⟨rfl, hb⟩; refine ⟨_, rfl, ?_⟩; have n0_ := Aside0.mk (blk_below (g := gb205) (o := .cells #[.int .i64 a2_0, .int .i64 a2_1, .int .i64 a2_2, .int .i64 a2_3, .int .i64 a2_4, .int .i64 a2_5] 23 (0, 0)) (by (with_reducible repeat (first | refine blk_drewN ?_ _ | refine blk_drew ?_ | refine blk_alloc ?_ _)); exact BK205.out) hb); have n1_ := Aside0.mk (below_step (by repeat (first | (with_reducible first | exact HB.out | apply below_alloc | apply pw_below_drewN | apply below_drew1 | refine below_set ?_ GE205.out) | exact HB.out)) hb); clear BK205; clear HB; have BK205 := n0_; have HB := n1_; clear n0_ n1_; (try clear hb); (try clear hb2); (try clear hk); (try clear hi)))
    go_ret
    exact ⟨by first | rfl | (simp [errW_none, errW_some] <;> rfl) | (simp [*, errW_none, errW_some] <;> rfl), by repeat (first | (with_reducible first | exact HB.out | apply below_alloc | apply pw_below_drewN | apply below_drew1 | refine below_set ?_ GE205.out) | exact HB.out)⟩

/-! ### masterdisclaw16_clocks: function 18 -/
def masterdisclaw16_clocks.l0 : Nat → List Int → Int → Int → Option (Int)
  | 0, _, _, _ => none
  | k + 1, x39, x40, x41 => if x41 < x40 then (if 0 ≤ x41 then (if x41 < (x39.length : Int) then (if (rd x39 x41) = 0 then (masterdisclaw16_clocks.l0 k x39 x40 (wrap64 (x41 + 1))) else (some (rd x39 x41))) else (none)) else (none)) else (some 0)
def masterdisclaw16_clocks.f (k : Nat) (a0_0 : Int) (a0_1 : Int) (a0_2 : Int) (a0_3 : Int) (a0_4 : Int) (a0_5 : Int) (a1_0 : Int) (a1_1 : Int) (a1_2 : Int) (a1_3 : Int) (a1_4 : Int) (a1_5 : Int) : Option (Int) := (some (([wrap64 (a0_0 - a1_0), wrap64 (a0_1 - a1_1), wrap64 (a0_2 - a1_2), wrap64 (a0_3 - a1_3), wrap64 (a0_4 - a1_4), wrap64 (a0_5 - a1_5)] : List Int) : List Int)).bind fun y229 => (masterdisclaw16_clocks.l0 k y229 (y229.length : Int) 0)
theorem masterdisclaw16_clocks.mono_l : ∀ k, (∀ y0 y1 y2, LeO (masterdisclaw16_clocks.l0 k y0 y1 y2) (masterdisclaw16_clocks.l0 (k + 1) y0 y1 y2))
  | 0 => fun _ _ _ r h => by simp [masterdisclaw16_clocks.l0] at h
  | k + 1 => by
    have ih0 := masterdisclaw16_clocks.mono_l k
    · intro y0 y1 y2
      unfold masterdisclaw16_clocks.l0
      repeat' first
      | (with_reducible exact ih0 _ _ _)
      | (with_reducible exact LeO.refl _)
      | (with_reducible exact LeO.none _)
      | (with_reducible refine LeO.ite ?_ ?_)
      | (with_reducible refine LeO.bind ?_ (fun _ => ?_))
      | exact ih0 _ _ _
      | exact LeO.none _
      | refine LeO.ite ?_ ?_
      | refine LeO.bind ?_ (fun _ => ?_)
theorem masterdisclaw16_clocks.mono : ∀ a0 a1 a2 a3 a4 a5 a6 a7 a8 a9 a10 a11 k, LeO (masterdisclaw16_clocks.f k a0 a1 a2 a3 a4 a5 a6 a7 a8 a9 a10 a11) (masterdisclaw16_clocks.f (k + 1) a0 a1 a2 a3 a4 a5 a6 a7 a8 a9 a10 a11) := by
  intro a0 a1 a2 a3 a4 a5 a6 a7 a8 a9 a10 a11 k
  have ih0 := masterdisclaw16_clocks.mono_l k
  unfold masterdisclaw16_clocks.f
  repeat' first
      | (with_reducible exact ih0 _ _ _)
      | (with_reducible exact LeO.refl _)
      | (with_reducible exact LeO.none _)
      | (with_reducible refine LeO.ite ?_ ?_)
      | (with_reducible refine LeO.bind ?_ (fun _ => ?_))
      | exact ih0 _ _ _
      | exact LeO.none _
      | refine LeO.ite ?_ ?_
      | refine LeO.bind ?_ (fun _ => ?_)
set_option maxHeartbeats 8000000 in
set_option maxRecDepth 100000 in
theorem masterdisclaw16_clocks.calls (k : Nat) (a0_0 : Int) (a0_1 : Int) (a0_2 : Int) (a0_3 : Int) (a0_4 : Int) (a0_5 : Int) (a1_0 : Int) (a1_1 : Int) (a1_2 : Int) (a1_3 : Int) (a1_4 : Int) (a1_5 : Int) (r : Int) (w : World) (h : masterdisclaw16_clocks.f k a0_0 a0_1 a0_2 a0_3 a0_4 a0_5 a1_0 a1_1 a1_2 a1_3 a1_4 a1_5 = some r) :
    Calls Tryd.prog 18 #[.agg #[.int .i64 a0_0, .int .i64 a0_1, .int .i64 a0_2, .int .i64 a0_3, .int .i64 a0_4, .int .i64 a0_5], .agg #[.int .i64 a1_0, .int .i64 a1_1, .int .i64 a1_2, .int .i64 a1_3, .int .i64 a1_4, .int .i64 a1_5]] w fun e w' => e = .returned (.int .i64 r) ∧ Below w.heap.size w w' := by
  have hu23 := Tryd.underlying23
  have HB := Aside0.mk (Below.refl w.heap.size w)
  have H : ((some (([wrap64 (a0_0 - a1_0), wrap64 (a0_1 - a1_1), wrap64 (a0_2 - a1_2), wrap64 (a0_3 - a1_3), wrap64 (a0_4 - a1_4), wrap64 (a0_5 - a1_5)] : List Int) : List Int)).bind fun y229 => (masterdisclaw16_clocks.l0 k y229 (y229.length : Int) 0)) = some r := h
  clear h
  obtain ⟨y229, hy229⟩ : ∃ y_ : List Int, y_ = (([wrap64 (a0_0 - a1_0), wrap64 (a0_1 - a1_1), wrap64 (a0_2 - a1_2), wrap64 (a0_3 - a1_3), wrap64 (a0_4 - a1_4), wrap64 (a0_5 - a1_5)] : List Int)) := ⟨_, rfl⟩
  replace H : (masterdisclaw16_clocks.l0 k y229 (y229.length : Int) 0) = some r := by first | (rw [hy229]; with_reducible exact H) | (have H2_ := (Option.bind_some _ _).symm.trans H; rw [hy229]; with_reducible exact H2_) | (have H2_ := (Option.bind_some _ _).symm.trans H; with_reducible exact H2_) | with_reducible exact H | (rw [hy229]; exact H) | exact H
  have Ny229 := Aside0.mk hy229
  clear hy229
  have H' := Aside0.mk H
  clear H
  go_enter Tryd.func18, Tryd.ntmps18
  go_wp2_with (first | ((with_reducible refine gate_dst (N := 2) rfl ?_); refine box_event ?hg (N := 2) ?hd (cs := #[.int .i64 a0_0, .int .i64 a0_1, .int .i64 a0_2, .int .i64 a0_3, .int .i64 a0_4, .int .i64 a0_5]) (t := 23) ?hr ?_; (case hd => rfl); (case hg => rfl); (case hr => first | (go_simp; done) | (go_simp; rfl)); intro gb227 hg w3 hbox hb; have n0_ := Aside0.mk (below_step (by repeat (first | (with_reducible first | exact HB.out | apply below_alloc | apply pw_below_drewN | apply below_drew1) | exact HB.out)) hb); have n1_ := Aside0.mk (hbox); have n2_ := Aside0.mk ((by rw [hg]; exact (below_size (by repeat (first | (with_reducible first | exact HB.out | apply below_alloc | apply pw_below_drewN | apply below_drew1) | exact HB.out))) : w.heap.size ≤ gb227)); have n3_ := Aside0.mk ((by rw [hg]; exact (below_size (by repeat (first | (with_reducible first | exact HB.out | apply below_alloc | apply pw_below_drewN | apply below_drew1) | exact HB.out))) : w.heap.size ≤ gb227)); clear HB; have HB := n0_; have BK227 := n1_; have GW227 := n2_; have GE227 := n3_; clear n0_ n1_ n2_ n3_; clear hb hbox hg) | ((with_reducible refine gate_dst (N := 3) rfl ?_); refine box_event ?hg (N := 3) ?hd (cs := #[.int .i64 a1_0, .int .i64 a1_1, .int .i64 a1_2, .int .i64 a1_3, .int .i64 a1_4, .int .i64 a1_5]) (t := 23) ?hr ?_; (case hd => rfl); (case hg => rfl); (case hr => first | (go_simp; done) | (go_simp; rfl)); intro gb228 hg w4 hbox hb; have n0_ := Aside0.mk (blk_below (g := gb227) (o := .cells #[.int .i64 a0_0, .int .i64 a0_1, .int .i64 a0_2, .int .i64 a0_3, .int .i64 a0_4, .int .i64 a0_5] 23 (0, 0)) (by (with_reducible repeat (first | refine blk_drewN ?_ _ | refine blk_drew ?_ | refine blk_alloc ?_ _)); exact BK227.out) hb); have n1_ := Aside0.mk (below_step (by repeat (first | (with_reducible first | exact HB.out | apply below_alloc | apply pw_below_drewN | apply below_drew1 | refine below_set ?_ GE227.out) | exact HB.out)) hb); have n2_ := Aside0.mk (hbox); have n3_ := Aside0.mk ((by rw [hg]; exact (below_size (by repeat (first | (with_reducible first | exact HB.out | apply below_alloc | apply pw_below_drewN | apply below_drew1 | refine below_set ?_ GE227.out) | exact HB.out))) : w.heap.size ≤ gb228)); have n4_ := Aside0.mk ((by rw [hg]; exact (below_size (by repeat (first | (with_reducible first | exact HB.out | apply below_alloc | apply pw_below_drewN | apply below_drew1 | refine below_set ?_ GE227.out) | exact HB.out))) : w.heap.size ≤ gb228)); have n5_ := Aside0.mk ((by rw [hg]; exact Nat.ne_of_lt (blk_lt (g := gb227) (o := .cells #[.int .i64 a0_0, .int .i64 a0_1, .int .i64 a0_2, .int .i64 a0_3, .int .i64 a0_4, .int .i64 a0_5] 23 (0, 0)) (by (with_reducible repeat (first | refine blk_drewN ?_ _ | refine blk_drew ?_ | refine blk_alloc ?_ _)); exact BK227.out)) : gb227 ≠ gb228)); have n6_ := Aside0.mk ((by rw [hg]; exact Nat.ne_of_gt (blk_lt (g := gb227) (o := .cells #[.int .i64 a0_0, .int .i64 a0_1, .int .i64 a0_2, .int .i64 a0_3, .int .i64 a0_4, .int .i64 a0_5] 23 (0, 0)) (by (with_reducible repeat (first | refine blk_drewN ?_ _ | refine blk_drew ?_ | refine blk_alloc ?_ _)); exact BK227.out)) : gb228 ≠ gb227)); clear BK227; clear HB; have BK227 := n0_; have HB := n1_; have BK228 := n2_; have GW228 := n3_; have GE228 := n4_; have NB227_228 := n5_; have NB228_227 := n6_; clear n0_ n1_ n2_ n3_ n4_ n5_ n6_; clear hb hbox hg; have hnb5 := NB227_228.out; have hnc5 := NB228_227.out; have hcz6_0 : w4.cell? ⟨gb227, 0, none⟩ = some (.int .i64 a0_0) := (blk_cell BK227.out 0).trans rfl; have hcz6_1 : w4.cell? ⟨gb227, 1, none⟩ = some (.int .i64 a0_1) := (blk_cell BK227.out 1).trans rfl; have hcz6_2 : w4.cell? ⟨gb227, 2, none⟩ = some (.int .i64 a0_2) := (blk_cell BK227.out 2).trans rfl; have hcz6_3 : w4.cell? ⟨gb227, 3, none⟩ = some (.int .i64 a0_3) := (blk_cell BK227.out 3).trans rfl; have hcz6_4 : w4.cell? ⟨gb227, 4, none⟩ = some (.int .i64 a0_4) := (blk_cell BK227.out 4).trans rfl; have hcz6_5 : w4.cell? ⟨gb227, 5, none⟩ = some (.int .i64 a0_5) := (blk_cell BK227.out 5).trans rfl; have hfz6_0 := blk_frozen BK227.out 0; have hfz6_1 := blk_frozen BK227.out 1; have hfz6_2 := blk_frozen BK227.out 2; have hfz6_3 := blk_frozen BK227.out 3; have hfz6_4 := blk_frozen BK227.out 4; have hfz6_5 := blk_frozen BK227.out 5; have hcz7_0 : w4.cell? ⟨gb228, 0, none⟩ = some (.int .i64 a1_0) := (blk_cell BK228.out 0).trans rfl; have hcz7_1 : w4.cell? ⟨gb228, 1, none⟩ = some (.int .i64 a1_1) := (blk_cell BK228.out 1).trans rfl; have hcz7_2 : w4.cell? ⟨gb228, 2, none⟩ = some (.int .i64 a1_2) := (blk_cell BK228.out 2).trans rfl; have hcz7_3 : w4.cell? ⟨gb228, 3, none⟩ = some (.int .i64 a1_3) := (blk_cell BK228.out 3).trans rfl; have hcz7_4 : w4.cell? ⟨gb228, 4, none⟩ = some (.int .i64 a1_4) := (blk_cell BK228.out 4).trans rfl; have hcz7_5 : w4.cell? ⟨gb228, 5, none⟩ = some (.int .i64 a1_5) := (blk_cell BK228.out 5).trans rfl; have hfz7_0 := blk_frozen BK228.out 0; have hfz7_1 := blk_frozen BK228.out 1; have hfz7_2 := blk_frozen BK228.out 2; have hfz7_3 := blk_frozen BK228.out 3; have hfz7_4 := blk_frozen BK228.out 4; have hfz7_5 := blk_frozen BK228.out 5) | ((with_reducible refine gate_dst (N := 38) rfl ?_); refine Kd.R_lit (Kd.int .i64) _ 3 ?hg (N := 38) ?hd (xs := ([wrap64 (a0_0 - a1_0), wrap64 (a0_1 - a1_1), wrap64 (a0_2 - a1_2), wrap64 (a0_3 - a1_3), wrap64 (a0_4 - a1_4), wrap64 (a0_5 - a1_5)] : List Int)) (inner := [.int .i64 (wrap64 (a0_0 - a1_0)), .int .i64 (wrap64 (a0_1 - a1_1)), .int .i64 (wrap64 (a0_2 - a1_2)), .int .i64 (wrap64 (a0_3 - a1_3)), .int .i64 (wrap64 (a0_4 - a1_4)), .int .i64 (wrap64 (a0_5 - a1_5))]) (ok := fun _ => True) (okp := fun _ => True) ?hr ?hp (fun _ hk => hk) trivial (Below.refl _ _) (Nat.le_refl _) (by simp) ?_; (case hd => rfl); (case hg => rfl); (case hr => first | (go_simp; done) | (go_simp; rfl)); (case hp => exact (Reps.one (show Kd.M (Kd.int .i64) _ _ _ (wrap64 (a0_0 - a1_0)) [.int .i64 (wrap64 (a0_0 - a1_0))] from rfl) (Reps.one (show Kd.M (Kd.int .i64) _ _ _ (wrap64 (a0_1 - a1_1)) [.int .i64 (wrap64 (a0_1 - a1_1))] from rfl) (Reps.one (show Kd.M (Kd.int .i64) _ _ _ (wrap64 (a0_2 - a1_2)) [.int .i64 (wrap64 (a0_2 - a1_2))] from rfl) (Reps.one (show Kd.M (Kd.int .i64) _ _ _ (wrap64 (a0_3 - a1_3)) [.int .i64 (wrap64 (a0_3 - a1_3))] from rfl) (Reps.one (show Kd.M (Kd.int .i64) _ _ _ (wrap64 (a0_4 - a1_4)) [.int .i64 (wrap64 (a0_4 - a1_4))] from rfl) (Reps.one (show Kd.M (Kd.int .i64) _ _ _ (wrap64 (a0_5 - a1_5)) [.int .i64 (wrap64 (a0_5 - a1_5))] from rfl) (Reps.none _ _)))))))); intro v230 w8 ho9 hb hg_ hnew_; clear hg_ hnew_; (first | rw [← Ny229.out] at ho9 | (simp only [Int.reduceToNat] at ho9; rw [← Ny229.out] at ho9)); have n0_ := Aside0.mk (Kd.R_lower ho9 (below_size (by repeat (first | (with_reducible first | exact HB.out | apply below_alloc | apply pw_below_drewN | apply below_drew1 | refine below_set ?_ GE227.out | refine below_set ?_ GE228.out) | exact HB.out)))); have n1_ := Aside0.mk (blk_below (g := gb227) (o := .cells #[.int .i64 a0_0, .int .i64 a0_1, .int .i64 a0_2, .int .i64 a0_3, .int .i64 a0_4, .int .i64 a0_5] 23 (0, 0)) (by (with_reducible repeat (first | refine blk_drewN ?_ _ | refine blk_drew ?_ | refine blk_alloc ?_ _)); exact BK227.out) hb); have n2_ := Aside0.mk (blk_below (g := gb228) (o := .cells #[.int .i64 a1_0, .int .i64 a1_1, .int .i64 a1_2, .int .i64 a1_3, .int .i64 a1_4, .int .i64 a1_5] 23 (0, 0)) (by (with_reducible repeat (first | refine blk_drewN ?_ _ | refine blk_drew ?_ | refine blk_alloc ?_ _)); exact BK228.out) hb); have n3_ := Aside0.mk (below_step (by repeat (first | (with_reducible first | exact HB.out | apply below_alloc | apply pw_below_drewN | apply below_drew1 | refine below_set ?_ GE227.out | refine below_set ?_ GE228.out) | exact HB.out)) hb); clear BK227; clear BK228; clear HB; have HO231 := n0_; have BK227 := n1_; have BK228 := n2_; have HB := n3_; clear n0_ n1_ n2_ n3_; clear hb ho9; obtain ⟨Ao10, co10, eo10⟩ := Kd.R_slice HO231.out; subst eo10))
  go_loopg [41] k (fun kq v41 w' => ∃ (x41_1 : Int), v41 = .int .i64 x41_1 ∧ Aside0 (masterdisclaw16_clocks.l0 kq y229 (y229.length : Int) x41_1 = some r) ∧ Aside0 (kq ≤ k) ∧ Aside0 (Kd.R (Kd.int .i64) 3 w' w.heap.size (fun _ => True) (.slice Ao10 y229.length co10) y229) ∧ Aside0 (w'.heap[gb227]? = some (.cells #[.int .i64 a0_0, .int .i64 a0_1, .int .i64 a0_2, .int .i64 a0_3, .int .i64 a0_4, .int .i64 a0_5] 23 (0, 0))) ∧ Aside0 (w'.heap[gb228]? = some (.cells #[.int .i64 a1_0, .int .i64 a1_1, .int .i64 a1_2, .int .i64 a1_3, .int .i64 a1_4, .int .i64 a1_5] 23 (0, 0))) ∧ Aside0 (Below w.heap.size w w'))
  case atStart => exact ⟨(0), (by first | rfl | (simp; done) | (simp [*]; done)), H', ⟨Nat.le_refl _⟩, ⟨by (with_reducible repeat (first | apply Kd.R_alloc | apply Kd.R_drewN | apply Kd.R_drew)); exact HO231.out⟩, ⟨by (with_reducible repeat (first | refine blk_drewN ?_ _ | refine blk_drew ?_ | refine blk_alloc ?_ _)); exact BK227.out⟩, ⟨by (with_reducible repeat (first | refine blk_drewN ?_ _ | refine blk_drew ?_ | refine blk_alloc ?_ _)); exact BK228.out⟩, ⟨by repeat (first | (with_reducible first | exact HB.out | apply below_alloc | apply pw_below_drewN | apply below_drew1 | refine below_set ?_ GE227.out | refine below_set ?_ GE228.out) | exact HB.out)⟩⟩
  case round =>
    clear H'
    try clear c1
    try clear p2
    try clear c5
    try clear p6
    try clear hcz6_0
    try clear hcz6_1
    try clear hcz6_2
    try clear hcz6_3
    try clear hcz6_4
    try clear hcz6_5
    try clear hcz7_0
    try clear hcz7_1
    try clear hcz7_2
    try clear hcz7_3
    try clear hcz7_4
    try clear hcz7_5
    try clear hfz6_0
    try clear hfz6_1
    try clear hfz6_2
    try clear hfz6_3
    try clear hfz6_4
    try clear hfz6_5
    try clear hfz7_0
    try clear hfz7_1
    try clear hfz7_2
    try clear hfz7_3
    try clear hfz7_4
    try clear hfz7_5
    obtain ⟨x41_1, rfl, HA, HK1, HO_39, BK227, BK228, HB⟩ := hrel
    cases gk with
    | zero => exact absurd HA.out (by simp [masterdisclaw16_clocks.l0])
    | succ k1 =>
      have H := HA.out
      clear HA
      simp only [masterdisclaw16_clocks.l0] at H
      by_cases c11 : x41_1 < (y229.length : Int)
      · rw [if_pos c11] at H
        have c11b0 : decide (x41_1 < (y229.length : Int)) = true := decide_eq_true c11
        clear c11
        by_cases c12 : 0 ≤ x41_1
        · rw [if_pos c12] at H
          have c12b0 : decide (0 ≤ x41_1) = true := decide_eq_true c12
          clear c12
          by_cases c13 : x41_1 < (y229.length : Int)
          · rw [if_pos c13] at H
            have c13b0 : decide (x41_1 < (y229.length : Int)) = true := decide_eq_true c13
            clear c13
            by_cases c14 : (rd y229 x41_1) = 0
            · rw [if_pos c14] at H
              have c14b0 : ((rd y229 x41_1) == 0) = true := beq_iff_eq.mpr c14
              have c14b1 : ((rd y229 x41_1) != 0) = false := bne_eq_false_iff_eq.mpr c14
              clear c14
              have H' := Aside0.mk H
              clear H
              have p232 : 0 ≤ (x41_1 : Int) := of_decide_eq_true (by first | (with_reducible assumption) | assumption)
              have q232 : x41_1 < (y229.length : Int) := of_decide_eq_true (by first | (with_reducible assumption) | assumption)
              obtain ⟨ad232, e232, hx232_0⟩ := Kd.at_int (Kd.R_reads' HO_39.out).2.2 x41_1 p232 q232
              cases e232
              replace p232 := eq_true p232
              replace q232 := eq_true q232
              go_wp2
              go_roundg k1
              case measure => have := HK1.out; omega
              case rel => exact ⟨(wrap64 (x41_1 + 1)), (by first | rfl | (simp; done) | (simp [*]; done)), H', ⟨by have := HK1.out; omega⟩, ⟨by (with_reducible repeat (first | apply Kd.R_alloc | apply Kd.R_drewN | apply Kd.R_drew)); exact HO_39.out⟩, ⟨by (with_reducible repeat (first | refine blk_drewN ?_ _ | refine blk_drew ?_ | refine blk_alloc ?_ _)); exact BK227.out⟩, ⟨by (with_reducible repeat (first | refine blk_drewN ?_ _ | refine blk_drew ?_ | refine blk_alloc ?_ _)); exact BK228.out⟩, ⟨by repeat (first | (with_reducible first | exact HB.out | apply below_alloc | apply pw_below_drewN | apply below_drew1 | refine below_set ?_ GE227.out | refine below_set ?_ GE228.out) | exact HB.out)⟩⟩
            · rw [if_neg c14] at H
              have c14b0 : ((rd y229 x41_1) == 0) = false := beq_eq_false_iff_ne.mpr c14
              have c14b1 : ((rd y229 x41_1) != 0) = true := bne_iff_ne.mpr c14
              obtain rfl := Option.some.inj H
              have p232 : 0 ≤ (x41_1 : Int) := of_decide_eq_true (by first | (with_reducible assumption) | assumption)
              have q232 : x41_1 < (y229.length : Int) := of_decide_eq_true (by first | (with_reducible assumption) | assumption)
              obtain ⟨ad232, e232, hx232_0⟩ := Kd.at_int (Kd.R_reads' HO_39.out).2.2 x41_1 p232 q232
              cases e232
              replace p232 := eq_true p232
              replace q232 := eq_true q232
              go_wp2
              go_ret
              exact ⟨by first | rfl | (simp [errW_none, errW_some] <;> rfl) | (simp [*, errW_none, errW_some] <;> rfl), by repeat (first | (with_reducible first | exact HB.out | apply below_alloc | apply pw_below_drewN | apply below_drew1 | refine below_set ?_ GE227.out | refine below_set ?_ GE228.out) | exact HB.out)⟩
          · rw [if_neg c13] at H
            exact absurd H (by simp)
        · rw [if_neg c12] at H
          exact absurd H (by simp)
      · rw [if_neg c11] at H
        have c11b0 : decide (x41_1 < (y229.length : Int)) = false := decide_eq_false c11
        clear c11
        obtain rfl := Option.some.inj H
        go_wp2
        go_ret
        exact ⟨by first | rfl | (simp [errW_none, errW_some] <;> rfl) | (simp [*, errW_none, errW_some] <;> rfl), by repeat (first | (with_reducible first | exact HB.out | apply below_alloc | apply pw_below_drewN | apply below_drew1 | refine below_set ?_ GE227.out | refine below_set ?_ GE228.out) | exact HB.out)⟩

end Go.Proofs.YtnchkpheepbacaaDoor.Q
