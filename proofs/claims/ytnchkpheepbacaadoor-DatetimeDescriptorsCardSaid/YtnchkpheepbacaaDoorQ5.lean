/- Printed for this session's own hand contracts by its own program; Lean checks every line. -/
import Derived.Test.YtnchkpheepbacaaDoorQ0
import Derived.Test.YtnchkpheepbacaaDoorQ4
namespace Go.Proofs.YtnchkpheepbacaaDoor.Q
open Go.Proofs.YtnchkpheepbacaaDoor.Hand
open Go.RowKit Go.Proofs.YtnchkpheepbacaaDoorW.PrintWords Go.Proofs.YtnchkpheepbacaaDoorW.PrintLast Go.Proofs.YtnchkpheepbacaaDoorW.PrintMore
attribute [local go_sem] max2_int min2_int max_two min_two max_three min_three max_four min_four   -- for this text's walks alone
set_option linter.unusedVariables false
set_option linter.unusedSimpArgs false

/-! ### masterdiscref16_utc: function 37 -/
mutual
def masterdiscref16_utc.l0 : Nat → Int → Int → Int → Int → Int → Int → Int → Int → Option (Int × Int × Int × Int × Int × Int)
  | 0, _, _, _, _, _, _, _, _ => none
  | k + 1, x0, x4, x183000, x183001, x183002, x183003, x183004, x183005 => (masterdiscref16_year.f x183000).bind fun t183 => (if x4 ≥ t183 then ((masterdiscref16_year.f x183000).bind fun t184 => (masterdiscref16_utc.l0 k x0 (wrap64 (x4 - t184)) (wrap64 (x183000 + 1)) x183001 x183002 x183003 x183004 x183005)) else (masterdiscref16_utc.l1 k x0 x4 x183000 x183001 x183002 x183003 x183004 x183005))
def masterdiscref16_utc.l1 : Nat → Int → Int → Int → Int → Int → Int → Int → Int → Option (Int × Int × Int × Int × Int × Int)
  | 0, _, _, _, _, _, _, _, _ => none
  | k + 1, x0, x4, x183000, x183001, x183002, x183003, x183004, x183005 => (masterdiscref16_days.f x183000 x183001).bind fun t185 => (if x4 ≥ t185 then ((masterdiscref16_days.f x183000 x183001).bind fun t186 => (masterdiscref16_utc.l1 k x0 (wrap64 (x4 - t186)) x183000 (wrap64 (x183001 + 1)) x183002 x183003 x183004 x183005)) else (some (x183000, x183001, wrap64 (1 + x4), wrap64 (Int.tdiv (Int.tmod x0 86400) 3600), Int.tmod (wrap64 (Int.tdiv (Int.tmod x0 86400) 60)) 60, Int.tmod x0 60)))
end
def masterdiscref16_utc.f (k : Nat) (a0 : Int) : Option (Int × Int × Int × Int × Int × Int) := masterdiscref16_utc.l0 k a0 (wrap64 (Int.tdiv a0 86400)) 1970 1 1 0 0 0
theorem masterdiscref16_utc.mono_l : ∀ k, (∀ y0 y1 y2 y3 y4 y5 y6 y7, LeO (masterdiscref16_utc.l0 k y0 y1 y2 y3 y4 y5 y6 y7) (masterdiscref16_utc.l0 (k + 1) y0 y1 y2 y3 y4 y5 y6 y7)) ∧ (∀ y0 y1 y2 y3 y4 y5 y6 y7, LeO (masterdiscref16_utc.l1 k y0 y1 y2 y3 y4 y5 y6 y7) (masterdiscref16_utc.l1 (k + 1) y0 y1 y2 y3 y4 y5 y6 y7))
  | 0 => ⟨fun _ _ _ _ _ _ _ _ r h => by simp [masterdiscref16_utc.l0] at h, fun _ _ _ _ _ _ _ _ r h => by simp [masterdiscref16_utc.l1] at h⟩
  | k + 1 => by
    obtain ⟨ih0, ih1⟩ := masterdiscref16_utc.mono_l k
    refine ⟨?_, ?_⟩
    · intro y0 y1 y2 y3 y4 y5 y6 y7
      unfold masterdiscref16_utc.l0
      repeat' first
      | (with_reducible exact ih0 _ _ _ _ _ _ _ _)
      | (with_reducible exact ih1 _ _ _ _ _ _ _ _)
      | (with_reducible exact LeO.refl _)
      | (with_reducible exact LeO.none _)
      | (with_reducible refine LeO.ite ?_ ?_)
      | (with_reducible refine LeO.bind ?_ (fun _ => ?_))
      | exact ih0 _ _ _ _ _ _ _ _
      | exact ih1 _ _ _ _ _ _ _ _
      | exact LeO.none _
      | refine LeO.ite ?_ ?_
      | refine LeO.bind ?_ (fun _ => ?_)
    · intro y0 y1 y2 y3 y4 y5 y6 y7
      unfold masterdiscref16_utc.l1
      repeat' first
      | (with_reducible exact ih0 _ _ _ _ _ _ _ _)
      | (with_reducible exact ih1 _ _ _ _ _ _ _ _)
      | (with_reducible exact LeO.refl _)
      | (with_reducible exact LeO.none _)
      | (with_reducible refine LeO.ite ?_ ?_)
      | (with_reducible refine LeO.bind ?_ (fun _ => ?_))
      | exact ih0 _ _ _ _ _ _ _ _
      | exact ih1 _ _ _ _ _ _ _ _
      | exact LeO.none _
      | refine LeO.ite ?_ ?_
      | refine LeO.bind ?_ (fun _ => ?_)
theorem masterdiscref16_utc.mono : ∀ a0 k, LeO (masterdiscref16_utc.f k a0) (masterdiscref16_utc.f (k + 1) a0) := by
  intro a0 k
  obtain ⟨ih0, ih1⟩ := masterdiscref16_utc.mono_l k
  unfold masterdiscref16_utc.f
  repeat' first
      | (with_reducible exact ih0 _ _ _ _ _ _ _ _)
      | (with_reducible exact ih1 _ _ _ _ _ _ _ _)
      | (with_reducible exact LeO.refl _)
      | (with_reducible exact LeO.none _)
      | (with_reducible refine LeO.ite ?_ ?_)
      | (with_reducible refine LeO.bind ?_ (fun _ => ?_))
      | exact ih0 _ _ _ _ _ _ _ _
      | exact ih1 _ _ _ _ _ _ _ _
      | exact LeO.none _
      | refine LeO.ite ?_ ?_
      | refine LeO.bind ?_ (fun _ => ?_)
set_option maxHeartbeats 8000000 in
set_option maxRecDepth 100000 in
theorem masterdiscref16_utc.calls (k : Nat) (a0 : Int) (r1 : Int) (r2 : Int) (r3 : Int) (r4 : Int) (r5 : Int) (r6 : Int) (w : World) (h : masterdiscref16_utc.f k a0 = some (r1, r2, r3, r4, r5, r6)) :
    Calls Tryd.prog 37 #[.int .i64 a0] w fun e w' => e = .returned (.agg #[.int .i64 r1, .int .i64 r2, .int .i64 r3, .int .i64 r4, .int .i64 r5, .int .i64 r6]) ∧ Below w.heap.size w w' := by
  have hu23 := Tryd.underlying23
  have HB := Aside0.mk (Below.refl w.heap.size w)
  have H : (masterdiscref16_utc.l0 k a0 (wrap64 (Int.tdiv a0 86400)) 1970 1 1 0 0 0) = some (r1, r2, r3, r4, r5, r6) := h
  clear h
  have H' := Aside0.mk H
  clear H
  go_enter Tryd.func37, Tryd.ntmps37
  go_wp2_with (first | ((with_reducible refine gate_dst (N := 2) rfl ?_); refine box_event ?hg (N := 2) ?hd (cs := #[.int .i64 0, .int .i64 0, .int .i64 0, .int .i64 0, .int .i64 0, .int .i64 0]) (t := 23) ?hr ?_; (case hd => rfl); (case hg => rfl); (case hr => first | (go_simp; done) | (go_simp; rfl)); intro gb181 hg w2 hbox hb; have n0_ := Aside0.mk (below_step (by repeat (first | (with_reducible first | exact HB.out | apply below_alloc | apply pw_below_drewN | apply below_drew1) | exact HB.out)) hb); have n1_ := Aside0.mk (hbox); have n2_ := Aside0.mk ((by rw [hg]; exact (below_size (by repeat (first | (with_reducible first | exact HB.out | apply below_alloc | apply pw_below_drewN | apply below_drew1) | exact HB.out))) : w.heap.size ≤ gb181)); have n3_ := Aside0.mk ((by rw [hg]; exact (below_size (by repeat (first | (with_reducible first | exact HB.out | apply below_alloc | apply pw_below_drewN | apply below_drew1) | exact HB.out))) : w.heap.size ≤ gb181)); clear HB; have HB := n0_; have BK181 := n1_; have GW181 := n2_; have GE181 := n3_; clear n0_ n1_ n2_ n3_; clear hb hbox hg) | ((with_reducible refine gate_dst (N := 3) rfl ?_); refine box_event ?hg (N := 3) ?hd (cs := #[.int .i64 0, .int .i64 0, .int .i64 0, .int .i64 0, .int .i64 0, .int .i64 0]) (t := 23) ?hr ?_; (case hd => rfl); (case hg => rfl); (case hr => first | (go_simp; done) | (go_simp; rfl)); intro gb182 hg w3 hbox hb; have n0_ := Aside0.mk (blk_below (g := gb181) (o := .cells #[.int .i64 0, .int .i64 0, .int .i64 0, .int .i64 0, .int .i64 0, .int .i64 0] 23 (0, 0)) (by (with_reducible repeat (first | refine blk_drewN ?_ _ | refine blk_drew ?_ | refine blk_alloc ?_ _)); exact BK181.out) hb); have n1_ := Aside0.mk (below_step (by repeat (first | (with_reducible first | exact HB.out | apply below_alloc | apply pw_below_drewN | apply below_drew1 | refine below_set ?_ GE181.out) | exact HB.out)) hb); have n2_ := Aside0.mk (hbox); have n3_ := Aside0.mk ((by rw [hg]; exact (below_size (by repeat (first | (with_reducible first | exact HB.out | apply below_alloc | apply pw_below_drewN | apply below_drew1 | refine below_set ?_ GE181.out) | exact HB.out))) : w.heap.size ≤ gb182)); have n4_ := Aside0.mk ((by rw [hg]; exact (below_size (by repeat (first | (with_reducible first | exact HB.out | apply below_alloc | apply pw_below_drewN | apply below_drew1 | refine below_set ?_ GE181.out) | exact HB.out))) : w.heap.size ≤ gb182)); have n5_ := Aside0.mk ((by rw [hg]; exact Nat.ne_of_lt (blk_lt (g := gb181) (o := .cells #[.int .i64 0, .int .i64 0, .int .i64 0, .int .i64 0, .int .i64 0, .int .i64 0] 23 (0, 0)) (by (with_reducible repeat (first | refine blk_drewN ?_ _ | refine blk_drew ?_ | refine blk_alloc ?_ _)); exact BK181.out)) : gb181 ≠ gb182)); have n6_ := Aside0.mk ((by rw [hg]; exact Nat.ne_of_gt (blk_lt (g := gb181) (o := .cells #[.int .i64 0, .int .i64 0, .int .i64 0, .int .i64 0, .int .i64 0, .int .i64 0] 23 (0, 0)) (by (with_reducible repeat (first | refine blk_drewN ?_ _ | refine blk_drew ?_ | refine blk_alloc ?_ _)); exact BK181.out)) : gb182 ≠ gb181)); clear BK181; clear HB; have BK181 := n0_; have HB := n1_; have BK182 := n2_; have GW182 := n3_; have GE182 := n4_; have NB181_182 := n5_; have NB182_181 := n6_; clear n0_ n1_ n2_ n3_ n4_ n5_ n6_; clear hb hbox hg; have hnb4 := NB182_181.out; have hnc4 := NB181_182.out; have hcz5_0 : w3.cell? ⟨gb182, 0, none⟩ = some (.int .i64 0) := (blk_cell BK182.out 0).trans rfl; have hcz5_1 : w3.cell? ⟨gb182, 1, none⟩ = some (.int .i64 0) := (blk_cell BK182.out 1).trans rfl; have hcz5_2 : w3.cell? ⟨gb182, 2, none⟩ = some (.int .i64 0) := (blk_cell BK182.out 2).trans rfl; have hcz5_3 : w3.cell? ⟨gb182, 3, none⟩ = some (.int .i64 0) := (blk_cell BK182.out 3).trans rfl; have hcz5_4 : w3.cell? ⟨gb182, 4, none⟩ = some (.int .i64 0) := (blk_cell BK182.out 4).trans rfl; have hcz5_5 : w3.cell? ⟨gb182, 5, none⟩ = some (.int .i64 0) := (blk_cell BK182.out 5).trans rfl; have hfz5_0 := blk_frozen BK182.out 0; have hfz5_1 := blk_frozen BK182.out 1; have hfz5_2 := blk_frozen BK182.out 2; have hfz5_3 := blk_frozen BK182.out 3; have hfz5_4 := blk_frozen BK182.out 4; have hfz5_5 := blk_frozen BK182.out 5))
  go_loopg [4] k (fun kq v4 w' => ∃ (x4_1 : Int) (x183000_1 : Int), v4 = .int .i64 x4_1 ∧ Aside0 (masterdiscref16_utc.l0 kq a0 x4_1 x183000_1 1 1 0 0 0 = some (r1, r2, r3, r4, r5, r6)) ∧ Aside0 (kq ≤ k) ∧ Aside0 (w'.heap[gb181]? = some (.cells #[.int .i64 0, .int .i64 0, .int .i64 0, .int .i64 0, .int .i64 0, .int .i64 0] 23 (0, 0))) ∧ Aside0 (w'.heap[gb182]? = some (.cells #[.int .i64 x183000_1, .int .i64 1, .int .i64 1, .int .i64 0, .int .i64 0, .int .i64 0] 23 (0, 0))) ∧ Aside0 (Below w.heap.size w w'))
  case atStart => exact ⟨(wrap64 (Int.tdiv a0 86400)), (1970), (by first | rfl | (simp; done) | (simp [*]; done)), H', ⟨Nat.le_refl _⟩, ⟨by (with_reducible repeat (first | refine blk_drewN ?_ _ | refine blk_drew ?_ | refine blk_alloc ?_ _)); refine blk_far ?_ NB181_182.out _; (with_reducible repeat (first | refine blk_drewN ?_ _ | refine blk_drew ?_ | refine blk_alloc ?_ _)); refine blk_far ?_ NB181_182.out _; (with_reducible repeat (first | refine blk_drewN ?_ _ | refine blk_drew ?_ | refine blk_alloc ?_ _)); refine blk_far ?_ NB181_182.out _; (with_reducible repeat (first | refine blk_drewN ?_ _ | refine blk_drew ?_ | refine blk_alloc ?_ _)); refine blk_far ?_ NB181_182.out _; (with_reducible repeat (first | refine blk_drewN ?_ _ | refine blk_drew ?_ | refine blk_alloc ?_ _)); refine blk_far ?_ NB181_182.out _; (with_reducible repeat (first | refine blk_drewN ?_ _ | refine blk_drew ?_ | refine blk_alloc ?_ _)); refine blk_far ?_ NB181_182.out _; (with_reducible repeat (first | refine blk_drewN ?_ _ | refine blk_drew ?_ | refine blk_alloc ?_ _)); exact BK181.out⟩, ⟨by (with_reducible repeat (first | refine blk_drewN ?_ _ | refine blk_drew ?_ | refine blk_alloc ?_ _)); refine blk_put (cs := #[.int .i64 1970, .int .i64 1, .int .i64 1, .int .i64 0, .int .i64 0, .int .i64 0]) ?_ 5 _ rfl; (with_reducible repeat (first | refine blk_drewN ?_ _ | refine blk_drew ?_ | refine blk_alloc ?_ _)); refine blk_put (cs := #[.int .i64 1970, .int .i64 1, .int .i64 1, .int .i64 0, .int .i64 0, .int .i64 0]) ?_ 4 _ rfl; (with_reducible repeat (first | refine blk_drewN ?_ _ | refine blk_drew ?_ | refine blk_alloc ?_ _)); refine blk_put (cs := #[.int .i64 1970, .int .i64 1, .int .i64 1, .int .i64 0, .int .i64 0, .int .i64 0]) ?_ 3 _ rfl; (with_reducible repeat (first | refine blk_drewN ?_ _ | refine blk_drew ?_ | refine blk_alloc ?_ _)); refine blk_put (cs := #[.int .i64 1970, .int .i64 1, .int .i64 0, .int .i64 0, .int .i64 0, .int .i64 0]) ?_ 2 _ rfl; (with_reducible repeat (first | refine blk_drewN ?_ _ | refine blk_drew ?_ | refine blk_alloc ?_ _)); refine blk_put (cs := #[.int .i64 1970, .int .i64 0, .int .i64 0, .int .i64 0, .int .i64 0, .int .i64 0]) ?_ 1 _ rfl; (with_reducible repeat (first | refine blk_drewN ?_ _ | refine blk_drew ?_ | refine blk_alloc ?_ _)); refine blk_put (cs := #[.int .i64 0, .int .i64 0, .int .i64 0, .int .i64 0, .int .i64 0, .int .i64 0]) ?_ 0 _ rfl; (with_reducible repeat (first | refine blk_drewN ?_ _ | refine blk_drew ?_ | refine blk_alloc ?_ _)); exact BK182.out⟩, ⟨by repeat (first | (with_reducible first | exact HB.out | apply below_alloc | apply pw_below_drewN | apply below_drew1 | refine below_set ?_ GE181.out | refine below_set ?_ GE182.out) | exact HB.out)⟩⟩
  case round =>
    clear H'
    try clear p2
    try clear c3
    try clear c4
    try clear hcz5_0
    try clear hcz5_1
    try clear hcz5_2
    try clear hcz5_3
    try clear hcz5_4
    try clear hcz5_5
    try clear hfz5_0
    try clear hfz5_1
    try clear hfz5_2
    try clear hfz5_3
    try clear hfz5_4
    try clear hfz5_5
    obtain ⟨x4_1, x183000_1, rfl, HA, HK1, BK181, BK182, HB⟩ := hrel
    cases gk with
    | zero => exact absurd HA.out (by simp [masterdiscref16_utc.l0])
    | succ k1 =>
      have H := HA.out
      clear HA
      simp only [masterdiscref16_utc.l0] at H
      replace H := Option.bind_eq_some_iff.mp H
      obtain ⟨t183, A60, H⟩ := H
      replace H : (if x4_1 ≥ t183 then ((masterdiscref16_year.f x183000_1).bind fun t184 => (masterdiscref16_utc.l0 k1 a0 (wrap64 (x4_1 - t184)) (wrap64 (x183000_1 + 1)) 1 1 0 0 0)) else (masterdiscref16_utc.l1 k1 a0 x4_1 x183000_1 1 1 0 0 0)) = some (r1, r2, r3, r4, r5, r6) := H
      have A6 := Aside0.mk A60
      clear A60
      by_cases c7 : x4_1 ≥ t183
      · rw [if_pos c7] at H
        have c7b0 : decide (t183 ≤ x4_1) = true := decide_eq_true c7
        clear c7
        replace H := Option.bind_eq_some_iff.mp H
        obtain ⟨t184, A80, H⟩ := H
        replace H : (masterdiscref16_utc.l0 k1 a0 (wrap64 (x4_1 - t184)) (wrap64 (x183000_1 + 1)) 1 1 0 0 0) = some (r1, r2, r3, r4, r5, r6) := H
        have A8 := Aside0.mk A80
        clear A80
        have H' := Aside0.mk H
        clear H
        have hnb9 := NB182_181.out
        have hnc9 := NB181_182.out
        have hcz10_0 : wr.cell? ⟨gb182, 0, none⟩ = some (.int .i64 x183000_1) := (blk_cell BK182.out 0).trans rfl
        have hcz10_1 : wr.cell? ⟨gb182, 1, none⟩ = some (.int .i64 1) := (blk_cell BK182.out 1).trans rfl
        have hcz10_2 : wr.cell? ⟨gb182, 2, none⟩ = some (.int .i64 1) := (blk_cell BK182.out 2).trans rfl
        have hcz10_3 : wr.cell? ⟨gb182, 3, none⟩ = some (.int .i64 0) := (blk_cell BK182.out 3).trans rfl
        have hcz10_4 : wr.cell? ⟨gb182, 4, none⟩ = some (.int .i64 0) := (blk_cell BK182.out 4).trans rfl
        have hcz10_5 : wr.cell? ⟨gb182, 5, none⟩ = some (.int .i64 0) := (blk_cell BK182.out 5).trans rfl
        have hfz10_0 := blk_frozen BK182.out 0
        have hfz10_1 := blk_frozen BK182.out 1
        have hfz10_2 := blk_frozen BK182.out 2
        have hfz10_3 := blk_frozen BK182.out 3
        have hfz10_4 := blk_frozen BK182.out 4
        have hfz10_5 := blk_frozen BK182.out 5
        go_wp2_with (first | ((with_reducible refine gate_callee (f := 55) rfl ?_); refine goesL_ (some 12) rfl rfl Tryd.func55 (by kernel_rfl) rfl #[.int .i64 x183000_1] rfl (by (try simp only [List.map_toArray, List.map_cons, List.map_nil]); first | done | rfl | (simp only [List.length_drop, List.length_take]; rfl)) ?_; (with_reducible refine (masterdiscref16_year.calls x183000_1 t183 _ A6.out).mono ?_); rintro e w11 ⟨rfl, hb⟩; refine ⟨_, rfl, ?_⟩; have n0_ := Aside0.mk (blk_below (g := gb181) (o := .cells #[.int .i64 0, .int .i64 0, .int .i64 0, .int .i64 0, .int .i64 0, .int .i64 0] 23 (0, 0)) (by (with_reducible repeat (first | refine blk_drewN ?_ _ | refine blk_drew ?_ | refine blk_alloc ?_ _)); exact BK181.out) hb); have n1_ := Aside0.mk (blk_below (g := gb182) (o := .cells #[.int .i64 x183000_1, .int .i64 1, .int .i64 1, .int .i64 0, .int .i64 0, .int .i64 0] 23 (0, 0)) (by (with_reducible repeat (first | refine blk_drewN ?_ _ | refine blk_drew ?_ | refine blk_alloc ?_ _)); exact BK182.out) hb); have n2_ := Aside0.mk (below_step (by repeat (first | (with_reducible first | exact HB.out | apply below_alloc | apply pw_below_drewN | apply below_drew1 | refine below_set ?_ GE181.out | refine below_set ?_ GE182.out) | exact HB.out)) hb); clear BK181; clear BK182; clear HB; have BK181 := n0_; have BK182 := n1_; have HB := n2_; clear n0_ n1_ n2_; (try clear hb); (try clear hb2); (try clear hk); (try clear hi); have hcz12_0 : w11.cell? ⟨gb182, 0, none⟩ = some (.int .i64 x183000_1) := (blk_cell BK182.out 0).trans rfl; have hcz12_1 : w11.cell? ⟨gb182, 1, none⟩ = some (.int .i64 1) := (blk_cell BK182.out 1).trans rfl; have hcz12_2 : w11.cell? ⟨gb182, 2, none⟩ = some (.int .i64 1) := (blk_cell BK182.out 2).trans rfl; have hcz12_3 : w11.cell? ⟨gb182, 3, none⟩ = some (.int .i64 0) := (blk_cell BK182.out 3).trans rfl; have hcz12_4 : w11.cell? ⟨gb182, 4, none⟩ = some (.int .i64 0) := (blk_cell BK182.out 4).trans rfl; have hcz12_5 : w11.cell? ⟨gb182, 5, none⟩ = some (.int .i64 0) := (blk_cell BK182.out 5).trans rfl; have hfz12_0 := blk_frozen BK182.out 0; have hfz12_1 := blk_frozen BK182.out 1; have hfz12_2 := blk_frozen BK182.out 2; have hfz12_3 := blk_frozen BK182.out 3; have hfz12_4 := blk_frozen BK182.out 4; have hfz12_5 := blk_frozen BK182.out 5) | ((with_reducible refine gate_callee (f := 55) rfl ?_); refine goesL_ (some 17) rfl rfl Tryd.func55 (by kernel_rfl) rfl #[.int .i64 x183000_1] rfl (by (try simp only [List.map_toArray, List.map_cons, List.map_nil]); first | done | rfl | (simp only [List.length_drop, List.length_take]; rfl)) ?_; (with_reducible refine (masterdiscref16_year.calls x183000_1 t184 _ A8.out).mono ?_); rintro e w13 ⟨rfl, hb⟩; refine ⟨_, rfl, ?_⟩; have n0_ := Aside0.mk (blk_below (g := gb181) (o := .cells #[.int .i64 0, .int .i64 0, .int .i64 0, .int .i64 0, .int .i64 0, .int .i64 0] 23 (0, 0)) (by (with_reducible repeat (first | refine blk_drewN ?_ _ | refine blk_drew ?_ | refine blk_alloc ?_ _)); exact BK181.out) hb); have n1_ := Aside0.mk (blk_below (g := gb182) (o := .cells #[.int .i64 x183000_1, .int .i64 1, .int .i64 1, .int .i64 0, .int .i64 0, .int .i64 0] 23 (0, 0)) (by (with_reducible repeat (first | refine blk_drewN ?_ _ | refine blk_drew ?_ | refine blk_alloc ?_ _)); exact BK182.out) hb); have n2_ := Aside0.mk (below_step (by repeat (first | (with_reducible first | exact HB.out | apply below_alloc | apply pw_below_drewN | apply below_drew1 | refine below_set ?_ GE181.out | refine below_set ?_ GE182.out) | exact HB.out)) hb); clear BK181; clear BK182; clear HB; have BK181 := n0_; have BK182 := n1_; have HB := n2_; clear n0_ n1_ n2_; (try clear hb); (try clear hb2); (try clear hk); (try clear hi); have hcz14_0 : w13.cell? ⟨gb182, 0, none⟩ = some (.int .i64 x183000_1) := (blk_cell BK182.out 0).trans rfl; have hcz14_1 : w13.cell? ⟨gb182, 1, none⟩ = some (.int .i64 1) := (blk_cell BK182.out 1).trans rfl; have hcz14_2 : w13.cell? ⟨gb182, 2, none⟩ = some (.int .i64 1) := (blk_cell BK182.out 2).trans rfl; have hcz14_3 : w13.cell? ⟨gb182, 3, none⟩ = some (.int .i64 0) := (blk_cell BK182.out 3).trans rfl; have hcz14_4 : w13.cell? ⟨gb182, 4, none⟩ = some (.int .i64 0) := (blk_cell BK182.out 4).trans rfl; have hcz14_5 : w13.cell? ⟨gb182, 5, none⟩ = some (.int .i64 0) := (blk_cell BK182.out 5).trans rfl; have hfz14_0 := blk_frozen BK182.out 0; have hfz14_1 := blk_frozen BK182.out 1; have hfz14_2 := blk_frozen BK182.out 2; have hfz14_3 := blk_frozen BK182.out 3; have hfz14_4 := blk_frozen BK182.out 4; have hfz14_5 := blk_frozen BK182.out 5))
        go_roundg k1
        case measure => have := HK1.out; omega
        case rel => exact ⟨(wrap64 (x4_1 - t184)), (wrap64 (x183000_1 + 1)), (by first | rfl | (simp; done) | (simp [*]; done)), H', ⟨by have := HK1.out; omega⟩, ⟨by (with_reducible repeat (first | refine blk_drewN ?_ _ | refine blk_drew ?_ | refine blk_alloc ?_ _)); refine blk_far ?_ NB181_182.out _; (with_reducible repeat (first | refine blk_drewN ?_ _ | refine blk_drew ?_ | refine blk_alloc ?_ _)); exact BK181.out⟩, ⟨by (with_reducible repeat (first | refine blk_drewN ?_ _ | refine blk_drew ?_ | refine blk_alloc ?_ _)); refine blk_put (cs := #[.int .i64 x183000_1, .int .i64 1, .int .i64 1, .int .i64 0, .int .i64 0, .int .i64 0]) ?_ 0 _ rfl; (with_reducible repeat (first | refine blk_drewN ?_ _ | refine blk_drew ?_ | refine blk_alloc ?_ _)); exact BK182.out⟩, ⟨by repeat (first | (with_reducible first | exact HB.out | apply below_alloc | apply pw_below_drewN | apply below_drew1 | refine below_set ?_ GE181.out | refine below_set ?_ GE182.out) | exact HB.out)⟩⟩
      · rw [if_neg c7] at H
        have c7b0 : decide (t183 ≤ x4_1) = false := decide_eq_false c7
        clear c7
        have H' := Aside0.mk H
        clear H
        have hnb15 := NB182_181.out
        have hnc15 := NB181_182.out
        have hcz16_0 : wr.cell? ⟨gb182, 0, none⟩ = some (.int .i64 x183000_1) := (blk_cell BK182.out 0).trans rfl
        have hcz16_1 : wr.cell? ⟨gb182, 1, none⟩ = some (.int .i64 1) := (blk_cell BK182.out 1).trans rfl
        have hcz16_2 : wr.cell? ⟨gb182, 2, none⟩ = some (.int .i64 1) := (blk_cell BK182.out 2).trans rfl
        have hcz16_3 : wr.cell? ⟨gb182, 3, none⟩ = some (.int .i64 0) := (blk_cell BK182.out 3).trans rfl
        have hcz16_4 : wr.cell? ⟨gb182, 4, none⟩ = some (.int .i64 0) := (blk_cell BK182.out 4).trans rfl
        have hcz16_5 : wr.cell? ⟨gb182, 5, none⟩ = some (.int .i64 0) := (blk_cell BK182.out 5).trans rfl
        have hfz16_0 := blk_frozen BK182.out 0
        have hfz16_1 := blk_frozen BK182.out 1
        have hfz16_2 := blk_frozen BK182.out 2
        have hfz16_3 := blk_frozen BK182.out 3
        have hfz16_4 := blk_frozen BK182.out 4
        have hfz16_5 := blk_frozen BK182.out 5
        go_wp2_with (first | ((with_reducible refine gate_callee (f := 55) rfl ?_); refine goesL_ (some 12) rfl rfl Tryd.func55 (by kernel_rfl) rfl #[.int .i64 x183000_1] rfl (by (try simp only [List.map_toArray, List.map_cons, List.map_nil]); first | done | rfl | (simp only [List.length_drop, List.length_take]; rfl)) ?_; (with_reducible refine (masterdiscref16_year.calls x183000_1 t183 _ A6.out).mono ?_); rintro e w17 ⟨rfl, hb⟩; refine ⟨_, rfl, ?_⟩; have n0_ := Aside0.mk (blk_below (g := gb181) (o := .cells #[.int .i64 0, .int .i64 0, .int .i64 0, .int .i64 0, .int .i64 0, .int .i64 0] 23 (0, 0)) (by (with_reducible repeat (first | refine blk_drewN ?_ _ | refine blk_drew ?_ | refine blk_alloc ?_ _)); exact BK181.out) hb); have n1_ := Aside0.mk (blk_below (g := gb182) (o := .cells #[.int .i64 x183000_1, .int .i64 1, .int .i64 1, .int .i64 0, .int .i64 0, .int .i64 0] 23 (0, 0)) (by (with_reducible repeat (first | refine blk_drewN ?_ _ | refine blk_drew ?_ | refine blk_alloc ?_ _)); exact BK182.out) hb); have n2_ := Aside0.mk (below_step (by repeat (first | (with_reducible first | exact HB.out | apply below_alloc | apply pw_below_drewN | apply below_drew1 | refine below_set ?_ GE181.out | refine below_set ?_ GE182.out) | exact HB.out)) hb); clear BK181; clear BK182; clear HB; have BK181 := n0_; have BK182 := n1_; have HB := n2_; clear n0_ n1_ n2_; (try clear hb); (try clear hb2); (try clear hk); (try clear hi)))
        go_loopg [4] k1 (fun kq v4 w' => ∃ (x4_2 : Int) (x183001_2 : Int), v4 = .int .i64 x4_2 ∧ Aside0 (masterdiscref16_utc.l1 kq a0 x4_2 x183000_1 x183001_2 1 0 0 0 = some (r1, r2, r3, r4, r5, r6)) ∧ Aside0 (kq ≤ k1) ∧ Aside0 (w'.heap[gb181]? = some (.cells #[.int .i64 0, .int .i64 0, .int .i64 0, .int .i64 0, .int .i64 0, .int .i64 0] 23 (0, 0))) ∧ Aside0 (w'.heap[gb182]? = some (.cells #[.int .i64 x183000_1, .int .i64 x183001_2, .int .i64 1, .int .i64 0, .int .i64 0, .int .i64 0] 23 (0, 0))) ∧ Aside0 (Below w.heap.size w w'))
        case atStart => exact ⟨(x4_1), (1), (by first | rfl | (simp; done) | (simp [*]; done)), H', ⟨Nat.le_refl _⟩, ⟨by (with_reducible repeat (first | refine blk_drewN ?_ _ | refine blk_drew ?_ | refine blk_alloc ?_ _)); exact BK181.out⟩, ⟨by (with_reducible repeat (first | refine blk_drewN ?_ _ | refine blk_drew ?_ | refine blk_alloc ?_ _)); exact BK182.out⟩, ⟨by repeat (first | (with_reducible first | exact HB.out | apply below_alloc | apply pw_below_drewN | apply below_drew1 | refine below_set ?_ GE181.out | refine below_set ?_ GE182.out) | exact HB.out)⟩⟩
        case round =>
          clear H'
          try clear c1
          try clear p2
          try clear c3
          try clear c4
          try clear c5
          try clear p6
          try clear c7
          try clear c7b0
          try clear c9
          try clear c15
          try clear hcz10_0
          try clear hcz10_1
          try clear hcz10_2
          try clear hcz10_3
          try clear hcz10_4
          try clear hcz10_5
          try clear hcz12_0
          try clear hcz12_1
          try clear hcz12_2
          try clear hcz12_3
          try clear hcz12_4
          try clear hcz12_5
          try clear hcz14_0
          try clear hcz14_1
          try clear hcz14_2
          try clear hcz14_3
          try clear hcz14_4
          try clear hcz14_5
          try clear hcz16_0
          try clear hcz16_1
          try clear hcz16_2
          try clear hcz16_3
          try clear hcz16_4
          try clear hcz16_5
          try clear hcz5_0
          try clear hcz5_1
          try clear hcz5_2
          try clear hcz5_3
          try clear hcz5_4
          try clear hcz5_5
          try clear hfz10_0
          try clear hfz10_1
          try clear hfz10_2
          try clear hfz10_3
          try clear hfz10_4
          try clear hfz10_5
          try clear hfz12_0
          try clear hfz12_1
          try clear hfz12_2
          try clear hfz12_3
          try clear hfz12_4
          try clear hfz12_5
          try clear hfz14_0
          try clear hfz14_1
          try clear hfz14_2
          try clear hfz14_3
          try clear hfz14_4
          try clear hfz14_5
          try clear hfz16_0
          try clear hfz16_1
          try clear hfz16_2
          try clear hfz16_3
          try clear hfz16_4
          try clear hfz16_5
          try clear hfz5_0
          try clear hfz5_1
          try clear hfz5_2
          try clear hfz5_3
          try clear hfz5_4
          try clear hfz5_5
          try clear p2
          obtain ⟨x4_2, x183001_2, rfl, HA, HK2, BK181, BK182, HB⟩ := hrel
          cases gk with
          | zero => exact absurd HA.out (by simp [masterdiscref16_utc.l1])
          | succ k2 =>
            have H := HA.out
            clear HA
            simp only [masterdiscref16_utc.l1] at H
            replace H := Option.bind_eq_some_iff.mp H
            obtain ⟨t185, A180, H⟩ := H
            replace H : (if x4_2 ≥ t185 then ((masterdiscref16_days.f x183000_1 x183001_2).bind fun t186 => (masterdiscref16_utc.l1 k2 a0 (wrap64 (x4_2 - t186)) x183000_1 (wrap64 (x183001_2 + 1)) 1 0 0 0)) else (some (x183000_1, x183001_2, wrap64 (1 + x4_2), wrap64 (Int.tdiv (Int.tmod a0 86400) 3600), Int.tmod (wrap64 (Int.tdiv (Int.tmod a0 86400) 60)) 60, Int.tmod a0 60))) = some (r1, r2, r3, r4, r5, r6) := H
            have A18 := Aside0.mk A180
            clear A180
            by_cases c19 : x4_2 ≥ t185
            · rw [if_pos c19] at H
              have c19b0 : decide (t185 ≤ x4_2) = true := decide_eq_true c19
              clear c19
              replace H := Option.bind_eq_some_iff.mp H
              obtain ⟨t186, A200, H⟩ := H
              replace H : (masterdiscref16_utc.l1 k2 a0 (wrap64 (x4_2 - t186)) x183000_1 (wrap64 (x183001_2 + 1)) 1 0 0 0) = some (r1, r2, r3, r4, r5, r6) := H
              have A20 := Aside0.mk A200
              clear A200
              have H' := Aside0.mk H
              clear H
              have hnb21 := NB182_181.out
              have hnc21 := NB181_182.out
              have hcz22_0 : wr.cell? ⟨gb182, 0, none⟩ = some (.int .i64 x183000_1) := (blk_cell BK182.out 0).trans rfl
              have hcz22_1 : wr.cell? ⟨gb182, 1, none⟩ = some (.int .i64 x183001_2) := (blk_cell BK182.out 1).trans rfl
              have hcz22_2 : wr.cell? ⟨gb182, 2, none⟩ = some (.int .i64 1) := (blk_cell BK182.out 2).trans rfl
              have hcz22_3 : wr.cell? ⟨gb182, 3, none⟩ = some (.int .i64 0) := (blk_cell BK182.out 3).trans rfl
              have hcz22_4 : wr.cell? ⟨gb182, 4, none⟩ = some (.int .i64 0) := (blk_cell BK182.out 4).trans rfl
              have hcz22_5 : wr.cell? ⟨gb182, 5, none⟩ = some (.int .i64 0) := (blk_cell BK182.out 5).trans rfl
              have hfz22_0 := blk_frozen BK182.out 0
              have hfz22_1 := blk_frozen BK182.out 1
              have hfz22_2 := blk_frozen BK182.out 2
              have hfz22_3 := blk_frozen BK182.out 3
              have hfz22_4 := blk_frozen BK182.out 4
              have hfz22_5 := blk_frozen BK182.out 5
              go_wp2_with (first | ((with_reducible refine gate_callee (f := 56) rfl ?_); refine goesL_ (some 28) rfl rfl Tryd.func56 (by kernel_rfl) rfl #[.int .i64 x183000_1, .int .i64 x183001_2] rfl (by (try simp only [List.map_toArray, List.map_cons, List.map_nil]); first | done | rfl | (simp only [List.length_drop, List.length_take]; rfl)) ?_; (with_reducible refine (masterdiscref16_days.calls x183000_1 x183001_2 t185 _ A18.out).mono ?_); rintro e w23 ⟨rfl, hb⟩; refine ⟨_, rfl, ?_⟩; have n0_ := Aside0.mk (blk_below (g := gb181) (o := .cells #[.int .i64 0, .int .i64 0, .int .i64 0, .int .i64 0, .int .i64 0, .int .i64 0] 23 (0, 0)) (by (with_reducible repeat (first | refine blk_drewN ?_ _ | refine blk_drew ?_ | refine blk_alloc ?_ _)); exact BK181.out) hb); have n1_ := Aside0.mk (blk_below (g := gb182) (o := .cells #[.int .i64 x183000_1, .int .i64 x183001_2, .int .i64 1, .int .i64 0, .int .i64 0, .int .i64 0] 23 (0, 0)) (by (with_reducible repeat (first | refine blk_drewN ?_ _ | refine blk_drew ?_ | refine blk_alloc ?_ _)); exact BK182.out) hb); have n2_ := Aside0.mk (below_step (by repeat (first | (with_reducible first | exact HB.out | apply below_alloc | apply pw_below_drewN | apply below_drew1 | refine below_set ?_ GE181.out | refine below_set ?_ GE182.out) | exact HB.out)) hb); clear BK181; clear BK182; clear HB; have BK181 := n0_; have BK182 := n1_; have HB := n2_; clear n0_ n1_ n2_; (try clear hb); (try clear hb2); (try clear hk); (try clear hi); have hcz24_0 : w23.cell? ⟨gb182, 0, none⟩ = some (.int .i64 x183000_1) := (blk_cell BK182.out 0).trans rfl; have hcz24_1 : w23.cell? ⟨gb182, 1, none⟩ = some (.int .i64 x183001_2) := (blk_cell BK182.out 1).trans rfl; have hcz24_2 : w23.cell? ⟨gb182, 2, none⟩ = some (.int .i64 1) := (blk_cell BK182.out 2).trans rfl; have hcz24_3 : w23.cell? ⟨gb182, 3, none⟩ = some (.int .i64 0) := (blk_cell BK182.out 3).trans rfl; have hcz24_4 : w23.cell? ⟨gb182, 4, none⟩ = some (.int .i64 0) := (blk_cell BK182.out 4).trans rfl; have hcz24_5 : w23.cell? ⟨gb182, 5, none⟩ = some (.int .i64 0) := (blk_cell BK182.out 5).trans rfl; have hfz24_0 := blk_frozen BK182.out 0; have hfz24_1 := blk_frozen BK182.out 1; have hfz24_2 := blk_frozen BK182.out 2; have hfz24_3 := blk_frozen BK182.out 3; have hfz24_4 := blk_frozen BK182.out 4; have hfz24_5 := blk_frozen BK182.out 5) | ((with_reducible refine gate_callee (f := 56) rfl ?_); refine goesL_ (some 35) rfl rfl Tryd.func56 (by kernel_rfl) rfl #[.int .i64 x183000_1, .int .i64 x183001_2] rfl (by (try simp only [List.map_toArray, List.map_cons, List.map_nil]); first | done | rfl | (simp only [List.length_drop, List.length_take]; rfl)) ?_; (with_reducible refine (masterdiscref16_days.calls x183000_1 x183001_2 t186 _ A20.out).mono ?_); rintro e w25 ⟨rfl, hb⟩; refine ⟨_, rfl, ?_⟩; have n0_ := Aside0.mk (blk_below (g := gb181) (o := .cells #[.int .i64 0, .int .i64 0, .int .i64 0, .int .i64 0, .int .i64 0, .int .i64 0] 23 (0, 0)) (by (with_reducible repeat (first | refine blk_drewN ?_ _ | refine blk_drew ?_ | refine blk_alloc ?_ _)); exact BK181.out) hb); have n1_ := Aside0.mk (blk_below (g := gb182) (o := .cells #[.int .i64 x183000_1, .int .i64 x183001_2, .int .i64 1, .int .i64 0, .int .i64 0, .int .i64 0] 23 (0, 0)) (by (with_reducible repeat (first | refine blk_drewN ?_ _ | refine blk_drew ?_ | refine blk_alloc ?_ _)); exact BK182.out) hb); have n2_ := Aside0.mk (below_step (by repeat (first | (with_reducible first | exact HB.out | apply below_alloc | apply pw_below_drewN | apply below_drew1 | refine below_set ?_ GE181.out | refine below_set ?_ GE182.out) | exact HB.out)) hb); clear BK181; clear BK182; clear HB; have BK181 := n0_; have BK182 := n1_; have HB := n2_; clear n0_ n1_ n2_; (try clear hb); (try clear hb2); (try clear hk); (try clear hi); have hcz26_0 : w25.cell? ⟨gb182, 0, none⟩ = some (.int .i64 x183000_1) := (blk_cell BK182.out 0).trans rfl; have hcz26_1 : w25.cell? ⟨gb182, 1, none⟩ = some (.int .i64 x183001_2) := (blk_cell BK182.out 1).trans rfl; have hcz26_2 : w25.cell? ⟨gb182, 2, none⟩ = some (.int .i64 1) := (blk_cell BK182.out 2).trans rfl; have hcz26_3 : w25.cell? ⟨gb182, 3, none⟩ = some (.int .i64 0) := (blk_cell BK182.out 3).trans rfl; have hcz26_4 : w25.cell? ⟨gb182, 4, none⟩ = some (.int .i64 0) := (blk_cell BK182.out 4).trans rfl; have hcz26_5 : w25.cell? ⟨gb182, 5, none⟩ = some (.int .i64 0) := (blk_cell BK182.out 5).trans rfl; have hfz26_0 := blk_frozen BK182.out 0; have hfz26_1 := blk_frozen BK182.out 1; have hfz26_2 := blk_frozen BK182.out 2; have hfz26_3 := blk_frozen BK182.out 3; have hfz26_4 := blk_frozen BK182.out 4; have hfz26_5 := blk_frozen BK182.out 5))
              go_roundg k2
              case measure => have := HK1.out; have := HK2.out; omega
              case rel => exact ⟨(wrap64 (x4_2 - t186)), (wrap64 (x183001_2 + 1)), (by first | rfl | (simp; done) | (simp [*]; done)), H', ⟨by have := HK1.out; have := HK2.out; omega⟩, ⟨by (with_reducible repeat (first | refine blk_drewN ?_ _ | refine blk_drew ?_ | refine blk_alloc ?_ _)); refine blk_far ?_ NB181_182.out _; (with_reducible repeat (first | refine blk_drewN ?_ _ | refine blk_drew ?_ | refine blk_alloc ?_ _)); exact BK181.out⟩, ⟨by (with_reducible repeat (first | refine blk_drewN ?_ _ | refine blk_drew ?_ | refine blk_alloc ?_ _)); refine blk_put (cs := #[.int .i64 x183000_1, .int .i64 x183001_2, .int .i64 1, .int .i64 0, .int .i64 0, .int .i64 0]) ?_ 1 _ rfl; (with_reducible repeat (first | refine blk_drewN ?_ _ | refine blk_drew ?_ | refine blk_alloc ?_ _)); exact BK182.out⟩, ⟨by repeat (first | (with_reducible first | exact HB.out | apply below_alloc | apply pw_below_drewN | apply below_drew1 | refine below_set ?_ GE181.out | refine below_set ?_ GE182.out) | exact HB.out)⟩⟩
            · rw [if_neg c19] at H
              have c19b0 : decide (t185 ≤ x4_2) = false := decide_eq_false c19
              clear c19
              simp only [Option.some.injEq, Prod.mk.injEq] at H
              obtain ⟨rfl, rfl, rfl, rfl, rfl, rfl⟩ := H
              have hnb27 := NB182_181.out
              have hnc27 := NB181_182.out
              have hcz28_0 : wr.cell? ⟨gb182, 0, none⟩ = some (.int .i64 x183000_1) := (blk_cell BK182.out 0).trans rfl
              have hcz28_1 : wr.cell? ⟨gb182, 1, none⟩ = some (.int .i64 x183001_2) := (blk_cell BK182.out 1).trans rfl
              have hcz28_2 : wr.cell? ⟨gb182, 2, none⟩ = some (.int .i64 1) := (blk_cell BK182.out 2).trans rfl
              have hcz28_3 : wr.cell? ⟨gb182, 3, none⟩ = some (.int .i64 0) := (blk_cell BK182.out 3).trans rfl
              have hcz28_4 : wr.cell? ⟨gb182, 4, none⟩ = some (.int .i64 0) := (blk_cell BK182.out 4).trans rfl
              have hcz28_5 : wr.cell? ⟨gb182, 5, none⟩ = some (.int .i64 0) := (blk_cell BK182.out 5).trans rfl
              have hfz28_0 := blk_frozen BK182.out 0
              have hfz28_1 := blk_frozen BK182.out 1
              have hfz28_2 := blk_frozen BK182.out 2
              have hfz28_3 := blk_frozen BK182.out 3
              have hfz28_4 := blk_frozen BK182.out 4
              have hfz28_5 := blk_frozen BK182.out 5
              go_wp2_with (first | ((with_reducible refine gate_callee (f := 56) rfl ?_); refine goesL_ (some 28) rfl rfl Tryd.func56 (by kernel_rfl) rfl #[.int .i64 x183000_1, .int .i64 x183001_2] rfl (by (try simp only [List.map_toArray, List.map_cons, List.map_nil]); first | done | rfl | (simp only [List.length_drop, List.length_take]; rfl)) ?_; (with_reducible refine (masterdiscref16_days.calls x183000_1 x183001_2 t185 _ A18.out).mono ?_); rintro e w29 ⟨rfl, hb⟩; refine ⟨_, rfl, ?_⟩; have n0_ := Aside0.mk (blk_below (g := gb181) (o := .cells #[.int .i64 0, .int .i64 0, .int .i64 0, .int .i64 0, .int .i64 0, .int .i64 0] 23 (0, 0)) (by (with_reducible repeat (first | refine blk_drewN ?_ _ | refine blk_drew ?_ | refine blk_alloc ?_ _)); exact BK181.out) hb); have n1_ := Aside0.mk (blk_below (g := gb182) (o := .cells #[.int .i64 x183000_1, .int .i64 x183001_2, .int .i64 1, .int .i64 0, .int .i64 0, .int .i64 0] 23 (0, 0)) (by (with_reducible repeat (first | refine blk_drewN ?_ _ | refine blk_drew ?_ | refine blk_alloc ?_ _)); exact BK182.out) hb); have n2_ := Aside0.mk (below_step (by repeat (first | (with_reducible first | exact HB.out | apply below_alloc | apply pw_below_drewN | apply below_drew1 | refine below_set ?_ GE181.out | refine below_set ?_ GE182.out) | exact HB.out)) hb); clear BK181; clear BK182; clear HB; have BK181 := n0_; have BK182 := n1_; have HB := n2_; clear n0_ n1_ n2_; (try clear hb); (try clear hb2); (try clear hk); (try clear hi); have hcz30_0 : w29.cell? ⟨gb182, 0, none⟩ = some (.int .i64 x183000_1) := (blk_cell BK182.out 0).trans rfl; have hcz30_1 : w29.cell? ⟨gb182, 1, none⟩ = some (.int .i64 x183001_2) := (blk_cell BK182.out 1).trans rfl; have hcz30_2 : w29.cell? ⟨gb182, 2, none⟩ = some (.int .i64 1) := (blk_cell BK182.out 2).trans rfl; have hcz30_3 : w29.cell? ⟨gb182, 3, none⟩ = some (.int .i64 0) := (blk_cell BK182.out 3).trans rfl; have hcz30_4 : w29.cell? ⟨gb182, 4, none⟩ = some (.int .i64 0) := (blk_cell BK182.out 4).trans rfl; have hcz30_5 : w29.cell? ⟨gb182, 5, none⟩ = some (.int .i64 0) := (blk_cell BK182.out 5).trans rfl; have hfz30_0 := blk_frozen BK182.out 0; have hfz30_1 := blk_frozen BK182.out 1; have hfz30_2 := blk_frozen BK182.out 2; have hfz30_3 := blk_frozen BK182.out 3; have hfz30_4 := blk_frozen BK182.out 4; have hfz30_5 := blk_frozen BK182.out 5; have hcz31_0 : w29.cell? ⟨gb181, 0, none⟩ = some (.int .i64 0) := (blk_cell BK181.out 0).trans rfl; have hcz31_1 : w29.cell? ⟨gb181, 1, none⟩ = some (.int .i64 0) := (blk_cell BK181.out 1).trans rfl; have hcz31_2 : w29.cell? ⟨gb181, 2, none⟩ = some (.int .i64 0) := (blk_cell BK181.out 2).trans rfl; have hcz31_3 : w29.cell? ⟨gb181, 3, none⟩ = some (.int .i64 0) := (blk_cell BK181.out 3).trans rfl; have hcz31_4 : w29.cell? ⟨gb181, 4, none⟩ = some (.int .i64 0) := (blk_cell BK181.out 4).trans rfl; have hcz31_5 : w29.cell? ⟨gb181, 5, none⟩ = some (.int .i64 0) := (blk_cell BK181.out 5).trans rfl; have hfz31_0 := blk_frozen BK181.out 0; have hfz31_1 := blk_frozen BK181.out 1; have hfz31_2 := blk_frozen BK181.out 2; have hfz31_3 := blk_frozen BK181.out 3; have hfz31_4 := blk_frozen BK181.out 4; have hfz31_5 := blk_frozen BK181.out 5))
              refine bodyPost_ret (results_cell_row rfl _ _ gb181 23 #[.int .i64 x183000_1, .int .i64 x183001_2, .int .i64 (wrap64 (1 + x4_2)), .int .i64 (wrap64 (Int.tdiv (Int.tmod a0 86400) 3600)), .int .i64 (Int.tmod (wrap64 (Int.tdiv (Int.tmod a0 86400) 60)) 60), .int .i64 (Int.tmod a0 60)] (0, 0) _ rfl (by (with_reducible repeat (first | refine blk_drewN ?_ _ | refine blk_drew ?_ | refine blk_alloc ?_ _)); refine blk_put (cs := #[.int .i64 x183000_1, .int .i64 x183001_2, .int .i64 (wrap64 (1 + x4_2)), .int .i64 (wrap64 (Int.tdiv (Int.tmod a0 86400) 3600)), .int .i64 (Int.tmod (wrap64 (Int.tdiv (Int.tmod a0 86400) 60)) 60), .int .i64 0]) ?_ 5 _ rfl; (with_reducible repeat (first | refine blk_drewN ?_ _ | refine blk_drew ?_ | refine blk_alloc ?_ _)); refine blk_put (cs := #[.int .i64 x183000_1, .int .i64 x183001_2, .int .i64 (wrap64 (1 + x4_2)), .int .i64 (wrap64 (Int.tdiv (Int.tmod a0 86400) 3600)), .int .i64 0, .int .i64 0]) ?_ 4 _ rfl; (with_reducible repeat (first | refine blk_drewN ?_ _ | refine blk_drew ?_ | refine blk_alloc ?_ _)); refine blk_put (cs := #[.int .i64 x183000_1, .int .i64 x183001_2, .int .i64 (wrap64 (1 + x4_2)), .int .i64 0, .int .i64 0, .int .i64 0]) ?_ 3 _ rfl; (with_reducible repeat (first | refine blk_drewN ?_ _ | refine blk_drew ?_ | refine blk_alloc ?_ _)); refine blk_put (cs := #[.int .i64 x183000_1, .int .i64 x183001_2, .int .i64 0, .int .i64 0, .int .i64 0, .int .i64 0]) ?_ 2 _ rfl; (with_reducible repeat (first | refine blk_drewN ?_ _ | refine blk_drew ?_ | refine blk_alloc ?_ _)); refine blk_put (cs := #[.int .i64 x183000_1, .int .i64 0, .int .i64 0, .int .i64 0, .int .i64 0, .int .i64 0]) ?_ 1 _ rfl; (with_reducible repeat (first | refine blk_drewN ?_ _ | refine blk_drew ?_ | refine blk_alloc ?_ _)); refine blk_put (cs := #[.int .i64 0, .int .i64 0, .int .i64 0, .int .i64 0, .int .i64 0, .int .i64 0]) ?_ 0 _ rfl; (with_reducible repeat (first | refine blk_drewN ?_ _ | refine blk_drew ?_ | refine blk_alloc ?_ _)); refine blk_far ?_ NB181_182.out _; (with_reducible repeat (first | refine blk_drewN ?_ _ | refine blk_drew ?_ | refine blk_alloc ?_ _)); refine blk_far ?_ NB181_182.out _; (with_reducible repeat (first | refine blk_drewN ?_ _ | refine blk_drew ?_ | refine blk_alloc ?_ _)); refine blk_far ?_ NB181_182.out _; (with_reducible repeat (first | refine blk_drewN ?_ _ | refine blk_drew ?_ | refine blk_alloc ?_ _)); refine blk_far ?_ NB181_182.out _; (with_reducible repeat (first | refine blk_drewN ?_ _ | refine blk_drew ?_ | refine blk_alloc ?_ _)); exact BK181.out) Tryd.underlying23 rfl (by kernel_rfl)) rfl ?_
              exact ⟨by first | rfl | (simp [errW_none, errW_some] <;> rfl) | (simp [*, errW_none, errW_some] <;> rfl), by repeat (first | (with_reducible first | exact HB.out | apply below_alloc | apply pw_below_drewN | apply below_drew1 | refine below_set ?_ GE181.out | refine below_set ?_ GE182.out) | exact HB.out)⟩

/-! ### masterdiscref16_Split: function 13 -/
def masterdiscref16_Split.f (k : Nat) (a0 : Int) (a1 : Int) : Option (Int × Int × Int × Int × Int × Int × Int) := (masterdiscref16_Time.f a0).bind fun t188 => (if t188 = true then ((masterdiscref16_Zone.f a1).bind fun t189 => (if t189 = true then ((masterdiscref16_utc.f k (wrap64 (a0 + (wrap64 (60 * a1))))).bind fun bt190 => (some (bt190.1, bt190.2.1, bt190.2.2.1, bt190.2.2.2.1, bt190.2.2.2.2.1, bt190.2.2.2.2.2, 0))) else (some (0, 0, 0, 0, 0, 0, 2)))) else (some (0, 0, 0, 0, 0, 0, 2)))
theorem masterdiscref16_Split.mono : ∀ a0 a1 k, LeO (masterdiscref16_Split.f k a0 a1) (masterdiscref16_Split.f (k + 1) a0 a1) := by
  intro a0 a1 k
  unfold masterdiscref16_Split.f
  repeat' first
      | (with_reducible exact masterdiscref16_utc.mono _ _)
      | (with_reducible exact LeO.refl _)
      | (with_reducible exact LeO.none _)
      | (with_reducible refine LeO.ite ?_ ?_)
      | (with_reducible refine LeO.bind ?_ (fun _ => ?_))
      | exact masterdiscref16_utc.mono _ _
      | exact LeO.none _
      | refine LeO.ite ?_ ?_
      | refine LeO.bind ?_ (fun _ => ?_)
set_option maxHeartbeats 8000000 in
set_option maxRecDepth 100000 in
theorem masterdiscref16_Split.calls (k : Nat) (a0 : Int) (a1 : Int) (r1 : Int) (r2 : Int) (r3 : Int) (r4 : Int) (r5 : Int) (r6 : Int) (r7 : Int) (w : World) (h : masterdiscref16_Split.f k a0 a1 = some (r1, r2, r3, r4, r5, r6, r7)) :
    Calls Tryd.prog 13 #[.int .i64 a0, .int .i64 a1] w fun e w' => e = .returned (.tuple #[.agg #[.int .i64 r1, .int .i64 r2, .int .i64 r3, .int .i64 r4, .int .i64 r5, .int .i64 r6], .int .i64 r7]) ∧ Below w.heap.size w w' := by
  have hu23 := Tryd.underlying23
  have HB := Aside0.mk (Below.refl w.heap.size w)
  have H : ((masterdiscref16_Time.f a0).bind fun t188 => (if t188 = true then ((masterdiscref16_Zone.f a1).bind fun t189 => (if t189 = true then ((masterdiscref16_utc.f k (wrap64 (a0 + (wrap64 (60 * a1))))).bind fun bt190 => (some (bt190.1, bt190.2.1, bt190.2.2.1, bt190.2.2.2.1, bt190.2.2.2.2.1, bt190.2.2.2.2.2, 0))) else (some (0, 0, 0, 0, 0, 0, 2)))) else (some (0, 0, 0, 0, 0, 0, 2)))) = some (r1, r2, r3, r4, r5, r6, r7) := h
  clear h
  replace H := Option.bind_eq_some_iff.mp H
  obtain ⟨t188, A30, H⟩ := H
  replace H : (if t188 = true then ((masterdiscref16_Zone.f a1).bind fun t189 => (if t189 = true then ((masterdiscref16_utc.f k (wrap64 (a0 + (wrap64 (60 * a1))))).bind fun bt190 => (some (bt190.1, bt190.2.1, bt190.2.2.1, bt190.2.2.2.1, bt190.2.2.2.2.1, bt190.2.2.2.2.2, 0))) else (some (0, 0, 0, 0, 0, 0, 2)))) else (some (0, 0, 0, 0, 0, 0, 2))) = some (r1, r2, r3, r4, r5, r6, r7) := H
  have A3 := Aside0.mk A30
  clear A30
  by_cases c4 : t188 = true
  · subst c4
    have H1 : ((masterdiscref16_Zone.f a1).bind fun t189 => (if t189 = true then ((masterdiscref16_utc.f k (wrap64 (a0 + (wrap64 (60 * a1))))).bind fun bt190 => (some (bt190.1, bt190.2.1, bt190.2.2.1, bt190.2.2.2.1, bt190.2.2.2.2.1, bt190.2.2.2.2.2, 0))) else (some (0, 0, 0, 0, 0, 0, 2)))) = some (r1, r2, r3, r4, r5, r6, r7) := by rw [if_pos rfl] at H; exact H
    clear H
    have H := H1
    clear H1
    replace H := Option.bind_eq_some_iff.mp H
    obtain ⟨t189, A50, H⟩ := H
    replace H : (if t189 = true then ((masterdiscref16_utc.f k (wrap64 (a0 + (wrap64 (60 * a1))))).bind fun bt190 => (some (bt190.1, bt190.2.1, bt190.2.2.1, bt190.2.2.2.1, bt190.2.2.2.2.1, bt190.2.2.2.2.2, 0))) else (some (0, 0, 0, 0, 0, 0, 2))) = some (r1, r2, r3, r4, r5, r6, r7) := H
    have A5 := Aside0.mk A50
    clear A50
    by_cases c6 : t189 = true
    · subst c6
      have H1 : ((masterdiscref16_utc.f k (wrap64 (a0 + (wrap64 (60 * a1))))).bind fun bt190 => (some (bt190.1, bt190.2.1, bt190.2.2.1, bt190.2.2.2.1, bt190.2.2.2.2.1, bt190.2.2.2.2.2, 0))) = some (r1, r2, r3, r4, r5, r6, r7) := by rw [if_pos rfl] at H; exact H
      clear H
      have H := H1
      clear H1
      replace H := Option.bind_eq_some_iff.mp H
      obtain ⟨⟨t190, t191, t192, t193, t194, t195⟩, A70, H⟩ := H
      replace H : (some (t190, t191, t192, t193, t194, t195, 0)) = some (r1, r2, r3, r4, r5, r6, r7) := H
      have A7 := Aside0.mk A70
      clear A70
      simp only [Option.some.injEq, Prod.mk.injEq] at H
      obtain ⟨rfl, rfl, rfl, rfl, rfl, rfl, rfl⟩ := H
      go_enter Tryd.func13, Tryd.ntmps13
      go_wp2_with (first | ((with_reducible refine gate_dst (N := 4) rfl ?_); refine box_event ?hg (N := 4) ?hd (cs := #[.int .i64 0, .int .i64 0, .int .i64 0, .int .i64 0, .int .i64 0, .int .i64 0]) (t := 23) ?hr ?_; (case hd => rfl); (case hg => rfl); (case hr => first | (go_simp; done) | (go_simp; rfl)); intro gb187 hg w8 hbox hb; have n0_ := Aside0.mk (below_step (by repeat (first | (with_reducible first | exact HB.out | apply below_alloc | apply pw_below_drewN | apply below_drew1) | exact HB.out)) hb); have n1_ := Aside0.mk (hbox); have n2_ := Aside0.mk ((by rw [hg]; exact (below_size (by repeat (first | (with_reducible first | exact HB.out | apply below_alloc | apply pw_below_drewN | apply below_drew1) | exact HB.out))) : w.heap.size ≤ gb187)); have n3_ := Aside0.mk ((by rw [hg]; exact (below_size (by repeat (first | (with_reducible first | exact HB.out | apply below_alloc | apply pw_below_drewN | apply below_drew1) | exact HB.out))) : w.heap.size ≤ gb187)); clear HB; have HB := n0_; have BK187 := n1_; have GW187 := n2_; have GE187 := n3_; clear n0_ n1_ n2_ n3_; clear hb hbox hg) | ((with_reducible refine gate_callee (f := 16) rfl ?_); refine goesL_ (some 7) rfl rfl Tryd.func16 (by kernel_rfl) rfl #[.int .i64 a0] rfl (by (try simp only [List.map_toArray, List.map_cons, List.map_nil]); first | done | rfl | (simp only [List.length_drop, List.length_take]; rfl)) ?_; (with_reducible refine (masterdiscref16_Time.calls a0 true _ A3.out).mono ?_); rintro e w' ⟨rfl, ⟨nd, rfl⟩⟩; refine ⟨_, rfl, ?_⟩; (try (rw [drewN_self w8]; generalize hq_ : World.drewN w8 _ = w8; have n0_ : Aside0 (w8.heap[gb187]? = some (.cells #[.int .i64 0, .int .i64 0, .int .i64 0, .int .i64 0, .int .i64 0, .int .i64 0] 23 (0, 0))) := ⟨by rw [← hq_]; exact (by (with_reducible repeat (first | refine blk_drewN ?_ _ | refine blk_drew ?_ | refine blk_alloc ?_ _)); exact BK187.out)⟩; have n1_ : Aside0 (Below w.heap.size w w8) := ⟨by rw [← hq_]; exact (by repeat (first | (with_reducible first | exact HB.out | apply below_alloc | apply pw_below_drewN | apply below_drew1 | refine below_set ?_ GE187.out) | exact HB.out))⟩; clear BK187 HB hq_; have BK187 := n0_; have HB := n1_; clear n0_ n1_))) | (go_at_call 17; (with_reducible refine (masterdiscref16_Zone.calls a1 true _ A5.out).mono ?_); rintro e w' ⟨rfl, ⟨nd, rfl⟩⟩; (try (rw [drewN_self w8]; generalize hq_ : World.drewN w8 _ = w8; have n0_ : Aside0 (w8.heap[gb187]? = some (.cells #[.int .i64 0, .int .i64 0, .int .i64 0, .int .i64 0, .int .i64 0, .int .i64 0] 23 (0, 0))) := ⟨by rw [← hq_]; exact (by (with_reducible repeat (first | refine blk_drewN ?_ _ | refine blk_drew ?_ | refine blk_alloc ?_ _)); exact BK187.out)⟩; have n1_ : Aside0 (Below w.heap.size w w8) := ⟨by rw [← hq_]; exact (by repeat (first | (with_reducible first | exact HB.out | apply below_alloc | apply pw_below_drewN | apply below_drew1 | refine below_set ?_ GE187.out) | exact HB.out))⟩; clear BK187 HB hq_; have BK187 := n0_; have HB := n1_; clear n0_ n1_))) | ((with_reducible refine gate_callee (f := 37) rfl ?_); refine goesL_ (some 19) rfl rfl Tryd.func37 (by kernel_rfl) rfl #[.int .i64 (wrap64 (a0 + (wrap64 (60 * a1))))] rfl (by (try simp only [List.map_toArray, List.map_cons, List.map_nil]); first | done | rfl | (simp only [List.length_drop, List.length_take]; rfl)) ?_; (with_reducible refine (masterdiscref16_utc.calls k (wrap64 (a0 + (wrap64 (60 * a1)))) t190 t191 t192 t193 t194 t195 _ A7.out).mono ?_); rintro e w9 ⟨rfl, hb⟩; refine ⟨_, rfl, ?_⟩; have n0_ := Aside0.mk (blk_below (g := gb187) (o := .cells #[.int .i64 0, .int .i64 0, .int .i64 0, .int .i64 0, .int .i64 0, .int .i64 0] 23 (0, 0)) (by (with_reducible repeat (first | refine blk_drewN ?_ _ | refine blk_drew ?_ | refine blk_alloc ?_ _)); exact BK187.out) hb); have n1_ := Aside0.mk (below_step (by repeat (first | (with_reducible first | exact HB.out | apply below_alloc | apply pw_below_drewN | apply below_drew1 | refine below_set ?_ GE187.out) | exact HB.out)) hb); clear BK187; clear HB; have BK187 := n0_; have HB := n1_; clear n0_ n1_; (try clear hb); (try clear hb2); (try clear hk); (try clear hi); have hcz10_0 : w9.cell? ⟨gb187, 0, none⟩ = some (.int .i64 0) := (blk_cell BK187.out 0).trans rfl; have hcz10_1 : w9.cell? ⟨gb187, 1, none⟩ = some (.int .i64 0) := (blk_cell BK187.out 1).trans rfl; have hcz10_2 : w9.cell? ⟨gb187, 2, none⟩ = some (.int .i64 0) := (blk_cell BK187.out 2).trans rfl; have hcz10_3 : w9.cell? ⟨gb187, 3, none⟩ = some (.int .i64 0) := (blk_cell BK187.out 3).trans rfl; have hcz10_4 : w9.cell? ⟨gb187, 4, none⟩ = some (.int .i64 0) := (blk_cell BK187.out 4).trans rfl; have hcz10_5 : w9.cell? ⟨gb187, 5, none⟩ = some (.int .i64 0) := (blk_cell BK187.out 5).trans rfl; have hfz10_0 := blk_frozen BK187.out 0; have hfz10_1 := blk_frozen BK187.out 1; have hfz10_2 := blk_frozen BK187.out 2; have hfz10_3 := blk_frozen BK187.out 3; have hfz10_4 := blk_frozen BK187.out 4; have hfz10_5 := blk_frozen BK187.out 5))
      refine bodyPost_ret (results_ct rfl _ _ gb187 23 #[.int .i64 t190, .int .i64 t191, .int .i64 t192, .int .i64 t193, .int .i64 t194, .int .i64 t195] (0, 0) _ rfl (by (with_reducible repeat (first | refine blk_drewN ?_ _ | refine blk_drew ?_ | refine blk_alloc ?_ _)); refine blk_put (cs := #[.int .i64 t190, .int .i64 t191, .int .i64 t192, .int .i64 t193, .int .i64 t194, .int .i64 0]) ?_ 5 _ rfl; (with_reducible repeat (first | refine blk_drewN ?_ _ | refine blk_drew ?_ | refine blk_alloc ?_ _)); refine blk_put (cs := #[.int .i64 t190, .int .i64 t191, .int .i64 t192, .int .i64 t193, .int .i64 0, .int .i64 0]) ?_ 4 _ rfl; (with_reducible repeat (first | refine blk_drewN ?_ _ | refine blk_drew ?_ | refine blk_alloc ?_ _)); refine blk_put (cs := #[.int .i64 t190, .int .i64 t191, .int .i64 t192, .int .i64 0, .int .i64 0, .int .i64 0]) ?_ 3 _ rfl; (with_reducible repeat (first | refine blk_drewN ?_ _ | refine blk_drew ?_ | refine blk_alloc ?_ _)); refine blk_put (cs := #[.int .i64 t190, .int .i64 t191, .int .i64 0, .int .i64 0, .int .i64 0, .int .i64 0]) ?_ 2 _ rfl; (with_reducible repeat (first | refine blk_drewN ?_ _ | refine blk_drew ?_ | refine blk_alloc ?_ _)); refine blk_put (cs := #[.int .i64 t190, .int .i64 0, .int .i64 0, .int .i64 0, .int .i64 0, .int .i64 0]) ?_ 1 _ rfl; (with_reducible repeat (first | refine blk_drewN ?_ _ | refine blk_drew ?_ | refine blk_alloc ?_ _)); refine blk_put (cs := #[.int .i64 0, .int .i64 0, .int .i64 0, .int .i64 0, .int .i64 0, .int .i64 0]) ?_ 0 _ rfl; (with_reducible repeat (first | refine blk_drewN ?_ _ | refine blk_drew ?_ | refine blk_alloc ?_ _)); exact BK187.out) Tryd.underlying23 rfl (by kernel_rfl)) rfl ?_
      exact ⟨by first | rfl | (simp [errW_none, errW_some] <;> rfl) | (simp [*, errW_none, errW_some] <;> rfl), by repeat (first | (with_reducible first | exact HB.out | apply below_alloc | apply pw_below_drewN | apply below_drew1 | refine below_set ?_ GE187.out) | exact HB.out)⟩
    · replace c6 := Bool.eq_false_iff.mpr c6
      subst c6
      have H1 : (some (0, 0, 0, 0, 0, 0, 2)) = some (r1, r2, r3, r4, r5, r6, r7) := by rw [if_neg (show ¬ (false = true) by decide)] at H; exact H
      clear H
      have H := H1
      clear H1
      simp only [Option.some.injEq, Prod.mk.injEq] at H
      obtain ⟨rfl, rfl, rfl, rfl, rfl, rfl, rfl⟩ := H
      go_enter Tryd.func13, Tryd.ntmps13
      go_wp2_with (first | ((with_reducible refine gate_dst (N := 4) rfl ?_); refine box_event ?hg (N := 4) ?hd (cs := #[.int .i64 0, .int .i64 0, .int .i64 0, .int .i64 0, .int .i64 0, .int .i64 0]) (t := 23) ?hr ?_; (case hd => rfl); (case hg => rfl); (case hr => first | (go_simp; done) | (go_simp; rfl)); intro gb187 hg w11 hbox hb; have n0_ := Aside0.mk (below_step (by repeat (first | (with_reducible first | exact HB.out | apply below_alloc | apply pw_below_drewN | apply below_drew1) | exact HB.out)) hb); have n1_ := Aside0.mk (hbox); have n2_ := Aside0.mk ((by rw [hg]; exact (below_size (by repeat (first | (with_reducible first | exact HB.out | apply below_alloc | apply pw_below_drewN | apply below_drew1) | exact HB.out))) : w.heap.size ≤ gb187)); have n3_ := Aside0.mk ((by rw [hg]; exact (below_size (by repeat (first | (with_reducible first | exact HB.out | apply below_alloc | apply pw_below_drewN | apply below_drew1) | exact HB.out))) : w.heap.size ≤ gb187)); clear HB; have HB := n0_; have BK187 := n1_; have GW187 := n2_; have GE187 := n3_; clear n0_ n1_ n2_ n3_; clear hb hbox hg) | ((with_reducible refine gate_callee (f := 16) rfl ?_); refine goesL_ (some 7) rfl rfl Tryd.func16 (by kernel_rfl) rfl #[.int .i64 a0] rfl (by (try simp only [List.map_toArray, List.map_cons, List.map_nil]); first | done | rfl | (simp only [List.length_drop, List.length_take]; rfl)) ?_; (with_reducible refine (masterdiscref16_Time.calls a0 true _ A3.out).mono ?_); rintro e w' ⟨rfl, ⟨nd, rfl⟩⟩; refine ⟨_, rfl, ?_⟩; (try (rw [drewN_self w11]; generalize hq_ : World.drewN w11 _ = w11; have n0_ : Aside0 (w11.heap[gb187]? = some (.cells #[.int .i64 0, .int .i64 0, .int .i64 0, .int .i64 0, .int .i64 0, .int .i64 0] 23 (0, 0))) := ⟨by rw [← hq_]; exact (by (with_reducible repeat (first | refine blk_drewN ?_ _ | refine blk_drew ?_ | refine blk_alloc ?_ _)); exact BK187.out)⟩; have n1_ : Aside0 (Below w.heap.size w w11) := ⟨by rw [← hq_]; exact (by repeat (first | (with_reducible first | exact HB.out | apply below_alloc | apply pw_below_drewN | apply below_drew1 | refine below_set ?_ GE187.out) | exact HB.out))⟩; clear BK187 HB hq_; have BK187 := n0_; have HB := n1_; clear n0_ n1_))) | (go_at_call 17; (with_reducible refine (masterdiscref16_Zone.calls a1 false _ A5.out).mono ?_); rintro e w' ⟨rfl, ⟨nd, rfl⟩⟩; (try (rw [drewN_self w11]; generalize hq_ : World.drewN w11 _ = w11; have n0_ : Aside0 (w11.heap[gb187]? = some (.cells #[.int .i64 0, .int .i64 0, .int .i64 0, .int .i64 0, .int .i64 0, .int .i64 0] 23 (0, 0))) := ⟨by rw [← hq_]; exact (by (with_reducible repeat (first | refine blk_drewN ?_ _ | refine blk_drew ?_ | refine blk_alloc ?_ _)); exact BK187.out)⟩; have n1_ : Aside0 (Below w.heap.size w w11) := ⟨by rw [← hq_]; exact (by repeat (first | (with_reducible first | exact HB.out | apply below_alloc | apply pw_below_drewN | apply below_drew1 | refine below_set ?_ GE187.out) | exact HB.out))⟩; clear BK187 HB hq_; have BK187 := n0_; have HB := n1_; clear n0_ n1_)); have hcz12_0 : w11.cell? ⟨gb187, 0, none⟩ = some (.int .i64 0) := (blk_cell BK187.out 0).trans rfl; have hcz12_1 : w11.cell? ⟨gb187, 1, none⟩ = some (.int .i64 0) := (blk_cell BK187.out 1).trans rfl; have hcz12_2 : w11.cell? ⟨gb187, 2, none⟩ = some (.int .i64 0) := (blk_cell BK187.out 2).trans rfl; have hcz12_3 : w11.cell? ⟨gb187, 3, none⟩ = some (.int .i64 0) := (blk_cell BK187.out 3).trans rfl; have hcz12_4 : w11.cell? ⟨gb187, 4, none⟩ = some (.int .i64 0) := (blk_cell BK187.out 4).trans rfl; have hcz12_5 : w11.cell? ⟨gb187, 5, none⟩ = some (.int .i64 0) := (blk_cell BK187.out 5).trans rfl; have hfz12_0 := blk_frozen BK187.out 0; have hfz12_1 := blk_frozen BK187.out 1; have hfz12_2 := blk_frozen BK187.out 2; have hfz12_3 := blk_frozen BK187.out 3; have hfz12_4 := blk_frozen BK187.out 4; have hfz12_5 := blk_frozen BK187.out 5))
      refine bodyPost_ret (results_ct rfl _ _ gb187 23 #[.int .i64 0, .int .i64 0, .int .i64 0, .int .i64 0, .int .i64 0, .int .i64 0] (0, 0) _ rfl (by (with_reducible repeat (first | refine blk_drewN ?_ _ | refine blk_drew ?_ | refine blk_alloc ?_ _)); refine blk_put (cs := #[.int .i64 0, .int .i64 0, .int .i64 0, .int .i64 0, .int .i64 0, .int .i64 0]) ?_ 5 _ rfl; (with_reducible repeat (first | refine blk_drewN ?_ _ | refine blk_drew ?_ | refine blk_alloc ?_ _)); refine blk_put (cs := #[.int .i64 0, .int .i64 0, .int .i64 0, .int .i64 0, .int .i64 0, .int .i64 0]) ?_ 4 _ rfl; (with_reducible repeat (first | refine blk_drewN ?_ _ | refine blk_drew ?_ | refine blk_alloc ?_ _)); refine blk_put (cs := #[.int .i64 0, .int .i64 0, .int .i64 0, .int .i64 0, .int .i64 0, .int .i64 0]) ?_ 3 _ rfl; (with_reducible repeat (first | refine blk_drewN ?_ _ | refine blk_drew ?_ | refine blk_alloc ?_ _)); refine blk_put (cs := #[.int .i64 0, .int .i64 0, .int .i64 0, .int .i64 0, .int .i64 0, .int .i64 0]) ?_ 2 _ rfl; (with_reducible repeat (first | refine blk_drewN ?_ _ | refine blk_drew ?_ | refine blk_alloc ?_ _)); refine blk_put (cs := #[.int .i64 0, .int .i64 0, .int .i64 0, .int .i64 0, .int .i64 0, .int .i64 0]) ?_ 1 _ rfl; (with_reducible repeat (first | refine blk_drewN ?_ _ | refine blk_drew ?_ | refine blk_alloc ?_ _)); refine blk_put (cs := #[.int .i64 0, .int .i64 0, .int .i64 0, .int .i64 0, .int .i64 0, .int .i64 0]) ?_ 0 _ rfl; (with_reducible repeat (first | refine blk_drewN ?_ _ | refine blk_drew ?_ | refine blk_alloc ?_ _)); exact BK187.out) Tryd.underlying23 rfl (by kernel_rfl)) rfl ?_
      exact ⟨by first | rfl | (simp [errW_none, errW_some] <;> rfl) | (simp [*, errW_none, errW_some] <;> rfl), by repeat (first | (with_reducible first | exact HB.out | apply below_alloc | apply pw_below_drewN | apply below_drew1 | refine below_set ?_ GE187.out) | exact HB.out)⟩
  · replace c4 := Bool.eq_false_iff.mpr c4
    subst c4
    have H1 : (some (0, 0, 0, 0, 0, 0, 2)) = some (r1, r2, r3, r4, r5, r6, r7) := by rw [if_neg (show ¬ (false = true) by decide)] at H; exact H
    clear H
    have H := H1
    clear H1
    simp only [Option.some.injEq, Prod.mk.injEq] at H
    obtain ⟨rfl, rfl, rfl, rfl, rfl, rfl, rfl⟩ := H
    go_enter Tryd.func13, Tryd.ntmps13
    go_wp2_with (first | ((with_reducible refine gate_dst (N := 4) rfl ?_); refine box_event ?hg (N := 4) ?hd (cs := #[.int .i64 0, .int .i64 0, .int .i64 0, .int .i64 0, .int .i64 0, .int .i64 0]) (t := 23) ?hr ?_; (case hd => rfl); (case hg => rfl); (case hr => first | (go_simp; done) | (go_simp; rfl)); intro gb187 hg w13 hbox hb; have n0_ := Aside0.mk (below_step (by repeat (first | (with_reducible first | exact HB.out | apply below_alloc | apply pw_below_drewN | apply below_drew1) | exact HB.out)) hb); have n1_ := Aside0.mk (hbox); have n2_ := Aside0.mk ((by rw [hg]; exact (below_size (by repeat (first | (with_reducible first | exact HB.out | apply below_alloc | apply pw_below_drewN | apply below_drew1) | exact HB.out))) : w.heap.size ≤ gb187)); have n3_ := Aside0.mk ((by rw [hg]; exact (below_size (by repeat (first | (with_reducible first | exact HB.out | apply below_alloc | apply pw_below_drewN | apply below_drew1) | exact HB.out))) : w.heap.size ≤ gb187)); clear HB; have HB := n0_; have BK187 := n1_; have GW187 := n2_; have GE187 := n3_; clear n0_ n1_ n2_ n3_; clear hb hbox hg) | ((with_reducible refine gate_callee (f := 16) rfl ?_); refine goesL_ (some 7) rfl rfl Tryd.func16 (by kernel_rfl) rfl #[.int .i64 a0] rfl (by (try simp only [List.map_toArray, List.map_cons, List.map_nil]); first | done | rfl | (simp only [List.length_drop, List.length_take]; rfl)) ?_; (with_reducible refine (masterdiscref16_Time.calls a0 false _ A3.out).mono ?_); rintro e w' ⟨rfl, ⟨nd, rfl⟩⟩; refine ⟨_, rfl, ?_⟩; (try (rw [drewN_self w13]; generalize hq_ : World.drewN w13 _ = w13; have n0_ : Aside0 (w13.heap[gb187]? = some (.cells #[.int .i64 0, .int .i64 0, .int .i64 0, .int .i64 0, .int .i64 0, .int .i64 0] 23 (0, 0))) := ⟨by rw [← hq_]; exact (by (with_reducible repeat (first | refine blk_drewN ?_ _ | refine blk_drew ?_ | refine blk_alloc ?_ _)); exact BK187.out)⟩; have n1_ : Aside0 (Below w.heap.size w w13) := ⟨by rw [← hq_]; exact (by repeat (first | (with_reducible first | exact HB.out | apply below_alloc | apply pw_below_drewN | apply below_drew1 | refine below_set ?_ GE187.out) | exact HB.out))⟩; clear BK187 HB hq_; have BK187 := n0_; have HB := n1_; clear n0_ n1_)); have hcz14_0 : w13.cell? ⟨gb187, 0, none⟩ = some (.int .i64 0) := (blk_cell BK187.out 0).trans rfl; have hcz14_1 : w13.cell? ⟨gb187, 1, none⟩ = some (.int .i64 0) := (blk_cell BK187.out 1).trans rfl; have hcz14_2 : w13.cell? ⟨gb187, 2, none⟩ = some (.int .i64 0) := (blk_cell BK187.out 2).trans rfl; have hcz14_3 : w13.cell? ⟨gb187, 3, none⟩ = some (.int .i64 0) := (blk_cell BK187.out 3).trans rfl; have hcz14_4 : w13.cell? ⟨gb187, 4, none⟩ = some (.int .i64 0) := (blk_cell BK187.out 4).trans rfl; have hcz14_5 : w13.cell? ⟨gb187, 5, none⟩ = some (.int .i64 0) := (blk_cell BK187.out 5).trans rfl; have hfz14_0 := blk_frozen BK187.out 0; have hfz14_1 := blk_frozen BK187.out 1; have hfz14_2 := blk_frozen BK187.out 2; have hfz14_3 := blk_frozen BK187.out 3; have hfz14_4 := blk_frozen BK187.out 4; have hfz14_5 := blk_frozen BK187.out 5))
    refine bodyPost_ret (results_ct rfl _ _ gb187 23 #[.int .i64 0, .int .i64 0, .int .i64 0, .int .i64 0, .int .i64 0, .int .i64 0] (0, 0) _ rfl (by (with_reducible repeat (first | refine blk_drewN ?_ _ | refine blk_drew ?_ | refine blk_alloc ?_ _)); refine blk_put (cs := #[.int .i64 0, .int .i64 0, .int .i64 0, .int .i64 0, .int .i64 0, .int .i64 0]) ?_ 5 _ rfl; (with_reducible repeat (first | refine blk_drewN ?_ _ | refine blk_drew ?_ | refine blk_alloc ?_ _)); refine blk_put (cs := #[.int .i64 0, .int .i64 0, .int .i64 0, .int .i64 0, .int .i64 0, .int .i64 0]) ?_ 4 _ rfl; (with_reducible repeat (first | refine blk_drewN ?_ _ | refine blk_drew ?_ | refine blk_alloc ?_ _)); refine blk_put (cs := #[.int .i64 0, .int .i64 0, .int .i64 0, .int .i64 0, .int .i64 0, .int .i64 0]) ?_ 3 _ rfl; (with_reducible repeat (first | refine blk_drewN ?_ _ | refine blk_drew ?_ | refine blk_alloc ?_ _)); refine blk_put (cs := #[.int .i64 0, .int .i64 0, .int .i64 0, .int .i64 0, .int .i64 0, .int .i64 0]) ?_ 2 _ rfl; (with_reducible repeat (first | refine blk_drewN ?_ _ | refine blk_drew ?_ | refine blk_alloc ?_ _)); refine blk_put (cs := #[.int .i64 0, .int .i64 0, .int .i64 0, .int .i64 0, .int .i64 0, .int .i64 0]) ?_ 1 _ rfl; (with_reducible repeat (first | refine blk_drewN ?_ _ | refine blk_drew ?_ | refine blk_alloc ?_ _)); refine blk_put (cs := #[.int .i64 0, .int .i64 0, .int .i64 0, .int .i64 0, .int .i64 0, .int .i64 0]) ?_ 0 _ rfl; (with_reducible repeat (first | refine blk_drewN ?_ _ | refine blk_drew ?_ | refine blk_alloc ?_ _)); exact BK187.out) Tryd.underlying23 rfl (by kernel_rfl)) rfl ?_
    exact ⟨by first | rfl | (simp [errW_none, errW_some] <;> rfl) | (simp [*, errW_none, errW_some] <;> rfl), by repeat (first | (with_reducible first | exact HB.out | apply below_alloc | apply pw_below_drewN | apply below_drew1 | refine below_set ?_ GE187.out) | exact HB.out)⟩

-- function 40 (masterdiscref16_Valid): walked by hand

/-! ### masterdiscref16_seconds: function 41 -/
mutual
def masterdiscref16_seconds.l0 : Nat → Int → Int → Int → Int → Int → Int → Int → Int → Option (Int)
  | 0, _, _, _, _, _, _, _, _ => none
  | k + 1, x3, x4, x197000, x197001, x197002, x197003, x197004, x197005 => if x4 < x197000 then ((masterdiscref16_year.f x4).bind fun t197 => (masterdiscref16_seconds.l0 k (wrap64 (x3 + t197)) (wrap64 (x4 + 1)) x197000 x197001 x197002 x197003 x197004 x197005)) else (masterdiscref16_seconds.l1 k x3 x197000 x197000 x197001 x197002 x197003 x197004 x197005)
def masterdiscref16_seconds.l1 : Nat → Int → Int → Int → Int → Int → Int → Int → Int → Option (Int)
  | 0, _, _, _, _, _, _, _, _ => none
  | k + 1, x3, x5, x197000, x197001, x197002, x197003, x197004, x197005 => if x5 < 1970 then ((masterdiscref16_year.f x5).bind fun t198 => (masterdiscref16_seconds.l1 k (wrap64 (x3 - t198)) (wrap64 (x5 + 1)) x197000 x197001 x197002 x197003 x197004 x197005)) else (masterdiscref16_seconds.l2 k x3 1 x197000 x197001 x197002 x197003 x197004 x197005)
def masterdiscref16_seconds.l2 : Nat → Int → Int → Int → Int → Int → Int → Int → Int → Option (Int)
  | 0, _, _, _, _, _, _, _, _ => none
  | k + 1, x3, x6, x197000, x197001, x197002, x197003, x197004, x197005 => if x6 < x197001 then ((masterdiscref16_days.f x197000 x6).bind fun t199 => (masterdiscref16_seconds.l2 k (wrap64 (x3 + t199)) (wrap64 (x6 + 1)) x197000 x197001 x197002 x197003 x197004 x197005)) else (some (wrap64 ((wrap64 ((wrap64 ((wrap64 ((wrap64 ((wrap64 (x3 + x197002)) - 1)) * 86400)) + (wrap64 (x197003 * 3600)))) + (wrap64 (x197004 * 60)))) + x197005)))
end
def masterdiscref16_seconds.f (k : Nat) (a0_0 : Int) (a0_1 : Int) (a0_2 : Int) (a0_3 : Int) (a0_4 : Int) (a0_5 : Int) : Option (Int) := masterdiscref16_seconds.l0 k 0 1970 a0_0 a0_1 a0_2 a0_3 a0_4 a0_5
theorem masterdiscref16_seconds.mono_l : ∀ k, (∀ y0 y1 y2 y3 y4 y5 y6 y7, LeO (masterdiscref16_seconds.l0 k y0 y1 y2 y3 y4 y5 y6 y7) (masterdiscref16_seconds.l0 (k + 1) y0 y1 y2 y3 y4 y5 y6 y7)) ∧ (∀ y0 y1 y2 y3 y4 y5 y6 y7, LeO (masterdiscref16_seconds.l1 k y0 y1 y2 y3 y4 y5 y6 y7) (masterdiscref16_seconds.l1 (k + 1) y0 y1 y2 y3 y4 y5 y6 y7)) ∧ (∀ y0 y1 y2 y3 y4 y5 y6 y7, LeO (masterdiscref16_seconds.l2 k y0 y1 y2 y3 y4 y5 y6 y7) (masterdiscref16_seconds.l2 (k + 1) y0 y1 y2 y3 y4 y5 y6 y7))
  | 0 => ⟨fun _ _ _ _ _ _ _ _ r h => by simp [masterdiscref16_seconds.l0] at h, fun _ _ _ _ _ _ _ _ r h => by simp [masterdiscref16_seconds.l1] at h, fun _ _ _ _ _ _ _ _ r h => by simp [masterdiscref16_seconds.l2] at h⟩
  | k + 1 => by
    obtain ⟨ih0, ih1, ih2⟩ := masterdiscref16_seconds.mono_l k
    refine ⟨?_, ?_, ?_⟩
    · intro y0 y1 y2 y3 y4 y5 y6 y7
      unfold masterdiscref16_seconds.l0
      repeat' first
      | (with_reducible exact ih0 _ _ _ _ _ _ _ _)
      | (with_reducible exact ih1 _ _ _ _ _ _ _ _)
      | (with_reducible exact ih2 _ _ _ _ _ _ _ _)
      | (with_reducible exact LeO.refl _)
      | (with_reducible exact LeO.none _)
      | (with_reducible refine LeO.ite ?_ ?_)
      | (with_reducible refine LeO.bind ?_ (fun _ => ?_))
      | exact ih0 _ _ _ _ _ _ _ _
      | exact ih1 _ _ _ _ _ _ _ _
      | exact ih2 _ _ _ _ _ _ _ _
      | exact LeO.none _
      | refine LeO.ite ?_ ?_
      | refine LeO.bind ?_ (fun _ => ?_)
    · intro y0 y1 y2 y3 y4 y5 y6 y7
      unfold masterdiscref16_seconds.l1
      repeat' first
      | (with_reducible exact ih0 _ _ _ _ _ _ _ _)
      | (with_reducible exact ih1 _ _ _ _ _ _ _ _)
      | (with_reducible exact ih2 _ _ _ _ _ _ _ _)
      | (with_reducible exact LeO.refl _)
      | (with_reducible exact LeO.none _)
      | (with_reducible refine LeO.ite ?_ ?_)
      | (with_reducible refine LeO.bind ?_ (fun _ => ?_))
      | exact ih0 _ _ _ _ _ _ _ _
      | exact ih1 _ _ _ _ _ _ _ _
      | exact ih2 _ _ _ _ _ _ _ _
      | exact LeO.none _
      | refine LeO.ite ?_ ?_
      | refine LeO.bind ?_ (fun _ => ?_)
    · intro y0 y1 y2 y3 y4 y5 y6 y7
      unfold masterdiscref16_seconds.l2
      repeat' first
      | (with_reducible exact ih0 _ _ _ _ _ _ _ _)
      | (with_reducible exact ih1 _ _ _ _ _ _ _ _)
      | (with_reducible exact ih2 _ _ _ _ _ _ _ _)
      | (with_reducible exact LeO.refl _)
      | (with_reducible exact LeO.none _)
      | (with_reducible refine LeO.ite ?_ ?_)
      | (with_reducible refine LeO.bind ?_ (fun _ => ?_))
      | exact ih0 _ _ _ _ _ _ _ _
      | exact ih1 _ _ _ _ _ _ _ _
      | exact ih2 _ _ _ _ _ _ _ _
      | exact LeO.none _
      | refine LeO.ite ?_ ?_
      | refine LeO.bind ?_ (fun _ => ?_)
theorem masterdiscref16_seconds.mono : ∀ a0 a1 a2 a3 a4 a5 k, LeO (masterdiscref16_seconds.f k a0 a1 a2 a3 a4 a5) (masterdiscref16_seconds.f (k + 1) a0 a1 a2 a3 a4 a5) := by
  intro a0 a1 a2 a3 a4 a5 k
  obtain ⟨ih0, ih1, ih2⟩ := masterdiscref16_seconds.mono_l k
  unfold masterdiscref16_seconds.f
  repeat' first
      | (with_reducible exact ih0 _ _ _ _ _ _ _ _)
      | (with_reducible exact ih1 _ _ _ _ _ _ _ _)
      | (with_reducible exact ih2 _ _ _ _ _ _ _ _)
      | (with_reducible exact LeO.refl _)
      | (with_reducible exact LeO.none _)
      | (with_reducible refine LeO.ite ?_ ?_)
      | (with_reducible refine LeO.bind ?_ (fun _ => ?_))
      | exact ih0 _ _ _ _ _ _ _ _
      | exact ih1 _ _ _ _ _ _ _ _
      | exact ih2 _ _ _ _ _ _ _ _
      | exact LeO.none _
      | refine LeO.ite ?_ ?_
      | refine LeO.bind ?_ (fun _ => ?_)
set_option maxHeartbeats 8000000 in
set_option maxRecDepth 100000 in
theorem masterdiscref16_seconds.calls (k : Nat) (a0_0 : Int) (a0_1 : Int) (a0_2 : Int) (a0_3 : Int) (a0_4 : Int) (a0_5 : Int) (r : Int) (w : World) (h : masterdiscref16_seconds.f k a0_0 a0_1 a0_2 a0_3 a0_4 a0_5 = some r) :
    Calls Tryd.prog 41 #[.agg #[.int .i64 a0_0, .int .i64 a0_1, .int .i64 a0_2, .int .i64 a0_3, .int .i64 a0_4, .int .i64 a0_5]] w fun e w' => e = .returned (.int .i64 r) ∧ Below w.heap.size w w' := by
  have hu23 := Tryd.underlying23
  have HB := Aside0.mk (Below.refl w.heap.size w)
  have H : (masterdiscref16_seconds.l0 k 0 1970 a0_0 a0_1 a0_2 a0_3 a0_4 a0_5) = some r := h
  clear h
  have H' := Aside0.mk H
  clear H
  go_enter Tryd.func41, Tryd.ntmps41
  go_wp2_with (first | ((with_reducible refine gate_dst (N := 1) rfl ?_); refine box_event ?hg (N := 1) ?hd (cs := #[.int .i64 a0_0, .int .i64 a0_1, .int .i64 a0_2, .int .i64 a0_3, .int .i64 a0_4, .int .i64 a0_5]) (t := 23) ?hr ?_; (case hd => rfl); (case hg => rfl); (case hr => first | (go_simp; done) | (go_simp; rfl)); intro gb196 hg w2 hbox hb; have n0_ := Aside0.mk (below_step (by repeat (first | (with_reducible first | exact HB.out | apply below_alloc | apply pw_below_drewN | apply below_drew1) | exact HB.out)) hb); have n1_ := Aside0.mk (hbox); have n2_ := Aside0.mk ((by rw [hg]; exact (below_size (by repeat (first | (with_reducible first | exact HB.out | apply below_alloc | apply pw_below_drewN | apply below_drew1) | exact HB.out))) : w.heap.size ≤ gb196)); have n3_ := Aside0.mk ((by rw [hg]; exact (below_size (by repeat (first | (with_reducible first | exact HB.out | apply below_alloc | apply pw_below_drewN | apply below_drew1) | exact HB.out))) : w.heap.size ≤ gb196)); clear HB; have HB := n0_; have BK196 := n1_; have GW196 := n2_; have GE196 := n3_; clear n0_ n1_ n2_ n3_; clear hb hbox hg))
  go_loopg [3, 4] k (fun kq v3 v4 w' => ∃ (x3_1 : Int) (x4_1 : Int), v3 = .int .i64 x3_1 ∧ v4 = .int .i64 x4_1 ∧ Aside0 (masterdiscref16_seconds.l0 kq x3_1 x4_1 a0_0 a0_1 a0_2 a0_3 a0_4 a0_5 = some r) ∧ Aside0 (kq ≤ k) ∧ Aside0 (w'.heap[gb196]? = some (.cells #[.int .i64 a0_0, .int .i64 a0_1, .int .i64 a0_2, .int .i64 a0_3, .int .i64 a0_4, .int .i64 a0_5] 23 (0, 0))) ∧ Aside0 (Below w.heap.size w w'))
  case atStart => exact ⟨(0), (1970), (by first | rfl | (simp; done) | (simp [*]; done)), (by first | rfl | (simp; done) | (simp [*]; done)), H', ⟨Nat.le_refl _⟩, ⟨by (with_reducible repeat (first | refine blk_drewN ?_ _ | refine blk_drew ?_ | refine blk_alloc ?_ _)); exact BK196.out⟩, ⟨by repeat (first | (with_reducible first | exact HB.out | apply below_alloc | apply pw_below_drewN | apply below_drew1 | refine below_set ?_ GE196.out) | exact HB.out)⟩⟩
  case round =>
    clear H'
    try clear p2
    obtain ⟨x3_1, x4_1, rfl, rfl, HA, HK1, BK196, HB⟩ := hrel
    cases gk with
    | zero => exact absurd HA.out (by simp [masterdiscref16_seconds.l0])
    | succ k1 =>
      have H := HA.out
      clear HA
      simp only [masterdiscref16_seconds.l0] at H
      by_cases c3 : x4_1 < a0_0
      · rw [if_pos c3] at H
        have c3b0 : decide (x4_1 < a0_0) = true := decide_eq_true c3
        clear c3
        replace H := Option.bind_eq_some_iff.mp H
        obtain ⟨t197, A40, H⟩ := H
        replace H : (masterdiscref16_seconds.l0 k1 (wrap64 (x3_1 + t197)) (wrap64 (x4_1 + 1)) a0_0 a0_1 a0_2 a0_3 a0_4 a0_5) = some r := H
        have A4 := Aside0.mk A40
        clear A40
        have H' := Aside0.mk H
        clear H
        have hcz5_0 : wr.cell? ⟨gb196, 0, none⟩ = some (.int .i64 a0_0) := (blk_cell BK196.out 0).trans rfl
        have hcz5_1 : wr.cell? ⟨gb196, 1, none⟩ = some (.int .i64 a0_1) := (blk_cell BK196.out 1).trans rfl
        have hcz5_2 : wr.cell? ⟨gb196, 2, none⟩ = some (.int .i64 a0_2) := (blk_cell BK196.out 2).trans rfl
        have hcz5_3 : wr.cell? ⟨gb196, 3, none⟩ = some (.int .i64 a0_3) := (blk_cell BK196.out 3).trans rfl
        have hcz5_4 : wr.cell? ⟨gb196, 4, none⟩ = some (.int .i64 a0_4) := (blk_cell BK196.out 4).trans rfl
        have hcz5_5 : wr.cell? ⟨gb196, 5, none⟩ = some (.int .i64 a0_5) := (blk_cell BK196.out 5).trans rfl
        have hfz5_0 := blk_frozen BK196.out 0
        have hfz5_1 := blk_frozen BK196.out 1
        have hfz5_2 := blk_frozen BK196.out 2
        have hfz5_3 := blk_frozen BK196.out 3
        have hfz5_4 := blk_frozen BK196.out 4
        have hfz5_5 := blk_frozen BK196.out 5
        go_wp2_with (first | ((with_reducible refine gate_callee (f := 55) rfl ?_); refine goesL_ (some 15) rfl rfl Tryd.func55 (by kernel_rfl) rfl #[.int .i64 x4_1] rfl (by (try simp only [List.map_toArray, List.map_cons, List.map_nil]); first | done | rfl | (simp only [List.length_drop, List.length_take]; rfl)) ?_; (with_reducible refine (masterdiscref16_year.calls x4_1 t197 _ A4.out).mono ?_); rintro e w6 ⟨rfl, hb⟩; refine ⟨_, rfl, ?_⟩; have n0_ := Aside0.mk (blk_below (g := gb196) (o := .cells #[.int .i64 a0_0, .int .i64 a0_1, .int .i64 a0_2, .int .i64 a0_3, .int .i64 a0_4, .int .i64 a0_5] 23 (0, 0)) (by (with_reducible repeat (first | refine blk_drewN ?_ _ | refine blk_drew ?_ | refine blk_alloc ?_ _)); exact BK196.out) hb); have n1_ := Aside0.mk (below_step (by repeat (first | (with_reducible first | exact HB.out | apply below_alloc | apply pw_below_drewN | apply below_drew1 | refine below_set ?_ GE196.out) | exact HB.out)) hb); clear BK196; clear HB; have BK196 := n0_; have HB := n1_; clear n0_ n1_; (try clear hb); (try clear hb2); (try clear hk); (try clear hi)))
        go_roundg k1
        case measure => have := HK1.out; omega
        case rel => exact ⟨(wrap64 (x3_1 + t197)), (wrap64 (x4_1 + 1)), (by first | rfl | (simp; done) | (simp [*]; done)), (by first | rfl | (simp; done) | (simp [*]; done)), H', ⟨by have := HK1.out; omega⟩, ⟨by (with_reducible repeat (first | refine blk_drewN ?_ _ | refine blk_drew ?_ | refine blk_alloc ?_ _)); exact BK196.out⟩, ⟨by repeat (first | (with_reducible first | exact HB.out | apply below_alloc | apply pw_below_drewN | apply below_drew1 | refine below_set ?_ GE196.out) | exact HB.out)⟩⟩
      · rw [if_neg c3] at H
        have c3b0 : decide (x4_1 < a0_0) = false := decide_eq_false c3
        clear c3
        have H' := Aside0.mk H
        clear H
        have hcz7_0 : wr.cell? ⟨gb196, 0, none⟩ = some (.int .i64 a0_0) := (blk_cell BK196.out 0).trans rfl
        have hcz7_1 : wr.cell? ⟨gb196, 1, none⟩ = some (.int .i64 a0_1) := (blk_cell BK196.out 1).trans rfl
        have hcz7_2 : wr.cell? ⟨gb196, 2, none⟩ = some (.int .i64 a0_2) := (blk_cell BK196.out 2).trans rfl
        have hcz7_3 : wr.cell? ⟨gb196, 3, none⟩ = some (.int .i64 a0_3) := (blk_cell BK196.out 3).trans rfl
        have hcz7_4 : wr.cell? ⟨gb196, 4, none⟩ = some (.int .i64 a0_4) := (blk_cell BK196.out 4).trans rfl
        have hcz7_5 : wr.cell? ⟨gb196, 5, none⟩ = some (.int .i64 a0_5) := (blk_cell BK196.out 5).trans rfl
        have hfz7_0 := blk_frozen BK196.out 0
        have hfz7_1 := blk_frozen BK196.out 1
        have hfz7_2 := blk_frozen BK196.out 2
        have hfz7_3 := blk_frozen BK196.out 3
        have hfz7_4 := blk_frozen BK196.out 4
        have hfz7_5 := blk_frozen BK196.out 5
        go_wp2
        go_loopg [3, 5] k1 (fun kq v3 v5 w' => ∃ (x3_2 : Int) (x5_2 : Int), v3 = .int .i64 x3_2 ∧ v5 = .int .i64 x5_2 ∧ Aside0 (masterdiscref16_seconds.l1 kq x3_2 x5_2 a0_0 a0_1 a0_2 a0_3 a0_4 a0_5 = some r) ∧ Aside0 (kq ≤ k1) ∧ Aside0 (w'.heap[gb196]? = some (.cells #[.int .i64 a0_0, .int .i64 a0_1, .int .i64 a0_2, .int .i64 a0_3, .int .i64 a0_4, .int .i64 a0_5] 23 (0, 0))) ∧ Aside0 (Below w.heap.size w w'))
        case atStart => exact ⟨(x3_1), (a0_0), (by first | rfl | (simp; done) | (simp [*]; done)), (by first | rfl | (simp; done) | (simp [*]; done)), H', ⟨Nat.le_refl _⟩, ⟨by (with_reducible repeat (first | refine blk_drewN ?_ _ | refine blk_drew ?_ | refine blk_alloc ?_ _)); exact BK196.out⟩, ⟨by repeat (first | (with_reducible first | exact HB.out | apply below_alloc | apply pw_below_drewN | apply below_drew1 | refine below_set ?_ GE196.out) | exact HB.out)⟩⟩
        case round =>
          clear H'
          try clear p2
          try clear c3
          try clear c3b0
          try clear c4
          try clear c5
          try clear p6
          try clear hcz5_0
          try clear hcz5_1
          try clear hcz5_2
          try clear hcz5_3
          try clear hcz5_4
          try clear hcz5_5
          try clear hcz7_0
          try clear hcz7_1
          try clear hcz7_2
          try clear hcz7_3
          try clear hcz7_4
          try clear hcz7_5
          try clear hfz5_0
          try clear hfz5_1
          try clear hfz5_2
          try clear hfz5_3
          try clear hfz5_4
          try clear hfz5_5
          try clear hfz7_0
          try clear hfz7_1
          try clear hfz7_2
          try clear hfz7_3
          try clear hfz7_4
          try clear hfz7_5
          try clear p2
          obtain ⟨x3_2, x5_2, rfl, rfl, HA, HK2, BK196, HB⟩ := hrel
          cases gk with
          | zero => exact absurd HA.out (by simp [masterdiscref16_seconds.l1])
          | succ k2 =>
            have H := HA.out
            clear HA
            simp only [masterdiscref16_seconds.l1] at H
            by_cases c8 : x5_2 < 1970
            · rw [if_pos c8] at H
              have c8b0 : decide (x5_2 < 1970) = true := decide_eq_true c8
              clear c8
              replace H := Option.bind_eq_some_iff.mp H
              obtain ⟨t198, A90, H⟩ := H
              replace H : (masterdiscref16_seconds.l1 k2 (wrap64 (x3_2 - t198)) (wrap64 (x5_2 + 1)) a0_0 a0_1 a0_2 a0_3 a0_4 a0_5) = some r := H
              have A9 := Aside0.mk A90
              clear A90
              have H' := Aside0.mk H
              clear H
              go_wp2_with (first | ((with_reducible refine gate_callee (f := 55) rfl ?_); refine goesL_ (some 25) rfl rfl Tryd.func55 (by kernel_rfl) rfl #[.int .i64 x5_2] rfl (by (try simp only [List.map_toArray, List.map_cons, List.map_nil]); first | done | rfl | (simp only [List.length_drop, List.length_take]; rfl)) ?_; (with_reducible refine (masterdiscref16_year.calls x5_2 t198 _ A9.out).mono ?_); rintro e w10 ⟨rfl, hb⟩; refine ⟨_, rfl, ?_⟩; have n0_ := Aside0.mk (blk_below (g := gb196) (o := .cells #[.int .i64 a0_0, .int .i64 a0_1, .int .i64 a0_2, .int .i64 a0_3, .int .i64 a0_4, .int .i64 a0_5] 23 (0, 0)) (by (with_reducible repeat (first | refine blk_drewN ?_ _ | refine blk_drew ?_ | refine blk_alloc ?_ _)); exact BK196.out) hb); have n1_ := Aside0.mk (below_step (by repeat (first | (with_reducible first | exact HB.out | apply below_alloc | apply pw_below_drewN | apply below_drew1 | refine below_set ?_ GE196.out) | exact HB.out)) hb); clear BK196; clear HB; have BK196 := n0_; have HB := n1_; clear n0_ n1_; (try clear hb); (try clear hb2); (try clear hk); (try clear hi)))
              go_roundg k2
              case measure => have := HK1.out; have := HK2.out; omega
              case rel => exact ⟨(wrap64 (x3_2 - t198)), (wrap64 (x5_2 + 1)), (by first | rfl | (simp; done) | (simp [*]; done)), (by first | rfl | (simp; done) | (simp [*]; done)), H', ⟨by have := HK1.out; have := HK2.out; omega⟩, ⟨by (with_reducible repeat (first | refine blk_drewN ?_ _ | refine blk_drew ?_ | refine blk_alloc ?_ _)); exact BK196.out⟩, ⟨by repeat (first | (with_reducible first | exact HB.out | apply below_alloc | apply pw_below_drewN | apply below_drew1 | refine below_set ?_ GE196.out) | exact HB.out)⟩⟩
            · rw [if_neg c8] at H
              have c8b0 : decide (x5_2 < 1970) = false := decide_eq_false c8
              clear c8
              have H' := Aside0.mk H
              clear H
              go_wp2
              go_loopg [3, 6] k2 (fun kq v3 v6 w' => ∃ (x3_3 : Int) (x6_3 : Int), v3 = .int .i64 x3_3 ∧ v6 = .int .i64 x6_3 ∧ Aside0 (masterdiscref16_seconds.l2 kq x3_3 x6_3 a0_0 a0_1 a0_2 a0_3 a0_4 a0_5 = some r) ∧ Aside0 (kq ≤ k2) ∧ Aside0 (w'.heap[gb196]? = some (.cells #[.int .i64 a0_0, .int .i64 a0_1, .int .i64 a0_2, .int .i64 a0_3, .int .i64 a0_4, .int .i64 a0_5] 23 (0, 0))) ∧ Aside0 (Below w.heap.size w w'))
              case atStart => exact ⟨(x3_2), (1), (by first | rfl | (simp; done) | (simp [*]; done)), (by first | rfl | (simp; done) | (simp [*]; done)), H', ⟨Nat.le_refl _⟩, ⟨by (with_reducible repeat (first | refine blk_drewN ?_ _ | refine blk_drew ?_ | refine blk_alloc ?_ _)); exact BK196.out⟩, ⟨by repeat (first | (with_reducible first | exact HB.out | apply below_alloc | apply pw_below_drewN | apply below_drew1 | refine below_set ?_ GE196.out) | exact HB.out)⟩⟩
              case round =>
                clear H'
                try clear p2
                try clear c3
                try clear c3b0
                try clear c4
                try clear c5
                try clear p6
                try clear c8
                try clear c8b0
                try clear hcz5_0
                try clear hcz5_1
                try clear hcz5_2
                try clear hcz5_3
                try clear hcz5_4
                try clear hcz5_5
                try clear hcz7_0
                try clear hcz7_1
                try clear hcz7_2
                try clear hcz7_3
                try clear hcz7_4
                try clear hcz7_5
                try clear hfz5_0
                try clear hfz5_1
                try clear hfz5_2
                try clear hfz5_3
                try clear hfz5_4
                try clear hfz5_5
                try clear hfz7_0
                try clear hfz7_1
                try clear hfz7_2
                try clear hfz7_3
                try clear hfz7_4
                try clear hfz7_5
                try clear p2
                try clear p6
                obtain ⟨x3_3, x6_3, rfl, rfl, HA, HK3, BK196, HB⟩ := hrel
                cases gk with
                | zero => exact absurd HA.out (by simp [masterdiscref16_seconds.l2])
                | succ k3 =>
                  have H := HA.out
                  clear HA
                  simp only [masterdiscref16_seconds.l2] at H
                  by_cases c11 : x6_3 < a0_1
                  · rw [if_pos c11] at H
                    have c11b0 : decide (x6_3 < a0_1) = true := decide_eq_true c11
                    clear c11
                    replace H := Option.bind_eq_some_iff.mp H
                    obtain ⟨t199, A120, H⟩ := H
                    replace H : (masterdiscref16_seconds.l2 k3 (wrap64 (x3_3 + t199)) (wrap64 (x6_3 + 1)) a0_0 a0_1 a0_2 a0_3 a0_4 a0_5) = some r := H
                    have A12 := Aside0.mk A120
                    clear A120
                    have H' := Aside0.mk H
                    clear H
                    have hcz13_0 : wr.cell? ⟨gb196, 0, none⟩ = some (.int .i64 a0_0) := (blk_cell BK196.out 0).trans rfl
                    have hcz13_1 : wr.cell? ⟨gb196, 1, none⟩ = some (.int .i64 a0_1) := (blk_cell BK196.out 1).trans rfl
                    have hcz13_2 : wr.cell? ⟨gb196, 2, none⟩ = some (.int .i64 a0_2) := (blk_cell BK196.out 2).trans rfl
                    have hcz13_3 : wr.cell? ⟨gb196, 3, none⟩ = some (.int .i64 a0_3) := (blk_cell BK196.out 3).trans rfl
                    have hcz13_4 : wr.cell? ⟨gb196, 4, none⟩ = some (.int .i64 a0_4) := (blk_cell BK196.out 4).trans rfl
                    have hcz13_5 : wr.cell? ⟨gb196, 5, none⟩ = some (.int .i64 a0_5) := (blk_cell BK196.out 5).trans rfl
                    have hfz13_0 := blk_frozen BK196.out 0
                    have hfz13_1 := blk_frozen BK196.out 1
                    have hfz13_2 := blk_frozen BK196.out 2
                    have hfz13_3 := blk_frozen BK196.out 3
                    have hfz13_4 := blk_frozen BK196.out 4
                    have hfz13_5 := blk_frozen BK196.out 5
                    go_wp2_with (first | ((with_reducible refine gate_callee (f := 56) rfl ?_); refine goesL_ (some 37) rfl rfl Tryd.func56 (by kernel_rfl) rfl #[.int .i64 a0_0, .int .i64 x6_3] rfl (by (try simp only [List.map_toArray, List.map_cons, List.map_nil]); first | done | rfl | (simp only [List.length_drop, List.length_take]; rfl)) ?_; (with_reducible refine (masterdiscref16_days.calls a0_0 x6_3 t199 _ A12.out).mono ?_); rintro e w14 ⟨rfl, hb⟩; refine ⟨_, rfl, ?_⟩; have n0_ := Aside0.mk (blk_below (g := gb196) (o := .cells #[.int .i64 a0_0, .int .i64 a0_1, .int .i64 a0_2, .int .i64 a0_3, .int .i64 a0_4, .int .i64 a0_5] 23 (0, 0)) (by (with_reducible repeat (first | refine blk_drewN ?_ _ | refine blk_drew ?_ | refine blk_alloc ?_ _)); exact BK196.out) hb); have n1_ := Aside0.mk (below_step (by repeat (first | (with_reducible first | exact HB.out | apply below_alloc | apply pw_below_drewN | apply below_drew1 | refine below_set ?_ GE196.out) | exact HB.out)) hb); clear BK196; clear HB; have BK196 := n0_; have HB := n1_; clear n0_ n1_; (try clear hb); (try clear hb2); (try clear hk); (try clear hi)))
                    go_roundg k3
                    case measure => have := HK1.out; have := HK2.out; have := HK3.out; omega
                    case rel => exact ⟨(wrap64 (x3_3 + t199)), (wrap64 (x6_3 + 1)), (by first | rfl | (simp; done) | (simp [*]; done)), (by first | rfl | (simp; done) | (simp [*]; done)), H', ⟨by have := HK1.out; have := HK2.out; have := HK3.out; omega⟩, ⟨by (with_reducible repeat (first | refine blk_drewN ?_ _ | refine blk_drew ?_ | refine blk_alloc ?_ _)); exact BK196.out⟩, ⟨by repeat (first | (with_reducible first | exact HB.out | apply below_alloc | apply pw_below_drewN | apply below_drew1 | refine below_set ?_ GE196.out) | exact HB.out)⟩⟩
                  · rw [if_neg c11] at H
                    have c11b0 : decide (x6_3 < a0_1) = false := decide_eq_false c11
                    clear c11
                    obtain rfl := Option.some.inj H
                    have hcz15_0 : wr.cell? ⟨gb196, 0, none⟩ = some (.int .i64 a0_0) := (blk_cell BK196.out 0).trans rfl
                    have hcz15_1 : wr.cell? ⟨gb196, 1, none⟩ = some (.int .i64 a0_1) := (blk_cell BK196.out 1).trans rfl
                    have hcz15_2 : wr.cell? ⟨gb196, 2, none⟩ = some (.int .i64 a0_2) := (blk_cell BK196.out 2).trans rfl
                    have hcz15_3 : wr.cell? ⟨gb196, 3, none⟩ = some (.int .i64 a0_3) := (blk_cell BK196.out 3).trans rfl
                    have hcz15_4 : wr.cell? ⟨gb196, 4, none⟩ = some (.int .i64 a0_4) := (blk_cell BK196.out 4).trans rfl
                    have hcz15_5 : wr.cell? ⟨gb196, 5, none⟩ = some (.int .i64 a0_5) := (blk_cell BK196.out 5).trans rfl
                    have hfz15_0 := blk_frozen BK196.out 0
                    have hfz15_1 := blk_frozen BK196.out 1
                    have hfz15_2 := blk_frozen BK196.out 2
                    have hfz15_3 := blk_frozen BK196.out 3
                    have hfz15_4 := blk_frozen BK196.out 4
                    have hfz15_5 := blk_frozen BK196.out 5
                    go_wp2
                    go_ret
                    exact ⟨by first | rfl | (simp [errW_none, errW_some] <;> rfl) | (simp [*, errW_none, errW_some] <;> rfl), by repeat (first | (with_reducible first | exact HB.out | apply below_alloc | apply pw_below_drewN | apply below_drew1 | refine below_set ?_ GE196.out) | exact HB.out)⟩

/-! ### masterdiscref16_Join: function 15 -/
def masterdiscref16_Join.f (k : Nat) (a0_0 : Int) (a0_1 : Int) (a0_2 : Int) (a0_3 : Int) (a0_4 : Int) (a0_5 : Int) (a1 : Int) : Option (Int × Int) := (masterdiscref16_Valid.f a0_0 a0_1 a0_2 a0_3 a0_4 a0_5).bind fun t201 => (if t201 = true then ((masterdiscref16_seconds.f k a0_0 a0_1 a0_2 a0_3 a0_4 a0_5).bind fun t202 => ((masterdiscref16_Zone.f a1).bind fun t203 => (if t203 = true then ((masterdiscref16_Time.f (wrap64 (t202 - (wrap64 (60 * a1))))).bind fun t204 => (if t204 = true then (some (wrap64 (t202 - (wrap64 (60 * a1))), 0)) else (some (0, 2)))) else (some (0, 2))))) else (some (0, 1)))
theorem masterdiscref16_Join.mono : ∀ a0 a1 a2 a3 a4 a5 a6 k, LeO (masterdiscref16_Join.f k a0 a1 a2 a3 a4 a5 a6) (masterdiscref16_Join.f (k + 1) a0 a1 a2 a3 a4 a5 a6) := by
  intro a0 a1 a2 a3 a4 a5 a6 k
  unfold masterdiscref16_Join.f
  repeat' first
      | (with_reducible exact masterdiscref16_seconds.mono _ _ _ _ _ _ _)
      | (with_reducible exact LeO.refl _)
      | (with_reducible exact LeO.none _)
      | (with_reducible refine LeO.ite ?_ ?_)
      | (with_reducible refine LeO.bind ?_ (fun _ => ?_))
      | exact masterdiscref16_seconds.mono _ _ _ _ _ _ _
      | exact LeO.none _
      | refine LeO.ite ?_ ?_
      | refine LeO.bind ?_ (fun _ => ?_)
set_option maxHeartbeats 8000000 in
set_option maxRecDepth 100000 in
theorem masterdiscref16_Join.calls (k : Nat) (a0_0 : Int) (a0_1 : Int) (a0_2 : Int) (a0_3 : Int) (a0_4 : Int) (a0_5 : Int) (a1 : Int) (r1 : Int) (r2 : Int) (w : World) (h : masterdiscref16_Join.f k a0_0 a0_1 a0_2 a0_3 a0_4 a0_5 a1 = some (r1, r2)) :
    Calls Tryd.prog 15 #[.agg #[.int .i64 a0_0, .int .i64 a0_1, .int .i64 a0_2, .int .i64 a0_3, .int .i64 a0_4, .int .i64 a0_5], .int .i64 a1] w fun e w' => e = .returned (.tuple #[.int .i64 r1, .int .i64 r2]) ∧ Below w.heap.size w w' := by
  have hu23 := Tryd.underlying23
  have HB := Aside0.mk (Below.refl w.heap.size w)
  have H : ((masterdiscref16_Valid.f a0_0 a0_1 a0_2 a0_3 a0_4 a0_5).bind fun t201 => (if t201 = true then ((masterdiscref16_seconds.f k a0_0 a0_1 a0_2 a0_3 a0_4 a0_5).bind fun t202 => ((masterdiscref16_Zone.f a1).bind fun t203 => (if t203 = true then ((masterdiscref16_Time.f (wrap64 (t202 - (wrap64 (60 * a1))))).bind fun t204 => (if t204 = true then (some (wrap64 (t202 - (wrap64 (60 * a1))), 0)) else (some (0, 2)))) else (some (0, 2))))) else (some (0, 1)))) = some (r1, r2) := h
  clear h
  replace H := Option.bind_eq_some_iff.mp H
  obtain ⟨t201, A30, H⟩ := H
  replace H : (if t201 = true then ((masterdiscref16_seconds.f k a0_0 a0_1 a0_2 a0_3 a0_4 a0_5).bind fun t202 => ((masterdiscref16_Zone.f a1).bind fun t203 => (if t203 = true then ((masterdiscref16_Time.f (wrap64 (t202 - (wrap64 (60 * a1))))).bind fun t204 => (if t204 = true then (some (wrap64 (t202 - (wrap64 (60 * a1))), 0)) else (some (0, 2)))) else (some (0, 2))))) else (some (0, 1))) = some (r1, r2) := H
  have A3 := Aside0.mk A30
  clear A30
  by_cases c4 : t201 = true
  · subst c4
    have H1 : ((masterdiscref16_seconds.f k a0_0 a0_1 a0_2 a0_3 a0_4 a0_5).bind fun t202 => ((masterdiscref16_Zone.f a1).bind fun t203 => (if t203 = true then ((masterdiscref16_Time.f (wrap64 (t202 - (wrap64 (60 * a1))))).bind fun t204 => (if t204 = true then (some (wrap64 (t202 - (wrap64 (60 * a1))), 0)) else (some (0, 2)))) else (some (0, 2))))) = some (r1, r2) := by rw [if_pos rfl] at H; exact H
    clear H
    have H := H1
    clear H1
    replace H := Option.bind_eq_some_iff.mp H
    obtain ⟨t202, A50, H⟩ := H
    replace H : ((masterdiscref16_Zone.f a1).bind fun t203 => (if t203 = true then ((masterdiscref16_Time.f (wrap64 (t202 - (wrap64 (60 * a1))))).bind fun t204 => (if t204 = true then (some (wrap64 (t202 - (wrap64 (60 * a1))), 0)) else (some (0, 2)))) else (some (0, 2)))) = some (r1, r2) := H
    have A5 := Aside0.mk A50
    clear A50
    replace H := Option.bind_eq_some_iff.mp H
    obtain ⟨t203, A60, H⟩ := H
    replace H : (if t203 = true then ((masterdiscref16_Time.f (wrap64 (t202 - (wrap64 (60 * a1))))).bind fun t204 => (if t204 = true then (some (wrap64 (t202 - (wrap64 (60 * a1))), 0)) else (some (0, 2)))) else (some (0, 2))) = some (r1, r2) := H
    have A6 := Aside0.mk A60
    clear A60
    by_cases c7 : t203 = true
    · subst c7
      have H1 : ((masterdiscref16_Time.f (wrap64 (t202 - (wrap64 (60 * a1))))).bind fun t204 => (if t204 = true then (some (wrap64 (t202 - (wrap64 (60 * a1))), 0)) else (some (0, 2)))) = some (r1, r2) := by rw [if_pos rfl] at H; exact H
      clear H
      have H := H1
      clear H1
      replace H := Option.bind_eq_some_iff.mp H
      obtain ⟨t204, A80, H⟩ := H
      replace H : (if t204 = true then (some (wrap64 (t202 - (wrap64 (60 * a1))), 0)) else (some (0, 2))) = some (r1, r2) := H
      have A8 := Aside0.mk A80
      clear A80
      by_cases c9 : t204 = true
      · subst c9
        have H1 : (some (wrap64 (t202 - (wrap64 (60 * a1))), 0)) = some (r1, r2) := by rw [if_pos rfl] at H; exact H
        clear H
        have H := H1
        clear H1
        simp only [Option.some.injEq, Prod.mk.injEq] at H
        obtain ⟨rfl, rfl⟩ := H
        go_enter Tryd.func15, Tryd.ntmps15
        go_wp2_with (first | ((with_reducible refine gate_dst (N := 2) rfl ?_); refine box_event ?hg (N := 2) ?hd (cs := #[.int .i64 a0_0, .int .i64 a0_1, .int .i64 a0_2, .int .i64 a0_3, .int .i64 a0_4, .int .i64 a0_5]) (t := 23) ?hr ?_; (case hd => rfl); (case hg => rfl); (case hr => first | (go_simp; done) | (go_simp; rfl)); intro gb200 hg w10 hbox hb; have n0_ := Aside0.mk (below_step (by repeat (first | (with_reducible first | exact HB.out | apply below_alloc | apply pw_below_drewN | apply below_drew1) | exact HB.out)) hb); have n1_ := Aside0.mk (hbox); have n2_ := Aside0.mk ((by rw [hg]; exact (below_size (by repeat (first | (with_reducible first | exact HB.out | apply below_alloc | apply pw_below_drewN | apply below_drew1) | exact HB.out))) : w.heap.size ≤ gb200)); have n3_ := Aside0.mk ((by rw [hg]; exact (below_size (by repeat (first | (with_reducible first | exact HB.out | apply below_alloc | apply pw_below_drewN | apply below_drew1) | exact HB.out))) : w.heap.size ≤ gb200)); clear HB; have HB := n0_; have BK200 := n1_; have GW200 := n2_; have GE200 := n3_; clear n0_ n1_ n2_ n3_; clear hb hbox hg; have hcz11_0 : w10.cell? ⟨gb200, 0, none⟩ = some (.int .i64 a0_0) := (blk_cell BK200.out 0).trans rfl; have hcz11_1 : w10.cell? ⟨gb200, 1, none⟩ = some (.int .i64 a0_1) := (blk_cell BK200.out 1).trans rfl; have hcz11_2 : w10.cell? ⟨gb200, 2, none⟩ = some (.int .i64 a0_2) := (blk_cell BK200.out 2).trans rfl; have hcz11_3 : w10.cell? ⟨gb200, 3, none⟩ = some (.int .i64 a0_3) := (blk_cell BK200.out 3).trans rfl; have hcz11_4 : w10.cell? ⟨gb200, 4, none⟩ = some (.int .i64 a0_4) := (blk_cell BK200.out 4).trans rfl; have hcz11_5 : w10.cell? ⟨gb200, 5, none⟩ = some (.int .i64 a0_5) := (blk_cell BK200.out 5).trans rfl; have hfz11_0 := blk_frozen BK200.out 0; have hfz11_1 := blk_frozen BK200.out 1; have hfz11_2 := blk_frozen BK200.out 2; have hfz11_3 := blk_frozen BK200.out 3; have hfz11_4 := blk_frozen BK200.out 4; have hfz11_5 := blk_frozen BK200.out 5) | ((with_reducible refine gate_callee (f := 40) rfl ?_); refine goesL_ (some 8) rfl rfl Tryd.func40 (by kernel_rfl) rfl #[.agg #[.int .i64 a0_0, .int .i64 a0_1, .int .i64 a0_2, .int .i64 a0_3, .int .i64 a0_4, .int .i64 a0_5]] rfl (by (try simp only [List.map_toArray, List.map_cons, List.map_nil]); first | done | rfl | (simp only [List.length_drop, List.length_take]; rfl)) ?_; (with_reducible refine (masterdiscref16_Valid.calls a0_0 a0_1 a0_2 a0_3 a0_4 a0_5 true _ A3.out).mono ?_); rintro e w12 ⟨rfl, hb⟩; refine ⟨_, rfl, ?_⟩; have n0_ := Aside0.mk (blk_below (g := gb200) (o := .cells #[.int .i64 a0_0, .int .i64 a0_1, .int .i64 a0_2, .int .i64 a0_3, .int .i64 a0_4, .int .i64 a0_5] 23 (0, 0)) (by (with_reducible repeat (first | refine blk_drewN ?_ _ | refine blk_drew ?_ | refine blk_alloc ?_ _)); exact BK200.out) hb); have n1_ := Aside0.mk (below_step (by repeat (first | (with_reducible first | exact HB.out | apply below_alloc | apply pw_below_drewN | apply below_drew1 | refine below_set ?_ GE200.out) | exact HB.out)) hb); clear BK200; clear HB; have BK200 := n0_; have HB := n1_; clear n0_ n1_; (try clear hb); (try clear hb2); (try clear hk); (try clear hi); have hcz13_0 : w12.cell? ⟨gb200, 0, none⟩ = some (.int .i64 a0_0) := (blk_cell BK200.out 0).trans rfl; have hcz13_1 : w12.cell? ⟨gb200, 1, none⟩ = some (.int .i64 a0_1) := (blk_cell BK200.out 1).trans rfl; have hcz13_2 : w12.cell? ⟨gb200, 2, none⟩ = some (.int .i64 a0_2) := (blk_cell BK200.out 2).trans rfl; have hcz13_3 : w12.cell? ⟨gb200, 3, none⟩ = some (.int .i64 a0_3) := (blk_cell BK200.out 3).trans rfl; have hcz13_4 : w12.cell? ⟨gb200, 4, none⟩ = some (.int .i64 a0_4) := (blk_cell BK200.out 4).trans rfl; have hcz13_5 : w12.cell? ⟨gb200, 5, none⟩ = some (.int .i64 a0_5) := (blk_cell BK200.out 5).trans rfl; have hfz13_0 := blk_frozen BK200.out 0; have hfz13_1 := blk_frozen BK200.out 1; have hfz13_2 := blk_frozen BK200.out 2; have hfz13_3 := blk_frozen BK200.out 3; have hfz13_4 := blk_frozen BK200.out 4; have hfz13_5 := blk_frozen BK200.out 5) | ((with_reducible refine gate_callee (f := 41) rfl ?_); refine goesL_ (some 11) rfl rfl Tryd.func41 (by kernel_rfl) rfl #[.agg #[.int .i64 a0_0, .int .i64 a0_1, .int .i64 a0_2, .int .i64 a0_3, .int .i64 a0_4, .int .i64 a0_5]] rfl (by (try simp only [List.map_toArray, List.map_cons, List.map_nil]); first | done | rfl | (simp only [List.length_drop, List.length_take]; rfl)) ?_; (with_reducible refine (masterdiscref16_seconds.calls k a0_0 a0_1 a0_2 a0_3 a0_4 a0_5 t202 _ A5.out).mono ?_); rintro e w14 ⟨rfl, hb⟩; refine ⟨_, rfl, ?_⟩; have n0_ := Aside0.mk (blk_below (g := gb200) (o := .cells #[.int .i64 a0_0, .int .i64 a0_1, .int .i64 a0_2, .int .i64 a0_3, .int .i64 a0_4, .int .i64 a0_5] 23 (0, 0)) (by (with_reducible repeat (first | refine blk_drewN ?_ _ | refine blk_drew ?_ | refine blk_alloc ?_ _)); exact BK200.out) hb); have n1_ := Aside0.mk (below_step (by repeat (first | (with_reducible first | exact HB.out | apply below_alloc | apply pw_below_drewN | apply below_drew1 | refine below_set ?_ GE200.out) | exact HB.out)) hb); clear BK200; clear HB; have BK200 := n0_; have HB := n1_; clear n0_ n1_; (try clear hb); (try clear hb2); (try clear hk); (try clear hi)) | ((with_reducible refine gate_callee (f := 17) rfl ?_); refine goesL_ (some 16) rfl rfl Tryd.func17 (by kernel_rfl) rfl #[.int .i64 a1] rfl (by (try simp only [List.map_toArray, List.map_cons, List.map_nil]); first | done | rfl | (simp only [List.length_drop, List.length_take]; rfl)) ?_; (with_reducible refine (masterdiscref16_Zone.calls a1 true _ A6.out).mono ?_); rintro e w' ⟨rfl, ⟨nd, rfl⟩⟩; refine ⟨_, rfl, ?_⟩) | (go_at_call 16; (with_reducible refine (masterdiscref16_Time.calls (wrap64 (t202 - (wrap64 (60 * a1)))) true _ A8.out).mono ?_); rintro e w' ⟨rfl, ⟨nd, rfl⟩⟩))
        go_ret2
        exact ⟨by first | rfl | (simp [errW_none, errW_some] <;> rfl) | (simp [*, errW_none, errW_some] <;> rfl), by repeat (first | (with_reducible first | exact HB.out | apply below_alloc | apply pw_below_drewN | apply below_drew1 | refine below_set ?_ GE200.out) | exact HB.out)⟩
      · replace c9 := Bool.eq_false_iff.mpr c9
        subst c9
        have H1 : (some (0, 2)) = some (r1, r2) := by rw [if_neg (show ¬ (false = true) by decide)] at H; exact H
        clear H
        have H := H1
        clear H1
        simp only [Option.some.injEq, Prod.mk.injEq] at H
        obtain ⟨rfl, rfl⟩ := H
        go_enter Tryd.func15, Tryd.ntmps15
        go_wp2_with (first | ((with_reducible refine gate_dst (N := 2) rfl ?_); refine box_event ?hg (N := 2) ?hd (cs := #[.int .i64 a0_0, .int .i64 a0_1, .int .i64 a0_2, .int .i64 a0_3, .int .i64 a0_4, .int .i64 a0_5]) (t := 23) ?hr ?_; (case hd => rfl); (case hg => rfl); (case hr => first | (go_simp; done) | (go_simp; rfl)); intro gb200 hg w15 hbox hb; have n0_ := Aside0.mk (below_step (by repeat (first | (with_reducible first | exact HB.out | apply below_alloc | apply pw_below_drewN | apply below_drew1) | exact HB.out)) hb); have n1_ := Aside0.mk (hbox); have n2_ := Aside0.mk ((by rw [hg]; exact (below_size (by repeat (first | (with_reducible first | exact HB.out | apply below_alloc | apply pw_below_drewN | apply below_drew1) | exact HB.out))) : w.heap.size ≤ gb200)); have n3_ := Aside0.mk ((by rw [hg]; exact (below_size (by repeat (first | (with_reducible first | exact HB.out | apply below_alloc | apply pw_below_drewN | apply below_drew1) | exact HB.out))) : w.heap.size ≤ gb200)); clear HB; have HB := n0_; have BK200 := n1_; have GW200 := n2_; have GE200 := n3_; clear n0_ n1_ n2_ n3_; clear hb hbox hg; have hcz16_0 : w15.cell? ⟨gb200, 0, none⟩ = some (.int .i64 a0_0) := (blk_cell BK200.out 0).trans rfl; have hcz16_1 : w15.cell? ⟨gb200, 1, none⟩ = some (.int .i64 a0_1) := (blk_cell BK200.out 1).trans rfl; have hcz16_2 : w15.cell? ⟨gb200, 2, none⟩ = some (.int .i64 a0_2) := (blk_cell BK200.out 2).trans rfl; have hcz16_3 : w15.cell? ⟨gb200, 3, none⟩ = some (.int .i64 a0_3) := (blk_cell BK200.out 3).trans rfl; have hcz16_4 : w15.cell? ⟨gb200, 4, none⟩ = some (.int .i64 a0_4) := (blk_cell BK200.out 4).trans rfl; have hcz16_5 : w15.cell? ⟨gb200, 5, none⟩ = some (.int .i64 a0_5) := (blk_cell BK200.out 5).trans rfl; have hfz16_0 := blk_frozen BK200.out 0; have hfz16_1 := blk_frozen BK200.out 1; have hfz16_2 := blk_frozen BK200.out 2; have hfz16_3 := blk_frozen BK200.out 3; have hfz16_4 := blk_frozen BK200.out 4; have hfz16_5 := blk_frozen BK200.out 5) | ((with_reducible refine gate_callee (f := 40) rfl ?_); refine goesL_ (some 8) rfl rfl Tryd.func40 (by kernel_rfl) rfl #[.agg #[.int .i64 a0_0, .int .i64 a0_1, .int .i64 a0_2, .int .i64 a0_3, .int .i64 a0_4, .int .i64 a0_5]] rfl (by (try simp only [List.map_toArray, List.map_cons, List.map_nil]); first | done | rfl | (simp only [List.length_drop, List.length_take]; rfl)) ?_; (with_reducible refine (masterdiscref16_Valid.calls a0_0 a0_1 a0_2 a0_3 a0_4 a0_5 true _ A3.out).mono ?_); rintro e w17 ⟨rfl, hb⟩; refine ⟨_, rfl, ?_⟩; have n0_ := Aside0.mk (blk_below (g := gb200) (o := .cells #[.int .i64 a0_0, .int .i64 a0_1, .int .i64 a0_2, .int .i64 a0_3, .int .i64 a0_4, .int .i64 a0_5] 23 (0, 0)) (by (with_reducible repeat (first | refine blk_drewN ?_ _ | refine blk_drew ?_ | refine blk_alloc ?_ _)); exact BK200.out) hb); have n1_ := Aside0.mk (below_step (by repeat (first | (with_reducible first | exact HB.out | apply below_alloc | apply pw_below_drewN | apply below_drew1 | refine below_set ?_ GE200.out) | exact HB.out)) hb); clear BK200; clear HB; have BK200 := n0_; have HB := n1_; clear n0_ n1_; (try clear hb); (try clear hb2); (try clear hk); (try clear hi); have hcz18_0 : w17.cell? ⟨gb200, 0, none⟩ = some (.int .i64 a0_0) := (blk_cell BK200.out 0).trans rfl; have hcz18_1 : w17.cell? ⟨gb200, 1, none⟩ = some (.int .i64 a0_1) := (blk_cell BK200.out 1).trans rfl; have hcz18_2 : w17.cell? ⟨gb200, 2, none⟩ = some (.int .i64 a0_2) := (blk_cell BK200.out 2).trans rfl; have hcz18_3 : w17.cell? ⟨gb200, 3, none⟩ = some (.int .i64 a0_3) := (blk_cell BK200.out 3).trans rfl; have hcz18_4 : w17.cell? ⟨gb200, 4, none⟩ = some (.int .i64 a0_4) := (blk_cell BK200.out 4).trans rfl; have hcz18_5 : w17.cell? ⟨gb200, 5, none⟩ = some (.int .i64 a0_5) := (blk_cell BK200.out 5).trans rfl; have hfz18_0 := blk_frozen BK200.out 0; have hfz18_1 := blk_frozen BK200.out 1; have hfz18_2 := blk_frozen BK200.out 2; have hfz18_3 := blk_frozen BK200.out 3; have hfz18_4 := blk_frozen BK200.out 4; have hfz18_5 := blk_frozen BK200.out 5) | ((with_reducible refine gate_callee (f := 41) rfl ?_); refine goesL_ (some 11) rfl rfl Tryd.func41 (by kernel_rfl) rfl #[.agg #[.int .i64 a0_0, .int .i64 a0_1, .int .i64 a0_2, .int .i64 a0_3, .int .i64 a0_4, .int .i64 a0_5]] rfl (by (try simp only [List.map_toArray, List.map_cons, List.map_nil]); first | done | rfl | (simp only [List.length_drop, List.length_take]; rfl)) ?_; (with_reducible refine (masterdiscref16_seconds.calls k a0_0 a0_1 a0_2 a0_3 a0_4 a0_5 t202 _ A5.out).mono ?_); rintro e w19 ⟨rfl, hb⟩; refine ⟨_, rfl, ?_⟩; have n0_ := Aside0.mk (blk_below (g := gb200) (o := .cells #[.int .i64 a0_0, .int .i64 a0_1, .int .i64 a0_2, .int .i64 a0_3, .int .i64 a0_4, .int .i64 a0_5] 23 (0, 0)) (by (with_reducible repeat (first | refine blk_drewN ?_ _ | refine blk_drew ?_ | refine blk_alloc ?_ _)); exact BK200.out) hb); have n1_ := Aside0.mk (below_step (by repeat (first | (with_reducible first | exact HB.out | apply below_alloc | apply pw_below_drewN | apply below_drew1 | refine below_set ?_ GE200.out) | exact HB.out)) hb); clear BK200; clear HB; have BK200 := n0_; have HB := n1_; clear n0_ n1_; (try clear hb); (try clear hb2); (try clear hk); (try clear hi)) | ((with_reducible refine gate_callee (f := 17) rfl ?_); refine goesL_ (some 16) rfl rfl Tryd.func17 (by kernel_rfl) rfl #[.int .i64 a1] rfl (by (try simp only [List.map_toArray, List.map_cons, List.map_nil]); first | done | rfl | (simp only [List.length_drop, List.length_take]; rfl)) ?_; (with_reducible refine (masterdiscref16_Zone.calls a1 true _ A6.out).mono ?_); rintro e w' ⟨rfl, ⟨nd, rfl⟩⟩; refine ⟨_, rfl, ?_⟩) | (go_at_call 16; (with_reducible refine (masterdiscref16_Time.calls (wrap64 (t202 - (wrap64 (60 * a1)))) false _ A8.out).mono ?_); rintro e w' ⟨rfl, ⟨nd, rfl⟩⟩))
        go_ret2
        exact ⟨by first | rfl | (simp [errW_none, errW_some] <;> rfl) | (simp [*, errW_none, errW_some] <;> rfl), by repeat (first | (with_reducible first | exact HB.out | apply below_alloc | apply pw_below_drewN | apply below_drew1 | refine below_set ?_ GE200.out) | exact HB.out)⟩
    · replace c7 := Bool.eq_false_iff.mpr c7
      subst c7
      have H1 : (some (0, 2)) = some (r1, r2) := by rw [if_neg (show ¬ (false = true) by decide)] at H; exact H
      clear H
      have H := H1
      clear H1
      simp only [Option.some.injEq, Prod.mk.injEq] at H
      obtain ⟨rfl, rfl⟩ := H
      go_enter Tryd.func15, Tryd.ntmps15
      go_wp2_with (first | ((with_reducible refine gate_dst (N := 2) rfl ?_); refine box_event ?hg (N := 2) ?hd (cs := #[.int .i64 a0_0, .int .i64 a0_1, .int .i64 a0_2, .int .i64 a0_3, .int .i64 a0_4, .int .i64 a0_5]) (t := 23) ?hr ?_; (case hd => rfl); (case hg => rfl); (case hr => first | (go_simp; done) | (go_simp; rfl)); intro gb200 hg w20 hbox hb; have n0_ := Aside0.mk (below_step (by repeat (first | (with_reducible first | exact HB.out | apply below_alloc | apply pw_below_drewN | apply below_drew1) | exact HB.out)) hb); have n1_ := Aside0.mk (hbox); have n2_ := Aside0.mk ((by rw [hg]; exact (below_size (by repeat (first | (with_reducible first | exact HB.out | apply below_alloc | apply pw_below_drewN | apply below_drew1) | exact HB.out))) : w.heap.size ≤ gb200)); have n3_ := Aside0.mk ((by rw [hg]; exact (below_size (by repeat (first | (with_reducible first | exact HB.out | apply below_alloc | apply pw_below_drewN | apply below_drew1) | exact HB.out))) : w.heap.size ≤ gb200)); clear HB; have HB := n0_; have BK200 := n1_; have GW200 := n2_; have GE200 := n3_; clear n0_ n1_ n2_ n3_; clear hb hbox hg; have hcz21_0 : w20.cell? ⟨gb200, 0, none⟩ = some (.int .i64 a0_0) := (blk_cell BK200.out 0).trans rfl; have hcz21_1 : w20.cell? ⟨gb200, 1, none⟩ = some (.int .i64 a0_1) := (blk_cell BK200.out 1).trans rfl; have hcz21_2 : w20.cell? ⟨gb200, 2, none⟩ = some (.int .i64 a0_2) := (blk_cell BK200.out 2).trans rfl; have hcz21_3 : w20.cell? ⟨gb200, 3, none⟩ = some (.int .i64 a0_3) := (blk_cell BK200.out 3).trans rfl; have hcz21_4 : w20.cell? ⟨gb200, 4, none⟩ = some (.int .i64 a0_4) := (blk_cell BK200.out 4).trans rfl; have hcz21_5 : w20.cell? ⟨gb200, 5, none⟩ = some (.int .i64 a0_5) := (blk_cell BK200.out 5).trans rfl; have hfz21_0 := blk_frozen BK200.out 0; have hfz21_1 := blk_frozen BK200.out 1; have hfz21_2 := blk_frozen BK200.out 2; have hfz21_3 := blk_frozen BK200.out 3; have hfz21_4 := blk_frozen BK200.out 4; have hfz21_5 := blk_frozen BK200.out 5) | ((with_reducible refine gate_callee (f := 40) rfl ?_); refine goesL_ (some 8) rfl rfl Tryd.func40 (by kernel_rfl) rfl #[.agg #[.int .i64 a0_0, .int .i64 a0_1, .int .i64 a0_2, .int .i64 a0_3, .int .i64 a0_4, .int .i64 a0_5]] rfl (by (try simp only [List.map_toArray, List.map_cons, List.map_nil]); first | done | rfl | (simp only [List.length_drop, List.length_take]; rfl)) ?_; (with_reducible refine (masterdiscref16_Valid.calls a0_0 a0_1 a0_2 a0_3 a0_4 a0_5 true _ A3.out).mono ?_); rintro e w22 ⟨rfl, hb⟩; refine ⟨_, rfl, ?_⟩; have n0_ := Aside0.mk (blk_below (g := gb200) (o := .cells #[.int .i64 a0_0, .int .i64 a0_1, .int .i64 a0_2, .int .i64 a0_3, .int .i64 a0_4, .int .i64 a0_5] 23 (0, 0)) (by (with_reducible repeat (first | refine blk_drewN ?_ _ | refine blk_drew ?_ | refine blk_alloc ?_ _)); exact BK200.out) hb); have n1_ := Aside0.mk (below_step (by repeat (first | (with_reducible first | exact HB.out | apply below_alloc | apply pw_below_drewN | apply below_drew1 | refine below_set ?_ GE200.out) | exact HB.out)) hb); clear BK200; clear HB; have BK200 := n0_; have HB := n1_; clear n0_ n1_; (try clear hb); (try clear hb2); (try clear hk); (try clear hi); have hcz23_0 : w22.cell? ⟨gb200, 0, none⟩ = some (.int .i64 a0_0) := (blk_cell BK200.out 0).trans rfl; have hcz23_1 : w22.cell? ⟨gb200, 1, none⟩ = some (.int .i64 a0_1) := (blk_cell BK200.out 1).trans rfl; have hcz23_2 : w22.cell? ⟨gb200, 2, none⟩ = some (.int .i64 a0_2) := (blk_cell BK200.out 2).trans rfl; have hcz23_3 : w22.cell? ⟨gb200, 3, none⟩ = some (.int .i64 a0_3) := (blk_cell BK200.out 3).trans rfl; have hcz23_4 : w22.cell? ⟨gb200, 4, none⟩ = some (.int .i64 a0_4) := (blk_cell BK200.out 4).trans rfl; have hcz23_5 : w22.cell? ⟨gb200, 5, none⟩ = some (.int .i64 a0_5) := (blk_cell BK200.out 5).trans rfl; have hfz23_0 := blk_frozen BK200.out 0; have hfz23_1 := blk_frozen BK200.out 1; have hfz23_2 := blk_frozen BK200.out 2; have hfz23_3 := blk_frozen BK200.out 3; have hfz23_4 := blk_frozen BK200.out 4; have hfz23_5 := blk_frozen BK200.out 5) | ((with_reducible refine gate_callee (f := 41) rfl ?_); refine goesL_ (some 11) rfl rfl Tryd.func41 (by kernel_rfl) rfl #[.agg #[.int .i64 a0_0, .int .i64 a0_1, .int .i64 a0_2, .int .i64 a0_3, .int .i64 a0_4, .int .i64 a0_5]] rfl (by (try simp only [List.map_toArray, List.map_cons, List.map_nil]); first | done | rfl | (simp only [List.length_drop, List.length_take]; rfl)) ?_; (with_reducible refine (masterdiscref16_seconds.calls k a0_0 a0_1 a0_2 a0_3 a0_4 a0_5 t202 _ A5.out).mono ?_); rintro e w24 ⟨rfl, hb⟩; refine ⟨_, rfl, ?_⟩; have n0_ := Aside0.mk (blk_below (g := gb200) (o := .cells #[.int .i64 a0_0, .int .i64 a0_1, .int .i64 a0_2, .int .i64 a0_3, .int .i64 a0_4, .int .i64 a0_5] 23 (0, 0)) (by (with_reducible repeat (first | refine blk_drewN ?_ _ | refine blk_drew ?_ | refine blk_alloc ?_ _)); exact BK200.out) hb); have n1_ := Aside0.mk (below_step (by repeat (first | (with_reducible first | exact HB.out | apply below_alloc | apply pw_below_drewN | apply below_drew1 | refine below_set ?_ GE200.out) | exact HB.out)) hb); clear BK200; clear HB; have BK200 := n0_; have HB := n1_; clear n0_ n1_; (try clear hb); (try clear hb2); (try clear hk); (try clear hi)) | ((with_reducible refine gate_callee (f := 17) rfl ?_); refine goesL_ (some 16) rfl rfl Tryd.func17 (by kernel_rfl) rfl #[.int .i64 a1] rfl (by (try simp only [List.map_toArray, List.map_cons, List.map_nil]); first | done | rfl | (simp only [List.length_drop, List.length_take]; rfl)) ?_; (with_reducible refine (masterdiscref16_Zone.calls a1 false _ A6.out).mono ?_); rintro e w' ⟨rfl, ⟨nd, rfl⟩⟩; refine ⟨_, rfl, ?_⟩))
      go_ret2
      exact ⟨by first | rfl | (simp [errW_none, errW_some] <;> rfl) | (simp [*, errW_none, errW_some] <;> rfl), by repeat (first | (with_reducible first | exact HB.out | apply below_alloc | apply pw_below_drewN | apply below_drew1 | refine below_set ?_ GE200.out) | exact HB.out)⟩
  · replace c4 := Bool.eq_false_iff.mpr c4
    subst c4
    have H1 : (some (0, 1)) = some (r1, r2) := by rw [if_neg (show ¬ (false = true) by decide)] at H; exact H
    clear H
    have H := H1
    clear H1
    simp only [Option.some.injEq, Prod.mk.injEq] at H
    obtain ⟨rfl, rfl⟩ := H
    go_enter Tryd.func15, Tryd.ntmps15
    go_wp2_with (first | ((with_reducible refine gate_dst (N := 2) rfl ?_); refine box_event ?hg (N := 2) ?hd (cs := #[.int .i64 a0_0, .int .i64 a0_1, .int .i64 a0_2, .int .i64 a0_3, .int .i64 a0_4, .int .i64 a0_5]) (t := 23) ?hr ?_; (case hd => rfl); (case hg => rfl); (case hr => first | (go_simp; done) | (go_simp; rfl)); intro gb200 hg w25 hbox hb; have n0_ := Aside0.mk (below_step (by repeat (first | (with_reducible first | exact HB.out | apply below_alloc | apply pw_below_drewN | apply below_drew1) | exact HB.out)) hb); have n1_ := Aside0.mk (hbox); have n2_ := Aside0.mk ((by rw [hg]; exact (below_size (by repeat (first | (with_reducible first | exact HB.out | apply below_alloc | apply pw_below_drewN | apply below_drew1) | exact HB.out))) : w.heap.size ≤ gb200)); have n3_ := Aside0.mk ((by rw [hg]; exact (below_size (by repeat (first | (with_reducible first | exact HB.out | apply below_alloc | apply pw_below_drewN | apply below_drew1) | exact HB.out))) : w.heap.size ≤ gb200)); clear HB; have HB := n0_; have BK200 := n1_; have GW200 := n2_; have GE200 := n3_; clear n0_ n1_ n2_ n3_; clear hb hbox hg; have hcz26_0 : w25.cell? ⟨gb200, 0, none⟩ = some (.int .i64 a0_0) := (blk_cell BK200.out 0).trans rfl; have hcz26_1 : w25.cell? ⟨gb200, 1, none⟩ = some (.int .i64 a0_1) := (blk_cell BK200.out 1).trans rfl; have hcz26_2 : w25.cell? ⟨gb200, 2, none⟩ = some (.int .i64 a0_2) := (blk_cell BK200.out 2).trans rfl; have hcz26_3 : w25.cell? ⟨gb200, 3, none⟩ = some (.int .i64 a0_3) := (blk_cell BK200.out 3).trans rfl; have hcz26_4 : w25.cell? ⟨gb200, 4, none⟩ = some (.int .i64 a0_4) := (blk_cell BK200.out 4).trans rfl; have hcz26_5 : w25.cell? ⟨gb200, 5, none⟩ = some (.int .i64 a0_5) := (blk_cell BK200.out 5).trans rfl; have hfz26_0 := blk_frozen BK200.out 0; have hfz26_1 := blk_frozen BK200.out 1; have hfz26_2 := blk_frozen BK200.out 2; have hfz26_3 := blk_frozen BK200.out 3; have hfz26_4 := blk_frozen BK200.out 4; have hfz26_5 := blk_frozen BK200.out 5) | ((with_reducible refine gate_callee (f := 40) rfl ?_); refine goesL_ (some 8) rfl rfl Tryd.func40 (by kernel_rfl) rfl #[.agg #[.int .i64 a0_0, .int .i64 a0_1, .int .i64 a0_2, .int .i64 a0_3, .int .i64 a0_4, .int .i64 a0_5]] rfl (by (try simp only [List.map_toArray, List.map_cons, List.map_nil]); first | done | rfl | (simp only [List.length_drop, List.length_take]; rfl)) ?_; (with_reducible refine (masterdiscref16_Valid.calls a0_0 a0_1 a0_2 a0_3 a0_4 a0_5 false _ A3.out).mono ?_); rintro e w27 ⟨rfl, hb⟩; refine ⟨_, rfl, ?_⟩; have n0_ := Aside0.mk (blk_below (g := gb200) (o := .cells #[.int .i64 a0_0, .int .i64 a0_1, .int .i64 a0_2, .int .i64 a0_3, .int .i64 a0_4, .int .i64 a0_5] 23 (0, 0)) (by (with_reducible repeat (first | refine blk_drewN ?_ _ | refine blk_drew ?_ | refine blk_alloc ?_ _)); exact BK200.out) hb); have n1_ := Aside0.mk (below_step (by repeat (first | (with_reducible first | exact HB.out | apply below_alloc | apply pw_below_drewN | apply below_drew1 | refine below_set ?_ GE200.out) | exact HB.out)) hb); clear BK200; clear HB; have BK200 := n0_; have HB := n1_; clear n0_ n1_; (try clear hb); (try clear hb2); (try clear hk); (try clear hi)))
    go_ret2
    exact ⟨by first | rfl | (simp [errW_none, errW_some] <;> rfl) | (simp [*, errW_none, errW_some] <;> rfl), by repeat (first | (with_reducible first | exact HB.out | apply below_alloc | apply pw_below_drewN | apply below_drew1 | refine below_set ?_ GE200.out) | exact HB.out)⟩

end Go.Proofs.YtnchkpheepbacaaDoor.Q
