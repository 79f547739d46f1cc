/- Printed for this session's own hand contracts by its own program; Lean checks every line. -/
import Derived.Test.YtnchkpheepbacaaDoorQ0
import Derived.Test.YtnchkpheepbacaaDoorQ1
import Derived.Test.YtnchkpheepbacaaDoorQ2
import Derived.Test.YtnchkpheepbacaaDoorQ3
namespace Go.Proofs.YtnchkpheepbacaaDoor.Q
open Go.Proofs.YtnchkpheepbacaaDoor.Hand
open Go.RowKit Go.Proofs.YtnchkpheepbacaaDoorW.PrintWords Go.Proofs.YtnchkpheepbacaaDoorW.PrintLast Go.Proofs.YtnchkpheepbacaaDoorW.PrintMore
attribute [local go_sem] max2_int min2_int max_two min_two max_three min_three max_four min_four   -- for this text's walks alone
set_option linter.unusedVariables false
set_option linter.unusedSimpArgs false

attribute [local go_sem high] eqA23
/-! ### datetime_Descriptor: function 27 -/
mutual
def datetime_Descriptor.j0 : Nat → Int → Bool → Int → Int → Int → Int → Int → Int → Option (ByteArray × Int)
 | 0, _, _, _, _, _, _, _, _ => none
 | k + 1, x1, x23, x150000, x150001, x150002, x150003, x150004, x150005 => if x23 = true then (some ((⟨#[]⟩ : ByteArray), 2)) else ((datetime_digits.f x150000 4).bind fun t151 => ((some (([x150001, x150002, x150003, x150004, x150005, 0] : List Int) : List Int)).bind fun y152 => (datetime_Descriptor.l0 k x1 t151 y152 (y152.length : Int) 0)))
def datetime_Descriptor.l0 : Nat → Int → ByteArray → List Int → Int → Int → Option (ByteArray × Int)
 | 0, _, _, _, _, _ => none
 | k + 1, x1, x8, x37, x38, x39 => if x39 < x38 then (if 0 ≤ x39 then (if x39 < (x37.length : Int) then ((datetime_digits.f (rd x37 x39) 2).bind fun t156 => (if x8.size + t156.size ≤ 9223372036854775807 then (datetime_Descriptor.l0 k x1 (x8 ++ t156) x37 x38 (wrap64 (x39 + 1))) else (none))) else (none)) else (none)) else ((some (([(IntKind.i8.wrap (wrap64 (Int.tdiv x1 15))) % 256] : List Int) : List Int)).bind fun y157 => (if x8.size + (strOfNums y157).size ≤ 9223372036854775807 then (some (x8 ++ (strOfNums y157), 0)) else (none)))
end
def datetime_Descriptor.f (k : Nat) (a0 : Int) (a1 : Int) : Option (ByteArray × Int) := (datetime_Split.f k a0 a1).bind fun bt142 => (if bt142.2.2.2.2.2.2 = 0 then ((datetime_isQuarter.f a1).bind fun t150 => (datetime_Descriptor.j0 k a1 (!t150) bt142.1 bt142.2.1 bt142.2.2.1 bt142.2.2.2.1 bt142.2.2.2.2.1 bt142.2.2.2.2.2.1)) else (datetime_Descriptor.j0 k a1 true bt142.1 bt142.2.1 bt142.2.2.1 bt142.2.2.2.1 bt142.2.2.2.2.1 bt142.2.2.2.2.2.1))
theorem datetime_Descriptor.mono_l : ∀ k, (∀ y0 y1 y2 y3 y4 y5 y6 y7, LeO (datetime_Descriptor.j0 k y0 y1 y2 y3 y4 y5 y6 y7) (datetime_Descriptor.j0 (k + 1) y0 y1 y2 y3 y4 y5 y6 y7)) ∧ (∀ y0 y1 y2 y3 y4, LeO (datetime_Descriptor.l0 k y0 y1 y2 y3 y4) (datetime_Descriptor.l0 (k + 1) y0 y1 y2 y3 y4))
 | 0 => ⟨fun _ _ _ _ _ _ _ _ r h => by simp [datetime_Descriptor.j0] at h, fun _ _ _ _ _ r h => by simp [datetime_Descriptor.l0] at h⟩
 | k + 1 => by
  obtain ⟨ih0, ih1⟩ := datetime_Descriptor.mono_l k
  refine ⟨?_, ?_⟩
  ·intro y0 y1 y2 y3 y4 y5 y6 y7
   unfold datetime_Descriptor.j0
   repeat' first
   | (with_reducible exact ih0 _ _ _ _ _ _ _ _)
   | (with_reducible exact ih1 _ _ _ _ _)
   | (with_reducible exact datetime_Split.mono _ _ _)
   | (with_reducible exact LeO.refl _)
   | (with_reducible exact LeO.none _)
   | (with_reducible refine LeO.ite ?_ ?_)
   | (with_reducible refine LeO.bind ?_ (fun _ => ?_))
   | exact ih0 _ _ _ _ _ _ _ _
   | exact ih1 _ _ _ _ _
   | exact datetime_Split.mono _ _ _
   | exact LeO.none _
   | refine LeO.ite ?_ ?_
   | refine LeO.bind ?_ (fun _ => ?_)
  ·intro y0 y1 y2 y3 y4
   unfold datetime_Descriptor.l0
   repeat' first
   | (with_reducible exact ih0 _ _ _ _ _ _ _ _)
   | (with_reducible exact ih1 _ _ _ _ _)
   | (with_reducible exact datetime_Split.mono _ _ _)
   | (with_reducible exact LeO.refl _)
   | (with_reducible exact LeO.none _)
   | (with_reducible refine LeO.ite ?_ ?_)
   | (with_reducible refine LeO.bind ?_ (fun _ => ?_))
   | exact ih0 _ _ _ _ _ _ _ _
   | exact ih1 _ _ _ _ _
   | exact datetime_Split.mono _ _ _
   | exact LeO.none _
   | refine LeO.ite ?_ ?_
   | refine LeO.bind ?_ (fun _ => ?_)
theorem datetime_Descriptor.mono : ∀ a0 a1 k, LeO (datetime_Descriptor.f k a0 a1) (datetime_Descriptor.f (k + 1) a0 a1) := by
 intro a0 a1 k
 obtain ⟨ih0, ih1⟩ := datetime_Descriptor.mono_l k
 unfold datetime_Descriptor.f
 repeat' first
   | (with_reducible exact ih0 _ _ _ _ _ _ _ _)
   | (with_reducible exact ih1 _ _ _ _ _)
   | (with_reducible exact datetime_Split.mono _ _ _)
   | (with_reducible exact LeO.refl _)
   | (with_reducible exact LeO.none _)
   | (with_reducible refine LeO.ite ?_ ?_)
   | (with_reducible refine LeO.bind ?_ (fun _ => ?_))
   | exact ih0 _ _ _ _ _ _ _ _
   | exact ih1 _ _ _ _ _
   | exact datetime_Split.mono _ _ _
   | exact LeO.none _
   | refine LeO.ite ?_ ?_
   | refine LeO.bind ?_ (fun _ => ?_)
set_option maxHeartbeats 8000000 in
set_option maxRecDepth 100000 in
theorem datetime_Descriptor.calls (k : Nat) (a0 : Int) (a1 : Int) (r1 : ByteArray) (r2 : Int) (w : World) (hG_ : HG w) (h : datetime_Descriptor.f k a0 a1 = some (r1, r2)) :
  Calls Tryd.prog 27 #[.int .i64 a0, .int .i64 a1] w fun e w' => e = .returned (.tuple #[.string r1, .int .i64 r2]) ∧ Below w.heap.size w w' := by
 have hu23 := Tryd.underlying23
 have HB := Aside0.mk (Below.refl w.heap.size w)
 have H : ((datetime_Split.f k a0 a1).bind fun bt142 => (if bt142.2.2.2.2.2.2 = 0 then ((datetime_isQuarter.f a1).bind fun t150 => (datetime_Descriptor.j0 k a1 (!t150) bt142.1 bt142.2.1 bt142.2.2.1 bt142.2.2.2.1 bt142.2.2.2.2.1 bt142.2.2.2.2.2.1)) else (datetime_Descriptor.j0 k a1 true bt142.1 bt142.2.1 bt142.2.2.1 bt142.2.2.2.1 bt142.2.2.2.2.1 bt142.2.2.2.2.2.1))) = some (r1, r2) := h
 clear h
 replace H := Option.bind_eq_some_iff.mp H
 obtain ⟨⟨t142, t143, t144, t145, t146, t147, t148⟩, A30, H⟩ := H
 replace H : (if t148 = 0 then ((datetime_isQuarter.f a1).bind fun t150 => (datetime_Descriptor.j0 k a1 (!t150) t142 t143 t144 t145 t146 t147)) else (datetime_Descriptor.j0 k a1 true t142 t143 t144 t145 t146 t147)) = some (r1, r2) := H
 have A3 := Aside0.mk A30
 clear A30
 have HC4 := Aside0.mk H
 clear H
 go_enter Tryd.func27, Tryd.ntmps27
 go_upto_region 2 with (first | ((with_reducible refine gate_callee (f := 12) rfl ?_); refine goesL_ (some 14) rfl rfl Tryd.func12 (by kernel_rfl) rfl #[.int .i64 a0, .int .i64 a1] rfl (by ((try simp only [List.map_toArray, List.map_cons, List.map_nil]); first | done | rfl | (simp only [List.length_drop, List.length_take]; rfl))) ?_; (with_reducible refine (datetime_Split.calls k a0 a1 t142 t143 t144 t145 t146 t147 t148 _ A3.out).mono ?_); rintro e w5 ⟨rfl, hb⟩; refine ⟨_, rfl, ?_⟩; have n0_ := Aside0.mk (below_step (by repeat (first | (with_reducible first | exact HB.out | apply below_alloc | apply pw_below_drewN | apply below_drew1) | exact HB.out)) hb); clear HB; have HB := n0_; clear n0_; ((try clear hb); (try clear hb2); (try clear hk); (try clear hi))) | ((with_reducible refine gate_dst (N := 6) rfl ?_); refine box_event ?hg (N := 6) ?hd (cs := #[.int .i64 0, .int .i64 0, .int .i64 0, .int .i64 0, .int .i64 0, .int .i64 0]) (t := 23) ?hr ?_; (case hd => rfl); (case hg => rfl); (case hr => first | (go_simp; done) | (go_simp; rfl)); intro gb149 hg w6 hbox hb; have n0_ := Aside0.mk (below_step (by repeat (first | (with_reducible first | exact HB.out | apply below_alloc | apply pw_below_drewN | apply below_drew1) | exact HB.out)) hb); have n1_ := Aside0.mk (hbox); have n2_ := Aside0.mk ((by rw [hg]; exact (below_size (by repeat (first | (with_reducible first | exact HB.out | apply below_alloc | apply pw_below_drewN | apply below_drew1) | exact HB.out))) : w.heap.size ≤ gb149)); have n3_ := Aside0.mk ((by rw [hg]; exact (below_size (by repeat (first | (with_reducible first | exact HB.out | apply below_alloc | apply pw_below_drewN | apply below_drew1) | exact HB.out))) : w.heap.size ≤ gb149)); clear HB; have HB := n0_; have BK149 := n1_; have GW149 := n2_; have GE149 := n3_; clear n0_ n1_ n2_ n3_; clear hb hbox hg; have hcz7_0 : w6.cell? ⟨gb149, 0, none⟩ = some (.int .i64 0) := (blk_cell BK149.out 0).trans rfl; have hcz7_1 : w6.cell? ⟨gb149, 1, none⟩ = some (.int .i64 0) := (blk_cell BK149.out 1).trans rfl; have hcz7_2 : w6.cell? ⟨gb149, 2, none⟩ = some (.int .i64 0) := (blk_cell BK149.out 2).trans rfl; have hcz7_3 : w6.cell? ⟨gb149, 3, none⟩ = some (.int .i64 0) := (blk_cell BK149.out 3).trans rfl; have hcz7_4 : w6.cell? ⟨gb149, 4, none⟩ = some (.int .i64 0) := (blk_cell BK149.out 4).trans rfl; have hcz7_5 : w6.cell? ⟨gb149, 5, none⟩ = some (.int .i64 0) := (blk_cell BK149.out 5).trans rfl; have hfz7_0 := blk_frozen BK149.out 0; have hfz7_1 := blk_frozen BK149.out 1; have hfz7_2 := blk_frozen BK149.out 2; have hfz7_3 := blk_frozen BK149.out 3; have hfz7_4 := blk_frozen BK149.out 4; have hfz7_5 := blk_frozen BK149.out 5))
 (try simp only [Act.put, List.setIfInBounds_toArray, List.set_cons_zero, List.set_cons_succ])
 go_cut [23] (fun v23 wc => ∃ (kq : Nat) (x23_3 : Bool), v23 = .bool x23_3 ∧ Aside0 (datetime_Descriptor.j0 kq a1 x23_3 t142 t143 t144 t145 t146 t147 = some (r1, r2)) ∧ Aside0 (kq ≤ k) ∧ Aside0 (wc.heap[gb149]? = some (.cells #[.int .i64 t142, .int .i64 t143, .int .i64 t144, .int .i64 t145, .int .i64 t146, .int .i64 t147] 23 (0, 0))) ∧ Aside0 (Below w.heap.size w wc))
 case first =>
  have H := HC4.out
  clear HC4
  by_cases c8 : t148 = 0
  ·rw [if_pos c8] at H
   have c8b0 : (t148 == 0) = true := beq_iff_eq.mpr c8
   have c8b1 : (t148 != 0) = false := bne_eq_false_iff_eq.mpr c8
   clear c8
   (first | rw [c8b0] | (simp only [i64_w, i32_w]; rw [c8b0]) | skip)
   replace H := Option.bind_eq_some_iff.mp H
   obtain ⟨t150, A90, H⟩ := H
   replace H : (datetime_Descriptor.j0 k a1 (!t150) t142 t143 t144 t145 t146 t147) = some (r1, r2) := H
   have A9 := Aside0.mk A90
   clear A90
   have H' := Aside0.mk H
   clear H
   go_wp2_with (first | (go_at_call 42; (with_reducible refine (datetime_isQuarter.calls a1 t150 _ A9.out).mono ?_); rintro e w' ⟨rfl, ⟨nd, rfl⟩⟩))
   go_meet
   case rel => exact ⟨_, (!t150), (by first | rfl | (simp; done) | (simp [*]; done)), H', ⟨by first | omega | exact Nat.le_refl _⟩, ⟨by (with_reducible repeat (first | refine blk_drewN ?_ _ | refine blk_drew ?_ | refine blk_alloc ?_ _)); refine blk_put (cs := #[.int .i64 t142, .int .i64 t143, .int .i64 t144, .int .i64 t145, .int .i64 t146, .int .i64 0]) ?_ 5 _ rfl; (with_reducible repeat (first | refine blk_drewN ?_ _ | refine blk_drew ?_ | refine blk_alloc ?_ _)); refine blk_put (cs := #[.int .i64 t142, .int .i64 t143, .int .i64 t144, .int .i64 t145, .int .i64 0, .int .i64 0]) ?_ 4 _ rfl; (with_reducible repeat (first | refine blk_drewN ?_ _ | refine blk_drew ?_ | refine blk_alloc ?_ _)); refine blk_put (cs := #[.int .i64 t142, .int .i64 t143, .int .i64 t144, .int .i64 0, .int .i64 0, .int .i64 0]) ?_ 3 _ rfl; (with_reducible repeat (first | refine blk_drewN ?_ _ | refine blk_drew ?_ | refine blk_alloc ?_ _)); refine blk_put (cs := #[.int .i64 t142, .int .i64 t143, .int .i64 0, .int .i64 0, .int .i64 0, .int .i64 0]) ?_ 2 _ rfl; (with_reducible repeat (first | refine blk_drewN ?_ _ | refine blk_drew ?_ | refine blk_alloc ?_ _)); refine blk_put (cs := #[.int .i64 t142, .int .i64 0, .int .i64 0, .int .i64 0, .int .i64 0, .int .i64 0]) ?_ 1 _ rfl; (with_reducible repeat (first | refine blk_drewN ?_ _ | refine blk_drew ?_ | refine blk_alloc ?_ _)); refine blk_put (cs := #[.int .i64 0, .int .i64 0, .int .i64 0, .int .i64 0, .int .i64 0, .int .i64 0]) ?_ 0 _ rfl; (with_reducible repeat (first | refine blk_drewN ?_ _ | refine blk_drew ?_ | refine blk_alloc ?_ _)); exact BK149.out⟩, ⟨by repeat (first | (with_reducible first | exact HB.out | apply below_alloc | apply pw_below_drewN | apply below_drew1 | refine below_set ?_ GE149.out) | exact HB.out)⟩⟩
  ·rw [if_neg c8] at H
   have c8b0 : (t148 == 0) = false := beq_eq_false_iff_ne.mpr c8
   have c8b1 : (t148 != 0) = true := bne_iff_ne.mpr c8
   (first | rw [c8b0] | (simp only [i64_w, i32_w]; rw [c8b0]) | skip)
   have H' := Aside0.mk H
   clear H
   go_wp2
   go_meet
   case rel => exact ⟨_, (true), (by first | rfl | (simp; done) | (simp [*]; done)), H', ⟨by first | omega | exact Nat.le_refl _⟩, ⟨by (with_reducible repeat (first | refine blk_drewN ?_ _ | refine blk_drew ?_ | refine blk_alloc ?_ _)); refine blk_put (cs := #[.int .i64 t142, .int .i64 t143, .int .i64 t144, .int .i64 t145, .int .i64 t146, .int .i64 0]) ?_ 5 _ rfl; (with_reducible repeat (first | refine blk_drewN ?_ _ | refine blk_drew ?_ | refine blk_alloc ?_ _)); refine blk_put (cs := #[.int .i64 t142, .int .i64 t143, .int .i64 t144, .int .i64 t145, .int .i64 0, .int .i64 0]) ?_ 4 _ rfl; (with_reducible repeat (first | refine blk_drewN ?_ _ | refine blk_drew ?_ | refine blk_alloc ?_ _)); refine blk_put (cs := #[.int .i64 t142, .int .i64 t143, .int .i64 t144, .int .i64 0, .int .i64 0, .int .i64 0]) ?_ 3 _ rfl; (with_reducible repeat (first | refine blk_drewN ?_ _ | refine blk_drew ?_ | refine blk_alloc ?_ _)); refine blk_put (cs := #[.int .i64 t142, .int .i64 t143, .int .i64 0, .int .i64 0, .int .i64 0, .int .i64 0]) ?_ 2 _ rfl; (with_reducible repeat (first | refine blk_drewN ?_ _ | refine blk_drew ?_ | refine blk_alloc ?_ _)); refine blk_put (cs := #[.int .i64 t142, .int .i64 0, .int .i64 0, .int .i64 0, .int .i64 0, .int .i64 0]) ?_ 1 _ rfl; (with_reducible repeat (first | refine blk_drewN ?_ _ | refine blk_drew ?_ | refine blk_alloc ?_ _)); refine blk_put (cs := #[.int .i64 0, .int .i64 0, .int .i64 0, .int .i64 0, .int .i64 0, .int .i64 0]) ?_ 0 _ rfl; (with_reducible repeat (first | refine blk_drewN ?_ _ | refine blk_drew ?_ | refine blk_alloc ?_ _)); exact BK149.out⟩, ⟨by repeat (first | (with_reducible first | exact HB.out | apply below_alloc | apply pw_below_drewN | apply below_drew1 | refine below_set ?_ GE149.out) | exact HB.out)⟩⟩
 case rest =>
  clear HC4
  try clear c1
  try clear c2
  try clear p2
  try clear c8
  try clear c8b0
  try clear c8b1
  try clear hcz7_0
  try clear hcz7_1
  try clear hcz7_2
  try clear hcz7_3
  try clear hcz7_4
  try clear hcz7_5
  try clear hfz7_0
  try clear hfz7_1
  try clear hfz7_2
  try clear hfz7_3
  try clear hfz7_4
  try clear hfz7_5
  obtain ⟨kq, x23_3, rfl, HA, HJ3, BK149, HB⟩ := hcut
  cases kq with
  | zero => exact absurd HA.out (by simp [datetime_Descriptor.j0])
  | succ kj3 =>
   have H := HA.out
   clear HA
   simp only [datetime_Descriptor.j0] at H
   by_cases c10 : x23_3 = true
   ·subst c10
    have H1 : (some ((⟨#[]⟩ : ByteArray), 2)) = some (r1, r2) := by rw [if_pos rfl] at H; exact H
    clear H
    have H := H1
    clear H1
    simp only [Option.some.injEq, Prod.mk.injEq] at H
    obtain ⟨rfl, rfl⟩ := H
    go_wp2
    go_ret2
    exact ⟨by (first | rfl | (simp [errW_none, errW_some] <;> rfl) | (simp [*, errW_none, errW_some] <;> rfl)), by repeat (first | (with_reducible first | exact HB.out | apply below_alloc | apply pw_below_drewN | apply below_drew1 | refine below_set ?_ GE149.out) | exact HB.out)⟩
   ·replace c10 := Bool.eq_false_iff.mpr c10
    subst c10
    have H1 : ((datetime_digits.f t142 4).bind fun t151 => ((some (([t143, t144, t145, t146, t147, 0] : List Int) : List Int)).bind fun y152 => (datetime_Descriptor.l0 kj3 a1 t151 y152 (y152.length : Int) 0))) = some (r1, r2) := by rw [if_neg (show ¬ (false = true) by decide)] at H; exact H
    clear H
    have H := H1
    clear H1
    replace H := Option.bind_eq_some_iff.mp H
    obtain ⟨t151, A110, H⟩ := H
    replace H : ((some (([t143, t144, t145, t146, t147, 0] : List Int) : List Int)).bind fun y152 => (datetime_Descriptor.l0 kj3 a1 t151 y152 (y152.length : Int) 0)) = some (r1, r2) := H
    have A11 := Aside0.mk A110
    clear A110
    obtain ⟨y152, hy152⟩ : ∃ y_ : List Int, y_ = (([t143, t144, t145, t146, t147, 0] : List Int)) := ⟨_, rfl⟩
    replace H : (datetime_Descriptor.l0 kj3 a1 t151 y152 (y152.length : Int) 0) = some (r1, r2) := by first | (rw [hy152]; with_reducible exact H) | (have H2_ := (Option.bind_some _ _).symm.trans H; rw [hy152]; with_reducible exact H2_) | (have H2_ := (Option.bind_some _ _).symm.trans H; with_reducible exact H2_) | with_reducible exact H | (rw [hy152]; exact H) | exact H
    have Ny152 := Aside0.mk hy152
    clear hy152
    have H' := Aside0.mk H
    clear H
    have hcz12_0 : wc.cell? ⟨gb149, 0, none⟩ = some (.int .i64 t142) := (blk_cell BK149.out 0).trans rfl
    have hcz12_1 : wc.cell? ⟨gb149, 1, none⟩ = some (.int .i64 t143) := (blk_cell BK149.out 1).trans rfl
    have hcz12_2 : wc.cell? ⟨gb149, 2, none⟩ = some (.int .i64 t144) := (blk_cell BK149.out 2).trans rfl
    have hcz12_3 : wc.cell? ⟨gb149, 3, none⟩ = some (.int .i64 t145) := (blk_cell BK149.out 3).trans rfl
    have hcz12_4 : wc.cell? ⟨gb149, 4, none⟩ = some (.int .i64 t146) := (blk_cell BK149.out 4).trans rfl
    have hcz12_5 : wc.cell? ⟨gb149, 5, none⟩ = some (.int .i64 t147) := (blk_cell BK149.out 5).trans rfl
    have hfz12_0 := blk_frozen BK149.out 0
    have hfz12_1 := blk_frozen BK149.out 1
    have hfz12_2 := blk_frozen BK149.out 2
    have hfz12_3 := blk_frozen BK149.out 3
    have hfz12_4 := blk_frozen BK149.out 4
    have hfz12_5 := blk_frozen BK149.out 5
    go_wp2_with (first | ((with_reducible refine gate_callee (f := 48) rfl ?_); refine goesL_ (some 26) rfl rfl Tryd.func48 (by kernel_rfl) rfl #[.int .i64 t142, .int .i64 4] rfl (by ((try simp only [List.map_toArray, List.map_cons, List.map_nil]); first | done | rfl | (simp only [List.length_drop, List.length_take]; rfl))) ?_; (with_reducible refine (datetime_digits.calls t142 4 t151 _ ?side1 A11.out).mono ?_); (case side1 => exact HG.below hG_ (by repeat (first | (with_reducible first | exact HB.out | apply below_alloc | apply pw_below_drewN | apply below_drew1 | refine below_set ?_ GE149.out) | exact HB.out))); rintro e w13 ⟨rfl, hb⟩; refine ⟨_, rfl, ?_⟩; have n0_ := Aside0.mk (blk_below (g := gb149) (o := .cells #[.int .i64 t142, .int .i64 t143, .int .i64 t144, .int .i64 t145, .int .i64 t146, .int .i64 t147] 23 (0, 0)) (by (with_reducible repeat (first | refine blk_drewN ?_ _ | refine blk_drew ?_ | refine blk_alloc ?_ _)); exact BK149.out) hb); have n1_ := Aside0.mk (below_step (by repeat (first | (with_reducible first | exact HB.out | apply below_alloc | apply pw_below_drewN | apply below_drew1 | refine below_set ?_ GE149.out) | exact HB.out)) hb); clear BK149; clear HB; have BK149 := n0_; have HB := n1_; clear n0_ n1_; ((try clear hb); (try clear hb2); (try clear hk); (try clear hi)); have hcz14_0 : w13.cell? ⟨gb149, 0, none⟩ = some (.int .i64 t142) := (blk_cell BK149.out 0).trans rfl; have hcz14_1 : w13.cell? ⟨gb149, 1, none⟩ = some (.int .i64 t143) := (blk_cell BK149.out 1).trans rfl; have hcz14_2 : w13.cell? ⟨gb149, 2, none⟩ = some (.int .i64 t144) := (blk_cell BK149.out 2).trans rfl; have hcz14_3 : w13.cell? ⟨gb149, 3, none⟩ = some (.int .i64 t145) := (blk_cell BK149.out 3).trans rfl; have hcz14_4 : w13.cell? ⟨gb149, 4, none⟩ = some (.int .i64 t146) := (blk_cell BK149.out 4).trans rfl; have hcz14_5 : w13.cell? ⟨gb149, 5, none⟩ = some (.int .i64 t147) := (blk_cell BK149.out 5).trans rfl; have hfz14_0 := blk_frozen BK149.out 0; have hfz14_1 := blk_frozen BK149.out 1; have hfz14_2 := blk_frozen BK149.out 2; have hfz14_3 := blk_frozen BK149.out 3; have hfz14_4 := blk_frozen BK149.out 4; have hfz14_5 := blk_frozen BK149.out 5) | ((with_reducible refine gate_dst (N := 37) rfl ?_); refine Kd.R_lit (Kd.int .i64) _ 3 ?hg (N := 37) ?hd (xs := ([t143, t144, t145, t146, t147, 0] : List Int)) (inner := [.int .i64 t143, .int .i64 t144, .int .i64 t145, .int .i64 t146, .int .i64 t147, .int .i64 0]) (ok := fun _ => True) (okp := fun _ => True) ?hr ?hp (fun _ hk => hk) trivial (Below.refl _ _) (Nat.le_refl _) (by simp) ?_; (case hd => rfl); (case hg => rfl); (case hr => first | (go_simp; done) | (go_simp; rfl)); (case hp => exact (Reps.one (show Kd.M (Kd.int .i64) _ _ _ t143 [.int .i64 t143] from rfl) (Reps.one (show Kd.M (Kd.int .i64) _ _ _ t144 [.int .i64 t144] from rfl) (Reps.one (show Kd.M (Kd.int .i64) _ _ _ t145 [.int .i64 t145] from rfl) (Reps.one (show Kd.M (Kd.int .i64) _ _ _ t146 [.int .i64 t146] from rfl) (Reps.one (show Kd.M (Kd.int .i64) _ _ _ t147 [.int .i64 t147] from rfl) (Reps.one (show Kd.M (Kd.int .i64) _ _ _ 0 [.int .i64 0] from rfl) (Reps.none _ _)))))))); intro v153 w15 ho16 hb hg_ hnew_; clear hg_ hnew_; (first | rw [← Ny152.out] at ho16 | (simp only [Int.reduceToNat] at ho16; rw [← Ny152.out] at ho16)); have n0_ := Aside0.mk (Kd.R_lower ho16 (below_size (by repeat (first | (with_reducible first | exact HB.out | apply below_alloc | apply pw_below_drewN | apply below_drew1 | refine below_set ?_ GE149.out) | exact HB.out)))); have n1_ := Aside0.mk (blk_below (g := gb149) (o := .cells #[.int .i64 t142, .int .i64 t143, .int .i64 t144, .int .i64 t145, .int .i64 t146, .int .i64 t147] 23 (0, 0)) (by (with_reducible repeat (first | refine blk_drewN ?_ _ | refine blk_drew ?_ | refine blk_alloc ?_ _)); exact BK149.out) hb); have n2_ := Aside0.mk (below_step (by repeat (first | (with_reducible first | exact HB.out | apply below_alloc | apply pw_below_drewN | apply below_drew1 | refine below_set ?_ GE149.out) | exact HB.out)) hb); clear BK149; clear HB; have HO154 := n0_; have BK149 := n1_; have HB := n2_; clear n0_ n1_ n2_; clear hb ho16; obtain ⟨Ao17, co17, eo17⟩ := Kd.R_slice HO154.out; subst eo17))
    go_loopg [8, 39] kj3 (fun kq v8 v39 w' => ∃ (x8_2 : ByteArray) (x39_2 : Int), v8 = .string x8_2 ∧ v39 = .int .i64 x39_2 ∧ Aside0 (datetime_Descriptor.l0 kq a1 x8_2 y152 (y152.length : Int) x39_2 = some (r1, r2)) ∧ Aside0 (kq ≤ kj3) ∧ Aside0 (Kd.R (Kd.int .i64) 3 w' w.heap.size (fun _ => True) (.slice Ao17 y152.length co17) y152) ∧ Aside0 (w'.heap[gb149]? = some (.cells #[.int .i64 t142, .int .i64 t143, .int .i64 t144, .int .i64 t145, .int .i64 t146, .int .i64 t147] 23 (0, 0))) ∧ Aside0 (Below w.heap.size w w'))
    case atStart => exact ⟨(t151), (0), (by first | rfl | (simp; done) | (simp [*]; done)), (by first | rfl | (simp; done) | (simp [*]; done)), H', ⟨Nat.le_refl _⟩, ⟨by (with_reducible repeat (first | apply Kd.R_alloc | apply Kd.R_drewN | apply Kd.R_drew)); exact HO154.out⟩, ⟨by (with_reducible repeat (first | refine blk_drewN ?_ _ | refine blk_drew ?_ | refine blk_alloc ?_ _)); exact BK149.out⟩, ⟨by repeat (first | (with_reducible first | exact HB.out | apply below_alloc | apply pw_below_drewN | apply below_drew1 | refine below_set ?_ GE149.out) | exact HB.out)⟩⟩
    case round =>
     clear H'
     try clear c1
     try clear c2
     try clear p2
     try clear c4
     try clear c8
     try clear c8b0
     try clear c8b1
     try clear c10
     try clear c12
     try clear hcz12_0
     try clear hcz12_1
     try clear hcz12_2
     try clear hcz12_3
     try clear hcz12_4
     try clear hcz12_5
     try clear hcz14_0
     try clear hcz14_1
     try clear hcz14_2
     try clear hcz14_3
     try clear hcz14_4
     try clear hcz14_5
     try clear hcz7_0
     try clear hcz7_1
     try clear hcz7_2
     try clear hcz7_3
     try clear hcz7_4
     try clear hcz7_5
     try clear hfz12_0
     try clear hfz12_1
     try clear hfz12_2
     try clear hfz12_3
     try clear hfz12_4
     try clear hfz12_5
     try clear hfz14_0
     try clear hfz14_1
     try clear hfz14_2
     try clear hfz14_3
     try clear hfz14_4
     try clear hfz14_5
     try clear hfz7_0
     try clear hfz7_1
     try clear hfz7_2
     try clear hfz7_3
     try clear hfz7_4
     try clear hfz7_5
     try clear p2
     obtain ⟨x8_2, x39_2, rfl, rfl, HA, HK2, HO_37, BK149, HB⟩ := hrel
     cases gk with
     | zero => exact absurd HA.out (by simp [datetime_Descriptor.l0])
     | succ k2 =>
      have H := HA.out
      clear HA
      simp only [datetime_Descriptor.l0] at H
      by_cases c18 : x39_2 < (y152.length : Int)
      ·rw [if_pos c18] at H
       have c18b0 : decide (x39_2 < (y152.length : Int)) = true := decide_eq_true c18
       clear c18
       by_cases c19 : 0 ≤ x39_2
       ·rw [if_pos c19] at H
        have c19b0 : decide (0 ≤ x39_2) = true := decide_eq_true c19
        clear c19
        by_cases c20 : x39_2 < (y152.length : Int)
        ·rw [if_pos c20] at H
         have c20b0 : decide (x39_2 < (y152.length : Int)) = true := decide_eq_true c20
         clear c20
         replace H := Option.bind_eq_some_iff.mp H
         obtain ⟨t156, A210, H⟩ := H
         replace H : (if x8_2.size + t156.size ≤ 9223372036854775807 then (datetime_Descriptor.l0 k2 a1 (x8_2 ++ t156) y152 (y152.length : Int) (wrap64 (x39_2 + 1))) else (none)) = some (r1, r2) := H
         have A21 := Aside0.mk A210
         clear A210
         by_cases c22 : x8_2.size + t156.size ≤ 9223372036854775807
         ·rw [if_pos c22] at H
          have c22b0 := eq_true c22
          have c22b1 : decide (x8_2.size + t156.size ≤ 9223372036854775807) = true := decide_eq_true c22
          try have c22b2 : (9223372036854775807 < x8_2.size + t156.size) = False := eq_false (Nat.not_lt.2 c22)
          have H' := Aside0.mk H
          clear H
          have p155 : 0 ≤ (x39_2 : Int) := of_decide_eq_true (by first | (with_reducible assumption) | assumption)
          have q155 : x39_2 < (y152.length : Int) := of_decide_eq_true (by first | (with_reducible assumption) | assumption)
          obtain ⟨ad155, e155, hx155_0⟩ := Kd.at_int (Kd.R_reads' HO_37.out).2.2 x39_2 p155 q155
          cases e155
          replace p155 := eq_true p155
          replace q155 := eq_true q155
          go_wp2_with (first | ((with_reducible refine gate_callee (f := 48) rfl ?_); refine goesL_ (some 45) rfl rfl Tryd.func48 (by kernel_rfl) rfl #[.int .i64 (rd y152 x39_2), .int .i64 2] rfl (by ((try simp only [List.map_toArray, List.map_cons, List.map_nil]); first | done | rfl | (simp only [List.length_drop, List.length_take]; rfl))) ?_; (with_reducible refine (datetime_digits.calls (rd y152 x39_2) 2 t156 _ ?side1 A21.out).mono ?_); (case side1 => exact HG.below hG_ (by repeat (first | (with_reducible first | exact HB.out | apply below_alloc | apply pw_below_drewN | apply below_drew1 | refine below_set ?_ GE149.out) | exact HB.out))); rintro e w23 ⟨rfl, hb⟩; refine ⟨_, rfl, ?_⟩; have n0_ := Aside0.mk (Kd.R_below (by (with_reducible repeat (first | apply Kd.R_alloc | apply Kd.R_drewN | apply Kd.R_drew)); exact HO_37.out) hb); have n1_ := Aside0.mk (blk_below (g := gb149) (o := .cells #[.int .i64 t142, .int .i64 t143, .int .i64 t144, .int .i64 t145, .int .i64 t146, .int .i64 t147] 23 (0, 0)) (by (with_reducible repeat (first | refine blk_drewN ?_ _ | refine blk_drew ?_ | refine blk_alloc ?_ _)); exact BK149.out) hb); have n2_ := Aside0.mk (below_step (by repeat (first | (with_reducible first | exact HB.out | apply below_alloc | apply pw_below_drewN | apply below_drew1 | refine below_set ?_ GE149.out) | exact HB.out)) hb); clear HO_37; clear BK149; clear HB; have HO_37 := n0_; have BK149 := n1_; have HB := n2_; clear n0_ n1_ n2_; ((try clear hb); (try clear hb2); (try clear hk); (try clear hi))))
          go_roundg k2
          case measure => have := HJ3.out; have := HK2.out; omega
          case rel => exact ⟨(x8_2 ++ t156), (wrap64 (x39_2 + 1)), (by first | rfl | (simp; done) | (simp [*]; done)), (by first | rfl | (simp; done) | (simp [*]; done)), H', ⟨by have := HJ3.out; have := HK2.out; omega⟩, ⟨by (with_reducible repeat (first | apply Kd.R_alloc | apply Kd.R_drewN | apply Kd.R_drew)); exact HO_37.out⟩, ⟨by (with_reducible repeat (first | refine blk_drewN ?_ _ | refine blk_drew ?_ | refine blk_alloc ?_ _)); exact BK149.out⟩, ⟨by repeat (first | (with_reducible first | exact HB.out | apply below_alloc | apply pw_below_drewN | apply below_drew1 | refine below_set ?_ GE149.out) | exact HB.out)⟩⟩
         ·rw [if_neg c22] at H
          exact absurd H (by simp)
        ·rw [if_neg c20] at H
         exact absurd H (by simp)
       ·rw [if_neg c19] at H
        exact absurd H (by simp)
      ·rw [if_neg c18] at H
       have c18b0 : decide (x39_2 < (y152.length : Int)) = false := decide_eq_false c18
       clear c18
       obtain ⟨y157, hy157⟩ : ∃ y_ : List Int, y_ = (([(IntKind.i8.wrap (wrap64 (Int.tdiv a1 15))) % 256] : List Int)) := ⟨_, rfl⟩
       replace H : (if x8_2.size + (strOfNums y157).size ≤ 9223372036854775807 then (some (x8_2 ++ (strOfNums y157), 0)) else (none)) = some (r1, r2) := by first | (rw [hy157]; with_reducible exact H) | (have H2_ := (Option.bind_some _ _).symm.trans H; rw [hy157]; with_reducible exact H2_) | (have H2_ := (Option.bind_some _ _).symm.trans H; with_reducible exact H2_) | with_reducible exact H | (rw [hy157]; exact H) | exact H
       have Ny157 := Aside0.mk hy157
       clear hy157
       by_cases c24 : x8_2.size + (strOfNums y157).size ≤ 9223372036854775807
       ·rw [if_pos c24] at H
        have c24b0 := eq_true c24
        have c24b1 : decide (x8_2.size + (strOfNums y157).size ≤ 9223372036854775807) = true := decide_eq_true c24
        try have c24b2 : (9223372036854775807 < x8_2.size + (strOfNums y157).size) = False := eq_false (Nat.not_lt.2 c24)
        simp only [Option.some.injEq, Prod.mk.injEq] at H
        obtain ⟨rfl, rfl⟩ := H
        go_wp2_with (first | ((with_reducible refine gate_dst (N := 53) rfl ?_); refine Kd.R_lit (Kd.int .u8) _ 5 ?hg (N := 53) ?hd (xs := ([(IntKind.i8.wrap (wrap64 (Int.tdiv a1 15))) % 256] : List Int)) (inner := [.int .u8 ((IntKind.i8.wrap (wrap64 (Int.tdiv a1 15))) % 256)]) (ok := fun _ => True) (okp := fun _ => True) ?hr ?hp (fun _ hk => hk) trivial (Below.refl _ _) (Nat.le_refl _) (by simp) ?_; (case hd => rfl); (case hg => rfl); (case hr => first | (go_simp; done) | (go_simp; rfl)); (case hp => exact (Reps.one (show Kd.M (Kd.int .u8) _ _ _ ((IntKind.i8.wrap (wrap64 (Int.tdiv a1 15))) % 256) [.int .u8 ((IntKind.i8.wrap (wrap64 (Int.tdiv a1 15))) % 256)] from rfl) (Reps.none _ _))); intro v158 w25 ho26 hb hg_ hnew_; clear hg_ hnew_; (first | rw [← Ny157.out] at ho26 | (simp only [Int.reduceToNat] at ho26; rw [← Ny157.out] at ho26)); have n0_ := Aside0.mk (Kd.R_below (by (with_reducible repeat (first | apply Kd.R_alloc | apply Kd.R_drewN | apply Kd.R_drew)); exact HO_37.out) hb); have n1_ := Aside0.mk (Kd.R_lower ho26 (below_size (by repeat (first | (with_reducible first | exact HB.out | apply below_alloc | apply pw_below_drewN | apply below_drew1 | refine below_set ?_ GE149.out) | exact HB.out)))); have n2_ := Aside0.mk (blk_below (g := gb149) (o := .cells #[.int .i64 t142, .int .i64 t143, .int .i64 t144, .int .i64 t145, .int .i64 t146, .int .i64 t147] 23 (0, 0)) (by (with_reducible repeat (first | refine blk_drewN ?_ _ | refine blk_drew ?_ | refine blk_alloc ?_ _)); exact BK149.out) hb); have n3_ := Aside0.mk (below_step (by repeat (first | (with_reducible first | exact HB.out | apply below_alloc | apply pw_below_drewN | apply below_drew1 | refine below_set ?_ GE149.out) | exact HB.out)) hb); clear HO_37; clear BK149; clear HB; have HO_37 := n0_; have HO159 := n1_; have BK149 := n2_; have HB := n3_; clear n0_ n1_ n2_ n3_; clear hb ho26; have hcv27 := own_string (P := Tryd.prog) Tryd.underlying47 Tryd.underlying5 Tryd.underlying9 (Kd.own_of_R HO159.out)))
        go_ret2
        exact ⟨by (first | rfl | (simp [errW_none, errW_some] <;> rfl) | (simp [*, errW_none, errW_some] <;> rfl)), by repeat (first | (with_reducible first | exact HB.out | apply below_alloc | apply pw_below_drewN | apply below_drew1 | refine below_set ?_ GE149.out) | exact HB.out)⟩
       ·rw [if_neg c24] at H
        exact absurd H (by simp)

/-! ### datetime_Unspecified: function 32 -/
def datetime_Unspecified.f  : Option (ByteArray) := some (⟨#[48, 48, 48, 48, 48, 48, 48, 48, 48, 48, 48, 48, 48, 48, 48, 48, 0]⟩ : ByteArray)
set_option maxHeartbeats 8000000 in
set_option maxRecDepth 100000 in
theorem datetime_Unspecified.calls  (r : ByteArray) (w : World) (h : datetime_Unspecified.f  = some r) :
  Calls Tryd.prog 32 #[] w fun e w' => e = .returned (.string r) ∧ Drawn0 w w' := by
 have H : (some (⟨#[48, 48, 48, 48, 48, 48, 48, 48, 48, 48, 48, 48, 48, 48, 48, 48, 0]⟩ : ByteArray)) = some r := h
 clear h
 obtain rfl := Option.some.inj H
 go_enter Tryd.func32, Tryd.ntmps32
 go_wp2
 go_ret
 exact ⟨by first | rfl | (simp; done) | (simp [*]; done), by repeat (first | exact Drawn0.refl _ | apply Drawn0.step)⟩

/-! ### masterdisclaw16_awake: function 11 -/
def masterdisclaw16_awake.g (k : Nat)  : Option (Bool) := (datetime_Split.f k 1794845045 60).bind fun bt160 => ((datetime_Join.f k bt160.1 bt160.2.1 bt160.2.2.1 bt160.2.2.2.1 bt160.2.2.2.2.1 bt160.2.2.2.2.2.1 60).bind fun bt168 => ((datetime_Record.f k 1794845045 60).bind fun bt170 => ((datetime_Descriptor.f k 1794845045 60).bind fun bt172 => ((datetime_Stamp.f k 1794845045 60).bind fun bt174 => ((datetime_Stamp.f k 1794845045 (-60)).bind fun bt176 => (if bt160.2.2.2.2.2.2 = 0 then (if (bt160.1 == 2026 && (bt160.2.1 == 11 && (bt160.2.2.1 == 16 && (bt160.2.2.2.1 == 17 && (bt160.2.2.2.2.1 == 4 && (bt160.2.2.2.2.2.1 == 5)))))) = true then (if bt168.2 = 0 then (if bt168.1 = 1794845045 then (if bt170.2 = 0 then (if bt170.1.toList = ([126, 11, 16, 17, 4, 5, 4] : List UInt8) then (if bt172.2 = 0 then (if bt172.1.toList = ([50, 48, 50, 54, 49, 49, 49, 54, 49, 55, 48, 52, 48, 53, 48, 48, 4] : List UInt8) then (if bt174.2 = 0 then (if bt174.1.toList = ([60, 16, 234, 7, 11, 16, 17, 4, 5, 0, 0, 0] : List UInt8) then (if bt176.2 = 0 then (if (bt176.1.size : Int) = 12 then (if 0 ≤ 2 then (if 2 ≤ (bt176.1.size : Int) then (if (bt176.1.extract 0 2).toList = ([196, 31] : List UInt8) then ((datetime_Unspecified.f).bind fun t178 => (some (t178.toList == ([48, 48, 48, 48, 48, 48, 48, 48, 48, 48, 48, 48, 48, 48, 48, 48, 0] : List UInt8)))) else (some false)) else (none)) else (none)) else (some false)) else (some false)) else (some false)) else (some false)) else (some false)) else (some false)) else (some false)) else (some false)) else (some false)) else (some false)) else (some false)) else (some false)))))))
set_option maxHeartbeats 8000000 in
set_option maxRecDepth 100000 in
theorem masterdisclaw16_awake.gcalls (k : Nat)  (r : Bool) (w : World) (hG_ : HG w) (hr_ : r = true) (h : masterdisclaw16_awake.g k  = some r) :
  Calls Tryd.prog 11 #[] w fun e w' => e = .returned (.bool r) ∧ Below w.heap.size w w' := by
 have hu23 := Tryd.underlying23
 have HB := Aside0.mk (Below.refl w.heap.size w)
 have HR_ := Aside0.mk hr_
 clear hr_
 have H : ((datetime_Split.f k 1794845045 60).bind fun bt160 => ((datetime_Join.f k bt160.1 bt160.2.1 bt160.2.2.1 bt160.2.2.2.1 bt160.2.2.2.2.1 bt160.2.2.2.2.2.1 60).bind fun bt168 => ((datetime_Record.f k 1794845045 60).bind fun bt170 => ((datetime_Descriptor.f k 1794845045 60).bind fun bt172 => ((datetime_Stamp.f k 1794845045 60).bind fun bt174 => ((datetime_Stamp.f k 1794845045 (-60)).bind fun bt176 => (if bt160.2.2.2.2.2.2 = 0 then (if (bt160.1 == 2026 && (bt160.2.1 == 11 && (bt160.2.2.1 == 16 && (bt160.2.2.2.1 == 17 && (bt160.2.2.2.2.1 == 4 && (bt160.2.2.2.2.2.1 == 5)))))) = true then (if bt168.2 = 0 then (if bt168.1 = 1794845045 then (if bt170.2 = 0 then (if bt170.1.toList = ([126, 11, 16, 17, 4, 5, 4] : List UInt8) then (if bt172.2 = 0 then (if bt172.1.toList = ([50, 48, 50, 54, 49, 49, 49, 54, 49, 55, 48, 52, 48, 53, 48, 48, 4] : List UInt8) then (if bt174.2 = 0 then (if bt174.1.toList = ([60, 16, 234, 7, 11, 16, 17, 4, 5, 0, 0, 0] : List UInt8) then (if bt176.2 = 0 then (if (bt176.1.size : Int) = 12 then (if 0 ≤ 2 then (if 2 ≤ (bt176.1.size : Int) then (if (bt176.1.extract 0 2).toList = ([196, 31] : List UInt8) then ((datetime_Unspecified.f).bind fun t178 => (some (t178.toList == ([48, 48, 48, 48, 48, 48, 48, 48, 48, 48, 48, 48, 48, 48, 48, 48, 0] : List UInt8)))) else (some false)) else (none)) else (none)) else (some false)) else (some false)) else (some false)) else (some false)) else (some false)) else (some false)) else (some false)) else (some false)) else (some false)) else (some false)) else (some false)) else (some false)))))))) = some r := h
 clear h
 replace H := Option.bind_eq_some_iff.mp H
 obtain ⟨⟨t160, t161, t162, t163, t164, t165, t166⟩, A10, H⟩ := H
 replace H : ((datetime_Join.f k t160 t161 t162 t163 t164 t165 60).bind fun bt168 => ((datetime_Record.f k 1794845045 60).bind fun bt170 => ((datetime_Descriptor.f k 1794845045 60).bind fun bt172 => ((datetime_Stamp.f k 1794845045 60).bind fun bt174 => ((datetime_Stamp.f k 1794845045 (-60)).bind fun bt176 => (if t166 = 0 then (if (t160 == 2026 && (t161 == 11 && (t162 == 16 && (t163 == 17 && (t164 == 4 && (t165 == 5)))))) = true then (if bt168.2 = 0 then (if bt168.1 = 1794845045 then (if bt170.2 = 0 then (if bt170.1.toList = ([126, 11, 16, 17, 4, 5, 4] : List UInt8) then (if bt172.2 = 0 then (if bt172.1.toList = ([50, 48, 50, 54, 49, 49, 49, 54, 49, 55, 48, 52, 48, 53, 48, 48, 4] : List UInt8) then (if bt174.2 = 0 then (if bt174.1.toList = ([60, 16, 234, 7, 11, 16, 17, 4, 5, 0, 0, 0] : List UInt8) then (if bt176.2 = 0 then (if (bt176.1.size : Int) = 12 then (if 0 ≤ 2 then (if 2 ≤ (bt176.1.size : Int) then (if (bt176.1.extract 0 2).toList = ([196, 31] : List UInt8) then ((datetime_Unspecified.f).bind fun t178 => (some (t178.toList == ([48, 48, 48, 48, 48, 48, 48, 48, 48, 48, 48, 48, 48, 48, 48, 48, 0] : List UInt8)))) else (some false)) else (none)) else (none)) else (some false)) else (some false)) else (some false)) else (some false)) else (some false)) else (some false)) else (some false)) else (some false)) else (some false)) else (some false)) else (some false)) else (some false))))))) = some r := H
 have A1 := Aside0.mk A10
 clear A10
 replace H := Option.bind_eq_some_iff.mp H
 obtain ⟨⟨t168, t169⟩, A20, H⟩ := H
 replace H : ((datetime_Record.f k 1794845045 60).bind fun bt170 => ((datetime_Descriptor.f k 1794845045 60).bind fun bt172 => ((datetime_Stamp.f k 1794845045 60).bind fun bt174 => ((datetime_Stamp.f k 1794845045 (-60)).bind fun bt176 => (if t166 = 0 then (if (t160 == 2026 && (t161 == 11 && (t162 == 16 && (t163 == 17 && (t164 == 4 && (t165 == 5)))))) = true then (if t169 = 0 then (if t168 = 1794845045 then (if bt170.2 = 0 then (if bt170.1.toList = ([126, 11, 16, 17, 4, 5, 4] : List UInt8) then (if bt172.2 = 0 then (if bt172.1.toList = ([50, 48, 50, 54, 49, 49, 49, 54, 49, 55, 48, 52, 48, 53, 48, 48, 4] : List UInt8) then (if bt174.2 = 0 then (if bt174.1.toList = ([60, 16, 234, 7, 11, 16, 17, 4, 5, 0, 0, 0] : List UInt8) then (if bt176.2 = 0 then (if (bt176.1.size : Int) = 12 then (if 0 ≤ 2 then (if 2 ≤ (bt176.1.size : Int) then (if (bt176.1.extract 0 2).toList = ([196, 31] : List UInt8) then ((datetime_Unspecified.f).bind fun t178 => (some (t178.toList == ([48, 48, 48, 48, 48, 48, 48, 48, 48, 48, 48, 48, 48, 48, 48, 48, 0] : List UInt8)))) else (some false)) else (none)) else (none)) else (some false)) else (some false)) else (some false)) else (some false)) else (some false)) else (some false)) else (some false)) else (some false)) else (some false)) else (some false)) else (some false)) else (some false)))))) = some r := H
 have A2 := Aside0.mk A20
 clear A20
 replace H := Option.bind_eq_some_iff.mp H
 obtain ⟨⟨t170, t171⟩, A30, H⟩ := H
 replace H : ((datetime_Descriptor.f k 1794845045 60).bind fun bt172 => ((datetime_Stamp.f k 1794845045 60).bind fun bt174 => ((datetime_Stamp.f k 1794845045 (-60)).bind fun bt176 => (if t166 = 0 then (if (t160 == 2026 && (t161 == 11 && (t162 == 16 && (t163 == 17 && (t164 == 4 && (t165 == 5)))))) = true then (if t169 = 0 then (if t168 = 1794845045 then (if t171 = 0 then (if t170.toList = ([126, 11, 16, 17, 4, 5, 4] : List UInt8) then (if bt172.2 = 0 then (if bt172.1.toList = ([50, 48, 50, 54, 49, 49, 49, 54, 49, 55, 48, 52, 48, 53, 48, 48, 4] : List UInt8) then (if bt174.2 = 0 then (if bt174.1.toList = ([60, 16, 234, 7, 11, 16, 17, 4, 5, 0, 0, 0] : List UInt8) then (if bt176.2 = 0 then (if (bt176.1.size : Int) = 12 then (if 0 ≤ 2 then (if 2 ≤ (bt176.1.size : Int) then (if (bt176.1.extract 0 2).toList = ([196, 31] : List UInt8) then ((datetime_Unspecified.f).bind fun t178 => (some (t178.toList == ([48, 48, 48, 48, 48, 48, 48, 48, 48, 48, 48, 48, 48, 48, 48, 48, 0] : List UInt8)))) else (some false)) else (none)) else (none)) else (some false)) else (some false)) else (some false)) else (some false)) else (some false)) else (some false)) else (some false)) else (some false)) else (some false)) else (some false)) else (some false)) else (some false))))) = some r := H
 have A3 := Aside0.mk A30
 clear A30
 replace H := Option.bind_eq_some_iff.mp H
 obtain ⟨⟨t172, t173⟩, A40, H⟩ := H
 replace H : ((datetime_Stamp.f k 1794845045 60).bind fun bt174 => ((datetime_Stamp.f k 1794845045 (-60)).bind fun bt176 => (if t166 = 0 then (if (t160 == 2026 && (t161 == 11 && (t162 == 16 && (t163 == 17 && (t164 == 4 && (t165 == 5)))))) = true then (if t169 = 0 then (if t168 = 1794845045 then (if t171 = 0 then (if t170.toList = ([126, 11, 16, 17, 4, 5, 4] : List UInt8) then (if t173 = 0 then (if t172.toList = ([50, 48, 50, 54, 49, 49, 49, 54, 49, 55, 48, 52, 48, 53, 48, 48, 4] : List UInt8) then (if bt174.2 = 0 then (if bt174.1.toList = ([60, 16, 234, 7, 11, 16, 17, 4, 5, 0, 0, 0] : List UInt8) then (if bt176.2 = 0 then (if (bt176.1.size : Int) = 12 then (if 0 ≤ 2 then (if 2 ≤ (bt176.1.size : Int) then (if (bt176.1.extract 0 2).toList = ([196, 31] : List UInt8) then ((datetime_Unspecified.f).bind fun t178 => (some (t178.toList == ([48, 48, 48, 48, 48, 48, 48, 48, 48, 48, 48, 48, 48, 48, 48, 48, 0] : List UInt8)))) else (some false)) else (none)) else (none)) else (some false)) else (some false)) else (some false)) else (some false)) else (some false)) else (some false)) else (some false)) else (some false)) else (some false)) else (some false)) else (some false)) else (some false)))) = some r := H
 have A4 := Aside0.mk A40
 clear A40
 replace H := Option.bind_eq_some_iff.mp H
 obtain ⟨⟨t174, t175⟩, A50, H⟩ := H
 replace H : ((datetime_Stamp.f k 1794845045 (-60)).bind fun bt176 => (if t166 = 0 then (if (t160 == 2026 && (t161 == 11 && (t162 == 16 && (t163 == 17 && (t164 == 4 && (t165 == 5)))))) = true then (if t169 = 0 then (if t168 = 1794845045 then (if t171 = 0 then (if t170.toList = ([126, 11, 16, 17, 4, 5, 4] : List UInt8) then (if t173 = 0 then (if t172.toList = ([50, 48, 50, 54, 49, 49, 49, 54, 49, 55, 48, 52, 48, 53, 48, 48, 4] : List UInt8) then (if t175 = 0 then (if t174.toList = ([60, 16, 234, 7, 11, 16, 17, 4, 5, 0, 0, 0] : List UInt8) then (if bt176.2 = 0 then (if (bt176.1.size : Int) = 12 then (if 0 ≤ 2 then (if 2 ≤ (bt176.1.size : Int) then (if (bt176.1.extract 0 2).toList = ([196, 31] : List UInt8) then ((datetime_Unspecified.f).bind fun t178 => (some (t178.toList == ([48, 48, 48, 48, 48, 48, 48, 48, 48, 48, 48, 48, 48, 48, 48, 48, 0] : List UInt8)))) else (some false)) else (none)) else (none)) else (some false)) else (some false)) else (some false)) else (some false)) else (some false)) else (some false)) else (some false)) else (some false)) else (some false)) else (some false)) else (some false)) else (some false))) = some r := H
 have A5 := Aside0.mk A50
 clear A50
 replace H := Option.bind_eq_some_iff.mp H
 obtain ⟨⟨t176, t177⟩, A60, H⟩ := H
 replace H : (if t166 = 0 then (if (t160 == 2026 && (t161 == 11 && (t162 == 16 && (t163 == 17 && (t164 == 4 && (t165 == 5)))))) = true then (if t169 = 0 then (if t168 = 1794845045 then (if t171 = 0 then (if t170.toList = ([126, 11, 16, 17, 4, 5, 4] : List UInt8) then (if t173 = 0 then (if t172.toList = ([50, 48, 50, 54, 49, 49, 49, 54, 49, 55, 48, 52, 48, 53, 48, 48, 4] : List UInt8) then (if t175 = 0 then (if t174.toList = ([60, 16, 234, 7, 11, 16, 17, 4, 5, 0, 0, 0] : List UInt8) then (if t177 = 0 then (if (t176.size : Int) = 12 then (if 0 ≤ 2 then (if 2 ≤ (t176.size : Int) then (if (t176.extract 0 2).toList = ([196, 31] : List UInt8) then ((datetime_Unspecified.f).bind fun t178 => (some (t178.toList == ([48, 48, 48, 48, 48, 48, 48, 48, 48, 48, 48, 48, 48, 48, 48, 48, 0] : List UInt8)))) else (some false)) else (none)) else (none)) else (some false)) else (some false)) else (some false)) else (some false)) else (some false)) else (some false)) else (some false)) else (some false)) else (some false)) else (some false)) else (some false)) else (some false)) = some r := H
 have A6 := Aside0.mk A60
 clear A60
 by_cases c7 : t166 = 0
 ·rw [if_pos c7] at H
  have c7b0 : (t166 == 0) = true := beq_iff_eq.mpr c7
  have c7b1 : (t166 != 0) = false := bne_eq_false_iff_eq.mpr c7
  clear c7
  by_cases c8 : (t160 == 2026 && (t161 == 11 && (t162 == 16 && (t163 == 17 && (t164 == 4 && (t165 == 5)))))) = true
  ·rw [if_pos c8] at H
   have c8b0 : (t160 == 2026 && (t161 == 11 && (t162 == 16 && (t163 == 17 && (t164 == 4 && (t165 == 5)))))) = true := c8
   (try (have c8b1 : decide (t160 = 2026 && (t161 == 11 && (t162 == 16 && (t163 == 17 && (t164 == 4 && (t165 == 5)))))) = true := by simpa using c8))
   (try (have c8b2 : (t160 == 2026 && (t161 == 11 && (t162 == 16 && (t163 == 17 && (t164 == 4 && (t165 == 5)))))) = true := by simpa using c8))
   clear c8
   by_cases c9 : t169 = 0
   ·rw [if_pos c9] at H
    have c9b0 : (t169 == 0) = true := beq_iff_eq.mpr c9
    have c9b1 : (t169 != 0) = false := bne_eq_false_iff_eq.mpr c9
    clear c9
    by_cases c10 : t168 = 1794845045
    ·rw [if_pos c10] at H
     have c10b0 : (t168 == 1794845045) = true := beq_iff_eq.mpr c10
     have c10b1 : (t168 != 1794845045) = false := bne_eq_false_iff_eq.mpr c10
     clear c10
     by_cases c11 : t171 = 0
     ·rw [if_pos c11] at H
      have c11b0 : (t171 == 0) = true := beq_iff_eq.mpr c11
      have c11b1 : (t171 != 0) = false := bne_eq_false_iff_eq.mpr c11
      clear c11
      by_cases c12 : t170.toList = ([126, 11, 16, 17, 4, 5, 4] : List UInt8)
      ·rw [if_pos c12] at H
       have c12b0 : (t170.toList == ([126, 11, 16, 17, 4, 5, 4] : List UInt8)) = true := beq_iff_eq.mpr c12
       have c12b1 : (t170.toList != ([126, 11, 16, 17, 4, 5, 4] : List UInt8)) = false := bne_eq_false_iff_eq.mpr c12
       clear c12
       by_cases c13 : t173 = 0
       ·rw [if_pos c13] at H
        have c13b0 : (t173 == 0) = true := beq_iff_eq.mpr c13
        have c13b1 : (t173 != 0) = false := bne_eq_false_iff_eq.mpr c13
        clear c13
        by_cases c14 : t172.toList = ([50, 48, 50, 54, 49, 49, 49, 54, 49, 55, 48, 52, 48, 53, 48, 48, 4] : List UInt8)
        ·rw [if_pos c14] at H
         have c14b0 : (t172.toList == ([50, 48, 50, 54, 49, 49, 49, 54, 49, 55, 48, 52, 48, 53, 48, 48, 4] : List UInt8)) = true := beq_iff_eq.mpr c14
         have c14b1 : (t172.toList != ([50, 48, 50, 54, 49, 49, 49, 54, 49, 55, 48, 52, 48, 53, 48, 48, 4] : List UInt8)) = false := bne_eq_false_iff_eq.mpr c14
         clear c14
         by_cases c15 : t175 = 0
         ·rw [if_pos c15] at H
          have c15b0 : (t175 == 0) = true := beq_iff_eq.mpr c15
          have c15b1 : (t175 != 0) = false := bne_eq_false_iff_eq.mpr c15
          clear c15
          by_cases c16 : t174.toList = ([60, 16, 234, 7, 11, 16, 17, 4, 5, 0, 0, 0] : List UInt8)
          ·rw [if_pos c16] at H
           have c16b0 : (t174.toList == ([60, 16, 234, 7, 11, 16, 17, 4, 5, 0, 0, 0] : List UInt8)) = true := beq_iff_eq.mpr c16
           have c16b1 : (t174.toList != ([60, 16, 234, 7, 11, 16, 17, 4, 5, 0, 0, 0] : List UInt8)) = false := bne_eq_false_iff_eq.mpr c16
           clear c16
           by_cases c17 : t177 = 0
           ·rw [if_pos c17] at H
            have c17b0 : (t177 == 0) = true := beq_iff_eq.mpr c17
            have c17b1 : (t177 != 0) = false := bne_eq_false_iff_eq.mpr c17
            clear c17
            by_cases c18 : (t176.size : Int) = 12
            ·rw [if_pos c18] at H
             have c18b0 : ((t176.size : Int) == 12) = true := beq_iff_eq.mpr c18
             have c18b1 : ((t176.size : Int) != 12) = false := bne_eq_false_iff_eq.mpr c18
             clear c18
             by_cases c19 : 0 ≤ 2
             ·rw [if_pos c19] at H
              have c19b0 := eq_true c19
              have c19b1 : decide (0 ≤ 2) = true := decide_eq_true c19
              clear c19
              by_cases c20 : 2 ≤ (t176.size : Int)
              ·rw [if_pos c20] at H
               have c20b0 := eq_true c20
               have c20b1 : decide (2 ≤ (t176.size : Int)) = true := decide_eq_true c20
               clear c20
               by_cases c21 : (t176.extract 0 2).toList = ([196, 31] : List UInt8)
               ·rw [if_pos c21] at H
                have c21b0 : ((t176.extract 0 2).toList == ([196, 31] : List UInt8)) = true := beq_iff_eq.mpr c21
                have c21b1 : ((t176.extract 0 2).toList != ([196, 31] : List UInt8)) = false := bne_eq_false_iff_eq.mpr c21
                clear c21
                replace H := Option.bind_eq_some_iff.mp H
                obtain ⟨t178, A220, H⟩ := H
                replace H : (some (t178.toList == ([48, 48, 48, 48, 48, 48, 48, 48, 48, 48, 48, 48, 48, 48, 48, 48, 0] : List UInt8))) = some r := H
                have A22 := Aside0.mk A220
                clear A220
                obtain rfl := Option.some.inj H
                go_enter Tryd.func11, Tryd.ntmps11
                go_wp2_with (first | ((with_reducible refine gate_callee (f := 12) rfl ?_); refine goesL_ (some 14) rfl rfl Tryd.func12 (by kernel_rfl) rfl #[.int .i64 1794845045, .int .i64 60] rfl (by ((try simp only [List.map_toArray, List.map_cons, List.map_nil]); first | done | rfl | (simp only [List.length_drop, List.length_take]; rfl))) ?_; (with_reducible refine (datetime_Split.calls k 1794845045 60 t160 t161 t162 t163 t164 t165 t166 _ A1.out).mono ?_); rintro e w23 ⟨rfl, hb⟩; refine ⟨_, rfl, ?_⟩; have n0_ := Aside0.mk (below_step (by repeat (first | (with_reducible first | exact HB.out | apply below_alloc | apply pw_below_drewN | apply below_drew1) | exact HB.out)) hb); clear HB; have HB := n0_; clear n0_; ((try clear hb); (try clear hb2); (try clear hk); (try clear hi))) | ((with_reducible refine gate_dst (N := 1) rfl ?_); (try (refine gate_guard (by rfl) ?_; dsimp only)); refine box_event ?hg (N := 1) ?hd (cs := #[.int .i64 0, .int .i64 0, .int .i64 0, .int .i64 0, .int .i64 0, .int .i64 0]) (t := 23) ?hr ?_; (case hd => rfl); (case hg => rfl); (case hr => first | (go_simp; done) | (go_simp; rfl)); intro gb167 hg w24 hbox hb; have n0_ := Aside0.mk (below_step (by repeat (first | (with_reducible first | exact HB.out | apply below_alloc | apply pw_below_drewN | apply below_drew1) | exact HB.out)) hb); have n1_ := Aside0.mk (hbox); have n2_ := Aside0.mk ((by rw [hg]; exact (below_size (by repeat (first | (with_reducible first | exact HB.out | apply below_alloc | apply pw_below_drewN | apply below_drew1) | exact HB.out))) : w.heap.size ≤ gb167)); have n3_ := Aside0.mk ((by rw [hg]; exact (below_size (by repeat (first | (with_reducible first | exact HB.out | apply below_alloc | apply pw_below_drewN | apply below_drew1) | exact HB.out))) : w.heap.size ≤ gb167)); clear HB; have HB := n0_; have BK167 := n1_; have GW167 := n2_; have GE167 := n3_; clear n0_ n1_ n2_ n3_; clear hb hbox hg; have hcz25_0 : w24.cell? ⟨gb167, 0, none⟩ = some (.int .i64 0) := (blk_cell BK167.out 0).trans rfl; have hcz25_1 : w24.cell? ⟨gb167, 1, none⟩ = some (.int .i64 0) := (blk_cell BK167.out 1).trans rfl; have hcz25_2 : w24.cell? ⟨gb167, 2, none⟩ = some (.int .i64 0) := (blk_cell BK167.out 2).trans rfl; have hcz25_3 : w24.cell? ⟨gb167, 3, none⟩ = some (.int .i64 0) := (blk_cell BK167.out 3).trans rfl; have hcz25_4 : w24.cell? ⟨gb167, 4, none⟩ = some (.int .i64 0) := (blk_cell BK167.out 4).trans rfl; have hcz25_5 : w24.cell? ⟨gb167, 5, none⟩ = some (.int .i64 0) := (blk_cell BK167.out 5).trans rfl; have hfz25_0 := blk_frozen BK167.out 0; have hfz25_1 := blk_frozen BK167.out 1; have hfz25_2 := blk_frozen BK167.out 2; have hfz25_3 := blk_frozen BK167.out 3; have hfz25_4 := blk_frozen BK167.out 4; have hfz25_5 := blk_frozen BK167.out 5) | ((with_reducible refine gate_callee (f := 14) rfl ?_); refine goesL_ (some 19) rfl rfl Tryd.func14 (by kernel_rfl) rfl #[.agg #[.int .i64 t160, .int .i64 t161, .int .i64 t162, .int .i64 t163, .int .i64 t164, .int .i64 t165], .int .i64 60] rfl (by ((try simp only [List.map_toArray, List.map_cons, List.map_nil]); first | done | rfl | (simp only [List.length_drop, List.length_take]; rfl))) ?_; (with_reducible refine (datetime_Join.calls k t160 t161 t162 t163 t164 t165 60 t168 t169 _ A2.out).mono ?_); rintro e w26 ⟨rfl, hb⟩; refine ⟨_, rfl, ?_⟩; have n0_ := Aside0.mk (blk_below (g := gb167) (o := .cells #[.int .i64 t160, .int .i64 t161, .int .i64 t162, .int .i64 t163, .int .i64 t164, .int .i64 t165] 23 (0, 0)) (by (with_reducible repeat (first | refine blk_drewN ?_ _ | refine blk_drew ?_ | refine blk_alloc ?_ _)); refine blk_put (cs := #[.int .i64 t160, .int .i64 t161, .int .i64 t162, .int .i64 t163, .int .i64 t164, .int .i64 0]) ?_ 5 _ rfl; (with_reducible repeat (first | refine blk_drewN ?_ _ | refine blk_drew ?_ | refine blk_alloc ?_ _)); refine blk_put (cs := #[.int .i64 t160, .int .i64 t161, .int .i64 t162, .int .i64 t163, .int .i64 0, .int .i64 0]) ?_ 4 _ rfl; (with_reducible repeat (first | refine blk_drewN ?_ _ | refine blk_drew ?_ | refine blk_alloc ?_ _)); refine blk_put (cs := #[.int .i64 t160, .int .i64 t161, .int .i64 t162, .int .i64 0, .int .i64 0, .int .i64 0]) ?_ 3 _ rfl; (with_reducible repeat (first | refine blk_drewN ?_ _ | refine blk_drew ?_ | refine blk_alloc ?_ _)); refine blk_put (cs := #[.int .i64 t160, .int .i64 t161, .int .i64 0, .int .i64 0, .int .i64 0, .int .i64 0]) ?_ 2 _ rfl; (with_reducible repeat (first | refine blk_drewN ?_ _ | refine blk_drew ?_ | refine blk_alloc ?_ _)); refine blk_put (cs := #[.int .i64 t160, .int .i64 0, .int .i64 0, .int .i64 0, .int .i64 0, .int .i64 0]) ?_ 1 _ rfl; (with_reducible repeat (first | refine blk_drewN ?_ _ | refine blk_drew ?_ | refine blk_alloc ?_ _)); refine blk_put (cs := #[.int .i64 0, .int .i64 0, .int .i64 0, .int .i64 0, .int .i64 0, .int .i64 0]) ?_ 0 _ rfl; (with_reducible repeat (first | refine blk_drewN ?_ _ | refine blk_drew ?_ | refine blk_alloc ?_ _)); exact BK167.out) hb); have n1_ := Aside0.mk (below_step (by repeat (first | (with_reducible first | exact HB.out | apply below_alloc | apply pw_below_drewN | apply below_drew1 | refine below_set ?_ GE167.out) | exact HB.out)) hb); clear BK167; clear HB; have BK167 := n0_; have HB := n1_; clear n0_ n1_; ((try clear hb); (try clear hb2); (try clear hk); (try clear hi))) | ((with_reducible refine gate_callee (f := 19) rfl ?_); refine goesL_ (some 23) rfl rfl Tryd.func19 (by kernel_rfl) rfl #[.int .i64 1794845045, .int .i64 60] rfl (by ((try simp only [List.map_toArray, List.map_cons, List.map_nil]); first | done | rfl | (simp only [List.length_drop, List.length_take]; rfl))) ?_; (with_reducible refine (datetime_Record.calls k 1794845045 60 t170 t171 _ A3.out).mono ?_); rintro e w27 ⟨rfl, hb⟩; refine ⟨_, rfl, ?_⟩; have n0_ := Aside0.mk (blk_below (g := gb167) (o := .cells #[.int .i64 t160, .int .i64 t161, .int .i64 t162, .int .i64 t163, .int .i64 t164, .int .i64 t165] 23 (0, 0)) (by (with_reducible repeat (first | refine blk_drewN ?_ _ | refine blk_drew ?_ | refine blk_alloc ?_ _)); exact BK167.out) hb); have n1_ := Aside0.mk (below_step (by repeat (first | (with_reducible first | exact HB.out | apply below_alloc | apply pw_below_drewN | apply below_drew1 | refine below_set ?_ GE167.out) | exact HB.out)) hb); clear BK167; clear HB; have BK167 := n0_; have HB := n1_; clear n0_ n1_; ((try clear hb); (try clear hb2); (try clear hk); (try clear hi))) | ((with_reducible refine gate_callee (f := 27) rfl ?_); refine goesL_ (some 27) rfl rfl Tryd.func27 (by kernel_rfl) rfl #[.int .i64 1794845045, .int .i64 60] rfl (by ((try simp only [List.map_toArray, List.map_cons, List.map_nil]); first | done | rfl | (simp only [List.length_drop, List.length_take]; rfl))) ?_; (with_reducible refine (datetime_Descriptor.calls k 1794845045 60 t172 t173 _ ?side1 A4.out).mono ?_); (case side1 => exact HG.below hG_ (by repeat (first | (with_reducible first | exact HB.out | apply below_alloc | apply pw_below_drewN | apply below_drew1 | refine below_set ?_ GE167.out) | exact HB.out))); rintro e w28 ⟨rfl, hb⟩; refine ⟨_, rfl, ?_⟩; have n0_ := Aside0.mk (blk_below (g := gb167) (o := .cells #[.int .i64 t160, .int .i64 t161, .int .i64 t162, .int .i64 t163, .int .i64 t164, .int .i64 t165] 23 (0, 0)) (by (with_reducible repeat (first | refine blk_drewN ?_ _ | refine blk_drew ?_ | refine blk_alloc ?_ _)); exact BK167.out) hb); have n1_ := Aside0.mk (below_step (by repeat (first | (with_reducible first | exact HB.out | apply below_alloc | apply pw_below_drewN | apply below_drew1 | refine below_set ?_ GE167.out) | exact HB.out)) hb); clear BK167; clear HB; have BK167 := n0_; have HB := n1_; clear n0_ n1_; ((try clear hb); (try clear hb2); (try clear hk); (try clear hi))) | ((with_reducible refine gate_callee (f := 23) rfl ?_); refine goesL_ (some 31) rfl rfl Tryd.func23 (by kernel_rfl) rfl #[.int .i64 1794845045, .int .i64 60] rfl (by ((try simp only [List.map_toArray, List.map_cons, List.map_nil]); first | done | rfl | (simp only [List.length_drop, List.length_take]; rfl))) ?_; (with_reducible refine (datetime_Stamp.calls k 1794845045 60 t174 t175 _ A5.out).mono ?_); rintro e w29 ⟨rfl, hb⟩; refine ⟨_, rfl, ?_⟩; have n0_ := Aside0.mk (blk_below (g := gb167) (o := .cells #[.int .i64 t160, .int .i64 t161, .int .i64 t162, .int .i64 t163, .int .i64 t164, .int .i64 t165] 23 (0, 0)) (by (with_reducible repeat (first | refine blk_drewN ?_ _ | refine blk_drew ?_ | refine blk_alloc ?_ _)); exact BK167.out) hb); have n1_ := Aside0.mk (below_step (by repeat (first | (with_reducible first | exact HB.out | apply below_alloc | apply pw_below_drewN | apply below_drew1 | refine below_set ?_ GE167.out) | exact HB.out)) hb); clear BK167; clear HB; have BK167 := n0_; have HB := n1_; clear n0_ n1_; ((try clear hb); (try clear hb2); (try clear hk); (try clear hi))) | ((with_reducible refine gate_callee (f := 23) rfl ?_); refine goesL_ (some 35) rfl rfl Tryd.func23 (by kernel_rfl) rfl #[.int .i64 1794845045, .int .i64 (-60)] rfl (by ((try simp only [List.map_toArray, List.map_cons, List.map_nil]); first | done | rfl | (simp only [List.length_drop, List.length_take]; rfl))) ?_; (with_reducible refine (datetime_Stamp.calls k 1794845045 (-60) t176 t177 _ A6.out).mono ?_); rintro e w30 ⟨rfl, hb⟩; refine ⟨_, rfl, ?_⟩; have n0_ := Aside0.mk (blk_below (g := gb167) (o := .cells #[.int .i64 t160, .int .i64 t161, .int .i64 t162, .int .i64 t163, .int .i64 t164, .int .i64 t165] 23 (0, 0)) (by (with_reducible repeat (first | refine blk_drewN ?_ _ | refine blk_drew ?_ | refine blk_alloc ?_ _)); exact BK167.out) hb); have n1_ := Aside0.mk (below_step (by repeat (first | (with_reducible first | exact HB.out | apply below_alloc | apply pw_below_drewN | apply below_drew1 | refine below_set ?_ GE167.out) | exact HB.out)) hb); clear BK167; clear HB; have BK167 := n0_; have HB := n1_; clear n0_ n1_; ((try clear hb); (try clear hb2); (try clear hk); (try clear hi)); have hcz31_0 : w30.cell? ⟨gb167, 0, none⟩ = some (.int .i64 t160) := (blk_cell BK167.out 0).trans rfl; have hcz31_1 : w30.cell? ⟨gb167, 1, none⟩ = some (.int .i64 t161) := (blk_cell BK167.out 1).trans rfl; have hcz31_2 : w30.cell? ⟨gb167, 2, none⟩ = some (.int .i64 t162) := (blk_cell BK167.out 2).trans rfl; have hcz31_3 : w30.cell? ⟨gb167, 3, none⟩ = some (.int .i64 t163) := (blk_cell BK167.out 3).trans rfl; have hcz31_4 : w30.cell? ⟨gb167, 4, none⟩ = some (.int .i64 t164) := (blk_cell BK167.out 4).trans rfl; have hcz31_5 : w30.cell? ⟨gb167, 5, none⟩ = some (.int .i64 t165) := (blk_cell BK167.out 5).trans rfl; have hfz31_0 := blk_frozen BK167.out 0; have hfz31_1 := blk_frozen BK167.out 1; have hfz31_2 := blk_frozen BK167.out 2; have hfz31_3 := blk_frozen BK167.out 3; have hfz31_4 := blk_frozen BK167.out 4; have hfz31_5 := blk_frozen BK167.out 5) | (go_at_call 32; (with_reducible refine (datetime_Unspecified.calls  t178 _ A22.out).mono ?_); rintro e w' ⟨rfl, ⟨nd, rfl⟩⟩))
                go_ret
                exact ⟨by (first | rfl | (simp [errW_none, errW_some] <;> rfl) | (simp [*, errW_none, errW_some] <;> rfl)), by repeat (first | (with_reducible first | exact HB.out | apply below_alloc | apply pw_below_drewN | apply below_drew1 | refine below_set ?_ GE167.out) | exact HB.out)⟩
               ·rw [if_neg c21] at H
                have c21b0 : ((t176.extract 0 2).toList == ([196, 31] : List UInt8)) = false := beq_eq_false_iff_ne.mpr c21
                have c21b1 : ((t176.extract 0 2).toList != ([196, 31] : List UInt8)) = true := bne_iff_ne.mpr c21
                obtain rfl := Option.some.inj H
                exact absurd HR_.out (by decide)
              ·rw [if_neg c20] at H
               exact absurd H (by simp)
             ·rw [if_neg c19] at H
              exact absurd H (by simp)
            ·rw [if_neg c18] at H
             have c18b0 : ((t176.size : Int) == 12) = false := beq_eq_false_iff_ne.mpr c18
             have c18b1 : ((t176.size : Int) != 12) = true := bne_iff_ne.mpr c18
             obtain rfl := Option.some.inj H
             exact absurd HR_.out (by decide)
           ·rw [if_neg c17] at H
            have c17b0 : (t177 == 0) = false := beq_eq_false_iff_ne.mpr c17
            have c17b1 : (t177 != 0) = true := bne_iff_ne.mpr c17
            obtain rfl := Option.some.inj H
            exact absurd HR_.out (by decide)
          ·rw [if_neg c16] at H
           have c16b0 : (t174.toList == ([60, 16, 234, 7, 11, 16, 17, 4, 5, 0, 0, 0] : List UInt8)) = false := beq_eq_false_iff_ne.mpr c16
           have c16b1 : (t174.toList != ([60, 16, 234, 7, 11, 16, 17, 4, 5, 0, 0, 0] : List UInt8)) = true := bne_iff_ne.mpr c16
           obtain rfl := Option.some.inj H
           exact absurd HR_.out (by decide)
         ·rw [if_neg c15] at H
          have c15b0 : (t175 == 0) = false := beq_eq_false_iff_ne.mpr c15
          have c15b1 : (t175 != 0) = true := bne_iff_ne.mpr c15
          obtain rfl := Option.some.inj H
          exact absurd HR_.out (by decide)
        ·rw [if_neg c14] at H
         have c14b0 : (t172.toList == ([50, 48, 50, 54, 49, 49, 49, 54, 49, 55, 48, 52, 48, 53, 48, 48, 4] : List UInt8)) = false := beq_eq_false_iff_ne.mpr c14
         have c14b1 : (t172.toList != ([50, 48, 50, 54, 49, 49, 49, 54, 49, 55, 48, 52, 48, 53, 48, 48, 4] : List UInt8)) = true := bne_iff_ne.mpr c14
         obtain rfl := Option.some.inj H
         exact absurd HR_.out (by decide)
       ·rw [if_neg c13] at H
        have c13b0 : (t173 == 0) = false := beq_eq_false_iff_ne.mpr c13
        have c13b1 : (t173 != 0) = true := bne_iff_ne.mpr c13
        obtain rfl := Option.some.inj H
        exact absurd HR_.out (by decide)
      ·rw [if_neg c12] at H
       have c12b0 : (t170.toList == ([126, 11, 16, 17, 4, 5, 4] : List UInt8)) = false := beq_eq_false_iff_ne.mpr c12
       have c12b1 : (t170.toList != ([126, 11, 16, 17, 4, 5, 4] : List UInt8)) = true := bne_iff_ne.mpr c12
       obtain rfl := Option.some.inj H
       exact absurd HR_.out (by decide)
     ·rw [if_neg c11] at H
      have c11b0 : (t171 == 0) = false := beq_eq_false_iff_ne.mpr c11
      have c11b1 : (t171 != 0) = true := bne_iff_ne.mpr c11
      obtain rfl := Option.some.inj H
      exact absurd HR_.out (by decide)
    ·rw [if_neg c10] at H
     have c10b0 : (t168 == 1794845045) = false := beq_eq_false_iff_ne.mpr c10
     have c10b1 : (t168 != 1794845045) = true := bne_iff_ne.mpr c10
     obtain rfl := Option.some.inj H
     exact absurd HR_.out (by decide)
   ·rw [if_neg c9] at H
    have c9b0 : (t169 == 0) = false := beq_eq_false_iff_ne.mpr c9
    have c9b1 : (t169 != 0) = true := bne_iff_ne.mpr c9
    obtain rfl := Option.some.inj H
    exact absurd HR_.out (by decide)
  ·rw [if_neg c8] at H
   have c8b0 : (t160 == 2026 && (t161 == 11 && (t162 == 16 && (t163 == 17 && (t164 == 4 && (t165 == 5)))))) = false := by simpa using c8
   (try (have c8b1 : decide (t160 = 2026 && (t161 == 11 && (t162 == 16 && (t163 == 17 && (t164 == 4 && (t165 == 5)))))) = false := by simpa using c8))
   (try (have c8b2 : (t160 == 2026 && (t161 == 11 && (t162 == 16 && (t163 == 17 && (t164 == 4 && (t165 == 5)))))) = false := by simpa using c8))
   (try (have c8b3 : ¬ (t160 = 2026 && (t161 == 11 && (t162 == 16 && (t163 == 17 && (t164 == 4 && (t165 == 5)))))) := by simpa using c8))
   clear c8
   obtain rfl := Option.some.inj H
   exact absurd HR_.out (by decide)
 ·rw [if_neg c7] at H
  have c7b0 : (t166 == 0) = false := beq_eq_false_iff_ne.mpr c7
  have c7b1 : (t166 != 0) = true := bne_iff_ne.mpr c7
  obtain rfl := Option.some.inj H
  exact absurd HR_.out (by decide)


theorem masterdisclaw16_awake.g_true : masterdisclaw16_awake.g 1000 = some true := by decide +kernel
def masterdisclaw16_awake.f (k : Nat) : Option (Bool) := if 1000 ≤ k then some true else none
theorem masterdisclaw16_awake.mono : ∀ k, LeO (masterdisclaw16_awake.f k ) (masterdisclaw16_awake.f (k + 1) ) := by
 intro k r h
 unfold masterdisclaw16_awake.f at *
 by_cases c : 1000 ≤ k
 ·rw [if_pos c] at h
  rw [if_pos (by omega), h]
 ·rw [if_neg c] at h
  cases h
theorem masterdisclaw16_awake.calls (k : Nat)  (r : Bool) (w : World) (hG_ : HG w) (h : masterdisclaw16_awake.f k  = some r) :
  Calls Tryd.prog 11 #[] w fun e w' => e = .returned (.bool r) ∧ Below w.heap.size w w' := by
 unfold masterdisclaw16_awake.f at h
 by_cases c : 1000 ≤ k
 ·rw [if_pos c] at h
  obtain rfl := Option.some.inj h
  exact masterdisclaw16_awake.gcalls 1000 true w hG_ rfl masterdisclaw16_awake.g_true
 ·rw [if_neg c] at h
  cases h

/-! ### masterdiscref16_Time: function 16 -/
def masterdiscref16_Time.f (a0 : Int) : Option (Bool) := if a0 ≥ 315532800 then (some (decide (a0 ≤ 4102444799))) else (some false)
set_option maxHeartbeats 8000000 in
set_option maxRecDepth 100000 in
theorem masterdiscref16_Time.calls (a0 : Int) (r : Bool) (w : World) (h : masterdiscref16_Time.f a0 = some r) :
  Calls Tryd.prog 16 #[.int .i64 a0] w fun e w' => e = .returned (.bool r) ∧ Drawn0 w w' := by
 have H : (if a0 ≥ 315532800 then (some (decide (a0 ≤ 4102444799))) else (some false)) = some r := h
 clear h
 by_cases c2 : a0 ≥ 315532800
 ·rw [if_pos c2] at H
  have c2b0 : decide (315532800 ≤ a0) = true := decide_eq_true c2
  clear c2
  obtain rfl := Option.some.inj H
  go_enter Tryd.func16, Tryd.ntmps16
  go_wp2
  go_ret
  exact ⟨by first | rfl | (simp; done) | (simp [*]; done), by repeat (first | exact Drawn0.refl _ | apply Drawn0.step)⟩
 ·rw [if_neg c2] at H
  have c2b0 : decide (315532800 ≤ a0) = false := decide_eq_false c2
  clear c2
  obtain rfl := Option.some.inj H
  go_enter Tryd.func16, Tryd.ntmps16
  go_wp2
  go_ret
  exact ⟨by first | rfl | (simp; done) | (simp [*]; done), by repeat (first | exact Drawn0.refl _ | apply Drawn0.step)⟩

/-! ### masterdiscref16_Zone: function 17 -/
def masterdiscref16_Zone.f (a0 : Int) : Option (Bool) := if a0 ≥ (-1440) then (some (decide (a0 ≤ 1440))) else (some false)
set_option maxHeartbeats 8000000 in
set_option maxRecDepth 100000 in
theorem masterdiscref16_Zone.calls (a0 : Int) (r : Bool) (w : World) (h : masterdiscref16_Zone.f a0 = some r) :
  Calls Tryd.prog 17 #[.int .i64 a0] w fun e w' => e = .returned (.bool r) ∧ Drawn0 w w' := by
 have H : (if a0 ≥ (-1440) then (some (decide (a0 ≤ 1440))) else (some false)) = some r := h
 clear h
 by_cases c2 : a0 ≥ (-1440)
 ·rw [if_pos c2] at H
  have c2b0 : decide ((-1440) ≤ a0) = true := decide_eq_true c2
  clear c2
  obtain rfl := Option.some.inj H
  go_enter Tryd.func17, Tryd.ntmps17
  go_wp2
  go_ret
  exact ⟨by first | rfl | (simp; done) | (simp [*]; done), by repeat (first | exact Drawn0.refl _ | apply Drawn0.step)⟩
 ·rw [if_neg c2] at H
  have c2b0 : decide ((-1440) ≤ a0) = false := decide_eq_false c2
  clear c2
  obtain rfl := Option.some.inj H
  go_enter Tryd.func17, Tryd.ntmps17
  go_wp2
  go_ret
  exact ⟨by first | rfl | (simp; done) | (simp [*]; done), by repeat (first | exact Drawn0.refl _ | apply Drawn0.step)⟩

/-! ### masterdiscref16_leap: function 61 -/
def masterdiscref16_leap.f (a0 : Int) : Option (Bool) := if (Int.tmod a0 4) = 0 then (if (Int.tmod a0 100) = 0 then (some ((Int.tmod a0 400) == 0)) else (some true)) else (some false)
set_option maxHeartbeats 8000000 in
set_option maxRecDepth 100000 in
theorem masterdiscref16_leap.calls (a0 : Int) (r : Bool) (w : World) (h : masterdiscref16_leap.f a0 = some r) :
  Calls Tryd.prog 61 #[.int .i64 a0] w fun e w' => e = .returned (.bool r) ∧ Drawn0 w w' := by
 have H : (if (Int.tmod a0 4) = 0 then (if (Int.tmod a0 100) = 0 then (some ((Int.tmod a0 400) == 0)) else (some true)) else (some false)) = some r := h
 clear h
 by_cases c2 : (Int.tmod a0 4) = 0
 ·rw [if_pos c2] at H
  have c2b0 : ((Int.tmod a0 4) == 0) = true := beq_iff_eq.mpr c2
  have c2b1 : ((Int.tmod a0 4) != 0) = false := bne_eq_false_iff_eq.mpr c2
  clear c2
  by_cases c3 : (Int.tmod a0 100) = 0
  ·rw [if_pos c3] at H
   have c3b0 : ((Int.tmod a0 100) == 0) = true := beq_iff_eq.mpr c3
   have c3b1 : ((Int.tmod a0 100) != 0) = false := bne_eq_false_iff_eq.mpr c3
   clear c3
   obtain rfl := Option.some.inj H
   go_enter Tryd.func61, Tryd.ntmps61
   go_wp2
   go_ret
   exact ⟨by first | rfl | (simp; done) | (simp [*]; done), by repeat (first | exact Drawn0.refl _ | apply Drawn0.step)⟩
  ·rw [if_neg c3] at H
   have c3b0 : ((Int.tmod a0 100) == 0) = false := beq_eq_false_iff_ne.mpr c3
   have c3b1 : ((Int.tmod a0 100) != 0) = true := bne_iff_ne.mpr c3
   obtain rfl := Option.some.inj H
   go_enter Tryd.func61, Tryd.ntmps61
   go_wp2
   go_ret
   exact ⟨by first | rfl | (simp; done) | (simp [*]; done), by repeat (first | exact Drawn0.refl _ | apply Drawn0.step)⟩
 ·rw [if_neg c2] at H
  have c2b0 : ((Int.tmod a0 4) == 0) = false := beq_eq_false_iff_ne.mpr c2
  have c2b1 : ((Int.tmod a0 4) != 0) = true := bne_iff_ne.mpr c2
  obtain rfl := Option.some.inj H
  go_enter Tryd.func61, Tryd.ntmps61
  go_wp2
  go_ret
  exact ⟨by first | rfl | (simp; done) | (simp [*]; done), by repeat (first | exact Drawn0.refl _ | apply Drawn0.step)⟩

/-! ### masterdiscref16_year: function 55 -/
def masterdiscref16_year.f (a0 : Int) : Option (Int) := (masterdiscref16_leap.f a0).bind fun t179 => (if t179 = true then (some 366) else (some 365))
set_option maxHeartbeats 8000000 in
set_option maxRecDepth 100000 in
theorem masterdiscref16_year.calls (a0 : Int) (r : Int) (w : World) (h : masterdiscref16_year.f a0 = some r) :
  Calls Tryd.prog 55 #[.int .i64 a0] w fun e w' => e = .returned (.int .i64 r) ∧ Below w.heap.size w w' := by
 have HB := Aside0.mk (Below.refl w.heap.size w)
 have H : ((masterdiscref16_leap.f a0).bind fun t179 => (if t179 = true then (some 366) else (some 365))) = some r := h
 clear h
 replace H := Option.bind_eq_some_iff.mp H
 obtain ⟨t179, A20, H⟩ := H
 replace H : (if t179 = true then (some 366) else (some 365)) = some r := H
 have A2 := Aside0.mk A20
 clear A20
 by_cases c3 : t179 = true
 ·subst c3
  have H1 : (some 366) = some r := by rw [if_pos rfl] at H; exact H
  clear H
  have H := H1
  clear H1
  obtain rfl := Option.some.inj H
  go_enter Tryd.func55, Tryd.ntmps55
  go_wp2_with (first | ((with_reducible refine gate_callee (f := 61) rfl ?_); refine goesL_ (some 4) rfl rfl Tryd.func61 (by kernel_rfl) rfl #[.int .i64 a0] rfl (by ((try simp only [List.map_toArray, List.map_cons, List.map_nil]); first | done | rfl | (simp only [List.length_drop, List.length_take]; rfl))) ?_; (with_reducible refine (masterdiscref16_leap.calls a0 true _ A2.out).mono ?_); rintro e w' ⟨rfl, ⟨nd, rfl⟩⟩; refine ⟨_, rfl, ?_⟩))
  go_ret
  exact ⟨by (first | rfl | (simp [errW_none, errW_some] <;> rfl) | (simp [*, errW_none, errW_some] <;> rfl)), by repeat (first | (with_reducible first | exact HB.out | apply below_alloc | apply pw_below_drewN | apply below_drew1) | exact HB.out)⟩
 ·replace c3 := Bool.eq_false_iff.mpr c3
  subst c3
  have H1 : (some 365) = some r := by rw [if_neg (show ¬ (false = true) by decide)] at H; exact H
  clear H
  have H := H1
  clear H1
  obtain rfl := Option.some.inj H
  go_enter Tryd.func55, Tryd.ntmps55
  go_wp2_with (first | ((with_reducible refine gate_callee (f := 61) rfl ?_); refine goesL_ (some 4) rfl rfl Tryd.func61 (by kernel_rfl) rfl #[.int .i64 a0] rfl (by ((try simp only [List.map_toArray, List.map_cons, List.map_nil]); first | done | rfl | (simp only [List.length_drop, List.length_take]; rfl))) ?_; (with_reducible refine (masterdiscref16_leap.calls a0 false _ A2.out).mono ?_); rintro e w' ⟨rfl, ⟨nd, rfl⟩⟩; refine ⟨_, rfl, ?_⟩))
  go_ret
  exact ⟨by (first | rfl | (simp [errW_none, errW_some] <;> rfl) | (simp [*, errW_none, errW_some] <;> rfl)), by repeat (first | (with_reducible first | exact HB.out | apply below_alloc | apply pw_below_drewN | apply below_drew1) | exact HB.out)⟩

/-! ### masterdiscref16_days: function 56 -/
def masterdiscref16_days.f (a0 : Int) (a1 : Int) : Option (Int) := if a1 = 2 then ((masterdiscref16_leap.f a0).bind fun t180 => (if t180 = true then (some 29) else (some 28))) else (if a1 = 4 then (some 30) else (if a1 = 6 then (some 30) else (if a1 = 9 then (some 30) else (if a1 = 11 then (some 30) else (some 31)))))
set_option maxHeartbeats 8000000 in
set_option maxRecDepth 100000 in
theorem masterdiscref16_days.calls (a0 : Int) (a1 : Int) (r : Int) (w : World) (h : masterdiscref16_days.f a0 a1 = some r) :
  Calls Tryd.prog 56 #[.int .i64 a0, .int .i64 a1] w fun e w' => e = .returned (.int .i64 r) ∧ Below w.heap.size w w' := by
 have HB := Aside0.mk (Below.refl w.heap.size w)
 have H : (if a1 = 2 then ((masterdiscref16_leap.f a0).bind fun t180 => (if t180 = true then (some 29) else (some 28))) else (if a1 = 4 then (some 30) else (if a1 = 6 then (some 30) else (if a1 = 9 then (some 30) else (if a1 = 11 then (some 30) else (some 31)))))) = some r := h
 clear h
 by_cases c3 : a1 = 2
 ·rw [if_pos c3] at H
  have c3b0 : (a1 == 2) = true := beq_iff_eq.mpr c3
  have c3b1 : (a1 != 2) = false := bne_eq_false_iff_eq.mpr c3
  clear c3
  replace H := Option.bind_eq_some_iff.mp H
  obtain ⟨t180, A40, H⟩ := H
  replace H : (if t180 = true then (some 29) else (some 28)) = some r := H
  have A4 := Aside0.mk A40
  clear A40
  by_cases c5 : t180 = true
  ·subst c5
   have H1 : (some 29) = some r := by rw [if_pos rfl] at H; exact H
   clear H
   have H := H1
   clear H1
   obtain rfl := Option.some.inj H
   go_enter Tryd.func56, Tryd.ntmps56
   go_wp2_with (first | ((with_reducible refine gate_callee (f := 61) rfl ?_); refine goesL_ (some 8) rfl rfl Tryd.func61 (by kernel_rfl) rfl #[.int .i64 a0] rfl (by ((try simp only [List.map_toArray, List.map_cons, List.map_nil]); first | done | rfl | (simp only [List.length_drop, List.length_take]; rfl))) ?_; (with_reducible refine (masterdiscref16_leap.calls a0 true _ A4.out).mono ?_); rintro e w' ⟨rfl, ⟨nd, rfl⟩⟩; refine ⟨_, rfl, ?_⟩))
   go_ret
   exact ⟨by (first | rfl | (simp [errW_none, errW_some] <;> rfl) | (simp [*, errW_none, errW_some] <;> rfl)), by repeat (first | (with_reducible first | exact HB.out | apply below_alloc | apply pw_below_drewN | apply below_drew1) | exact HB.out)⟩
  ·replace c5 := Bool.eq_false_iff.mpr c5
   subst c5
   have H1 : (some 28) = some r := by rw [if_neg (show ¬ (false = true) by decide)] at H; exact H
   clear H
   have H := H1
   clear H1
   obtain rfl := Option.some.inj H
   go_enter Tryd.func56, Tryd.ntmps56
   go_wp2_with (first | ((with_reducible refine gate_callee (f := 61) rfl ?_); refine goesL_ (some 8) rfl rfl Tryd.func61 (by kernel_rfl) rfl #[.int .i64 a0] rfl (by ((try simp only [List.map_toArray, List.map_cons, List.map_nil]); first | done | rfl | (simp only [List.length_drop, List.length_take]; rfl))) ?_; (with_reducible refine (masterdiscref16_leap.calls a0 false _ A4.out).mono ?_); rintro e w' ⟨rfl, ⟨nd, rfl⟩⟩; refine ⟨_, rfl, ?_⟩))
   go_ret
   exact ⟨by (first | rfl | (simp [errW_none, errW_some] <;> rfl) | (simp [*, errW_none, errW_some] <;> rfl)), by repeat (first | (with_reducible first | exact HB.out | apply below_alloc | apply pw_below_drewN | apply below_drew1) | exact HB.out)⟩
 ·rw [if_neg c3] at H
  have c3b0 : (a1 == 2) = false := beq_eq_false_iff_ne.mpr c3
  have c3b1 : (a1 != 2) = true := bne_iff_ne.mpr c3
  by_cases c6 : a1 = 4
  ·rw [if_pos c6] at H
   have c6b0 : (a1 == 4) = true := beq_iff_eq.mpr c6
   have c6b1 : (a1 != 4) = false := bne_eq_false_iff_eq.mpr c6
   clear c6
   obtain rfl := Option.some.inj H
   go_enter Tryd.func56, Tryd.ntmps56
   go_wp2
   go_ret
   exact ⟨by (first | rfl | (simp [errW_none, errW_some] <;> rfl) | (simp [*, errW_none, errW_some] <;> rfl)), by repeat (first | (with_reducible first | exact HB.out | apply below_alloc | apply pw_below_drewN | apply below_drew1) | exact HB.out)⟩
  ·rw [if_neg c6] at H
   have c6b0 : (a1 == 4) = false := beq_eq_false_iff_ne.mpr c6
   have c6b1 : (a1 != 4) = true := bne_iff_ne.mpr c6
   by_cases c7 : a1 = 6
   ·rw [if_pos c7] at H
    have c7b0 : (a1 == 6) = true := beq_iff_eq.mpr c7
    have c7b1 : (a1 != 6) = false := bne_eq_false_iff_eq.mpr c7
    clear c7
    obtain rfl := Option.some.inj H
    go_enter Tryd.func56, Tryd.ntmps56
    go_wp2
    go_ret
    exact ⟨by (first | rfl | (simp [errW_none, errW_some] <;> rfl) | (simp [*, errW_none, errW_some] <;> rfl)), by repeat (first | (with_reducible first | exact HB.out | apply below_alloc | apply pw_below_drewN | apply below_drew1) | exact HB.out)⟩
   ·rw [if_neg c7] at H
    have c7b0 : (a1 == 6) = false := beq_eq_false_iff_ne.mpr c7
    have c7b1 : (a1 != 6) = true := bne_iff_ne.mpr c7
    by_cases c8 : a1 = 9
    ·rw [if_pos c8] at H
     have c8b0 : (a1 == 9) = true := beq_iff_eq.mpr c8
     have c8b1 : (a1 != 9) = false := bne_eq_false_iff_eq.mpr c8
     clear c8
     obtain rfl := Option.some.inj H
     go_enter Tryd.func56, Tryd.ntmps56
     go_wp2
     go_ret
     exact ⟨by (first | rfl | (simp [errW_none, errW_some] <;> rfl) | (simp [*, errW_none, errW_some] <;> rfl)), by repeat (first | (with_reducible first | exact HB.out | apply below_alloc | apply pw_below_drewN | apply below_drew1) | exact HB.out)⟩
    ·rw [if_neg c8] at H
     have c8b0 : (a1 == 9) = false := beq_eq_false_iff_ne.mpr c8
     have c8b1 : (a1 != 9) = true := bne_iff_ne.mpr c8
     by_cases c9 : a1 = 11
     ·rw [if_pos c9] at H
      have c9b0 : (a1 == 11) = true := beq_iff_eq.mpr c9
      have c9b1 : (a1 != 11) = false := bne_eq_false_iff_eq.mpr c9
      clear c9
      obtain rfl := Option.some.inj H
      go_enter Tryd.func56, Tryd.ntmps56
      go_wp2
      go_ret
      exact ⟨by (first | rfl | (simp [errW_none, errW_some] <;> rfl) | (simp [*, errW_none, errW_some] <;> rfl)), by repeat (first | (with_reducible first | exact HB.out | apply below_alloc | apply pw_below_drewN | apply below_drew1) | exact HB.out)⟩
     ·rw [if_neg c9] at H
      have c9b0 : (a1 == 11) = false := beq_eq_false_iff_ne.mpr c9
      have c9b1 : (a1 != 11) = true := bne_iff_ne.mpr c9
      obtain rfl := Option.some.inj H
      go_enter Tryd.func56, Tryd.ntmps56
      go_wp2
      go_ret
      exact ⟨by (first | rfl | (simp [errW_none, errW_some] <;> rfl) | (simp [*, errW_none, errW_some] <;> rfl)), by repeat (first | (with_reducible first | exact HB.out | apply below_alloc | apply pw_below_drewN | apply below_drew1) | exact HB.out)⟩

end Go.Proofs.YtnchkpheepbacaaDoor.Q
