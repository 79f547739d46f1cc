/- Printed for this session's own hand contracts by its own program; Lean checks every line. -/
import Derived.Test.YtnchkpheepbacaaDoorQ0
import Derived.Test.YtnchkpheepbacaaDoorQ3
import Derived.Test.YtnchkpheepbacaaDoorQ4
import Derived.Test.YtnchkpheepbacaaDoorQ5
import Derived.Test.YtnchkpheepbacaaDoorQ9
import Derived.Test.YtnchkpheepbacaaDoorQ10
namespace Go.Proofs.YtnchkpheepbacaaDoor.Q
open Go.Proofs.YtnchkpheepbacaaDoor.Hand
open Go.RowKit Go.Proofs.YtnchkpheepbacaaDoorW.PrintWords Go.Proofs.YtnchkpheepbacaaDoorW.PrintLast Go.Proofs.YtnchkpheepbacaaDoorW.PrintMore
attribute [local go_sem] max2_int min2_int max_two min_two max_three min_three max_four min_four   -- for this text's walks alone
set_option linter.unusedVariables false
set_option linter.unusedSimpArgs false
set_option hygiene false in
local macro "ar_" : tactic => `(tactic| ((try simp only [List.map_toArray, List.map_cons, List.map_nil]); first | done | rfl | (simp only [List.length_drop, List.length_take]; rfl)))
set_option hygiene false in
local macro "hb_" : tactic => `(tactic| (first | (with_reducible first | exact HB.out | apply below_alloc | apply pw_below_drewN | apply below_drew1) | exact HB.out))
set_option hygiene false in
local macro "er_" : tactic => `(tactic| (first | rfl | (simp [errW_none, errW_some] <;> rfl) | (simp [*, errW_none, errW_some] <;> rfl)))
set_option hygiene false in
local macro "cl_" : tactic => `(tactic| ((try clear hb); (try clear hb2); (try clear hk); (try clear hi)))

/-! ### masterdiscref16_Stamp: function 24 -/
def masterdiscref16_Stamp.f (k : Nat) (a0 : Int) (a1 : Int) : Option (ByteArray × Int) := (masterdiscref16_Split.f k a0 a1).bind fun bt315 => (if bt315.2.2.2.2.2.2 = 0 then (some (strOfNums (([(Int.tmod (wrap64 (4096 + (Int.tmod (wrap64 (a1 + 4096)) 4096))) 256) % 256, (wrap64 (Int.tdiv (wrap64 (4096 + (Int.tmod (wrap64 (a1 + 4096)) 4096))) 256)) % 256, (Int.tmod bt315.1 256) % 256, (wrap64 (Int.tdiv bt315.1 256)) % 256, (bt315.2.1) % 256, (bt315.2.2.1) % 256, (bt315.2.2.2.1) % 256, (bt315.2.2.2.2.1) % 256, (bt315.2.2.2.2.2.1) % 256, 0, 0, 0] : List Int)), 0)) else (some ((⟨#[]⟩ : ByteArray), bt315.2.2.2.2.2.2)))
theorem masterdiscref16_Stamp.mono : ∀ a0 a1 k, LeO (masterdiscref16_Stamp.f k a0 a1) (masterdiscref16_Stamp.f (k + 1) a0 a1) := by
 intro a0 a1 k
 unfold masterdiscref16_Stamp.f
 repeat' first
   | (with_reducible exact masterdiscref16_Split.mono _ _ _)
   | (with_reducible exact LeO.refl _)
   | (with_reducible exact LeO.none _)
   | (with_reducible refine LeO.ite ?_ ?_)
   | (with_reducible refine LeO.bind ?_ (fun _ => ?_))
   | exact masterdiscref16_Split.mono _ _ _
   | exact LeO.none _
   | refine LeO.ite ?_ ?_
   | refine LeO.bind ?_ (fun _ => ?_)
set_option maxHeartbeats 8000000 in
set_option maxRecDepth 100000 in
theorem masterdiscref16_Stamp.calls (k : Nat) (a0 : Int) (a1 : Int) (r1 : ByteArray) (r2 : Int) (w : World) (h : masterdiscref16_Stamp.f k a0 a1 = some (r1, r2)) :
  Calls Tryd.prog 24 #[.int .i64 a0, .int .i64 a1] w fun e w' => e = .returned (.tuple #[.string r1, .int .i64 r2]) ∧ Below w.heap.size w w' := by
 have hu23 := Tryd.underlying23
 have HB := Aside0.mk (Below.refl w.heap.size w)
 have H : ((masterdiscref16_Split.f k a0 a1).bind fun bt315 => (if bt315.2.2.2.2.2.2 = 0 then (some (strOfNums (([(Int.tmod (wrap64 (4096 + (Int.tmod (wrap64 (a1 + 4096)) 4096))) 256) % 256, (wrap64 (Int.tdiv (wrap64 (4096 + (Int.tmod (wrap64 (a1 + 4096)) 4096))) 256)) % 256, (Int.tmod bt315.1 256) % 256, (wrap64 (Int.tdiv bt315.1 256)) % 256, (bt315.2.1) % 256, (bt315.2.2.1) % 256, (bt315.2.2.2.1) % 256, (bt315.2.2.2.2.1) % 256, (bt315.2.2.2.2.2.1) % 256, 0, 0, 0] : List Int)), 0)) else (some ((⟨#[]⟩ : ByteArray), bt315.2.2.2.2.2.2)))) = some (r1, r2) := h
 clear h
 replace H := Option.bind_eq_some_iff.mp H
 obtain ⟨⟨t315, t316, t317, t318, t319, t320, t321⟩, A30, H⟩ := H
 replace H : (if t321 = 0 then (some (strOfNums (([(Int.tmod (wrap64 (4096 + (Int.tmod (wrap64 (a1 + 4096)) 4096))) 256) % 256, (wrap64 (Int.tdiv (wrap64 (4096 + (Int.tmod (wrap64 (a1 + 4096)) 4096))) 256)) % 256, (Int.tmod t315 256) % 256, (wrap64 (Int.tdiv t315 256)) % 256, (t316) % 256, (t317) % 256, (t318) % 256, (t319) % 256, (t320) % 256, 0, 0, 0] : List Int)), 0)) else (some ((⟨#[]⟩ : ByteArray), t321))) = some (r1, r2) := H
 have A3 := Aside0.mk A30
 clear A30
 by_cases c4 : t321 = 0
 ·rw [if_pos c4] at H
  have c4b0 : (t321 == 0) = true := beq_iff_eq.mpr c4
  have c4b1 : (t321 != 0) = false := bne_eq_false_iff_eq.mpr c4
  clear c4
  obtain ⟨y323, hy323⟩ : ∃ y_ : List Int, y_ = (([(Int.tmod (wrap64 (4096 + (Int.tmod (wrap64 (a1 + 4096)) 4096))) 256) % 256, (wrap64 (Int.tdiv (wrap64 (4096 + (Int.tmod (wrap64 (a1 + 4096)) 4096))) 256)) % 256, (Int.tmod t315 256) % 256, (wrap64 (Int.tdiv t315 256)) % 256, (t316) % 256, (t317) % 256, (t318) % 256, (t319) % 256, (t320) % 256, 0, 0, 0] : List Int)) := ⟨_, rfl⟩
  replace H : (some (strOfNums y323, 0)) = some (r1, r2) := by first | (rw [hy323]; with_reducible exact H) | (have H2_ := (Option.bind_some _ _).symm.trans H; rw [hy323]; with_reducible exact H2_) | (have H2_ := (Option.bind_some _ _).symm.trans H; with_reducible exact H2_) | with_reducible exact H | (rw [hy323]; exact H) | exact H
  have Ny323 := Aside0.mk hy323
  clear hy323
  simp only [Option.some.injEq, Prod.mk.injEq] at H
  obtain ⟨rfl, rfl⟩ := H
  go_enter Tryd.func24, Tryd.ntmps24
  go_wp2_with (first | ((with_reducible refine gate_callee (f := 13) rfl ?_); refine goesL_ (some 12) rfl rfl Tryd.func13 (by kernel_rfl) rfl #[.int .i64 a0, .int .i64 a1] rfl (by ar_) ?_; (with_reducible refine (masterdiscref16_Split.calls k a0 a1 t315 t316 t317 t318 t319 t320 t321 _ A3.out).mono ?_); rintro e w5 ⟨rfl, hb⟩; refine ⟨_, rfl, ?_⟩; have n0_ := Aside0.mk (below_step (by repeat hb_) hb); clear HB; have HB := n0_; clear n0_; cl_) | ((with_reducible refine gate_dst (N := 6) rfl ?_); refine box_event ?hg (N := 6) ?hd (cs := #[.int .i64 0, .int .i64 0, .int .i64 0, .int .i64 0, .int .i64 0, .int .i64 0]) (t := 23) ?hr ?_; (case hd => rfl); (case hg => rfl); (case hr => first | (go_simp; done) | (go_simp; rfl)); intro gb322 hg w6 hbox hb; have n0_ := Aside0.mk (below_step (by repeat hb_) hb); have n1_ := Aside0.mk (hbox); have n2_ := Aside0.mk ((by rw [hg]; exact (below_size (by repeat hb_)) : w.heap.size ≤ gb322)); have n3_ := Aside0.mk ((by rw [hg]; exact (below_size (by repeat hb_)) : w.heap.size ≤ gb322)); clear HB; have HB := n0_; have BK322 := n1_; have GW322 := n2_; have GE322 := n3_; clear n0_ n1_ n2_ n3_; clear hb hbox hg; have hcz7_0 : w6.cell? ⟨gb322, 0, none⟩ = some (.int .i64 0) := (blk_cell BK322.out 0).trans rfl; have hcz7_1 : w6.cell? ⟨gb322, 1, none⟩ = some (.int .i64 0) := (blk_cell BK322.out 1).trans rfl; have hcz7_2 : w6.cell? ⟨gb322, 2, none⟩ = some (.int .i64 0) := (blk_cell BK322.out 2).trans rfl; have hcz7_3 : w6.cell? ⟨gb322, 3, none⟩ = some (.int .i64 0) := (blk_cell BK322.out 3).trans rfl; have hcz7_4 : w6.cell? ⟨gb322, 4, none⟩ = some (.int .i64 0) := (blk_cell BK322.out 4).trans rfl; have hcz7_5 : w6.cell? ⟨gb322, 5, none⟩ = some (.int .i64 0) := (blk_cell BK322.out 5).trans rfl; have hfz7_0 := blk_frozen BK322.out 0; have hfz7_1 := blk_frozen BK322.out 1; have hfz7_2 := blk_frozen BK322.out 2; have hfz7_3 := blk_frozen BK322.out 3; have hfz7_4 := blk_frozen BK322.out 4; have hfz7_5 := blk_frozen BK322.out 5) | ((with_reducible refine gate_dst (N := 51) rfl ?_); refine Kd.R_lit (Kd.int .u8) _ 5 ?hg (N := 51) ?hd (xs := ([(Int.tmod (wrap64 (4096 + (Int.tmod (wrap64 (a1 + 4096)) 4096))) 256) % 256, (wrap64 (Int.tdiv (wrap64 (4096 + (Int.tmod (wrap64 (a1 + 4096)) 4096))) 256)) % 256, (Int.tmod t315 256) % 256, (wrap64 (Int.tdiv t315 256)) % 256, (t316) % 256, (t317) % 256, (t318) % 256, (t319) % 256, (t320) % 256, 0, 0, 0] : List Int)) (inner := [.int .u8 ((Int.tmod (wrap64 (4096 + (Int.tmod (wrap64 (a1 + 4096)) 4096))) 256) % 256), .int .u8 ((wrap64 (Int.tdiv (wrap64 (4096 + (Int.tmod (wrap64 (a1 + 4096)) 4096))) 256)) % 256), .int .u8 ((Int.tmod t315 256) % 256), .int .u8 ((wrap64 (Int.tdiv t315 256)) % 256), .int .u8 ((t316) % 256), .int .u8 ((t317) % 256), .int .u8 ((t318) % 256), .int .u8 ((t319) % 256), .int .u8 ((t320) % 256), .int .u8 0, .int .u8 0, .int .u8 0]) (ok := fun _ => True) (okp := fun _ => True) ?hr ?hp (fun _ hk => hk) trivial (Below.refl _ _) (Nat.le_refl _) (by simp) ?_; (case hd => rfl); (case hg => rfl); (case hr => first | (go_simp; done) | (go_simp; rfl)); (case hp => exact (Reps.one (show Kd.M (Kd.int .u8) _ _ _ ((Int.tmod (wrap64 (4096 + (Int.tmod (wrap64 (a1 + 4096)) 4096))) 256) % 256) [.int .u8 ((Int.tmod (wrap64 (4096 + (Int.tmod (wrap64 (a1 + 4096)) 4096))) 256) % 256)] from rfl) (Reps.one (show Kd.M (Kd.int .u8) _ _ _ ((wrap64 (Int.tdiv (wrap64 (4096 + (Int.tmod (wrap64 (a1 + 4096)) 4096))) 256)) % 256) [.int .u8 ((wrap64 (Int.tdiv (wrap64 (4096 + (Int.tmod (wrap64 (a1 + 4096)) 4096))) 256)) % 256)] from rfl) (Reps.one (show Kd.M (Kd.int .u8) _ _ _ ((Int.tmod t315 256) % 256) [.int .u8 ((Int.tmod t315 256) % 256)] from rfl) (Reps.one (show Kd.M (Kd.int .u8) _ _ _ ((wrap64 (Int.tdiv t315 256)) % 256) [.int .u8 ((wrap64 (Int.tdiv t315 256)) % 256)] from rfl) (Reps.one (show Kd.M (Kd.int .u8) _ _ _ ((t316) % 256) [.int .u8 ((t316) % 256)] from rfl) (Reps.one (show Kd.M (Kd.int .u8) _ _ _ ((t317) % 256) [.int .u8 ((t317) % 256)] from rfl) (Reps.one (show Kd.M (Kd.int .u8) _ _ _ ((t318) % 256) [.int .u8 ((t318) % 256)] from rfl) (Reps.one (show Kd.M (Kd.int .u8) _ _ _ ((t319) % 256) [.int .u8 ((t319) % 256)] from rfl) (Reps.one (show Kd.M (Kd.int .u8) _ _ _ ((t320) % 256) [.int .u8 ((t320) % 256)] from rfl) (Reps.one (show Kd.M (Kd.int .u8) _ _ _ 0 [.int .u8 0] from rfl) (Reps.one (show Kd.M (Kd.int .u8) _ _ _ 0 [.int .u8 0] from rfl) (Reps.one (show Kd.M (Kd.int .u8) _ _ _ 0 [.int .u8 0] from rfl) (Reps.none _ _)))))))))))))); intro v324 w8 ho9 hb hg_ hnew_; clear hg_ hnew_; (first | rw [← Ny323.out] at ho9 | (simp only [Int.reduceToNat] at ho9; rw [← Ny323.out] at ho9)); have n0_ := Aside0.mk (Kd.R_lower ho9 (below_size (by repeat (first | (with_reducible first | exact HB.out | apply below_alloc | apply pw_below_drewN | apply below_drew1 | refine below_set ?_ GE322.out) | exact HB.out)))); have n1_ := Aside0.mk (blk_below (g := gb322) (o := .cells #[.int .i64 t315, .int .i64 t316, .int .i64 t317, .int .i64 t318, .int .i64 t319, .int .i64 t320] 23 (0, 0)) (by (with_reducible repeat (first | refine blk_drewN ?_ _ | refine blk_drew ?_ | refine blk_alloc ?_ _)); refine blk_put (cs := #[.int .i64 t315, .int .i64 t316, .int .i64 t317, .int .i64 t318, .int .i64 t319, .int .i64 0]) ?_ 5 _ rfl; (with_reducible repeat (first | refine blk_drewN ?_ _ | refine blk_drew ?_ | refine blk_alloc ?_ _)); refine blk_put (cs := #[.int .i64 t315, .int .i64 t316, .int .i64 t317, .int .i64 t318, .int .i64 0, .int .i64 0]) ?_ 4 _ rfl; (with_reducible repeat (first | refine blk_drewN ?_ _ | refine blk_drew ?_ | refine blk_alloc ?_ _)); refine blk_put (cs := #[.int .i64 t315, .int .i64 t316, .int .i64 t317, .int .i64 0, .int .i64 0, .int .i64 0]) ?_ 3 _ rfl; (with_reducible repeat (first | refine blk_drewN ?_ _ | refine blk_drew ?_ | refine blk_alloc ?_ _)); refine blk_put (cs := #[.int .i64 t315, .int .i64 t316, .int .i64 0, .int .i64 0, .int .i64 0, .int .i64 0]) ?_ 2 _ rfl; (with_reducible repeat (first | refine blk_drewN ?_ _ | refine blk_drew ?_ | refine blk_alloc ?_ _)); refine blk_put (cs := #[.int .i64 t315, .int .i64 0, .int .i64 0, .int .i64 0, .int .i64 0, .int .i64 0]) ?_ 1 _ rfl; (with_reducible repeat (first | refine blk_drewN ?_ _ | refine blk_drew ?_ | refine blk_alloc ?_ _)); refine blk_put (cs := #[.int .i64 0, .int .i64 0, .int .i64 0, .int .i64 0, .int .i64 0, .int .i64 0]) ?_ 0 _ rfl; (with_reducible repeat (first | refine blk_drewN ?_ _ | refine blk_drew ?_ | refine blk_alloc ?_ _)); exact BK322.out) hb); have n2_ := Aside0.mk (below_step (by repeat (first | (with_reducible first | exact HB.out | apply below_alloc | apply pw_below_drewN | apply below_drew1 | refine below_set ?_ GE322.out) | exact HB.out)) hb); clear BK322; clear HB; have HO325 := n0_; have BK322 := n1_; have HB := n2_; clear n0_ n1_ n2_; clear hb ho9; have hcv10 := own_string (P := Tryd.prog) Tryd.underlying47 Tryd.underlying5 Tryd.underlying9 (Kd.own_of_R HO325.out)))
  go_ret2
  exact ⟨by er_, by repeat (first | (with_reducible first | exact HB.out | apply below_alloc | apply pw_below_drewN | apply below_drew1 | refine below_set ?_ GE322.out) | exact HB.out)⟩
 ·rw [if_neg c4] at H
  have c4b0 : (t321 == 0) = false := beq_eq_false_iff_ne.mpr c4
  have c4b1 : (t321 != 0) = true := bne_iff_ne.mpr c4
  simp only [Option.some.injEq, Prod.mk.injEq] at H
  obtain ⟨rfl, rfl⟩ := H
  go_enter Tryd.func24, Tryd.ntmps24
  go_wp2_with (first | ((with_reducible refine gate_callee (f := 13) rfl ?_); refine goesL_ (some 12) rfl rfl Tryd.func13 (by kernel_rfl) rfl #[.int .i64 a0, .int .i64 a1] rfl (by ar_) ?_; (with_reducible refine (masterdiscref16_Split.calls k a0 a1 t315 t316 t317 t318 t319 t320 t321 _ A3.out).mono ?_); rintro e w11 ⟨rfl, hb⟩; refine ⟨_, rfl, ?_⟩; have n0_ := Aside0.mk (below_step (by repeat hb_) hb); clear HB; have HB := n0_; clear n0_; cl_) | ((with_reducible refine gate_dst (N := 6) rfl ?_); refine box_event ?hg (N := 6) ?hd (cs := #[.int .i64 0, .int .i64 0, .int .i64 0, .int .i64 0, .int .i64 0, .int .i64 0]) (t := 23) ?hr ?_; (case hd => rfl); (case hg => rfl); (case hr => first | (go_simp; done) | (go_simp; rfl)); intro gb322 hg w12 hbox hb; have n0_ := Aside0.mk (below_step (by repeat hb_) hb); have n1_ := Aside0.mk (hbox); have n2_ := Aside0.mk ((by rw [hg]; exact (below_size (by repeat hb_)) : w.heap.size ≤ gb322)); have n3_ := Aside0.mk ((by rw [hg]; exact (below_size (by repeat hb_)) : w.heap.size ≤ gb322)); clear HB; have HB := n0_; have BK322 := n1_; have GW322 := n2_; have GE322 := n3_; clear n0_ n1_ n2_ n3_; clear hb hbox hg; have hcz13_0 : w12.cell? ⟨gb322, 0, none⟩ = some (.int .i64 0) := (blk_cell BK322.out 0).trans rfl; have hcz13_1 : w12.cell? ⟨gb322, 1, none⟩ = some (.int .i64 0) := (blk_cell BK322.out 1).trans rfl; have hcz13_2 : w12.cell? ⟨gb322, 2, none⟩ = some (.int .i64 0) := (blk_cell BK322.out 2).trans rfl; have hcz13_3 : w12.cell? ⟨gb322, 3, none⟩ = some (.int .i64 0) := (blk_cell BK322.out 3).trans rfl; have hcz13_4 : w12.cell? ⟨gb322, 4, none⟩ = some (.int .i64 0) := (blk_cell BK322.out 4).trans rfl; have hcz13_5 : w12.cell? ⟨gb322, 5, none⟩ = some (.int .i64 0) := (blk_cell BK322.out 5).trans rfl; have hfz13_0 := blk_frozen BK322.out 0; have hfz13_1 := blk_frozen BK322.out 1; have hfz13_2 := blk_frozen BK322.out 2; have hfz13_3 := blk_frozen BK322.out 3; have hfz13_4 := blk_frozen BK322.out 4; have hfz13_5 := blk_frozen BK322.out 5))
  go_ret2
  exact ⟨by er_, by repeat (first | (with_reducible first | exact HB.out | apply below_alloc | apply pw_below_drewN | apply below_drew1 | refine below_set ?_ GE322.out) | exact HB.out)⟩

-- NOT PRINTED: function 25 (datetime_ReadStamp)

end Go.Proofs.YtnchkpheepbacaaDoor.Q
