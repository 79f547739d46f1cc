/- Printed for this session's own hand contracts by its own program; Lean checks every line. -/
import Derived.Test.YtnchkpheepbacaaDoorProg
import Derived.Test.YtnchkpheepbacaaDoorHy
import Derived.Below
import Derived.Deep.Draws
import Derived.Deep.AppendLies
import Derived.Maps.AppendAt
import Derived.OwnWalk
import Derived.Laws.BytesArg
import Derived.Laws.MakeOwn
import Derived.Laws.OwnMore
import Derived.Deep.OwnRows
import Derived.Tactics
import Derived.Lib.ConvBytes
import Derived.Laws.Slices
import Derived.WalkKit
import Derived.KernelRfl
import Derived.RowKit3
import Derived.Deep.LoopGhost
import Derived.Deep.QuietTactic
import Derived.BigQuiet
import Derived.WideLaws
import Derived.Deep.DeepCutAuto
import Derived.Deep.CutBlock
import Derived.Deep.RegionHeld3
import Derived.Laws.Rows
import Derived.Lib.AppendStr
import Derived.ArgAppend
import Derived.Laws.IdiomCopy
import Derived.OrdersHeld
import Derived.Laws.BitsLemmas
import Derived.RowKit
import Derived.Test.YtnchkpheepbacaaDoorWWords
import Derived.Test.YtnchkpheepbacaaDoorWLast
import Derived.Test.YtnchkpheepbacaaDoorWTab
import Derived.Test.YtnchkpheepbacaaDoorWFour
import Derived.Test.YtnchkpheepbacaaDoorWQPut
import Derived.Test.YtnchkpheepbacaaDoorWApart
import Derived.Test.YtnchkpheepbacaaDoorWArr
import Derived.Test.YtnchkpheepbacaaDoorWZeros
import Derived.Test.YtnchkpheepbacaaDoorWFoot
import Derived.Test.YtnchkpheepbacaaDoorWKept
import Derived.Test.YtnchkpheepbacaaDoorWShare
import Derived.Test.YtnchkpheepbacaaDoorWN
import Derived.Test.YtnchkpheepbacaaDoorWFootNe
import Derived.Test.YtnchkpheepbacaaDoorWAt
import Derived.Test.YtnchkpheepbacaaDoorWEqStruct
import Derived.Test.YtnchkpheepbacaaDoorWRepsOne
import Derived.Test.YtnchkpheepbacaaDoorWInv
import Derived.Test.YtnchkpheepbacaaDoorWInvWords
import Derived.Test.YtnchkpheepbacaaDoorWGuard
import Derived.Test.YtnchkpheepbacaaDoorWNEv
import Derived.Test.YtnchkpheepbacaaDoorWMore
namespace Go.Proofs.YtnchkpheepbacaaDoor.V
open Go.Proofs.YtnchkpheepbacaaDoor.Z
open Go.Proofs.YtnchkpheepbacaaDoor.Hand (HG HG.below)
open Go.RowKit Go.Proofs.YtnchkpheepbacaaDoorW.PrintWords Go.Proofs.YtnchkpheepbacaaDoorW.PrintLast Go.Proofs.YtnchkpheepbacaaDoorW.PrintMore
attribute [local go_sem] max2_int min2_int max_two min_two max_three min_three max_four min_four   -- for this text's walks alone
set_option linter.unusedVariables false
set_option linter.unusedSimpArgs false



def errW : Option Int → Value
  | none => .nilIface
  | some c => .iface 0 (.int .i64 c)
theorem errW_none : errW none = .nilIface := rfl
theorem errW_some (c : Int) : errW (some c) = .iface 0 (.int .i64 c) := rfl

-- the values' own types

end Go.Proofs.YtnchkpheepbacaaDoor.V

namespace Go.Proofs.YtnchkpheepbacaaDoor.V
open Go.Proofs.YtnchkpheepbacaaDoor.Z
open Go.Proofs.YtnchkpheepbacaaDoor.Hand (HG HG.below)
open Go.RowKit Go.Proofs.YtnchkpheepbacaaDoorW.PrintWords Go.Proofs.YtnchkpheepbacaaDoorW.PrintLast Go.Proofs.YtnchkpheepbacaaDoorW.PrintMore
attribute [local go_sem] max2_int min2_int max_two min_two max_three min_three max_four min_four   -- for this text's walks alone
set_option linter.unusedVariables false
set_option linter.unusedSimpArgs false

-- function 11 (masterdisclaw16_awake): walked by hand

/-! ### masterdiscref16_Time: function 16 -/
def masterdiscref16_Time.f (a0 : Int) : Option (Bool) := if a0 ≥ 315532800 then (some (decide (a0 ≤ 4102444799))) else (some false)
set_option maxHeartbeats 8000000 in
set_option maxRecDepth 100000 in
theorem masterdiscref16_Time.calls (a0 : Int) (r : Bool) (w : World) (h : masterdiscref16_Time.f a0 = some r) :
  Calls Tryd.prog 16 #[.int .i64 a0] w fun e w' => e = .returned (.bool r) ∧ Drawn0 w w' := by
 have H : (if a0 ≥ 315532800 then (some (decide (a0 ≤ 4102444799))) else (some false)) = some r := h
 clear h
 by_cases c2 : a0 ≥ 315532800
 ·rw [if_pos c2] at H
  have c2b0 : decide (315532800 ≤ a0) = true := decide_eq_true c2
  clear c2
  obtain rfl := Option.some.inj H
  go_enter Tryd.func16, Tryd.ntmps16
  go_wp2
  go_ret
  exact ⟨by first | rfl | (simp; done) | (simp [*]; done), by repeat (first | exact Drawn0.refl _ | apply Drawn0.step)⟩
 ·rw [if_neg c2] at H
  have c2b0 : decide (315532800 ≤ a0) = false := decide_eq_false c2
  clear c2
  obtain rfl := Option.some.inj H
  go_enter Tryd.func16, Tryd.ntmps16
  go_wp2
  go_ret
  exact ⟨by first | rfl | (simp; done) | (simp [*]; done), by repeat (first | exact Drawn0.refl _ | apply Drawn0.step)⟩

/-! ### masterdiscref16_Zone: function 17 -/
def masterdiscref16_Zone.f (a0 : Int) : Option (Bool) := if a0 ≥ (-1440) then (some (decide (a0 ≤ 1440))) else (some false)
set_option maxHeartbeats 8000000 in
set_option maxRecDepth 100000 in
theorem masterdiscref16_Zone.calls (a0 : Int) (r : Bool) (w : World) (h : masterdiscref16_Zone.f a0 = some r) :
  Calls Tryd.prog 17 #[.int .i64 a0] w fun e w' => e = .returned (.bool r) ∧ Drawn0 w w' := by
 have H : (if a0 ≥ (-1440) then (some (decide (a0 ≤ 1440))) else (some false)) = some r := h
 clear h
 by_cases c2 : a0 ≥ (-1440)
 ·rw [if_pos c2] at H
  have c2b0 : decide ((-1440) ≤ a0) = true := decide_eq_true c2
  clear c2
  obtain rfl := Option.some.inj H
  go_enter Tryd.func17, Tryd.ntmps17
  go_wp2
  go_ret
  exact ⟨by first | rfl | (simp; done) | (simp [*]; done), by repeat (first | exact Drawn0.refl _ | apply Drawn0.step)⟩
 ·rw [if_neg c2] at H
  have c2b0 : decide ((-1440) ≤ a0) = false := decide_eq_false c2
  clear c2
  obtain rfl := Option.some.inj H
  go_enter Tryd.func17, Tryd.ntmps17
  go_wp2
  go_ret
  exact ⟨by first | rfl | (simp; done) | (simp [*]; done), by repeat (first | exact Drawn0.refl _ | apply Drawn0.step)⟩

-- function 19 (datetime_Record): walked by hand

-- function 21 (datetime_ReadRecord): walked by hand

-- function 23 (datetime_Stamp): walked by hand

-- function 25 (datetime_ReadStamp): walked by hand

-- function 27 (datetime_Descriptor): walked by hand

-- function 29 (datetime_ReadDescriptor): walked by hand

/-! ### masterdiscref16_Quarter: function 31 -/
def masterdiscref16_Quarter.f (a0 : Int) : Option (Bool) := if a0 ≥ (-720) then (if a0 ≤ 780 then (some ((Int.tmod a0 15) == 0)) else (some false)) else (some false)
set_option maxHeartbeats 8000000 in
set_option maxRecDepth 100000 in
theorem masterdiscref16_Quarter.calls (a0 : Int) (r : Bool) (w : World) (h : masterdiscref16_Quarter.f a0 = some r) :
  Calls Tryd.prog 31 #[.int .i64 a0] w fun e w' => e = .returned (.bool r) ∧ Drawn0 w w' := by
 have H : (if a0 ≥ (-720) then (if a0 ≤ 780 then (some ((Int.tmod a0 15) == 0)) else (some false)) else (some false)) = some r := h
 clear h
 by_cases c2 : a0 ≥ (-720)
 ·rw [if_pos c2] at H
  have c2b0 : decide ((-720) ≤ a0) = true := decide_eq_true c2
  clear c2
  by_cases c3 : a0 ≤ 780
  ·rw [if_pos c3] at H
   have c3b0 : decide (a0 ≤ 780) = true := decide_eq_true c3
   clear c3
   obtain rfl := Option.some.inj H
   go_enter Tryd.func31, Tryd.ntmps31
   go_wp2
   go_ret
   exact ⟨by first | rfl | (simp; done) | (simp [*]; done), by repeat (first | exact Drawn0.refl _ | apply Drawn0.step)⟩
  ·rw [if_neg c3] at H
   have c3b0 : decide (a0 ≤ 780) = false := decide_eq_false c3
   clear c3
   obtain rfl := Option.some.inj H
   go_enter Tryd.func31, Tryd.ntmps31
   go_wp2
   go_ret
   exact ⟨by first | rfl | (simp; done) | (simp [*]; done), by repeat (first | exact Drawn0.refl _ | apply Drawn0.step)⟩
 ·rw [if_neg c2] at H
  have c2b0 : decide ((-720) ≤ a0) = false := decide_eq_false c2
  clear c2
  obtain rfl := Option.some.inj H
  go_enter Tryd.func31, Tryd.ntmps31
  go_wp2
  go_ret
  exact ⟨by first | rfl | (simp; done) | (simp [*]; done), by repeat (first | exact Drawn0.refl _ | apply Drawn0.step)⟩

/-! ### masterdisclaw16_DatetimeReturns: function 10 -/
def masterdisclaw16_DatetimeReturns.j0 : Nat → Int → Int → Option (Bool)
 | 0, _, _ => none
 | k + 1, x0, x2 => (masterdiscref16_Quarter.f x2).bind fun t109 => (if t109 = true then ((datetime_Record.f x0 x2).bind fun bt110 => ((datetime_ReadRecord.f bt110.1).bind fun bt112 => ((datetime_Descriptor.f x0 x2).bind fun bt115 => ((datetime_ReadDescriptor.f bt115.1).bind fun bt117 => (if bt110.2 = 0 then (if bt112.2.2 = 0 then (if bt112.1 = x0 then (if bt112.2.1 = x2 then (if bt115.2 = 0 then (if bt117.2.2 = 0 then (if bt117.1 = x0 then (some (bt117.2.1 == x2)) else (some false)) else (some false)) else (some false)) else (some false)) else (some false)) else (some false)) else (some false)))))) else (some true))
def masterdisclaw16_DatetimeReturns.f (k : Nat) (a0 : Int) (a1 : Int) (a2 : Int) : Option (Bool) := (masterdisclaw16_awake.f).bind fun t101 => (if t101 = true then ((masterdiscref16_Time.f a0).bind fun t102 => (if t102 = true then ((masterdiscref16_Zone.f a1).bind fun t103 => (if t103 = true then ((datetime_Stamp.f a0 a1).bind fun bt104 => ((datetime_ReadStamp.f bt104.1).bind fun bt106 => (if bt104.2 = 0 then (if bt106.2.2 = 0 then (if bt106.1 = a0 then (if bt106.2.1 = a1 then (masterdisclaw16_DatetimeReturns.j0 k a0 a2) else (some false)) else (some false)) else (some false)) else (some false)))) else (masterdisclaw16_DatetimeReturns.j0 k a0 a2))) else (some true))) else (some false))
theorem masterdisclaw16_DatetimeReturns.mono_l : ∀ k, (∀ y0 y1, LeO (masterdisclaw16_DatetimeReturns.j0 k y0 y1) (masterdisclaw16_DatetimeReturns.j0 (k + 1) y0 y1))
 | 0 => fun _ _ r h => by simp [masterdisclaw16_DatetimeReturns.j0] at h
 | k + 1 => by
  have ih0 := masterdisclaw16_DatetimeReturns.mono_l k
  ·intro y0 y1
   unfold masterdisclaw16_DatetimeReturns.j0
   repeat' first
   | (with_reducible exact ih0 _ _)
   | (with_reducible exact LeO.refl _)
   | (with_reducible exact LeO.none _)
   | (with_reducible refine LeO.ite ?_ ?_)
   | (with_reducible refine LeO.bind ?_ (fun _ => ?_))
   | exact ih0 _ _
   | exact LeO.none _
   | refine LeO.ite ?_ ?_
   | refine LeO.bind ?_ (fun _ => ?_)
theorem masterdisclaw16_DatetimeReturns.mono : ∀ a0 a1 a2 k, LeO (masterdisclaw16_DatetimeReturns.f k a0 a1 a2) (masterdisclaw16_DatetimeReturns.f (k + 1) a0 a1 a2) := by
 intro a0 a1 a2 k
 have ih0 := masterdisclaw16_DatetimeReturns.mono_l k
 unfold masterdisclaw16_DatetimeReturns.f
 repeat' first
   | (with_reducible exact ih0 _ _)
   | (with_reducible exact LeO.refl _)
   | (with_reducible exact LeO.none _)
   | (with_reducible refine LeO.ite ?_ ?_)
   | (with_reducible refine LeO.bind ?_ (fun _ => ?_))
   | exact ih0 _ _
   | exact LeO.none _
   | refine LeO.ite ?_ ?_
   | refine LeO.bind ?_ (fun _ => ?_)
set_option maxHeartbeats 8000000 in
set_option maxRecDepth 100000 in
theorem masterdisclaw16_DatetimeReturns.calls (k : Nat) (a0 : Int) (a1 : Int) (a2 : Int) (r : Bool) (w : World) (hG_ : HG w) (h : masterdisclaw16_DatetimeReturns.f k a0 a1 a2 = some r) :
  Calls Tryd.prog 10 #[.int .i64 a0, .int .i64 a1, .int .i64 a2] w fun e w' => e = .returned (.bool r) ∧ Below w.heap.size w w' := by
 have HB := Aside0.mk (Below.refl w.heap.size w)
 have H : ((masterdisclaw16_awake.f).bind fun t101 => (if t101 = true then ((masterdiscref16_Time.f a0).bind fun t102 => (if t102 = true then ((masterdiscref16_Zone.f a1).bind fun t103 => (if t103 = true then ((datetime_Stamp.f a0 a1).bind fun bt104 => ((datetime_ReadStamp.f bt104.1).bind fun bt106 => (if bt104.2 = 0 then (if bt106.2.2 = 0 then (if bt106.1 = a0 then (if bt106.2.1 = a1 then (masterdisclaw16_DatetimeReturns.j0 k a0 a2) else (some false)) else (some false)) else (some false)) else (some false)))) else (masterdisclaw16_DatetimeReturns.j0 k a0 a2))) else (some true))) else (some false))) = some r := h
 clear h
 replace H := Option.bind_eq_some_iff.mp H
 obtain ⟨t101, A40, H⟩ := H
 replace H : (if t101 = true then ((masterdiscref16_Time.f a0).bind fun t102 => (if t102 = true then ((masterdiscref16_Zone.f a1).bind fun t103 => (if t103 = true then ((datetime_Stamp.f a0 a1).bind fun bt104 => ((datetime_ReadStamp.f bt104.1).bind fun bt106 => (if bt104.2 = 0 then (if bt106.2.2 = 0 then (if bt106.1 = a0 then (if bt106.2.1 = a1 then (masterdisclaw16_DatetimeReturns.j0 k a0 a2) else (some false)) else (some false)) else (some false)) else (some false)))) else (masterdisclaw16_DatetimeReturns.j0 k a0 a2))) else (some true))) else (some false)) = some r := H
 have A4 := Aside0.mk A40
 clear A40
 by_cases c5 : t101 = true
 ·subst c5
  have H1 : ((masterdiscref16_Time.f a0).bind fun t102 => (if t102 = true then ((masterdiscref16_Zone.f a1).bind fun t103 => (if t103 = true then ((datetime_Stamp.f a0 a1).bind fun bt104 => ((datetime_ReadStamp.f bt104.1).bind fun bt106 => (if bt104.2 = 0 then (if bt106.2.2 = 0 then (if bt106.1 = a0 then (if bt106.2.1 = a1 then (masterdisclaw16_DatetimeReturns.j0 k a0 a2) else (some false)) else (some false)) else (some false)) else (some false)))) else (masterdisclaw16_DatetimeReturns.j0 k a0 a2))) else (some true))) = some r := by rw [if_pos rfl] at H; exact H
  clear H
  have H := H1
  clear H1
  replace H := Option.bind_eq_some_iff.mp H
  obtain ⟨t102, A60, H⟩ := H
  replace H : (if t102 = true then ((masterdiscref16_Zone.f a1).bind fun t103 => (if t103 = true then ((datetime_Stamp.f a0 a1).bind fun bt104 => ((datetime_ReadStamp.f bt104.1).bind fun bt106 => (if bt104.2 = 0 then (if bt106.2.2 = 0 then (if bt106.1 = a0 then (if bt106.2.1 = a1 then (masterdisclaw16_DatetimeReturns.j0 k a0 a2) else (some false)) else (some false)) else (some false)) else (some false)))) else (masterdisclaw16_DatetimeReturns.j0 k a0 a2))) else (some true)) = some r := H
  have A6 := Aside0.mk A60
  clear A60
  by_cases c7 : t102 = true
  ·subst c7
   have H1 : ((masterdiscref16_Zone.f a1).bind fun t103 => (if t103 = true then ((datetime_Stamp.f a0 a1).bind fun bt104 => ((datetime_ReadStamp.f bt104.1).bind fun bt106 => (if bt104.2 = 0 then (if bt106.2.2 = 0 then (if bt106.1 = a0 then (if bt106.2.1 = a1 then (masterdisclaw16_DatetimeReturns.j0 k a0 a2) else (some false)) else (some false)) else (some false)) else (some false)))) else (masterdisclaw16_DatetimeReturns.j0 k a0 a2))) = some r := by rw [if_pos rfl] at H; exact H
   clear H
   have H := H1
   clear H1
   replace H := Option.bind_eq_some_iff.mp H
   obtain ⟨t103, A80, H⟩ := H
   replace H : (if t103 = true then ((datetime_Stamp.f a0 a1).bind fun bt104 => ((datetime_ReadStamp.f bt104.1).bind fun bt106 => (if bt104.2 = 0 then (if bt106.2.2 = 0 then (if bt106.1 = a0 then (if bt106.2.1 = a1 then (masterdisclaw16_DatetimeReturns.j0 k a0 a2) else (some false)) else (some false)) else (some false)) else (some false)))) else (masterdisclaw16_DatetimeReturns.j0 k a0 a2)) = some r := H
   have A8 := Aside0.mk A80
   clear A80
   have HC9 := Aside0.mk H
   clear H
   go_enter Tryd.func10, Tryd.ntmps10
   go_upto_if 28 with (first | ((with_reducible refine gate_callee (f := 11) rfl ?_); refine goesL_ (some 22) rfl rfl Tryd.func11 (by kernel_rfl) rfl #[] rfl (by ((try simp only [List.map_toArray, List.map_cons, List.map_nil]); first | done | rfl | (simp only [List.length_drop, List.length_take]; rfl))) ?_; (with_reducible refine (masterdisclaw16_awake.calls  true _ ?side1 A4.out).mono ?_); (case side1 => exact HG.below hG_ (by repeat (first | (with_reducible first | exact HB.out | apply below_alloc | apply pw_below_drewN | apply below_drew1) | exact HB.out))); rintro e w10 ⟨rfl, hb⟩; refine ⟨_, rfl, ?_⟩; have n0_ := Aside0.mk (below_step (by repeat (first | (with_reducible first | exact HB.out | apply below_alloc | apply pw_below_drewN | apply below_drew1) | exact HB.out)) hb); clear HB; have HB := n0_; clear n0_; ((try clear hb); (try clear hb2); (try clear hk); (try clear hi))) | ((with_reducible refine gate_callee (f := 16) rfl ?_); refine goesL_ (some 25) rfl rfl Tryd.func16 (by kernel_rfl) rfl #[.int .i64 a0] rfl (by ((try simp only [List.map_toArray, List.map_cons, List.map_nil]); first | done | rfl | (simp only [List.length_drop, List.length_take]; rfl))) ?_; (with_reducible refine (masterdiscref16_Time.calls a0 true _ A6.out).mono ?_); rintro e w' ⟨rfl, ⟨nd, rfl⟩⟩; refine ⟨_, rfl, ?_⟩) | ((with_reducible refine gate_callee (f := 17) rfl ?_); refine goesL_ (some 28) rfl rfl Tryd.func17 (by kernel_rfl) rfl #[.int .i64 a1] rfl (by ((try simp only [List.map_toArray, List.map_cons, List.map_nil]); first | done | rfl | (simp only [List.length_drop, List.length_take]; rfl))) ?_; (with_reducible refine (masterdiscref16_Zone.calls a1 t103 _ A8.out).mono ?_); rintro e w' ⟨rfl, ⟨nd, rfl⟩⟩; refine ⟨_, rfl, ?_⟩))
   (try simp only [Act.put, List.setIfInBounds_toArray, List.set_cons_zero, List.set_cons_succ])
   go_cut [] (fun wc => ∃ (kq : Nat), Aside0 (masterdisclaw16_DatetimeReturns.j0 kq a0 a2 = some r) ∧ Aside0 (kq ≤ k) ∧ Aside0 (Below w.heap.size w wc))
   case first =>
    have H := HC9.out
    clear HC9
    by_cases c11 : t103 = true
    ·subst c11
     have H1 : ((datetime_Stamp.f a0 a1).bind fun bt104 => ((datetime_ReadStamp.f bt104.1).bind fun bt106 => (if bt104.2 = 0 then (if bt106.2.2 = 0 then (if bt106.1 = a0 then (if bt106.2.1 = a1 then (masterdisclaw16_DatetimeReturns.j0 k a0 a2) else (some false)) else (some false)) else (some false)) else (some false)))) = some r := by rw [if_pos rfl] at H; exact H
     clear H
     have H := H1
     clear H1
     replace H := Option.bind_eq_some_iff.mp H
     obtain ⟨⟨t104, t105⟩, A120, H⟩ := H
     replace H : ((datetime_ReadStamp.f t104).bind fun bt106 => (if t105 = 0 then (if bt106.2.2 = 0 then (if bt106.1 = a0 then (if bt106.2.1 = a1 then (masterdisclaw16_DatetimeReturns.j0 k a0 a2) else (some false)) else (some false)) else (some false)) else (some false))) = some r := H
     have A12 := Aside0.mk A120
     clear A120
     replace H := Option.bind_eq_some_iff.mp H
     obtain ⟨⟨t106, t107, t108⟩, A130, H⟩ := H
     replace H : (if t105 = 0 then (if t108 = 0 then (if t106 = a0 then (if t107 = a1 then (masterdisclaw16_DatetimeReturns.j0 k a0 a2) else (some false)) else (some false)) else (some false)) else (some false)) = some r := H
     have A13 := Aside0.mk A130
     clear A130
     by_cases c14 : t105 = 0
     ·rw [if_pos c14] at H
      have c14b0 : (t105 == 0) = true := beq_iff_eq.mpr c14
      have c14b1 : (t105 != 0) = false := bne_eq_false_iff_eq.mpr c14
      clear c14
      (first | rw [c14b0] | (simp only [i64_w, i32_w]; rw [c14b0]) | skip)
      by_cases c15 : t108 = 0
      ·rw [if_pos c15] at H
       have c15b0 : (t108 == 0) = true := beq_iff_eq.mpr c15
       have c15b1 : (t108 != 0) = false := bne_eq_false_iff_eq.mpr c15
       clear c15
       by_cases c16 : t106 = a0
       ·rw [if_pos c16] at H
        have c16b0 : (t106 == a0) = true := beq_iff_eq.mpr c16
        have c16b1 : (t106 != a0) = false := bne_eq_false_iff_eq.mpr c16
        clear c16
        by_cases c17 : t107 = a1
        ·rw [if_pos c17] at H
         have c17b0 : (t107 == a1) = true := beq_iff_eq.mpr c17
         have c17b1 : (t107 != a1) = false := bne_eq_false_iff_eq.mpr c17
         clear c17
         have H' := Aside0.mk H
         clear H
         go_wp2_with (first | ((with_reducible refine gate_callee (f := 23) rfl ?_); refine goesL_ (some 32) rfl rfl Tryd.func23 (by kernel_rfl) rfl #[.int .i64 a0, .int .i64 a1] rfl (by ((try simp only [List.map_toArray, List.map_cons, List.map_nil]); first | done | rfl | (simp only [List.length_drop, List.length_take]; rfl))) ?_; (with_reducible refine (datetime_Stamp.calls a0 a1 t104 t105 _ A12.out).mono ?_); rintro e w18 ⟨rfl, hb⟩; refine ⟨_, rfl, ?_⟩; have n0_ := Aside0.mk (below_step (by repeat (first | (with_reducible first | exact HB.out | apply below_alloc | apply pw_below_drewN | apply below_drew1) | exact HB.out)) hb); clear HB; have HB := n0_; clear n0_; ((try clear hb); (try clear hb2); (try clear hk); (try clear hi))) | ((with_reducible refine gate_callee (f := 25) rfl ?_); refine goesL_ (some 37) rfl rfl Tryd.func25 (by kernel_rfl) rfl #[.string t104] rfl (by ((try simp only [List.map_toArray, List.map_cons, List.map_nil]); first | done | rfl | (simp only [List.length_drop, List.length_take]; rfl))) ?_; (with_reducible refine (datetime_ReadStamp.calls t104 t106 t107 t108 _ A13.out).mono ?_); rintro e w19 ⟨rfl, hb⟩; refine ⟨_, rfl, ?_⟩; have n0_ := Aside0.mk (below_step (by repeat (first | (with_reducible first | exact HB.out | apply below_alloc | apply pw_below_drewN | apply below_drew1) | exact HB.out)) hb); clear HB; have HB := n0_; clear n0_; ((try clear hb); (try clear hb2); (try clear hk); (try clear hi))))
         go_meet
         case rel => exact ⟨_, H', ⟨by first | omega | exact Nat.le_refl _⟩, ⟨by repeat (first | (with_reducible first | exact HB.out | apply below_alloc | apply pw_below_drewN | apply below_drew1) | exact HB.out)⟩⟩
        ·rw [if_neg c17] at H
         have c17b0 : (t107 == a1) = false := beq_eq_false_iff_ne.mpr c17
         have c17b1 : (t107 != a1) = true := bne_iff_ne.mpr c17
         obtain rfl := Option.some.inj H
         go_wp2_with (first | ((with_reducible refine gate_callee (f := 23) rfl ?_); refine goesL_ (some 32) rfl rfl Tryd.func23 (by kernel_rfl) rfl #[.int .i64 a0, .int .i64 a1] rfl (by ((try simp only [List.map_toArray, List.map_cons, List.map_nil]); first | done | rfl | (simp only [List.length_drop, List.length_take]; rfl))) ?_; (with_reducible refine (datetime_Stamp.calls a0 a1 t104 t105 _ A12.out).mono ?_); rintro e w20 ⟨rfl, hb⟩; refine ⟨_, rfl, ?_⟩; have n0_ := Aside0.mk (below_step (by repeat (first | (with_reducible first | exact HB.out | apply below_alloc | apply pw_below_drewN | apply below_drew1) | exact HB.out)) hb); clear HB; have HB := n0_; clear n0_; ((try clear hb); (try clear hb2); (try clear hk); (try clear hi))) | ((with_reducible refine gate_callee (f := 25) rfl ?_); refine goesL_ (some 37) rfl rfl Tryd.func25 (by kernel_rfl) rfl #[.string t104] rfl (by ((try simp only [List.map_toArray, List.map_cons, List.map_nil]); first | done | rfl | (simp only [List.length_drop, List.length_take]; rfl))) ?_; (with_reducible refine (datetime_ReadStamp.calls t104 t106 t107 t108 _ A13.out).mono ?_); rintro e w21 ⟨rfl, hb⟩; refine ⟨_, rfl, ?_⟩; have n0_ := Aside0.mk (below_step (by repeat (first | (with_reducible first | exact HB.out | apply below_alloc | apply pw_below_drewN | apply below_drew1) | exact HB.out)) hb); clear HB; have HB := n0_; clear n0_; ((try clear hb); (try clear hb2); (try clear hk); (try clear hi))))
         go_ret
         exact ⟨by (first | rfl | (simp [errW_none, errW_some] <;> rfl) | (simp [*, errW_none, errW_some] <;> rfl)), by repeat (first | (with_reducible first | exact HB.out | apply below_alloc | apply pw_below_drewN | apply below_drew1) | exact HB.out)⟩
       ·rw [if_neg c16] at H
        have c16b0 : (t106 == a0) = false := beq_eq_false_iff_ne.mpr c16
        have c16b1 : (t106 != a0) = true := bne_iff_ne.mpr c16
        obtain rfl := Option.some.inj H
        go_wp2_with (first | ((with_reducible refine gate_callee (f := 23) rfl ?_); refine goesL_ (some 32) rfl rfl Tryd.func23 (by kernel_rfl) rfl #[.int .i64 a0, .int .i64 a1] rfl (by ((try simp only [List.map_toArray, List.map_cons, List.map_nil]); first | done | rfl | (simp only [List.length_drop, List.length_take]; rfl))) ?_; (with_reducible refine (datetime_Stamp.calls a0 a1 t104 t105 _ A12.out).mono ?_); rintro e w22 ⟨rfl, hb⟩; refine ⟨_, rfl, ?_⟩; have n0_ := Aside0.mk (below_step (by repeat (first | (with_reducible first | exact HB.out | apply below_alloc | apply pw_below_drewN | apply below_drew1) | exact HB.out)) hb); clear HB; have HB := n0_; clear n0_; ((try clear hb); (try clear hb2); (try clear hk); (try clear hi))) | ((with_reducible refine gate_callee (f := 25) rfl ?_); refine goesL_ (some 37) rfl rfl Tryd.func25 (by kernel_rfl) rfl #[.string t104] rfl (by ((try simp only [List.map_toArray, List.map_cons, List.map_nil]); first | done | rfl | (simp only [List.length_drop, List.length_take]; rfl))) ?_; (with_reducible refine (datetime_ReadStamp.calls t104 t106 t107 t108 _ A13.out).mono ?_); rintro e w23 ⟨rfl, hb⟩; refine ⟨_, rfl, ?_⟩; have n0_ := Aside0.mk (below_step (by repeat (first | (with_reducible first | exact HB.out | apply below_alloc | apply pw_below_drewN | apply below_drew1) | exact HB.out)) hb); clear HB; have HB := n0_; clear n0_; ((try clear hb); (try clear hb2); (try clear hk); (try clear hi))))
        go_ret
        exact ⟨by (first | rfl | (simp [errW_none, errW_some] <;> rfl) | (simp [*, errW_none, errW_some] <;> rfl)), by repeat (first | (with_reducible first | exact HB.out | apply below_alloc | apply pw_below_drewN | apply below_drew1) | exact HB.out)⟩
      ·rw [if_neg c15] at H
       have c15b0 : (t108 == 0) = false := beq_eq_false_iff_ne.mpr c15
       have c15b1 : (t108 != 0) = true := bne_iff_ne.mpr c15
       obtain rfl := Option.some.inj H
       go_wp2_with (first | ((with_reducible refine gate_callee (f := 23) rfl ?_); refine goesL_ (some 32) rfl rfl Tryd.func23 (by kernel_rfl) rfl #[.int .i64 a0, .int .i64 a1] rfl (by ((try simp only [List.map_toArray, List.map_cons, List.map_nil]); first | done | rfl | (simp only [List.length_drop, List.length_take]; rfl))) ?_; (with_reducible refine (datetime_Stamp.calls a0 a1 t104 t105 _ A12.out).mono ?_); rintro e w24 ⟨rfl, hb⟩; refine ⟨_, rfl, ?_⟩; have n0_ := Aside0.mk (below_step (by repeat (first | (with_reducible first | exact HB.out | apply below_alloc | apply pw_below_drewN | apply below_drew1) | exact HB.out)) hb); clear HB; have HB := n0_; clear n0_; ((try clear hb); (try clear hb2); (try clear hk); (try clear hi))) | ((with_reducible refine gate_callee (f := 25) rfl ?_); refine goesL_ (some 37) rfl rfl Tryd.func25 (by kernel_rfl) rfl #[.string t104] rfl (by ((try simp only [List.map_toArray, List.map_cons, List.map_nil]); first | done | rfl | (simp only [List.length_drop, List.length_take]; rfl))) ?_; (with_reducible refine (datetime_ReadStamp.calls t104 t106 t107 t108 _ A13.out).mono ?_); rintro e w25 ⟨rfl, hb⟩; refine ⟨_, rfl, ?_⟩; have n0_ := Aside0.mk (below_step (by repeat (first | (with_reducible first | exact HB.out | apply below_alloc | apply pw_below_drewN | apply below_drew1) | exact HB.out)) hb); clear HB; have HB := n0_; clear n0_; ((try clear hb); (try clear hb2); (try clear hk); (try clear hi))))
       go_ret
       exact ⟨by (first | rfl | (simp [errW_none, errW_some] <;> rfl) | (simp [*, errW_none, errW_some] <;> rfl)), by repeat (first | (with_reducible first | exact HB.out | apply below_alloc | apply pw_below_drewN | apply below_drew1) | exact HB.out)⟩
     ·rw [if_neg c14] at H
      have c14b0 : (t105 == 0) = false := beq_eq_false_iff_ne.mpr c14
      have c14b1 : (t105 != 0) = true := bne_iff_ne.mpr c14
      (first | rw [c14b0] | (simp only [i64_w, i32_w]; rw [c14b0]) | skip)
      obtain rfl := Option.some.inj H
      go_wp2_with (first | ((with_reducible refine gate_callee (f := 23) rfl ?_); refine goesL_ (some 32) rfl rfl Tryd.func23 (by kernel_rfl) rfl #[.int .i64 a0, .int .i64 a1] rfl (by ((try simp only [List.map_toArray, List.map_cons, List.map_nil]); first | done | rfl | (simp only [List.length_drop, List.length_take]; rfl))) ?_; (with_reducible refine (datetime_Stamp.calls a0 a1 t104 t105 _ A12.out).mono ?_); rintro e w26 ⟨rfl, hb⟩; refine ⟨_, rfl, ?_⟩; have n0_ := Aside0.mk (below_step (by repeat (first | (with_reducible first | exact HB.out | apply below_alloc | apply pw_below_drewN | apply below_drew1) | exact HB.out)) hb); clear HB; have HB := n0_; clear n0_; ((try clear hb); (try clear hb2); (try clear hk); (try clear hi))) | ((with_reducible refine gate_callee (f := 25) rfl ?_); refine goesL_ (some 37) rfl rfl Tryd.func25 (by kernel_rfl) rfl #[.string t104] rfl (by ((try simp only [List.map_toArray, List.map_cons, List.map_nil]); first | done | rfl | (simp only [List.length_drop, List.length_take]; rfl))) ?_; (with_reducible refine (datetime_ReadStamp.calls t104 t106 t107 t108 _ A13.out).mono ?_); rintro e w27 ⟨rfl, hb⟩; refine ⟨_, rfl, ?_⟩; have n0_ := Aside0.mk (below_step (by repeat (first | (with_reducible first | exact HB.out | apply below_alloc | apply pw_below_drewN | apply below_drew1) | exact HB.out)) hb); clear HB; have HB := n0_; clear n0_; ((try clear hb); (try clear hb2); (try clear hk); (try clear hi))))
      go_ret
      exact ⟨by (first | rfl | (simp [errW_none, errW_some] <;> rfl) | (simp [*, errW_none, errW_some] <;> rfl)), by repeat (first | (with_reducible first | exact HB.out | apply below_alloc | apply pw_below_drewN | apply below_drew1) | exact HB.out)⟩
    ·replace c11 := Bool.eq_false_iff.mpr c11
     subst c11
     have H1 : (masterdisclaw16_DatetimeReturns.j0 k a0 a2) = some r := by rw [if_neg (show ¬ (false = true) by decide)] at H; exact H
     clear H
     have H := H1
     clear H1
     have H' := Aside0.mk H
     clear H
     go_wp2
     go_meet
     case rel => exact ⟨_, H', ⟨by first | omega | exact Nat.le_refl _⟩, ⟨by repeat (first | (with_reducible first | exact HB.out | apply below_alloc | apply pw_below_drewN | apply below_drew1) | exact HB.out)⟩⟩
   case rest =>
    clear HC9
    try clear c1
    try clear c2
    try clear p2
    try clear c5
    try clear c7
    try clear c10
    try clear c11
    try clear c14
    try clear c14b0
    try clear c14b1
    try clear c15
    try clear c15b0
    try clear c15b1
    try clear c16
    try clear c16b0
    try clear c16b1
    try clear c17
    try clear c17b0
    try clear c17b1
    try clear c23
    try clear c25
    obtain ⟨kq, HA, HJ8, HB⟩ := hcut
    cases kq with
    | zero => exact absurd HA.out (by simp [masterdisclaw16_DatetimeReturns.j0])
    | succ kj8 =>
     have H := HA.out
     clear HA
     simp only [masterdisclaw16_DatetimeReturns.j0] at H
     replace H := Option.bind_eq_some_iff.mp H
     obtain ⟨t109, A280, H⟩ := H
     replace H : (if t109 = true then ((datetime_Record.f a0 a2).bind fun bt110 => ((datetime_ReadRecord.f bt110.1).bind fun bt112 => ((datetime_Descriptor.f a0 a2).bind fun bt115 => ((datetime_ReadDescriptor.f bt115.1).bind fun bt117 => (if bt110.2 = 0 then (if bt112.2.2 = 0 then (if bt112.1 = a0 then (if bt112.2.1 = a2 then (if bt115.2 = 0 then (if bt117.2.2 = 0 then (if bt117.1 = a0 then (some (bt117.2.1 == a2)) else (some false)) else (some false)) else (some false)) else (some false)) else (some false)) else (some false)) else (some false)))))) else (some true)) = some r := H
     have A28 := Aside0.mk A280
     clear A280
     by_cases c29 : t109 = true
     ·subst c29
      have H1 : ((datetime_Record.f a0 a2).bind fun bt110 => ((datetime_ReadRecord.f bt110.1).bind fun bt112 => ((datetime_Descriptor.f a0 a2).bind fun bt115 => ((datetime_ReadDescriptor.f bt115.1).bind fun bt117 => (if bt110.2 = 0 then (if bt112.2.2 = 0 then (if bt112.1 = a0 then (if bt112.2.1 = a2 then (if bt115.2 = 0 then (if bt117.2.2 = 0 then (if bt117.1 = a0 then (some (bt117.2.1 == a2)) else (some false)) else (some false)) else (some false)) else (some false)) else (some false)) else (some false)) else (some false)))))) = some r := by rw [if_pos rfl] at H; exact H
      clear H
      have H := H1
      clear H1
      replace H := Option.bind_eq_some_iff.mp H
      obtain ⟨⟨t110, t111⟩, A300, H⟩ := H
      replace H : ((datetime_ReadRecord.f t110).bind fun bt112 => ((datetime_Descriptor.f a0 a2).bind fun bt115 => ((datetime_ReadDescriptor.f bt115.1).bind fun bt117 => (if t111 = 0 then (if bt112.2.2 = 0 then (if bt112.1 = a0 then (if bt112.2.1 = a2 then (if bt115.2 = 0 then (if bt117.2.2 = 0 then (if bt117.1 = a0 then (some (bt117.2.1 == a2)) else (some false)) else (some false)) else (some false)) else (some false)) else (some false)) else (some false)) else (some false))))) = some r := H
      have A30 := Aside0.mk A300
      clear A300
      replace H := Option.bind_eq_some_iff.mp H
      obtain ⟨⟨t112, t113, t114⟩, A310, H⟩ := H
      replace H : ((datetime_Descriptor.f a0 a2).bind fun bt115 => ((datetime_ReadDescriptor.f bt115.1).bind fun bt117 => (if t111 = 0 then (if t114 = 0 then (if t112 = a0 then (if t113 = a2 then (if bt115.2 = 0 then (if bt117.2.2 = 0 then (if bt117.1 = a0 then (some (bt117.2.1 == a2)) else (some false)) else (some false)) else (some false)) else (some false)) else (some false)) else (some false)) else (some false)))) = some r := H
      have A31 := Aside0.mk A310
      clear A310
      replace H := Option.bind_eq_some_iff.mp H
      obtain ⟨⟨t115, t116⟩, A320, H⟩ := H
      replace H : ((datetime_ReadDescriptor.f t115).bind fun bt117 => (if t111 = 0 then (if t114 = 0 then (if t112 = a0 then (if t113 = a2 then (if t116 = 0 then (if bt117.2.2 = 0 then (if bt117.1 = a0 then (some (bt117.2.1 == a2)) else (some false)) else (some false)) else (some false)) else (some false)) else (some false)) else (some false)) else (some false))) = some r := H
      have A32 := Aside0.mk A320
      clear A320
      replace H := Option.bind_eq_some_iff.mp H
      obtain ⟨⟨t117, t118, t119⟩, A330, H⟩ := H
      replace H : (if t111 = 0 then (if t114 = 0 then (if t112 = a0 then (if t113 = a2 then (if t116 = 0 then (if t119 = 0 then (if t117 = a0 then (some (t118 == a2)) else (some false)) else (some false)) else (some false)) else (some false)) else (some false)) else (some false)) else (some false)) = some r := H
      have A33 := Aside0.mk A330
      clear A330
      by_cases c34 : t111 = 0
      ·rw [if_pos c34] at H
       have c34b0 : (t111 == 0) = true := beq_iff_eq.mpr c34
       have c34b1 : (t111 != 0) = false := bne_eq_false_iff_eq.mpr c34
       clear c34
       by_cases c35 : t114 = 0
       ·rw [if_pos c35] at H
        have c35b0 : (t114 == 0) = true := beq_iff_eq.mpr c35
        have c35b1 : (t114 != 0) = false := bne_eq_false_iff_eq.mpr c35
        clear c35
        by_cases c36 : t112 = a0
        ·rw [if_pos c36] at H
         have c36b0 : (t112 == a0) = true := beq_iff_eq.mpr c36
         have c36b1 : (t112 != a0) = false := bne_eq_false_iff_eq.mpr c36
         clear c36
         by_cases c37 : t113 = a2
         ·rw [if_pos c37] at H
          have c37b0 : (t113 == a2) = true := beq_iff_eq.mpr c37
          have c37b1 : (t113 != a2) = false := bne_eq_false_iff_eq.mpr c37
          clear c37
          by_cases c38 : t116 = 0
          ·rw [if_pos c38] at H
           have c38b0 : (t116 == 0) = true := beq_iff_eq.mpr c38
           have c38b1 : (t116 != 0) = false := bne_eq_false_iff_eq.mpr c38
           clear c38
           by_cases c39 : t119 = 0
           ·rw [if_pos c39] at H
            have c39b0 : (t119 == 0) = true := beq_iff_eq.mpr c39
            have c39b1 : (t119 != 0) = false := bne_eq_false_iff_eq.mpr c39
            clear c39
            by_cases c40 : t117 = a0
            ·rw [if_pos c40] at H
             have c40b0 : (t117 == a0) = true := beq_iff_eq.mpr c40
             have c40b1 : (t117 != a0) = false := bne_eq_false_iff_eq.mpr c40
             clear c40
             obtain rfl := Option.some.inj H
             go_wp2_with (first | ((with_reducible refine gate_callee (f := 31) rfl ?_); refine goesL_ (some 58) rfl rfl Tryd.func31 (by kernel_rfl) rfl #[.int .i64 a2] rfl (by ((try simp only [List.map_toArray, List.map_cons, List.map_nil]); first | done | rfl | (simp only [List.length_drop, List.length_take]; rfl))) ?_; (with_reducible refine (masterdiscref16_Quarter.calls a2 true _ A28.out).mono ?_); rintro e w' ⟨rfl, ⟨nd, rfl⟩⟩; refine ⟨_, rfl, ?_⟩) | ((with_reducible refine gate_callee (f := 19) rfl ?_); refine goesL_ (some 63) rfl rfl Tryd.func19 (by kernel_rfl) rfl #[.int .i64 a0, .int .i64 a2] rfl (by ((try simp only [List.map_toArray, List.map_cons, List.map_nil]); first | done | rfl | (simp only [List.length_drop, List.length_take]; rfl))) ?_; (with_reducible refine (datetime_Record.calls a0 a2 t110 t111 _ A30.out).mono ?_); rintro e w41 ⟨rfl, hb⟩; refine ⟨_, rfl, ?_⟩; have n0_ := Aside0.mk (below_step (by repeat (first | (with_reducible first | exact HB.out | apply below_alloc | apply pw_below_drewN | apply below_drew1) | exact HB.out)) hb); clear HB; have HB := n0_; clear n0_; ((try clear hb); (try clear hb2); (try clear hk); (try clear hi))) | ((with_reducible refine gate_callee (f := 21) rfl ?_); refine goesL_ (some 68) rfl rfl Tryd.func21 (by kernel_rfl) rfl #[.string t110] rfl (by ((try simp only [List.map_toArray, List.map_cons, List.map_nil]); first | done | rfl | (simp only [List.length_drop, List.length_take]; rfl))) ?_; (with_reducible refine (datetime_ReadRecord.calls t110 t112 t113 t114 _ A31.out).mono ?_); rintro e w42 ⟨rfl, hb⟩; refine ⟨_, rfl, ?_⟩; have n0_ := Aside0.mk (below_step (by repeat (first | (with_reducible first | exact HB.out | apply below_alloc | apply pw_below_drewN | apply below_drew1) | exact HB.out)) hb); clear HB; have HB := n0_; clear n0_; ((try clear hb); (try clear hb2); (try clear hk); (try clear hi))) | ((with_reducible refine gate_callee (f := 27) rfl ?_); refine goesL_ (some 75) rfl rfl Tryd.func27 (by kernel_rfl) rfl #[.int .i64 a0, .int .i64 a2] rfl (by ((try simp only [List.map_toArray, List.map_cons, List.map_nil]); first | done | rfl | (simp only [List.length_drop, List.length_take]; rfl))) ?_; (with_reducible refine (datetime_Descriptor.calls a0 a2 t115 t116 _ ?side1 A32.out).mono ?_); (case side1 => exact HG.below hG_ (by repeat (first | (with_reducible first | exact HB.out | apply below_alloc | apply pw_below_drewN | apply below_drew1) | exact HB.out))); rintro e w43 ⟨rfl, hb⟩; refine ⟨_, rfl, ?_⟩; have n0_ := Aside0.mk (below_step (by repeat (first | (with_reducible first | exact HB.out | apply below_alloc | apply pw_below_drewN | apply below_drew1) | exact HB.out)) hb); clear HB; have HB := n0_; clear n0_; ((try clear hb); (try clear hb2); (try clear hk); (try clear hi))) | ((with_reducible refine gate_callee (f := 29) rfl ?_); refine goesL_ (some 80) rfl rfl Tryd.func29 (by kernel_rfl) rfl #[.string t115] rfl (by ((try simp only [List.map_toArray, List.map_cons, List.map_nil]); first | done | rfl | (simp only [List.length_drop, List.length_take]; rfl))) ?_; (with_reducible refine (datetime_ReadDescriptor.calls t115 t117 t118 t119 _ A33.out).mono ?_); rintro e w44 ⟨rfl, hb⟩; refine ⟨_, rfl, ?_⟩; have n0_ := Aside0.mk (below_step (by repeat (first | (with_reducible first | exact HB.out | apply below_alloc | apply pw_below_drewN | apply below_drew1) | exact HB.out)) hb); clear HB; have HB := n0_; clear n0_; ((try clear hb); (try clear hb2); (try clear hk); (try clear hi))))
             go_ret
             exact ⟨by (first | rfl | (simp [errW_none, errW_some] <;> rfl) | (simp [*, errW_none, errW_some] <;> rfl)), by repeat (first | (with_reducible first | exact HB.out | apply below_alloc | apply pw_below_drewN | apply below_drew1) | exact HB.out)⟩
            ·rw [if_neg c40] at H
             have c40b0 : (t117 == a0) = false := beq_eq_false_iff_ne.mpr c40
             have c40b1 : (t117 != a0) = true := bne_iff_ne.mpr c40
             obtain rfl := Option.some.inj H
             go_wp2_with (first | ((with_reducible refine gate_callee (f := 31) rfl ?_); refine goesL_ (some 58) rfl rfl Tryd.func31 (by kernel_rfl) rfl #[.int .i64 a2] rfl (by ((try simp only [List.map_toArray, List.map_cons, List.map_nil]); first | done | rfl | (simp only [List.length_drop, List.length_take]; rfl))) ?_; (with_reducible refine (masterdiscref16_Quarter.calls a2 true _ A28.out).mono ?_); rintro e w' ⟨rfl, ⟨nd, rfl⟩⟩; refine ⟨_, rfl, ?_⟩) | ((with_reducible refine gate_callee (f := 19) rfl ?_); refine goesL_ (some 63) rfl rfl Tryd.func19 (by kernel_rfl) rfl #[.int .i64 a0, .int .i64 a2] rfl (by ((try simp only [List.map_toArray, List.map_cons, List.map_nil]); first | done | rfl | (simp only [List.length_drop, List.length_take]; rfl))) ?_; (with_reducible refine (datetime_Record.calls a0 a2 t110 t111 _ A30.out).mono ?_); rintro e w45 ⟨rfl, hb⟩; refine ⟨_, rfl, ?_⟩; have n0_ := Aside0.mk (below_step (by repeat (first | (with_reducible first | exact HB.out | apply below_alloc | apply pw_below_drewN | apply below_drew1) | exact HB.out)) hb); clear HB; have HB := n0_; clear n0_; ((try clear hb); (try clear hb2); (try clear hk); (try clear hi))) | ((with_reducible refine gate_callee (f := 21) rfl ?_); refine goesL_ (some 68) rfl rfl Tryd.func21 (by kernel_rfl) rfl #[.string t110] rfl (by ((try simp only [List.map_toArray, List.map_cons, List.map_nil]); first | done | rfl | (simp only [List.length_drop, List.length_take]; rfl))) ?_; (with_reducible refine (datetime_ReadRecord.calls t110 t112 t113 t114 _ A31.out).mono ?_); rintro e w46 ⟨rfl, hb⟩; refine ⟨_, rfl, ?_⟩; have n0_ := Aside0.mk (below_step (by repeat (first | (with_reducible first | exact HB.out | apply below_alloc | apply pw_below_drewN | apply below_drew1) | exact HB.out)) hb); clear HB; have HB := n0_; clear n0_; ((try clear hb); (try clear hb2); (try clear hk); (try clear hi))) | ((with_reducible refine gate_callee (f := 27) rfl ?_); refine goesL_ (some 75) rfl rfl Tryd.func27 (by kernel_rfl) rfl #[.int .i64 a0, .int .i64 a2] rfl (by ((try simp only [List.map_toArray, List.map_cons, List.map_nil]); first | done | rfl | (simp only [List.length_drop, List.length_take]; rfl))) ?_; (with_reducible refine (datetime_Descriptor.calls a0 a2 t115 t116 _ ?side1 A32.out).mono ?_); (case side1 => exact HG.below hG_ (by repeat (first | (with_reducible first | exact HB.out | apply below_alloc | apply pw_below_drewN | apply below_drew1) | exact HB.out))); rintro e w47 ⟨rfl, hb⟩; refine ⟨_, rfl, ?_⟩; have n0_ := Aside0.mk (below_step (by repeat (first | (with_reducible first | exact HB.out | apply below_alloc | apply pw_below_drewN | apply below_drew1) | exact HB.out)) hb); clear HB; have HB := n0_; clear n0_; ((try clear hb); (try clear hb2); (try clear hk); (try clear hi))) | ((with_reducible refine gate_callee (f := 29) rfl ?_); refine goesL_ (some 80) rfl rfl Tryd.func29 (by kernel_rfl) rfl #[.string t115] rfl (by ((try simp only [List.map_toArray, List.map_cons, List.map_nil]); first | done | rfl | (simp only [List.length_drop, List.length_take]; rfl))) ?_; (with_reducible refine (datetime_ReadDescriptor.calls t115 t117 t118 t119 _ A33.out).mono ?_); rintro e w48 ⟨rfl, hb⟩; refine ⟨_, rfl, ?_⟩; have n0_ := Aside0.mk (below_step (by repeat (first | (with_reducible first | exact HB.out | apply below_alloc | apply pw_below_drewN | apply below_drew1) | exact HB.out)) hb); clear HB; have HB := n0_; clear n0_; ((try clear hb); (try clear hb2); (try clear hk); (try clear hi))))
             go_ret
             exact ⟨by (first | rfl | (simp [errW_none, errW_some] <;> rfl) | (simp [*, errW_none, errW_some] <;> rfl)), by repeat (first | (with_reducible first | exact HB.out | apply below_alloc | apply pw_below_drewN | apply below_drew1) | exact HB.out)⟩
           ·rw [if_neg c39] at H
            have c39b0 : (t119 == 0) = false := beq_eq_false_iff_ne.mpr c39
            have c39b1 : (t119 != 0) = true := bne_iff_ne.mpr c39
            obtain rfl := Option.some.inj H
            go_wp2_with (first | ((with_reducible refine gate_callee (f := 31) rfl ?_); refine goesL_ (some 58) rfl rfl Tryd.func31 (by kernel_rfl) rfl #[.int .i64 a2] rfl (by ((try simp only [List.map_toArray, List.map_cons, List.map_nil]); first | done | rfl | (simp only [List.length_drop, List.length_take]; rfl))) ?_; (with_reducible refine (masterdiscref16_Quarter.calls a2 true _ A28.out).mono ?_); rintro e w' ⟨rfl, ⟨nd, rfl⟩⟩; refine ⟨_, rfl, ?_⟩) | ((with_reducible refine gate_callee (f := 19) rfl ?_); refine goesL_ (some 63) rfl rfl Tryd.func19 (by kernel_rfl) rfl #[.int .i64 a0, .int .i64 a2] rfl (by ((try simp only [List.map_toArray, List.map_cons, List.map_nil]); first | done | rfl | (simp only [List.length_drop, List.length_take]; rfl))) ?_; (with_reducible refine (datetime_Record.calls a0 a2 t110 t111 _ A30.out).mono ?_); rintro e w49 ⟨rfl, hb⟩; refine ⟨_, rfl, ?_⟩; have n0_ := Aside0.mk (below_step (by repeat (first | (with_reducible first | exact HB.out | apply below_alloc | apply pw_below_drewN | apply below_drew1) | exact HB.out)) hb); clear HB; have HB := n0_; clear n0_; ((try clear hb); (try clear hb2); (try clear hk); (try clear hi))) | ((with_reducible refine gate_callee (f := 21) rfl ?_); refine goesL_ (some 68) rfl rfl Tryd.func21 (by kernel_rfl) rfl #[.string t110] rfl (by ((try simp only [List.map_toArray, List.map_cons, List.map_nil]); first | done | rfl | (simp only [List.length_drop, List.length_take]; rfl))) ?_; (with_reducible refine (datetime_ReadRecord.calls t110 t112 t113 t114 _ A31.out).mono ?_); rintro e w50 ⟨rfl, hb⟩; refine ⟨_, rfl, ?_⟩; have n0_ := Aside0.mk (below_step (by repeat (first | (with_reducible first | exact HB.out | apply below_alloc | apply pw_below_drewN | apply below_drew1) | exact HB.out)) hb); clear HB; have HB := n0_; clear n0_; ((try clear hb); (try clear hb2); (try clear hk); (try clear hi))) | ((with_reducible refine gate_callee (f := 27) rfl ?_); refine goesL_ (some 75) rfl rfl Tryd.func27 (by kernel_rfl) rfl #[.int .i64 a0, .int .i64 a2] rfl (by ((try simp only [List.map_toArray, List.map_cons, List.map_nil]); first | done | rfl | (simp only [List.length_drop, List.length_take]; rfl))) ?_; (with_reducible refine (datetime_Descriptor.calls a0 a2 t115 t116 _ ?side1 A32.out).mono ?_); (case side1 => exact HG.below hG_ (by repeat (first | (with_reducible first | exact HB.out | apply below_alloc | apply pw_below_drewN | apply below_drew1) | exact HB.out))); rintro e w51 ⟨rfl, hb⟩; refine ⟨_, rfl, ?_⟩; have n0_ := Aside0.mk (below_step (by repeat (first | (with_reducible first | exact HB.out | apply below_alloc | apply pw_below_drewN | apply below_drew1) | exact HB.out)) hb); clear HB; have HB := n0_; clear n0_; ((try clear hb); (try clear hb2); (try clear hk); (try clear hi))) | ((with_reducible refine gate_callee (f := 29) rfl ?_); refine goesL_ (some 80) rfl rfl Tryd.func29 (by kernel_rfl) rfl #[.string t115] rfl (by ((try simp only [List.map_toArray, List.map_cons, List.map_nil]); first | done | rfl | (simp only [List.length_drop, List.length_take]; rfl))) ?_; (with_reducible refine (datetime_ReadDescriptor.calls t115 t117 t118 t119 _ A33.out).mono ?_); rintro e w52 ⟨rfl, hb⟩; refine ⟨_, rfl, ?_⟩; have n0_ := Aside0.mk (below_step (by repeat (first | (with_reducible first | exact HB.out | apply below_alloc | apply pw_below_drewN | apply below_drew1) | exact HB.out)) hb); clear HB; have HB := n0_; clear n0_; ((try clear hb); (try clear hb2); (try clear hk); (try clear hi))))
            go_ret
            exact ⟨by (first | rfl | (simp [errW_none, errW_some] <;> rfl) | (simp [*, errW_none, errW_some] <;> rfl)), by repeat (first | (with_reducible first | exact HB.out | apply below_alloc | apply pw_below_drewN | apply below_drew1) | exact HB.out)⟩
          ·rw [if_neg c38] at H
           have c38b0 : (t116 == 0) = false := beq_eq_false_iff_ne.mpr c38
           have c38b1 : (t116 != 0) = true := bne_iff_ne.mpr c38
           obtain rfl := Option.some.inj H
           go_wp2_with (first | ((with_reducible refine gate_callee (f := 31) rfl ?_); refine goesL_ (some 58) rfl rfl Tryd.func31 (by kernel_rfl) rfl #[.int .i64 a2] rfl (by ((try simp only [List.map_toArray, List.map_cons, List.map_nil]); first | done | rfl | (simp only [List.length_drop, List.length_take]; rfl))) ?_; (with_reducible refine (masterdiscref16_Quarter.calls a2 true _ A28.out).mono ?_); rintro e w' ⟨rfl, ⟨nd, rfl⟩⟩; refine ⟨_, rfl, ?_⟩) | ((with_reducible refine gate_callee (f := 19) rfl ?_); refine goesL_ (some 63) rfl rfl Tryd.func19 (by kernel_rfl) rfl #[.int .i64 a0, .int .i64 a2] rfl (by ((try simp only [List.map_toArray, List.map_cons, List.map_nil]); first | done | rfl | (simp only [List.length_drop, List.length_take]; rfl))) ?_; (with_reducible refine (datetime_Record.calls a0 a2 t110 t111 _ A30.out).mono ?_); rintro e w53 ⟨rfl, hb⟩; refine ⟨_, rfl, ?_⟩; have n0_ := Aside0.mk (below_step (by repeat (first | (with_reducible first | exact HB.out | apply below_alloc | apply pw_below_drewN | apply below_drew1) | exact HB.out)) hb); clear HB; have HB := n0_; clear n0_; ((try clear hb); (try clear hb2); (try clear hk); (try clear hi))) | ((with_reducible refine gate_callee (f := 21) rfl ?_); refine goesL_ (some 68) rfl rfl Tryd.func21 (by kernel_rfl) rfl #[.string t110] rfl (by ((try simp only [List.map_toArray, List.map_cons, List.map_nil]); first | done | rfl | (simp only [List.length_drop, List.length_take]; rfl))) ?_; (with_reducible refine (datetime_ReadRecord.calls t110 t112 t113 t114 _ A31.out).mono ?_); rintro e w54 ⟨rfl, hb⟩; refine ⟨_, rfl, ?_⟩; have n0_ := Aside0.mk (below_step (by repeat (first | (with_reducible first | exact HB.out | apply below_alloc | apply pw_below_drewN | apply below_drew1) | exact HB.out)) hb); clear HB; have HB := n0_; clear n0_; ((try clear hb); (try clear hb2); (try clear hk); (try clear hi))) | ((with_reducible refine gate_callee (f := 27) rfl ?_); refine goesL_ (some 75) rfl rfl Tryd.func27 (by kernel_rfl) rfl #[.int .i64 a0, .int .i64 a2] rfl (by ((try simp only [List.map_toArray, List.map_cons, List.map_nil]); first | done | rfl | (simp only [List.length_drop, List.length_take]; rfl))) ?_; (with_reducible refine (datetime_Descriptor.calls a0 a2 t115 t116 _ ?side1 A32.out).mono ?_); (case side1 => exact HG.below hG_ (by repeat (first | (with_reducible first | exact HB.out | apply below_alloc | apply pw_below_drewN | apply below_drew1) | exact HB.out))); rintro e w55 ⟨rfl, hb⟩; refine ⟨_, rfl, ?_⟩; have n0_ := Aside0.mk (below_step (by repeat (first | (with_reducible first | exact HB.out | apply below_alloc | apply pw_below_drewN | apply below_drew1) | exact HB.out)) hb); clear HB; have HB := n0_; clear n0_; ((try clear hb); (try clear hb2); (try clear hk); (try clear hi))) | ((with_reducible refine gate_callee (f := 29) rfl ?_); refine goesL_ (some 80) rfl rfl Tryd.func29 (by kernel_rfl) rfl #[.string t115] rfl (by ((try simp only [List.map_toArray, List.map_cons, List.map_nil]); first | done | rfl | (simp only [List.length_drop, List.length_take]; rfl))) ?_; (with_reducible refine (datetime_ReadDescriptor.calls t115 t117 t118 t119 _ A33.out).mono ?_); rintro e w56 ⟨rfl, hb⟩; refine ⟨_, rfl, ?_⟩; have n0_ := Aside0.mk (below_step (by repeat (first | (with_reducible first | exact HB.out | apply below_alloc | apply pw_below_drewN | apply below_drew1) | exact HB.out)) hb); clear HB; have HB := n0_; clear n0_; ((try clear hb); (try clear hb2); (try clear hk); (try clear hi))))
           go_ret
           exact ⟨by (first | rfl | (simp [errW_none, errW_some] <;> rfl) | (simp [*, errW_none, errW_some] <;> rfl)), by repeat (first | (with_reducible first | exact HB.out | apply below_alloc | apply pw_below_drewN | apply below_drew1) | exact HB.out)⟩
         ·rw [if_neg c37] at H
          have c37b0 : (t113 == a2) = false := beq_eq_false_iff_ne.mpr c37
          have c37b1 : (t113 != a2) = true := bne_iff_ne.mpr c37
          obtain rfl := Option.some.inj H
          go_wp2_with (first | ((with_reducible refine gate_callee (f := 31) rfl ?_); refine goesL_ (some 58) rfl rfl Tryd.func31 (by kernel_rfl) rfl #[.int .i64 a2] rfl (by ((try simp only [List.map_toArray, List.map_cons, List.map_nil]); first | done | rfl | (simp only [List.length_drop, List.length_take]; rfl))) ?_; (with_reducible refine (masterdiscref16_Quarter.calls a2 true _ A28.out).mono ?_); rintro e w' ⟨rfl, ⟨nd, rfl⟩⟩; refine ⟨_, rfl, ?_⟩) | ((with_reducible refine gate_callee (f := 19) rfl ?_); refine goesL_ (some 63) rfl rfl Tryd.func19 (by kernel_rfl) rfl #[.int .i64 a0, .int .i64 a2] rfl (by ((try simp only [List.map_toArray, List.map_cons, List.map_nil]); first | done | rfl | (simp only [List.length_drop, List.length_take]; rfl))) ?_; (with_reducible refine (datetime_Record.calls a0 a2 t110 t111 _ A30.out).mono ?_); rintro e w57 ⟨rfl, hb⟩; refine ⟨_, rfl, ?_⟩; have n0_ := Aside0.mk (below_step (by repeat (first | (with_reducible first | exact HB.out | apply below_alloc | apply pw_below_drewN | apply below_drew1) | exact HB.out)) hb); clear HB; have HB := n0_; clear n0_; ((try clear hb); (try clear hb2); (try clear hk); (try clear hi))) | ((with_reducible refine gate_callee (f := 21) rfl ?_); refine goesL_ (some 68) rfl rfl Tryd.func21 (by kernel_rfl) rfl #[.string t110] rfl (by ((try simp only [List.map_toArray, List.map_cons, List.map_nil]); first | done | rfl | (simp only [List.length_drop, List.length_take]; rfl))) ?_; (with_reducible refine (datetime_ReadRecord.calls t110 t112 t113 t114 _ A31.out).mono ?_); rintro e w58 ⟨rfl, hb⟩; refine ⟨_, rfl, ?_⟩; have n0_ := Aside0.mk (below_step (by repeat (first | (with_reducible first | exact HB.out | apply below_alloc | apply pw_below_drewN | apply below_drew1) | exact HB.out)) hb); clear HB; have HB := n0_; clear n0_; ((try clear hb); (try clear hb2); (try clear hk); (try clear hi))) | ((with_reducible refine gate_callee (f := 27) rfl ?_); refine goesL_ (some 75) rfl rfl Tryd.func27 (by kernel_rfl) rfl #[.int .i64 a0, .int .i64 a2] rfl (by ((try simp only [List.map_toArray, List.map_cons, List.map_nil]); first | done | rfl | (simp only [List.length_drop, List.length_take]; rfl))) ?_; (with_reducible refine (datetime_Descriptor.calls a0 a2 t115 t116 _ ?side1 A32.out).mono ?_); (case side1 => exact HG.below hG_ (by repeat (first | (with_reducible first | exact HB.out | apply below_alloc | apply pw_below_drewN | apply below_drew1) | exact HB.out))); rintro e w59 ⟨rfl, hb⟩; refine ⟨_, rfl, ?_⟩; have n0_ := Aside0.mk (below_step (by repeat (first | (with_reducible first | exact HB.out | apply below_alloc | apply pw_below_drewN | apply below_drew1) | exact HB.out)) hb); clear HB; have HB := n0_; clear n0_; ((try clear hb); (try clear hb2); (try clear hk); (try clear hi))) | ((with_reducible refine gate_callee (f := 29) rfl ?_); refine goesL_ (some 80) rfl rfl Tryd.func29 (by kernel_rfl) rfl #[.string t115] rfl (by ((try simp only [List.map_toArray, List.map_cons, List.map_nil]); first | done | rfl | (simp only [List.length_drop, List.length_take]; rfl))) ?_; (with_reducible refine (datetime_ReadDescriptor.calls t115 t117 t118 t119 _ A33.out).mono ?_); rintro e w60 ⟨rfl, hb⟩; refine ⟨_, rfl, ?_⟩; have n0_ := Aside0.mk (below_step (by repeat (first | (with_reducible first | exact HB.out | apply below_alloc | apply pw_below_drewN | apply below_drew1) | exact HB.out)) hb); clear HB; have HB := n0_; clear n0_; ((try clear hb); (try clear hb2); (try clear hk); (try clear hi))))
          go_ret
          exact ⟨by (first | rfl | (simp [errW_none, errW_some] <;> rfl) | (simp [*, errW_none, errW_some] <;> rfl)), by repeat (first | (with_reducible first | exact HB.out | apply below_alloc | apply pw_below_drewN | apply below_drew1) | exact HB.out)⟩
        ·rw [if_neg c36] at H
         have c36b0 : (t112 == a0) = false := beq_eq_false_iff_ne.mpr c36
         have c36b1 : (t112 != a0) = true := bne_iff_ne.mpr c36
         obtain rfl := Option.some.inj H
         go_wp2_with (first | ((with_reducible refine gate_callee (f := 31) rfl ?_); refine goesL_ (some 58) rfl rfl Tryd.func31 (by kernel_rfl) rfl #[.int .i64 a2] rfl (by ((try simp only [List.map_toArray, List.map_cons, List.map_nil]); first | done | rfl | (simp only [List.length_drop, List.length_take]; rfl))) ?_; (with_reducible refine (masterdiscref16_Quarter.calls a2 true _ A28.out).mono ?_); rintro e w' ⟨rfl, ⟨nd, rfl⟩⟩; refine ⟨_, rfl, ?_⟩) | ((with_reducible refine gate_callee (f := 19) rfl ?_); refine goesL_ (some 63) rfl rfl Tryd.func19 (by kernel_rfl) rfl #[.int .i64 a0, .int .i64 a2] rfl (by ((try simp only [List.map_toArray, List.map_cons, List.map_nil]); first | done | rfl | (simp only [List.length_drop, List.length_take]; rfl))) ?_; (with_reducible refine (datetime_Record.calls a0 a2 t110 t111 _ A30.out).mono ?_); rintro e w61 ⟨rfl, hb⟩; refine ⟨_, rfl, ?_⟩; have n0_ := Aside0.mk (below_step (by repeat (first | (with_reducible first | exact HB.out | apply below_alloc | apply pw_below_drewN | apply below_drew1) | exact HB.out)) hb); clear HB; have HB := n0_; clear n0_; ((try clear hb); (try clear hb2); (try clear hk); (try clear hi))) | ((with_reducible refine gate_callee (f := 21) rfl ?_); refine goesL_ (some 68) rfl rfl Tryd.func21 (by kernel_rfl) rfl #[.string t110] rfl (by ((try simp only [List.map_toArray, List.map_cons, List.map_nil]); first | done | rfl | (simp only [List.length_drop, List.length_take]; rfl))) ?_; (with_reducible refine (datetime_ReadRecord.calls t110 t112 t113 t114 _ A31.out).mono ?_); rintro e w62 ⟨rfl, hb⟩; refine ⟨_, rfl, ?_⟩; have n0_ := Aside0.mk (below_step (by repeat (first | (with_reducible first | exact HB.out | apply below_alloc | apply pw_below_drewN | apply below_drew1) | exact HB.out)) hb); clear HB; have HB := n0_; clear n0_; ((try clear hb); (try clear hb2); (try clear hk); (try clear hi))) | ((with_reducible refine gate_callee (f := 27) rfl ?_); refine goesL_ (some 75) rfl rfl Tryd.func27 (by kernel_rfl) rfl #[.int .i64 a0, .int .i64 a2] rfl (by ((try simp only [List.map_toArray, List.map_cons, List.map_nil]); first | done | rfl | (simp only [List.length_drop, List.length_take]; rfl))) ?_; (with_reducible refine (datetime_Descriptor.calls a0 a2 t115 t116 _ ?side1 A32.out).mono ?_); (case side1 => exact HG.below hG_ (by repeat (first | (with_reducible first | exact HB.out | apply below_alloc | apply pw_below_drewN | apply below_drew1) | exact HB.out))); rintro e w63 ⟨rfl, hb⟩; refine ⟨_, rfl, ?_⟩; have n0_ := Aside0.mk (below_step (by repeat (first | (with_reducible first | exact HB.out | apply below_alloc | apply pw_below_drewN | apply below_drew1) | exact HB.out)) hb); clear HB; have HB := n0_; clear n0_; ((try clear hb); (try clear hb2); (try clear hk); (try clear hi))) | ((with_reducible refine gate_callee (f := 29) rfl ?_); refine goesL_ (some 80) rfl rfl Tryd.func29 (by kernel_rfl) rfl #[.string t115] rfl (by ((try simp only [List.map_toArray, List.map_cons, List.map_nil]); first | done | rfl | (simp only [List.length_drop, List.length_take]; rfl))) ?_; (with_reducible refine (datetime_ReadDescriptor.calls t115 t117 t118 t119 _ A33.out).mono ?_); rintro e w64 ⟨rfl, hb⟩; refine ⟨_, rfl, ?_⟩; have n0_ := Aside0.mk (below_step (by repeat (first | (with_reducible first | exact HB.out | apply below_alloc | apply pw_below_drewN | apply below_drew1) | exact HB.out)) hb); clear HB; have HB := n0_; clear n0_; ((try clear hb); (try clear hb2); (try clear hk); (try clear hi))))
         go_ret
         exact ⟨by (first | rfl | (simp [errW_none, errW_some] <;> rfl) | (simp [*, errW_none, errW_some] <;> rfl)), by repeat (first | (with_reducible first | exact HB.out | apply below_alloc | apply pw_below_drewN | apply below_drew1) | exact HB.out)⟩
       ·rw [if_neg c35] at H
        have c35b0 : (t114 == 0) = false := beq_eq_false_iff_ne.mpr c35
        have c35b1 : (t114 != 0) = true := bne_iff_ne.mpr c35
        obtain rfl := Option.some.inj H
        go_wp2_with (first | ((with_reducible refine gate_callee (f := 31) rfl ?_); refine goesL_ (some 58) rfl rfl Tryd.func31 (by kernel_rfl) rfl #[.int .i64 a2] rfl (by ((try simp only [List.map_toArray, List.map_cons, List.map_nil]); first | done | rfl | (simp only [List.length_drop, List.length_take]; rfl))) ?_; (with_reducible refine (masterdiscref16_Quarter.calls a2 true _ A28.out).mono ?_); rintro e w' ⟨rfl, ⟨nd, rfl⟩⟩; refine ⟨_, rfl, ?_⟩) | ((with_reducible refine gate_callee (f := 19) rfl ?_); refine goesL_ (some 63) rfl rfl Tryd.func19 (by kernel_rfl) rfl #[.int .i64 a0, .int .i64 a2] rfl (by ((try simp only [List.map_toArray, List.map_cons, List.map_nil]); first | done | rfl | (simp only [List.length_drop, List.length_take]; rfl))) ?_; (with_reducible refine (datetime_Record.calls a0 a2 t110 t111 _ A30.out).mono ?_); rintro e w65 ⟨rfl, hb⟩; refine ⟨_, rfl, ?_⟩; have n0_ := Aside0.mk (below_step (by repeat (first | (with_reducible first | exact HB.out | apply below_alloc | apply pw_below_drewN | apply below_drew1) | exact HB.out)) hb); clear HB; have HB := n0_; clear n0_; ((try clear hb); (try clear hb2); (try clear hk); (try clear hi))) | ((with_reducible refine gate_callee (f := 21) rfl ?_); refine goesL_ (some 68) rfl rfl Tryd.func21 (by kernel_rfl) rfl #[.string t110] rfl (by ((try simp only [List.map_toArray, List.map_cons, List.map_nil]); first | done | rfl | (simp only [List.length_drop, List.length_take]; rfl))) ?_; (with_reducible refine (datetime_ReadRecord.calls t110 t112 t113 t114 _ A31.out).mono ?_); rintro e w66 ⟨rfl, hb⟩; refine ⟨_, rfl, ?_⟩; have n0_ := Aside0.mk (below_step (by repeat (first | (with_reducible first | exact HB.out | apply below_alloc | apply pw_below_drewN | apply below_drew1) | exact HB.out)) hb); clear HB; have HB := n0_; clear n0_; ((try clear hb); (try clear hb2); (try clear hk); (try clear hi))) | ((with_reducible refine gate_callee (f := 27) rfl ?_); refine goesL_ (some 75) rfl rfl Tryd.func27 (by kernel_rfl) rfl #[.int .i64 a0, .int .i64 a2] rfl (by ((try simp only [List.map_toArray, List.map_cons, List.map_nil]); first | done | rfl | (simp only [List.length_drop, List.length_take]; rfl))) ?_; (with_reducible refine (datetime_Descriptor.calls a0 a2 t115 t116 _ ?side1 A32.out).mono ?_); (case side1 => exact HG.below hG_ (by repeat (first | (with_reducible first | exact HB.out | apply below_alloc | apply pw_below_drewN | apply below_drew1) | exact HB.out))); rintro e w67 ⟨rfl, hb⟩; refine ⟨_, rfl, ?_⟩; have n0_ := Aside0.mk (below_step (by repeat (first | (with_reducible first | exact HB.out | apply below_alloc | apply pw_below_drewN | apply below_drew1) | exact HB.out)) hb); clear HB; have HB := n0_; clear n0_; ((try clear hb); (try clear hb2); (try clear hk); (try clear hi))) | ((with_reducible refine gate_callee (f := 29) rfl ?_); refine goesL_ (some 80) rfl rfl Tryd.func29 (by kernel_rfl) rfl #[.string t115] rfl (by ((try simp only [List.map_toArray, List.map_cons, List.map_nil]); first | done | rfl | (simp only [List.length_drop, List.length_take]; rfl))) ?_; (with_reducible refine (datetime_ReadDescriptor.calls t115 t117 t118 t119 _ A33.out).mono ?_); rintro e w68 ⟨rfl, hb⟩; refine ⟨_, rfl, ?_⟩; have n0_ := Aside0.mk (below_step (by repeat (first | (with_reducible first | exact HB.out | apply below_alloc | apply pw_below_drewN | apply below_drew1) | exact HB.out)) hb); clear HB; have HB := n0_; clear n0_; ((try clear hb); (try clear hb2); (try clear hk); (try clear hi))))
        go_ret
        exact ⟨by (first | rfl | (simp [errW_none, errW_some] <;> rfl) | (simp [*, errW_none, errW_some] <;> rfl)), by repeat (first | (with_reducible first | exact HB.out | apply below_alloc | apply pw_below_drewN | apply below_drew1) | exact HB.out)⟩
      ·rw [if_neg c34] at H
       have c34b0 : (t111 == 0) = false := beq_eq_false_iff_ne.mpr c34
       have c34b1 : (t111 != 0) = true := bne_iff_ne.mpr c34
       obtain rfl := Option.some.inj H
       go_wp2_with (first | ((with_reducible refine gate_callee (f := 31) rfl ?_); refine goesL_ (some 58) rfl rfl Tryd.func31 (by kernel_rfl) rfl #[.int .i64 a2] rfl (by ((try simp only [List.map_toArray, List.map_cons, List.map_nil]); first | done | rfl | (simp only [List.length_drop, List.length_take]; rfl))) ?_; (with_reducible refine (masterdiscref16_Quarter.calls a2 true _ A28.out).mono ?_); rintro e w' ⟨rfl, ⟨nd, rfl⟩⟩; refine ⟨_, rfl, ?_⟩) | ((with_reducible refine gate_callee (f := 19) rfl ?_); refine goesL_ (some 63) rfl rfl Tryd.func19 (by kernel_rfl) rfl #[.int .i64 a0, .int .i64 a2] rfl (by ((try simp only [List.map_toArray, List.map_cons, List.map_nil]); first | done | rfl | (simp only [List.length_drop, List.length_take]; rfl))) ?_; (with_reducible refine (datetime_Record.calls a0 a2 t110 t111 _ A30.out).mono ?_); rintro e w69 ⟨rfl, hb⟩; refine ⟨_, rfl, ?_⟩; have n0_ := Aside0.mk (below_step (by repeat (first | (with_reducible first | exact HB.out | apply below_alloc | apply pw_below_drewN | apply below_drew1) | exact HB.out)) hb); clear HB; have HB := n0_; clear n0_; ((try clear hb); (try clear hb2); (try clear hk); (try clear hi))) | ((with_reducible refine gate_callee (f := 21) rfl ?_); refine goesL_ (some 68) rfl rfl Tryd.func21 (by kernel_rfl) rfl #[.string t110] rfl (by ((try simp only [List.map_toArray, List.map_cons, List.map_nil]); first | done | rfl | (simp only [List.length_drop, List.length_take]; rfl))) ?_; (with_reducible refine (datetime_ReadRecord.calls t110 t112 t113 t114 _ A31.out).mono ?_); rintro e w70 ⟨rfl, hb⟩; refine ⟨_, rfl, ?_⟩; have n0_ := Aside0.mk (below_step (by repeat (first | (with_reducible first | exact HB.out | apply below_alloc | apply pw_below_drewN | apply below_drew1) | exact HB.out)) hb); clear HB; have HB := n0_; clear n0_; ((try clear hb); (try clear hb2); (try clear hk); (try clear hi))) | ((with_reducible refine gate_callee (f := 27) rfl ?_); refine goesL_ (some 75) rfl rfl Tryd.func27 (by kernel_rfl) rfl #[.int .i64 a0, .int .i64 a2] rfl (by ((try simp only [List.map_toArray, List.map_cons, List.map_nil]); first | done | rfl | (simp only [List.length_drop, List.length_take]; rfl))) ?_; (with_reducible refine (datetime_Descriptor.calls a0 a2 t115 t116 _ ?side1 A32.out).mono ?_); (case side1 => exact HG.below hG_ (by repeat (first | (with_reducible first | exact HB.out | apply below_alloc | apply pw_below_drewN | apply below_drew1) | exact HB.out))); rintro e w71 ⟨rfl, hb⟩; refine ⟨_, rfl, ?_⟩; have n0_ := Aside0.mk (below_step (by repeat (first | (with_reducible first | exact HB.out | apply below_alloc | apply pw_below_drewN | apply below_drew1) | exact HB.out)) hb); clear HB; have HB := n0_; clear n0_; ((try clear hb); (try clear hb2); (try clear hk); (try clear hi))) | ((with_reducible refine gate_callee (f := 29) rfl ?_); refine goesL_ (some 80) rfl rfl Tryd.func29 (by kernel_rfl) rfl #[.string t115] rfl (by ((try simp only [List.map_toArray, List.map_cons, List.map_nil]); first | done | rfl | (simp only [List.length_drop, List.length_take]; rfl))) ?_; (with_reducible refine (datetime_ReadDescriptor.calls t115 t117 t118 t119 _ A33.out).mono ?_); rintro e w72 ⟨rfl, hb⟩; refine ⟨_, rfl, ?_⟩; have n0_ := Aside0.mk (below_step (by repeat (first | (with_reducible first | exact HB.out | apply below_alloc | apply pw_below_drewN | apply below_drew1) | exact HB.out)) hb); clear HB; have HB := n0_; clear n0_; ((try clear hb); (try clear hb2); (try clear hk); (try clear hi))))
       go_ret
       exact ⟨by (first | rfl | (simp [errW_none, errW_some] <;> rfl) | (simp [*, errW_none, errW_some] <;> rfl)), by repeat (first | (with_reducible first | exact HB.out | apply below_alloc | apply pw_below_drewN | apply below_drew1) | exact HB.out)⟩
     ·replace c29 := Bool.eq_false_iff.mpr c29
      subst c29
      have H1 : (some true) = some r := by rw [if_neg (show ¬ (false = true) by decide)] at H; exact H
      clear H
      have H := H1
      clear H1
      obtain rfl := Option.some.inj H
      go_wp2_with (first | ((with_reducible refine gate_callee (f := 31) rfl ?_); refine goesL_ (some 58) rfl rfl Tryd.func31 (by kernel_rfl) rfl #[.int .i64 a2] rfl (by ((try simp only [List.map_toArray, List.map_cons, List.map_nil]); first | done | rfl | (simp only [List.length_drop, List.length_take]; rfl))) ?_; (with_reducible refine (masterdiscref16_Quarter.calls a2 false _ A28.out).mono ?_); rintro e w' ⟨rfl, ⟨nd, rfl⟩⟩; refine ⟨_, rfl, ?_⟩))
      go_ret
      exact ⟨by (first | rfl | (simp [errW_none, errW_some] <;> rfl) | (simp [*, errW_none, errW_some] <;> rfl)), by repeat (first | (with_reducible first | exact HB.out | apply below_alloc | apply pw_below_drewN | apply below_drew1) | exact HB.out)⟩
  ·replace c7 := Bool.eq_false_iff.mpr c7
   subst c7
   have H1 : (some true) = some r := by rw [if_neg (show ¬ (false = true) by decide)] at H; exact H
   clear H
   have H := H1
   clear H1
   obtain rfl := Option.some.inj H
   go_enter Tryd.func10, Tryd.ntmps10
   go_wp2_with (first | ((with_reducible refine gate_callee (f := 11) rfl ?_); refine goesL_ (some 22) rfl rfl Tryd.func11 (by kernel_rfl) rfl #[] rfl (by ((try simp only [List.map_toArray, List.map_cons, List.map_nil]); first | done | rfl | (simp only [List.length_drop, List.length_take]; rfl))) ?_; (with_reducible refine (masterdisclaw16_awake.calls  true _ ?side1 A4.out).mono ?_); (case side1 => exact HG.below hG_ (by repeat (first | (with_reducible first | exact HB.out | apply below_alloc | apply pw_below_drewN | apply below_drew1) | exact HB.out))); rintro e w73 ⟨rfl, hb⟩; refine ⟨_, rfl, ?_⟩; have n0_ := Aside0.mk (below_step (by repeat (first | (with_reducible first | exact HB.out | apply below_alloc | apply pw_below_drewN | apply below_drew1) | exact HB.out)) hb); clear HB; have HB := n0_; clear n0_; ((try clear hb); (try clear hb2); (try clear hk); (try clear hi))) | ((with_reducible refine gate_callee (f := 16) rfl ?_); refine goesL_ (some 25) rfl rfl Tryd.func16 (by kernel_rfl) rfl #[.int .i64 a0] rfl (by ((try simp only [List.map_toArray, List.map_cons, List.map_nil]); first | done | rfl | (simp only [List.length_drop, List.length_take]; rfl))) ?_; (with_reducible refine (masterdiscref16_Time.calls a0 false _ A6.out).mono ?_); rintro e w' ⟨rfl, ⟨nd, rfl⟩⟩; refine ⟨_, rfl, ?_⟩))
   go_ret
   exact ⟨by (first | rfl | (simp [errW_none, errW_some] <;> rfl) | (simp [*, errW_none, errW_some] <;> rfl)), by repeat (first | (with_reducible first | exact HB.out | apply below_alloc | apply pw_below_drewN | apply below_drew1) | exact HB.out)⟩
 ·replace c5 := Bool.eq_false_iff.mpr c5
  subst c5
  have H1 : (some false) = some r := by rw [if_neg (show ¬ (false = true) by decide)] at H; exact H
  clear H
  have H := H1
  clear H1
  obtain rfl := Option.some.inj H
  go_enter Tryd.func10, Tryd.ntmps10
  go_wp2_with (first | ((with_reducible refine gate_callee (f := 11) rfl ?_); refine goesL_ (some 22) rfl rfl Tryd.func11 (by kernel_rfl) rfl #[] rfl (by ((try simp only [List.map_toArray, List.map_cons, List.map_nil]); first | done | rfl | (simp only [List.length_drop, List.length_take]; rfl))) ?_; (with_reducible refine (masterdisclaw16_awake.calls  false _ ?side1 A4.out).mono ?_); (case side1 => exact HG.below hG_ (by repeat (first | (with_reducible first | exact HB.out | apply below_alloc | apply pw_below_drewN | apply below_drew1) | exact HB.out))); rintro e w74 ⟨rfl, hb⟩; refine ⟨_, rfl, ?_⟩; have n0_ := Aside0.mk (below_step (by repeat (first | (with_reducible first | exact HB.out | apply below_alloc | apply pw_below_drewN | apply below_drew1) | exact HB.out)) hb); clear HB; have HB := n0_; clear n0_; ((try clear hb); (try clear hb2); (try clear hk); (try clear hi))))
  go_ret
  exact ⟨by (first | rfl | (simp [errW_none, errW_some] <;> rfl) | (simp [*, errW_none, errW_some] <;> rfl)), by repeat (first | (with_reducible first | exact HB.out | apply below_alloc | apply pw_below_drewN | apply below_drew1) | exact HB.out)⟩

/-- THE ONE PURE STATEMENT of masterdisclaw16_DatetimeReturns: yours. -/
def masterdisclaw16_DatetimeReturns.Pure : Prop := ∀ (a0 : Int) (a1 : Int) (a2 : Int), (Lit.int .i64 a0).wf = true → (Lit.int .i64 a1).wf = true → (Lit.int .i64 a2).wf = true → ∃ k, masterdisclaw16_DatetimeReturns.f k a0 a1 a2 = some true
theorem masterdisclaw16_DatetimeReturns.walk (P : masterdisclaw16_DatetimeReturns.Pure) (a0 : Int) (a1 : Int) (a2 : Int) (w : World) (hG_ : HG w) (w0 : (Lit.int .i64 a0).wf = true) (w1 : (Lit.int .i64 a1).wf = true) (w2 : (Lit.int .i64 a2).wf = true) :
  Calls Tryd.prog 10 #[.int .i64 a0, .int .i64 a1, .int .i64 a2] w fun e w' => e = .returned (.bool true) ∧ Below w.heap.size w w' := by
 obtain ⟨k, h⟩ := P a0 a1 a2 w0 w1 w2
 refine (masterdisclaw16_DatetimeReturns.calls k a0 a1 a2 true w hG_ h).mono ?_
 rintro e w' ⟨rfl, hd⟩
 exact ⟨rfl, hd⟩

end Go.Proofs.YtnchkpheepbacaaDoor.V
