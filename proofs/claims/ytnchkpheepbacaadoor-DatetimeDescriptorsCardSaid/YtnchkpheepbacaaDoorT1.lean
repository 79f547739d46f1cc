/- Printed for this session's own hand contracts by its own program; Lean checks every line. -/
import Derived.Test.YtnchkpheepbacaaDoorProg
import Derived.Test.YtnchkpheepbacaaDoorHx
import Derived.Below
import Derived.Deep.Draws
import Derived.Deep.AppendLies
import Derived.Maps.AppendAt
import Derived.OwnWalk
import Derived.Laws.BytesArg
import Derived.Laws.MakeOwn
import Derived.Laws.OwnMore
import Derived.Deep.OwnRows
import Derived.Tactics
import Derived.Lib.ConvBytes
import Derived.Laws.Slices
import Derived.WalkKit
import Derived.KernelRfl
import Derived.RowKit3
import Derived.Deep.LoopGhost
import Derived.Deep.QuietTactic
import Derived.BigQuiet
import Derived.WideLaws
import Derived.Deep.DeepCutAuto
import Derived.Deep.CutBlock
import Derived.Deep.RegionHeld3
import Derived.Laws.Rows
import Derived.Lib.AppendStr
import Derived.ArgAppend
import Derived.Laws.IdiomCopy
import Derived.OrdersHeld
import Derived.Laws.BitsLemmas
import Derived.RowKit
import Derived.Test.YtnchkpheepbacaaDoorWWords
import Derived.Test.YtnchkpheepbacaaDoorWLast
import Derived.Test.YtnchkpheepbacaaDoorWTab
import Derived.Test.YtnchkpheepbacaaDoorWFour
import Derived.Test.YtnchkpheepbacaaDoorWQPut
import Derived.Test.YtnchkpheepbacaaDoorWApart
import Derived.Test.YtnchkpheepbacaaDoorWArr
import Derived.Test.YtnchkpheepbacaaDoorWZeros
import Derived.Test.YtnchkpheepbacaaDoorWFoot
import Derived.Test.YtnchkpheepbacaaDoorWKept
import Derived.Test.YtnchkpheepbacaaDoorWShare
import Derived.Test.YtnchkpheepbacaaDoorWN
import Derived.Test.YtnchkpheepbacaaDoorWFootNe
import Derived.Test.YtnchkpheepbacaaDoorWAt
import Derived.Test.YtnchkpheepbacaaDoorWEqStruct
import Derived.Test.YtnchkpheepbacaaDoorWRepsOne
import Derived.Test.YtnchkpheepbacaaDoorWInv
import Derived.Test.YtnchkpheepbacaaDoorWInvWords
import Derived.Test.YtnchkpheepbacaaDoorWGuard
import Derived.Test.YtnchkpheepbacaaDoorWNEv
import Derived.Test.YtnchkpheepbacaaDoorWMore
namespace Go.Proofs.YtnchkpheepbacaaDoor.T
open Go.Proofs.YtnchkpheepbacaaDoor.Y
open Go.Proofs.YtnchkpheepbacaaDoor.Hand (HG HG.below)
open Go.RowKit Go.Proofs.YtnchkpheepbacaaDoorW.PrintWords Go.Proofs.YtnchkpheepbacaaDoorW.PrintLast Go.Proofs.YtnchkpheepbacaaDoorW.PrintMore
attribute [local go_sem] max2_int min2_int max_two min_two max_three min_three max_four min_four   -- for this text's walks alone
set_option linter.unusedVariables false
set_option linter.unusedSimpArgs false



def errW : Option Int → Value
  | none => .nilIface
  | some c => .iface 0 (.int .i64 c)
theorem errW_none : errW none = .nilIface := rfl
theorem errW_some (c : Int) : errW (some c) = .iface 0 (.int .i64 c) := rfl

-- the values' own types

end Go.Proofs.YtnchkpheepbacaaDoor.T

namespace Go.Proofs.YtnchkpheepbacaaDoor.T
open Go.Proofs.YtnchkpheepbacaaDoor.Y
open Go.Proofs.YtnchkpheepbacaaDoor.Hand (HG HG.below)
open Go.RowKit Go.Proofs.YtnchkpheepbacaaDoorW.PrintWords Go.Proofs.YtnchkpheepbacaaDoorW.PrintLast Go.Proofs.YtnchkpheepbacaaDoorW.PrintMore
attribute [local go_sem] max2_int min2_int max_two min_two max_three min_three max_four min_four   -- for this text's walks alone
set_option linter.unusedVariables false
set_option linter.unusedSimpArgs false

-- function 11 (masterdisclaw16_awake): walked by hand

-- function 27 (datetime_Descriptor): walked by hand

-- function 13 (masterdiscref16_Split): walked by hand

-- function 16 (masterdiscref16_Time): walked by hand

-- function 31 (masterdiscref16_Quarter): walked by hand

-- function 43 (masterdiscref16_signed): walked by hand

/-! ### masterdiscref16_digits: function 49 -/
def masterdiscref16_digits.l0 : Nat → Int → Int → ByteArray → Int → Option (ByteArray)
  | 0, _, _, _, _ => none
  | k + 1, x0, x1, x5, x6 => if x6 < x1 then ((some (([(wrap64 (48 + (Int.tmod x0 10))) % 256] : List Int) : List Int)).bind fun y101 => (if (strOfNums y101).size + x5.size ≤ 9223372036854775807 then (masterdiscref16_digits.l0 k (wrap64 (Int.tdiv x0 10)) x1 ((strOfNums y101) ++ x5) (wrap64 (x6 + 1))) else (none))) else (some x5)
def masterdiscref16_digits.f (k : Nat) (a0 : Int) (a1 : Int) : Option (ByteArray) := masterdiscref16_digits.l0 k a0 a1 (⟨#[]⟩ : ByteArray) 0
theorem masterdiscref16_digits.mono_l : ∀ k, (∀ y0 y1 y2 y3, LeO (masterdiscref16_digits.l0 k y0 y1 y2 y3) (masterdiscref16_digits.l0 (k + 1) y0 y1 y2 y3))
  | 0 => fun _ _ _ _ r h => by simp [masterdiscref16_digits.l0] at h
  | k + 1 => by
    have ih0 := masterdiscref16_digits.mono_l k
    · intro y0 y1 y2 y3
      unfold masterdiscref16_digits.l0
      repeat' first
      | (with_reducible exact ih0 _ _ _ _)
      | (with_reducible exact LeO.refl _)
      | (with_reducible exact LeO.none _)
      | (with_reducible refine LeO.ite ?_ ?_)
      | (with_reducible refine LeO.bind ?_ (fun _ => ?_))
      | exact ih0 _ _ _ _
      | exact LeO.none _
      | refine LeO.ite ?_ ?_
      | refine LeO.bind ?_ (fun _ => ?_)
theorem masterdiscref16_digits.mono : ∀ a0 a1 k, LeO (masterdiscref16_digits.f k a0 a1) (masterdiscref16_digits.f (k + 1) a0 a1) := by
  intro a0 a1 k
  have ih0 := masterdiscref16_digits.mono_l k
  unfold masterdiscref16_digits.f
  repeat' first
      | (with_reducible exact ih0 _ _ _ _)
      | (with_reducible exact LeO.refl _)
      | (with_reducible exact LeO.none _)
      | (with_reducible refine LeO.ite ?_ ?_)
      | (with_reducible refine LeO.bind ?_ (fun _ => ?_))
      | exact ih0 _ _ _ _
      | exact LeO.none _
      | refine LeO.ite ?_ ?_
      | refine LeO.bind ?_ (fun _ => ?_)
set_option maxHeartbeats 8000000 in
set_option maxRecDepth 100000 in
theorem masterdiscref16_digits.calls (k : Nat) (a0 : Int) (a1 : Int) (r : ByteArray) (w : World) (h : masterdiscref16_digits.f k a0 a1 = some r) :
    Calls Tryd.prog 49 #[.int .i64 a0, .int .i64 a1] w fun e w' => e = .returned (.string r) ∧ Below w.heap.size w w' := by
  have HB := Aside0.mk (Below.refl w.heap.size w)
  have H : (masterdiscref16_digits.l0 k a0 a1 (⟨#[]⟩ : ByteArray) 0) = some r := h
  clear h
  have H' := Aside0.mk H
  clear H
  go_enter Tryd.func49, Tryd.ntmps49
  go_wp2
  go_loopg [0, 5, 6] k (fun kq v0 v5 v6 w' => ∃ (x0_1 : Int) (x5_1 : ByteArray) (x6_1 : Int), v0 = .int .i64 x0_1 ∧ v5 = .string x5_1 ∧ v6 = .int .i64 x6_1 ∧ Aside0 (masterdiscref16_digits.l0 kq x0_1 a1 x5_1 x6_1 = some r) ∧ Aside0 (kq ≤ k) ∧ Aside0 (Below w.heap.size w w'))
  case atStart => exact ⟨(a0), ((⟨#[]⟩ : ByteArray)), (0), (by first | rfl | (simp; done) | (simp [*]; done)), (by first | rfl | (simp; done) | (simp [*]; done)), (by first | rfl | (simp; done) | (simp [*]; done)), H', ⟨Nat.le_refl _⟩, ⟨by repeat (first | (with_reducible first | exact HB.out | apply below_alloc | apply pw_below_drewN | apply below_drew1) | exact HB.out)⟩⟩
  case round =>
    clear H'
    try clear p2
    obtain ⟨x0_1, x5_1, x6_1, rfl, rfl, rfl, HA, HK1, HB⟩ := hrel
    cases gk with
    | zero => exact absurd HA.out (by simp [masterdiscref16_digits.l0])
    | succ k1 =>
      have H := HA.out
      clear HA
      simp only [masterdiscref16_digits.l0] at H
      by_cases c3 : x6_1 < a1
      · rw [if_pos c3] at H
        have c3b0 : decide (x6_1 < a1) = true := decide_eq_true c3
        clear c3
        obtain ⟨y101, hy101⟩ : ∃ y_ : List Int, y_ = (([(wrap64 (48 + (Int.tmod x0_1 10))) % 256] : List Int)) := ⟨_, rfl⟩
        replace H : (if (strOfNums y101).size + x5_1.size ≤ 9223372036854775807 then (masterdiscref16_digits.l0 k1 (wrap64 (Int.tdiv x0_1 10)) a1 ((strOfNums y101) ++ x5_1) (wrap64 (x6_1 + 1))) else (none)) = some r := by first | (rw [hy101]; with_reducible exact H) | (have H2_ := (Option.bind_some _ _).symm.trans H; rw [hy101]; with_reducible exact H2_) | (have H2_ := (Option.bind_some _ _).symm.trans H; with_reducible exact H2_) | with_reducible exact H | (rw [hy101]; exact H) | exact H
        have Ny101 := Aside0.mk hy101
        clear hy101
        by_cases c4 : (strOfNums y101).size + x5_1.size ≤ 9223372036854775807
        · rw [if_pos c4] at H
          have c4b0 := eq_true c4
          have c4b1 : decide ((strOfNums y101).size + x5_1.size ≤ 9223372036854775807) = true := decide_eq_true c4
          try have c4b2 : (9223372036854775807 < (strOfNums y101).size + x5_1.size) = False := eq_false (Nat.not_lt.2 c4)
          have H' := Aside0.mk H
          clear H
          go_wp2_with (first | ((with_reducible refine gate_dst (N := 16) rfl ?_); refine Kd.R_lit (Kd.int .u8) _ 5 ?hg (N := 16) ?hd (xs := ([(wrap64 (48 + (Int.tmod x0_1 10))) % 256] : List Int)) (inner := [.int .u8 ((wrap64 (48 + (Int.tmod x0_1 10))) % 256)]) (ok := fun _ => True) (okp := fun _ => True) ?hr ?hp (fun _ hk => hk) trivial (Below.refl _ _) (Nat.le_refl _) (by simp) ?_; (case hd => rfl); (case hg => rfl); (case hr => first | (go_simp; done) | (go_simp; rfl)); (case hp => exact (Reps.one (show Kd.M (Kd.int .u8) _ _ _ ((wrap64 (48 + (Int.tmod x0_1 10))) % 256) [.int .u8 ((wrap64 (48 + (Int.tmod x0_1 10))) % 256)] from rfl) (Reps.none _ _))); intro v102 w5 ho6 hb hg_ hnew_; clear hg_ hnew_; (first | rw [← Ny101.out] at ho6 | (simp only [Int.reduceToNat] at ho6; rw [← Ny101.out] at ho6)); have n0_ := Aside0.mk (Kd.R_lower ho6 (below_size (by repeat (first | (with_reducible first | exact HB.out | apply below_alloc | apply pw_below_drewN | apply below_drew1) | exact HB.out)))); have n1_ := Aside0.mk (below_step (by repeat (first | (with_reducible first | exact HB.out | apply below_alloc | apply pw_below_drewN | apply below_drew1) | exact HB.out)) hb); clear HB; have HO103 := n0_; have HB := n1_; clear n0_ n1_; clear hb ho6; have hcv7 := own_string (P := Tryd.prog) Tryd.underlying47 Tryd.underlying5 Tryd.underlying9 (Kd.own_of_R HO103.out)))
          go_roundg k1
          case measure => have := HK1.out; omega
          case rel => exact ⟨(wrap64 (Int.tdiv x0_1 10)), ((strOfNums y101) ++ x5_1), (wrap64 (x6_1 + 1)), (by first | rfl | (simp; done) | (simp [*]; done)), (by first | rfl | (simp; done) | (simp [*]; done)), (by first | rfl | (simp; done) | (simp [*]; done)), H', ⟨by have := HK1.out; omega⟩, ⟨by repeat (first | (with_reducible first | exact HB.out | apply below_alloc | apply pw_below_drewN | apply below_drew1) | exact HB.out)⟩⟩
        · rw [if_neg c4] at H
          exact absurd H (by simp)
      · rw [if_neg c3] at H
        have c3b0 : decide (x6_1 < a1) = false := decide_eq_false c3
        clear c3
        obtain rfl := Option.some.inj H
        go_wp2
        go_ret
        exact ⟨by first | rfl | (simp [errW_none, errW_some] <;> rfl) | (simp [*, errW_none, errW_some] <;> rfl), by repeat (first | (with_reducible first | exact HB.out | apply below_alloc | apply pw_below_drewN | apply below_drew1) | exact HB.out)⟩

/-! ### masterdiscref16_Descriptor: function 28 -/
def masterdiscref16_Descriptor.j0 : Nat → Int → Int → Bool → Option (ByteArray × Int)
  | 0, _, _, _ => none
  | k + 1, x0, x1, x15 => if x15 = true then (some ((⟨#[]⟩ : ByteArray), 2)) else ((masterdiscref16_Split.f x0 x1).bind fun bt106 => ((masterdiscref16_digits.f k bt106.1 4).bind fun t114 => ((masterdiscref16_digits.f k bt106.2.1 2).bind fun t115 => (if t114.size + t115.size ≤ 9223372036854775807 then ((masterdiscref16_digits.f k bt106.2.2.1 2).bind fun t116 => (if (t114 ++ t115).size + t116.size ≤ 9223372036854775807 then ((masterdiscref16_digits.f k bt106.2.2.2.1 2).bind fun t117 => (if ((t114 ++ t115) ++ t116).size + t117.size ≤ 9223372036854775807 then ((masterdiscref16_digits.f k bt106.2.2.2.2.1 2).bind fun t118 => (if (((t114 ++ t115) ++ t116) ++ t117).size + t118.size ≤ 9223372036854775807 then ((masterdiscref16_digits.f k bt106.2.2.2.2.2.1 2).bind fun t119 => (if ((((t114 ++ t115) ++ t116) ++ t117) ++ t118).size + t119.size ≤ 9223372036854775807 then (if (((((t114 ++ t115) ++ t116) ++ t117) ++ t118) ++ t119).size + 2 ≤ 9223372036854775807 then ((masterdiscref16_signed.f (wrap64 (Int.tdiv x1 15))).bind fun t120 => ((some (([t120] : List Int) : List Int)).bind fun y121 => (if ((((((t114 ++ t115) ++ t116) ++ t117) ++ t118) ++ t119) ++ (⟨#[48, 48]⟩ : ByteArray)).size + (strOfNums y121).size ≤ 9223372036854775807 then (some (((((((t114 ++ t115) ++ t116) ++ t117) ++ t118) ++ t119) ++ (⟨#[48, 48]⟩ : ByteArray)) ++ (strOfNums y121), 0)) else (none)))) else (none)) else (none))) else (none))) else (none))) else (none))) else (none)))))
def masterdiscref16_Descriptor.f (k : Nat) (a0 : Int) (a1 : Int) : Option (ByteArray × Int) := (masterdiscref16_Time.f a0).bind fun t104 => (if t104 = true then ((masterdiscref16_Quarter.f a1).bind fun t105 => (masterdiscref16_Descriptor.j0 k a0 a1 (!t105))) else (masterdiscref16_Descriptor.j0 k a0 a1 true))
theorem masterdiscref16_Descriptor.mono_l : ∀ k, (∀ y0 y1 y2, LeO (masterdiscref16_Descriptor.j0 k y0 y1 y2) (masterdiscref16_Descriptor.j0 (k + 1) y0 y1 y2))
  | 0 => fun _ _ _ r h => by simp [masterdiscref16_Descriptor.j0] at h
  | k + 1 => by
    have ih0 := masterdiscref16_Descriptor.mono_l k
    · intro y0 y1 y2
      unfold masterdiscref16_Descriptor.j0
      repeat' first
      | (with_reducible exact ih0 _ _ _)
      | (with_reducible exact masterdiscref16_digits.mono _ _ _)
      | (with_reducible exact LeO.refl _)
      | (with_reducible exact LeO.none _)
      | (with_reducible refine LeO.ite ?_ ?_)
      | (with_reducible refine LeO.bind ?_ (fun _ => ?_))
      | exact ih0 _ _ _
      | exact masterdiscref16_digits.mono _ _ _
      | exact LeO.none _
      | refine LeO.ite ?_ ?_
      | refine LeO.bind ?_ (fun _ => ?_)
theorem masterdiscref16_Descriptor.mono : ∀ a0 a1 k, LeO (masterdiscref16_Descriptor.f k a0 a1) (masterdiscref16_Descriptor.f (k + 1) a0 a1) := by
  intro a0 a1 k
  have ih0 := masterdiscref16_Descriptor.mono_l k
  unfold masterdiscref16_Descriptor.f
  repeat' first
      | (with_reducible exact ih0 _ _ _)
      | (with_reducible exact masterdiscref16_digits.mono _ _ _)
      | (with_reducible exact LeO.refl _)
      | (with_reducible exact LeO.none _)
      | (with_reducible refine LeO.ite ?_ ?_)
      | (with_reducible refine LeO.bind ?_ (fun _ => ?_))
      | exact ih0 _ _ _
      | exact masterdiscref16_digits.mono _ _ _
      | exact LeO.none _
      | refine LeO.ite ?_ ?_
      | refine LeO.bind ?_ (fun _ => ?_)
def masterdiscref16_Descriptor.T4 : Bool × List (List Nat × List Nat) := (true, [([], []), ([0], [0]), ([1], [1]), ([], []), ([3], [3]), ([4, 2], [4]), ([2, 5], [2, 5]), ([], []), ([7], [7]), ([8, 5], [8]), ([6, 9], [6, 9]), ([], []), ([11], [11]), ([12, 9], [12]), ([10, 13], [10, 13]), ([], []), ([15], [15]), ([16, 13], [16]), ([14, 17], [14, 17]), ([], []), ([19], [19]), ([20, 17], [20]), ([18, 21], [18, 21]), ([22], [22]), ([], []), ([24], [24]), ([25, 21], [25]), ([26], [26]), ([27], [27]), ([23, 28], [23, 28]), ([29, 26, 0, 1, 2, 3, 4, 5, 6, 7, 8, 9, 10, 11, 12, 13, 14, 15, 16, 17, 18, 19, 20, 21, 22, 23, 24, 25, 26, 27, 28, 29], [29]), ([30, 0, 1, 2, 3, 4, 5, 6, 7, 8, 9, 10, 11, 12, 13, 14, 15, 16, 17, 18, 19, 20, 21, 22, 23, 24, 25, 26, 27, 28, 29, 30], [])])
def masterdiscref16_Descriptor.B4 : List Nat := [0, 1, 3, 0, 8, 31, 63, 0, 128, 447, 1023, 0, 2048, 7103, 16383, 0, 32768, 113599, 262143, 0, 524288, 1817535, 4194303, 8388607, 0, 16777216, 54246335, 121355199, 255572927, 536870911, 1073741823, 2147483647]
theorem masterdiscref16_Descriptor.tab4 : rtab .any (opsOf Tryd.f28 4) = masterdiscref16_Descriptor.T4 := by kernel_rfl
theorem masterdiscref16_Descriptor.bits4 : waitsOk masterdiscref16_Descriptor.T4.2 masterdiscref16_Descriptor.B4 = true := by kernel_rfl
set_option maxHeartbeats 8000000 in
set_option maxRecDepth 100000 in
theorem masterdiscref16_Descriptor.calls (k : Nat) (a0 : Int) (a1 : Int) (r1 : ByteArray) (r2 : Int) (w : World) (h : masterdiscref16_Descriptor.f k a0 a1 = some (r1, r2)) :
    Calls Tryd.prog 28 #[.int .i64 a0, .int .i64 a1] w fun e w' => e = .returned (.tuple #[.string r1, .int .i64 r2]) ∧ Below w.heap.size w w' := by
  have hu23 := Tryd.underlying23
  have HB := Aside0.mk (Below.refl w.heap.size w)
  have H : ((masterdiscref16_Time.f a0).bind fun t104 => (if t104 = true then ((masterdiscref16_Quarter.f a1).bind fun t105 => (masterdiscref16_Descriptor.j0 k a0 a1 (!t105))) else (masterdiscref16_Descriptor.j0 k a0 a1 true))) = some (r1, r2) := h
  clear h
  have HC3 := Aside0.mk H
  clear H
  go_enter Tryd.func28, Tryd.ntmps28
  go_upto_region 1 with (fail)
  go_cut [15] (fun v15 wc => ∃ (kq : Nat) (x15_2 : Bool), v15 = .bool x15_2 ∧ Aside0 (masterdiscref16_Descriptor.j0 kq a0 a1 x15_2 = some (r1, r2)) ∧ Aside0 (kq ≤ k) ∧ Aside0 (Below w.heap.size w wc))
  case first =>
    have H := HC3.out
    clear HC3
    replace H := Option.bind_eq_some_iff.mp H
    obtain ⟨t104, A40, H⟩ := H
    replace H : (if t104 = true then ((masterdiscref16_Quarter.f a1).bind fun t105 => (masterdiscref16_Descriptor.j0 k a0 a1 (!t105))) else (masterdiscref16_Descriptor.j0 k a0 a1 true)) = some (r1, r2) := H
    have A4 := Aside0.mk A40
    clear A40
    by_cases c5 : t104 = true
    · subst c5
      have H1 : ((masterdiscref16_Quarter.f a1).bind fun t105 => (masterdiscref16_Descriptor.j0 k a0 a1 (!t105))) = some (r1, r2) := by rw [if_pos rfl] at H; exact H
      clear H
      have H := H1
      clear H1
      replace H := Option.bind_eq_some_iff.mp H
      obtain ⟨t105, A60, H⟩ := H
      replace H : (masterdiscref16_Descriptor.j0 k a0 a1 (!t105)) = some (r1, r2) := H
      have A6 := Aside0.mk A60
      clear A60
      have H' := Aside0.mk H
      clear H
      go_wp2_with (first | ((with_reducible refine gate_callee (f := 16) rfl ?_); refine goesL_ (some 9) rfl rfl Tryd.func16 (by kernel_rfl) rfl #[.int .i64 a0] rfl (by (try simp only [List.map_toArray, List.map_cons, List.map_nil]); first | done | rfl | (simp only [List.length_drop, List.length_take]; rfl)) ?_; (with_reducible refine (masterdiscref16_Time.calls a0 true _ A4.out).mono ?_); rintro e w7 ⟨rfl, hb⟩; refine ⟨_, rfl, ?_⟩; have n0_ := Aside0.mk (below_step (by repeat (first | (with_reducible first | exact HB.out | apply below_alloc | apply pw_below_drewN | apply below_drew1) | exact HB.out)) hb); clear HB; have HB := n0_; clear n0_; (try clear hb); (try clear hb2); (try clear hk); (try clear hi)) | (go_at_call 31; (with_reducible refine (masterdiscref16_Quarter.calls a1 t105 _ A6.out).mono ?_); rintro e w8 ⟨rfl, hb⟩; have n0_ := Aside0.mk (below_step (by repeat (first | (with_reducible first | exact HB.out | apply below_alloc | apply pw_below_drewN | apply below_drew1) | exact HB.out)) hb); clear HB; have HB := n0_; clear n0_; (try clear hb); (try clear hb2); (try clear hk); (try clear hi)))
      go_meet
      case rel => exact ⟨_, (!t105), (by first | rfl | (simp; done) | (simp [*]; done)), H', ⟨by first | omega | exact Nat.le_refl _⟩, ⟨by repeat (first | (with_reducible first | exact HB.out | apply below_alloc | apply pw_below_drewN | apply below_drew1) | exact HB.out)⟩⟩
    · replace c5 := Bool.eq_false_iff.mpr c5
      subst c5
      have H1 : (masterdiscref16_Descriptor.j0 k a0 a1 true) = some (r1, r2) := by rw [if_neg (show ¬ (false = true) by decide)] at H; exact H
      clear H
      have H := H1
      clear H1
      have H' := Aside0.mk H
      clear H
      go_wp2_with (first | ((with_reducible refine gate_callee (f := 16) rfl ?_); refine goesL_ (some 9) rfl rfl Tryd.func16 (by kernel_rfl) rfl #[.int .i64 a0] rfl (by (try simp only [List.map_toArray, List.map_cons, List.map_nil]); first | done | rfl | (simp only [List.length_drop, List.length_take]; rfl)) ?_; (with_reducible refine (masterdiscref16_Time.calls a0 false _ A4.out).mono ?_); rintro e w9 ⟨rfl, hb⟩; refine ⟨_, rfl, ?_⟩; have n0_ := Aside0.mk (below_step (by repeat (first | (with_reducible first | exact HB.out | apply below_alloc | apply pw_below_drewN | apply below_drew1) | exact HB.out)) hb); clear HB; have HB := n0_; clear n0_; (try clear hb); (try clear hb2); (try clear hk); (try clear hi)))
      go_meet
      case rel => exact ⟨_, (true), (by first | rfl | (simp; done) | (simp [*]; done)), H', ⟨by first | omega | exact Nat.le_refl _⟩, ⟨by repeat (first | (with_reducible first | exact HB.out | apply below_alloc | apply pw_below_drewN | apply below_drew1) | exact HB.out)⟩⟩
  case rest =>
    clear HC3
    try clear c1
    try clear c2
    try clear p2
    try clear c5
    obtain ⟨kq, x15_2, rfl, HA, HJ2, HB⟩ := hcut
    cases kq with
    | zero => exact absurd HA.out (by simp [masterdiscref16_Descriptor.j0])
    | succ kj2 =>
      have H := HA.out
      clear HA
      simp only [masterdiscref16_Descriptor.j0] at H
      by_cases c10 : x15_2 = true
      · subst c10
        have H1 : (some ((⟨#[]⟩ : ByteArray), 2)) = some (r1, r2) := by rw [if_pos rfl] at H; exact H
        clear H
        have H := H1
        clear H1
        simp only [Option.some.injEq, Prod.mk.injEq] at H
        obtain ⟨rfl, rfl⟩ := H
        go_wp2
        go_ret2
        exact ⟨by first | rfl | (simp [errW_none, errW_some] <;> rfl) | (simp [*, errW_none, errW_some] <;> rfl), by repeat (first | (with_reducible first | exact HB.out | apply below_alloc | apply pw_below_drewN | apply below_drew1) | exact HB.out)⟩
      · replace c10 := Bool.eq_false_iff.mpr c10
        subst c10
        have H1 : ((masterdiscref16_Split.f a0 a1).bind fun bt106 => ((masterdiscref16_digits.f kj2 bt106.1 4).bind fun t114 => ((masterdiscref16_digits.f kj2 bt106.2.1 2).bind fun t115 => (if t114.size + t115.size ≤ 9223372036854775807 then ((masterdiscref16_digits.f kj2 bt106.2.2.1 2).bind fun t116 => (if (t114 ++ t115).size + t116.size ≤ 9223372036854775807 then ((masterdiscref16_digits.f kj2 bt106.2.2.2.1 2).bind fun t117 => (if ((t114 ++ t115) ++ t116).size + t117.size ≤ 9223372036854775807 then ((masterdiscref16_digits.f kj2 bt106.2.2.2.2.1 2).bind fun t118 => (if (((t114 ++ t115) ++ t116) ++ t117).size + t118.size ≤ 9223372036854775807 then ((masterdiscref16_digits.f kj2 bt106.2.2.2.2.2.1 2).bind fun t119 => (if ((((t114 ++ t115) ++ t116) ++ t117) ++ t118).size + t119.size ≤ 9223372036854775807 then (if (((((t114 ++ t115) ++ t116) ++ t117) ++ t118) ++ t119).size + 2 ≤ 9223372036854775807 then ((masterdiscref16_signed.f (wrap64 (Int.tdiv a1 15))).bind fun t120 => ((some (([t120] : List Int) : List Int)).bind fun y121 => (if ((((((t114 ++ t115) ++ t116) ++ t117) ++ t118) ++ t119) ++ (⟨#[48, 48]⟩ : ByteArray)).size + (strOfNums y121).size ≤ 9223372036854775807 then (some (((((((t114 ++ t115) ++ t116) ++ t117) ++ t118) ++ t119) ++ (⟨#[48, 48]⟩ : ByteArray)) ++ (strOfNums y121), 0)) else (none)))) else (none)) else (none))) else (none))) else (none))) else (none))) else (none))))) = some (r1, r2) := by rw [if_neg (show ¬ (false = true) by decide)] at H; exact H
        clear H
        have H := H1
        clear H1
        replace H := Option.bind_eq_some_iff.mp H
        obtain ⟨⟨t106, t107, t108, t109, t110, t111, t112⟩, A110, H⟩ := H
        replace H : ((masterdiscref16_digits.f kj2 t106 4).bind fun t114 => ((masterdiscref16_digits.f kj2 t107 2).bind fun t115 => (if t114.size + t115.size ≤ 9223372036854775807 then ((masterdiscref16_digits.f kj2 t108 2).bind fun t116 => (if (t114 ++ t115).size + t116.size ≤ 9223372036854775807 then ((masterdiscref16_digits.f kj2 t109 2).bind fun t117 => (if ((t114 ++ t115) ++ t116).size + t117.size ≤ 9223372036854775807 then ((masterdiscref16_digits.f kj2 t110 2).bind fun t118 => (if (((t114 ++ t115) ++ t116) ++ t117).size + t118.size ≤ 9223372036854775807 then ((masterdiscref16_digits.f kj2 t111 2).bind fun t119 => (if ((((t114 ++ t115) ++ t116) ++ t117) ++ t118).size + t119.size ≤ 9223372036854775807 then (if (((((t114 ++ t115) ++ t116) ++ t117) ++ t118) ++ t119).size + 2 ≤ 9223372036854775807 then ((masterdiscref16_signed.f (wrap64 (Int.tdiv a1 15))).bind fun t120 => ((some (([t120] : List Int) : List Int)).bind fun y121 => (if ((((((t114 ++ t115) ++ t116) ++ t117) ++ t118) ++ t119) ++ (⟨#[48, 48]⟩ : ByteArray)).size + (strOfNums y121).size ≤ 9223372036854775807 then (some (((((((t114 ++ t115) ++ t116) ++ t117) ++ t118) ++ t119) ++ (⟨#[48, 48]⟩ : ByteArray)) ++ (strOfNums y121), 0)) else (none)))) else (none)) else (none))) else (none))) else (none))) else (none))) else (none)))) = some (r1, r2) := H
        have A11 := Aside0.mk A110
        clear A110
        replace H := Option.bind_eq_some_iff.mp H
        obtain ⟨t114, A120, H⟩ := H
        replace H : ((masterdiscref16_digits.f kj2 t107 2).bind fun t115 => (if t114.size + t115.size ≤ 9223372036854775807 then ((masterdiscref16_digits.f kj2 t108 2).bind fun t116 => (if (t114 ++ t115).size + t116.size ≤ 9223372036854775807 then ((masterdiscref16_digits.f kj2 t109 2).bind fun t117 => (if ((t114 ++ t115) ++ t116).size + t117.size ≤ 9223372036854775807 then ((masterdiscref16_digits.f kj2 t110 2).bind fun t118 => (if (((t114 ++ t115) ++ t116) ++ t117).size + t118.size ≤ 9223372036854775807 then ((masterdiscref16_digits.f kj2 t111 2).bind fun t119 => (if ((((t114 ++ t115) ++ t116) ++ t117) ++ t118).size + t119.size ≤ 9223372036854775807 then (if (((((t114 ++ t115) ++ t116) ++ t117) ++ t118) ++ t119).size + 2 ≤ 9223372036854775807 then ((masterdiscref16_signed.f (wrap64 (Int.tdiv a1 15))).bind fun t120 => ((some (([t120] : List Int) : List Int)).bind fun y121 => (if ((((((t114 ++ t115) ++ t116) ++ t117) ++ t118) ++ t119) ++ (⟨#[48, 48]⟩ : ByteArray)).size + (strOfNums y121).size ≤ 9223372036854775807 then (some (((((((t114 ++ t115) ++ t116) ++ t117) ++ t118) ++ t119) ++ (⟨#[48, 48]⟩ : ByteArray)) ++ (strOfNums y121), 0)) else (none)))) else (none)) else (none))) else (none))) else (none))) else (none))) else (none))) = some (r1, r2) := H
        have A12 := Aside0.mk A120
        clear A120
        replace H := Option.bind_eq_some_iff.mp H
        obtain ⟨t115, A130, H⟩ := H
        replace H : (if t114.size + t115.size ≤ 9223372036854775807 then ((masterdiscref16_digits.f kj2 t108 2).bind fun t116 => (if (t114 ++ t115).size + t116.size ≤ 9223372036854775807 then ((masterdiscref16_digits.f kj2 t109 2).bind fun t117 => (if ((t114 ++ t115) ++ t116).size + t117.size ≤ 9223372036854775807 then ((masterdiscref16_digits.f kj2 t110 2).bind fun t118 => (if (((t114 ++ t115) ++ t116) ++ t117).size + t118.size ≤ 9223372036854775807 then ((masterdiscref16_digits.f kj2 t111 2).bind fun t119 => (if ((((t114 ++ t115) ++ t116) ++ t117) ++ t118).size + t119.size ≤ 9223372036854775807 then (if (((((t114 ++ t115) ++ t116) ++ t117) ++ t118) ++ t119).size + 2 ≤ 9223372036854775807 then ((masterdiscref16_signed.f (wrap64 (Int.tdiv a1 15))).bind fun t120 => ((some (([t120] : List Int) : List Int)).bind fun y121 => (if ((((((t114 ++ t115) ++ t116) ++ t117) ++ t118) ++ t119) ++ (⟨#[48, 48]⟩ : ByteArray)).size + (strOfNums y121).size ≤ 9223372036854775807 then (some (((((((t114 ++ t115) ++ t116) ++ t117) ++ t118) ++ t119) ++ (⟨#[48, 48]⟩ : ByteArray)) ++ (strOfNums y121), 0)) else (none)))) else (none)) else (none))) else (none))) else (none))) else (none))) else (none)) = some (r1, r2) := H
        have A13 := Aside0.mk A130
        clear A130
        by_cases c14 : t114.size + t115.size ≤ 9223372036854775807
        · rw [if_pos c14] at H
          have c14b0 := eq_true c14
          have c14b1 : decide (t114.size + t115.size ≤ 9223372036854775807) = true := decide_eq_true c14
          try have c14b2 : (9223372036854775807 < t114.size + t115.size) = False := eq_false (Nat.not_lt.2 c14)
          replace H := Option.bind_eq_some_iff.mp H
          obtain ⟨t116, A150, H⟩ := H
          replace H : (if (t114 ++ t115).size + t116.size ≤ 9223372036854775807 then ((masterdiscref16_digits.f kj2 t109 2).bind fun t117 => (if ((t114 ++ t115) ++ t116).size + t117.size ≤ 9223372036854775807 then ((masterdiscref16_digits.f kj2 t110 2).bind fun t118 => (if (((t114 ++ t115) ++ t116) ++ t117).size + t118.size ≤ 9223372036854775807 then ((masterdiscref16_digits.f kj2 t111 2).bind fun t119 => (if ((((t114 ++ t115) ++ t116) ++ t117) ++ t118).size + t119.size ≤ 9223372036854775807 then (if (((((t114 ++ t115) ++ t116) ++ t117) ++ t118) ++ t119).size + 2 ≤ 9223372036854775807 then ((masterdiscref16_signed.f (wrap64 (Int.tdiv a1 15))).bind fun t120 => ((some (([t120] : List Int) : List Int)).bind fun y121 => (if ((((((t114 ++ t115) ++ t116) ++ t117) ++ t118) ++ t119) ++ (⟨#[48, 48]⟩ : ByteArray)).size + (strOfNums y121).size ≤ 9223372036854775807 then (some (((((((t114 ++ t115) ++ t116) ++ t117) ++ t118) ++ t119) ++ (⟨#[48, 48]⟩ : ByteArray)) ++ (strOfNums y121), 0)) else (none)))) else (none)) else (none))) else (none))) else (none))) else (none)) = some (r1, r2) := H
          have A15 := Aside0.mk A150
          clear A150
          by_cases c16 : (t114 ++ t115).size + t116.size ≤ 9223372036854775807
          · rw [if_pos c16] at H
            have c16b0 := eq_true c16
            have c16b1 : decide ((t114 ++ t115).size + t116.size ≤ 9223372036854775807) = true := decide_eq_true c16
            try have c16b2 : (9223372036854775807 < (t114 ++ t115).size + t116.size) = False := eq_false (Nat.not_lt.2 c16)
            try simp only [ByteArray.size_append, show (⟨#[48, 48]⟩ : ByteArray).size = 2 from rfl] at c16b0 c16b1 c16b2
            replace H := Option.bind_eq_some_iff.mp H
            obtain ⟨t117, A170, H⟩ := H
            replace H : (if ((t114 ++ t115) ++ t116).size + t117.size ≤ 9223372036854775807 then ((masterdiscref16_digits.f kj2 t110 2).bind fun t118 => (if (((t114 ++ t115) ++ t116) ++ t117).size + t118.size ≤ 9223372036854775807 then ((masterdiscref16_digits.f kj2 t111 2).bind fun t119 => (if ((((t114 ++ t115) ++ t116) ++ t117) ++ t118).size + t119.size ≤ 9223372036854775807 then (if (((((t114 ++ t115) ++ t116) ++ t117) ++ t118) ++ t119).size + 2 ≤ 9223372036854775807 then ((masterdiscref16_signed.f (wrap64 (Int.tdiv a1 15))).bind fun t120 => ((some (([t120] : List Int) : List Int)).bind fun y121 => (if ((((((t114 ++ t115) ++ t116) ++ t117) ++ t118) ++ t119) ++ (⟨#[48, 48]⟩ : ByteArray)).size + (strOfNums y121).size ≤ 9223372036854775807 then (some (((((((t114 ++ t115) ++ t116) ++ t117) ++ t118) ++ t119) ++ (⟨#[48, 48]⟩ : ByteArray)) ++ (strOfNums y121), 0)) else (none)))) else (none)) else (none))) else (none))) else (none)) = some (r1, r2) := H
            have A17 := Aside0.mk A170
            clear A170
            by_cases c18 : ((t114 ++ t115) ++ t116).size + t117.size ≤ 9223372036854775807
            · rw [if_pos c18] at H
              have c18b0 := eq_true c18
              have c18b1 : decide (((t114 ++ t115) ++ t116).size + t117.size ≤ 9223372036854775807) = true := decide_eq_true c18
              try have c18b2 : (9223372036854775807 < ((t114 ++ t115) ++ t116).size + t117.size) = False := eq_false (Nat.not_lt.2 c18)
              try simp only [ByteArray.size_append, show (⟨#[48, 48]⟩ : ByteArray).size = 2 from rfl] at c18b0 c18b1 c18b2
              replace H := Option.bind_eq_some_iff.mp H
              obtain ⟨t118, A190, H⟩ := H
              replace H : (if (((t114 ++ t115) ++ t116) ++ t117).size + t118.size ≤ 9223372036854775807 then ((masterdiscref16_digits.f kj2 t111 2).bind fun t119 => (if ((((t114 ++ t115) ++ t116) ++ t117) ++ t118).size + t119.size ≤ 9223372036854775807 then (if (((((t114 ++ t115) ++ t116) ++ t117) ++ t118) ++ t119).size + 2 ≤ 9223372036854775807 then ((masterdiscref16_signed.f (wrap64 (Int.tdiv a1 15))).bind fun t120 => ((some (([t120] : List Int) : List Int)).bind fun y121 => (if ((((((t114 ++ t115) ++ t116) ++ t117) ++ t118) ++ t119) ++ (⟨#[48, 48]⟩ : ByteArray)).size + (strOfNums y121).size ≤ 9223372036854775807 then (some (((((((t114 ++ t115) ++ t116) ++ t117) ++ t118) ++ t119) ++ (⟨#[48, 48]⟩ : ByteArray)) ++ (strOfNums y121), 0)) else (none)))) else (none)) else (none))) else (none)) = some (r1, r2) := H
              have A19 := Aside0.mk A190
              clear A190
              by_cases c20 : (((t114 ++ t115) ++ t116) ++ t117).size + t118.size ≤ 9223372036854775807
              · rw [if_pos c20] at H
                have c20b0 := eq_true c20
                have c20b1 : decide ((((t114 ++ t115) ++ t116) ++ t117).size + t118.size ≤ 9223372036854775807) = true := decide_eq_true c20
                try have c20b2 : (9223372036854775807 < (((t114 ++ t115) ++ t116) ++ t117).size + t118.size) = False := eq_false (Nat.not_lt.2 c20)
                try simp only [ByteArray.size_append, show (⟨#[48, 48]⟩ : ByteArray).size = 2 from rfl] at c20b0 c20b1 c20b2
                replace H := Option.bind_eq_some_iff.mp H
                obtain ⟨t119, A210, H⟩ := H
                replace H : (if ((((t114 ++ t115) ++ t116) ++ t117) ++ t118).size + t119.size ≤ 9223372036854775807 then (if (((((t114 ++ t115) ++ t116) ++ t117) ++ t118) ++ t119).size + 2 ≤ 9223372036854775807 then ((masterdiscref16_signed.f (wrap64 (Int.tdiv a1 15))).bind fun t120 => ((some (([t120] : List Int) : List Int)).bind fun y121 => (if ((((((t114 ++ t115) ++ t116) ++ t117) ++ t118) ++ t119) ++ (⟨#[48, 48]⟩ : ByteArray)).size + (strOfNums y121).size ≤ 9223372036854775807 then (some (((((((t114 ++ t115) ++ t116) ++ t117) ++ t118) ++ t119) ++ (⟨#[48, 48]⟩ : ByteArray)) ++ (strOfNums y121), 0)) else (none)))) else (none)) else (none)) = some (r1, r2) := H
                have A21 := Aside0.mk A210
                clear A210
                by_cases c22 : ((((t114 ++ t115) ++ t116) ++ t117) ++ t118).size + t119.size ≤ 9223372036854775807
                · rw [if_pos c22] at H
                  have c22b0 := eq_true c22
                  have c22b1 : decide (((((t114 ++ t115) ++ t116) ++ t117) ++ t118).size + t119.size ≤ 9223372036854775807) = true := decide_eq_true c22
                  try have c22b2 : (9223372036854775807 < ((((t114 ++ t115) ++ t116) ++ t117) ++ t118).size + t119.size) = False := eq_false (Nat.not_lt.2 c22)
                  try simp only [ByteArray.size_append, show (⟨#[48, 48]⟩ : ByteArray).size = 2 from rfl] at c22b0 c22b1 c22b2
                  by_cases c23 : (((((t114 ++ t115) ++ t116) ++ t117) ++ t118) ++ t119).size + 2 ≤ 9223372036854775807
                  · rw [if_pos c23] at H
                    have c23b0 := eq_true c23
                    have c23b1 : decide ((((((t114 ++ t115) ++ t116) ++ t117) ++ t118) ++ t119).size + 2 ≤ 9223372036854775807) = true := decide_eq_true c23
                    try have c23b2 : (9223372036854775807 < (((((t114 ++ t115) ++ t116) ++ t117) ++ t118) ++ t119).size + 2) = False := eq_false (Nat.not_lt.2 c23)
                    try simp only [ByteArray.size_append, show (⟨#[48, 48]⟩ : ByteArray).size = 2 from rfl] at c23b0 c23b1 c23b2
                    replace H := Option.bind_eq_some_iff.mp H
                    obtain ⟨t120, A240, H⟩ := H
                    replace H : ((some (([t120] : List Int) : List Int)).bind fun y121 => (if ((((((t114 ++ t115) ++ t116) ++ t117) ++ t118) ++ t119) ++ (⟨#[48, 48]⟩ : ByteArray)).size + (strOfNums y121).size ≤ 9223372036854775807 then (some (((((((t114 ++ t115) ++ t116) ++ t117) ++ t118) ++ t119) ++ (⟨#[48, 48]⟩ : ByteArray)) ++ (strOfNums y121), 0)) else (none))) = some (r1, r2) := H
                    have A24 := Aside0.mk A240
                    clear A240
                    obtain ⟨y121, hy121⟩ : ∃ y_ : List Int, y_ = (([t120] : List Int)) := ⟨_, rfl⟩
                    replace H : (if ((((((t114 ++ t115) ++ t116) ++ t117) ++ t118) ++ t119) ++ (⟨#[48, 48]⟩ : ByteArray)).size + (strOfNums y121).size ≤ 9223372036854775807 then (some (((((((t114 ++ t115) ++ t116) ++ t117) ++ t118) ++ t119) ++ (⟨#[48, 48]⟩ : ByteArray)) ++ (strOfNums y121), 0)) else (none)) = some (r1, r2) := by first | (rw [hy121]; with_reducible exact H) | (have H2_ := (Option.bind_some _ _).symm.trans H; rw [hy121]; with_reducible exact H2_) | (have H2_ := (Option.bind_some _ _).symm.trans H; with_reducible exact H2_) | with_reducible exact H | (rw [hy121]; exact H) | exact H
                    have Ny121 := Aside0.mk hy121
                    clear hy121
                    by_cases c25 : ((((((t114 ++ t115) ++ t116) ++ t117) ++ t118) ++ t119) ++ (⟨#[48, 48]⟩ : ByteArray)).size + (strOfNums y121).size ≤ 9223372036854775807
                    · rw [if_pos c25] at H
                      have c25b0 := eq_true c25
                      have c25b1 : decide (((((((t114 ++ t115) ++ t116) ++ t117) ++ t118) ++ t119) ++ (⟨#[48, 48]⟩ : ByteArray)).size + (strOfNums y121).size ≤ 9223372036854775807) = true := decide_eq_true c25
                      try have c25b2 : (9223372036854775807 < ((((((t114 ++ t115) ++ t116) ++ t117) ++ t118) ++ t119) ++ (⟨#[48, 48]⟩ : ByteArray)).size + (strOfNums y121).size) = False := eq_false (Nat.not_lt.2 c25)
                      try simp only [ByteArray.size_append, show (⟨#[48, 48]⟩ : ByteArray).size = 2 from rfl] at c25b0 c25b1 c25b2
                      simp only [Option.some.injEq, Prod.mk.injEq] at H
                      obtain ⟨rfl, rfl⟩ := H
                      try go_wp2_with (first | ((with_reducible refine gate_callee (f := 13) rfl ?_); refine goesL_ (some 19) rfl rfl Tryd.func13 (by kernel_rfl) rfl #[.int .i64 a0, .int .i64 a1] rfl (by (try simp only [List.map_toArray, List.map_cons, List.map_nil]); first | done | rfl | (simp only [List.length_drop, List.length_take]; rfl)) ?_; (with_reducible refine (masterdiscref16_Split.calls a0 a1 t106 t107 t108 t109 t110 t111 t112 _ A11.out).mono ?_); rintro e w26 ⟨rfl, hb⟩; refine ⟨_, rfl, ?_⟩; have n0_ := Aside0.mk (below_step (by repeat (first | (with_reducible first | exact HB.out | apply below_alloc | apply pw_below_drewN | apply below_drew1) | exact HB.out)) hb); clear HB; have HB := n0_; clear n0_; (try clear hb); (try clear hb2); (try clear hk); (try clear hi)) | ((with_reducible refine gate_dst (N := 6) rfl ?_); refine box_event ?hg (N := 6) ?hd (cs := #[.int .i64 0, .int .i64 0, .int .i64 0, .int .i64 0, .int .i64 0, .int .i64 0]) (t := 23) ?hr ?_; (case hd => rfl); (case hg => rfl); (case hr => first | (go_simp; done) | (go_simp; rfl)); intro gb113 hg w27 hbox hb; have n0_ := Aside0.mk (below_step (by repeat (first | (with_reducible first | exact HB.out | apply below_alloc | apply pw_below_drewN | apply below_drew1) | exact HB.out)) hb); have n1_ := Aside0.mk (hbox); have n2_ := Aside0.mk ((by rw [hg]; exact (below_size (by repeat (first | (with_reducible first | exact HB.out | apply below_alloc | apply pw_below_drewN | apply below_drew1) | exact HB.out))) : w.heap.size ≤ gb113)); have n3_ := Aside0.mk ((by rw [hg]; exact (below_size (by repeat (first | (with_reducible first | exact HB.out | apply below_alloc | apply pw_below_drewN | apply below_drew1) | exact HB.out))) : w.heap.size ≤ gb113)); clear HB; have HB := n0_; have BK113 := n1_; have GW113 := n2_; have GE113 := n3_; clear n0_ n1_ n2_ n3_; clear hb hbox hg; have hcz28_0 : w27.cell? ⟨gb113, 0, none⟩ = some (.int .i64 0) := (blk_cell BK113.out 0).trans rfl; have hcz28_1 : w27.cell? ⟨gb113, 1, none⟩ = some (.int .i64 0) := (blk_cell BK113.out 1).trans rfl; have hcz28_2 : w27.cell? ⟨gb113, 2, none⟩ = some (.int .i64 0) := (blk_cell BK113.out 2).trans rfl; have hcz28_3 : w27.cell? ⟨gb113, 3, none⟩ = some (.int .i64 0) := (blk_cell BK113.out 3).trans rfl; have hcz28_4 : w27.cell? ⟨gb113, 4, none⟩ = some (.int .i64 0) := (blk_cell BK113.out 4).trans rfl; have hcz28_5 : w27.cell? ⟨gb113, 5, none⟩ = some (.int .i64 0) := (blk_cell BK113.out 5).trans rfl; have hfz28_0 := blk_frozen BK113.out 0; have hfz28_1 := blk_frozen BK113.out 1; have hfz28_2 := blk_frozen BK113.out 2; have hfz28_3 := blk_frozen BK113.out 3; have hfz28_4 := blk_frozen BK113.out 4; have hfz28_5 := blk_frozen BK113.out 5))
                      have n0_ : Aside0 (((((((w27.setCell ⟨gb113, 0, none⟩ (.int .i64 t106)).setCell ⟨gb113, 1, none⟩ (.int .i64 t107)).setCell ⟨gb113, 2, none⟩ (.int .i64 t108)).setCell ⟨gb113, 3, none⟩ (.int .i64 t109)).setCell ⟨gb113, 4, none⟩ (.int .i64 t110)).setCell ⟨gb113, 5, none⟩ (.int .i64 t111)).heap[gb113]? = some (.cells #[.int .i64 t106, .int .i64 t107, .int .i64 t108, .int .i64 t109, .int .i64 t110, .int .i64 t111] 23 (0, 0))) := ⟨by (with_reducible repeat (first | refine blk_drewN ?_ _ | refine blk_drew ?_ | refine blk_alloc ?_ _)); refine blk_put (cs := #[.int .i64 t106, .int .i64 t107, .int .i64 t108, .int .i64 t109, .int .i64 t110, .int .i64 0]) ?_ 5 _ rfl; (with_reducible repeat (first | refine blk_drewN ?_ _ | refine blk_drew ?_ | refine blk_alloc ?_ _)); refine blk_put (cs := #[.int .i64 t106, .int .i64 t107, .int .i64 t108, .int .i64 t109, .int .i64 0, .int .i64 0]) ?_ 4 _ rfl; (with_reducible repeat (first | refine blk_drewN ?_ _ | refine blk_drew ?_ | refine blk_alloc ?_ _)); refine blk_put (cs := #[.int .i64 t106, .int .i64 t107, .int .i64 t108, .int .i64 0, .int .i64 0, .int .i64 0]) ?_ 3 _ rfl; (with_reducible repeat (first | refine blk_drewN ?_ _ | refine blk_drew ?_ | refine blk_alloc ?_ _)); refine blk_put (cs := #[.int .i64 t106, .int .i64 t107, .int .i64 0, .int .i64 0, .int .i64 0, .int .i64 0]) ?_ 2 _ rfl; (with_reducible repeat (first | refine blk_drewN ?_ _ | refine blk_drew ?_ | refine blk_alloc ?_ _)); refine blk_put (cs := #[.int .i64 t106, .int .i64 0, .int .i64 0, .int .i64 0, .int .i64 0, .int .i64 0]) ?_ 1 _ rfl; (with_reducible repeat (first | refine blk_drewN ?_ _ | refine blk_drew ?_ | refine blk_alloc ?_ _)); refine blk_put (cs := #[.int .i64 0, .int .i64 0, .int .i64 0, .int .i64 0, .int .i64 0, .int .i64 0]) ?_ 0 _ rfl; (with_reducible repeat (first | refine blk_drewN ?_ _ | refine blk_drew ?_ | refine blk_alloc ?_ _)); exact BK113.out⟩
                      have n1_ : Aside0 (Below w.heap.size w ((((((w27.setCell ⟨gb113, 0, none⟩ (.int .i64 t106)).setCell ⟨gb113, 1, none⟩ (.int .i64 t107)).setCell ⟨gb113, 2, none⟩ (.int .i64 t108)).setCell ⟨gb113, 3, none⟩ (.int .i64 t109)).setCell ⟨gb113, 4, none⟩ (.int .i64 t110)).setCell ⟨gb113, 5, none⟩ (.int .i64 t111))) := ⟨by repeat (first | (with_reducible first | exact HB.out | apply below_alloc | apply pw_below_drewN | apply below_drew1 | refine below_set ?_ GE113.out) | exact HB.out)⟩
                      (try clear BK113)
                      (try clear HB)
                      generalize ((((((w27.setCell ⟨gb113, 0, none⟩ (.int .i64 t106)).setCell ⟨gb113, 1, none⟩ (.int .i64 t107)).setCell ⟨gb113, 2, none⟩ (.int .i64 t108)).setCell ⟨gb113, 3, none⟩ (.int .i64 t109)).setCell ⟨gb113, 4, none⟩ (.int .i64 t110)).setCell ⟨gb113, 5, none⟩ (.int .i64 t111)) = w29 at n0_ n1_ ⊢
                      have BK113 := n0_
                      have HB := n1_
                      clear n0_ n1_
                      have n0_ := Aside0.mk (blk_drew BK113.out)
                      have n1_ := Aside0.mk (below_drew1 HB.out)
                      clear BK113
                      clear HB
                      have BK113 := n0_
                      have HB := n1_
                      clear n0_ n1_
                      refine start_ (n := 32) (S := fun w' => w'.cell? ⟨gb113, 0, none⟩ = some (.int .i64 t106) ∧ w'.cell? ⟨gb113, 1, none⟩ = some (.int .i64 t107) ∧ w'.cell? ⟨gb113, 2, none⟩ = some (.int .i64 t108) ∧ w'.cell? ⟨gb113, 3, none⟩ = some (.int .i64 t109) ∧ w'.cell? ⟨gb113, 4, none⟩ = some (.int .i64 t110) ∧ w'.cell? ⟨gb113, 5, none⟩ = some (.int .i64 t111)) (ds := []) #[false, false, false, false, false, false, false, false, false, false, false, false, false, false, false, false, false, false, false, false, false, false, false, false, false, false, false, false, false, false, false, false] (by kernel_rfl) rfl rfl ⟨(blk_cell BK113.out 0).trans rfl, (blk_cell BK113.out 1).trans rfl, (blk_cell BK113.out 2).trans rfl, (blk_cell BK113.out 3).trans rfl, (blk_cell BK113.out 4).trans rfl, (blk_cell BK113.out 5).trans rfl⟩ (fun hHeld => ?_); refine with_tabW masterdiscref16_Descriptor.tab4 masterdiscref16_Descriptor.bits4 (fun HT_ HW_ => ?_)
                      generalize w29.drew = w30 at BK113 HB hHeld ⊢
                      refine pure_ (i := 0) (N := some 22) (v := ?_) (a' := ?_) #[true, false, false, false, false, false, false, false, false, false, false, false, false, false, false, false, false, false, false, false, false, false, false, false, false, false, false, false, false, false, false, false] rfl rfl (any_of HT_.out (by kernel_rfl)) (fun _ _ _ h => h) (Or.inl ⟨by rfl, ?_⟩) ?_ ?_
                      rotate_left
                      · intro w'
                        go_simp
                        with_reducible rfl
                      rotate_left
                      · simp only [Act.put, List.setIfInBounds_toArray, List.set_cons_zero, List.set_cons_succ, i64_w, i32_w]
                        rfl
                      refine pure_ (i := 3) (N := some 25) (v := ?_) (a' := ?_) #[true, false, false, true, false, false, false, false, false, false, false, false, false, false, false, false, false, false, false, false, false, false, false, false, false, false, false, false, false, false, false, false] rfl rfl (any_of HT_.out (by kernel_rfl)) (fun _ _ _ h => h) (Or.inl ⟨by rfl, ?_⟩) ?_ ?_
                      rotate_left
                      · intro w'
                        go_simp
                        with_reducible rfl
                      rotate_left
                      · simp only [Act.put, List.setIfInBounds_toArray, List.set_cons_zero, List.set_cons_succ, i64_w, i32_w]
                        rfl
                      refine pure_ (i := 7) (N := some 29) (v := ?_) (a' := ?_) #[true, false, false, true, false, false, false, true, false, false, false, false, false, false, false, false, false, false, false, false, false, false, false, false, false, false, false, false, false, false, false, false] rfl rfl (any_of HT_.out (by kernel_rfl)) (fun _ _ _ h => h) (Or.inl ⟨by rfl, ?_⟩) ?_ ?_
                      rotate_left
                      · intro w'
                        go_simp
                        with_reducible rfl
                      rotate_left
                      · simp only [Act.put, List.setIfInBounds_toArray, List.set_cons_zero, List.set_cons_succ, i64_w, i32_w]
                        rfl
                      refine pure_ (i := 11) (N := some 33) (v := ?_) (a' := ?_) #[true, false, false, true, false, false, false, true, false, false, false, true, false, false, false, false, false, false, false, false, false, false, false, false, false, false, false, false, false, false, false, false] rfl rfl (any_of HT_.out (by kernel_rfl)) (fun _ _ _ h => h) (Or.inl ⟨by rfl, ?_⟩) ?_ ?_
                      rotate_left
                      · intro w'
                        go_simp
                        with_reducible rfl
                      rotate_left
                      · simp only [Act.put, List.setIfInBounds_toArray, List.set_cons_zero, List.set_cons_succ, i64_w, i32_w]
                        rfl
                      refine pure_ (i := 15) (N := some 37) (v := ?_) (a' := ?_) #[true, false, false, true, false, false, false, true, false, false, false, true, false, false, false, true, false, false, false, false, false, false, false, false, false, false, false, false, false, false, false, false] rfl rfl (any_of HT_.out (by kernel_rfl)) (fun _ _ _ h => h) (Or.inl ⟨by rfl, ?_⟩) ?_ ?_
                      rotate_left
                      · intro w'
                        go_simp
                        with_reducible rfl
                      rotate_left
                      · simp only [Act.put, List.setIfInBounds_toArray, List.set_cons_zero, List.set_cons_succ, i64_w, i32_w]
                        rfl
                      refine pure_ (i := 19) (N := some 41) (v := ?_) (a' := ?_) #[true, false, false, true, false, false, false, true, false, false, false, true, false, false, false, true, false, false, false, true, false, false, false, false, false, false, false, false, false, false, false, false] rfl rfl (any_of HT_.out (by kernel_rfl)) (fun _ _ _ h => h) (Or.inl ⟨by rfl, ?_⟩) ?_ ?_
                      rotate_left
                      · intro w'
                        go_simp
                        with_reducible rfl
                      rotate_left
                      · simp only [Act.put, List.setIfInBounds_toArray, List.set_cons_zero, List.set_cons_succ, i64_w, i32_w]
                        rfl
                      refine pure_ (i := 24) (N := some 46) (v := ?_) (a' := ?_) #[true, false, false, true, false, false, false, true, false, false, false, true, false, false, false, true, false, false, false, true, false, false, false, false, true, false, false, false, false, false, false, false] rfl rfl (any_of HT_.out (by kernel_rfl)) (fun _ _ _ h => h) (Or.inl ⟨by rfl, ?_⟩) ?_ ?_
                      rotate_left
                      · intro w'
                        go_simp
                        with_reducible rfl
                      rotate_left
                      · simp only [Act.put, List.setIfInBounds_toArray, List.set_cons_zero, List.set_cons_succ, i64_w, i32_w]
                        rfl
                      refine pure_ (i := 25) (N := some 47) (v := ?_) (a' := ?_) #[true, false, false, true, false, false, false, true, false, false, false, true, false, false, false, true, false, false, false, true, false, false, false, false, true, true, false, false, false, false, false, false] rfl rfl (any_of HT_.out (by kernel_rfl)) (fun _ _ _ h => h) (Or.inl ⟨by rfl, ?_⟩) ?_ ?_
                      rotate_left
                      · intro w'
                        go_simp
                        with_reducible rfl
                      rotate_left
                      · simp only [Act.put, List.setIfInBounds_toArray, List.set_cons_zero, List.set_cons_succ, i64_w, i32_w]
                        rfl
                      refine take_ (i := 1) (N := some 23) (v := ?_) (a' := ?_) #[true, true, false, true, false, false, false, true, false, false, false, true, false, false, false, true, false, false, false, true, false, false, false, false, true, true, false, false, false, false, false, false] rfl rfl (take_ofW HT_.out HW_.out (by kernel_rfl)) (fun _ _ _ h => h) (Or.inl ⟨by rfl, ?_⟩) hHeld ?_ ?_
                      rotate_left
                      · rintro w' ⟨s0, s1, s2, s3, s4, s5⟩
                        go_simp
                        with_reducible rfl
                      rotate_left
                      · simp only [Act.put, List.setIfInBounds_toArray, List.set_cons_zero, List.set_cons_succ, i64_w, i32_w]
                        rfl
                      refine take_ (i := 4) (N := some 26) (v := ?_) (a' := ?_) #[true, true, false, true, true, false, false, true, false, false, false, true, false, false, false, true, false, false, false, true, false, false, false, false, true, true, false, false, false, false, false, false] rfl rfl (take_ofW HT_.out HW_.out (by kernel_rfl)) (fun _ _ _ h => h) (Or.inl ⟨by rfl, ?_⟩) hHeld ?_ ?_
                      rotate_left
                      · rintro w' ⟨s0, s1, s2, s3, s4, s5⟩
                        go_simp
                        with_reducible rfl
                      rotate_left
                      · simp only [Act.put, List.setIfInBounds_toArray, List.set_cons_zero, List.set_cons_succ, i64_w, i32_w]
                        rfl
                      refine take_ (i := 8) (N := some 30) (v := ?_) (a' := ?_) #[true, true, false, true, true, false, false, true, true, false, false, true, false, false, false, true, false, false, false, true, false, false, false, false, true, true, false, false, false, false, false, false] rfl rfl (take_ofW HT_.out HW_.out (by kernel_rfl)) (fun _ _ _ h => h) (Or.inl ⟨by rfl, ?_⟩) hHeld ?_ ?_
                      rotate_left
                      · rintro w' ⟨s0, s1, s2, s3, s4, s5⟩
                        go_simp
                        with_reducible rfl
                      rotate_left
                      · simp only [Act.put, List.setIfInBounds_toArray, List.set_cons_zero, List.set_cons_succ, i64_w, i32_w]
                        rfl
                      refine take_ (i := 12) (N := some 34) (v := ?_) (a' := ?_) #[true, true, false, true, true, false, false, true, true, false, false, true, true, false, false, true, false, false, false, true, false, false, false, false, true, true, false, false, false, false, false, false] rfl rfl (take_ofW HT_.out HW_.out (by kernel_rfl)) (fun _ _ _ h => h) (Or.inl ⟨by rfl, ?_⟩) hHeld ?_ ?_
                      rotate_left
                      · rintro w' ⟨s0, s1, s2, s3, s4, s5⟩
                        go_simp
                        with_reducible rfl
                      rotate_left
                      · simp only [Act.put, List.setIfInBounds_toArray, List.set_cons_zero, List.set_cons_succ, i64_w, i32_w]
                        rfl
                      refine take_ (i := 16) (N := some 38) (v := ?_) (a' := ?_) #[true, true, false, true, true, false, false, true, true, false, false, true, true, false, false, true, true, false, false, true, false, false, false, false, true, true, false, false, false, false, false, false] rfl rfl (take_ofW HT_.out HW_.out (by kernel_rfl)) (fun _ _ _ h => h) (Or.inl ⟨by rfl, ?_⟩) hHeld ?_ ?_
                      rotate_left
                      · rintro w' ⟨s0, s1, s2, s3, s4, s5⟩
                        go_simp
                        with_reducible rfl
                      rotate_left
                      · simp only [Act.put, List.setIfInBounds_toArray, List.set_cons_zero, List.set_cons_succ, i64_w, i32_w]
                        rfl
                      refine take_ (i := 20) (N := some 42) (v := ?_) (a' := ?_) #[true, true, false, true, true, false, false, true, true, false, false, true, true, false, false, true, true, false, false, true, true, false, false, false, true, true, false, false, false, false, false, false] rfl rfl (take_ofW HT_.out HW_.out (by kernel_rfl)) (fun _ _ _ h => h) (Or.inl ⟨by rfl, ?_⟩) hHeld ?_ ?_
                      rotate_left
                      · rintro w' ⟨s0, s1, s2, s3, s4, s5⟩
                        go_simp
                        with_reducible rfl
                      rotate_left
                      · simp only [Act.put, List.setIfInBounds_toArray, List.set_cons_zero, List.set_cons_succ, i64_w, i32_w]
                        rfl
                      refine one_ (i := 2) (N := some 24) #[true, true, true, true, true, false, false, true, true, false, false, true, true, false, false, true, true, false, false, true, true, false, false, false, true, true, false, false, false, false, false, false] rfl rfl (one_of HT_.out (by kernel_rfl)) (by decide) (fun K hK => ?_)
                      refine goes_ Tryd.func49 (by kernel_rfl) rfl #[.int .i64 t106, .int .i64 4] (by rfl) rfl rfl (by (try simp only [List.map_toArray, List.map_cons, List.map_nil]); first | done | rfl | (simp only [List.length_drop, List.length_take]; rfl)) ?_
                      with_reducible refine (masterdiscref16_digits.calls kj2 t106 4 t114 _ A12.out).mono ?_
                      rintro e w31 ⟨rfl, hb⟩
                      refine ⟨_, rfl, ?_⟩
                      have n0_ := Aside0.mk (blk_below (g := gb113) (o := .cells #[.int .i64 t106, .int .i64 t107, .int .i64 t108, .int .i64 t109, .int .i64 t110, .int .i64 t111] 23 (0, 0)) (by (with_reducible repeat (first | refine blk_drewN ?_ _ | refine blk_drew ?_ | refine blk_alloc ?_ _)); exact BK113.out) hb)
                      have n1_ := Aside0.mk (below_step (by repeat (first | (with_reducible first | exact HB.out | apply below_alloc | apply pw_below_drewN | apply below_drew1 | refine below_set ?_ GE113.out) | exact HB.out)) hb)
                      clear BK113
                      clear HB
                      have BK113 := n0_
                      have HB := n1_
                      clear n0_ n1_
                      (try clear hb)
                      (try clear hb2)
                      (try clear hk)
                      (try clear hi)
                      refine hK.out _ _ ⟨(blk_cell BK113.out 0).trans rfl, (blk_cell BK113.out 1).trans rfl, (blk_cell BK113.out 2).trans rfl, (blk_cell BK113.out 3).trans rfl, (blk_cell BK113.out 4).trans rfl, (blk_cell BK113.out 5).trans rfl⟩ (fun hHeld => ?_)
                      clear hK K
                      refine norm_ (a' := ?_) ?_ ?_
                      rotate_left
                      · show Act.put _ (some 24) _ = _
                        simp only [Act.put, List.setIfInBounds_toArray, List.set_cons_zero, List.set_cons_succ, i64_w, i32_w]
                        rfl
                      refine one_ (i := 5) (N := some 27) #[true, true, true, true, true, true, false, true, true, false, false, true, true, false, false, true, true, false, false, true, true, false, false, false, true, true, false, false, false, false, false, false] rfl rfl (one_of HT_.out (by kernel_rfl)) (by decide) (fun K hK => ?_)
                      refine goes_ Tryd.func49 (by kernel_rfl) rfl #[.int .i64 t107, .int .i64 2] (by rfl) rfl rfl (by (try simp only [List.map_toArray, List.map_cons, List.map_nil]); first | done | rfl | (simp only [List.length_drop, List.length_take]; rfl)) ?_
                      with_reducible refine (masterdiscref16_digits.calls kj2 t107 2 t115 _ A13.out).mono ?_
                      rintro e w32 ⟨rfl, hb⟩
                      refine ⟨_, rfl, ?_⟩
                      have n0_ := Aside0.mk (blk_below (g := gb113) (o := .cells #[.int .i64 t106, .int .i64 t107, .int .i64 t108, .int .i64 t109, .int .i64 t110, .int .i64 t111] 23 (0, 0)) (by (with_reducible repeat (first | refine blk_drewN ?_ _ | refine blk_drew ?_ | refine blk_alloc ?_ _)); exact BK113.out) hb)
                      have n1_ := Aside0.mk (below_step (by repeat (first | (with_reducible first | exact HB.out | apply below_alloc | apply pw_below_drewN | apply below_drew1 | refine below_set ?_ GE113.out) | exact HB.out)) hb)
                      clear BK113
                      clear HB
                      have BK113 := n0_
                      have HB := n1_
                      clear n0_ n1_
                      (try clear hb)
                      (try clear hb2)
                      (try clear hk)
                      (try clear hi)
                      refine hK.out _ _ ⟨(blk_cell BK113.out 0).trans rfl, (blk_cell BK113.out 1).trans rfl, (blk_cell BK113.out 2).trans rfl, (blk_cell BK113.out 3).trans rfl, (blk_cell BK113.out 4).trans rfl, (blk_cell BK113.out 5).trans rfl⟩ (fun hHeld => ?_)
                      clear hK K
                      refine norm_ (a' := ?_) ?_ ?_
                      rotate_left
                      · show Act.put _ (some 27) _ = _
                        simp only [Act.put, List.setIfInBounds_toArray, List.set_cons_zero, List.set_cons_succ, i64_w, i32_w]
                        rfl
                      refine pure_ (i := 6) (N := some 28) (v := ?_) (a' := ?_) #[true, true, true, true, true, true, true, true, true, false, false, true, true, false, false, true, true, false, false, true, true, false, false, false, true, true, false, false, false, false, false, false] rfl rfl (any_of HT_.out (by kernel_rfl)) (fun _ _ _ h => h) (Or.inl ⟨by rfl, ?_⟩) ?_ ?_
                      rotate_left
                      · intro w'
                        go_simp
                        with_reducible rfl
                      rotate_left
                      · simp only [Act.put, List.setIfInBounds_toArray, List.set_cons_zero, List.set_cons_succ, i64_w, i32_w]
                        rfl
                      refine one_ (i := 9) (N := some 31) #[true, true, true, true, true, true, true, true, true, true, false, true, true, false, false, true, true, false, false, true, true, false, false, false, true, true, false, false, false, false, false, false] rfl rfl (one_of HT_.out (by kernel_rfl)) (by decide) (fun K hK => ?_)
                      refine goes_ Tryd.func49 (by kernel_rfl) rfl #[.int .i64 t108, .int .i64 2] (by rfl) rfl rfl (by (try simp only [List.map_toArray, List.map_cons, List.map_nil]); first | done | rfl | (simp only [List.length_drop, List.length_take]; rfl)) ?_
                      with_reducible refine (masterdiscref16_digits.calls kj2 t108 2 t116 _ A15.out).mono ?_
                      rintro e w33 ⟨rfl, hb⟩
                      refine ⟨_, rfl, ?_⟩
                      have n0_ := Aside0.mk (blk_below (g := gb113) (o := .cells #[.int .i64 t106, .int .i64 t107, .int .i64 t108, .int .i64 t109, .int .i64 t110, .int .i64 t111] 23 (0, 0)) (by (with_reducible repeat (first | refine blk_drewN ?_ _ | refine blk_drew ?_ | refine blk_alloc ?_ _)); exact BK113.out) hb)
                      have n1_ := Aside0.mk (below_step (by repeat (first | (with_reducible first | exact HB.out | apply below_alloc | apply pw_below_drewN | apply below_drew1 | refine below_set ?_ GE113.out) | exact HB.out)) hb)
                      clear BK113
                      clear HB
                      have BK113 := n0_
                      have HB := n1_
                      clear n0_ n1_
                      (try clear hb)
                      (try clear hb2)
                      (try clear hk)
                      (try clear hi)
                      refine hK.out _ _ ⟨(blk_cell BK113.out 0).trans rfl, (blk_cell BK113.out 1).trans rfl, (blk_cell BK113.out 2).trans rfl, (blk_cell BK113.out 3).trans rfl, (blk_cell BK113.out 4).trans rfl, (blk_cell BK113.out 5).trans rfl⟩ (fun hHeld => ?_)
                      clear hK K
                      refine norm_ (a' := ?_) ?_ ?_
                      rotate_left
                      · show Act.put _ (some 31) _ = _
                        simp only [Act.put, List.setIfInBounds_toArray, List.set_cons_zero, List.set_cons_succ, i64_w, i32_w]
                        rfl
                      refine pure_ (i := 10) (N := some 32) (v := ?_) (a' := ?_) #[true, true, true, true, true, true, true, true, true, true, true, true, true, false, false, true, true, false, false, true, true, false, false, false, true, true, false, false, false, false, false, false] rfl rfl (any_of HT_.out (by kernel_rfl)) (fun _ _ _ h => h) (Or.inl ⟨by rfl, ?_⟩) ?_ ?_
                      rotate_left
                      · intro w'
                        go_simp
                        with_reducible rfl
                      rotate_left
                      · simp only [Act.put, List.setIfInBounds_toArray, List.set_cons_zero, List.set_cons_succ, i64_w, i32_w]
                        rfl
                      refine one_ (i := 13) (N := some 35) #[true, true, true, true, true, true, true, true, true, true, true, true, true, true, false, true, true, false, false, true, true, false, false, false, true, true, false, false, false, false, false, false] rfl rfl (one_of HT_.out (by kernel_rfl)) (by decide) (fun K hK => ?_)
                      refine goes_ Tryd.func49 (by kernel_rfl) rfl #[.int .i64 t109, .int .i64 2] (by rfl) rfl rfl (by (try simp only [List.map_toArray, List.map_cons, List.map_nil]); first | done | rfl | (simp only [List.length_drop, List.length_take]; rfl)) ?_
                      with_reducible refine (masterdiscref16_digits.calls kj2 t109 2 t117 _ A17.out).mono ?_
                      rintro e w34 ⟨rfl, hb⟩
                      refine ⟨_, rfl, ?_⟩
                      have n0_ := Aside0.mk (blk_below (g := gb113) (o := .cells #[.int .i64 t106, .int .i64 t107, .int .i64 t108, .int .i64 t109, .int .i64 t110, .int .i64 t111] 23 (0, 0)) (by (with_reducible repeat (first | refine blk_drewN ?_ _ | refine blk_drew ?_ | refine blk_alloc ?_ _)); exact BK113.out) hb)
                      have n1_ := Aside0.mk (below_step (by repeat (first | (with_reducible first | exact HB.out | apply below_alloc | apply pw_below_drewN | apply below_drew1 | refine below_set ?_ GE113.out) | exact HB.out)) hb)
                      clear BK113
                      clear HB
                      have BK113 := n0_
                      have HB := n1_
                      clear n0_ n1_
                      (try clear hb)
                      (try clear hb2)
                      (try clear hk)
                      (try clear hi)
                      refine hK.out _ _ ⟨(blk_cell BK113.out 0).trans rfl, (blk_cell BK113.out 1).trans rfl, (blk_cell BK113.out 2).trans rfl, (blk_cell BK113.out 3).trans rfl, (blk_cell BK113.out 4).trans rfl, (blk_cell BK113.out 5).trans rfl⟩ (fun hHeld => ?_)
                      clear hK K
                      refine norm_ (a' := ?_) ?_ ?_
                      rotate_left
                      · show Act.put _ (some 35) _ = _
                        simp only [Act.put, List.setIfInBounds_toArray, List.set_cons_zero, List.set_cons_succ, i64_w, i32_w]
                        rfl
                      refine pure_ (i := 14) (N := some 36) (v := ?_) (a' := ?_) #[true, true, true, true, true, true, true, true, true, true, true, true, true, true, true, true, true, false, false, true, true, false, false, false, true, true, false, false, false, false, false, false] rfl rfl (any_of HT_.out (by kernel_rfl)) (fun _ _ _ h => h) (Or.inl ⟨by rfl, ?_⟩) ?_ ?_
                      rotate_left
                      · intro w'
                        go_simp
                        with_reducible rfl
                      rotate_left
                      · simp only [Act.put, List.setIfInBounds_toArray, List.set_cons_zero, List.set_cons_succ, i64_w, i32_w]
                        rfl
                      refine one_ (i := 17) (N := some 39) #[true, true, true, true, true, true, true, true, true, true, true, true, true, true, true, true, true, true, false, true, true, false, false, false, true, true, false, false, false, false, false, false] rfl rfl (one_of HT_.out (by kernel_rfl)) (by decide) (fun K hK => ?_)
                      refine goes_ Tryd.func49 (by kernel_rfl) rfl #[.int .i64 t110, .int .i64 2] (by rfl) rfl rfl (by (try simp only [List.map_toArray, List.map_cons, List.map_nil]); first | done | rfl | (simp only [List.length_drop, List.length_take]; rfl)) ?_
                      with_reducible refine (masterdiscref16_digits.calls kj2 t110 2 t118 _ A19.out).mono ?_
                      rintro e w35 ⟨rfl, hb⟩
                      refine ⟨_, rfl, ?_⟩
                      have n0_ := Aside0.mk (blk_below (g := gb113) (o := .cells #[.int .i64 t106, .int .i64 t107, .int .i64 t108, .int .i64 t109, .int .i64 t110, .int .i64 t111] 23 (0, 0)) (by (with_reducible repeat (first | refine blk_drewN ?_ _ | refine blk_drew ?_ | refine blk_alloc ?_ _)); exact BK113.out) hb)
                      have n1_ := Aside0.mk (below_step (by repeat (first | (with_reducible first | exact HB.out | apply below_alloc | apply pw_below_drewN | apply below_drew1 | refine below_set ?_ GE113.out) | exact HB.out)) hb)
                      clear BK113
                      clear HB
                      have BK113 := n0_
                      have HB := n1_
                      clear n0_ n1_
                      (try clear hb)
                      (try clear hb2)
                      (try clear hk)
                      (try clear hi)
                      refine hK.out _ _ ⟨(blk_cell BK113.out 0).trans rfl, (blk_cell BK113.out 1).trans rfl, (blk_cell BK113.out 2).trans rfl, (blk_cell BK113.out 3).trans rfl, (blk_cell BK113.out 4).trans rfl, (blk_cell BK113.out 5).trans rfl⟩ (fun hHeld => ?_)
                      clear hK K
                      refine norm_ (a' := ?_) ?_ ?_
                      rotate_left
                      · show Act.put _ (some 39) _ = _
                        simp only [Act.put, List.setIfInBounds_toArray, List.set_cons_zero, List.set_cons_succ, i64_w, i32_w]
                        rfl
                      refine pure_ (i := 18) (N := some 40) (v := ?_) (a' := ?_) #[true, true, true, true, true, true, true, true, true, true, true, true, true, true, true, true, true, true, true, true, true, false, false, false, true, true, false, false, false, false, false, false] rfl rfl (any_of HT_.out (by kernel_rfl)) (fun _ _ _ h => h) (Or.inl ⟨by rfl, ?_⟩) ?_ ?_
                      rotate_left
                      · intro w'
                        go_simp
                        with_reducible rfl
                      rotate_left
                      · simp only [Act.put, List.setIfInBounds_toArray, List.set_cons_zero, List.set_cons_succ, i64_w, i32_w]
                        rfl
                      refine one_ (i := 21) (N := some 43) #[true, true, true, true, true, true, true, true, true, true, true, true, true, true, true, true, true, true, true, true, true, true, false, false, true, true, false, false, false, false, false, false] rfl rfl (one_of HT_.out (by kernel_rfl)) (by decide) (fun K hK => ?_)
                      refine goes_ Tryd.func49 (by kernel_rfl) rfl #[.int .i64 t111, .int .i64 2] (by rfl) rfl rfl (by (try simp only [List.map_toArray, List.map_cons, List.map_nil]); first | done | rfl | (simp only [List.length_drop, List.length_take]; rfl)) ?_
                      with_reducible refine (masterdiscref16_digits.calls kj2 t111 2 t119 _ A21.out).mono ?_
                      rintro e w36 ⟨rfl, hb⟩
                      refine ⟨_, rfl, ?_⟩
                      have n0_ := Aside0.mk (blk_below (g := gb113) (o := .cells #[.int .i64 t106, .int .i64 t107, .int .i64 t108, .int .i64 t109, .int .i64 t110, .int .i64 t111] 23 (0, 0)) (by (with_reducible repeat (first | refine blk_drewN ?_ _ | refine blk_drew ?_ | refine blk_alloc ?_ _)); exact BK113.out) hb)
                      have n1_ := Aside0.mk (below_step (by repeat (first | (with_reducible first | exact HB.out | apply below_alloc | apply pw_below_drewN | apply below_drew1 | refine below_set ?_ GE113.out) | exact HB.out)) hb)
                      clear BK113
                      clear HB
                      have BK113 := n0_
                      have HB := n1_
                      clear n0_ n1_
                      (try clear hb)
                      (try clear hb2)
                      (try clear hk)
                      (try clear hi)
                      refine hK.out _ _ ⟨(blk_cell BK113.out 0).trans rfl, (blk_cell BK113.out 1).trans rfl, (blk_cell BK113.out 2).trans rfl, (blk_cell BK113.out 3).trans rfl, (blk_cell BK113.out 4).trans rfl, (blk_cell BK113.out 5).trans rfl⟩ (fun hHeld => ?_)
                      clear hK K
                      refine norm_ (a' := ?_) ?_ ?_
                      rotate_left
                      · show Act.put _ (some 43) _ = _
                        simp only [Act.put, List.setIfInBounds_toArray, List.set_cons_zero, List.set_cons_succ, i64_w, i32_w]
                        rfl
                      refine pure_ (i := 22) (N := some 44) (v := ?_) (a' := ?_) #[true, true, true, true, true, true, true, true, true, true, true, true, true, true, true, true, true, true, true, true, true, true, true, false, true, true, false, false, false, false, false, false] rfl rfl (any_of HT_.out (by kernel_rfl)) (fun _ _ _ h => h) (Or.inl ⟨by rfl, ?_⟩) ?_ ?_
                      rotate_left
                      · intro w'
                        go_simp
                        with_reducible rfl
                      rotate_left
                      · simp only [Act.put, List.setIfInBounds_toArray, List.set_cons_zero, List.set_cons_succ, i64_w, i32_w]
                        rfl
                      refine pure_ (i := 23) (N := some 45) (v := ?_) (a' := ?_) #[true, true, true, true, true, true, true, true, true, true, true, true, true, true, true, true, true, true, true, true, true, true, true, true, true, true, false, false, false, false, false, false] rfl rfl (any_of HT_.out (by kernel_rfl)) (fun _ _ _ h => h) (Or.inl ⟨by rfl, ?_⟩) ?_ ?_
                      rotate_left
                      · intro w'
                        go_simp
                        with_reducible rfl
                      rotate_left
                      · simp only [Act.put, List.setIfInBounds_toArray, List.set_cons_zero, List.set_cons_succ, i64_w, i32_w]
                        rfl
                      refine one_ (i := 26) (N := some 48) #[true, true, true, true, true, true, true, true, true, true, true, true, true, true, true, true, true, true, true, true, true, true, true, true, true, true, true, false, false, false, false, false] rfl rfl (one_of HT_.out (by kernel_rfl)) (by decide) (fun K hK => ?_)
                      refine goes_ Tryd.func43 (by kernel_rfl) rfl #[.int .i64 (wrap64 (Int.tdiv a1 15))] (by rfl) rfl rfl (by (try simp only [List.map_toArray, List.map_cons, List.map_nil]); first | done | rfl | (simp only [List.length_drop, List.length_take]; rfl)) ?_
                      with_reducible refine (masterdiscref16_signed.calls (wrap64 (Int.tdiv a1 15)) t120 _ A24.out).mono ?_
                      rintro e w37 ⟨rfl, hb⟩
                      refine ⟨_, rfl, ?_⟩
                      have n0_ := Aside0.mk (blk_below (g := gb113) (o := .cells #[.int .i64 t106, .int .i64 t107, .int .i64 t108, .int .i64 t109, .int .i64 t110, .int .i64 t111] 23 (0, 0)) (by (with_reducible repeat (first | refine blk_drewN ?_ _ | refine blk_drew ?_ | refine blk_alloc ?_ _)); exact BK113.out) hb)
                      have n1_ := Aside0.mk (below_step (by repeat (first | (with_reducible first | exact HB.out | apply below_alloc | apply pw_below_drewN | apply below_drew1 | refine below_set ?_ GE113.out) | exact HB.out)) hb)
                      clear BK113
                      clear HB
                      have BK113 := n0_
                      have HB := n1_
                      clear n0_ n1_
                      (try clear hb)
                      (try clear hb2)
                      (try clear hk)
                      (try clear hi)
                      refine hK.out _ _ ⟨(blk_cell BK113.out 0).trans rfl, (blk_cell BK113.out 1).trans rfl, (blk_cell BK113.out 2).trans rfl, (blk_cell BK113.out 3).trans rfl, (blk_cell BK113.out 4).trans rfl, (blk_cell BK113.out 5).trans rfl⟩ (fun hHeld => ?_)
                      clear hK K
                      refine norm_ (a' := ?_) ?_ ?_
                      rotate_left
                      · show Act.put _ (some 48) _ = _
                        simp only [Act.put, List.setIfInBounds_toArray, List.set_cons_zero, List.set_cons_succ, i64_w, i32_w]
                        rfl
                      refine one_ (i := 27) (N := some 49) #[true, true, true, true, true, true, true, true, true, true, true, true, true, true, true, true, true, true, true, true, true, true, true, true, true, true, true, true, false, false, false, false] rfl rfl (one_of HT_.out (by kernel_rfl)) (by decide) (fun K hK => ?_)
                      refine Kd.R_lit_step (Kd.int .u8) _ 5 ?hg (N := 49) ?hd (xs := ([t120] : List Int)) (inner := [.int .u8 t120]) (ok := fun _ => True) (okp := fun _ => True) ?hr ?hp (fun _ hk => hk) trivial (Below.refl _ _) (Nat.le_refl _) (by simp) ?_; (case hd => rfl); (case hg => rfl); (case hr => first | (go_simp; done) | (go_simp; rfl)); (case hp => exact (Reps.one (show Kd.M (Kd.int .u8) _ _ _ t120 [.int .u8 t120] from rfl) (Reps.none _ _)))
                      intro v122 w38 ho39 hb hg_ hnew_
                      clear hg_ hnew_
                      (first | rw [← Ny121.out] at ho39 | (simp only [Int.reduceToNat] at ho39; rw [← Ny121.out] at ho39))
                      have n0_ := Aside0.mk (Kd.R_lower ho39 (below_size (by repeat (first | (with_reducible first | exact HB.out | apply below_alloc | apply pw_below_drewN | apply below_drew1 | refine below_set ?_ GE113.out) | exact HB.out))))
                      have n1_ := Aside0.mk (blk_below (g := gb113) (o := .cells #[.int .i64 t106, .int .i64 t107, .int .i64 t108, .int .i64 t109, .int .i64 t110, .int .i64 t111] 23 (0, 0)) (by (with_reducible repeat (first | refine blk_drewN ?_ _ | refine blk_drew ?_ | refine blk_alloc ?_ _)); exact BK113.out) hb)
                      have n2_ := Aside0.mk (below_step (by repeat (first | (with_reducible first | exact HB.out | apply below_alloc | apply pw_below_drewN | apply below_drew1 | refine below_set ?_ GE113.out) | exact HB.out)) hb)
                      clear BK113
                      clear HB
                      have HO123 := n0_
                      have BK113 := n1_
                      have HB := n2_
                      clear n0_ n1_ n2_
                      clear hb ho39
                      refine hK.out _ _ ⟨(blk_cell BK113.out 0).trans rfl, (blk_cell BK113.out 1).trans rfl, (blk_cell BK113.out 2).trans rfl, (blk_cell BK113.out 3).trans rfl, (blk_cell BK113.out 4).trans rfl, (blk_cell BK113.out 5).trans rfl⟩ (fun hHeld => ?_)
                      clear hK K
                      refine norm_ (a' := ?_) ?_ ?_
                      rotate_left
                      · show Act.put _ (some 49) _ = _
                        simp only [Act.put, List.setIfInBounds_toArray, List.set_cons_zero, List.set_cons_succ, i64_w, i32_w]
                        rfl
                      refine one_ (i := 28) (N := some 50) #[true, true, true, true, true, true, true, true, true, true, true, true, true, true, true, true, true, true, true, true, true, true, true, true, true, true, true, true, true, false, false, false] rfl rfl (one_of HT_.out (by kernel_rfl)) (by decide) (fun K hK => ?_)
                      have hcv40 := own_string (P := Tryd.prog) Tryd.underlying47 Tryd.underlying5 Tryd.underlying9 (Kd.own_of_R HO123.out)
                      refine value_ (w1 := ?_) (v := ?_) (by rfl) rfl ?_ ?_
                      rotate_left 2
                      · go_simp
                        constructor
                        · rfl
                        · rfl
                      clear hcv40
                      refine hK.out _ _ ⟨(blk_cell BK113.out 0).trans rfl, (blk_cell BK113.out 1).trans rfl, (blk_cell BK113.out 2).trans rfl, (blk_cell BK113.out 3).trans rfl, (blk_cell BK113.out 4).trans rfl, (blk_cell BK113.out 5).trans rfl⟩ (fun hHeld => ?_)
                      clear hK K
                      refine norm_ (a' := ?_) ?_ ?_
                      rotate_left
                      · show Act.put _ (some 50) _ = _
                        simp only [Act.put, List.setIfInBounds_toArray, List.set_cons_zero, List.set_cons_succ, i64_w, i32_w]
                        rfl
                      refine pure_ (i := 29) (N := some 51) (v := ?_) (a' := ?_) #[true, true, true, true, true, true, true, true, true, true, true, true, true, true, true, true, true, true, true, true, true, true, true, true, true, true, true, true, true, true, false, false] rfl rfl (any_of HT_.out (by kernel_rfl)) (fun _ _ _ h => h) (Or.inl ⟨by rfl, ?_⟩) ?_ ?_
                      rotate_left
                      · intro w'
                        go_simp
                        with_reducible rfl
                      rotate_left
                      · simp only [Act.put, List.setIfInBounds_toArray, List.set_cons_zero, List.set_cons_succ, i64_w, i32_w]
                        rfl
                      refine pure_ (i := 30) (N := some 4) (v := ?_) (a' := ?_) #[true, true, true, true, true, true, true, true, true, true, true, true, true, true, true, true, true, true, true, true, true, true, true, true, true, true, true, true, true, true, true, false] rfl rfl (any_of HT_.out (by kernel_rfl)) (fun _ _ _ h => h) (Or.inl ⟨by rfl, ?_⟩) ?_ ?_
                      rotate_left
                      · intro w'
                        go_simp
                        with_reducible rfl
                      rotate_left
                      · simp only [Act.put, List.setIfInBounds_toArray, List.set_cons_zero, List.set_cons_succ, i64_w, i32_w]
                        rfl
                      refine pure_ (i := 31) (N := some 5) (v := ?_) (a' := ?_) #[true, true, true, true, true, true, true, true, true, true, true, true, true, true, true, true, true, true, true, true, true, true, true, true, true, true, true, true, true, true, true, true] rfl rfl (any_of HT_.out (by kernel_rfl)) (fun _ _ _ h => h) (Or.inl ⟨by rfl, ?_⟩) ?_ ?_
                      rotate_left
                      · intro w'
                        go_simp
                        with_reducible rfl
                      rotate_left
                      · simp only [Act.put, List.setIfInBounds_toArray, List.set_cons_zero, List.set_cons_succ, i64_w, i32_w]
                        rfl
                      refine done_ (done_of HT_.out (by kernel_rfl)) ?_
                      try go_wp2
                      go_ret2
                      exact ⟨by first | rfl | (simp [errW_none, errW_some] <;> rfl) | (simp [*, errW_none, errW_some] <;> rfl), by repeat (first | (with_reducible first | exact HB.out | apply below_alloc | apply pw_below_drewN | apply below_drew1 | refine below_set ?_ GE113.out) | exact HB.out)⟩
                    · rw [if_neg c25] at H
                      exact absurd H (by simp)
                  · rw [if_neg c23] at H
                    exact absurd H (by simp)
                · rw [if_neg c22] at H
                  exact absurd H (by simp)
              · rw [if_neg c20] at H
                exact absurd H (by simp)
            · rw [if_neg c18] at H
              exact absurd H (by simp)
          · rw [if_neg c16] at H
            exact absurd H (by simp)
        · rw [if_neg c14] at H
          exact absurd H (by simp)

-- function 29 (datetime_ReadDescriptor): walked by hand

-- function 40 (masterdiscref16_Valid): walked by hand

-- function 46 (masterdiscref16_zone): walked by hand

-- function 47 (masterdiscref16_finish): walked by hand

/-! ### masterdiscref16_Unspecified: function 52 -/
def masterdiscref16_Unspecified.f  : Option (ByteArray) := some (⟨#[48, 48, 48, 48, 48, 48, 48, 48, 48, 48, 48, 48, 48, 48, 48, 48, 0]⟩ : ByteArray)
set_option maxHeartbeats 8000000 in
set_option maxRecDepth 100000 in
theorem masterdiscref16_Unspecified.calls  (r : ByteArray) (w : World) (h : masterdiscref16_Unspecified.f  = some r) :
    Calls Tryd.prog 52 #[] w fun e w' => e = .returned (.string r) ∧ Drawn0 w w' := by
  have H : (some (⟨#[48, 48, 48, 48, 48, 48, 48, 48, 48, 48, 48, 48, 48, 48, 48, 48, 0]⟩ : ByteArray)) = some r := h
  clear h
  obtain rfl := Option.some.inj H
  go_enter Tryd.func52, Tryd.ntmps52
  go_wp2
  go_ret
  exact ⟨by first | rfl | (simp; done) | (simp [*]; done), by repeat (first | exact Drawn0.refl _ | apply Drawn0.step)⟩

/-! ### masterdiscref16_number: function 53 -/
def masterdiscref16_number.l0 : Nat → ByteArray → Int → Int → Option (Int)
  | 0, _, _, _ => none
  | k + 1, x0, x3, x4 => if x4 < (x0.size : Int) then (if 0 ≤ x4 then (masterdiscref16_number.l0 k x0 (wrap64 ((wrap64 (x3 * 10)) + (((bt x0 x4) - 48) % 256))) (wrap64 (x4 + 1))) else (none)) else (some x3)
def masterdiscref16_number.f (k : Nat) (a0 : ByteArray) : Option (Int) := masterdiscref16_number.l0 k a0 0 0
theorem masterdiscref16_number.mono_l : ∀ k, (∀ y0 y1 y2, LeO (masterdiscref16_number.l0 k y0 y1 y2) (masterdiscref16_number.l0 (k + 1) y0 y1 y2))
  | 0 => fun _ _ _ r h => by simp [masterdiscref16_number.l0] at h
  | k + 1 => by
    have ih0 := masterdiscref16_number.mono_l k
    · intro y0 y1 y2
      unfold masterdiscref16_number.l0
      repeat' first
      | (with_reducible exact ih0 _ _ _)
      | (with_reducible exact LeO.refl _)
      | (with_reducible exact LeO.none _)
      | (with_reducible refine LeO.ite ?_ ?_)
      | (with_reducible refine LeO.bind ?_ (fun _ => ?_))
      | exact ih0 _ _ _
      | exact LeO.none _
      | refine LeO.ite ?_ ?_
      | refine LeO.bind ?_ (fun _ => ?_)
theorem masterdiscref16_number.mono : ∀ a0 k, LeO (masterdiscref16_number.f k a0) (masterdiscref16_number.f (k + 1) a0) := by
  intro a0 k
  have ih0 := masterdiscref16_number.mono_l k
  unfold masterdiscref16_number.f
  repeat' first
      | (with_reducible exact ih0 _ _ _)
      | (with_reducible exact LeO.refl _)
      | (with_reducible exact LeO.none _)
      | (with_reducible refine LeO.ite ?_ ?_)
      | (with_reducible refine LeO.bind ?_ (fun _ => ?_))
      | exact ih0 _ _ _
      | exact LeO.none _
      | refine LeO.ite ?_ ?_
      | refine LeO.bind ?_ (fun _ => ?_)
set_option maxHeartbeats 8000000 in
set_option maxRecDepth 100000 in
theorem masterdiscref16_number.calls (k : Nat) (a0 : ByteArray) (r : Int) (w : World) (h : masterdiscref16_number.f k a0 = some r) :
    Calls Tryd.prog 53 #[.string a0] w fun e w' => e = .returned (.int .i64 r) ∧ Drawn0 w w' := by
  have H : (masterdiscref16_number.l0 k a0 0 0) = some r := h
  clear h
  have H' := Aside0.mk H
  clear H
  go_enter Tryd.func53, Tryd.ntmps53
  go_wp2
  go_loopg [3, 4] k (fun kq v3 v4 w' => ∃ (x3_1 : Int) (x4_1 : Int), v3 = .int .i64 x3_1 ∧ v4 = .int .i64 x4_1 ∧ Aside0 (masterdiscref16_number.l0 kq a0 x3_1 x4_1 = some r) ∧ Aside0 (kq ≤ k) ∧ Drawn0 w w')
  case atStart => exact ⟨(0), (0), (by first | rfl | (simp; done) | (simp [*]; done)), (by first | rfl | (simp; done) | (simp [*]; done)), H', ⟨Nat.le_refl _⟩, by repeat (first | exact Drawn0.refl _ | apply Drawn0.step)⟩
  case round =>
    clear H'
    obtain ⟨x3_1, x4_1, rfl, rfl, HA, HK1, ⟨m1, rfl⟩⟩ := hrel
    cases gk with
    | zero => exact absurd HA.out (by simp [masterdiscref16_number.l0])
    | succ k1 =>
      have H := HA.out
      clear HA
      simp only [masterdiscref16_number.l0] at H
      by_cases c2 : x4_1 < (a0.size : Int)
      · rw [if_pos c2] at H
        have c2b0 : decide (x4_1 < (a0.size : Int)) = true := decide_eq_true c2
        clear c2
        by_cases c3 : 0 ≤ x4_1
        · rw [if_pos c3] at H
          have c3b0 : decide (0 ≤ x4_1) = true := decide_eq_true c3
          clear c3
          have H' := Aside0.mk H
          clear H
          have p4 : 0 ≤ (x4_1 : Int) := of_decide_eq_true (by first | (with_reducible assumption) | assumption)
          have q4 : x4_1 < (a0.size : Int) := of_decide_eq_true (by first | (with_reducible assumption) | assumption)
          have hx4 := bt_at a0 x4_1
          replace p4 := eq_true p4
          replace q4 := eq_true q4
          go_wp2
          go_roundg k1
          case measure => have := HK1.out; omega
          case rel => exact ⟨(wrap64 ((wrap64 (x3_1 * 10)) + (((bt a0 x4_1) - 48) % 256))), (wrap64 (x4_1 + 1)), (by first | rfl | (simp; done) | (simp [*]; done)), (by first | rfl | (simp; done) | (simp [*]; done)), H', ⟨by have := HK1.out; omega⟩, by repeat (first | exact Drawn0.refl _ | apply Drawn0.step)⟩
        · rw [if_neg c3] at H
          exact absurd H (by simp)
      · rw [if_neg c2] at H
        have c2b0 : decide (x4_1 < (a0.size : Int)) = false := decide_eq_false c2
        clear c2
        obtain rfl := Option.some.inj H
        go_wp2
        go_ret
        exact ⟨by first | rfl | (simp; done) | (simp [*]; done), by repeat (first | exact Drawn0.refl _ | apply Drawn0.step)⟩

end Go.Proofs.YtnchkpheepbacaaDoor.T
