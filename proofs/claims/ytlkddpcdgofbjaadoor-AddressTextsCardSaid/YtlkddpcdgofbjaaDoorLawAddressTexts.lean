/- The row of the law AddressTexts over the tables that it lists, and the card that ties them to the program's text: for every input the call returns true, and each argument reads as it did. -/
import Derived.Test.YtlkddpcdgofbjaaDoorCards
import Derived.Test.YtlkddpcdgofbjaaDoorTie
import Derived.Test.YtlkddpcdgofbjaaDoorPureAddressTexts
import Derived.WalkKit
import Derived.ProofKit
import Derived.OpenShut
import Derived.ShutString
import Derived.ChangeOld
import Derived.Below
import Derived.SizedLaws
import Derived.ChangeSame
import Derived.JoinedOf
import Derived.JoinedAt
import Derived.RowKit3
import Derived.Lib.SmallJoins
import Derived.Deep.DeepHandedRow
import Derived.Lib.LaidTab
import Derived.LaidLaws
namespace Go.Proofs.YtlkddpcdgofbjaaDoor.addressTexts
open Go.ChangeShapes Go.WideShapes Go.ChangeAt Go.RowKit Go.Joins Go.Proofs.YtlkddpcdgofbjaaDoor.Hand
open Go.ChangeMaps (open_string shut_string)
theorem own : ownKnob Tryd.prog.godebug = none := by kernel_rfl
theorem cells23 : Tryd.prog.cellsOf 23 = 3 := by kernel_rfl
theorem trodi {H : Type} {enc : TypeId × Value → H} (W : World) (sp : Nat → Bool) (a : Int) (h : (Lit.int .i64 a).wf = true) : ∃ n, DataW.trod enc Tryd.prog W 0 sp true n 3 [.int .i64 a] = some (.lit (.int .i64 a), []) :=
  ⟨1, by simp [DataW.trod, Tryd.underlying3, h]⟩
set_option linter.unusedVariables false in
theorem table {W : World} (h : laidMetH Tryd.prog Rows.addressTextsRow.laid W) (hsh : W.ShapedOpen Tryd.prog) : HG W := by
  rw [MakeChecks.laidMetH_plain _ _ _ (by kernel_rfl)] at h
  obtain ⟨ps, ⟨g0, t0, cs0, f0, p0, q0, hg0, ht0, hv0, hd0, ⟨g1, t1, cs1, f1, p1, q1, hg1, ht1, hv1, hd1, ⟨g2, t2, cs2, f2, p2, q2, hg2, ht2, hv2, hd2, ⟨g3, t3, cs3, f3, p3, q3, hg3, ht3, hv3, hd3, ⟨g4, t4, cs4, f4, p4, q4, hg4, ht4, hv4, hd4, ⟨g5, t5, cs5, f5, p5, q5, hg5, ht5, hv5, hd5, _, x5⟩, x4⟩, x3⟩, x2⟩, x1⟩, x0⟩, _⟩ := h
  have G5 : Tryd.prog.globalNamed "strconv.ErrSyntax" = some 0 := by kernel_rfl
  obtain rfl := Option.some.inj (G5.symm.trans hg5)
  obtain rfl := Option.some.inj ((show (Tryd.prog.globals[0]?).map (·.type) = some 53 by kernel_rfl).symm.trans ht5)
  obtain ⟨l5⟩ := cs5
  obtain ⟨_, u5, z5, e5, _, _⟩ := iface_of_trod Tryd.underlying53 hd5
  have c5 : W.cell? ⟨0, 0, none⟩ = some (.iface u5 z5) := by
    have k := World.var?_cell G5 hv5 0
    rw [show l5 = [.iface u5 z5] from e5] at k
    simpa using k
  have G4 : Tryd.prog.globalNamed "strconv.ErrRange" = some 1 := by kernel_rfl
  obtain rfl := Option.some.inj (G4.symm.trans hg4)
  obtain rfl := Option.some.inj ((show (Tryd.prog.globals[1]?).map (·.type) = some 53 by kernel_rfl).symm.trans ht4)
  obtain ⟨l4⟩ := cs4
  obtain ⟨_, u4, z4, e4, _, _⟩ := iface_of_trod Tryd.underlying53 hd4
  have c4 : W.cell? ⟨1, 0, none⟩ = some (.iface u4 z4) := by
    have k := World.var?_cell G4 hv4 0
    rw [show l4 = [.iface u4 z4] from e4] at k
    simpa using k
  exact ⟨⟨_, c5, Or.inr ⟨_, _, rfl⟩⟩, ⟨_, c4, Or.inr ⟨_, _, rfl⟩⟩, hsh⟩
theorem walk (a0_0 : Int) (a0_1 : Int) (a0_2 : Int) (a1 : ByteArray) (w : World) (hG_ : HG w) (w_a0_0 : (Lit.int .i64 a0_0).wf = true) (w_a0_1 : (Lit.int .i64 a0_1).wf = true) (w_a0_2 : (Lit.int .i64 a0_2).wf = true) (y1 : a1.size ≤ 140737488351232) :
    Calls Tryd.prog 4 #[.agg #[.int .i64 a0_0, .int .i64 a0_1, .int .i64 a0_2], .string a1] w fun e w' => e = .returned (.bool true) ∧ Below w.heap.size w w' := by
  obtain ⟨k, h⟩ := Pure.AddressTexts a0_0 a0_1 a0_2 a1 w_a0_0 w_a0_1 w_a0_2 y1
  exact U.masterdisclaw06_AddressTexts.calls k a0_0 a0_1 a0_2 a1 true w hG_ h
set_option maxRecDepth 100000 in
theorem contract (H : Type) (enc : TypeId × Value → H) (W : World) (base : Nat) (args : Array Value) (ds gs : List (DataW H)) (before : List MemPlace)
    (hval : ∀ (j : Nat) t v, Tryd.f4.params[j]? = some t → args[j]? = some v → Value.okWide Tryd.prog W .any base t v)
    (hW : DataW.Whole enc Tryd.prog Tryd.f4.params.toList Rows.addressTextsSpec.vars false W args.toList ds gs before)
    (hsz : (DataW.weightsEach Tryd.prog (Tryd.f4.params.toList ++ Rows.addressTextsSpec.plain.varTypes Tryd.prog) (ds ++ gs)).all (· ≤ reachBytes) = true) (hL : laidMetH Tryd.prog Rows.addressTextsRow.laid W) (hsh : W.ShapedOpen Tryd.prog) :
    Calls Tryd.prog 4 args W fun e W' => ∃ v, e = .returned v ∧ Rows.addressTextsSpec.post enc Tryd.prog Tryd.f4 false true false false W args v W' := by
  have hW' := hW
  obtain ⟨p, q, hA0, hV, rfl, hfz, hnd⟩ := hW
  have hA : DataW.TrodAll enc Tryd.prog W 0 (fun _ => true) true Tryd.f4.params.toList args.toList ds p := hA0
  rw [Tryd.params4] at hA hval hsz
  obtain ⟨v0, vs0, d0, ds0, p0, q0, hargs, rfl, rfl, h0, r0⟩ := trodAll_cons hA
  obtain ⟨v1, vs1, d1, ds1, p1, q1, rfl, rfl, rfl, h1, r1⟩ := trodAll_cons r0
  obtain ⟨rfl, rfl, rfl⟩ := trodAll_nil r1
  obtain rfl : args = #[v0, v1] := by cases args; simp_all
  obtain ⟨rfl, rfl⟩ := trodVars_none hV
  obtain ⟨c0_0, c0_1, c0_2, z0_0, z0_1, z0_2, m0, rfl, rfl, rfl, hz0_0, hz0_1, hz0_2⟩ := open_agg3 Tryd.underlying23 (by kernel_rfl) cells23 (hval 0 23 v0 rfl rfl) h0
  obtain ⟨a0_0, e0_0, rfl, w_a0_0⟩ := DataW.trod_int Tryd.underlying3 hz0_0
  simp only [List.cons.injEq, and_true] at e0_0
  subst e0_0
  obtain ⟨a0_1, e0_1, rfl, w_a0_1⟩ := DataW.trod_int Tryd.underlying3 hz0_1
  simp only [List.cons.injEq, and_true] at e0_1
  subst e0_1
  obtain ⟨a0_2, e0_2, rfl, w_a0_2⟩ := DataW.trod_int Tryd.underlying3 hz0_2
  simp only [List.cons.injEq, and_true] at e0_2
  subst e0_2
  obtain ⟨a1, rfl, rfl, rfl, o1⟩ := open_string Tryd.underlying9 (hval 1 9 v1 rfl rfl) h1
  have y1 : a1.size ≤ 140737488351232 := by
    have z := sized_string hsz (j := 1) (t := 9) rfl rfl
    rw [Array.length_toList] at z
    exact z
  clear hA0 hsz
  refine (walk a0_0 a0_1 a0_2 a1 W (table hL hsh) w_a0_0 w_a0_1 w_a0_2 y1).mono fun e W' ⟨he, bel⟩ => ?_
  subst he
  exact ⟨_, rfl, _, _, _, [], _, [], hW', trodAll_mk1 (shut_bool Tryd.underlying4 _), (trodAll_cons_mk (shut_agg3 (y0 := (.lit (.int .i64 a0_0), [])) (y1 := (.lit (.int .i64 a0_1), [])) (y2 := (.lit (.int .i64 a0_2), [])) Tryd.underlying23 (by kernel_rfl) cells23 (trodi _ _ _ w_a0_0) (trodi _ _ _ w_a0_1) (trodi _ _ _ w_a0_2)) (trodAll_cons_mk (shut_string Tryd.underlying9 o1) trodAll_mk0)), rfl, bel.frame _, fun h => by cases h⟩
/-- Where the listed errors' own blocks begin. -/
noncomputable def low : Nat := (World.holding Tryd.prog default ⟨#[], #[], []⟩).heap.size
/-- A world for the witness: the settled one, the tables holding what their text lays. -/
noncomputable def laidWorld (os : Os) : World :=
  { World.holding Tryd.prog os ⟨#[.cells #[.string { data := #[118, 97, 108, 117, 101, 32, 111, 117, 116, 32, 111, 102, 32, 114, 97, 110, 103, 101] }] 107, .cells #[.string { data := #[105, 110, 118, 97, 108, 105, 100, 32, 115, 121, 110, 116, 97, 120] }] 107], #[], []⟩ with heap := ((((((((World.holding Tryd.prog os ⟨#[.cells #[.string { data := #[118, 97, 108, 117, 101, 32, 111, 117, 116, 32, 111, 102, 32, 114, 97, 110, 103, 101] }] 107, .cells #[.string { data := #[105, 110, 118, 97, 108, 105, 100, 32, 115, 121, 110, 116, 97, 120] }] 107], #[], []⟩).heap.modify 1 fun
      | .cells _ t frozen => .cells #[.iface 105 (.pointer (some ⟨low + 0, 0, none⟩))] t frozen
      | o => o).modify 0 fun
      | .cells _ t frozen => .cells #[.iface 105 (.pointer (some ⟨low + 1, 0, none⟩))] t frozen
      | o => o).modify 6 fun
      | .cells _ t frozen => .cells #[.int .u8 0, .int .u8 1, .int .u8 28, .int .u8 2, .int .u8 29, .int .u8 14, .int .u8 24, .int .u8 3, .int .u8 30, .int .u8 22, .int .u8 20, .int .u8 15, .int .u8 25, .int .u8 17, .int .u8 4, .int .u8 8, .int .u8 31, .int .u8 27, .int .u8 13, .int .u8 23, .int .u8 21, .int .u8 19, .int .u8 16, .int .u8 7, .int .u8 26, .int .u8 12, .int .u8 18, .int .u8 6, .int .u8 11, .int .u8 5, .int .u8 10, .int .u8 9] t frozen
      | o => o).modify 7 fun
      | .cells _ t frozen => .cells #[.int .u8 0, .int .u8 1, .int .u8 56, .int .u8 2, .int .u8 57, .int .u8 49, .int .u8 28, .int .u8 3, .int .u8 61, .int .u8 58, .int .u8 42, .int .u8 50, .int .u8 38, .int .u8 29, .int .u8 17, .int .u8 4, .int .u8 62, .int .u8 47, .int .u8 59, .int .u8 36, .int .u8 45, .int .u8 43, .int .u8 51, .int .u8 22, .int .u8 53, .int .u8 39, .int .u8 33, .int .u8 30, .int .u8 24, .int .u8 18, .int .u8 12, .int .u8 5, .int .u8 63, .int .u8 55, .int .u8 48, .int .u8 27, .int .u8 60, .int .u8 41, .int .u8 37, .int .u8 16, .int .u8 46, .int .u8 35, .int .u8 44, .int .u8 21, .int .u8 52, .int .u8 32, .int .u8 23, .int .u8 11, .int .u8 54, .int .u8 26, .int .u8 40, .int .u8 15, .int .u8 34, .int .u8 20, .int .u8 31, .int .u8 10, .int .u8 25, .int .u8 14, .int .u8 19, .int .u8 9, .int .u8 13, .int .u8 8, .int .u8 7, .int .u8 6] t frozen
      | o => o).modify 2 fun
      | .cells _ t frozen => .cells #[.int .u64 1, .int .u64 10, .int .u64 100, .int .u64 1000, .int .u64 10000, .int .u64 100000, .int .u64 1000000, .int .u64 10000000, .int .u64 100000000, .int .u64 1000000000, .int .u64 10000000000, .int .u64 100000000000, .int .u64 1000000000000, .int .u64 10000000000000, .int .u64 100000000000000, .int .u64 1000000000000000, .int .u64 10000000000000000, .int .u64 100000000000000000, .int .u64 1000000000000000000, .int .u64 10000000000000000000] t frozen
      | o => o).modify 5 fun
      | .cells _ t frozen => .cells #[.int .u8 128, .int .u8 191, .int .u8 160, .int .u8 191, .int .u8 128, .int .u8 159, .int .u8 144, .int .u8 191, .int .u8 128, .int .u8 143, .int .u8 0, .int .u8 0, .int .u8 0, .int .u8 0, .int .u8 0, .int .u8 0, .int .u8 0, .int .u8 0, .int .u8 0, .int .u8 0, .int .u8 0, .int .u8 0, .int .u8 0, .int .u8 0, .int .u8 0, .int .u8 0, .int .u8 0, .int .u8 0, .int .u8 0, .int .u8 0, .int .u8 0, .int .u8 0] t frozen
      | o => o).modify 4 fun
      | .cells _ t frozen => .cells #[.int .u8 240, .int .u8 240, .int .u8 240, .int .u8 240, .int .u8 240, .int .u8 240, .int .u8 240, .int .u8 240, .int .u8 240, .int .u8 240, .int .u8 240, .int .u8 240, .int .u8 240, .int .u8 240, .int .u8 240, .int .u8 240, .int .u8 240, .int .u8 240, .int .u8 240, .int .u8 240, .int .u8 240, .int .u8 240, .int .u8 240, .int .u8 240, .int .u8 240, .int .u8 240, .int .u8 240, .int .u8 240, .int .u8 240, .int .u8 240, .int .u8 240, .int .u8 240, .int .u8 240, .int .u8 240, .int .u8 240, .int .u8 240, .int .u8 240, .int .u8 240, .int .u8 240, .int .u8 240, .int .u8 240, .int .u8 240, .int .u8 240, .int .u8 240, .int .u8 240, .int .u8 240, .int .u8 240, .int .u8 240, .int .u8 240, .int .u8 240, .int .u8 240, .int .u8 240, .int .u8 240, .int .u8 240, .int .u8 240, .int .u8 240, .int .u8 240, .int .u8 240, .int .u8 240, .int .u8 240, .int .u8 240, .int .u8 240, .int .u8 240, .int .u8 240, .int .u8 240, .int .u8 240, .int .u8 240, .int .u8 240, .int .u8 240, .int .u8 240, .int .u8 240, .int .u8 240, .int .u8 240, .int .u8 240, .int .u8 240, .int .u8 240, .int .u8 240, .int .u8 240, .int .u8 240, .int .u8 240, .int .u8 240, .int .u8 240, .int .u8 240, .int .u8 240, .int .u8 240, .int .u8 240, .int .u8 240, .int .u8 240, .int .u8 240, .int .u8 240, .int .u8 240, .int .u8 240, .int .u8 240, .int .u8 240, .int .u8 240, .int .u8 240, .int .u8 240, .int .u8 240, .int .u8 240, .int .u8 240, .int .u8 240, .int .u8 240, .int .u8 240, .int .u8 240, .int .u8 240, .int .u8 240, .int .u8 240, .int .u8 240, .int .u8 240, .int .u8 240, .int .u8 240, .int .u8 240, .int .u8 240, .int .u8 240, .int .u8 240, .int .u8 240, .int .u8 240, .int .u8 240, .int .u8 240, .int .u8 240, .int .u8 240, .int .u8 240, .int .u8 240, .int .u8 240, .int .u8 240, .int .u8 240, .int .u8 240, .int .u8 240, .int .u8 241, .int .u8 241, .int .u8 241, .int .u8 241, .int .u8 241, .int .u8 241, .int .u8 241, .int .u8 241, .int .u8 241, .int .u8 241, .int .u8 241, .int .u8 241, .int .u8 241, .int .u8 241, .int .u8 241, .int .u8 241, .int .u8 241, .int .u8 241, .int .u8 241, .int .u8 241, .int .u8 241, .int .u8 241, .int .u8 241, .int .u8 241, .int .u8 241, .int .u8 241, .int .u8 241, .int .u8 241, .int .u8 241, .int .u8 241, .int .u8 241, .int .u8 241, .int .u8 241, .int .u8 241, .int .u8 241, .int .u8 241, .int .u8 241, .int .u8 241, .int .u8 241, .int .u8 241, .int .u8 241, .int .u8 241, .int .u8 241, .int .u8 241, .int .u8 241, .int .u8 241, .int .u8 241, .int .u8 241, .int .u8 241, .int .u8 241, .int .u8 241, .int .u8 241, .int .u8 241, .int .u8 241, .int .u8 241, .int .u8 241, .int .u8 241, .int .u8 241, .int .u8 241, .int .u8 241, .int .u8 241, .int .u8 241, .int .u8 241, .int .u8 241, .int .u8 241, .int .u8 241, .int .u8 2, .int .u8 2, .int .u8 2, .int .u8 2, .int .u8 2, .int .u8 2, .int .u8 2, .int .u8 2, .int .u8 2, .int .u8 2, .int .u8 2, .int .u8 2, .int .u8 2, .int .u8 2, .int .u8 2, .int .u8 2, .int .u8 2, .int .u8 2, .int .u8 2, .int .u8 2, .int .u8 2, .int .u8 2, .int .u8 2, .int .u8 2, .int .u8 2, .int .u8 2, .int .u8 2, .int .u8 2, .int .u8 2, .int .u8 2, .int .u8 19, .int .u8 3, .int .u8 3, .int .u8 3, .int .u8 3, .int .u8 3, .int .u8 3, .int .u8 3, .int .u8 3, .int .u8 3, .int .u8 3, .int .u8 3, .int .u8 3, .int .u8 35, .int .u8 3, .int .u8 3, .int .u8 52, .int .u8 4, .int .u8 4, .int .u8 4, .int .u8 68, .int .u8 241, .int .u8 241, .int .u8 241, .int .u8 241, .int .u8 241, .int .u8 241, .int .u8 241, .int .u8 241, .int .u8 241, .int .u8 241, .int .u8 241] t frozen
      | o => o) }
set_option maxRecDepth 100000 in
theorem laid_met (os : Os) : laidMet Tryd.prog Rows.addressTextsRow.laid ((laidWorld os).forCall (fun _ _ => 0) ⟨#[], #[.agg #[.int .i64 0, .int .i64 0, .int .i64 0], .string ByteArray.empty], []⟩).memory :=
  laidMet_of_run' 64 (by kernel_rfl) (by kernel_rfl)
set_option maxRecDepth 100000 in
theorem reads (os : Os) {H : Type} (enc : TypeId × Value → H) : ∃ places, DataW.whole enc Tryd.prog ((laidWorld os).forCall (fun _ _ => 0) ⟨#[], #[.agg #[.int .i64 0, .int .i64 0, .int .i64 0], .string ByteArray.empty], []⟩).memory Tryd.f4.params.toList Rows.addressTextsSpec.vars false (#[.agg #[.int .i64 0, .int .i64 0, .int .i64 0], .string ByteArray.empty] : Array Value).toList 8 = some ([.agg [.lit (.int .i64 0), .lit (.int .i64 0), .lit (.int .i64 0)], .lit (.string [])], [], places) :=
  ⟨[], by kernel_rfl⟩
set_option maxRecDepth 100000 in
theorem lifted (os : Os) (started : os.Started) (H : Type) (enc : TypeId × Value → H) (F : Stop.Interp) :
    ReturnsInHanded {} Tryd.checked os 4 .any ((OpenSpec.ofChange Rows.addressTextsSpec).preRow enc Tryd.prog Tryd.f4 Rows.addressTextsRow.domain false Rows.addressTextsRow.laid) (((OpenSpec.ofChange Rows.addressTextsSpec).at F).post enc Tryd.prog Tryd.f4 false true false false) := by
  obtain ⟨places, hx⟩ := reads os enc
  refine returnsInHanded_of_row (C := Tryd.checked) (s := OpenSpec.ofChange Rows.addressTextsSpec) own started (by kernel_rfl) Tryd.func4
    (witness_row_at (enc := enc) (C := Tryd.checked) false (laidWorld os) #[.agg #[.int .i64 0, .int .i64 0, .int .i64 0], .string ByteArray.empty] rfl (by kernel_rfl) (by kernel_rfl) (by kernel_rfl)
      (OpenSpec.preRow_of_cond 8 hx (by kernel_rfl) (fun k hk => by cases hk) (by kernel_rfl) (laid_met os))) ?_
  intro W base args ds gs before hval hW _ _ hsz hL hsh _
  exact contract H enc W base args ds gs before hval hW hsz hL hsh
theorem said : Rows.AddressTextsSaid :=
  OpenClaim.holds_of_cond 4 Tryd.f4 rfl rfl rfl rfl rfl rfl rfl ⟨rfl, rfl, rfl, rfl, rfl⟩ rfl rfl rfl rfl rfl (by kernel_rfl) Tryd.func4 (by kernel_rfl)
    (of_decide_eq_true (by kernel_rfl)) (by unfold Func.isWrapper; first | (rw [if_pos (by decide +kernel)]; kernel_rfl) | (rw [if_neg (by decide +kernel)]; exact ⟨rfl, rfl⟩))
    (fun os started H enc _ F => by rw [OpenClaim.pre_eq_preRow]; exact lifted os started H enc F)
/-- No parameter wants a stand-in; the program's own looks are as the card says. -/
theorem plain (f : FuncId) (fn : Func) (hf : Tryd.pinned.checked.prog.funcNamed "masterdisc/masterdisclaw06.AddressTexts" = some f) (hfn : Tryd.pinned.checked.prog.funcs[f]? = some fn) :
    true = Tryd.pinned.checked.prog.looks [] ∧ ∀ (j : Nat) t, fn.params[j]? = some t → Tryd.pinned.checked.prog.wantsStandIn t = false := by
  obtain rfl : f = 4 := Option.some.inj ((show Tryd.prog.funcNamed "masterdisc/masterdisclaw06.AddressTexts" = some 4 by kernel_rfl).symm.trans hf) |>.symm
  obtain rfl : fn = Tryd.f4 := (Option.some.inj (Tryd.func4.symm.trans hfn)).symm
  refine ⟨by kernel_rfl, fun j t ht => ?_⟩
  rw [Tryd.params4] at ht
  have hm : t ∈ [23, 9] := by simpa using Array.mem_of_getElem? ht
  have hall : ([23, 9].all fun u => !Tryd.prog.wantsStandIn u) = true := by kernel_rfl
  exact (show Tryd.prog.wantsStandIn t = false by simpa using List.all_eq_true.1 hall t hm)
theorem card : Rows.AddressTextsCardSaid :=
  Claim7.holds_tied_plain_at .later [] _ _ _ _ said (fun _ h => by cases h) (by kernel_rfl) (fun _ h => by cases h) addressTexts_row_tie rfl ⟨rfl, rfl⟩ (by kernel_rfl) rfl plain (by kernel_rfl)
#print axioms card
end Go.Proofs.YtlkddpcdgofbjaaDoor.addressTexts
namespace Go.Proofs.YtlkddpcdgofbjaaDoor
/-- The card, under a short name, for the claim. -/
theorem addressTexts_card : Rows.AddressTextsCardSaid := addressTexts.card
end Go.Proofs.YtlkddpcdgofbjaaDoor
