/- The row of the law AddressMoves: for every input the call returns true, and each argument reads as it did. -/
import Derived.Test.YtlkddpcdgofbjaaRows
import Derived.Test.YtlkddpcdgofbjaaPureAddressMoves
import Derived.WalkKit
import Derived.ProofKit
import Derived.OpenShut
import Derived.ShutString
import Derived.ChangeOld
import Derived.Below
import Derived.SizedLaws
import Derived.ChangeSame
import Derived.JoinedOf
import Derived.JoinedAt
import Derived.RowKit3
import Derived.Lib.SmallJoins
namespace Go.Proofs.Ytlkddpcdgofbjaa.addressMoves
open Go.ChangeShapes Go.WideShapes Go.ChangeAt Go.RowKit Go.Joins
open Go.ChangeMaps (open_string shut_string)
theorem own : ownKnob Try.prog.godebug = none := by kernel_rfl
theorem cells23 : Try.prog.cellsOf 23 = 3 := by kernel_rfl
theorem trodi {H : Type} {enc : TypeId × Value → H} (W : World) (sp : Nat → Bool) (a : Int) (h : (Lit.int .i64 a).wf = true) : ∃ n, DataW.trod enc Try.prog W 0 sp true n 3 [.int .i64 a] = some (.lit (.int .i64 a), []) :=
  ⟨1, by simp [DataW.trod, Try.underlying3, h]⟩
theorem walk (a0_0 : Int) (a0_1 : Int) (a0_2 : Int) (a1_0 : Int) (a1_1 : Int) (a1_2 : Int) (a2 : Int) (w : World) (w_a0_0 : (Lit.int .i64 a0_0).wf = true) (w_a0_1 : (Lit.int .i64 a0_1).wf = true) (w_a0_2 : (Lit.int .i64 a0_2).wf = true) (w_a1_0 : (Lit.int .i64 a1_0).wf = true) (w_a1_1 : (Lit.int .i64 a1_1).wf = true) (w_a1_2 : (Lit.int .i64 a1_2).wf = true) (w_a2 : (Lit.int .i64 a2).wf = true) :
    Calls Try.prog 5 #[.agg #[.int .i64 a0_0, .int .i64 a0_1, .int .i64 a0_2], .agg #[.int .i64 a1_0, .int .i64 a1_1, .int .i64 a1_2], .int .i64 a2] w fun e w' => e = .returned (.bool true) ∧ Below w.heap.size w w' := by
  obtain ⟨k, h⟩ := Pure.AddressMoves a0_0 a0_1 a0_2 a1_0 a1_1 a1_2 a2 w_a0_0 w_a0_1 w_a0_2 w_a1_0 w_a1_1 w_a1_2 w_a2
  exact Q.masterdisclaw06_AddressMoves.calls k a0_0 a0_1 a0_2 a1_0 a1_1 a1_2 a2 true w h
set_option maxRecDepth 100000 in
theorem lifted (os : Os) (started : os.Started) (H : Type) (enc : TypeId × Value → H) :
    ReturnsInHanded {} Try.checked os 5 .any (Rows.addressMovesSpec.pre6 enc Try.prog Try.f5 Rows.addressMovesRow.domain false) (Rows.addressMovesSpec.post enc Try.prog Try.f5 false true false false) := by
  refine returnsInHanded_of_change_sized (C := Try.checked) own started (by kernel_rfl) Try.func5
    (ChangeSpec.witness6 (enc := enc) (C := Try.checked) false ⟨#[], #[.agg #[.int .i64 0, .int .i64 0, .int .i64 0], .agg #[.int .i64 0, .int .i64 0, .int .i64 0], .int .i64 0], []⟩ 8 (by kernel_rfl) (by kernel_rfl) (by kernel_rfl) (by kernel_rfl)) ?_
  intro W base args ds gs before hval0 hW hcnd hsz0 _
  have hsz : (DataW.weightsEach Try.prog (Try.f5.params.toList ++ Rows.addressMovesSpec.plain.varTypes Try.prog) (ds ++ gs)).all (· ≤ reachBytes) = true := hsz0
  have hval : ∀ (j : Nat) t v, Try.f5.params[j]? = some t → args[j]? = some v → Value.okWide Try.prog W .any base t v := hval0
  have hW' := hW
  obtain ⟨p, q, hA0, hV, rfl, hfz, hnd⟩ := hW
  have hA : DataW.TrodAll enc Try.prog W 0 (fun _ => true) true Try.f5.params.toList args.toList ds p := hA0
  rw [Try.params5] at hA hval hsz
  obtain ⟨v0, vs0, d0, ds0, p0, q0, hargs, rfl, rfl, h0, r0⟩ := trodAll_cons hA
  obtain ⟨v1, vs1, d1, ds1, p1, q1, rfl, rfl, rfl, h1, r1⟩ := trodAll_cons r0
  obtain ⟨v2, vs2, d2, ds2, p2, q2, rfl, rfl, rfl, h2, r2⟩ := trodAll_cons r1
  obtain ⟨rfl, rfl, rfl⟩ := trodAll_nil r2
  obtain rfl : args = #[v0, v1, v2] := by cases args; simp_all
  obtain ⟨rfl, rfl⟩ := trodVars_none hV
  obtain ⟨c0_0, c0_1, c0_2, z0_0, z0_1, z0_2, m0, rfl, rfl, rfl, hz0_0, hz0_1, hz0_2⟩ := open_agg3 Try.underlying23 (by kernel_rfl) cells23 (hval 0 23 v0 rfl rfl) h0
  obtain ⟨a0_0, e0_0, rfl, w_a0_0⟩ := DataW.trod_int Try.underlying3 hz0_0
  simp only [List.cons.injEq, and_true] at e0_0
  subst e0_0
  obtain ⟨a0_1, e0_1, rfl, w_a0_1⟩ := DataW.trod_int Try.underlying3 hz0_1
  simp only [List.cons.injEq, and_true] at e0_1
  subst e0_1
  obtain ⟨a0_2, e0_2, rfl, w_a0_2⟩ := DataW.trod_int Try.underlying3 hz0_2
  simp only [List.cons.injEq, and_true] at e0_2
  subst e0_2
  obtain ⟨c1_0, c1_1, c1_2, z1_0, z1_1, z1_2, m1, rfl, rfl, rfl, hz1_0, hz1_1, hz1_2⟩ := open_agg3 Try.underlying23 (by kernel_rfl) cells23 (hval 1 23 v1 rfl rfl) h1
  obtain ⟨a1_0, e1_0, rfl, w_a1_0⟩ := DataW.trod_int Try.underlying3 hz1_0
  simp only [List.cons.injEq, and_true] at e1_0
  subst e1_0
  obtain ⟨a1_1, e1_1, rfl, w_a1_1⟩ := DataW.trod_int Try.underlying3 hz1_1
  simp only [List.cons.injEq, and_true] at e1_1
  subst e1_1
  obtain ⟨a1_2, e1_2, rfl, w_a1_2⟩ := DataW.trod_int Try.underlying3 hz1_2
  simp only [List.cons.injEq, and_true] at e1_2
  subst e1_2
  obtain ⟨a2, rfl, rfl, rfl, w_a2⟩ := open_int Try.underlying3 (hval 2 3 v2 rfl rfl) h2
  clear hA0 hval0 hsz0 hsz
  refine (walk a0_0 a0_1 a0_2 a1_0 a1_1 a1_2 a2 W w_a0_0 w_a0_1 w_a0_2 w_a1_0 w_a1_1 w_a1_2 w_a2).mono fun e W' ⟨he, bel⟩ => ?_
  subst he
  exact ⟨_, rfl, _, _, _, [], _, [], hW', trodAll_mk1 (shut_bool Try.underlying4 _), (trodAll_cons_mk (shut_agg3 (y0 := (.lit (.int .i64 a0_0), [])) (y1 := (.lit (.int .i64 a0_1), [])) (y2 := (.lit (.int .i64 a0_2), [])) Try.underlying23 (by kernel_rfl) cells23 (trodi _ _ _ w_a0_0) (trodi _ _ _ w_a0_1) (trodi _ _ _ w_a0_2)) (trodAll_cons_mk (shut_agg3 (y0 := (.lit (.int .i64 a1_0), [])) (y1 := (.lit (.int .i64 a1_1), [])) (y2 := (.lit (.int .i64 a1_2), [])) Try.underlying23 (by kernel_rfl) cells23 (trodi _ _ _ w_a1_0) (trodi _ _ _ w_a1_1) (trodi _ _ _ w_a1_2)) (trodAll_cons_mk (shut_int Try.underlying3 w_a2) trodAll_mk0))), rfl, bel.frame _, fun h => by cases h⟩
theorem over : Rows.addressMovesRow.holds Try.pinned (OpenSpec.ofChange Rows.addressMovesSpec) :=
  OpenClaim.holds_of_wide 5 Try.f5 rfl rfl rfl rfl rfl rfl rfl ⟨rfl, rfl, rfl, rfl, rfl⟩ rfl rfl rfl rfl rfl (by kernel_rfl) Try.func5 (by kernel_rfl)
    (of_decide_eq_true (by kernel_rfl)) (by unfold Func.isWrapper; first | (rw [if_pos (by decide +kernel)]; kernel_rfl) | (rw [if_neg (by decide +kernel)]; exact ⟨rfl, rfl⟩))
    (fun os started H enc _ => lifted os started H enc)
theorem proved : Rows.AddressMovesSaid := over
#print axioms proved
end Go.Proofs.Ytlkddpcdgofbjaa.addressMoves
namespace Go.Proofs.Ytlkddpcdgofbjaa
/-- The row, under a short name, for the claim. -/
theorem addressMoves_holds : Rows.AddressMovesSaid := addressMoves.proved
end Go.Proofs.Ytlkddpcdgofbjaa
