/- The row of the law AddressBytes: for every input the call returns true, and each argument reads as it did. -/
import Derived.Test.YtlkddpcdgofbjaaRows
import Derived.Test.YtlkddpcdgofbjaaPureAddressBytes
import Derived.WalkKit
import Derived.ProofKit
import Derived.OpenShut
import Derived.ShutString
import Derived.ChangeOld
import Derived.Below
import Derived.SizedLaws
import Derived.ChangeSame
import Derived.JoinedOf
import Derived.JoinedAt
import Derived.RowKit3
import Derived.Lib.SmallJoins
namespace Go.Proofs.Ytlkddpcdgofbjaa.addressBytes
open Go.ChangeShapes Go.WideShapes Go.ChangeAt Go.RowKit Go.Joins
open Go.ChangeMaps (open_string shut_string)
theorem own : ownKnob Try.prog.godebug = none := by kernel_rfl
theorem cells23 : Try.prog.cellsOf 23 = 3 := by kernel_rfl
theorem trodi {H : Type} {enc : TypeId × Value → H} (W : World) (sp : Nat → Bool) (a : Int) (h : (Lit.int .i64 a).wf = true) : ∃ n, DataW.trod enc Try.prog W 0 sp true n 3 [.int .i64 a] = some (.lit (.int .i64 a), []) :=
  ⟨1, by simp [DataW.trod, Try.underlying3, h]⟩
theorem walk (a0_0 : Int) (a0_1 : Int) (a0_2 : Int) (a1 : ByteArray) (a2 : Int) (w : World) (w_a0_0 : (Lit.int .i64 a0_0).wf = true) (w_a0_1 : (Lit.int .i64 a0_1).wf = true) (w_a0_2 : (Lit.int .i64 a0_2).wf = true) (y1 : a1.size ≤ 140737488351232) (w_a2 : (Lit.int .i64 a2).wf = true) :
    Calls Try.prog 6 #[.agg #[.int .i64 a0_0, .int .i64 a0_1, .int .i64 a0_2], .string a1, .int .i64 a2] w fun e w' => e = .returned (.bool true) ∧ Below w.heap.size w w' := by
  obtain ⟨k, h⟩ := Pure.AddressBytes a0_0 a0_1 a0_2 a1 a2 w_a0_0 w_a0_1 w_a0_2 y1 w_a2
  exact Q.masterdisclaw06_AddressBytes.calls k a0_0 a0_1 a0_2 a1 a2 true w h
set_option maxRecDepth 100000 in
theorem lifted (os : Os) (started : os.Started) (H : Type) (enc : TypeId × Value → H) :
    ReturnsInHanded {} Try.checked os 6 .any (Rows.addressBytesSpec.pre6 enc Try.prog Try.f6 Rows.addressBytesRow.domain false) (Rows.addressBytesSpec.post enc Try.prog Try.f6 false true false false) := by
  refine returnsInHanded_of_change_sized (C := Try.checked) own started (by kernel_rfl) Try.func6
    (ChangeSpec.witness6 (enc := enc) (C := Try.checked) false ⟨#[], #[.agg #[.int .i64 0, .int .i64 0, .int .i64 0], .string ByteArray.empty, .int .i64 0], []⟩ 8 (by kernel_rfl) (by kernel_rfl) (by kernel_rfl) (by kernel_rfl)) ?_
  intro W base args ds gs before hval0 hW hcnd hsz0 _
  have hsz : (DataW.weightsEach Try.prog (Try.f6.params.toList ++ Rows.addressBytesSpec.plain.varTypes Try.prog) (ds ++ gs)).all (· ≤ reachBytes) = true := hsz0
  have hval : ∀ (j : Nat) t v, Try.f6.params[j]? = some t → args[j]? = some v → Value.okWide Try.prog W .any base t v := hval0
  have hW' := hW
  obtain ⟨p, q, hA0, hV, rfl, hfz, hnd⟩ := hW
  have hA : DataW.TrodAll enc Try.prog W 0 (fun _ => true) true Try.f6.params.toList args.toList ds p := hA0
  rw [Try.params6] at hA hval hsz
  obtain ⟨v0, vs0, d0, ds0, p0, q0, hargs, rfl, rfl, h0, r0⟩ := trodAll_cons hA
  obtain ⟨v1, vs1, d1, ds1, p1, q1, rfl, rfl, rfl, h1, r1⟩ := trodAll_cons r0
  obtain ⟨v2, vs2, d2, ds2, p2, q2, rfl, rfl, rfl, h2, r2⟩ := trodAll_cons r1
  obtain ⟨rfl, rfl, rfl⟩ := trodAll_nil r2
  obtain rfl : args = #[v0, v1, v2] := by cases args; simp_all
  obtain ⟨rfl, rfl⟩ := trodVars_none hV
  obtain ⟨c0_0, c0_1, c0_2, z0_0, z0_1, z0_2, m0, rfl, rfl, rfl, hz0_0, hz0_1, hz0_2⟩ := open_agg3 Try.underlying23 (by kernel_rfl) cells23 (hval 0 23 v0 rfl rfl) h0
  obtain ⟨a0_0, e0_0, rfl, w_a0_0⟩ := DataW.trod_int Try.underlying3 hz0_0
  simp only [List.cons.injEq, and_true] at e0_0
  subst e0_0
  obtain ⟨a0_1, e0_1, rfl, w_a0_1⟩ := DataW.trod_int Try.underlying3 hz0_1
  simp only [List.cons.injEq, and_true] at e0_1
  subst e0_1
  obtain ⟨a0_2, e0_2, rfl, w_a0_2⟩ := DataW.trod_int Try.underlying3 hz0_2
  simp only [List.cons.injEq, and_true] at e0_2
  subst e0_2
  obtain ⟨a1, rfl, rfl, rfl, o1⟩ := open_string Try.underlying9 (hval 1 9 v1 rfl rfl) h1
  have y1 : a1.size ≤ 140737488351232 := by
    have z := sized_string hsz (j := 1) (t := 9) rfl rfl
    rw [Array.length_toList] at z
    exact z
  obtain ⟨a2, rfl, rfl, rfl, w_a2⟩ := open_int Try.underlying3 (hval 2 3 v2 rfl rfl) h2
  clear hA0 hval0 hsz0 hsz
  refine (walk a0_0 a0_1 a0_2 a1 a2 W w_a0_0 w_a0_1 w_a0_2 y1 w_a2).mono fun e W' ⟨he, bel⟩ => ?_
  subst he
  exact ⟨_, rfl, _, _, _, [], _, [], hW', trodAll_mk1 (shut_bool Try.underlying4 _), (trodAll_cons_mk (shut_agg3 (y0 := (.lit (.int .i64 a0_0), [])) (y1 := (.lit (.int .i64 a0_1), [])) (y2 := (.lit (.int .i64 a0_2), [])) Try.underlying23 (by kernel_rfl) cells23 (trodi _ _ _ w_a0_0) (trodi _ _ _ w_a0_1) (trodi _ _ _ w_a0_2)) (trodAll_cons_mk (shut_string Try.underlying9 o1) (trodAll_cons_mk (shut_int Try.underlying3 w_a2) trodAll_mk0))), rfl, bel.frame _, fun h => by cases h⟩
theorem over : Rows.addressBytesRow.holds Try.pinned (OpenSpec.ofChange Rows.addressBytesSpec) :=
  OpenClaim.holds_of_wide 6 Try.f6 rfl rfl rfl rfl rfl rfl rfl ⟨rfl, rfl, rfl, rfl, rfl⟩ rfl rfl rfl rfl rfl (by kernel_rfl) Try.func6 (by kernel_rfl)
    (of_decide_eq_true (by kernel_rfl)) (by unfold Func.isWrapper; first | (rw [if_pos (by decide +kernel)]; kernel_rfl) | (rw [if_neg (by decide +kernel)]; exact ⟨rfl, rfl⟩))
    (fun os started H enc _ => lifted os started H enc)
theorem proved : Rows.AddressBytesSaid := over
#print axioms proved
end Go.Proofs.Ytlkddpcdgofbjaa.addressBytes
namespace Go.Proofs.Ytlkddpcdgofbjaa
/-- The row, under a short name, for the claim. -/
theorem addressBytes_holds : Rows.AddressBytesSaid := addressBytes.proved
end Go.Proofs.Ytlkddpcdgofbjaa
