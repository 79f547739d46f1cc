/- Format of the package address, walked by hand. -/
import Derived.Test.YtlkddpcdgofbjaaDoorEnc
namespace Go.Proofs.YtlkddpcdgofbjaaDoor.Hand
open Go.RowKit Go.Proofs.YtlkddpcdgofbjaaDoorW.PrintWords

theorem dig1 : ∀ m : Fin 10, (⟨(Lib.decDigits m.val).toArray⟩ : ByteArray) = strOfNums [48 + (m.val : Int)] := by decide +kernel

theorem itoa_dig (x : Int) (w : World) (h0 : 0 ≤ x) (h1 : x < 10) :
    Calls Tryd.prog 24 #[.int .i64 x] w fun e w' => e = .returned (.string (strOfNums [48 + x])) ∧ w' = w := by
  obtain ⟨i, rfl⟩ := Int.eq_ofNat_of_zero_le h0
  rw [← dig1 ⟨i, by omega⟩]
  exact Tryd.strconv_Itoa_small i (by omega) w

theorem nums_append (l m : List Int) : strOfNums l ++ strOfNums m = strOfNums (l ++ m) := by
  apply ByteArray.ext
  apply Array.toList_inj.1
  simp [strOfNums_data, ByteArray.data_append]
theorem nums_two (a b : Int) : strOfNums [a] ++ strOfNums [b] = strOfNums [a, b] := nums_append [a] [b]
theorem nums_colon (a b : Int) : strOfNums [a, b] ++ ⟨#[58]⟩ = strOfNums [a, b, 58] := nums_append [a, b] [58]

set_option maxHeartbeats 1000000 in
set_option maxRecDepth 100000 in
theorem fmt1_any (n : Int) (w : World) (h0 : 0 ≤ n) (h1 : n < 100) :
    Calls Tryd.prog 23 #[.int .i64 n] w fun e w' => e = .returned (.string (strOfNums [48 + n / 10, 48 + n % 10, 58])) ∧ Below w.heap.size w w' := by
  go_enter Tryd.func23, Tryd.ntmps23
  go_wp2_with (go_at_call 24; refine (itoa_dig _ _ (by omega) (by omega)).mono ?_; rintro e w1 ⟨rfl, rfl⟩)
  go_ret
  exact ⟨congrArg (fun s => Ending.returned (.string s)) (by rw [nums_two, nums_colon]), Below.refl _ _⟩

set_option maxHeartbeats 2000000 in
set_option maxRecDepth 100000 in
theorem writeFmt_any (a b c : Int) (w : World) (h1 : 0 ≤ a) (h2 : a < 100) (h3 : 0 ≤ b) (h4 : b < 60) (h5 : 0 ≤ c) (h6 : c < 75) :
    Calls Tryd.prog 19 #[.agg #[.int .i64 a, .int .i64 b, .int .i64 c], .func (.func 23) #[] #[]] w fun e w' => e = .returned (.string (strOfNums [48 + a / 10, 48 + a % 10, 58, 48 + b / 10, 48 + b % 10, 58, 48 + c / 10, 48 + c % 10, 58])) ∧ Below w.heap.size w w' := by
  have i0 : ∀ w, (Instr.index 51 (.agg #[.int .i64 a, .int .i64 b, .int .i64 c]) (.int .i64 0)).run Tryd.prog w = .ok (.int .i64 a) w := fun _ => by kernel_rfl
  have i1 : ∀ w, (Instr.index 51 (.agg #[.int .i64 a, .int .i64 b, .int .i64 c]) (.int .i64 1)).run Tryd.prog w = .ok (.int .i64 b) w := fun _ => by kernel_rfl
  have i2 : ∀ w, (Instr.index 51 (.agg #[.int .i64 a, .int .i64 b, .int .i64 c]) (.int .i64 2)).run Tryd.prog w = .ok (.int .i64 c) w := fun _ => by kernel_rfl
  have hI : Bd w [] ((w.alloc (.cells #[.int .i64 a, .int .i64 b, .int .i64 c] 23)).alloc (.cells #[.pointer none, .slice none 0 0] 63)) := by
    refine ⟨?_, by go_grown, by simp⟩
    have := Lib.fresh_isBuilder 63 5 (w.alloc (.cells #[.int .i64 a, .int .i64 b, .int .i64 c] 23))
    simpa [Lib.strCells, strOfNums] using this
  go_enter Tryd.func19, Tryd.ntmps19
  go_wp2_with (go_at_call 32; refine (split_any a b c _).mono ?_; rintro e w1 ⟨rfl, hb1⟩)
  replace hI := hI.below hb1
  clear hb1
  refine wp_loop_rounds 4 ?_
  rw [rounds_succ]
  go_wp2_with (first | (go_at_call 23; refine (fmt1_any a _ h1 h2).mono ?_; rintro e w2 ⟨rfl, hb2⟩; replace hI := hI.below hb2; clear hb2) | (go_at_call 34; refine (hI.write _ (by simp)).mono ?_; rintro e w3 ⟨⟨v3, rfl⟩, hI3⟩; clear hI; have hI := hI3; clear hI3))
  rw [rounds_succ]
  go_wp2_with (first | (go_at_call 23; refine (fmt1_any b _ h3 (by omega)).mono ?_; rintro e w4 ⟨rfl, hb2⟩; replace hI := hI.below hb2; clear hb2) | (go_at_call 34; refine (hI.write _ (by simp)).mono ?_; rintro e w5 ⟨⟨v5, rfl⟩, hI3⟩; clear hI; have hI := hI3; clear hI3))
  rw [rounds_succ]
  go_wp2_with (first | (go_at_call 23; refine (fmt1_any c _ h5 (by omega)).mono ?_; rintro e w6 ⟨rfl, hb2⟩; replace hI := hI.below hb2; clear hb2) | (go_at_call 34; refine (hI.write _ (by simp)).mono ?_; rintro e w7 ⟨⟨v7, rfl⟩, hI3⟩; clear hI; have hI := hI3; clear hI3))
  rw [rounds_succ]
  go_wp2_with (go_at_call 35; refine hI.string.mono ?_; rintro e w8 ⟨rfl, hb8⟩)
  go_ret
  exact ⟨rfl, hb8⟩

/-- The text of an address, as numbers. -/
def fmtNums (a b c : Int) : List Int := [48 + a / 10, 48 + a % 10, 58, 48 + b / 10, 48 + b % 10, 58, 48 + c / 10, 48 + c % 10]

theorem trim_fmt (a b c : Int) (w : World) :
    Calls Tryd.prog 22 #[.string (strOfNums [48 + a / 10, 48 + a % 10, 58, 48 + b / 10, 48 + b % 10, 58, 48 + c / 10, 48 + c % 10, 58]), .string ⟨#[58]⟩] w fun e w' => e = .returned (.string (strOfNums (fmtNums a b c))) ∧ w' = w := by
  refine (Tryd.strings_TrimSuffix _ _ w (by rw [size_nums]; simp)).mono ?_
  rintro e w' ⟨rfl, rfl⟩
  refine ⟨?_, rfl⟩
  refine congrArg (fun s => Ending.returned (.string s)) ?_
  apply ByteArray.ext
  apply Array.toList_inj.1
  rw [strOfNums_data, strOfNums_data]
  rfl

def address_Format.f (a b c : Int) : Option (ByteArray × Int) := some (if okB a b c = true then (strOfNums (fmtNums a b c), 0) else (⟨#[]⟩, 1))

set_option maxHeartbeats 2000000 in
set_option maxRecDepth 100000 in
theorem address_Format.calls (a b c : Int) (r1 : ByteArray) (r2 : Int) (w : World) (h : address_Format.f a b c = some (r1, r2)) :
    Calls Tryd.prog 10 #[.agg #[.int .i64 a, .int .i64 b, .int .i64 c]] w fun e w' => e = .returned (.tuple #[.string r1, .int .i64 r2]) ∧ Below w.heap.size w w' := by
  have H := Option.some.inj h
  clear h
  by_cases hv : okB a b c = true
  · rw [if_pos hv] at H
    obtain ⟨rfl, rfl⟩ := Prod.mk.inj H
    clear H
    have hk := Lib.hid (okB_true hv)
    have HV := Lib.hid hv
    clear hv
    go_enter Tryd.func10, Tryd.ntmps10
    go_wp2_with (first | (go_at_call 17; refine (address_Valid.calls a b c true _ (by rw [← HV.out]; rfl)).mono ?_; rintro e w1 ⟨rfl, hb1⟩; have hc0 := (boxed hb1 0).trans rfl; have hc1 := (boxed hb1 1).trans rfl; have hc2 := (boxed hb1 2).trans rfl; have hw1 : Below w.heap.size w w1 := step (by go_grown) hb1; clear hb1) | (go_at_call 19; refine (writeFmt_any a b c _ hk.out.1 hk.out.2.1 hk.out.2.2.1 hk.out.2.2.2.1 hk.out.2.2.2.2.1 hk.out.2.2.2.2.2).mono ?_; rintro e w2 ⟨rfl, hb2⟩) | (go_at_call 22; refine (trim_fmt a b c _).mono ?_; rintro e w3 ⟨rfl, rfl⟩))
    go_ret2
    exact ⟨rfl, step hw1 hb2⟩
  · rw [if_neg hv] at H
    obtain ⟨rfl, rfl⟩ := Prod.mk.inj H
    clear H
    have HV := Lib.hid ((Bool.not_eq_true _).mp hv)
    clear hv
    go_enter Tryd.func10, Tryd.ntmps10
    go_wp2_with (go_at_call 17; refine (address_Valid.calls a b c false _ (by rw [← HV.out]; rfl)).mono ?_; rintro e w1 ⟨rfl, hb1⟩)
    go_ret2
    exact ⟨rfl, step (by go_grown) hb1⟩

end Go.Proofs.YtlkddpcdgofbjaaDoor.Hand
