/- The contract of datetime.digits, walked by hand: two digits of a number below 100, four of a year. -/
import Derived.Test.YtnchkpheepbacaaDoorDa
import Derived.WalkSmall
namespace Go.Proofs.YtnchkpheepbacaaDoor.Hand
open Go.RowKit Go.Proofs.YtnchkpheepbacaaDoorW.PrintWords

def dg (n : Nat) : UInt8 := UInt8.ofNat (48 + n)
theorem cat2 (x : UInt8) : (⟨#[48]⟩ ++ ⟨#[x]⟩ : ByteArray) = ⟨#[48, x]⟩ := by
  apply ByteArray.ext
  simp

/-- The library's table of powers of ten holds what its text lays. -/
structure HG (w : World) : Prop where
  tab : Lib.TabIs Tryd.prog w "internal/strconv.uint64pow10" .u64 Lib.pow10Tab
theorem gPow : Tryd.prog.globalNamed "internal/strconv.uint64pow10" = some 2 := by kernel_rfl
theorem tab_kept {P : Program} {w w' : World} {g : Nat} {n : String} {k : IntKind} {zs : List Int} (hg : P.globalNamed n = some g) (h : Lib.TabIs P w n k zs) (hb : Below w.heap.size w w') : Lib.TabIs P w' n k zs := by
  unfold Lib.TabIs World.var? at h ⊢
  rw [hg] at h ⊢
  simp only [Option.bind_some] at h ⊢
  have hlt : g < w.heap.size := by
    rcases Nat.lt_or_ge g w.heap.size with h' | h'
    · exact h'
    · rw [Array.getElem?_eq_none h'] at h; cases h
  rw [hb.block g hlt]
  exact h
theorem HG.below {w w' : World} (h : HG w) (hb : Below w.heap.size w w') : HG w' := ⟨tab_kept gPow h.tab hb⟩

theorem below_grow (w : World) (n : Nat) (os : Array Obj) : Below w.heap.size w (Go.Sort.grow (w.drewN n) os) :=
  ⟨rfl, rfl, rfl, by simp [Go.Sort.grow], fun k hk => by simp [Go.Sort.grow, Array.getElem?_append, hk]⟩

theorem dig2 : ∀ m : Fin 100, Lib.decDigits m.val = if m.val < 10 then [dg (m.val)] else [dg (m.val / 10), dg (m.val % 10)] := by decide +kernel

set_option maxHeartbeats 1000000 in
set_option maxRecDepth 100000 in
theorem digits_one (i : Nat) (w : World) (hi : i < 10) :
    Calls Tryd.prog 48 #[.int .i64 i, .int .i64 2] w fun e w' => e = .returned (.string ⟨#[48, dg (i)]⟩) ∧ Below w.heap.size w w' := by
  have hd : Lib.decDigits i = [dg (i)] := by rw [dig2 ⟨i, by omega⟩]; exact if_pos (show i < 10 from hi)
  have HD := Lib.hid hd
  clear hd
  go_enter Tryd.func48, Tryd.ntmps48
  go_wp2_with (go_at_call 58; refine (Tryd.strconv_Itoa_small i (by omega) _).mono ?_; rintro e w1 ⟨rfl, rfl⟩; rw [HD.out])
  refine wp_loop_rounds 2 ?_
  rw [rounds_succ]
  go_wp2
  rw [rounds_succ]
  go_wp2
  go_ret
  exact ⟨congrArg (fun s => Ending.returned (.string s)) (cat2 _), Below.refl _ _⟩

set_option maxHeartbeats 1000000 in
set_option maxRecDepth 100000 in
theorem digits_two (i : Nat) (w : World) (h0 : 10 ≤ i) (hi : i < 100) :
    Calls Tryd.prog 48 #[.int .i64 i, .int .i64 2] w fun e w' => e = .returned (.string ⟨#[dg (i / 10), dg (i % 10)]⟩) ∧ Below w.heap.size w w' := by
  have hd : Lib.decDigits i = [dg (i / 10), dg (i % 10)] := by rw [dig2 ⟨i, hi⟩]; exact if_neg (show ¬ (i < 10) by omega)
  have HD := Lib.hid hd
  clear hd
  go_enter Tryd.func48, Tryd.ntmps48
  go_wp2_with (go_at_call 58; refine (Tryd.strconv_Itoa_small i (by omega) _).mono ?_; rintro e w1 ⟨rfl, rfl⟩; rw [HD.out])
  refine wp_loop_rounds 1 ?_
  rw [rounds_succ]
  go_wp2
  go_ret
  exact ⟨rfl, Below.refl _ _⟩

theorem dig4 (n : Nat) (h0 : 1900 ≤ n) (h1 : n ≤ 2199) : Lib.itoa n = [dg (n / 1000), dg (n / 100 % 10), dg (n / 10 % 10), dg (n % 10)] := by
  have all : ∀ m : Fin 300, Lib.itoa ((m.val + 1900 : Nat) : Int) = [dg ((m.val + 1900) / 1000), dg ((m.val + 1900) / 100 % 10), dg ((m.val + 1900) / 10 % 10), dg ((m.val + 1900) % 10)] := by decide +kernel
  have := all ⟨n - 1900, by omega⟩
  simp only [show n - 1900 + 1900 = n by omega] at this
  exact this

set_option maxHeartbeats 1000000 in
set_option maxRecDepth 100000 in
theorem digits_four (i : Nat) (w : World) (hG : HG w) (h0 : 1900 ≤ i) (hi : i ≤ 2199) :
    Calls Tryd.prog 48 #[.int .i64 i, .int .i64 4] w fun e w' => e = .returned (.string ⟨#[dg (i / 1000), dg (i / 100 % 10), dg (i / 10 % 10), dg (i % 10)]⟩) ∧ Below w.heap.size w w' := by
  have HD := Lib.hid (dig4 i h0 hi)
  go_enter Tryd.func48, Tryd.ntmps48
  go_wp2_with (go_at_call 58; refine (Tryd.strconv_Itoa i (by omega) (by omega) _ hG.tab).mono ?_; rintro e w1 ⟨rfl, k, os, rfl⟩; rw [HD.out])
  refine wp_loop_rounds 1 ?_
  rw [rounds_succ]
  go_wp2
  go_ret
  exact ⟨rfl, below_grow _ _ _⟩

/-- Digits as numbers. -/
theorem str2 (a b : Nat) : (⟨#[dg a, dg b]⟩ : ByteArray) = strOfNums [48 + (a : Int), 48 + (b : Int)] := by
  apply ByteArray.ext
  apply Array.toList_inj.1
  rw [strOfNums_data]
  simp only [List.map_cons, List.map_nil, dg]
  rw [show (48 + (a : Int)).toNat = 48 + a by omega, show (48 + (b : Int)).toNat = 48 + b by omega]
theorem str4 (a b c d : Nat) : (⟨#[dg a, dg b, dg c, dg d]⟩ : ByteArray) = strOfNums [48 + (a : Int), 48 + (b : Int), 48 + (c : Int), 48 + (d : Int)] := by
  apply ByteArray.ext
  apply Array.toList_inj.1
  rw [strOfNums_data]
  simp only [List.map_cons, List.map_nil, dg]
  rw [show (48 + (a : Int)).toNat = 48 + a by omega, show (48 + (b : Int)).toNat = 48 + b by omega, show (48 + (c : Int)).toNat = 48 + c by omega, show (48 + (d : Int)).toNat = 48 + d by omega]

def datetime_digits.f (n k : Int) : Option ByteArray :=
  if k = 2 ∧ 0 ≤ n ∧ n < 100 then some (strOfNums [48 + n / 10, 48 + n % 10])
  else if k = 4 ∧ 1900 ≤ n ∧ n ≤ 2199 then some (strOfNums [48 + n / 1000, 48 + n / 100 % 10, 48 + n / 10 % 10, 48 + n % 10]) else none

theorem datetime_digits.calls (n k : Int) (r : ByteArray) (w : World) (hG_ : HG w) (h : datetime_digits.f n k = some r) :
    Calls Tryd.prog 48 #[.int .i64 n, .int .i64 k] w fun e w' => e = .returned (.string r) ∧ Below w.heap.size w w' := by
  unfold datetime_digits.f at h
  by_cases h2 : k = 2 ∧ 0 ≤ n ∧ n < 100
  · rw [if_pos h2] at h
    obtain rfl := Option.some.inj h
    obtain ⟨rfl, h0, h1⟩ := h2
    obtain ⟨i, rfl⟩ := Int.eq_ofNat_of_zero_le h0
    by_cases hi : i < 10
    · have e := str2 0 i
      rw [show strOfNums [48 + (i : Int) / 10, 48 + (i : Int) % 10] = (⟨#[48, dg i]⟩ : ByteArray) from by rw [show (i : Int) / 10 = ((0 : Nat) : Int) by omega, show (i : Int) % 10 = (i : Int) by omega]; exact e.symm]
      exact digits_one i w hi
    · have e := str2 (i / 10) (i % 10)
      rw [show strOfNums [48 + (i : Int) / 10, 48 + (i : Int) % 10] = (⟨#[dg (i / 10), dg (i % 10)]⟩ : ByteArray) from e.symm]
      exact digits_two i w (by omega) (by omega)
  · rw [if_neg h2] at h
    by_cases h4 : k = 4 ∧ 1900 ≤ n ∧ n ≤ 2199
    · rw [if_pos h4] at h
      obtain rfl := Option.some.inj h
      obtain ⟨rfl, h0, h1⟩ := h4
      obtain ⟨i, rfl⟩ := Int.eq_ofNat_of_zero_le (show 0 ≤ n by omega)
      have e := str4 (i / 1000) (i / 100 % 10) (i / 10 % 10) (i % 10)
      rw [show strOfNums [48 + (i : Int) / 1000, 48 + (i : Int) / 100 % 10, 48 + (i : Int) / 10 % 10, 48 + (i : Int) % 10] = (⟨#[dg (i / 1000), dg (i / 100 % 10), dg (i / 10 % 10), dg (i % 10)]⟩ : ByteArray) from e.symm]
      exact digits_four i w hG_ (by omega) (by omega)
    · rw [if_neg h4] at h
      exact absurd h (by simp)
end Go.Proofs.YtnchkpheepbacaaDoor.Hand
