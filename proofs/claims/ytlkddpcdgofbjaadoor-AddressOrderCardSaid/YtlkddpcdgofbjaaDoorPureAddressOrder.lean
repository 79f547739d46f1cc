/- The plain law of AddressOrder: for any two addresses, the printed law comes to true. -/
import Derived.Test.YtlkddpcdgofbjaaDoorPk
import Derived.Lib.Strings
namespace Go.Proofs.YtlkddpcdgofbjaaDoor.Pure
open Go.RowKit Go.Proofs.YtlkddpcdgofbjaaDoor.Hand Go.Proofs.YtlkddpcdgofbjaaDoor.Q Go.Proofs.YtlkddpcdgofbjaaDoorW.PrintWords

/-- The order of two texts, as numbers. -/
def lexB : List Int → List Int → Bool
  | [], [] => false
  | [], _ :: _ => true
  | _ :: _, [] => false
  | x :: l, y :: m => if x < y then true else if y < x then false else lexB l m
def small (l : List Int) : Prop := ∀ x ∈ l, 0 ≤ x ∧ x ≤ 255

theorem toList_nums (l : List Int) : (strOfNums l).toList = l.map fun x => UInt8.ofNat x.toNat := by
  rw [Lib.toList_data, strOfNums_data]

theorem less_lex : ∀ (l m : List Int), small l → small m → Op.bytesLess (l.map fun x => UInt8.ofNat x.toNat) (m.map fun x => UInt8.ofNat x.toNat) = lexB l m
  | [], [], _, _ => rfl
  | [], _ :: _, _, _ => rfl
  | _ :: _, [], _, _ => rfl
  | x :: l, y :: m, hl, hm => by
    have ih := less_lex l m (fun z hz => hl z (List.mem_cons_of_mem _ hz)) (fun z hz => hm z (List.mem_cons_of_mem _ hz))
    have hx := hl x (List.mem_cons_self ..)
    have hy := hm y (List.mem_cons_self ..)
    have ex : (UInt8.ofNat x.toNat).toNat = x.toNat := by rw [UInt8.toNat_ofNat']; omega
    have ey : (UInt8.ofNat y.toNat).toNat = y.toNat := by rw [UInt8.toNat_ofNat']; omega
    simp only [List.map_cons, Op.bytesLess, lexB]
    rw [ih]
    by_cases h1 : x < y
    · rw [if_pos h1, decide_eq_true (UInt8.lt_iff_toNat_lt.2 (by omega))]
      rfl
    · rw [if_neg h1, decide_eq_false (fun h => by have := UInt8.lt_iff_toNat_lt.1 h; omega)]
      by_cases h2 : y < x
      · rw [if_pos h2]
        have : (UInt8.ofNat x.toNat == UInt8.ofNat y.toNat) = false := beq_eq_false_iff_ne.2 fun h => by
          have := congrArg UInt8.toNat h
          omega
        rw [this]
        rfl
      · rw [if_neg h2]
        obtain rfl : x = y := by omega
        simp

theorem lex_one {x y : Int} (l m : List Int) (f : Int → Int) (hm : x < y → f x < f y) (hm' : y < x → f y < f x) : lexB (f x :: l) (f y :: m) = if x < y then true else if y < x then false else lexB l m := by
  simp only [lexB]
  by_cases h1 : x < y
  · rw [if_pos h1, if_pos (hm h1)]
  · rw [if_neg h1]
    by_cases h2 : y < x
    · have := hm' h2
      rw [if_pos h2, if_neg (by omega), if_pos this]
    · obtain rfl : x = y := by omega
      rw [if_neg h1, if_neg (by omega), if_neg (by omega)]
theorem lex_two {x y : Int} (l m : List Int) (_hx : 0 ≤ x) (hy : 0 ≤ y) : lexB ((48 + x / 10) :: (48 + x % 10) :: l) ((48 + y / 10) :: (48 + y % 10) :: m) = if x < y then true else if y < x then false else lexB l m := by
  simp only [lexB]
  by_cases h1 : x < y
  · rw [if_pos h1]
    by_cases h3 : x / 10 < y / 10
    · rw [if_pos (by omega)]
    · rw [if_neg (by omega), if_neg (by omega), if_pos (by omega)]
  · rw [if_neg h1]
    by_cases h2 : y < x
    · rw [if_pos h2]
      by_cases h3 : y / 10 < x / 10
      · rw [if_neg (by omega), if_pos (by omega)]
      · rw [if_neg (by omega), if_neg (by omega), if_neg (by omega), if_pos (by omega)]
    · obtain rfl : x = y := by omega
      simp
theorem lex_same (z : Int) (l m : List Int) : lexB (z :: l) (z :: m) = lexB l m := by simp [lexB]

/-- The order of two addresses, part by part. -/
theorem parts_order {a b c d e f : Int} (h : okB a b c = true) (k : okB d e f = true) :
    (if a < d then true else if d < a then false else if b < e then true else if e < b then false else if c < f then true else if f < c then false else false) = decide (4500 * a + 75 * b + c - 150 < 4500 * d + 75 * e + f - 150) := by
  have h := okB_true h
  have k := okB_true k
  by_cases h1 : a < d
  · rw [if_pos h1, decide_eq_true (by omega)]
  · rw [if_neg h1]
    by_cases h2 : d < a
    · rw [if_pos h2, decide_eq_false (by omega)]
    · rw [if_neg h2]
      by_cases h3 : b < e
      · rw [if_pos h3, decide_eq_true (by omega)]
      · rw [if_neg h3]
        by_cases h4 : e < b
        · rw [if_pos h4, decide_eq_false (by omega)]
        · rw [if_neg h4]
          by_cases h5 : c < f
          · rw [if_pos h5, decide_eq_true (by omega)]
          · rw [if_neg h5, decide_eq_false (by omega), ite_self]

theorem encode_yes {a b c : Int} (h : okB a b c = true) : address_Encode.f a b c = some (strOfNums [a / 10 * 16 + a % 10, b / 10 * 16 + b % 10, c / 10 * 16 + c % 10], 0) := by
  unfold address_Encode.f
  rw [if_pos h]
theorem format_yes {a b c : Int} (h : okB a b c = true) : address_Format.f a b c = some (strOfNums (fmtNums a b c), 0) := by
  unfold address_Format.f
  rw [if_pos h]

theorem bytes_order {a b c d e f : Int} (h : okB a b c = true) (k : okB d e f = true) :
    Op.bytesLess (strOfNums [a / 10 * 16 + a % 10, b / 10 * 16 + b % 10, c / 10 * 16 + c % 10]).toList (strOfNums [d / 10 * 16 + d % 10, e / 10 * 16 + e % 10, f / 10 * 16 + f % 10]).toList = decide (4500 * a + 75 * b + c - 150 < 4500 * d + 75 * e + f - 150) := by
  have h' := okB_true h
  have k' := okB_true k
  rw [toList_nums, toList_nums, less_lex _ _ (by intro x hx; simp at hx; omega) (by intro x hx; simp at hx; omega)]
  rw [lex_one (x := a) (y := d) _ _ (fun x => x / 10 * 16 + x % 10) (by intro q; omega) (by intro q; omega)]
  rw [lex_one (x := b) (y := e) _ _ (fun x => x / 10 * 16 + x % 10) (by intro q; omega) (by intro q; omega)]
  rw [lex_one (x := c) (y := f) _ _ (fun x => x / 10 * 16 + x % 10) (by intro q; omega) (by intro q; omega)]
  exact parts_order h k

theorem text_order {a b c d e f : Int} (h : okB a b c = true) (k : okB d e f = true) :
    Op.bytesLess (strOfNums (fmtNums a b c)).toList (strOfNums (fmtNums d e f)).toList = decide (4500 * a + 75 * b + c - 150 < 4500 * d + 75 * e + f - 150) := by
  have h' := okB_true h
  have k' := okB_true k
  unfold fmtNums
  rw [toList_nums, toList_nums, less_lex _ _ (by intro x hx; simp at hx; omega) (by intro x hx; simp at hx; omega)]
  rw [lex_two _ _ h'.1 k'.1, lex_same, lex_two _ _ h'.2.2.1 k'.2.2.1, lex_same, lex_two _ _ h'.2.2.2.2.1 k'.2.2.2.2.1]
  exact parts_order h k

theorem AddressOrder (a b c d e f : Int) (_ : (Lit.int .i64 a).wf = true) (_ : (Lit.int .i64 b).wf = true) (_ : (Lit.int .i64 c).wf = true) (_ : (Lit.int .i64 d).wf = true) (_ : (Lit.int .i64 e).wf = true) (_ : (Lit.int .i64 f).wf = true) : ∃ k, masterdisclaw06_AddressOrder.f k a b c d e f = some true := by
  refine ⟨2, ?_⟩
  unfold masterdisclaw06_AddressOrder.f
  rw [awake_f]
  simp only [Option.bind_some, if_true]
  have no : ∀ x y : Int, ¬ (okB a b c = true ∧ okB d e f = true) → masterdisclaw06_AddressOrder.j0 2 x y true a b c d e f = some true := by
    intro x y hn
    simp only [masterdisclaw06_AddressOrder.j0, if_true]
    rw [dist_f 0, if_neg hn]
    rfl
  cases h : okB a b c
  · rw [tolba_no h]
    have hr : ∃ r, address_ToLBA.f d e f = some r := by
      cases k : okB d e f
      · exact ⟨_, tolba_no k⟩
      · exact ⟨_, tolba_yes k⟩
    obtain ⟨r, hr⟩ := hr
    rw [hr]
    simp only [Option.bind_some]
    rw [if_neg (by omega)]
    exact no _ _ (by rw [h]; simp)
  · cases k : okB d e f
    · rw [tolba_yes h, tolba_no k]
      simp only [Option.bind_some, if_true]
      exact no _ _ (by rw [k]; simp)
    · have h' := okB_true h
      have k' := okB_true k
      rw [tolba_yes h, tolba_yes k]
      simp only [Option.bind_some, if_true, bne_self_eq_false, masterdisclaw06_AddressOrder.j0, Bool.false_eq_true, if_false]
      rw [encode_yes h, encode_yes k, format_yes h, format_yes k, dist_f 0, if_pos ⟨h, k⟩]
      simp only [Option.bind_some]
      rw [move_to (x := d) (y := e) (z := f) h (by omega) k (by omega)]
      simp only [Option.bind_some, if_true]
      rw [bytes_order h k, text_order h k, w64 (by omega) (by omega)]
      rw [if_pos (by simp), if_pos (by simp), if_pos ?_, if_pos (by omega)]
      · simp
      · rw [beq_iff_eq, Bool.eq_iff_iff]
        simp only [Bool.and_eq_true, beq_iff_eq]
        omega
end Go.Proofs.YtlkddpcdgofbjaaDoor.Pure
