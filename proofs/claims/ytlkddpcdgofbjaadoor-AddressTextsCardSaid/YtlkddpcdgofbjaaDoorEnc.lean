/- Encode, join and Decode of the package address, walked by hand. -/
import Derived.Test.YtlkddpcdgofbjaaDoorHand
import Derived.Test.YtlkddpcdgofbjaaDoorBuild
import Derived.Lib.ConvBytes
import Derived.Deep.QuietTactic
import Derived.BigQuiet
import Derived.Deep.RegionWith
import Derived.Test.YtlkddpcdgofbjaaDoorWWords
namespace Go.Proofs.YtlkddpcdgofbjaaDoor.Hand
open Go.RowKit Go.Proofs.YtlkddpcdgofbjaaDoorW.PrintWords

theorem bcd_eq (n : Int) (h0 : 0 ≤ n) (h1 : n < 100) : bits BinOp.or IntKind.i64 (n / 10 * 16) (n % 10) % 256 = n / 10 * 16 + n % 10 := by
  obtain ⟨k, rfl⟩ := Int.eq_ofNat_of_zero_le h0
  have hk : k < 100 := by omega
  have all : ∀ m : Fin 100, bits BinOp.or IntKind.i64 ((m.val : Int) / 10 * 16) ((m.val : Int) % 10) % 256 = (m.val : Int) / 10 * 16 + (m.val : Int) % 10 := by decide +kernel
  exact all ⟨k, hk⟩

set_option maxHeartbeats 1000000 in
set_option maxRecDepth 100000 in
theorem bcd_any (n : Int) (w : World) (h0 : 0 ≤ n) (h1 : n < 100) :
    Calls Tryd.prog 21 #[.int .i64 n] w fun e w' => e = .returned (.tuple #[.int .u8 (n / 10 * 16 + n % 10), .int .i64 0]) ∧ w = w' := by
  have hb := Lib.hid (bcd_eq n h0 h1)
  have n1 : ¬ (n < 0) := by omega
  have n2 : ¬ (99 < n) := by omega
  go_enter Tryd.func21, Tryd.ntmps21
  go_wp2
  go_ret2
  exact ⟨by rw [← hb.out]; rfl, rfl⟩

set_option maxHeartbeats 1000000 in
set_option maxRecDepth 100000 in
theorem enc1_any (n : Int) (w : World) (h0 : 0 ≤ n) (h1 : n < 100) :
    Calls Tryd.prog 20 #[.int .i64 n] w fun e w' => e = .returned (.string (strOfNums [n / 10 * 16 + n % 10])) ∧ Below w.heap.size w w' := by
  have cv := run_convert_bytes_arg (P := Tryd.prog) (w.alloc (.cells #[.int .u8 (n / 10 * 16 + n % 10)] 5)) 44 5 Tryd.underlying44 Tryd.underlying5 w.heap.size 0 1 1 [n / 10 * 16 + n % 10] rfl (fun i hi => by (obtain rfl : i = 0 := by omega); simp) 9 Tryd.underlying9
  go_enter Tryd.func20, Tryd.ntmps20
  go_wp2_with (go_at_call 21; refine (bcd_any n _ h0 h1).mono ?_; rintro e w1 ⟨rfl, rfl⟩)
  go_ret
  exact ⟨rfl, by go_grown⟩

theorem builderAt_below {T e : TypeId} {B b : Nat} {p : Value} {bs : List Value} {w w1 : World} (h : Lib.BuilderAt T e B b p bs w) (k : Below w.heap.size w w1) : Lib.BuilderAt T e B b p bs w1 := by
  have hlt := h.lt
  obtain ⟨hB, v, hb, hown, hne⟩ := h
  refine ⟨hB, v, (k.block b hlt).trans hb, ?_, hne⟩
  refine ⟨hown.1, ?_⟩
  rcases hown.2 with h0 | ⟨g, cap, cur, hv, hg, hc, r⟩
  · exact Or.inl h0
  · have hgl : g < w.heap.size := by
      rcases Nat.lt_or_ge g w.heap.size with h' | h'
      · exact h'
      · simp [Array.getElem?_eq_none h'] at hc
    exact Or.inr ⟨g, cap, cur, hv, hg, (k.block g hgl).trans hc, r⟩

theorem isBuilder_below {T e : TypeId} {B b : Nat} {bs : List Value} {w w1 : World} (h : Lib.IsBuilder T e B b bs w) (k : Below w.heap.size w w1) : Lib.IsBuilder T e B b bs w1 :=
  h.elim (fun h => Or.inl (builderAt_below h k)) (fun h => Or.inr (builderAt_below h k))

/-- The builder of a call that began in w, in the block behind the first one. -/
def Bd (w : World) (l : List Int) (w1 : World) : Prop := Lib.IsBuilder 63 5 (w.heap.size + 1) (w.heap.size + 1) (Lib.strCells (strOfNums l)) w1 ∧ Below w.heap.size w w1 ∧ w.heap.size + 1 ≤ w1.heap.size

theorem Bd.below {w w1 w2 : World} {l : List Int} (h : Bd w l w1) (k : Below w1.heap.size w1 w2) : Bd w l w2 :=
  ⟨isBuilder_below h.1 k, step h.2.1 k, Nat.le_trans h.2.2 k.size⟩

theorem strCells_nums (l : List Int) : Lib.strCells (strOfNums l) = Lib.byteCells (l.map fun x => UInt8.ofNat x.toNat) := by
  simp [Lib.strCells, Lib.byteCells, strOfNums_data, List.map_map]

theorem strCells_append (l m : List Int) : Lib.strCells (strOfNums l) ++ Lib.strCells (strOfNums m) = Lib.strCells (strOfNums (l ++ m)) := by
  simp [strCells_nums, Lib.byteCells]

theorem strCells_len (l : List Int) : (Lib.strCells (strOfNums l)).length = l.length := by simp [strCells_nums, Lib.byteCells]

theorem size_nums (l : List Int) : (strOfNums l).size = l.length := by
  have := strCells_len l; rw [Lib.strCells_length] at this; exact this

theorem Bd.write {w w1 : World} {l : List Int} (h : Bd w l w1) (m : List Int) (hlen : l.length + m.length ≤ 1000) :
    Calls Tryd.prog 34 #[.pointer (some ⟨w.heap.size + 1, 0, none⟩), .string (strOfNums m)] w1 fun e w' => (∃ v, e = .returned v) ∧ Bd w (l ++ m) w' := by
  refine (writeString_any _ _ _ _ w1 h.1 (by rw [strCells_len, size_nums]; omega) h.2.2).mono ?_
  rintro e w' ⟨rfl, hb, hbel⟩
  refine ⟨⟨_, rfl⟩, Or.inr ?_, ?_, ?_⟩
  · rw [strCells_append] at hb; exact hb
  · exact h.2.1.trans (hbel.mono (by omega))
  · exact Nat.le_trans h.2.2 hbel.size

theorem Bd.string {w w1 : World} {l : List Int} (h : Bd w l w1) :
    Calls Tryd.prog 35 #[.pointer (some ⟨w.heap.size + 1, 0, none⟩)] w1 fun e w' => e = .returned (.string (strOfNums l)) ∧ Below w.heap.size w w' := by
  have h1 := h.1
  rw [strCells_nums] at h1
  refine (Tryd.Builder_String_any _ _ _ w1 h1 h.2.2).mono ?_
  rintro e w' ⟨rfl, hb⟩
  exact ⟨rfl, h.2.1.trans (hb.mono (by omega))⟩

set_option maxHeartbeats 2000000 in
set_option maxRecDepth 100000 in
theorem writeEnc_any (a b c : Int) (w : World) (h1 : 0 ≤ a) (h2 : a < 100) (h3 : 0 ≤ b) (h4 : b < 60) (h5 : 0 ≤ c) (h6 : c < 75) :
    Calls Tryd.prog 19 #[.agg #[.int .i64 a, .int .i64 b, .int .i64 c], .func (.func 20) #[] #[]] w fun e w' => e = .returned (.string (strOfNums [a / 10 * 16 + a % 10, b / 10 * 16 + b % 10, c / 10 * 16 + c % 10])) ∧ Below w.heap.size w w' := by
  have i0 : ∀ w, (Instr.index 51 (.agg #[.int .i64 a, .int .i64 b, .int .i64 c]) (.int .i64 0)).run Tryd.prog w = .ok (.int .i64 a) w := fun _ => by kernel_rfl
  have i1 : ∀ w, (Instr.index 51 (.agg #[.int .i64 a, .int .i64 b, .int .i64 c]) (.int .i64 1)).run Tryd.prog w = .ok (.int .i64 b) w := fun _ => by kernel_rfl
  have i2 : ∀ w, (Instr.index 51 (.agg #[.int .i64 a, .int .i64 b, .int .i64 c]) (.int .i64 2)).run Tryd.prog w = .ok (.int .i64 c) w := fun _ => by kernel_rfl
  have hI : Bd w [] ((w.alloc (.cells #[.int .i64 a, .int .i64 b, .int .i64 c] 23)).alloc (.cells #[.pointer none, .slice none 0 0] 63)) := by
    refine ⟨?_, by go_grown, by simp⟩
    have := Lib.fresh_isBuilder 63 5 (w.alloc (.cells #[.int .i64 a, .int .i64 b, .int .i64 c] 23))
    simpa [Lib.strCells, strOfNums] using this
  go_enter Tryd.func19, Tryd.ntmps19
  go_wp2_with (go_at_call 32; refine (split_any a b c _).mono ?_; rintro e w1 ⟨rfl, hb1⟩)
  replace hI := hI.below hb1
  clear hb1
  refine wp_loop_rounds 4 ?_
  rw [rounds_succ]
  go_wp2_with (first | (go_at_call 20; refine (enc1_any a _ h1 h2).mono ?_; rintro e w2 ⟨rfl, hb2⟩; replace hI := hI.below hb2; clear hb2) | (go_at_call 34; refine (hI.write _ (by simp)).mono ?_; rintro e w3 ⟨⟨v3, rfl⟩, hI3⟩; clear hI; have hI := hI3; clear hI3))
  rw [rounds_succ]
  go_wp2_with (first | (go_at_call 20; refine (enc1_any b _ h3 (by omega)).mono ?_; rintro e w4 ⟨rfl, hb2⟩; replace hI := hI.below hb2; clear hb2) | (go_at_call 34; refine (hI.write _ (by simp)).mono ?_; rintro e w5 ⟨⟨v5, rfl⟩, hI3⟩; clear hI; have hI := hI3; clear hI3))
  rw [rounds_succ]
  go_wp2_with (first | (go_at_call 20; refine (enc1_any c _ h5 (by omega)).mono ?_; rintro e w6 ⟨rfl, hb2⟩; replace hI := hI.below hb2; clear hb2) | (go_at_call 34; refine (hI.write _ (by simp)).mono ?_; rintro e w7 ⟨⟨v7, rfl⟩, hI3⟩; clear hI; have hI := hI3; clear hI3))
  rw [rounds_succ]
  go_wp2_with (go_at_call 35; refine hI.string.mono ?_; rintro e w8 ⟨rfl, hb8⟩)
  go_ret
  exact ⟨rfl, hb8⟩

theorem boxed {w w1 : World} {cs : Array Value} {t : TypeId} (k : Below (w.alloc (.cells cs t)).heap.size (w.alloc (.cells cs t)) w1) (j : Nat) : w1.cell? ⟨w.heap.size, j, none⟩ = cs[j]? :=
  Lib.cell_of_heap ((k.block w.heap.size (by simp)).trans (heap_alloc_new w _)) j

def address_Encode.f (a b c : Int) : Option (ByteArray × Int) := some (if okB a b c = true then (strOfNums [a / 10 * 16 + a % 10, b / 10 * 16 + b % 10, c / 10 * 16 + c % 10], 0) else (⟨#[]⟩, 1))

set_option maxHeartbeats 2000000 in
set_option maxRecDepth 100000 in
theorem address_Encode.calls (a b c : Int) (r1 : ByteArray) (r2 : Int) (w : World) (h : address_Encode.f a b c = some (r1, r2)) :
    Calls Tryd.prog 9 #[.agg #[.int .i64 a, .int .i64 b, .int .i64 c]] w fun e w' => e = .returned (.tuple #[.string r1, .int .i64 r2]) ∧ Below w.heap.size w w' := by
  have H := Option.some.inj h
  clear h
  by_cases hv : okB a b c = true
  · rw [if_pos hv] at H
    obtain ⟨rfl, rfl⟩ := Prod.mk.inj H
    clear H
    have hk := Lib.hid (okB_true hv)
    have HV := Lib.hid hv
    clear hv
    go_enter Tryd.func9, Tryd.ntmps9
    go_wp2_with (first | (go_at_call 17; refine (address_Valid.calls a b c true _ (by rw [← HV.out]; rfl)).mono ?_; rintro e w1 ⟨rfl, hb1⟩; have hc0 := (boxed hb1 0).trans rfl; have hc1 := (boxed hb1 1).trans rfl; have hc2 := (boxed hb1 2).trans rfl; have hw1 : Below w.heap.size w w1 := step (by go_grown) hb1; clear hb1) | (go_at_call 19; refine (writeEnc_any a b c _ hk.out.1 hk.out.2.1 hk.out.2.2.1 hk.out.2.2.2.1 hk.out.2.2.2.2.1 hk.out.2.2.2.2.2).mono ?_; rintro e w2 ⟨rfl, hb2⟩))
    go_ret2
    exact ⟨rfl, step hw1 hb2⟩
  · rw [if_neg hv] at H
    obtain ⟨rfl, rfl⟩ := Prod.mk.inj H
    clear H
    have HV := Lib.hid ((Bool.not_eq_true _).mp hv)
    clear hv
    go_enter Tryd.func9, Tryd.ntmps9
    go_wp2_with (go_at_call 17; refine (address_Valid.calls a b c false _ (by rw [← HV.out]; rfl)).mono ?_; rintro e w1 ⟨rfl, hb1⟩)
    go_ret2
    exact ⟨rfl, step (by go_grown) hb1⟩

set_option maxHeartbeats 2000000 in
set_option maxRecDepth 100000 in
theorem join_any (a b c : Int) (w : World) :
    Calls Tryd.prog 30 #[.agg #[.int .i64 a, .int .i64 b, .int .i64 c]] w fun e w' => e = .returned (.tuple #[.agg #[.int .i64 a, .int .i64 b, .int .i64 c], .bool (okB a b c)]) ∧ Below w.heap.size w w' := by
  have A0 := Lib.hid (by have := blk_alloc (blk_new (w.alloc (.cells #[.int .i64 a, .int .i64 b, .int .i64 c] 51)) (.cells #[.int .i64 0, .int .i64 0, .int .i64 0] 23)) (.cells #[.int .i64 a, .int .i64 b, .int .i64 c] 23)
                         simpa using this : (((w.alloc (.cells #[.int .i64 a, .int .i64 b, .int .i64 c] 51)).alloc (.cells #[.int .i64 0, .int .i64 0, .int .i64 0] 23)).alloc (.cells #[.int .i64 a, .int .i64 b, .int .i64 c] 23)).heap[w.heap.size + 1]? = some (.cells #[.int .i64 0, .int .i64 0, .int .i64 0] 23 (0, 0)))
  have A1 := Lib.hid (by have := blk_new ((w.alloc (.cells #[.int .i64 a, .int .i64 b, .int .i64 c] 51)).alloc (.cells #[.int .i64 0, .int .i64 0, .int .i64 0] 23)) (.cells #[.int .i64 a, .int .i64 b, .int .i64 c] 23)
                         simpa using this : (((w.alloc (.cells #[.int .i64 a, .int .i64 b, .int .i64 c] 51)).alloc (.cells #[.int .i64 0, .int .i64 0, .int .i64 0] 23)).alloc (.cells #[.int .i64 a, .int .i64 b, .int .i64 c] 23)).heap[w.heap.size + 1 + 1]? = some (.cells #[.int .i64 a, .int .i64 b, .int .i64 c] 23 (0, 0)))
  go_enter Tryd.func30, Tryd.ntmps30
  go_wp2
  go_region_with (go_at_call 17; (refine (address_Valid.calls a b c _ _ rfl).mono ?_; rintro e w1 ⟨rfl, hb1⟩; have BK := blk_below (blk_drew A0.out) hb1; have BA := blk_below (blk_drew A1.out) hb1; have hc0 := (blk_cell BA 0).trans (show _ = some (Value.int .i64 a) from rfl); have hc1 := (blk_cell BA 1).trans (show _ = some (Value.int .i64 b) from rfl); have hc2 := (blk_cell BA 2).trans (show _ = some (Value.int .i64 c) from rfl); have hd0 := (blk_cell BK 0).trans (show _ = some (Value.int .i64 0) from rfl); have he0 := blk_frozen BK 0; have hd1 := (blk_cell BK 1).trans (show _ = some (Value.int .i64 0) from rfl); have he1 := blk_frozen BK 1; have hd2 := (blk_cell BK 2).trans (show _ = some (Value.int .i64 0) from rfl); have he2 := blk_frozen BK 2; have hw1 : Below w.heap.size w w1 := step (by go_grown) hb1; clear hb1; replace BK := Lib.hid BK; replace BA := Lib.hid BA))
  all_goals go_wp2
  all_goals (try (simp only [Act.put, List.setIfInBounds_toArray]; dsimp only [List.set]))
  all_goals
    refine bodyPost_ret (results_ct rfl _ _ (w.heap.size + 1) 23 #[.int .i64 a, .int .i64 b, .int .i64 c] (0, 0) _ rfl (blk_put (cs := #[.int .i64 a, .int .i64 b, .int .i64 0]) (blk_put (cs := #[.int .i64 a, .int .i64 0, .int .i64 0]) (blk_put BK.out 0 _ rfl) 1 _ rfl) 2 _ rfl) Tryd.underlying23 rfl (by kernel_rfl)) rfl ?_
    exact ⟨rfl, below_set (below_set (below_set hw1 (by omega)) (by omega)) (by omega)⟩
end Go.Proofs.YtlkddpcdgofbjaaDoor.Hand
