/- The contract of datetime.ReadDescriptor, walked by hand: its loop over sixteen digits by a relation, the rest once. -/
import Derived.Test.YtnchkpheepbacaaDoorDe
import Derived.Deep.QuietTactic
import Derived.BigQuiet
import Derived.Test.YtnchkpheepbacaaDoorQ9
import Derived.Test.YtnchkpheepbacaaDoorQ4
namespace Go.Proofs.YtnchkpheepbacaaDoor.Hand
open Go.RowKit Go.Proofs.YtnchkpheepbacaaDoorW.PrintWords
set_option linter.unusedVariables false
set_option linter.unusedSimpArgs false

set_option maxHeartbeats 2000000 in
set_option maxRecDepth 100000 in
theorem rd_number (s : ByteArray) (g : Nat) (p q : Nat) (P Q n : Int) (w : World) (hP : P = (p : Int)) (hQ : Q = (q : Int)) (hc : w.cell? ⟨g, 0, none⟩ = some (.string s)) (hpq : p ≤ q) (hq : q ≤ s.size) (hl : q ≤ p + 18) (hs : s.size < 100) (h : Lib.atoi (s.extract p q).data.toList = some n) :
    Calls Tryd.prog 50 #[.int .i64 P, .int .i64 Q, .pointer (some ⟨g, 0, none⟩)] w fun e w' => e = .returned (.int .i64 n) ∧ Below w.heap.size w w' := by
  subst hP hQ
  have hsz : (s.extract p q).size ≤ 18 := by rw [ByteArray.size_extract]; omega
  go_enter Tryd.func50, Tryd.ntmps50
  go_wp2_with (go_at_call 51; refine (Tryd.strconv_Atoi _ n hsz h _).mono ?_; rintro e w1 ⟨rfl, t, rfl⟩)
  go_ret
  exact ⟨rfl, bytes_below (by go_grown) (by go_grown) _ _⟩
end Go.Proofs.YtnchkpheepbacaaDoor.Hand

namespace Go.Proofs.YtnchkpheepbacaaDoor.Hand
open Go.RowKit Go.Proofs.YtnchkpheepbacaaDoorW.PrintWords
set_option linter.unusedVariables false
set_option linter.unusedSimpArgs false

/-- Whether the last n of the first sixteen bytes are digits. -/
def digF (a : ByteArray) : Nat → Bool
  | 0 => true
  | n + 1 => decide (48 ≤ bt a (15 - (n : Int))) && (decide (bt a (15 - (n : Int)) ≤ 57) && digF a n)
def rd2 (a : ByteArray) (i : Int) : Int := (bt a i - 48) * 10 + (bt a (i + 1) - 48)
def rd4 (a : ByteArray) : Int := (((bt a 0 - 48) * 10 + (bt a 1 - 48)) * 10 + (bt a 2 - 48)) * 10 + (bt a 3 - 48)
def noDate : ByteArray := ⟨#[48, 48, 48, 48, 48, 48, 48, 48, 48, 48, 48, 48, 48, 48, 48, 48, 0]⟩
theorem digF_at {a : ByteArray} : ∀ {n : Nat}, digF a n = true → ∀ j : Nat, j < n → 48 ≤ bt a (15 - (j : Int)) ∧ bt a (15 - (j : Int)) ≤ 57
  | 0, _, j, h => absurd h (by omega)
  | n + 1, h, j, hj => by
    unfold digF at h
    rw [Bool.and_eq_true, Bool.and_eq_true] at h
    obtain ⟨h1, h2, h3⟩ := h
    rcases Nat.lt_or_eq_of_le (Nat.le_of_lt_succ hj) with h' | rfl
    · exact digF_at h3 j h'
    · exact ⟨of_decide_eq_true h1, of_decide_eq_true h2⟩
theorem digF_all {a : ByteArray} (h : digF a 16 = true) (i : Nat) (hi : i < 16) : 48 ≤ bt a i ∧ bt a i ≤ 57 := by
  have := digF_at h (15 - i) (by omega)
  rw [show (15 : Int) - ((15 - i : Nat) : Int) = (i : Int) by omega] at this
  exact this
theorem nd_yes {a : ByteArray} (h : a = noDate) : (a.toList == [48, 48, 48, 48, 48, 48, 48, 48, 48, 48, 48, 48, 48, 48, 48, 48, 0]) = true := by rw [h, Lib.toList_data]; decide +kernel
theorem nd_no {a : ByteArray} (h : ¬ a = noDate) : (a.toList == [48, 48, 48, 48, 48, 48, 48, 48, 48, 48, 48, 48, 48, 48, 48, 48, 0]) = false := by
  refine beq_eq_false_iff_ne.mpr fun e => h ?_
  rw [Lib.toList_data] at e
  apply ByteArray.ext
  apply Array.toList_inj.1
  rw [e]
  rfl
theorem ext_get {a : ByteArray} {i j n : Nat} (h : j ≤ a.size) (h' : i + n < j) (hn : n < (a.extract i j).data.toList.length) : ((a.extract i j).data.toList[n]'hn) = (a[i + n]'(by omega)) := by
  have : n < (a.extract i j).size := by rw [ByteArray.size_extract]; omega
  have e := ByteArray.getElem_extract (b := a) (start := i) (stop := j) (i := n) (h := this)
  rw [← e]
  rfl
theorem ext_len {a : ByteArray} {i j : Nat} (h : j ≤ a.size) : (a.extract i j).data.toList.length = j - i := by
  have : (a.extract i j).size = j - i := by rw [ByteArray.size_extract]; omega
  rw [← this]
  rfl
theorem dv {a : ByteArray} {i : Nat} (hi : i < a.size) (h : 48 ≤ bt a i ∧ bt a i ≤ 57) : ∃ d : Nat, Lib.digitVal (a[i]'hi) = some d ∧ (d : Int) = bt a i - 48 ∧ 48 ≤ (a[i]'hi).toNat ∧ (a[i]'hi).toNat ≤ 57 := by
  have e := bt_at a i (by simpa using hi)
  have e' : ((a[i]'hi).toNat : Int) = bt a i := by simpa using e
  refine ⟨(a[i]'hi).toNat - 48, ?_, by omega, by omega, by omega⟩
  unfold Lib.digitVal
  rw [if_pos (by omega)]
theorem no_sign {b : UInt8} (h : 48 ≤ b.toNat) : (b == 45) = false ∧ (b == 43) = false := by
  constructor <;> (refine beq_eq_false_iff_ne.mpr fun e => ?_; rw [e] at h; revert h; decide)
theorem atoi2 {a : ByteArray} {i : Nat} (hs : i + 2 ≤ a.size) (h0 : 48 ≤ bt a i ∧ bt a i ≤ 57) (h1 : 48 ≤ bt a (i + 1 : Nat) ∧ bt a (i + 1 : Nat) ≤ 57) : Lib.atoi (a.extract i (i + 2)).data.toList = some (rd2 a i) := by
  have e : (a.extract i (i + 2)).data.toList = [a[i]'(by omega), a[i + 1]'(by omega)] := by
    apply List.ext_getElem
    · rw [ext_len hs]; simp
    · intro n hn hn'
      rw [ext_get hs (by simp at hn'; omega)]
      match n, hn' with
      | 0, _ => rfl
      | 1, _ => rfl
  obtain ⟨d, v, x, lo, _⟩ := dv (a := a) (i := i) (by omega) h0
  obtain ⟨d', v', x', _, _⟩ := dv (a := a) (i := i + 1) (by omega) h1
  rw [e]
  unfold Lib.atoi Lib.decNat
  simp only [no_sign lo, List.isEmpty_cons, Lib.decFrom, v, v', Bool.false_eq_true, if_false, Option.map_some]
  congr 1
  unfold rd2
  rw [show (i : Int) + 1 = ((i + 1 : Nat) : Int) by omega]
  omega
theorem atoi4 {a : ByteArray} (hs : 4 ≤ a.size) (h0 : 48 ≤ bt a (0 : Nat) ∧ bt a (0 : Nat) ≤ 57) (h1 : 48 ≤ bt a (1 : Nat) ∧ bt a (1 : Nat) ≤ 57) (h2 : 48 ≤ bt a (2 : Nat) ∧ bt a (2 : Nat) ≤ 57) (h3 : 48 ≤ bt a (3 : Nat) ∧ bt a (3 : Nat) ≤ 57) : Lib.atoi (a.extract 0 4).data.toList = some (rd4 a) := by
  have e : (a.extract 0 4).data.toList = [a[0]'(by omega), a[1]'(by omega), a[2]'(by omega), a[3]'(by omega)] := by
    apply List.ext_getElem
    · rw [ext_len hs]; simp
    · intro n hn hn'
      rw [ext_get hs (by simp at hn'; omega)]
      match n, hn' with
      | 0, _ => rfl
      | 1, _ => rfl
      | 2, _ => rfl
      | 3, _ => rfl
  obtain ⟨d, v, x, lo, _⟩ := dv (a := a) (i := 0) (by omega) h0
  obtain ⟨d', v', x', _, _⟩ := dv (a := a) (i := 1) (by omega) h1
  obtain ⟨d2, v2, x2, _, _⟩ := dv (a := a) (i := 2) (by omega) h2
  obtain ⟨d3, v3, x3, _, _⟩ := dv (a := a) (i := 3) (by omega) h3
  rw [e]
  unfold Lib.atoi Lib.decNat
  simp only [no_sign lo, List.isEmpty_cons, Lib.decFrom, v, v', v2, v3, Bool.false_eq_true, if_false, Option.map_some]
  congr 1
  unfold rd4
  simp only [Int.ofNat_zero, Int.cast_ofNat_Int] at x x' x2 x3 ⊢
  omega
theorem rd_parts {a : ByteArray} (hs : a.size = 17) (h : digF a 16 = true) :
    Lib.atoi (a.extract 0 4).data.toList = some (rd4 a) ∧ Lib.atoi (a.extract 4 6).data.toList = some (rd2 a 4) ∧ Lib.atoi (a.extract 6 8).data.toList = some (rd2 a 6) ∧ Lib.atoi (a.extract 8 10).data.toList = some (rd2 a 8) ∧ Lib.atoi (a.extract 10 12).data.toList = some (rd2 a 10) ∧ Lib.atoi (a.extract 12 14).data.toList = some (rd2 a 12) :=
  have D := digF_all h
  ⟨atoi4 (by omega) (D 0 (by omega)) (D 1 (by omega)) (D 2 (by omega)) (D 3 (by omega)), atoi2 (i := 4) (by omega) (D 4 (by omega)) (D 5 (by omega)), atoi2 (i := 6) (by omega) (D 6 (by omega)) (D 7 (by omega)), atoi2 (i := 8) (by omega) (D 8 (by omega)) (D 9 (by omega)), atoi2 (i := 10) (by omega) (D 10 (by omega)) (D 11 (by omega)), atoi2 (i := 12) (by omega) (D 12 (by omega)) (D 13 (by omega))⟩
end Go.Proofs.YtnchkpheepbacaaDoor.Hand

namespace Go.Proofs.YtnchkpheepbacaaDoor.Hand
open Go.RowKit Go.Proofs.YtnchkpheepbacaaDoor.Q Go.Proofs.YtnchkpheepbacaaDoorW.PrintWords Go.Proofs.YtnchkpheepbacaaDoorW.PrintLast Go.Proofs.YtnchkpheepbacaaDoorW.PrintMore
set_option linter.unusedVariables false
set_option linter.unusedSimpArgs false

/-- What ReadDescriptor comes to. -/
def datetime_ReadDescriptor.f (k : Nat) (a : ByteArray) : Option (Int × Int × Int) :=
  if (a.size : Int) = 17 then (if a = noDate then some (0, 0, 0) else if digF a 16 = true then (datetime_quarter.f (bt a 16)).bind fun q => datetime_read.f k (rd4 a) (rd2 a 4) (rd2 a 6) (rd2 a 8) (rd2 a 10) (rd2 a 12) q.1 q.2 else some (0, 0, 10)) else some (0, 0, 1)

set_option maxHeartbeats 4000000 in
set_option maxRecDepth 100000 in
theorem rd_short (k : Nat) (a0 : ByteArray) (w : World) (h : ¬ (a0.size : Int) = 17) :
    Calls Tryd.prog 29 #[.string a0] w fun e w' => e = .returned (.tuple #[.int .i64 0, .int .i64 0, .int .i64 1]) ∧ Below w.heap.size w w' := by
  have c1 : ((a0.size : Int) == 17) = false := beq_eq_false_iff_ne.mpr h
  have c2 : ((a0.size : Int) != 17) = true := bne_iff_ne.mpr h
  clear h
  go_enter Tryd.func29, Tryd.ntmps29
  go_wp2_with ((with_reducible refine gate_dst (N := 1) rfl ?_); refine box_event ?hg (N := 1) ?hd (cs := #[.string a0]) (t := 9) ?hr ?_; (case hd => rfl); (case hg => rfl); (case hr => first | (go_simp; done) | (go_simp; rfl)); intro gb hg w2 hbox hb; have HB := Aside0.mk (below_step (by repeat (first | (with_reducible first | exact Below.refl _ _ | apply below_alloc | apply pw_below_drewN | apply below_drew1) | exact Below.refl _ _)) hb); have BK := Aside0.mk hbox; have GE := Aside0.mk ((by rw [hg]; exact (below_size (by repeat (first | (with_reducible first | exact Below.refl _ _ | apply below_alloc | apply pw_below_drewN | apply below_drew1) | exact Below.refl _ _))) : w.heap.size ≤ gb)); clear hb hbox hg; have hcz : w2.cell? ⟨gb, 0, none⟩ = some (.string a0) := (blk_cell BK.out 0).trans rfl; have hfz := blk_frozen BK.out 0)

  go_ret3
  exact ⟨rfl, by (repeat (first | (with_reducible first | exact HB.out | apply below_alloc | apply pw_below_drewN | apply below_drew1 | refine below_set ?_ GE.out) | exact HB.out))⟩
set_option maxRecDepth 100000 in
theorem unspec_same (w : World) : Calls Tryd.prog 32 #[] w fun e w' => e = .returned (.string ⟨#[48, 48, 48, 48, 48, 48, 48, 48, 48, 48, 48, 48, 48, 48, 48, 48, 0]⟩) ∧ w' = w := by
  go_enter Tryd.func32, Tryd.ntmps32
  go_wp2
  go_ret
  exact ⟨rfl, rfl⟩
set_option maxHeartbeats 4000000 in
set_option maxRecDepth 100000 in
theorem rd_none (a0 : ByteArray) (w : World) (h : a0 = noDate) :
    Calls Tryd.prog 29 #[.string a0] w fun e w' => e = .returned (.tuple #[.int .i64 0, .int .i64 0, .int .i64 0]) ∧ Below w.heap.size w w' := by
  have h17 : (a0.size : Int) = 17 := by rw [h]; rfl
  have c1 : ((a0.size : Int) == 17) = true := beq_iff_eq.mpr h17
  have c2 : ((a0.size : Int) != 17) = false := bne_eq_false_iff_eq.mpr h17
  have c3 := nd_yes h
  clear h h17
  go_enter Tryd.func29, Tryd.ntmps29
  go_wp2_with ((with_reducible refine gate_dst (N := 1) rfl ?_); refine box_event ?hg (N := 1) ?hd (cs := #[.string a0]) (t := 9) ?hr ?_; (case hd => rfl); (case hg => rfl); (case hr => first | (go_simp; done) | (go_simp; rfl)); intro gb hg w2 hbox hb; have HB := Aside0.mk (below_step (by repeat (first | (with_reducible first | exact Below.refl _ _ | apply below_alloc | apply pw_below_drewN | apply below_drew1) | exact Below.refl _ _)) hb); have BK := Aside0.mk hbox; have GE := Aside0.mk ((by rw [hg]; exact (below_size (by repeat (first | (with_reducible first | exact Below.refl _ _ | apply below_alloc | apply pw_below_drewN | apply below_drew1) | exact Below.refl _ _))) : w.heap.size ≤ gb)); clear hb hbox hg; have hcz : w2.cell? ⟨gb, 0, none⟩ = some (.string a0) := (blk_cell BK.out 0).trans rfl; have hfz := blk_frozen BK.out 0)
  go_quiet ((go_at_call 32; refine Calls.quiet_of_same (unspec_same _)))
  go_wp2

  go_ret3
  exact ⟨rfl, by (repeat (first | (with_reducible first | exact HB.out | apply below_alloc | apply pw_below_drewN | apply below_drew1 | refine below_set ?_ GE.out) | exact HB.out))⟩
set_option maxHeartbeats 8000000 in
set_option maxRecDepth 100000 in
theorem rd_main (k : Nat) (a0 : ByteArray) (z : Int) (rt : Bool) (r1 r2 r3 : Int) (w : World) (h17 : (a0.size : Int) = 17) (hn : ¬ a0 = noDate) (hq : datetime_quarter.f (bt a0 16) = some (z, rt)) (h : (if digF a0 16 = true then datetime_read.f k (rd4 a0) (rd2 a0 4) (rd2 a0 6) (rd2 a0 8) (rd2 a0 10) (rd2 a0 12) z rt else some (0, 0, 10)) = some (r1, r2, r3)) :
    Calls Tryd.prog 29 #[.string a0] w fun e w' => e = .returned (.tuple #[.int .i64 r1, .int .i64 r2, .int .i64 r3]) ∧ Below w.heap.size w w' := by
  have hs : a0.size = 17 := by omega
  have c1 : ((a0.size : Int) == 17) = true := beq_iff_eq.mpr h17
  have c2 : ((a0.size : Int) != 17) = false := bne_eq_false_iff_eq.mpr h17
  have c3 := nd_no hn
  have HW := Aside0.mk h
  have HQ := Aside0.mk hq
  have HS := Aside0.mk (show a0.size < 100 by omega)
  have HZ := Aside0.mk (show 4 ≤ a0.size ∧ 6 ≤ a0.size ∧ 8 ≤ a0.size ∧ 10 ≤ a0.size ∧ 12 ≤ a0.size ∧ 14 ≤ a0.size by omega)
  have H17 := Aside0.mk h17
  have HD := Aside0.mk (show digF a0 16 = true → digF a0 16 = true from id)
  clear hn hq h hs h17
  go_enter Tryd.func29, Tryd.ntmps29
  go_wp2_with ((with_reducible refine gate_dst (N := 1) rfl ?_); refine box_event ?hg (N := 1) ?hd (cs := #[.string a0]) (t := 9) ?hr ?_; (case hd => rfl); (case hg => rfl); (case hr => first | (go_simp; done) | (go_simp; rfl)); intro gb hg w2 hbox hb; have HB := Aside0.mk (below_step (by repeat (first | (with_reducible first | exact Below.refl _ _ | apply below_alloc | apply pw_below_drewN | apply below_drew1) | exact Below.refl _ _)) hb); have BK := Aside0.mk hbox; have GE := Aside0.mk ((by rw [hg]; exact (below_size (by repeat (first | (with_reducible first | exact Below.refl _ _ | apply below_alloc | apply pw_below_drewN | apply below_drew1) | exact Below.refl _ _))) : w.heap.size ≤ gb)); clear hb hbox hg; have hcz : w2.cell? ⟨gb, 0, none⟩ = some (.string a0) := (blk_cell BK.out 0).trans rfl; have hfz := blk_frozen BK.out 0)
  go_quiet ((go_at_call 32; refine Calls.quiet_of_same (unspec_same _)))
  go_wp2
  have n0_ : Aside0 (Below w.heap.size w (w2.drewN nq)) := ⟨by (repeat (first | (with_reducible first | exact HB.out | apply below_alloc | apply pw_below_drewN | apply below_drew1 | refine below_set ?_ GE.out) | exact HB.out))⟩
  have n1_ : Aside0 ((w2.drewN nq).heap[gb]? = some (.cells #[.string a0] 9 (0, 0))) := ⟨blk_drewN BK.out _⟩
  clear HB BK hcz hfz
  generalize w2.drewN nq = w3 at n0_ n1_ ⊢
  have HB := n0_
  have BK := n1_
  clear n0_ n1_
  go_loopg [5, 15] 16 (fun kq v5 v15 w' => ∃ x : Int, v15 = .int .i64 x ∧ Aside0 (x = 16 - (kq : Int)) ∧ Aside0 (kq ≤ 16) ∧ Aside0 ((if digF a0 kq = true then datetime_read.f k (rd4 a0) (rd2 a0 4) (rd2 a0 6) (rd2 a0 8) (rd2 a0 10) (rd2 a0 12) z rt else some (0, 0, 10)) = some (r1, r2, r3)) ∧ Aside0 (digF a0 kq = true → digF a0 16 = true) ∧ Aside0 (w'.heap[gb]? = some (.cells #[.string a0] 9 (0, 0))) ∧ Aside0 (Below w.heap.size w w'))
  case atStart => exact ⟨0, rfl, ⟨by omega⟩, ⟨by omega⟩, HW, HD, BK, HB⟩
  case round =>
    clear HW HB BK HD
    obtain ⟨x, rfl, HX, HK, HW, HD, BK, HB⟩ := hrel
    have hcz : wr.cell? ⟨gb, 0, none⟩ = some (.string a0) := (blk_cell BK.out 0).trans rfl
    have hfz := blk_frozen BK.out 0
    cases gk with
    | zero =>
      have b0 : decide (x < 16) = false := decide_eq_false (by have := HX.out; omega)
      have HE := Aside0.mk (show datetime_read.f k (rd4 a0) (rd2 a0 4) (rd2 a0 6) (rd2 a0 8) (rd2 a0 10) (rd2 a0 12) z rt = some (r1, r2, r3) by have := HW.out; rw [if_pos (show digF a0 0 = true from rfl)] at this; exact this)
      have HN := Aside0.mk (rd_parts (by have := H17.out; omega) (HD.out rfl))
      have q16 : (16 : Nat) < a0.size := by have := H17.out; omega
      have qi16 : ((16 : Int) < (a0.size : Int)) = True := eq_true (by omega)
      replace q16 := eq_true q16
      have hx16 : ∀ h : 16 < a0.size, ((a0[16]'h).toNat : Int) = bt a0 16 := bt_at a0 16
      have N0 := Aside0.mk (fun (W : World) (hW : W.heap[gb]? = some (.cells #[.string a0] 9 (0, 0))) => rd_number a0 gb 0 4 0 4 (rd4 a0) W rfl rfl ((blk_cell hW 0).trans rfl) (by decide) HZ.out.1 (by decide) HS.out HN.out.1)
      have N4 := Aside0.mk (fun (W : World) (hW : W.heap[gb]? = some (.cells #[.string a0] 9 (0, 0))) => rd_number a0 gb 4 6 4 6 (rd2 a0 4) W rfl rfl ((blk_cell hW 0).trans rfl) (by decide) HZ.out.2.1 (by decide) HS.out HN.out.2.1)
      have N6 := Aside0.mk (fun (W : World) (hW : W.heap[gb]? = some (.cells #[.string a0] 9 (0, 0))) => rd_number a0 gb 6 8 6 8 (rd2 a0 6) W rfl rfl ((blk_cell hW 0).trans rfl) (by decide) HZ.out.2.2.1 (by decide) HS.out HN.out.2.2.1)
      have N8 := Aside0.mk (fun (W : World) (hW : W.heap[gb]? = some (.cells #[.string a0] 9 (0, 0))) => rd_number a0 gb 8 10 8 10 (rd2 a0 8) W rfl rfl ((blk_cell hW 0).trans rfl) (by decide) HZ.out.2.2.2.1 (by decide) HS.out HN.out.2.2.2.1)
      have N10 := Aside0.mk (fun (W : World) (hW : W.heap[gb]? = some (.cells #[.string a0] 9 (0, 0))) => rd_number a0 gb 10 12 10 12 (rd2 a0 10) W rfl rfl ((blk_cell hW 0).trans rfl) (by decide) HZ.out.2.2.2.2.1 (by decide) HS.out HN.out.2.2.2.2.1)
      have N12 := Aside0.mk (fun (W : World) (hW : W.heap[gb]? = some (.cells #[.string a0] 9 (0, 0))) => rd_number a0 gb 12 14 12 14 (rd2 a0 12) W rfl rfl ((blk_cell hW 0).trans rfl) (by decide) HZ.out.2.2.2.2.2 (by decide) HS.out HN.out.2.2.2.2.2)
      clear HZ HN HS
      go_wp2_with (first | (go_at_call 44; refine (datetime_quarter.calls (bt a0 16) z rt _ HQ.out).mono ?_; rintro e w_q ⟨rfl, ⟨m1, rfl⟩⟩) | (go_at_call 50; (with_reducible refine (N0.out _ (by (with_reducible repeat (first | refine blk_drewN ?_ _ | refine blk_drew ?_ | refine blk_alloc ?_ _)); exact BK.out)).mono ?_); rintro e w_0 ⟨rfl, hb⟩; have n0_ := Aside0.mk (blk_below (g := gb) (o := .cells #[.string a0] 9 (0, 0)) (by (with_reducible repeat (first | refine blk_drewN ?_ _ | refine blk_drew ?_ | refine blk_alloc ?_ _)); exact BK.out) hb); have n1_ := Aside0.mk (below_step (by repeat (first | (with_reducible first | exact HB.out | apply below_alloc | apply pw_below_drewN | apply below_drew1 | refine below_set ?_ GE.out) | exact HB.out)) hb); clear BK HB; have BK := n0_; have HB := n1_; clear n0_ n1_ hb) | (go_at_call 50; (with_reducible refine (N4.out _ (by (with_reducible repeat (first | refine blk_drewN ?_ _ | refine blk_drew ?_ | refine blk_alloc ?_ _)); exact BK.out)).mono ?_); rintro e w_4 ⟨rfl, hb⟩; have n0_ := Aside0.mk (blk_below (g := gb) (o := .cells #[.string a0] 9 (0, 0)) (by (with_reducible repeat (first | refine blk_drewN ?_ _ | refine blk_drew ?_ | refine blk_alloc ?_ _)); exact BK.out) hb); have n1_ := Aside0.mk (below_step (by repeat (first | (with_reducible first | exact HB.out | apply below_alloc | apply pw_below_drewN | apply below_drew1 | refine below_set ?_ GE.out) | exact HB.out)) hb); clear BK HB; have BK := n0_; have HB := n1_; clear n0_ n1_ hb) | (go_at_call 50; (with_reducible refine (N6.out _ (by (with_reducible repeat (first | refine blk_drewN ?_ _ | refine blk_drew ?_ | refine blk_alloc ?_ _)); exact BK.out)).mono ?_); rintro e w_6 ⟨rfl, hb⟩; have n0_ := Aside0.mk (blk_below (g := gb) (o := .cells #[.string a0] 9 (0, 0)) (by (with_reducible repeat (first | refine blk_drewN ?_ _ | refine blk_drew ?_ | refine blk_alloc ?_ _)); exact BK.out) hb); have n1_ := Aside0.mk (below_step (by repeat (first | (with_reducible first | exact HB.out | apply below_alloc | apply pw_below_drewN | apply below_drew1 | refine below_set ?_ GE.out) | exact HB.out)) hb); clear BK HB; have BK := n0_; have HB := n1_; clear n0_ n1_ hb) | (go_at_call 50; (with_reducible refine (N8.out _ (by (with_reducible repeat (first | refine blk_drewN ?_ _ | refine blk_drew ?_ | refine blk_alloc ?_ _)); exact BK.out)).mono ?_); rintro e w_8 ⟨rfl, hb⟩; have n0_ := Aside0.mk (blk_below (g := gb) (o := .cells #[.string a0] 9 (0, 0)) (by (with_reducible repeat (first | refine blk_drewN ?_ _ | refine blk_drew ?_ | refine blk_alloc ?_ _)); exact BK.out) hb); have n1_ := Aside0.mk (below_step (by repeat (first | (with_reducible first | exact HB.out | apply below_alloc | apply pw_below_drewN | apply below_drew1 | refine below_set ?_ GE.out) | exact HB.out)) hb); clear BK HB; have BK := n0_; have HB := n1_; clear n0_ n1_ hb) | (go_at_call 50; (with_reducible refine (N10.out _ (by (with_reducible repeat (first | refine blk_drewN ?_ _ | refine blk_drew ?_ | refine blk_alloc ?_ _)); exact BK.out)).mono ?_); rintro e w_10 ⟨rfl, hb⟩; have n0_ := Aside0.mk (blk_below (g := gb) (o := .cells #[.string a0] 9 (0, 0)) (by (with_reducible repeat (first | refine blk_drewN ?_ _ | refine blk_drew ?_ | refine blk_alloc ?_ _)); exact BK.out) hb); have n1_ := Aside0.mk (below_step (by repeat (first | (with_reducible first | exact HB.out | apply below_alloc | apply pw_below_drewN | apply below_drew1 | refine below_set ?_ GE.out) | exact HB.out)) hb); clear BK HB; have BK := n0_; have HB := n1_; clear n0_ n1_ hb) | (go_at_call 50; (with_reducible refine (N12.out _ (by (with_reducible repeat (first | refine blk_drewN ?_ _ | refine blk_drew ?_ | refine blk_alloc ?_ _)); exact BK.out)).mono ?_); rintro e w_12 ⟨rfl, hb⟩; have n0_ := Aside0.mk (blk_below (g := gb) (o := .cells #[.string a0] 9 (0, 0)) (by (with_reducible repeat (first | refine blk_drewN ?_ _ | refine blk_drew ?_ | refine blk_alloc ?_ _)); exact BK.out) hb); have n1_ := Aside0.mk (below_step (by repeat (first | (with_reducible first | exact HB.out | apply below_alloc | apply pw_below_drewN | apply below_drew1 | refine below_set ?_ GE.out) | exact HB.out)) hb); clear BK HB; have BK := n0_; have HB := n1_; clear n0_ n1_ hb) | (go_at_call 45; refine (datetime_read.calls k (rd4 a0) (rd2 a0 4) (rd2 a0 6) (rd2 a0 8) (rd2 a0 10) (rd2 a0 12) z rt r1 r2 r3 _ HE.out).mono ?_; rintro e w_r ⟨rfl, hb⟩; have n0_ := Aside0.mk (blk_below (g := gb) (o := .cells #[.string a0] 9 (0, 0)) (by (with_reducible repeat (first | refine blk_drewN ?_ _ | refine blk_drew ?_ | refine blk_alloc ?_ _)); exact BK.out) hb); have n1_ := Aside0.mk (below_step (by repeat (first | (with_reducible first | exact HB.out | apply below_alloc | apply pw_below_drewN | apply below_drew1 | refine below_set ?_ GE.out) | exact HB.out)) hb); clear BK HB; have BK := n0_; have HB := n1_; clear n0_ n1_ hb))
      go_ret3
      exact ⟨rfl, by (repeat (first | (with_reducible first | exact HB.out | apply below_alloc | apply pw_below_drewN | apply below_drew1 | refine below_set ?_ GE.out) | exact HB.out))⟩
    | succ k1 =>
      have hk := HX.out
      have hk' := HK.out
      have b0 : decide (x < 16) = true := decide_eq_true (by omega)
      have p4 : 0 ≤ x := by omega
      have q4 : x < (a0.size : Int) := by have := H17.out; omega
      have hx4 := bt_at a0 x
      have hd : digF a0 (k1 + 1) = (decide (48 ≤ bt a0 x) && (decide (bt a0 x ≤ 57) && digF a0 k1)) := by rw [digF, show (15 : Int) - (k1 : Int) = x by omega]
      have HH := Aside0.mk hd
      clear hd hk hk'
      replace p4 := eq_true p4
      replace q4 := eq_true q4
      by_cases lo : 48 ≤ bt a0 x
      · have l0 : decide (bt a0 x < 48) = false := decide_eq_false (by omega)
        have l1 : decide (48 ≤ bt a0 x) = true := decide_eq_true lo
        by_cases hi : bt a0 x ≤ 57
        · have h0 : decide (57 < bt a0 x) = false := decide_eq_false (by omega)
          have h1 : decide (bt a0 x ≤ 57) = true := decide_eq_true hi
          have HE := Aside0.mk (show digF a0 (k1 + 1) = digF a0 k1 by rw [HH.out, l1, h1]; rfl)
          clear lo hi l1 h1
          go_wp2
          go_roundg k1
          case measure => omega
          case rel => exact ⟨wrap64 (x + 1), (by first | rfl | (simp; done) | (simp [*]; done)), ⟨by have := HX.out; have := HK.out; unfold wrap64; omega⟩, ⟨by have := HK.out; omega⟩, ⟨by rw [← HE.out]; exact HW.out⟩, ⟨by rw [← HE.out]; exact HD.out⟩, ⟨by (with_reducible repeat (first | refine blk_drewN ?_ _ | refine blk_drew ?_ | refine blk_alloc ?_ _)); exact BK.out⟩, ⟨by (repeat (first | (with_reducible first | exact HB.out | apply below_alloc | apply pw_below_drewN | apply below_drew1 | refine below_set ?_ GE.out) | exact HB.out))⟩⟩
        · have h0 : decide (57 < bt a0 x) = true := decide_eq_true (by omega)
          have h1 : decide (bt a0 x ≤ 57) = false := decide_eq_false hi
          have HE := Aside0.mk (show digF a0 (k1 + 1) = false by rw [HH.out, l1, h1]; rfl)
          clear lo hi l1 h1
          have hr := HW.out
          rw [HE.out, if_neg (by decide)] at hr
          obtain ⟨rfl, rfl, rfl⟩ : 0 = r1 ∧ 0 = r2 ∧ 10 = r3 := by simpa using hr
          clear hr
          go_wp2
          go_ret3
          exact ⟨rfl, by (repeat (first | (with_reducible first | exact HB.out | apply below_alloc | apply pw_below_drewN | apply below_drew1 | refine below_set ?_ GE.out) | exact HB.out))⟩
      · have l0 : decide (bt a0 x < 48) = true := decide_eq_true (by omega)
        have l1 : decide (48 ≤ bt a0 x) = false := decide_eq_false lo
        have HE := Aside0.mk (show digF a0 (k1 + 1) = false by rw [HH.out, l1]; rfl)
        clear lo l1
        have hr := HW.out
        rw [HE.out, if_neg (by decide)] at hr
        obtain ⟨rfl, rfl, rfl⟩ : 0 = r1 ∧ 0 = r2 ∧ 10 = r3 := by simpa using hr
        clear hr
        go_wp2
        go_ret3
        exact ⟨rfl, by (repeat (first | (with_reducible first | exact HB.out | apply below_alloc | apply pw_below_drewN | apply below_drew1 | refine below_set ?_ GE.out) | exact HB.out))⟩
theorem datetime_ReadDescriptor.calls (k : Nat) (a0 : ByteArray) (r1 r2 r3 : Int) (w : World) (h : datetime_ReadDescriptor.f k a0 = some (r1, r2, r3)) :
    Calls Tryd.prog 29 #[.string a0] w fun e w' => e = .returned (.tuple #[.int .i64 r1, .int .i64 r2, .int .i64 r3]) ∧ Below w.heap.size w w' := by
  unfold datetime_ReadDescriptor.f at h
  by_cases h17 : (a0.size : Int) = 17
  · rw [if_pos h17] at h
    by_cases hn : a0 = noDate
    · rw [if_pos hn] at h
      obtain ⟨rfl, rfl, rfl⟩ : 0 = r1 ∧ 0 = r2 ∧ 0 = r3 := by simpa using h
      exact rd_none a0 w hn
    · rw [if_neg hn] at h
      obtain ⟨z, rt, hq⟩ : ∃ z rt, datetime_quarter.f (bt a0 16) = some (z, rt) := by unfold datetime_quarter.f; split <;> exact ⟨_, _, rfl⟩
      rw [hq, Option.bind_some] at h
      exact rd_main k a0 z rt r1 r2 r3 w h17 hn hq h
  · rw [if_neg h17] at h
    obtain ⟨rfl, rfl, rfl⟩ : 0 = r1 ∧ 0 = r2 ∧ 1 = r3 := by simpa using h
    exact rd_short k a0 w h17
end Go.Proofs.YtnchkpheepbacaaDoor.Hand
