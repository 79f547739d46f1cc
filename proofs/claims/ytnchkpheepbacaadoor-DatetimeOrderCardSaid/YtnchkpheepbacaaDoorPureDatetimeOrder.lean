/- The plain law of DatetimeOrder: clocks of one zone compare as their times do, and join back to them. -/
import Derived.Test.YtnchkpheepbacaaDoorPs
import Derived.Test.YtnchkpheepbacaaDoorQ7
namespace Go.Proofs.YtnchkpheepbacaaDoor.Pure
open Go.RowKit Go.Proofs.YtnchkpheepbacaaDoor.Hand Go.Proofs.YtnchkpheepbacaaDoor.Q Go.Proofs.YtnchkpheepbacaaDoor.Cal Go.Proofs.YtnchkpheepbacaaDoorW.PrintWords

theorem awake_o : masterdisclaw16_awake.f 1000 = some true := by decide +kernel
theorem order_j2 (k : Nat) (a b z y m d h i s y' m' d' h' i' s' : Int) (e : joinR y m d h i s z = (a, 0)) (e' : joinR y' m' d' h' i' s' z = (b, 0)) :
    masterdisclaw16_DatetimeOrder.j2 (k + 600 + 1) a b z false y m d h i s y' m' d' h' i' s' = some true := by
  rw [masterdisclaw16_DatetimeOrder.j2, join_f k, join_f k, e, e']
  simp
theorem order_j1 (k : Nat) (a b z y m d h i s y' m' d' h' i' s' : Int) (e : joinR y m d h i s z = (a, 0)) (e' : joinR y' m' d' h' i' s' z = (b, 0))
    (hy : 1970 ≤ y) (hy' : 1970 ≤ y') (hc : okC y m d h i s = true) (hc' : okC y' m' d' h' i' s' = true) (hs : secs y m d h i s = a + 60 * z) (hs' : secs y' m' d' h' i' s' = b + 60 * z) :
    masterdisclaw16_DatetimeOrder.j1 (k + 600 + 2) a b z false y m d h i s y' m' d' h' i' s' = some true := by
  have c := clocks_f (k + 594) hc hc'
  rw [show k + 594 + 7 = k + 600 + 1 by omega] at c
  rw [show k + 600 + 2 = (k + 600 + 1) + 1 by omega, masterdisclaw16_DatetimeOrder.j1, c]
  have lt : first [y - y', m - m', d - d', h - h', i - i', s - s'] < 0 → a < b := fun l => by
    have := secs_lt hy hc hc' (first_lt _ _ _ _ _ _ _ _ _ _ _ _ l)
    omega
  have gt : first [y - y', m - m', d - d', h - h', i - i', s - s'] > 0 → b < a := fun l => by
    have := secs_lt hy' hc' hc (first_gt _ _ _ _ _ _ _ _ _ _ _ _ l)
    omega
  have eq : first [y - y', m - m', d - d', h - h', i - i', s - s'] = 0 → a = b := fun l => by
    obtain ⟨rfl, rfl, rfl, rfl, rfl, rfl⟩ := first_eq _ _ _ _ _ _ _ _ _ _ _ _ l
    omega
  generalize first [y - y', m - m', d - d', h - h', i - i', s - s'] = F at *
  simp only [Option.bind_some]
  have e1 : ((decide (F < 0)) != (decide (a < b))) = false := by
    rw [bne_eq_false_iff_eq, Bool.eq_iff_iff, decide_eq_true_eq, decide_eq_true_eq]
    omega
  have e2 : ((decide (F > 0)) != (decide (a > b))) = false := by
    rw [bne_eq_false_iff_eq, Bool.eq_iff_iff, decide_eq_true_eq, decide_eq_true_eq]
    omega
  rw [e1, e2, if_neg (by decide), if_neg (by decide)]
  exact order_j2 k a b z y m d h i s y' m' d' h' i' s' e e'
theorem order_j0 (k : Nat) (a b z : Int) (ha : timeB a = true) (hb : timeB b = true) (hz : zoneB z = true) :
    masterdisclaw16_DatetimeOrder.j0 (k + 600 + 3) a b z false = some true := by
  obtain ⟨y, m, d, h, i, s, hf, hy, hc, hs⟩ := split_facts a z ha hz
  obtain ⟨y', m', d', h', i', s', hf', hy', hc', hs'⟩ := split_facts b z hb hz
  have q := hf (k + 202)
  have q' := hf' (k + 202)
  rw [show k + 202 + 400 = k + 600 + 2 by omega] at q q'
  rw [show k + 600 + 3 = (k + 600 + 2) + 1 by omega, masterdisclaw16_DatetimeOrder.j0, q, q']
  simp only [Option.bind_some]
  rw [if_neg (by decide), if_pos trivial]
  exact order_j1 k a b z y m d h i s y' m' d' h' i' s' (joinR_back ha hz hc hs) (joinR_back hb hz hc' hs') hy hy' hc hc' hs hs'
theorem order_j0t (k : Nat) (a b z : Int) : masterdisclaw16_DatetimeOrder.j0 (k + 600 + 3) a b z true = some true := by
  rw [show k + 600 + 3 = (k + 600 + 2) + 1 by omega, masterdisclaw16_DatetimeOrder.j0, if_pos rfl]
theorem DatetimeOrder (a b z : Int) (_ : (Lit.int .i64 a).wf = true) (_ : (Lit.int .i64 b).wf = true) (_ : (Lit.int .i64 z).wf = true) : ∃ k, masterdisclaw16_DatetimeOrder.f k a b z = some true := by
  refine ⟨397 + 600 + 3, ?_⟩
  unfold masterdisclaw16_DatetimeOrder.f
  rw [show (397 + 600 + 3 : Nat) = 1000 from rfl, awake_o, rtime_f, rtime_f, rzone_f]
  simp only [Option.bind_some, if_true]
  have t := order_j0t 397 a b z
  have n := order_j0 397 a b z
  rw [show (397 + 600 + 3 : Nat) = 1000 from rfl] at t n
  cases ha : timeB a
  · rw [if_neg (by decide)]
    exact t
  · rw [if_pos rfl]
    cases hb : timeB b
    · rw [if_neg (by decide)]
      exact t
    · rw [if_pos rfl]
      cases hz : zoneB z
      · exact t
      · exact n ha hb hz
end Go.Proofs.YtnchkpheepbacaaDoor.Pure
