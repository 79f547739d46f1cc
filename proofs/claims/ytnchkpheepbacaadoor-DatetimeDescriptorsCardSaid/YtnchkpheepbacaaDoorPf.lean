/- A clock that Split gives is valid and its seconds are the time's. -/
import Derived.Test.YtnchkpheepbacaaDoorPj
namespace Go.Proofs.YtnchkpheepbacaaDoor.Pure
open Go.RowKit Go.Proofs.YtnchkpheepbacaaDoor.Hand Go.Proofs.YtnchkpheepbacaaDoor.Q Go.Proofs.YtnchkpheepbacaaDoor.Cal Go.Proofs.YtnchkpheepbacaaDoorW.PrintWords

theorem secs_of (u : Int) (n m : Nat) (e : Int) (h : u / 86400 = SY n + (SM (1970 + n) m + e)) :
    secs (1970 + n) ((m : Int) + 1) (e + 1) (u % 86400 / 3600) (u % 86400 / 60 % 60) (u % 60) = u := by
  unfold secs days
  rw [YY_n, show ((m : Int) + 1 - 1).toNat = m by omega]
  generalize SY n = A at *
  generalize SM (1970 + n) m = B at *
  omega
theorem okC_of (u : Int) (n m : Nat) (e : Int) (hn : n ≤ 180) (hm : m < 12) (h0 : 0 ≤ e) (h1 : e < dim (1970 + n) (m + 1)) :
    okC (1970 + n) ((m : Int) + 1) (e + 1) (u % 86400 / 3600) (u % 86400 / 60 % 60) (u % 60) = true := by
  unfold okC
  generalize dim (1970 + n) (m + 1) = D at *
  refine decide_eq_true ?_
  omega
/-- What Split comes to, told by the clock's own properties. -/
theorem split_facts (t z : Int) (ht : timeB t = true) (hz : zoneB z = true) : ∃ y m d h i s : Int, (∀ k, datetime_Split.f (k + 400) t z = some (y, m, d, h, i, s, 0)) ∧ 1970 ≤ y ∧ okC y m d h i s = true ∧ secs y m d h i s = t + 60 * z := by
  obtain ⟨n, m, e, hn, hm, h0, h1, hX⟩ := has_day t z ht hz
  exact ⟨_, _, _, _, _, _, fun k => split_in k t z ht hz n m e (by omega) hm h0 h1 hX, by omega, okC_of _ n m e (by omega) hm h0 h1, secs_of _ n m e hX⟩
end Go.Proofs.YtnchkpheepbacaaDoor.Pure
