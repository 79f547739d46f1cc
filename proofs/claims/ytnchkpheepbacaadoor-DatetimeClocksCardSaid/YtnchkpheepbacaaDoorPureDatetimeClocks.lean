/- The plain law of DatetimeClocks: for any time, zone and clock, the printed law comes to true. -/
import Derived.Test.YtnchkpheepbacaaDoorPj
namespace Go.Proofs.YtnchkpheepbacaaDoor.Pure
open Go.RowKit Go.Proofs.YtnchkpheepbacaaDoor.Hand Go.Proofs.YtnchkpheepbacaaDoor.Q Go.Proofs.YtnchkpheepbacaaDoor.Cal Go.Proofs.YtnchkpheepbacaaDoorW.PrintWords

theorem split_same (k : Nat) (t z : Int) : ∃ r, datetime_Split.f (k + 400) t z = some r ∧ masterdiscref16_Split.f (k + 400) t z = some r := by
  by_cases h : timeB t = true ∧ zoneB z = true
  · obtain ⟨n, m, e, hn, hm, h0, h1, hX⟩ := has_day t z h.1 h.2
    exact ⟨_, split_in k t z h.1 h.2 n m e (by omega) hm h0 h1 hX, rsplit_in k t z h.1 h.2 n m e (by omega) hm h0 h1 hX⟩
  · have h' : timeB t = false ∨ zoneB z = false := by
      cases a : timeB t
      · exact Or.inl rfl
      · cases b : zoneB z
        · exact Or.inr rfl
        · exact absurd ⟨a, b⟩ h
    exact ⟨_, split_out k t z h', rsplit_out k t z h'⟩

theorem awake_f : masterdisclaw16_awake.f 1000 = some true := by decide +kernel

theorem DatetimeClocks (t z y m d h mi s : Int) (_ : (Lit.int .i64 t).wf = true) (_ : (Lit.int .i64 z).wf = true) (_ : (Lit.int .i64 y).wf = true) (_ : (Lit.int .i64 m).wf = true) (_ : (Lit.int .i64 d).wf = true) (_ : (Lit.int .i64 h).wf = true) (_ : (Lit.int .i64 mi).wf = true) (_ : (Lit.int .i64 s).wf = true) : ∃ k, masterdisclaw16_DatetimeClocks.f k t z y m d h mi s = some true := by
  refine ⟨1000, ?_⟩
  obtain ⟨r, hr, hq⟩ := split_same 600 t z
  unfold masterdisclaw16_DatetimeClocks.f
  rw [awake_f, hr, hq, join_f 400]
  simp only [Option.bind_some, if_true]
  have j : ∀ b : Bool, masterdisclaw16_DatetimeClocks.j0 1000 z r.2.2.2.2.2.2 r.2.2.2.2.2.2 (joinR y m d h mi s z).1 (joinR y m d h mi s z).2 b y m d h mi s r.1 r.2.1 r.2.2.1 r.2.2.2.1 r.2.2.2.2.1 r.2.2.2.2.2.1 r.1 r.2.1 r.2.2.1 r.2.2.2.1 r.2.2.2.2.1 r.2.2.2.2.2.1 = some true := by
    intro b
    simp only [masterdisclaw16_DatetimeClocks.j0]
    cases b
    · simp
    · rw [rjoin_f 399]
      simp
  split
  · exact j _
  · exact j _
end Go.Proofs.YtnchkpheepbacaaDoor.Pure
