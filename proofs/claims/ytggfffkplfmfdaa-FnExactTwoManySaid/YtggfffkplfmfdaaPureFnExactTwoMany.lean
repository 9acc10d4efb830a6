/- The law FnExactTwoMany holds: TwoMany of the program answers as the reference does, for every int. No condition. -/
import Derived.Test.YtggfffkplfmfdaaPFnExactTwoManyx1
import Derived.Test.YtggfffkplfmfdaaAid
namespace Go.Proofs.Ytggfffkplfmfdaa.Pure
open Go.RowKit Go.Proofs.Ytggfffkplfmfdaa.PFnExactTwoMany Go.Proofs.YtggfffkplfmfdaaW.PrintWords Go.Proofs.YtggfffkplfmfdaaW.PrintLast Go.Proofs.Ytggfffkplfmfdaa.Aid

/-- Both loops, from one divisor on: the same sums. -/
theorem TwoMany.both (x : Int) (hx : x ≤ 2000) : ∀ (m : Nat) (s d : Int), 1 ≤ d → -4 * d ≤ s → s ≤ 4 * d → x - d < m → d ≤ 2001 →
    ∃ r, Ev (fun k => spec_TwoMany.l0 k x s d) r ∧ Ev (fun k => impl_TwoMany.l0 k x s d) r := by
  intro m
  induction m with
  | zero =>
    intro s d h1 h2 h3 h4 h5
    refine ⟨s, Ev.step (fun k => spec_TwoMany.l0.eq_2 _ _ _ k) (Ev.neg (by omega) (Ev.now _)), Ev.step (fun k => impl_TwoMany.l0.eq_2 _ _ _ k) (Ev.neg (by omega) (Ev.now _))⟩
  | succ m ih =>
    intro s d h1 h2 h3 h4 h5
    by_cases hd : d ≤ x
    · have e1 : wrap64 (d + 1) = d + 1 := w64 (by omega) (by omega)
      have e2 : wrap64 (s + 4) = s + 4 := w64 (by omega) (by omega)
      have e3 : wrap64 (s - 4) = s - 4 := w64 (by omega) (by omega)
      by_cases ha : Int.tmod x d = 0
      · by_cases hb : Int.tmod d 4 = 1
        · obtain ⟨r, h1', h2'⟩ := ih (s + 4) (d + 1) (by omega) (by omega) (by omega) (by omega) (by omega)
          exact ⟨r, Ev.step (fun k => spec_TwoMany.l0.eq_2 _ _ _ k) (Ev.pos hd (Ev.neg (by omega) (Ev.pos ha (Ev.step (fun k => spec_TwoMany.j1.eq_2 _ _ _ _ k) (Ev.pos (by simpa using hb) (Ev.neg (by omega) (Ev.pos ha (Ev.neg (by omega) (by rw [e1, e2]; exact h1'))))))))),
            Ev.step (fun k => impl_TwoMany.l0.eq_2 _ _ _ k) (Ev.pos hd (Ev.neg (by omega) (Ev.pos ha (Ev.pos hb (by rw [e1, e2]; exact h2')))))⟩
        · by_cases hc : Int.tmod d 4 = 3
          · obtain ⟨r, h1', h2'⟩ := ih (s - 4) (d + 1) (by omega) (by omega) (by omega) (by omega) (by omega)
            exact ⟨r, Ev.step (fun k => spec_TwoMany.l0.eq_2 _ _ _ k) (Ev.pos hd (Ev.neg (by omega) (Ev.pos ha (Ev.step (fun k => spec_TwoMany.j1.eq_2 _ _ _ _ k) (Ev.neg (by simpa using hb) (Ev.neg (by omega) (Ev.pos ha (Ev.pos hc (by rw [e1, e3]; exact h1'))))))))),
              Ev.step (fun k => impl_TwoMany.l0.eq_2 _ _ _ k) (Ev.pos hd (Ev.neg (by omega) (Ev.pos ha (Ev.neg hb (Ev.pos hc (by rw [e1, e3]; exact h2'))))))⟩
          · obtain ⟨r, h1', h2'⟩ := ih s (d + 1) (by omega) (by omega) (by omega) (by omega) (by omega)
            exact ⟨r, Ev.step (fun k => spec_TwoMany.l0.eq_2 _ _ _ k) (Ev.pos hd (Ev.neg (by omega) (Ev.pos ha (Ev.step (fun k => spec_TwoMany.j1.eq_2 _ _ _ _ k) (Ev.neg (by simpa using hb) (Ev.neg (by omega) (Ev.pos ha (Ev.neg hc (by rw [e1]; exact h1'))))))))),
              Ev.step (fun k => impl_TwoMany.l0.eq_2 _ _ _ k) (Ev.pos hd (Ev.neg (by omega) (Ev.pos ha (Ev.neg hb (Ev.neg hc (by rw [e1]; exact h2'))))))⟩
      · obtain ⟨r, h1', h2'⟩ := ih s (d + 1) (by omega) (by omega) (by omega) (by omega) (by omega)
        exact ⟨r, Ev.step (fun k => spec_TwoMany.l0.eq_2 _ _ _ k) (Ev.pos hd (Ev.neg (by omega) (Ev.neg ha (Ev.step (fun k => spec_TwoMany.j1.eq_2 _ _ _ _ k) (Ev.neg (by simp) (Ev.neg (by omega) (Ev.neg ha (by rw [e1]; exact h1')))))))),
          Ev.step (fun k => impl_TwoMany.l0.eq_2 _ _ _ k) (Ev.pos hd (Ev.neg (by omega) (Ev.neg ha (by rw [e1]; exact h2'))))⟩
    · exact ⟨s, Ev.step (fun k => spec_TwoMany.l0.eq_2 _ _ _ k) (Ev.neg hd (Ev.now _)), Ev.step (fun k => impl_TwoMany.l0.eq_2 _ _ _ k) (Ev.neg hd (Ev.now _))⟩
theorem FnExactTwoMany : laws_FnExactTwoMany.Pure := by
  intro a _
  have hin : spec_l8Sum.f a 1 = some (decide (1 ≤ a ∧ a ≤ 2000)) := by
    unfold spec_l8Sum.f spec_l6In.f
    by_cases h : 1 ≤ a <;> simp [h]
  have key : ∃ r, Ev (fun k => spec_TwoMany.f k a) r ∧ Ev (fun k => impl_TwoMany.f k a) r := by
    unfold spec_TwoMany.f impl_TwoMany.f
    by_cases h : 1 ≤ a ∧ a ≤ 2000
    · obtain ⟨r, hs, hi⟩ := TwoMany.both a h.2 2000 0 1 (by omega) (by omega) (by omega) (by omega) (by omega)
      exact ⟨r, Ev.bind0 hin (Ev.pos (by simpa using h) hs), Ev.neg (by omega) (Ev.step (fun k => impl_TwoMany.j0.eq_2 _ _ k) (Ev.neg (by simp; omega) hi))⟩
    · refine ⟨-1, Ev.bind0 hin (Ev.neg (by simpa using h) (Ev.now _)), ?_⟩
      by_cases h0 : a < 1
      · exact Ev.pos h0 (Ev.step (fun k => impl_TwoMany.j0.eq_2 _ _ k) (Ev.pos rfl (Ev.now _)))
      · exact Ev.neg h0 (Ev.step (fun k => impl_TwoMany.j0.eq_2 _ _ k) (Ev.pos (by simp; omega) (Ev.now _)))
  obtain ⟨r, hs, hi⟩ := key
  refine Ev.rounds (r := true) ?_
  unfold laws_FnExactTwoMany.f
  exact Ev.bind hs (Ev.bind hi (Ev.pos rfl (Ev.now _)))
end Go.Proofs.Ytggfffkplfmfdaa.Pure
