/- The law FnExactFourMany holds: FourMany of the program answers as the reference does, for every int. No condition. -/
import Derived.Test.YtggfffkplfmfdaaPFnExactFourManyx1
import Derived.Test.YtggfffkplfmfdaaAid
namespace Go.Proofs.Ytggfffkplfmfdaa.Pure
open Go.RowKit Go.Proofs.Ytggfffkplfmfdaa.PFnExactFourMany Go.Proofs.YtggfffkplfmfdaaW.PrintWords Go.Proofs.YtggfffkplfmfdaaW.PrintLast Go.Proofs.Ytggfffkplfmfdaa.Aid

/-- Both loops, from one divisor on: the program's sum is eight times the reference's. -/
theorem FourMany.both (x : Int) (hx : x ≤ 2000) : ∀ (m : Nat) (s d : Int), 1 ≤ d → 0 ≤ s → s ≤ 2000 * d → x - d < m → d ≤ 2001 →
    ∃ r, Ev (fun k => spec_FourMany.l0 k x s d) r ∧ Ev (fun k => impl_FourMany.l0 k x (8 * s) d) r := by
  intro m
  induction m with
  | zero =>
    intro s d h1 h2 h3 h4 h5
    refine ⟨8 * s, Ev.step (fun k => spec_FourMany.l0.eq_2 _ _ _ k) (Ev.neg (by omega) (Ev.nows (w64 (by omega) (by omega)))), Ev.step (fun k => impl_FourMany.l0.eq_2 _ _ _ k) (Ev.neg (by omega) (Ev.now _))⟩
  | succ m ih =>
    intro s d h1 h2 h3 h4 h5
    by_cases hd : d ≤ x
    · have e1 : wrap64 (d + 1) = d + 1 := w64 (by omega) (by omega)
      have e2 : wrap64 (s + d) = s + d := w64 (by omega) (by omega)
      have e3 : wrap64 (8 * d) = 8 * d := w64 (by omega) (by omega)
      have e4 : wrap64 (8 * s + wrap64 (8 * d)) = 8 * (s + d) := by rw [e3, w64 (by omega) (by omega)]; omega
      by_cases ha : Int.tmod x d = 0
      · by_cases hb : Int.tmod d 4 = 0
        · obtain ⟨r, h1', h2'⟩ := ih s (d + 1) (by omega) h2 (by omega) (by omega) (by omega)
          exact ⟨r, Ev.step (fun k => spec_FourMany.l0.eq_2 _ _ _ k) (Ev.pos hd (Ev.neg (by omega) (Ev.pos ha (Ev.pos hb (by rw [e1]; exact h1'))))),
            Ev.step (fun k => impl_FourMany.l0.eq_2 _ _ _ k) (Ev.pos hd (Ev.neg (by omega) (Ev.pos ha (Ev.pos hb (by rw [e1]; exact h2')))))⟩
        · obtain ⟨r, h1', h2'⟩ := ih (s + d) (d + 1) (by omega) (by omega) (by omega) (by omega) (by omega)
          exact ⟨r, Ev.step (fun k => spec_FourMany.l0.eq_2 _ _ _ k) (Ev.pos hd (Ev.neg (by omega) (Ev.pos ha (Ev.neg hb (by rw [e1, e2]; exact h1'))))),
            Ev.step (fun k => impl_FourMany.l0.eq_2 _ _ _ k) (Ev.pos hd (Ev.neg (by omega) (Ev.pos ha (Ev.neg hb (by rw [e1, e4]; exact h2')))))⟩
      · obtain ⟨r, h1', h2'⟩ := ih s (d + 1) (by omega) h2 (by omega) (by omega) (by omega)
        exact ⟨r, Ev.step (fun k => spec_FourMany.l0.eq_2 _ _ _ k) (Ev.pos hd (Ev.neg (by omega) (Ev.neg ha (by rw [e1]; exact h1')))),
          Ev.step (fun k => impl_FourMany.l0.eq_2 _ _ _ k) (Ev.pos hd (Ev.neg (by omega) (Ev.neg ha (by rw [e1]; exact h2'))))⟩
    · exact ⟨8 * s, Ev.step (fun k => spec_FourMany.l0.eq_2 _ _ _ k) (Ev.neg hd (Ev.nows (w64 (by omega) (by omega)))), Ev.step (fun k => impl_FourMany.l0.eq_2 _ _ _ k) (Ev.neg hd (Ev.now _))⟩
theorem FnExactFourMany : laws_FnExactFourMany.Pure := by
  intro a _
  have hin : spec_l8Sum.f a 1 = some (decide (1 ≤ a ∧ a ≤ 2000)) := by
    unfold spec_l8Sum.f spec_l6In.f
    by_cases h : 1 ≤ a <;> simp [h]
  have key : ∃ r, Ev (fun k => spec_FourMany.f k a) r ∧ Ev (fun k => impl_FourMany.f k a) r := by
    unfold spec_FourMany.f impl_FourMany.f
    by_cases h : 1 ≤ a ∧ a ≤ 2000
    · obtain ⟨r, hs, hi⟩ := FourMany.both a h.2 2000 0 1 (by omega) (by omega) (by omega) (by omega) (by omega)
      exact ⟨r, Ev.bind0 hin (Ev.pos (by simpa using h) hs), Ev.neg (by omega) (Ev.step (fun k => impl_FourMany.j0.eq_2 _ _ k) (Ev.neg (by simp; omega) hi))⟩
    · refine ⟨-1, Ev.bind0 hin (Ev.neg (by simpa using h) (Ev.now _)), ?_⟩
      by_cases h0 : a < 1
      · exact Ev.pos h0 (Ev.step (fun k => impl_FourMany.j0.eq_2 _ _ k) (Ev.pos rfl (Ev.now _)))
      · exact Ev.neg h0 (Ev.step (fun k => impl_FourMany.j0.eq_2 _ _ k) (Ev.pos (by simp; omega) (Ev.now _)))
  obtain ⟨r, hs, hi⟩ := key
  refine Ev.rounds (r := true) ?_
  unfold laws_FnExactFourMany.f
  exact Ev.bind hs (Ev.bind hi (Ev.pos rfl (Ev.now _)))
end Go.Proofs.Ytggfffkplfmfdaa.Pure
