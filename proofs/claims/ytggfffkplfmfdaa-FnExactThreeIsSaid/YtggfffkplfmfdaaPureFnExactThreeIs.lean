/- The law FnExactThreeIs holds: ThreeIs of the program answers as the reference does, for every int. No condition. -/
import Derived.Test.YtggfffkplfmfdaaPFnExactThreeIsx1
import Derived.Test.YtggfffkplfmfdaaAid
namespace Go.Proofs.Ytggfffkplfmfdaa.Pure
open Go.RowKit Go.Proofs.Ytggfffkplfmfdaa.PFnExactThreeIs Go.Proofs.YtggfffkplfmfdaaW.PrintWords Go.Proofs.YtggfffkplfmfdaaW.PrintLast Go.Proofs.Ytggfffkplfmfdaa.Aid

theorem ThreeIs.same : ∀ (k : Nat) (x : Int), spec_ThreeIs.l0 k x = impl_ThreeIs.l0 k x
  | 0, _ => by simp [spec_ThreeIs.l0, impl_ThreeIs.l0]
  | k + 1, x => by simp only [spec_ThreeIs.l0, impl_ThreeIs.l0, ThreeIs.same k]
theorem ThreeIs.ends : ∀ (m : Nat) (x : Int), 0 ≤ x → x ≤ 2000 → x ≤ m → ∃ r, Ev (fun k => impl_ThreeIs.l0 k x) r := by
  intro m
  induction m with
  | zero =>
    intro x h0 h1 h2
    obtain rfl : x = 0 := by omega
    exact ⟨_, Ev.step (fun k => impl_ThreeIs.l0.eq_2 _ k) (Ev.neg (by omega) (Ev.now _))⟩
  | succ m ih =>
    intro x h0 h1 h2
    by_cases hx : x > 0
    · by_cases h4 : Int.tmod x 4 = 0
      · have e : wrap64 (Int.tdiv x 4) = x / 4 := by rw [Int.tdiv_eq_ediv_of_nonneg h0]; exact w64 (by omega) (by omega)
        obtain ⟨r, hr⟩ := ih (x / 4) (by omega) (by omega) (by omega)
        exact ⟨r, Ev.step (fun k => impl_ThreeIs.l0.eq_2 _ k) (Ev.pos hx (Ev.pos h4 (by rw [e]; exact hr)))⟩
      · exact ⟨_, Ev.step (fun k => impl_ThreeIs.l0.eq_2 _ k) (Ev.pos hx (Ev.neg h4 (Ev.now _)))⟩
    · exact ⟨_, Ev.step (fun k => impl_ThreeIs.l0.eq_2 _ k) (Ev.neg hx (Ev.now _))⟩
theorem FnExactThreeIs : laws_FnExactThreeIs.Pure := by
  intro a _
  have hin : spec_l8Sum.f a 0 = some (decide (0 ≤ a ∧ a ≤ 2000)) := by
    unfold spec_l8Sum.f spec_l6In.f
    by_cases h : 0 ≤ a <;> simp [h]
  by_cases h : 0 ≤ a ∧ a ≤ 2000
  · obtain ⟨r, hr⟩ := ThreeIs.ends 2000 a h.1 h.2 h.2
    have hs : Ev (fun k => spec_ThreeIs.f k a) r := by
      unfold spec_ThreeIs.f
      refine Ev.bind0 hin (Ev.pos (by simp [h]) ?_)
      exact Ev.congr (fun k => ThreeIs.same k a) hr
    have hi : Ev (fun k => impl_ThreeIs.f k a) r := by
      unfold impl_ThreeIs.f
      exact Ev.neg (by omega) (Ev.step (fun k => impl_ThreeIs.j0.eq_2 _ _ k) (Ev.neg (by simp; omega) hr))
    refine Ev.rounds (r := true) ?_
    unfold laws_FnExactThreeIs.f
    exact Ev.bind hs (Ev.bind hi (Ev.neg (by simp) (Ev.now _)))
  · have hs : Ev (fun k => spec_ThreeIs.f k a) false := by
      unfold spec_ThreeIs.f
      exact Ev.bind0 hin (Ev.neg (by simpa using h) (Ev.now _))
    have hi : Ev (fun k => impl_ThreeIs.f k a) false := by
      unfold impl_ThreeIs.f
      by_cases h0 : a < 0
      · exact Ev.pos h0 (Ev.step (fun k => impl_ThreeIs.j0.eq_2 _ _ k) (Ev.pos rfl (Ev.now _)))
      · exact Ev.neg h0 (Ev.step (fun k => impl_ThreeIs.j0.eq_2 _ _ k) (Ev.pos (by simp; omega) (Ev.now _)))
    refine Ev.rounds (r := true) ?_
    unfold laws_FnExactThreeIs.f
    exact Ev.bind hs (Ev.bind hi (Ev.neg (by simp) (Ev.now _)))
end Go.Proofs.Ytggfffkplfmfdaa.Pure
