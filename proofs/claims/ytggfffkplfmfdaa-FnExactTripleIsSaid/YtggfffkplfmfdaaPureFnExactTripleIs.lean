/- The law FnExactTripleIs holds: TripleIs of the program answers as the reference does, for all ints. No condition. -/
import Derived.Test.YtggfffkplfmfdaaPFnExactTripleIsx1
import Derived.Test.YtggfffkplfmfdaaAid
namespace Go.Proofs.Ytggfffkplfmfdaa.Pure
open Go.RowKit Go.Proofs.Ytggfffkplfmfdaa.PFnExactTripleIs Go.Proofs.YtggfffkplfmfdaaW.PrintWords Go.Proofs.YtggfffkplfmfdaaW.PrintLast Go.Proofs.YtggfffkplfmfdaaW.PrintMore Go.Proofs.Ytggfffkplfmfdaa.Aid
namespace FnExactTripleIsFun
theorem in_eq (a b c : Int) : spec_l6In.f a b c = some (decide (b ≤ a ∧ a ≤ c)) := by
  unfold spec_l6In.f
  by_cases h : b ≤ a <;> simp [h]
theorem size_eq {x : Int} (h : -9223372036854775807 ≤ x) (h1 : x ≤ 9223372036854775807) : impl_size.f x = some (x.natAbs : Int) := by
  unfold impl_size.f; rw [mx_abs h h1]
theorem gcd_l1 (xs : List Int) (n i : Int) (r : Int) : ∀ (B b a : Nat), b ≤ B → Ev (fun k => impl_gcd.l0 k (Nat.gcd a b : Int) xs n (wrap64 (i + 1))) r → Ev (fun k => impl_gcd.l1 k (a : Int) (b : Int) xs n i) r := by
  intro B
  induction B with
  | zero =>
    intro b a h hr
    obtain rfl : b = 0 := by omega
    refine Ev.step (fun k => impl_gcd.l1.eq_2 _ _ _ _ _ k) (Ev.pos rfl ?_)
    simpa using hr
  | succ B ih =>
    intro b a h hr
    rcases Nat.eq_zero_or_pos b with rfl | hb
    · refine Ev.step (fun k => impl_gcd.l1.eq_2 _ _ _ _ _ k) (Ev.pos rfl ?_)
      simpa using hr
    · refine Ev.step (fun k => impl_gcd.l1.eq_2 _ _ _ _ _ k) (Ev.neg (by omega) ?_)
      have e : Int.tmod (a : Int) (b : Int) = ((a % b : Nat) : Int) := by rw [Int.tmod_eq_emod_of_nonneg (by omega)]; rfl
      rw [e]
      refine ih (a % b) b (by have := Nat.mod_lt a hb; omega) ?_
      rwa [show Nat.gcd b (a % b) = Nat.gcd a b by rw [Nat.gcd_comm a b, Nat.gcd_rec b a, Nat.gcd_comm]]
theorem gcd_l0 (xs : List Int) (hn : xs.length ≤ 17592186044416) (hb : ∀ x ∈ xs, -9223372036854775807 ≤ x ∧ x ≤ 9223372036854775807) : ∀ (m i g : Nat), i + m = xs.length → Ev (fun k => impl_gcd.l0 k (g : Int) xs (xs.length : Int) (i : Int)) (gcdL g (xs.drop i) : Int) := by
  intro m
  induction m with
  | zero =>
    intro i g h
    refine Ev.step (fun k => impl_gcd.l0.eq_2 _ _ _ _ k) (Ev.neg (by omega) (Ev.nows ?_))
    rw [List.drop_of_length_le (by omega)]; rfl
  | succ m ih =>
    intro i g h
    have hx := hb _ (rd_mem (show i < xs.length by omega))
    refine Ev.step (fun k => impl_gcd.l0.eq_2 _ _ _ _ k) (Ev.pos (by omega) (Ev.pos (by omega) (Ev.pos (by omega) (Ev.bind0 (size_eq hx.1 hx.2) ?_))))
    refine gcd_l1 _ _ _ _ _ _ _ (Nat.le_refl _) ?_
    rw [w64s (by omega), drop_rd (show i < xs.length by omega)]
    exact ih (i + 1) _ (by omega)
theorem gcd_ev (xs : List Int) (hn : xs.length ≤ 17592186044416) (hb : ∀ x ∈ xs, -9223372036854775807 ≤ x ∧ x ≤ 9223372036854775807) : Ev (fun k => impl_gcd.f k xs) (gcdL 0 xs : Int) := by
  unfold impl_gcd.f
  exact gcd_l0 xs hn hb xs.length 0 0 (by omega)
theorem l1Size_eq {x : Int} (h : -9223372036854775807 ≤ x) (h1 : x ≤ 9223372036854775807) : spec_l1Size.f x = some (x.natAbs : Int) := by
  unfold spec_l1Size.f; rw [mx_abs h h1]
theorem l1Gcd_l : ∀ (B b a : Nat), b ≤ B → Ev (fun k => spec_l1Gcd.l0 k (a : Int) (b : Int)) (Nat.gcd a b : Int) := by
  intro B
  induction B with
  | zero =>
    intro b a h
    obtain rfl : b = 0 := by omega
    exact Ev.step (fun k => spec_l1Gcd.l0.eq_2 _ _ k) (Ev.pos rfl (Ev.nows (by simp)))
  | succ B ih =>
    intro b a h
    rcases Nat.eq_zero_or_pos b with rfl | hb
    · exact Ev.step (fun k => spec_l1Gcd.l0.eq_2 _ _ k) (Ev.pos rfl (Ev.nows (by simp)))
    · refine Ev.step (fun k => spec_l1Gcd.l0.eq_2 _ _ k) (Ev.neg (by omega) ?_)
      have e : Int.tmod (a : Int) (b : Int) = ((a % b : Nat) : Int) := by rw [Int.tmod_eq_emod_of_nonneg (by omega)]; rfl
      rw [e]
      refine Ev.to (ih (a % b) b (by have := Nat.mod_lt a hb; omega)) ?_
      rw [show Nat.gcd b (a % b) = Nat.gcd a b by rw [Nat.gcd_comm a b, Nat.gcd_rec b a, Nat.gcd_comm]]
theorem l1Gcd_ev {a b : Int} (ha : -9223372036854775807 ≤ a) (ha1 : a ≤ 9223372036854775807) (hb : -9223372036854775807 ≤ b) (hb1 : b ≤ 9223372036854775807) : Ev (fun k => spec_l1Gcd.f k a b) (Nat.gcd a.natAbs b.natAbs : Int) := by
  unfold spec_l1Gcd.f
  exact Ev.bind0 (l1Size_eq ha ha1) (Ev.bind0 (l1Size_eq hb hb1) (l1Gcd_l _ _ _ (Nat.le_refl _)))
theorem gcd3 {a b c : Int} (h : a * a + b * b = c * c) : gcdL 0 [a, b, c] = Nat.gcd a.natAbs b.natAbs := by
  simp only [gcdL, List.foldl_cons, List.foldl_nil, Nat.gcd_zero_left]
  refine Nat.gcd_eq_left ?_
  obtain ⟨x, hx⟩ := Nat.gcd_dvd_left a.natAbs b.natAbs
  obtain ⟨y, hy⟩ := Nat.gcd_dvd_right a.natAbs b.natAbs
  generalize Nat.gcd a.natAbs b.natAbs = g at *
  have h1 : a.natAbs * a.natAbs + b.natAbs * b.natAbs = c.natAbs * c.natAbs := by
    have e1 := Int.natAbs_mul_self (a := a)
    have e2 := Int.natAbs_mul_self (a := b)
    have e3 := Int.natAbs_mul_self (a := c)
    omega
  rw [hx, hy] at h1
  have h2 : g * g ∣ c.natAbs * c.natAbs := ⟨x * x + y * y, by rw [← h1]; grind⟩
  have h3 : g ^ 2 ∣ c.natAbs ^ 2 := by rw [Nat.pow_two, Nat.pow_two]; exact h2
  exact (Nat.pow_dvd_pow_iff (by decide)).1 h3
/-- What both functions tell. -/
def tri (a b c : Int) : Bool := decide (1 ≤ a ∧ a ≤ 100000 ∧ 1 ≤ b ∧ b ≤ 100000 ∧ 1 ≤ c ∧ c ≤ 100000 ∧ a * a + b * b = c * c ∧ a % 2 = 1 ∧ b % 2 = 0 ∧ Nat.gcd a.natAbs b.natAbs = 1)
theorem sq_bd {a : Int} (h1 : 1 ≤ a) (h2 : a ≤ 100000) : 0 ≤ a * a ∧ a * a ≤ 10000000000 :=
  ⟨Int.mul_nonneg (by omega) (by omega), by have := Int.mul_le_mul h2 h2 (by omega) (by omega); omega⟩
theorem tri_no {a b c : Int} (h : ¬ (1 ≤ a ∧ a ≤ 100000 ∧ 1 ≤ b ∧ b ≤ 100000 ∧ 1 ≤ c ∧ c ≤ 100000 ∧ a * a + b * b = c * c ∧ a % 2 = 1 ∧ b % 2 = 0 ∧ Nat.gcd a.natAbs b.natAbs = 1)) : tri a b c = false := by
  unfold tri; exact decide_eq_false h
theorem tri_last {a b c : Int} (ha : 1 ≤ a ∧ a ≤ 100000) (hb : 1 ≤ b ∧ b ≤ 100000) (hc : 1 ≤ c ∧ c ≤ 100000) (h1 : a * a + b * b = c * c) (h2 : a % 2 = 1) (h3 : b % 2 = 0) :
    (((Nat.gcd a.natAbs b.natAbs : Nat) : Int) == 1) = tri a b c := by
  unfold tri
  by_cases h4 : Nat.gcd a.natAbs b.natAbs = 1
  · rw [decide_eq_true (show _ from ⟨ha.1, ha.2, hb.1, hb.2, hc.1, hc.2, h1, h2, h3, h4⟩)]; simp [h4]
  · rw [decide_eq_false (by rintro ⟨_, _, _, _, _, _, _, _, _, h⟩; exact h4 h)]; simp; omega
theorem sTripleIs_ev (a b c : Int) : Ev (fun k => spec_TripleIs.f k a b c) (tri a b c) := by
  unfold spec_TripleIs.f
  by_cases ha : 1 ≤ a ∧ a ≤ 100000
  · refine Ev.bind0 (in_eq _ _ _) (Ev.pos (by simpa using ha) ?_)
    by_cases hb : 1 ≤ b ∧ b ≤ 100000
    · refine Ev.bind0 (in_eq _ _ _) (Ev.pos (by simpa using hb) ?_)
      by_cases hc : 1 ≤ c ∧ c ≤ 100000
      · refine Ev.bind0 (in_eq _ _ _) (Ev.pos (by simpa using hc) ?_)
        have qa := sq_bd ha.1 ha.2
        have qb := sq_bd hb.1 hb.2
        have qc := sq_bd hc.1 hc.2
        rw [w64 (a := a * a) (by omega) (by omega), w64 (a := b * b) (by omega) (by omega), w64 (a := c * c) (by omega) (by omega), w64 (a := a * a + b * b) (by omega) (by omega)]
        rw [Int.tmod_eq_emod_of_nonneg (a := a) (by omega), Int.tmod_eq_emod_of_nonneg (a := b) (by omega)]
        by_cases h1 : a * a + b * b = c * c
        · refine Ev.pos h1 ?_
          by_cases h2 : a % 2 = 1
          · refine Ev.pos h2 ?_
            by_cases h3 : b % 2 = 0
            · refine Ev.pos h3 (Ev.bind (l1Gcd_ev (by omega) (by omega) (by omega) (by omega)) (Ev.nows ?_))
              exact tri_last ha hb hc h1 h2 h3
            · exact Ev.neg h3 (Ev.nows (tri_no (by omega)).symm)
          · exact Ev.neg h2 (Ev.nows (tri_no (by omega)).symm)
        · exact Ev.neg h1 (Ev.nows (tri_no (by omega)).symm)
      · exact Ev.bind0 (in_eq _ _ _) (Ev.neg (by simpa using hc) (Ev.nows (tri_no (by omega)).symm))
    · exact Ev.bind0 (in_eq _ _ _) (Ev.neg (by simpa using hb) (Ev.nows (tri_no (by omega)).symm))
  · exact Ev.bind0 (in_eq _ _ _) (Ev.neg (by simpa using ha) (Ev.nows (tri_no (by omega)).symm))
theorem iTripleIs_l (a b c : Int) (xs : List Int) (hx : xs = [a, b, c]) : ∀ (m i : Nat), i + m = 3 → (i ≥ 1 → 1 ≤ a ∧ a ≤ 100000) → (i ≥ 2 → 1 ≤ b ∧ b ≤ 100000) → (i ≥ 3 → 1 ≤ c ∧ c ≤ 100000) → Ev (fun k => impl_TripleIs.l0 k a b c xs 3 (i : Int)) (tri a b c) := by
  intro m
  induction m with
  | zero =>
    intro i h ha hb hc
    obtain rfl : i = 3 := by omega
    replace ha := ha (by omega)
    replace hb := hb (by omega)
    replace hc := hc (by omega)
    refine Ev.step (fun k => impl_TripleIs.l0.eq_2 _ _ _ _ _ _ k) (Ev.neg (by omega) ?_)
    have qa := sq_bd ha.1 ha.2
    have qb := sq_bd hb.1 hb.2
    have qc := sq_bd hc.1 hc.2
    rw [w64 (a := a * a) (by omega) (by omega), w64 (a := b * b) (by omega) (by omega), w64 (a := c * c) (by omega) (by omega), w64 (a := a * a + b * b) (by omega) (by omega)]
    rw [Int.tmod_eq_emod_of_nonneg (a := a) (by omega), Int.tmod_eq_emod_of_nonneg (a := b) (by omega)]
    by_cases h1 : a * a + b * b = c * c
    · refine Ev.pos h1 ?_
      by_cases h2 : a % 2 = 1
      · refine Ev.pos h2 ?_
        by_cases h3 : b % 2 = 0
        · refine Ev.pos h3 (Ev.bind (gcd_ev [a, b, c] (by simp) (by intro x hx; simp at hx; omega)) (Ev.nows ?_))
          rw [gcd3 h1]
          exact tri_last ha hb hc h1 h2 h3
        · exact Ev.neg h3 (Ev.nows (tri_no (by omega)).symm)
      · exact Ev.neg h2 (Ev.nows (tri_no (by omega)).symm)
    · exact Ev.neg h1 (Ev.nows (tri_no (by omega)).symm)
  | succ m ih =>
    intro i h ha hb hc
    have hl : xs.length = 3 := by rw [hx]; rfl
    have r0 : rd xs ((0 : Nat) : Int) = a := by rw [hx]; rfl
    have r1 : rd xs ((1 : Nat) : Int) = b := by rw [hx]; rfl
    have r2 : rd xs ((2 : Nat) : Int) = c := by rw [hx]; rfl
    have hi : rd xs (i : Int) = if i = 0 then a else if i = 1 then b else c := by
      rcases (by omega : i = 0 ∨ i = 1 ∨ i = 2) with rfl | rfl | rfl
      · rw [r0]; rfl
      · rw [r1]; rfl
      · rw [r2]; rfl
    refine Ev.step (fun k => impl_TripleIs.l0.eq_2 _ _ _ _ _ _ k) (Ev.pos (by omega) (Ev.pos (by omega) (Ev.pos (by omega) ?_)))
    by_cases h1 : rd xs (i : Int) < 1
    · refine Ev.pos h1 (Ev.nows (tri_no ?_).symm)
      rw [hi] at h1
      split at h1
      · omega
      · split at h1 <;> omega
    · refine Ev.neg h1 ?_
      by_cases h2 : rd xs (i : Int) > 100000
      · refine Ev.pos h2 (Ev.nows (tri_no ?_).symm)
        rw [hi] at h2
        split at h2
        · omega
        · split at h2 <;> omega
      · refine Ev.neg h2 ?_
        rw [w64s (by omega)]
        rw [hi] at h1 h2
        refine ih (i + 1) (by omega) (fun _ => ?_) (fun _ => ?_) (fun _ => ?_)
        · by_cases e : i = 0
          · simp only [if_pos e] at h1 h2; omega
          · exact ha (by omega)
        · by_cases e : i = 1
          · subst e; simp at h1 h2; omega
          · exact hb (by omega)
        · by_cases e : i = 2
          · subst e; simp at h1 h2; omega
          · exact hc (by omega)
theorem iTripleIs_ev (a b c : Int) : Ev (fun k => impl_TripleIs.f k a b c) (tri a b c) := by
  unfold impl_TripleIs.f
  exact Ev.bind0 rfl (iTripleIs_l a b c _ rfl 3 0 (by omega) (by omega) (by omega) (by omega))
end FnExactTripleIsFun
theorem FnExactTripleIs : laws_FnExactTripleIs.Pure := by
  intro a b c _ _ _
  refine Ev.rounds (r := true) ?_
  unfold laws_FnExactTripleIs.f
  exact Ev.bind (FnExactTripleIsFun.sTripleIs_ev a b c) (Ev.bind (FnExactTripleIsFun.iTripleIs_ev a b c) (Ev.neg (by simp) (Ev.now _)))
end Go.Proofs.Ytggfffkplfmfdaa.Pure
