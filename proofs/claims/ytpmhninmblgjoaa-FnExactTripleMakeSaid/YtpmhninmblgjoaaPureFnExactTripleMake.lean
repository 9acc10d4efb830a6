/- The law FnExactTripleMake holds: TripleMake of the program answers as the reference does, for all ints. No condition. -/
import Derived.Test.YtpmhninmblgjoaaPFnExactTripleMakex2
import Derived.Test.YtpmhninmblgjoaaTri
namespace Go.Proofs.Ytpmhninmblgjoaa.Pure
open Go.RowKit Go.Proofs.Ytpmhninmblgjoaa.PFnExactTripleMake Go.Proofs.YtpmhninmblgjoaaW.PrintWords Go.Proofs.YtpmhninmblgjoaaW.PrintLast Go.Proofs.YtpmhninmblgjoaaW.PrintMore Go.Proofs.Ytpmhninmblgjoaa.Aid
namespace FnExactTripleMakeFun
theorem in_eq (a b c : Int) : spec_l6In.f a b c = some (decide (b ≤ a ∧ a ≤ c)) := by
  unfold spec_l6In.f
  by_cases h : b ≤ a <;> simp [h]
theorem size_eq {x : Int} (h : -9223372036854775807 ≤ x) (h1 : x ≤ 9223372036854775807) : impl_size.f x = some (x.natAbs : Int) := by
  unfold impl_size.f; rw [mx_abs h h1]
theorem gcd_l1 (xs : List Int) (n i : Int) (r : Int) : ∀ (B b a : Nat), b ≤ B → Ev (fun k => impl_gcd.l0 k (Nat.gcd a b : Int) xs n (wrap64 (i + 1))) r → Ev (fun k => impl_gcd.l1 k (a : Int) (b : Int) xs n i) r := by
  intro B
  induction B with
  | zero =>
    intro b a h hr
    obtain rfl : b = 0 := by omega
    refine Ev.step (fun k => impl_gcd.l1.eq_2 _ _ _ _ _ k) (Ev.pos rfl ?_)
    simpa using hr
  | succ B ih =>
    intro b a h hr
    rcases Nat.eq_zero_or_pos b with rfl | hb
    · refine Ev.step (fun k => impl_gcd.l1.eq_2 _ _ _ _ _ k) (Ev.pos rfl ?_)
      simpa using hr
    · refine Ev.step (fun k => impl_gcd.l1.eq_2 _ _ _ _ _ k) (Ev.neg (by omega) ?_)
      have e : Int.tmod (a : Int) (b : Int) = ((a % b : Nat) : Int) := by rw [Int.tmod_eq_emod_of_nonneg (by omega)]; rfl
      rw [e]
      refine ih (a % b) b (by have := Nat.mod_lt a hb; omega) ?_
      rwa [show Nat.gcd b (a % b) = Nat.gcd a b by rw [Nat.gcd_comm a b, Nat.gcd_rec b a, Nat.gcd_comm]]
theorem gcd_l0 (xs : List Int) (hn : xs.length ≤ 17592186044416) (hb : ∀ x ∈ xs, -9223372036854775807 ≤ x ∧ x ≤ 9223372036854775807) : ∀ (m i g : Nat), i + m = xs.length → Ev (fun k => impl_gcd.l0 k (g : Int) xs (xs.length : Int) (i : Int)) (gcdL g (xs.drop i) : Int) := by
  intro m
  induction m with
  | zero =>
    intro i g h
    refine Ev.step (fun k => impl_gcd.l0.eq_2 _ _ _ _ k) (Ev.neg (by omega) (Ev.nows ?_))
    rw [List.drop_of_length_le (by omega)]; rfl
  | succ m ih =>
    intro i g h
    have hx := hb _ (rd_mem (show i < xs.length by omega))
    refine Ev.step (fun k => impl_gcd.l0.eq_2 _ _ _ _ k) (Ev.pos (by omega) (Ev.pos (by omega) (Ev.pos (by omega) (Ev.bind0 (size_eq hx.1 hx.2) ?_))))
    refine gcd_l1 _ _ _ _ _ _ _ (Nat.le_refl _) ?_
    rw [w64s (by omega), drop_rd (show i < xs.length by omega)]
    exact ih (i + 1) _ (by omega)
theorem gcd_ev (xs : List Int) (hn : xs.length ≤ 17592186044416) (hb : ∀ x ∈ xs, -9223372036854775807 ≤ x ∧ x ≤ 9223372036854775807) : Ev (fun k => impl_gcd.f k xs) (gcdL 0 xs : Int) := by
  unfold impl_gcd.f
  exact gcd_l0 xs hn hb xs.length 0 0 (by omega)
theorem l1Size_eq {x : Int} (h : -9223372036854775807 ≤ x) (h1 : x ≤ 9223372036854775807) : spec_l1Size.f x = some (x.natAbs : Int) := by
  unfold spec_l1Size.f; rw [mx_abs h h1]
theorem l1Gcd_l : ∀ (B b a : Nat), b ≤ B → Ev (fun k => spec_l1Gcd.l0 k (a : Int) (b : Int)) (Nat.gcd a b : Int) := by
  intro B
  induction B with
  | zero =>
    intro b a h
    obtain rfl : b = 0 := by omega
    exact Ev.step (fun k => spec_l1Gcd.l0.eq_2 _ _ k) (Ev.pos rfl (Ev.nows (by simp)))
  | succ B ih =>
    intro b a h
    rcases Nat.eq_zero_or_pos b with rfl | hb
    · exact Ev.step (fun k => spec_l1Gcd.l0.eq_2 _ _ k) (Ev.pos rfl (Ev.nows (by simp)))
    · refine Ev.step (fun k => spec_l1Gcd.l0.eq_2 _ _ k) (Ev.neg (by omega) ?_)
      have e : Int.tmod (a : Int) (b : Int) = ((a % b : Nat) : Int) := by rw [Int.tmod_eq_emod_of_nonneg (by omega)]; rfl
      rw [e]
      refine Ev.to (ih (a % b) b (by have := Nat.mod_lt a hb; omega)) ?_
      rw [show Nat.gcd b (a % b) = Nat.gcd a b by rw [Nat.gcd_comm a b, Nat.gcd_rec b a, Nat.gcd_comm]]
theorem l1Gcd_ev {a b : Int} (ha : -9223372036854775807 ≤ a) (ha1 : a ≤ 9223372036854775807) (hb : -9223372036854775807 ≤ b) (hb1 : b ≤ 9223372036854775807) : Ev (fun k => spec_l1Gcd.f k a b) (Nat.gcd a.natAbs b.natAbs : Int) := by
  unfold spec_l1Gcd.f
  exact Ev.bind0 (l1Size_eq ha ha1) (Ev.bind0 (l1Size_eq hb hb1) (l1Gcd_l _ _ _ (Nat.le_refl _)))
theorem sTripleIs_ev (a b c : Int) : Ev (fun k => spec_TripleIs.f k a b c) (tri a b c) := by
  unfold spec_TripleIs.f
  by_cases ha : 1 ≤ a ∧ a ≤ 100000
  · refine Ev.bind0 (in_eq _ _ _) (Ev.pos (by simpa using ha) ?_)
    by_cases hb : 1 ≤ b ∧ b ≤ 100000
    · refine Ev.bind0 (in_eq _ _ _) (Ev.pos (by simpa using hb) ?_)
      by_cases hc : 1 ≤ c ∧ c ≤ 100000
      · refine Ev.bind0 (in_eq _ _ _) (Ev.pos (by simpa using hc) ?_)
        have qa := sq_bd ha.1 ha.2
        have qb := sq_bd hb.1 hb.2
        have qc := sq_bd hc.1 hc.2
        rw [w64 (a := a * a) (by omega) (by omega), w64 (a := b * b) (by omega) (by omega), w64 (a := c * c) (by omega) (by omega), w64 (a := a * a + b * b) (by omega) (by omega)]
        rw [Int.tmod_eq_emod_of_nonneg (a := a) (by omega), Int.tmod_eq_emod_of_nonneg (a := b) (by omega)]
        by_cases h1 : a * a + b * b = c * c
        · refine Ev.pos h1 ?_
          by_cases h2 : a % 2 = 1
          · refine Ev.pos h2 ?_
            by_cases h3 : b % 2 = 0
            · refine Ev.pos h3 (Ev.bind (l1Gcd_ev (by omega) (by omega) (by omega) (by omega)) (Ev.nows ?_))
              exact tri_last ha hb hc h1 h2 h3
            · exact Ev.neg h3 (Ev.nows (tri_no (by omega)).symm)
          · exact Ev.neg h2 (Ev.nows (tri_no (by omega)).symm)
        · exact Ev.neg h1 (Ev.nows (tri_no (by omega)).symm)
      · exact Ev.bind0 (in_eq _ _ _) (Ev.neg (by simpa using hc) (Ev.nows (tri_no (by omega)).symm))
    · exact Ev.bind0 (in_eq _ _ _) (Ev.neg (by simpa using hb) (Ev.nows (tri_no (by omega)).symm))
  · exact Ev.bind0 (in_eq _ _ _) (Ev.neg (by simpa using ha) (Ev.nows (tri_no (by omega)).symm))
theorem iTripleIs_l (a b c : Int) (xs : List Int) (hx : xs = [a, b, c]) : ∀ (m i : Nat), i + m = 3 → (i ≥ 1 → 1 ≤ a ∧ a ≤ 100000) → (i ≥ 2 → 1 ≤ b ∧ b ≤ 100000) → (i ≥ 3 → 1 ≤ c ∧ c ≤ 100000) → Ev (fun k => impl_TripleIs.l0 k a b c xs 3 (i : Int)) (tri a b c) := by
  intro m
  induction m with
  | zero =>
    intro i h ha hb hc
    obtain rfl : i = 3 := by omega
    replace ha := ha (by omega)
    replace hb := hb (by omega)
    replace hc := hc (by omega)
    refine Ev.step (fun k => impl_TripleIs.l0.eq_2 _ _ _ _ _ _ k) (Ev.neg (by omega) ?_)
    have qa := sq_bd ha.1 ha.2
    have qb := sq_bd hb.1 hb.2
    have qc := sq_bd hc.1 hc.2
    rw [w64 (a := a * a) (by omega) (by omega), w64 (a := b * b) (by omega) (by omega), w64 (a := c * c) (by omega) (by omega), w64 (a := a * a + b * b) (by omega) (by omega)]
    rw [Int.tmod_eq_emod_of_nonneg (a := a) (by omega), Int.tmod_eq_emod_of_nonneg (a := b) (by omega)]
    by_cases h1 : a * a + b * b = c * c
    · refine Ev.pos h1 ?_
      by_cases h2 : a % 2 = 1
      · refine Ev.pos h2 ?_
        by_cases h3 : b % 2 = 0
        · refine Ev.pos h3 (Ev.bind (gcd_ev [a, b, c] (by simp) (by intro x hx; simp at hx; omega)) (Ev.nows ?_))
          rw [gcd3 h1]
          exact tri_last ha hb hc h1 h2 h3
        · exact Ev.neg h3 (Ev.nows (tri_no (by omega)).symm)
      · exact Ev.neg h2 (Ev.nows (tri_no (by omega)).symm)
    · exact Ev.neg h1 (Ev.nows (tri_no (by omega)).symm)
  | succ m ih =>
    intro i h ha hb hc
    have hl : xs.length = 3 := by rw [hx]; rfl
    have r0 : rd xs ((0 : Nat) : Int) = a := by rw [hx]; rfl
    have r1 : rd xs ((1 : Nat) : Int) = b := by rw [hx]; rfl
    have r2 : rd xs ((2 : Nat) : Int) = c := by rw [hx]; rfl
    have hi : rd xs (i : Int) = if i = 0 then a else if i = 1 then b else c := by
      rcases (by omega : i = 0 ∨ i = 1 ∨ i = 2) with rfl | rfl | rfl
      · rw [r0]; rfl
      · rw [r1]; rfl
      · rw [r2]; rfl
    refine Ev.step (fun k => impl_TripleIs.l0.eq_2 _ _ _ _ _ _ k) (Ev.pos (by omega) (Ev.pos (by omega) (Ev.pos (by omega) ?_)))
    by_cases h1 : rd xs (i : Int) < 1
    · refine Ev.pos h1 (Ev.nows (tri_no ?_).symm)
      rw [hi] at h1
      split at h1
      · omega
      · split at h1 <;> omega
    · refine Ev.neg h1 ?_
      by_cases h2 : rd xs (i : Int) > 100000
      · refine Ev.pos h2 (Ev.nows (tri_no ?_).symm)
        rw [hi] at h2
        split at h2
        · omega
        · split at h2 <;> omega
      · refine Ev.neg h2 ?_
        rw [w64s (by omega)]
        rw [hi] at h1 h2
        refine ih (i + 1) (by omega) (fun _ => ?_) (fun _ => ?_) (fun _ => ?_)
        · by_cases e : i = 0
          · simp only [if_pos e] at h1 h2; omega
          · exact ha (by omega)
        · by_cases e : i = 1
          · subst e; simp at h1 h2; omega
          · exact hb (by omega)
        · by_cases e : i = 2
          · subst e; simp at h1 h2; omega
          · exact hc (by omega)
theorem iTripleIs_ev (a b c : Int) : Ev (fun k => impl_TripleIs.f k a b c) (tri a b c) := by
  unfold impl_TripleIs.f
  exact Ev.bind0 rfl (iTripleIs_l a b c _ rfl 3 0 (by omega) (by omega) (by omega) (by omega))
theorem sTripleMake_ev (m n : Int) : Ev (fun k => spec_TripleMake.f k m n) (mk m n) := by
  unfold spec_TripleMake.f
  by_cases hm : 2 ≤ m ∧ m ≤ 316
  · refine Ev.bind0 (in_eq _ _ _) (Ev.pos (by simpa using hm) (Ev.bind0 (in_eq _ _ _) ?_))
    rw [w64 (a := m - 1) (by omega) (by omega)]
    by_cases hn : 1 ≤ n ∧ n ≤ m - 1
    · obtain ⟨e1, e2, e3⟩ := mk_wraps hm.1 hm.2 hn.1 (by omega)
      rw [e1, e2, e3]
      refine Ev.pos (by simpa using hn) (Ev.bind (sTripleIs_ev _ _ _) ?_)
      by_cases ht : tri (m * m - n * n) (2 * m * n) (m * m + n * n) = true
      · exact Ev.pos ht (Ev.nows (mk_yes hm.1 hm.2 hn.1 (by omega) ht).symm)
      · exact Ev.neg ht (Ev.nows (mk_no (fun h => ht h.2.2.2.2)).symm)
    · exact Ev.neg (by simpa using hn) (Ev.nows (mk_no (fun h => hn ⟨h.2.2.1, by omega⟩)).symm)
  · exact Ev.bind0 (in_eq _ _ _) (Ev.neg (by simpa using hm) (Ev.nows (mk_no (fun h => hm ⟨h.1, h.2.1⟩)).symm))
theorem iTripleMake_ev (m n : Int) : Ev (fun k => impl_TripleMake.f k m n) (mk m n) := by
  unfold impl_TripleMake.f
  by_cases h1 : m < 2
  · exact Ev.pos h1 (Ev.nows (mk_no (by omega)).symm)
  · refine Ev.neg h1 ?_
    by_cases h2 : m > 316
    · exact Ev.pos h2 (Ev.nows (mk_no (by omega)).symm)
    · refine Ev.neg h2 ?_
      by_cases h3 : n < 1
      · exact Ev.pos h3 (Ev.nows (mk_no (by omega)).symm)
      · refine Ev.neg h3 ?_
        by_cases h4 : n ≥ m
        · exact Ev.pos h4 (Ev.nows (mk_no (by omega)).symm)
        · obtain ⟨e1, e2, e3⟩ := mk_wraps (m := m) (n := n) (by omega) (by omega) (by omega) (by omega)
          rw [e1, e2, e3]
          refine Ev.neg h4 (Ev.bind (iTripleIs_ev _ _ _) ?_)
          by_cases ht : tri (m * m - n * n) (2 * m * n) (m * m + n * n) = true
          · exact Ev.pos ht (Ev.nows (mk_yes (by omega) (by omega) (by omega) (by omega) ht).symm)
          · exact Ev.neg ht (Ev.nows (mk_no (fun h => ht h.2.2.2.2)).symm)
end FnExactTripleMakeFun
theorem FnExactTripleMake : laws_FnExactTripleMake.Pure := by
  intro m n _ _
  refine Ev.rounds (r := true) ?_
  unfold laws_FnExactTripleMake.f
  exact Ev.bind (FnExactTripleMakeFun.sTripleMake_ev m n) (Ev.bind (FnExactTripleMakeFun.iTripleMake_ev m n) (Ev.pos rfl (Ev.pos rfl (Ev.pos rfl (Ev.neg (by simp) (Ev.now _))))))
end Go.Proofs.Ytpmhninmblgjoaa.Pure
