/- The law FnParent holds: a parent has its child. For every list of bytes; No condition. -/
import Derived.Test.YtpmhninmblgjoaaPFnParentx
import Derived.Test.YtpmhninmblgjoaaTri
import Derived.Test.YtpmhninmblgjoaaVec
namespace Go.Proofs.Ytpmhninmblgjoaa.Pure
open Go.RowKit Go.Proofs.Ytpmhninmblgjoaa.PFnParent Go.Proofs.YtpmhninmblgjoaaW.PrintWords Go.Proofs.YtpmhninmblgjoaaW.PrintLast Go.Proofs.YtpmhninmblgjoaaW.PrintMore Go.Proofs.Ytpmhninmblgjoaa.Aid
namespace FnParentFun
theorem in_eq (a b c : Int) : spec_l6In.f a b c = some (decide (b ≤ a ∧ a ≤ c)) := by
  unfold spec_l6In.f
  by_cases h : b ≤ a <;> simp [h]
theorem size_eq {x : Int} (h : -9223372036854775807 ≤ x) (h1 : x ≤ 9223372036854775807) : impl_size.f x = some (x.natAbs : Int) := by
  unfold impl_size.f; rw [mx_abs h h1]
theorem gcd_l1 (xs : List Int) (n i : Int) (r : Int) : ∀ (B b a : Nat), b ≤ B → Ev (fun k => impl_gcd.l0 k (Nat.gcd a b : Int) xs n (wrap64 (i + 1))) r → Ev (fun k => impl_gcd.l1 k (a : Int) (b : Int) xs n i) r := by
  intro B
  induction B with
  | zero =>
    intro b a h hr
    obtain rfl : b = 0 := by omega
    refine Ev.step (fun k => impl_gcd.l1.eq_2 _ _ _ _ _ k) (Ev.pos rfl ?_)
    simpa using hr
  | succ B ih =>
    intro b a h hr
    rcases Nat.eq_zero_or_pos b with rfl | hb
    · refine Ev.step (fun k => impl_gcd.l1.eq_2 _ _ _ _ _ k) (Ev.pos rfl ?_)
      simpa using hr
    · refine Ev.step (fun k => impl_gcd.l1.eq_2 _ _ _ _ _ k) (Ev.neg (by omega) ?_)
      have e : Int.tmod (a : Int) (b : Int) = ((a % b : Nat) : Int) := by rw [Int.tmod_eq_emod_of_nonneg (by omega)]; rfl
      rw [e]
      refine ih (a % b) b (by have := Nat.mod_lt a hb; omega) ?_
      rwa [show Nat.gcd b (a % b) = Nat.gcd a b by rw [Nat.gcd_comm a b, Nat.gcd_rec b a, Nat.gcd_comm]]
theorem gcd_l0 (xs : List Int) (hn : xs.length ≤ 17592186044416) (hb : ∀ x ∈ xs, -9223372036854775807 ≤ x ∧ x ≤ 9223372036854775807) : ∀ (m i g : Nat), i + m = xs.length → Ev (fun k => impl_gcd.l0 k (g : Int) xs (xs.length : Int) (i : Int)) (gcdL g (xs.drop i) : Int) := by
  intro m
  induction m with
  | zero =>
    intro i g h
    refine Ev.step (fun k => impl_gcd.l0.eq_2 _ _ _ _ k) (Ev.neg (by omega) (Ev.nows ?_))
    rw [List.drop_of_length_le (by omega)]; rfl
  | succ m ih =>
    intro i g h
    have hx := hb _ (rd_mem (show i < xs.length by omega))
    refine Ev.step (fun k => impl_gcd.l0.eq_2 _ _ _ _ k) (Ev.pos (by omega) (Ev.pos (by omega) (Ev.pos (by omega) (Ev.bind0 (size_eq hx.1 hx.2) ?_))))
    refine gcd_l1 _ _ _ _ _ _ _ (Nat.le_refl _) ?_
    rw [w64s (by omega), drop_rd (show i < xs.length by omega)]
    exact ih (i + 1) _ (by omega)
theorem gcd_ev (xs : List Int) (hn : xs.length ≤ 17592186044416) (hb : ∀ x ∈ xs, -9223372036854775807 ≤ x ∧ x ≤ 9223372036854775807) : Ev (fun k => impl_gcd.f k xs) (gcdL 0 xs : Int) := by
  unfold impl_gcd.f
  exact gcd_l0 xs hn hb xs.length 0 0 (by omega)
theorem l1Size_eq {x : Int} (h : -9223372036854775807 ≤ x) (h1 : x ≤ 9223372036854775807) : spec_l1Size.f x = some (x.natAbs : Int) := by
  unfold spec_l1Size.f; rw [mx_abs h h1]
theorem l1Gcd_l : ∀ (B b a : Nat), b ≤ B → Ev (fun k => spec_l1Gcd.l0 k (a : Int) (b : Int)) (Nat.gcd a b : Int) := by
  intro B
  induction B with
  | zero =>
    intro b a h
    obtain rfl : b = 0 := by omega
    exact Ev.step (fun k => spec_l1Gcd.l0.eq_2 _ _ k) (Ev.pos rfl (Ev.nows (by simp)))
  | succ B ih =>
    intro b a h
    rcases Nat.eq_zero_or_pos b with rfl | hb
    · exact Ev.step (fun k => spec_l1Gcd.l0.eq_2 _ _ k) (Ev.pos rfl (Ev.nows (by simp)))
    · refine Ev.step (fun k => spec_l1Gcd.l0.eq_2 _ _ k) (Ev.neg (by omega) ?_)
      have e : Int.tmod (a : Int) (b : Int) = ((a % b : Nat) : Int) := by rw [Int.tmod_eq_emod_of_nonneg (by omega)]; rfl
      rw [e]
      refine Ev.to (ih (a % b) b (by have := Nat.mod_lt a hb; omega)) ?_
      rw [show Nat.gcd b (a % b) = Nat.gcd a b by rw [Nat.gcd_comm a b, Nat.gcd_rec b a, Nat.gcd_comm]]
theorem l1Gcd_ev {a b : Int} (ha : -9223372036854775807 ≤ a) (ha1 : a ≤ 9223372036854775807) (hb : -9223372036854775807 ≤ b) (hb1 : b ≤ 9223372036854775807) : Ev (fun k => spec_l1Gcd.f k a b) (Nat.gcd a.natAbs b.natAbs : Int) := by
  unfold spec_l1Gcd.f
  exact Ev.bind0 (l1Size_eq ha ha1) (Ev.bind0 (l1Size_eq hb hb1) (l1Gcd_l _ _ _ (Nat.le_refl _)))
theorem sTripleIs_ev (a b c : Int) : Ev (fun k => spec_TripleIs.f k a b c) (tri a b c) := by
  unfold spec_TripleIs.f
  by_cases ha : 1 ≤ a ∧ a ≤ 100000
  · refine Ev.bind0 (in_eq _ _ _) (Ev.pos (by simpa using ha) ?_)
    by_cases hb : 1 ≤ b ∧ b ≤ 100000
    · refine Ev.bind0 (in_eq _ _ _) (Ev.pos (by simpa using hb) ?_)
      by_cases hc : 1 ≤ c ∧ c ≤ 100000
      · refine Ev.bind0 (in_eq _ _ _) (Ev.pos (by simpa using hc) ?_)
        have qa := sq_bd ha.1 ha.2
        have qb := sq_bd hb.1 hb.2
        have qc := sq_bd hc.1 hc.2
        rw [w64 (a := a * a) (by omega) (by omega), w64 (a := b * b) (by omega) (by omega), w64 (a := c * c) (by omega) (by omega), w64 (a := a * a + b * b) (by omega) (by omega)]
        rw [Int.tmod_eq_emod_of_nonneg (a := a) (by omega), Int.tmod_eq_emod_of_nonneg (a := b) (by omega)]
        by_cases h1 : a * a + b * b = c * c
        · refine Ev.pos h1 ?_
          by_cases h2 : a % 2 = 1
          · refine Ev.pos h2 ?_
            by_cases h3 : b % 2 = 0
            · refine Ev.pos h3 (Ev.bind (l1Gcd_ev (by omega) (by omega) (by omega) (by omega)) (Ev.nows ?_))
              exact tri_last ha hb hc h1 h2 h3
            · exact Ev.neg h3 (Ev.nows (tri_no (by omega)).symm)
          · exact Ev.neg h2 (Ev.nows (tri_no (by omega)).symm)
        · exact Ev.neg h1 (Ev.nows (tri_no (by omega)).symm)
      · exact Ev.bind0 (in_eq _ _ _) (Ev.neg (by simpa using hc) (Ev.nows (tri_no (by omega)).symm))
    · exact Ev.bind0 (in_eq _ _ _) (Ev.neg (by simpa using hb) (Ev.nows (tri_no (by omega)).symm))
  · exact Ev.bind0 (in_eq _ _ _) (Ev.neg (by simpa using ha) (Ev.nows (tri_no (by omega)).symm))
theorem iTripleIs_l (a b c : Int) (xs : List Int) (hx : xs = [a, b, c]) : ∀ (m i : Nat), i + m = 3 → (i ≥ 1 → 1 ≤ a ∧ a ≤ 100000) → (i ≥ 2 → 1 ≤ b ∧ b ≤ 100000) → (i ≥ 3 → 1 ≤ c ∧ c ≤ 100000) → Ev (fun k => impl_TripleIs.l0 k a b c xs 3 (i : Int)) (tri a b c) := by
  intro m
  induction m with
  | zero =>
    intro i h ha hb hc
    obtain rfl : i = 3 := by omega
    replace ha := ha (by omega)
    replace hb := hb (by omega)
    replace hc := hc (by omega)
    refine Ev.step (fun k => impl_TripleIs.l0.eq_2 _ _ _ _ _ _ k) (Ev.neg (by omega) ?_)
    have qa := sq_bd ha.1 ha.2
    have qb := sq_bd hb.1 hb.2
    have qc := sq_bd hc.1 hc.2
    rw [w64 (a := a * a) (by omega) (by omega), w64 (a := b * b) (by omega) (by omega), w64 (a := c * c) (by omega) (by omega), w64 (a := a * a + b * b) (by omega) (by omega)]
    rw [Int.tmod_eq_emod_of_nonneg (a := a) (by omega), Int.tmod_eq_emod_of_nonneg (a := b) (by omega)]
    by_cases h1 : a * a + b * b = c * c
    · refine Ev.pos h1 ?_
      by_cases h2 : a % 2 = 1
      · refine Ev.pos h2 ?_
        by_cases h3 : b % 2 = 0
        · refine Ev.pos h3 (Ev.bind (gcd_ev [a, b, c] (by simp) (by intro x hx; simp at hx; omega)) (Ev.nows ?_))
          rw [gcd3 h1]
          exact tri_last ha hb hc h1 h2 h3
        · exact Ev.neg h3 (Ev.nows (tri_no (by omega)).symm)
      · exact Ev.neg h2 (Ev.nows (tri_no (by omega)).symm)
    · exact Ev.neg h1 (Ev.nows (tri_no (by omega)).symm)
  | succ m ih =>
    intro i h ha hb hc
    have hl : xs.length = 3 := by rw [hx]; rfl
    have r0 : rd xs ((0 : Nat) : Int) = a := by rw [hx]; rfl
    have r1 : rd xs ((1 : Nat) : Int) = b := by rw [hx]; rfl
    have r2 : rd xs ((2 : Nat) : Int) = c := by rw [hx]; rfl
    have hi : rd xs (i : Int) = if i = 0 then a else if i = 1 then b else c := by
      rcases (by omega : i = 0 ∨ i = 1 ∨ i = 2) with rfl | rfl | rfl
      · rw [r0]; rfl
      · rw [r1]; rfl
      · rw [r2]; rfl
    refine Ev.step (fun k => impl_TripleIs.l0.eq_2 _ _ _ _ _ _ k) (Ev.pos (by omega) (Ev.pos (by omega) (Ev.pos (by omega) ?_)))
    by_cases h1 : rd xs (i : Int) < 1
    · refine Ev.pos h1 (Ev.nows (tri_no ?_).symm)
      rw [hi] at h1
      split at h1
      · omega
      · split at h1 <;> omega
    · refine Ev.neg h1 ?_
      by_cases h2 : rd xs (i : Int) > 100000
      · refine Ev.pos h2 (Ev.nows (tri_no ?_).symm)
        rw [hi] at h2
        split at h2
        · omega
        · split at h2 <;> omega
      · refine Ev.neg h2 ?_
        rw [w64s (by omega)]
        rw [hi] at h1 h2
        refine ih (i + 1) (by omega) (fun _ => ?_) (fun _ => ?_) (fun _ => ?_)
        · by_cases e : i = 0
          · simp only [if_pos e] at h1 h2; omega
          · exact ha (by omega)
        · by_cases e : i = 1
          · subst e; simp at h1 h2; omega
          · exact hb (by omega)
        · by_cases e : i = 2
          · subst e; simp at h1 h2; omega
          · exact hc (by omega)
theorem iTripleIs_ev (a b c : Int) : Ev (fun k => impl_TripleIs.f k a b c) (tri a b c) := by
  unfold impl_TripleIs.f
  exact Ev.bind0 rfl (iTripleIs_l a b c _ rfl 3 0 (by omega) (by omega) (by omega) (by omega))
theorem sTripleMake_ev (m n : Int) : Ev (fun k => spec_TripleMake.f k m n) (mk m n) := by
  unfold spec_TripleMake.f
  by_cases hm : 2 ≤ m ∧ m ≤ 316
  · refine Ev.bind0 (in_eq _ _ _) (Ev.pos (by simpa using hm) (Ev.bind0 (in_eq _ _ _) ?_))
    rw [w64 (a := m - 1) (by omega) (by omega)]
    by_cases hn : 1 ≤ n ∧ n ≤ m - 1
    · obtain ⟨e1, e2, e3⟩ := mk_wraps hm.1 hm.2 hn.1 (by omega)
      rw [e1, e2, e3]
      refine Ev.pos (by simpa using hn) (Ev.bind (sTripleIs_ev _ _ _) ?_)
      by_cases ht : tri (m * m - n * n) (2 * m * n) (m * m + n * n) = true
      · exact Ev.pos ht (Ev.nows (mk_yes hm.1 hm.2 hn.1 (by omega) ht).symm)
      · exact Ev.neg ht (Ev.nows (mk_no (fun h => ht h.2.2.2.2)).symm)
    · exact Ev.neg (by simpa using hn) (Ev.nows (mk_no (fun h => hn ⟨h.2.2.1, by omega⟩)).symm)
  · exact Ev.bind0 (in_eq _ _ _) (Ev.neg (by simpa using hm) (Ev.nows (mk_no (fun h => hm ⟨h.1, h.2.1⟩)).symm))

theorem iTripleMake_ev (m n : Int) : Ev (fun k => impl_TripleMake.f k m n) (mk m n) := by
  unfold impl_TripleMake.f
  by_cases h1 : m < 2
  · exact Ev.pos h1 (Ev.nows (mk_no (by omega)).symm)
  · refine Ev.neg h1 ?_
    by_cases h2 : m > 316
    · exact Ev.pos h2 (Ev.nows (mk_no (by omega)).symm)
    · refine Ev.neg h2 ?_
      by_cases h3 : n < 1
      · exact Ev.pos h3 (Ev.nows (mk_no (by omega)).symm)
      · refine Ev.neg h3 ?_
        by_cases h4 : n ≥ m
        · exact Ev.pos h4 (Ev.nows (mk_no (by omega)).symm)
        · obtain ⟨e1, e2, e3⟩ := mk_wraps (m := m) (n := n) (by omega) (by omega) (by omega) (by omega)
          rw [e1, e2, e3]
          refine Ev.neg h4 (Ev.bind (iTripleIs_ev _ _ _) ?_)
          by_cases ht : tri (m * m - n * n) (2 * m * n) (m * m + n * n) = true
          · exact Ev.pos ht (Ev.nows (mk_yes (by omega) (by omega) (by omega) (by omega) ht).symm)
          · exact Ev.neg ht (Ev.nows (mk_no (fun h => ht h.2.2.2.2)).symm)
theorem sqRoot_l (n : Int) : ∀ (b : Nat) (k : Int), b ≤ 30 → 0 ≤ k → k + 2 ^ (b + 1) ≤ 2147483648 → k * k ≤ n → n < (k + 2 ^ (b + 1)) * (k + 2 ^ (b + 1)) →
    ∃ r : Int, 0 ≤ r ∧ r * r ≤ n ∧ n < (r + 1) * (r + 1) ∧ r ≤ 2147483647 ∧ Ev (fun j => impl_squareRoot.l0 j n k (2 ^ b)) (r, (r * r == n)) := by
  intro b
  induction b with
  | zero =>
    intro k hb h0 h1 h2 h3
    have hk := Int.mul_nonneg h0 h0
    have hq : (k + 1) * (k + 1) ≤ 2147483648 * 2147483648 := Int.mul_le_mul (by omega) (by omega) (by omega) (by omega)
    have hkk : k * k ≤ 2147483648 * 2147483648 := Int.mul_le_mul (by omega) (by omega) (by omega) (by omega)
    have e1 : wrap64 (k + 1) = k + 1 := w64 (by omega) (by omega)
    have e2 : wrap64 ((k + 1) * (k + 1)) = (k + 1) * (k + 1) := w64 (by have := Int.mul_nonneg (show 0 ≤ k + 1 by omega) (show 0 ≤ k + 1 by omega); omega) (by omega)
    have e3 : wrap64 (Int.tdiv 1 2) = 0 := by rw [show Int.tdiv 1 2 = 0 by decide]; exact w64 (by omega) (by omega)
    by_cases h : (k + 1) * (k + 1) ≤ n
    · refine ⟨k + 1, by omega, h, by rw [show k + 1 + 1 = k + 2 ^ (0 + 1) by omega]; exact h3, by omega, ?_⟩
      refine Ev.step (fun j => impl_squareRoot.l0.eq_2 _ _ _ j) (Ev.pos (by decide) (Ev.pos (by rw [show (2 : Int) ^ 0 = 1 from rfl, e1, e2]; exact h) ?_))
      rw [show (2 : Int) ^ 0 = 1 from rfl, e1, e3]
      exact Ev.step (fun j => impl_squareRoot.l0.eq_2 _ _ _ j) (Ev.neg (by decide) (Ev.nows (by rw [e2])))
    · refine ⟨k, h0, h2, by omega, by omega, ?_⟩
      refine Ev.step (fun j => impl_squareRoot.l0.eq_2 _ _ _ j) (Ev.pos (by decide) (Ev.neg (by rw [show (2 : Int) ^ 0 = 1 from rfl, e1, e2]; exact h) ?_))
      rw [show (2 : Int) ^ 0 = 1 from rfl, e3]
      exact Ev.step (fun j => impl_squareRoot.l0.eq_2 _ _ _ j) (Ev.neg (by decide) (Ev.nows (by rw [w64 (by omega) (by omega)])))
  | succ b ih =>
    intro k hb h0 h1 h2 h3
    have hp : (0 : Int) < 2 ^ b := Int.pow_pos (by decide)
    have p1 : (2 : Int) ^ (b + 1) = 2 * 2 ^ b := by rw [Int.pow_succ]; omega
    have p2 : (2 : Int) ^ (b + 1 + 1) = 4 * 2 ^ b := by rw [Int.pow_succ, p1]; omega
    have hkn := Int.mul_nonneg h0 h0
    have hq : (k + 2 ^ (b + 1)) * (k + 2 ^ (b + 1)) ≤ 2147483648 * 2147483648 := Int.mul_le_mul (by omega) (by omega) (by omega) (by omega)
    have e1 : wrap64 (k + 2 ^ (b + 1)) = k + 2 ^ (b + 1) := w64 (by omega) (by omega)
    have e2 : wrap64 ((k + 2 ^ (b + 1)) * (k + 2 ^ (b + 1))) = (k + 2 ^ (b + 1)) * (k + 2 ^ (b + 1)) := w64 (by have := Int.mul_nonneg (show 0 ≤ k + 2 ^ (b + 1) by omega) (show 0 ≤ k + 2 ^ (b + 1) by omega); omega) (by omega)
    have e3 : wrap64 (Int.tdiv (2 ^ (b + 1)) 2) = 2 ^ b := by
      rw [Int.tdiv_eq_ediv_of_nonneg (by omega), p1, Int.mul_ediv_cancel_left _ (by decide)]; exact w64 (by omega) (by omega)
    by_cases h : (k + 2 ^ (b + 1)) * (k + 2 ^ (b + 1)) ≤ n
    · obtain ⟨r, r0, r1, r2, r3, r4⟩ := ih (k + 2 ^ (b + 1)) (by omega) (by omega) (by omega) h (by rw [show k + 2 ^ (b + 1) + 2 ^ (b + 1) = k + 2 ^ (b + 1 + 1) by omega]; exact h3)
      refine ⟨r, r0, r1, r2, r3, Ev.step (fun j => impl_squareRoot.l0.eq_2 _ _ _ j) (Ev.pos (show (2 : Int) ^ (b + 1) > 0 by omega) (Ev.pos (by rw [e1, e2]; exact h) ?_))⟩
      rw [e1, e3]; exact r4
    · obtain ⟨r, r0, r1, r2, r3, r4⟩ := ih k (by omega) h0 (by omega) h2 (by omega)
      refine ⟨r, r0, r1, r2, r3, Ev.step (fun j => impl_squareRoot.l0.eq_2 _ _ _ j) (Ev.pos (show (2 : Int) ^ (b + 1) > 0 by omega) (Ev.neg (by rw [e1, e2]; exact h) ?_))⟩
      rw [e3]; exact r4
theorem squareRoot_ev (n : Int) (h0 : 0 ≤ n) (hn : n < 4611686018427387904) : ∃ r : Int, 0 ≤ r ∧ r * r ≤ n ∧ n < (r + 1) * (r + 1) ∧ r ≤ 2147483647 ∧ Ev (fun j => impl_squareRoot.f j n) (r, (r * r == n)) := by
  have hp : ((2 : Int) ^ (30 + 1)) * 2 ^ (30 + 1) = 4611686018427387904 := by decide
  obtain ⟨r, r0, r1, r2, r3, r4⟩ := sqRoot_l n 30 0 (by omega) (by omega) (by decide) (by omega) (by rw [Int.zero_add, hp]; exact hn)
  refine ⟨r, r0, r1, r2, r3, ?_⟩
  unfold impl_squareRoot.f
  exact Ev.neg (by omega) r4
theorem sq_mono {a b : Int} (h : a * a < b * b) (hb : 0 ≤ b) : a < b := by
  refine Decidable.byContradiction fun hx => ?_
  have := Int.mul_le_mul (show b ≤ a by omega) (show b ≤ a by omega) hb (by omega)
  omega
theorem squareRoot_sq (r : Int) (h0 : 0 ≤ r) (h1 : r ≤ 1000000) : Ev (fun j => impl_squareRoot.f j (r * r)) (r, true) := by
  have hb : r * r ≤ 1000000 * 1000000 := Int.mul_le_mul h1 h1 h0 (by omega)
  have hb0 := Int.mul_nonneg h0 h0
  obtain ⟨s, s0, s1, s2, s3, s4⟩ := squareRoot_ev (r * r) (by omega) (by omega)
  have e : s = r := by
    have h2 := sq_mono s2 (by omega)
    have h3 : s ≤ r := by
      refine Decidable.byContradiction fun hx => ?_
      have := Int.mul_le_mul (show r + 1 ≤ s by omega) (show r + 1 ≤ s by omega) (by omega) (by omega)
      have : (r + 1) * (r + 1) = r * r + 2 * r + 1 := by grind
      omega
    omega
  subst e
  simpa using s4
theorem back_half {m n : Int} (hn : 1 ≤ n) (hmn : n < m) (hm : m ≤ 316) :
    wrap64 (Int.tdiv (wrap64 ((m * m - n * n) + (m * m + n * n))) 2) = m * m ∧ wrap64 (Int.tdiv (wrap64 ((m * m + n * n) - (m * m - n * n))) 2) = n * n ∧ wrap64 (Int.tdiv (wrap64 ((m * m + n * n) + (m * m - n * n))) 2) = m * m := by
  have h1 := mul_bd (a := m) (b := m) (by omega) (by omega) (by omega) (by omega)
  have h2 := mul_bd (a := n) (b := n) (by omega) (by omega) (by omega) (by omega)
  rw [show (m * m - n * n) + (m * m + n * n) = 2 * (m * m) by omega, show (m * m + n * n) - (m * m - n * n) = 2 * (n * n) by omega, show (m * m + n * n) + (m * m - n * n) = 2 * (m * m) by omega]
  rw [w64 (a := 2 * (m * m)) (by omega) (by omega), w64 (a := 2 * (n * n)) (by omega) (by omega), Int.tdiv_eq_ediv_of_nonneg (by omega), Int.tdiv_eq_ediv_of_nonneg (by omega)]
  rw [Int.mul_ediv_cancel_left _ (by decide), Int.mul_ediv_cancel_left _ (by decide)]
  exact ⟨w64 (by omega) (by omega), w64 (by omega) (by omega), w64 (by omega) (by omega)⟩
theorem iTripleBack_ev (m n : Int) (hn : 1 ≤ n) (hmn : n < m) (hm : m ≤ 316) (h : tri (m * m - n * n) (2 * m * n) (m * m + n * n) = true) :
    Ev (fun k => impl_TripleBack.f k (m * m - n * n) (2 * m * n) (m * m + n * n)) (m, n, true) := by
  unfold impl_TripleBack.f
  obtain ⟨e1, e2, _⟩ := back_half hn hmn hm
  refine Ev.bind (iTripleIs_ev _ _ _) (Ev.pos h ?_)
  rw [e1, e2]
  exact Ev.bind (squareRoot_sq m (by omega) (by omega)) (Ev.bind (squareRoot_sq n (by omega) (by omega)) (Ev.now _))
theorem iTripleBack_no (a b c : Int) (h : tri a b c = false) : Ev (fun k => impl_TripleBack.f k a b c) (0, 0, false) := by
  unfold impl_TripleBack.f
  exact Ev.bind (iTripleIs_ev _ _ _) (Ev.neg (by rw [h]; decide) (Ev.now _))
theorem l5Root_l (n : Int) : ∀ (d : Nat) (lo hi : Int), 0 ≤ lo → lo ≤ hi → hi ≤ 1048576 → hi - lo ≤ d → (∀ s : Int, 0 ≤ s → s < lo → s * s < n) → n ≤ hi * hi →
    ∃ r : Int, ((0 ≤ r ∧ r ≤ 1048576 ∧ r * r = n) ∨ (r = -1 ∧ ∀ s : Int, 0 ≤ s → s * s ≠ n)) ∧ Ev (fun j => spec_l5Root.l0 j n lo hi) r := by
  intro d
  induction d with
  | zero =>
    intro lo hi h0 h1 h2 h3 h4 h5
    obtain rfl : lo = hi := by omega
    have hb : lo * lo ≤ 1048576 * 1048576 := Int.mul_le_mul h2 h2 h0 (by omega)
    have hb0 := Int.mul_nonneg h0 h0
    by_cases e : lo * lo = n
    · exact ⟨lo, .inl ⟨h0, h2, e⟩, Ev.step (fun j => spec_l5Root.l0.eq_2 _ _ _ j) (Ev.neg (by omega) (Ev.pos (by rw [w64 (by omega) (by omega)]; exact e) (Ev.now _)))⟩
    · refine ⟨-1, .inr ⟨rfl, fun s hs he => ?_⟩, Ev.step (fun j => spec_l5Root.l0.eq_2 _ _ _ j) (Ev.neg (by omega) (Ev.neg (by rw [w64 (by omega) (by omega)]; exact e) (Ev.now _)))⟩
      rcases (by omega : s < lo ∨ lo ≤ s) with h6 | h6
      · have := h4 s hs h6; omega
      · have := Int.mul_le_mul h6 h6 h0 hs
        omega
  | succ d ih =>
    intro lo hi h0 h1 h2 h3 h4 h5
    by_cases hlt : lo < hi
    · have em : wrap64 (Int.tdiv (wrap64 (lo + hi)) 2) = (lo + hi) / 2 := by
        rw [w64 (a := lo + hi) (by omega) (by omega), Int.tdiv_eq_ediv_of_nonneg (by omega)]; exact w64 (by omega) (by omega)
      obtain ⟨m, hm⟩ : ∃ m : Int, m = (lo + hi) / 2 := ⟨_, rfl⟩
      rw [← hm] at em
      have hmb : m * m ≤ 1048576 * 1048576 := Int.mul_le_mul (by omega) (by omega) (by omega) (by omega)
      have hmb0 := Int.mul_nonneg (show 0 ≤ m by omega) (show 0 ≤ m by omega)
      have em2 : wrap64 (m * m) = m * m := w64 (by omega) (by omega)
      by_cases hc : m * m < n
      · obtain ⟨r, r0, r1⟩ := ih (m + 1) hi (by omega) (by omega) h2 (by omega) (fun s hs hs1 => by
          have := Int.mul_le_mul (show s ≤ m by omega) (show s ≤ m by omega) hs (by omega)
          omega) h5
        refine ⟨r, r0, Ev.step (fun j => spec_l5Root.l0.eq_2 _ _ _ j) (Ev.pos hlt (Ev.pos (by rw [em, em2]; exact hc) ?_))⟩
        rw [em, w64 (by omega) (by omega)]; exact r1
      · obtain ⟨r, r0, r1⟩ := ih lo m h0 (by omega) (by omega) (by omega) h4 (by omega)
        refine ⟨r, r0, Ev.step (fun j => spec_l5Root.l0.eq_2 _ _ _ j) (Ev.pos hlt (Ev.neg (by rw [em, em2]; exact hc) ?_))⟩
        rw [em]; exact r1
    · exact ih lo hi h0 h1 h2 (by omega) h4 h5
theorem l5Root_ev (n : Int) (hn : n ≤ 1099511627776) : ∃ r : Int, ((0 ≤ r ∧ r ≤ 1048576 ∧ r * r = n) ∨ (r = -1 ∧ ∀ s : Int, 0 ≤ s → s * s ≠ n)) ∧ Ev (fun j => spec_l5Root.f j n) r := by
  unfold spec_l5Root.f
  exact l5Root_l n 1048576 0 1048576 (by omega) (by omega) (by omega) (by omega) (by omega) (by omega)
theorem l5Root_sq (r : Int) (h0 : 0 ≤ r) (h1 : r ≤ 1000000) : Ev (fun j => spec_l5Root.f j (r * r)) r := by
  have hb : r * r ≤ 1000000 * 1000000 := Int.mul_le_mul h1 h1 h0 (by omega)
  obtain ⟨s, s0, s1⟩ := l5Root_ev (r * r) (by omega)
  rcases s0 with ⟨s2, _, s3⟩ | ⟨_, s3⟩
  · have e : s = r := by
      rcases (by omega : s < r ∨ s = r ∨ r < s) with h | h | h
      · have := Int.mul_lt_mul (a := s) (b := s) (c := r) (d := r) h (by omega) 
        rcases (by omega : s = 0 ∨ 0 < s) with rfl | h2
        · have := Int.mul_pos (show 0 < r by omega) (show 0 < r by omega); omega
        · have := this h2 (by omega); omega
      · exact h
      · have := Int.mul_lt_mul (a := r) (b := r) (c := s) (d := s) h (by omega)
        rcases (by omega : r = 0 ∨ 0 < r) with rfl | h2
        · have := Int.mul_pos (show 0 < s by omega) (show 0 < s by omega); omega
        · have := this h2 (by omega); omega
    subst e; exact s1
  · exact absurd rfl (s3 r h0)
theorem l6kBack_ev (m n : Int) (hn : 1 ≤ n) (hmn : n < m) (hm : m ≤ 316) : Ev (fun k => spec_l6kBack.f k (m * m - n * n) (m * m + n * n)) (m, n) := by
  unfold spec_l6kBack.f
  obtain ⟨_, e2, e3⟩ := back_half hn hmn hm
  rw [e2, e3]
  exact Ev.bind (l5Root_sq m (by omega) (by omega)) (Ev.bind (l5Root_sq n (by omega) (by omega)) (Ev.now _))
/-- The child that both functions tell of m and n. -/
def child (m n k : Int) : Int × Int × Int × Bool := if k = 0 then mk (2 * m - n) m else if k = 1 then mk (2 * m + n) m else if k = 2 then mk (m + 2 * n) n else (0, 0, 0, false)
theorem iTripleChild_ev (m n k : Int) (hn : 1 ≤ n) (hmn : n < m) (hm : m ≤ 316) (h : tri (m * m - n * n) (2 * m * n) (m * m + n * n) = true) :
    Ev (fun j => impl_TripleChild.f j (m * m - n * n) (2 * m * n) (m * m + n * n) k) (child m n k) := by
  unfold impl_TripleChild.f child
  refine Ev.bind (iTripleBack_ev m n hn hmn hm h) (Ev.pos rfl ?_)
  simp only []
  rw [w64 (a := 2 * m) (by omega) (by omega), w64 (a := 2 * n) (by omega) (by omega), w64 (a := 2 * m - n) (by omega) (by omega), w64 (a := 2 * m + n) (by omega) (by omega), w64 (a := m + 2 * n) (by omega) (by omega)]
  by_cases h0 : k = 0
  · rw [if_pos h0]; exact Ev.pos h0 (Ev.bind (iTripleMake_ev _ _) (Ev.now _))
  · rw [if_neg h0]
    refine Ev.neg h0 ?_
    by_cases h1 : k = 1
    · rw [if_pos h1]; exact Ev.pos h1 (Ev.bind (iTripleMake_ev _ _) (Ev.now _))
    · rw [if_neg h1]
      refine Ev.neg h1 ?_
      by_cases h2 : k = 2
      · rw [if_pos h2]; exact Ev.pos h2 (Ev.bind (iTripleMake_ev _ _) (Ev.now _))
      · rw [if_neg h2]; exact Ev.neg h2 (Ev.now _)
theorem iTripleParent_ev (m n : Int) (hn : 1 ≤ n) (hmn : n < m) (hm : m ≤ 316) (h : tri (m * m - n * n) (2 * m * n) (m * m + n * n) = true) :
    Ev (fun k => impl_TripleParent.f k (m * m - n * n) (2 * m * n) (m * m + n * n)) (par m n) := by
  unfold impl_TripleParent.f par
  refine Ev.bind (iTripleBack_ev m n hn hmn hm h) (Ev.pos rfl ?_)
  dsimp only
  rw [w64 (a := 2 * n) (by omega) (by omega), w64 (a := 2 * n - m) (by omega) (by omega), w64 (a := m - 2 * n) (by omega) (by omega)]
  by_cases h1 : m < 2 * n
  · rw [if_pos h1]
    by_cases h2 : (mk n (2 * n - m)).2.2.2 = true
    · rw [if_pos h2]; exact Ev.bind (iTripleMake_ev _ _) (Ev.pos h2 (Ev.now _))
    · rw [if_neg h2]
      refine Ev.bind (iTripleMake_ev _ _) (Ev.neg h2 (Ev.bind (iTripleMake_ev _ _) ?_))
      rw [mk_no (m := n) (n := m - 2 * n) (by omega)]
      refine Ev.neg (by decide) (Ev.bind (iTripleMake_ev _ _) ?_)
      rw [mk_no (m := m - 2 * n) (n := n) (by omega)]
      exact Ev.neg (by decide) (Ev.now _)
  · rw [if_neg h1]
    refine Ev.bind (iTripleMake_ev _ _) ?_
    rw [mk_no (m := n) (n := 2 * n - m) (by omega)]
    refine Ev.neg (by decide) ?_
    by_cases h3 : m < 3 * n
    · rw [if_pos h3]
      by_cases h2 : (mk n (m - 2 * n)).2.2.2 = true
      · rw [if_pos h2]; exact Ev.bind (iTripleMake_ev _ _) (Ev.pos h2 (Ev.now _))
      · rw [if_neg h2]
        refine Ev.bind (iTripleMake_ev _ _) (Ev.neg h2 (Ev.bind (iTripleMake_ev _ _) ?_))
        rw [mk_no (m := m - 2 * n) (n := n) (by omega)]
        exact Ev.neg (by decide) (Ev.now _)
    · rw [if_neg h3]
      refine Ev.bind (iTripleMake_ev _ _) ?_
      rw [mk_no (m := n) (n := m - 2 * n) (by omega)]
      refine Ev.neg (by decide) ?_
      by_cases h2 : (mk (m - 2 * n) n).2.2.2 = true
      · rw [if_pos h2]; exact Ev.bind (iTripleMake_ev _ _) (Ev.pos h2 (Ev.now _))
      · rw [if_neg h2]; exact Ev.bind (iTripleMake_ev _ _) (Ev.neg h2 (Ev.now _))
theorem iTripleParent_no (a b c : Int) (h : tri a b c = false) : Ev (fun k => impl_TripleParent.f k a b c) (0, 0, 0, 0, false) := by
  unfold impl_TripleParent.f
  exact Ev.bind (iTripleBack_no a b c h) (Ev.neg (by simp) (Ev.now _))
theorem sTripleParent_ev (m n : Int) (hn : 1 ≤ n) (hmn : n < m) (hm : m ≤ 316) (h : tri (m * m - n * n) (2 * m * n) (m * m + n * n) = true) :
    Ev (fun k => spec_TripleParent.f k (m * m - n * n) (2 * m * n) (m * m + n * n)) (par m n) := by
  unfold spec_TripleParent.f par
  refine Ev.bind (sTripleIs_ev _ _ _) (Ev.pos h (Ev.bind (l6kBack_ev m n hn hmn hm) ?_))
  dsimp only
  rw [w64 (a := 2 * n) (by omega) (by omega), w64 (a := 3 * n) (by omega) (by omega), w64 (a := 2 * n - m) (by omega) (by omega), w64 (a := m - 2 * n) (by omega) (by omega)]
  by_cases h1 : m < 2 * n
  · rw [if_pos h1]
    refine Ev.pos h1 (Ev.bind (sTripleMake_ev _ _) ?_)
    by_cases h2 : (mk n (2 * n - m)).2.2.2 = true
    · rw [if_pos h2, if_pos h2]; exact Ev.now _
    · rw [if_neg h2, if_neg h2]; exact Ev.now _
  · rw [if_neg h1]
    refine Ev.neg h1 ?_
    by_cases h3 : m < 3 * n
    · rw [if_pos h3]
      refine Ev.pos h3 (Ev.bind (sTripleMake_ev _ _) ?_)
      by_cases h2 : (mk n (m - 2 * n)).2.2.2 = true
      · rw [if_pos h2, if_pos h2]; exact Ev.now _
      · rw [if_neg h2, if_neg h2]; exact Ev.now _
    · rw [if_neg h3]
      refine Ev.neg h3 (Ev.bind (sTripleMake_ev _ _) ?_)
      by_cases h2 : (mk (m - 2 * n) n).2.2.2 = true
      · rw [if_pos h2, if_pos h2]; exact Ev.now _
      · rw [if_neg h2, if_neg h2]; exact Ev.now _
theorem sTripleParent_no (a b c : Int) (h : tri a b c = false) : Ev (fun k => spec_TripleParent.f k a b c) (0, 0, 0, 0, false) := by
  unfold spec_TripleParent.f
  exact Ev.bind (sTripleIs_ev _ _ _) (Ev.neg (by rw [h]; decide) (Ev.now _))
theorem pick_ev {s : List Int} (hs : IsCode s) (p n : Nat) (hp : p ≤ 10000000000000) (hn : 1 ≤ n) : Ev (fun k => spec_l6Rd_pick.f k s (p : Int) (n : Int)) ((pickv s p n : Int), ((p + 1 : Nat) : Int)) := by
  unfold spec_l6Rd_pick.f
  rw [w64s (by omega)]
  refine Ev.neg (by omega) (Ev.step (fun k => spec_l6Rd_pick.j0.eq_2 _ _ _ _ k) ?_)
  have hl := hs.1
  by_cases h0 : s.length = 0
  · exact Ev.pos (by simp [h0]) (Ev.nows (by unfold pickv; rw [if_pos h0]; rfl))
  · refine Ev.neg (by simp; simpa using h0) ?_
    rw [show ((p + 1 : Nat) : Int) - 1 = (p : Int) by omega, w64 (a := (p : Int)) (by omega) (by omega)]
    by_cases h1 : p < s.length
    · refine Ev.pos (by omega) (Ev.pos (by omega) (Ev.neg (by omega) (Ev.nows ?_)))
      have hb := code_at hs p
      unfold pickv
      rw [if_neg h0, if_pos h1, rd_at, w64 (by omega) (by omega), Int.tmod_eq_emod_of_nonneg hb.1, Int.natCast_emod, Int.toNat_of_nonneg hb.1]
    · refine Ev.neg (by omega) (Ev.neg (by omega) ?_)
      have e1 : Int.tmod (p : Int) (s.length : Int) = ((p % s.length : Nat) : Int) := by rw [Int.tmod_eq_emod_of_nonneg (by omega)]; rfl
      have e2 : Int.tmod (wrap64 (wrap64 ((p : Int) * 7) + 3)) (s.length : Int) = (((p * 7 + 3) % s.length : Nat) : Int) := by
        rw [w64 (a := (p : Int) * 7) (by omega) (by omega), w64 (by omega) (by omega), Int.tmod_eq_emod_of_nonneg (by omega)]; rfl
      have m1 : p % s.length < s.length := Nat.mod_lt _ (by omega)
      have m2 : (p * 7 + 3) % s.length < s.length := Nat.mod_lt _ (by omega)
      rw [e1, e2]
      refine Ev.pos (by omega) (Ev.pos (by omega) (Ev.pos (by omega) (Ev.pos (by omega) (Ev.neg (by omega) (Ev.nows ?_)))))
      have hb1 := code_at hs (p % s.length)
      have hb2 := code_at hs ((p * 7 + 3) % s.length)
      have hd : p / s.length ≤ p := Nat.div_le_self _ _
      have e3 : wrap64 (Int.tdiv (p : Int) (s.length : Int)) = ((p / s.length : Nat) : Int) := by
        rw [Int.tdiv_eq_ediv_of_nonneg (by omega), show (p : Int) / (s.length : Int) = ((p / s.length : Nat) : Int) from rfl]
        generalize p / s.length = q at *
        exact w64 (by omega) (by omega)
      have hm := mixed_le hs p
      have e4 : wrap64 ((wrap64 ((wrap64 ((wrap64 ((wrap64 (rd s ((p % s.length : Nat) : Int))) * 131)) + (wrap64 ((wrap64 (rd s (((p * 7 + 3) % s.length : Nat) : Int))) * 1117)))) + (wrap64 ((p : Int) * 29)))) + (wrap64 ((wrap64 (Int.tdiv (p : Int) (s.length : Int))) * 53))) = ((mixed s p : Nat) : Int) := by
        rw [e3, rd_at, rd_at, mix_wrap (s.getD (p % s.length) 0) (s.getD ((p * 7 + 3) % s.length) 0) (p : Int) ((p / s.length : Nat) : Int) hb1.1 hb1.2 hb2.1 hb2.2 (Int.natCast_nonneg _) (Int.ofNat_le.2 hp) (Int.natCast_nonneg _) (Int.ofNat_le.2 hd)]
        exact (mixed_int hs p).symm
      rw [e4]
      have e5 : wrap64 (Int.tdiv ((mixed s p : Nat) : Int) 64) = ((mixed s p / 64 : Nat) : Int) := by
        generalize mixed s p = M at *
        rw [Int.tdiv_eq_ediv_of_nonneg (by omega)]; exact w64 (by omega) (by omega)
      rw [e5, xor_i64 _ _ (by omega) (by omega), Int.tmod_eq_emod_of_nonneg (by omega)]
      unfold pickv
      rw [if_neg h0, if_neg h1]
      rfl
/-- The same where the bound is told as an Int. -/
theorem pick_ev' {s : List Int} (hs : IsCode s) (p : Nat) (n : Int) (hp : p ≤ 10000000000000) (hn : 1 ≤ n) : ∃ r : Int, 0 ≤ r ∧ r < n ∧ Ev (fun k => spec_l6Rd_pick.f k s (p : Int) n) (r, ((p + 1 : Nat) : Int)) := by
  obtain ⟨m, rfl⟩ : ∃ m : Nat, n = m := ⟨n.toNat, by omega⟩
  have h := pickv_lt s p (n := m) (by omega)
  exact ⟨_, by omega, by omega, pick_ev hs p m hp (by omega)⟩
theorem open_ev {l : List Int} (hw : ∀ x ∈ l, (Lit.int .u8 x).wf = true) : ∃ s, IsCode s ∧ spec_l6Open.f l = some (s, 0) := by
  have hb : ∀ x ∈ l, 0 ≤ x ∧ x ≤ 255 := fun x hx => by
    have := hw x hx
    simp [Lit.wf, IntKind.min, IntKind.max, IntKind.signed, IntKind.bits] at this; omega
  unfold spec_l6Open.f
  by_cases h : (l.length : Int) > 2000
  · rw [if_pos h, if_pos (by omega)]
    exact ⟨l.take 2000, ⟨by rw [List.length_take]; omega, fun x hx => hb x (List.mem_of_mem_take hx)⟩, rfl⟩
  · rw [if_neg h]
    exact ⟨l, ⟨by omega, hb⟩, rfl⟩
/-- What is drawn: three integers of a size that anything bears. -/
theorem l92Triple_ev' {s : List Int} (hs : IsCode s) (p : Nat) (hp : p ≤ 1000000) : ∃ a b c : Int, ∃ q : Nat, q ≤ 3000000 ∧ Ev (fun k => spec_l92Triple.f k s (p : Int)) (a, b, c, (q : Int)) := by
  unfold spec_l92Triple.f
  obtain ⟨x, x0, x1, hx⟩ := pick_ev' hs p 12 (by omega) (by omega)
  have e1 : wrap64 (2 + x) = 2 + x := w64 (by omega) (by omega)
  have e2 : wrap64 (2 + x - 1) = 2 + x - 1 := w64 (by omega) (by omega)
  obtain ⟨y, y0, y1, hy⟩ := pick_ev' hs (p + 1) (2 + x - 1) (by omega) (by omega)
  have e3 : wrap64 (1 + y) = 1 + y := w64 (by omega) (by omega)
  have j0 : ∀ (a b c : Int) (t : Bool) (q : Nat), q ≤ 2000000 → ∃ a' b' c' : Int, ∃ q' : Nat, q' ≤ 3000000 ∧ Ev (fun k => spec_l92Triple.j0 k a b c t s (q : Int)) (a', b', c', (q' : Int)) := by
    intro a b c t q hq
    cases t with
    | true => exact ⟨a, b, c, q, by omega, Ev.step (fun k => spec_l92Triple.j0.eq_2 _ _ _ _ _ _ k) (Ev.pos rfl (Ev.now _))⟩
    | false =>
      obtain ⟨u, u0, u1, hu⟩ := pick_ev' hs q 5 (by omega) (by omega)
      obtain ⟨v, v0, v1, hv⟩ := pick_ev' hs (q + 1) 4 (by omega) (by omega)
      obtain ⟨z, z0, z1, hz⟩ := pick_ev' hs (q + 2) 3 (by omega) (by omega)
      exact ⟨_, _, _, q + 3, by omega, Ev.step (fun k => spec_l92Triple.j0.eq_2 _ _ _ _ _ _ k) (Ev.neg (by decide) (Ev.bind0 rfl (Ev.bind hu (Ev.pos u0 (Ev.pos u1 (Ev.bind0 rfl (Ev.bind hv (Ev.pos v0 (Ev.pos v1 (Ev.bind0 rfl (Ev.bind hz (Ev.pos z0 (Ev.pos z1 (Ev.now _))))))))))))))⟩
  by_cases h : (mk (2 + x) (1 + y)).2.2.2 = true
  · obtain ⟨z, z0, z1, hz⟩ := pick_ev' hs (p + 2) 12 (by omega) (by omega)
    obtain ⟨a, b, c, q, hq, hj⟩ := j0 (mk (2 + x) (1 + y)).1 (mk (2 + x) (1 + y)).2.1 (mk (2 + x) (1 + y)).2.2.1 (decide (z > 0)) (p + 3) (by omega)
    refine ⟨a, b, c, q, hq, Ev.bind hx ?_⟩
    simp only [e1, e2]
    refine Ev.bind hy ?_
    simp only [e3]
    exact Ev.bind (sTripleMake_ev _ _) (Ev.pos h (Ev.bind hz hj))
  · obtain ⟨a, b, c, q, hq, hj⟩ := j0 (mk (2 + x) (1 + y)).1 (mk (2 + x) (1 + y)).2.1 (mk (2 + x) (1 + y)).2.2.1 false (p + 2) (by omega)
    refine ⟨a, b, c, q, hq, Ev.bind hx ?_⟩
    simp only [e1, e2]
    refine Ev.bind hy ?_
    simp only [e3]
    exact Ev.bind (sTripleMake_ev _ _) (Ev.neg h hj)
theorem l92Triple_ev {s : List Int} (hs : IsCode s) (p : Nat) (hp : p ≤ 1000000) : ∃ a b c : Int, ∃ q : Nat, Ev (fun k => spec_l92Triple.f k s (p : Int)) (a, b, c, (q : Int)) := by
  obtain ⟨a, b, c, q, _, h⟩ := l92Triple_ev' hs p hp
  exact ⟨a, b, c, q, h⟩
end FnParentFun
open FnParentFun
theorem FnParent : laws_FnParent.Pure := by
  intro l _ _ hw
  refine Ev.rounds (r := true) ?_
  unfold laws_FnParent.f
  by_cases hl : (l.length : Int) > 1048576
  · exact Ev.pos hl (Ev.now _)
  · have hd : ∃ a b c : Int, Ev (fun k => spec_DrawTripleParent.f k l) (a, b, c) := by
      unfold spec_DrawTripleParent.f
      obtain ⟨s, hs, ho⟩ := open_ev hw
      obtain ⟨a, b, c, q, h⟩ := l92Triple_ev hs 0 (by omega)
      exact ⟨a, b, c, Ev.bind0 ho (Ev.bind h (Ev.now _))⟩
    obtain ⟨a, b, c, hd⟩ := hd
    refine Ev.neg hl (Ev.bind hd ?_)
    by_cases ht : tri a b c = true
    · obtain ⟨m, n, hn, hmn, hm, rfl, rfl, rfl, hp, hg⟩ := tri_param ht
      have hc := of_decide_eq_true (show decide _ = true from ht)
      refine Ev.bind (iTripleParent_ev m n hn hmn hm ht) (Ev.bind (sTripleParent_ev m n hn hmn hm ht) (Ev.neg (by simp) (Ev.pos rfl (Ev.pos rfl (Ev.pos rfl (Ev.step (fun k => laws_FnParent.j0.eq_2 _ _ _ _ _ _ _ _ _ k) (Ev.neg (by simp) ?_)))))))
      rcases par_fine hn hmn hm hp hg hc.2.2.2.2.2.1 with ⟨rfl, rfl, e⟩ | ⟨x, y, k, hk, hy, hxy, hx, hlt, ht', e⟩
      · rw [e]
        exact Ev.neg (by decide) (Ev.bind (iTripleIs_ev _ _ _) (Ev.pos ht (Ev.pos rfl (Ev.pos rfl (Ev.now _)))))
      · rw [e]
        have hch : child x y k = (m * m - n * n, 2 * m * n, m * m + n * n, true) := by
          have hmk := mk_yes (m := m) (n := n) (by omega) hm hn hmn ht
          unfold child
          rcases hk with ⟨rfl, h1, h2⟩ | ⟨rfl, h1, h2⟩ | ⟨rfl, h1, h2⟩
          · rw [if_pos rfl, ← h1, ← h2]; exact hmk
          · rw [if_neg (by decide), if_pos rfl, ← h1, ← h2]; exact hmk
          · rw [if_neg (by decide), if_neg (by decide), if_pos rfl, ← h1, ← h2]; exact hmk
        have hce := iTripleChild_ev x y k hy hxy hx ht'
        rw [hch] at hce
        exact Ev.pos rfl (Ev.bind hce (Ev.pos rfl (Ev.pos rfl (Ev.pos rfl (Ev.pos rfl (Ev.nows (decide_eq_true hlt)))))))
    · have h' : tri a b c = false := by simpa using ht
      refine Ev.bind (iTripleParent_no a b c h') (Ev.bind (sTripleParent_no a b c h') (Ev.neg (by simp) (Ev.pos rfl (Ev.pos rfl (Ev.pos rfl (Ev.step (fun k => laws_FnParent.j0.eq_2 _ _ _ _ _ _ _ _ _ k) (Ev.neg (by simp) ?_)))))))
      exact Ev.neg (by decide) (Ev.bind (iTripleIs_ev _ _ _) (Ev.neg ht (Ev.now _)))
end Go.Proofs.Ytpmhninmblgjoaa.Pure
