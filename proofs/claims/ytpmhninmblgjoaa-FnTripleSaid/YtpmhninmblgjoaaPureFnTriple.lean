/- The law FnTriple holds: triples are points of a conic. For every list of bytes; no condition. -/
import Derived.Test.YtpmhninmblgjoaaPFnTriplex5
import Derived.Test.YtpmhninmblgjoaaTri
import Derived.Test.YtpmhninmblgjoaaVec
namespace Go.Proofs.Ytpmhninmblgjoaa.Pure
open Go.RowKit Go.Proofs.Ytpmhninmblgjoaa.PFnTriple Go.Proofs.YtpmhninmblgjoaaW.PrintWords Go.Proofs.YtpmhninmblgjoaaW.PrintLast Go.Proofs.YtpmhninmblgjoaaW.PrintMore Go.Proofs.Ytpmhninmblgjoaa.Aid
namespace FnTripleFun
theorem in_eq (a b c : Int) : spec_l6In.f a b c = some (decide (b ≤ a ∧ a ≤ c)) := by
  unfold spec_l6In.f
  by_cases h : b ≤ a <;> simp [h]
theorem size_eq {x : Int} (h : -9223372036854775807 ≤ x) (h1 : x ≤ 9223372036854775807) : impl_size.f x = some (x.natAbs : Int) := by
  unfold impl_size.f; rw [mx_abs h h1]
theorem gcd_l1 (xs : List Int) (n i : Int) (r : Int) : ∀ (B b a : Nat), b ≤ B → Ev (fun k => impl_gcd.l0 k (Nat.gcd a b : Int) xs n (wrap64 (i + 1))) r → Ev (fun k => impl_gcd.l1 k (a : Int) (b : Int) xs n i) r := by
  intro B
  induction B with
  | zero =>
    intro b a h hr
    obtain rfl : b = 0 := by omega
    refine Ev.step (fun k => impl_gcd.l1.eq_2 _ _ _ _ _ k) (Ev.pos rfl ?_)
    simpa using hr
  | succ B ih =>
    intro b a h hr
    rcases Nat.eq_zero_or_pos b with rfl | hb
    · refine Ev.step (fun k => impl_gcd.l1.eq_2 _ _ _ _ _ k) (Ev.pos rfl ?_)
      simpa using hr
    · refine Ev.step (fun k => impl_gcd.l1.eq_2 _ _ _ _ _ k) (Ev.neg (by omega) ?_)
      have e : Int.tmod (a : Int) (b : Int) = ((a % b : Nat) : Int) := by rw [Int.tmod_eq_emod_of_nonneg (by omega)]; rfl
      rw [e]
      refine ih (a % b) b (by have := Nat.mod_lt a hb; omega) ?_
      rwa [show Nat.gcd b (a % b) = Nat.gcd a b by rw [Nat.gcd_comm a b, Nat.gcd_rec b a, Nat.gcd_comm]]
theorem gcd_l0 (xs : List Int) (hn : xs.length ≤ 17592186044416) (hb : ∀ x ∈ xs, -9223372036854775807 ≤ x ∧ x ≤ 9223372036854775807) : ∀ (m i g : Nat), i + m = xs.length → Ev (fun k => impl_gcd.l0 k (g : Int) xs (xs.length : Int) (i : Int)) (gcdL g (xs.drop i) : Int) := by
  intro m
  induction m with
  | zero =>
    intro i g h
    refine Ev.step (fun k => impl_gcd.l0.eq_2 _ _ _ _ k) (Ev.neg (by omega) (Ev.nows ?_))
    rw [List.drop_of_length_le (by omega)]; rfl
  | succ m ih =>
    intro i g h
    have hx := hb _ (rd_mem (show i < xs.length by omega))
    refine Ev.step (fun k => impl_gcd.l0.eq_2 _ _ _ _ k) (Ev.pos (by omega) (Ev.pos (by omega) (Ev.pos (by omega) (Ev.bind0 (size_eq hx.1 hx.2) ?_))))
    refine gcd_l1 _ _ _ _ _ _ _ (Nat.le_refl _) ?_
    rw [w64s (by omega), drop_rd (show i < xs.length by omega)]
    exact ih (i + 1) _ (by omega)
theorem gcd_ev (xs : List Int) (hn : xs.length ≤ 17592186044416) (hb : ∀ x ∈ xs, -9223372036854775807 ≤ x ∧ x ≤ 9223372036854775807) : Ev (fun k => impl_gcd.f k xs) (gcdL 0 xs : Int) := by
  unfold impl_gcd.f
  exact gcd_l0 xs hn hb xs.length 0 0 (by omega)
theorem l1Size_eq {x : Int} (h : -9223372036854775807 ≤ x) (h1 : x ≤ 9223372036854775807) : spec_l1Size.f x = some (x.natAbs : Int) := by
  unfold spec_l1Size.f; rw [mx_abs h h1]
theorem l1Gcd_l : ∀ (B b a : Nat), b ≤ B → Ev (fun k => spec_l1Gcd.l0 k (a : Int) (b : Int)) (Nat.gcd a b : Int) := by
  intro B
  induction B with
  | zero =>
    intro b a h
    obtain rfl : b = 0 := by omega
    exact Ev.step (fun k => spec_l1Gcd.l0.eq_2 _ _ k) (Ev.pos rfl (Ev.nows (by simp)))
  | succ B ih =>
    intro b a h
    rcases Nat.eq_zero_or_pos b with rfl | hb
    · exact Ev.step (fun k => spec_l1Gcd.l0.eq_2 _ _ k) (Ev.pos rfl (Ev.nows (by simp)))
    · refine Ev.step (fun k => spec_l1Gcd.l0.eq_2 _ _ k) (Ev.neg (by omega) ?_)
      have e : Int.tmod (a : Int) (b : Int) = ((a % b : Nat) : Int) := by rw [Int.tmod_eq_emod_of_nonneg (by omega)]; rfl
      rw [e]
      refine Ev.to (ih (a % b) b (by have := Nat.mod_lt a hb; omega)) ?_
      rw [show Nat.gcd b (a % b) = Nat.gcd a b by rw [Nat.gcd_comm a b, Nat.gcd_rec b a, Nat.gcd_comm]]
theorem l1Gcd_ev {a b : Int} (ha : -9223372036854775807 ≤ a) (ha1 : a ≤ 9223372036854775807) (hb : -9223372036854775807 ≤ b) (hb1 : b ≤ 9223372036854775807) : Ev (fun k => spec_l1Gcd.f k a b) (Nat.gcd a.natAbs b.natAbs : Int) := by
  unfold spec_l1Gcd.f
  exact Ev.bind0 (l1Size_eq ha ha1) (Ev.bind0 (l1Size_eq hb hb1) (l1Gcd_l _ _ _ (Nat.le_refl _)))
theorem sTripleIs_ev (a b c : Int) : Ev (fun k => spec_TripleIs.f k a b c) (tri a b c) := by
  unfold spec_TripleIs.f
  by_cases ha : 1 ≤ a ∧ a ≤ 100000
  · refine Ev.bind0 (in_eq _ _ _) (Ev.pos (by simpa using ha) ?_)
    by_cases hb : 1 ≤ b ∧ b ≤ 100000
    · refine Ev.bind0 (in_eq _ _ _) (Ev.pos (by simpa using hb) ?_)
      by_cases hc : 1 ≤ c ∧ c ≤ 100000
      · refine Ev.bind0 (in_eq _ _ _) (Ev.pos (by simpa using hc) ?_)
        have qa := sq_bd ha.1 ha.2
        have qb := sq_bd hb.1 hb.2
        have qc := sq_bd hc.1 hc.2
        rw [w64 (a := a * a) (by omega) (by omega), w64 (a := b * b) (by omega) (by omega), w64 (a := c * c) (by omega) (by omega), w64 (a := a * a + b * b) (by omega) (by omega)]
        rw [Int.tmod_eq_emod_of_nonneg (a := a) (by omega), Int.tmod_eq_emod_of_nonneg (a := b) (by omega)]
        by_cases h1 : a * a + b * b = c * c
        · refine Ev.pos h1 ?_
          by_cases h2 : a % 2 = 1
          · refine Ev.pos h2 ?_
            by_cases h3 : b % 2 = 0
            · refine Ev.pos h3 (Ev.bind (l1Gcd_ev (by omega) (by omega) (by omega) (by omega)) (Ev.nows ?_))
              exact tri_last ha hb hc h1 h2 h3
            · exact Ev.neg h3 (Ev.nows (tri_no (by omega)).symm)
          · exact Ev.neg h2 (Ev.nows (tri_no (by omega)).symm)
        · exact Ev.neg h1 (Ev.nows (tri_no (by omega)).symm)
      · exact Ev.bind0 (in_eq _ _ _) (Ev.neg (by simpa using hc) (Ev.nows (tri_no (by omega)).symm))
    · exact Ev.bind0 (in_eq _ _ _) (Ev.neg (by simpa using hb) (Ev.nows (tri_no (by omega)).symm))
  · exact Ev.bind0 (in_eq _ _ _) (Ev.neg (by simpa using ha) (Ev.nows (tri_no (by omega)).symm))
theorem iTripleIs_l (a b c : Int) (xs : List Int) (hx : xs = [a, b, c]) : ∀ (m i : Nat), i + m = 3 → (i ≥ 1 → 1 ≤ a ∧ a ≤ 100000) → (i ≥ 2 → 1 ≤ b ∧ b ≤ 100000) → (i ≥ 3 → 1 ≤ c ∧ c ≤ 100000) → Ev (fun k => impl_TripleIs.l0 k a b c xs 3 (i : Int)) (tri a b c) := by
  intro m
  induction m with
  | zero =>
    intro i h ha hb hc
    obtain rfl : i = 3 := by omega
    replace ha := ha (by omega)
    replace hb := hb (by omega)
    replace hc := hc (by omega)
    refine Ev.step (fun k => impl_TripleIs.l0.eq_2 _ _ _ _ _ _ k) (Ev.neg (by omega) ?_)
    have qa := sq_bd ha.1 ha.2
    have qb := sq_bd hb.1 hb.2
    have qc := sq_bd hc.1 hc.2
    rw [w64 (a := a * a) (by omega) (by omega), w64 (a := b * b) (by omega) (by omega), w64 (a := c * c) (by omega) (by omega), w64 (a := a * a + b * b) (by omega) (by omega)]
    rw [Int.tmod_eq_emod_of_nonneg (a := a) (by omega), Int.tmod_eq_emod_of_nonneg (a := b) (by omega)]
    by_cases h1 : a * a + b * b = c * c
    · refine Ev.pos h1 ?_
      by_cases h2 : a % 2 = 1
      · refine Ev.pos h2 ?_
        by_cases h3 : b % 2 = 0
        · refine Ev.pos h3 (Ev.bind (gcd_ev [a, b, c] (by simp) (by intro x hx; simp at hx; omega)) (Ev.nows ?_))
          rw [gcd3 h1]
          exact tri_last ha hb hc h1 h2 h3
        · exact Ev.neg h3 (Ev.nows (tri_no (by omega)).symm)
      · exact Ev.neg h2 (Ev.nows (tri_no (by omega)).symm)
    · exact Ev.neg h1 (Ev.nows (tri_no (by omega)).symm)
  | succ m ih =>
    intro i h ha hb hc
    have hl : xs.length = 3 := by rw [hx]; rfl
    have r0 : rd xs ((0 : Nat) : Int) = a := by rw [hx]; rfl
    have r1 : rd xs ((1 : Nat) : Int) = b := by rw [hx]; rfl
    have r2 : rd xs ((2 : Nat) : Int) = c := by rw [hx]; rfl
    have hi : rd xs (i : Int) = if i = 0 then a else if i = 1 then b else c := by
      rcases (by omega : i = 0 ∨ i = 1 ∨ i = 2) with rfl | rfl | rfl
      · rw [r0]; rfl
      · rw [r1]; rfl
      · rw [r2]; rfl
    refine Ev.step (fun k => impl_TripleIs.l0.eq_2 _ _ _ _ _ _ k) (Ev.pos (by omega) (Ev.pos (by omega) (Ev.pos (by omega) ?_)))
    by_cases h1 : rd xs (i : Int) < 1
    · refine Ev.pos h1 (Ev.nows (tri_no ?_).symm)
      rw [hi] at h1
      split at h1
      · omega
      · split at h1 <;> omega
    · refine Ev.neg h1 ?_
      by_cases h2 : rd xs (i : Int) > 100000
      · refine Ev.pos h2 (Ev.nows (tri_no ?_).symm)
        rw [hi] at h2
        split at h2
        · omega
        · split at h2 <;> omega
      · refine Ev.neg h2 ?_
        rw [w64s (by omega)]
        rw [hi] at h1 h2
        refine ih (i + 1) (by omega) (fun _ => ?_) (fun _ => ?_) (fun _ => ?_)
        · by_cases e : i = 0
          · simp only [if_pos e] at h1 h2; omega
          · exact ha (by omega)
        · by_cases e : i = 1
          · subst e; simp at h1 h2; omega
          · exact hb (by omega)
        · by_cases e : i = 2
          · subst e; simp at h1 h2; omega
          · exact hc (by omega)
theorem iTripleIs_ev (a b c : Int) : Ev (fun k => impl_TripleIs.f k a b c) (tri a b c) := by
  unfold impl_TripleIs.f
  exact Ev.bind0 rfl (iTripleIs_l a b c _ rfl 3 0 (by omega) (by omega) (by omega) (by omega))
theorem sTripleMake_ev (m n : Int) : Ev (fun k => spec_TripleMake.f k m n) (mk m n) := by
  unfold spec_TripleMake.f
  by_cases hm : 2 ≤ m ∧ m ≤ 316
  · refine Ev.bind0 (in_eq _ _ _) (Ev.pos (by simpa using hm) (Ev.bind0 (in_eq _ _ _) ?_))
    rw [w64 (a := m - 1) (by omega) (by omega)]
    by_cases hn : 1 ≤ n ∧ n ≤ m - 1
    · obtain ⟨e1, e2, e3⟩ := mk_wraps hm.1 hm.2 hn.1 (by omega)
      rw [e1, e2, e3]
      refine Ev.pos (by simpa using hn) (Ev.bind (sTripleIs_ev _ _ _) ?_)
      by_cases ht : tri (m * m - n * n) (2 * m * n) (m * m + n * n) = true
      · exact Ev.pos ht (Ev.nows (mk_yes hm.1 hm.2 hn.1 (by omega) ht).symm)
      · exact Ev.neg ht (Ev.nows (mk_no (fun h => ht h.2.2.2.2)).symm)
    · exact Ev.neg (by simpa using hn) (Ev.nows (mk_no (fun h => hn ⟨h.2.2.1, by omega⟩)).symm)
  · exact Ev.bind0 (in_eq _ _ _) (Ev.neg (by simpa using hm) (Ev.nows (mk_no (fun h => hm ⟨h.1, h.2.1⟩)).symm))
theorem sqRoot_l (n : Int) : ∀ (b : Nat) (k : Int), b ≤ 30 → 0 ≤ k → k + 2 ^ (b + 1) ≤ 2147483648 → k * k ≤ n → n < (k + 2 ^ (b + 1)) * (k + 2 ^ (b + 1)) →
    ∃ r : Int, 0 ≤ r ∧ r * r ≤ n ∧ n < (r + 1) * (r + 1) ∧ r ≤ 2147483647 ∧ Ev (fun j => impl_squareRoot.l0 j n k (2 ^ b)) (r, (r * r == n)) := by
  intro b
  induction b with
  | zero =>
    intro k hb h0 h1 h2 h3
    have hk := Int.mul_nonneg h0 h0
    have hq : (k + 1) * (k + 1) ≤ 2147483648 * 2147483648 := Int.mul_le_mul (by omega) (by omega) (by omega) (by omega)
    have hkk : k * k ≤ 2147483648 * 2147483648 := Int.mul_le_mul (by omega) (by omega) (by omega) (by omega)
    have e1 : wrap64 (k + 1) = k + 1 := w64 (by omega) (by omega)
    have e2 : wrap64 ((k + 1) * (k + 1)) = (k + 1) * (k + 1) := w64 (by have := Int.mul_nonneg (show 0 ≤ k + 1 by omega) (show 0 ≤ k + 1 by omega); omega) (by omega)
    have e3 : wrap64 (Int.tdiv 1 2) = 0 := by rw [show Int.tdiv 1 2 = 0 by decide]; exact w64 (by omega) (by omega)
    by_cases h : (k + 1) * (k + 1) ≤ n
    · refine ⟨k + 1, by omega, h, by rw [show k + 1 + 1 = k + 2 ^ (0 + 1) by omega]; exact h3, by omega, ?_⟩
      refine Ev.step (fun j => impl_squareRoot.l0.eq_2 _ _ _ j) (Ev.pos (by decide) (Ev.pos (by rw [show (2 : Int) ^ 0 = 1 from rfl, e1, e2]; exact h) ?_))
      rw [show (2 : Int) ^ 0 = 1 from rfl, e1, e3]
      exact Ev.step (fun j => impl_squareRoot.l0.eq_2 _ _ _ j) (Ev.neg (by decide) (Ev.nows (by rw [e2])))
    · refine ⟨k, h0, h2, by omega, by omega, ?_⟩
      refine Ev.step (fun j => impl_squareRoot.l0.eq_2 _ _ _ j) (Ev.pos (by decide) (Ev.neg (by rw [show (2 : Int) ^ 0 = 1 from rfl, e1, e2]; exact h) ?_))
      rw [show (2 : Int) ^ 0 = 1 from rfl, e3]
      exact Ev.step (fun j => impl_squareRoot.l0.eq_2 _ _ _ j) (Ev.neg (by decide) (Ev.nows (by rw [w64 (by omega) (by omega)])))
  | succ b ih =>
    intro k hb h0 h1 h2 h3
    have hp : (0 : Int) < 2 ^ b := Int.pow_pos (by decide)
    have p1 : (2 : Int) ^ (b + 1) = 2 * 2 ^ b := by rw [Int.pow_succ]; omega
    have p2 : (2 : Int) ^ (b + 1 + 1) = 4 * 2 ^ b := by rw [Int.pow_succ, p1]; omega
    have hkn := Int.mul_nonneg h0 h0
    have hq : (k + 2 ^ (b + 1)) * (k + 2 ^ (b + 1)) ≤ 2147483648 * 2147483648 := Int.mul_le_mul (by omega) (by omega) (by omega) (by omega)
    have e1 : wrap64 (k + 2 ^ (b + 1)) = k + 2 ^ (b + 1) := w64 (by omega) (by omega)
    have e2 : wrap64 ((k + 2 ^ (b + 1)) * (k + 2 ^ (b + 1))) = (k + 2 ^ (b + 1)) * (k + 2 ^ (b + 1)) := w64 (by have := Int.mul_nonneg (show 0 ≤ k + 2 ^ (b + 1) by omega) (show 0 ≤ k + 2 ^ (b + 1) by omega); omega) (by omega)
    have e3 : wrap64 (Int.tdiv (2 ^ (b + 1)) 2) = 2 ^ b := by
      rw [Int.tdiv_eq_ediv_of_nonneg (by omega), p1, Int.mul_ediv_cancel_left _ (by decide)]; exact w64 (by omega) (by omega)
    by_cases h : (k + 2 ^ (b + 1)) * (k + 2 ^ (b + 1)) ≤ n
    · obtain ⟨r, r0, r1, r2, r3, r4⟩ := ih (k + 2 ^ (b + 1)) (by omega) (by omega) (by omega) h (by rw [show k + 2 ^ (b + 1) + 2 ^ (b + 1) = k + 2 ^ (b + 1 + 1) by omega]; exact h3)
      refine ⟨r, r0, r1, r2, r3, Ev.step (fun j => impl_squareRoot.l0.eq_2 _ _ _ j) (Ev.pos (show (2 : Int) ^ (b + 1) > 0 by omega) (Ev.pos (by rw [e1, e2]; exact h) ?_))⟩
      rw [e1, e3]; exact r4
    · obtain ⟨r, r0, r1, r2, r3, r4⟩ := ih k (by omega) h0 (by omega) h2 (by omega)
      refine ⟨r, r0, r1, r2, r3, Ev.step (fun j => impl_squareRoot.l0.eq_2 _ _ _ j) (Ev.pos (show (2 : Int) ^ (b + 1) > 0 by omega) (Ev.neg (by rw [e1, e2]; exact h) ?_))⟩
      rw [e3]; exact r4
theorem squareRoot_ev (n : Int) (h0 : 0 ≤ n) (hn : n < 4611686018427387904) : ∃ r : Int, 0 ≤ r ∧ r * r ≤ n ∧ n < (r + 1) * (r + 1) ∧ r ≤ 2147483647 ∧ Ev (fun j => impl_squareRoot.f j n) (r, (r * r == n)) := by
  have hp : ((2 : Int) ^ (30 + 1)) * 2 ^ (30 + 1) = 4611686018427387904 := by decide
  obtain ⟨r, r0, r1, r2, r3, r4⟩ := sqRoot_l n 30 0 (by omega) (by omega) (by decide) (by omega) (by rw [Int.zero_add, hp]; exact hn)
  refine ⟨r, r0, r1, r2, r3, ?_⟩
  unfold impl_squareRoot.f
  exact Ev.neg (by omega) r4
theorem sq_mono {a b : Int} (h : a * a < b * b) (hb : 0 ≤ b) : a < b := by
  refine Decidable.byContradiction fun hx => ?_
  have := Int.mul_le_mul (show b ≤ a by omega) (show b ≤ a by omega) hb (by omega)
  omega
theorem squareRoot_sq (r : Int) (h0 : 0 ≤ r) (h1 : r ≤ 1000000) : Ev (fun j => impl_squareRoot.f j (r * r)) (r, true) := by
  have hb : r * r ≤ 1000000 * 1000000 := Int.mul_le_mul h1 h1 h0 (by omega)
  have hb0 := Int.mul_nonneg h0 h0
  obtain ⟨s, s0, s1, s2, s3, s4⟩ := squareRoot_ev (r * r) (by omega) (by omega)
  have e : s = r := by
    have h2 := sq_mono s2 (by omega)
    have h3 : s ≤ r := by
      refine Decidable.byContradiction fun hx => ?_
      have := Int.mul_le_mul (show r + 1 ≤ s by omega) (show r + 1 ≤ s by omega) (by omega) (by omega)
      have : (r + 1) * (r + 1) = r * r + 2 * r + 1 := by grind
      omega
    omega
  subst e
  simpa using s4
theorem back_half {m n : Int} (hn : 1 ≤ n) (hmn : n < m) (hm : m ≤ 316) :
    wrap64 (Int.tdiv (wrap64 ((m * m - n * n) + (m * m + n * n))) 2) = m * m ∧ wrap64 (Int.tdiv (wrap64 ((m * m + n * n) - (m * m - n * n))) 2) = n * n ∧ wrap64 (Int.tdiv (wrap64 ((m * m + n * n) + (m * m - n * n))) 2) = m * m := by
  have h1 := mul_bd (a := m) (b := m) (by omega) (by omega) (by omega) (by omega)
  have h2 := mul_bd (a := n) (b := n) (by omega) (by omega) (by omega) (by omega)
  rw [show (m * m - n * n) + (m * m + n * n) = 2 * (m * m) by omega, show (m * m + n * n) - (m * m - n * n) = 2 * (n * n) by omega, show (m * m + n * n) + (m * m - n * n) = 2 * (m * m) by omega]
  rw [w64 (a := 2 * (m * m)) (by omega) (by omega), w64 (a := 2 * (n * n)) (by omega) (by omega), Int.tdiv_eq_ediv_of_nonneg (by omega), Int.tdiv_eq_ediv_of_nonneg (by omega)]
  rw [Int.mul_ediv_cancel_left _ (by decide), Int.mul_ediv_cancel_left _ (by decide)]
  exact ⟨w64 (by omega) (by omega), w64 (by omega) (by omega), w64 (by omega) (by omega)⟩
theorem iTripleBack_ev (m n : Int) (hn : 1 ≤ n) (hmn : n < m) (hm : m ≤ 316) (h : tri (m * m - n * n) (2 * m * n) (m * m + n * n) = true) :
    Ev (fun k => impl_TripleBack.f k (m * m - n * n) (2 * m * n) (m * m + n * n)) (m, n, true) := by
  unfold impl_TripleBack.f
  obtain ⟨e1, e2, _⟩ := back_half hn hmn hm
  refine Ev.bind (iTripleIs_ev _ _ _) (Ev.pos h ?_)
  rw [e1, e2]
  exact Ev.bind (squareRoot_sq m (by omega) (by omega)) (Ev.bind (squareRoot_sq n (by omega) (by omega)) (Ev.now _))
theorem iTripleBack_no (a b c : Int) (h : tri a b c = false) : Ev (fun k => impl_TripleBack.f k a b c) (0, 0, false) := by
  unfold impl_TripleBack.f
  exact Ev.bind (iTripleIs_ev _ _ _) (Ev.neg (by rw [h]; decide) (Ev.now _))
theorem pick_ev {s : List Int} (hs : IsCode s) (p n : Nat) (hp : p ≤ 10000000000000) (hn : 1 ≤ n) : Ev (fun k => spec_l6Rd_pick.f k s (p : Int) (n : Int)) ((pickv s p n : Int), ((p + 1 : Nat) : Int)) := by
  unfold spec_l6Rd_pick.f
  rw [w64s (by omega)]
  refine Ev.neg (by omega) (Ev.step (fun k => spec_l6Rd_pick.j0.eq_2 _ _ _ _ k) ?_)
  have hl := hs.1
  by_cases h0 : s.length = 0
  · exact Ev.pos (by simp [h0]) (Ev.nows (by unfold pickv; rw [if_pos h0]; rfl))
  · refine Ev.neg (by simp; simpa using h0) ?_
    rw [show ((p + 1 : Nat) : Int) - 1 = (p : Int) by omega, w64 (a := (p : Int)) (by omega) (by omega)]
    by_cases h1 : p < s.length
    · refine Ev.pos (by omega) (Ev.pos (by omega) (Ev.neg (by omega) (Ev.nows ?_)))
      have hb := code_at hs p
      unfold pickv
      rw [if_neg h0, if_pos h1, rd_at, w64 (by omega) (by omega), Int.tmod_eq_emod_of_nonneg hb.1, Int.natCast_emod, Int.toNat_of_nonneg hb.1]
    · refine Ev.neg (by omega) (Ev.neg (by omega) ?_)
      have e1 : Int.tmod (p : Int) (s.length : Int) = ((p % s.length : Nat) : Int) := by rw [Int.tmod_eq_emod_of_nonneg (by omega)]; rfl
      have e2 : Int.tmod (wrap64 (wrap64 ((p : Int) * 7) + 3)) (s.length : Int) = (((p * 7 + 3) % s.length : Nat) : Int) := by
        rw [w64 (a := (p : Int) * 7) (by omega) (by omega), w64 (by omega) (by omega), Int.tmod_eq_emod_of_nonneg (by omega)]; rfl
      have m1 : p % s.length < s.length := Nat.mod_lt _ (by omega)
      have m2 : (p * 7 + 3) % s.length < s.length := Nat.mod_lt _ (by omega)
      rw [e1, e2]
      refine Ev.pos (by omega) (Ev.pos (by omega) (Ev.pos (by omega) (Ev.pos (by omega) (Ev.neg (by omega) (Ev.nows ?_)))))
      have hb1 := code_at hs (p % s.length)
      have hb2 := code_at hs ((p * 7 + 3) % s.length)
      have hd : p / s.length ≤ p := Nat.div_le_self _ _
      have e3 : wrap64 (Int.tdiv (p : Int) (s.length : Int)) = ((p / s.length : Nat) : Int) := by
        rw [Int.tdiv_eq_ediv_of_nonneg (by omega), show (p : Int) / (s.length : Int) = ((p / s.length : Nat) : Int) from rfl]
        generalize p / s.length = q at *
        exact w64 (by omega) (by omega)
      have hm := mixed_le hs p
      have e4 : wrap64 ((wrap64 ((wrap64 ((wrap64 ((wrap64 (rd s ((p % s.length : Nat) : Int))) * 131)) + (wrap64 ((wrap64 (rd s (((p * 7 + 3) % s.length : Nat) : Int))) * 1117)))) + (wrap64 ((p : Int) * 29)))) + (wrap64 ((wrap64 (Int.tdiv (p : Int) (s.length : Int))) * 53))) = ((mixed s p : Nat) : Int) := by
        rw [e3, rd_at, rd_at, mix_wrap (s.getD (p % s.length) 0) (s.getD ((p * 7 + 3) % s.length) 0) (p : Int) ((p / s.length : Nat) : Int) hb1.1 hb1.2 hb2.1 hb2.2 (Int.natCast_nonneg _) (Int.ofNat_le.2 hp) (Int.natCast_nonneg _) (Int.ofNat_le.2 hd)]
        exact (mixed_int hs p).symm
      rw [e4]
      have e5 : wrap64 (Int.tdiv ((mixed s p : Nat) : Int) 64) = ((mixed s p / 64 : Nat) : Int) := by
        generalize mixed s p = M at *
        rw [Int.tdiv_eq_ediv_of_nonneg (by omega)]; exact w64 (by omega) (by omega)
      rw [e5, xor_i64 _ _ (by omega) (by omega), Int.tmod_eq_emod_of_nonneg (by omega)]
      unfold pickv
      rw [if_neg h0, if_neg h1]
      rfl
/-- The same where the bound is told as an Int. -/
theorem pick_ev' {s : List Int} (hs : IsCode s) (p : Nat) (n : Int) (hp : p ≤ 10000000000000) (hn : 1 ≤ n) : ∃ r : Int, 0 ≤ r ∧ r < n ∧ Ev (fun k => spec_l6Rd_pick.f k s (p : Int) n) (r, ((p + 1 : Nat) : Int)) := by
  obtain ⟨m, rfl⟩ : ∃ m : Nat, n = m := ⟨n.toNat, by omega⟩
  have h := pickv_lt s p (n := m) (by omega)
  exact ⟨_, by omega, by omega, pick_ev hs p m hp (by omega)⟩
theorem open_ev {l : List Int} (hw : ∀ x ∈ l, (Lit.int .u8 x).wf = true) : ∃ s, IsCode s ∧ spec_l6Open.f l = some (s, 0) := by
  have hb : ∀ x ∈ l, 0 ≤ x ∧ x ≤ 255 := fun x hx => by
    have := hw x hx
    simp [Lit.wf, IntKind.min, IntKind.max, IntKind.signed, IntKind.bits] at this; omega
  unfold spec_l6Open.f
  by_cases h : (l.length : Int) > 2000
  · rw [if_pos h, if_pos (by omega)]
    exact ⟨l.take 2000, ⟨by rw [List.length_take]; omega, fun x hx => hb x (List.mem_of_mem_take hx)⟩, rfl⟩
  · rw [if_neg h]
    exact ⟨l, ⟨by omega, hb⟩, rfl⟩


theorem fOk_no {form : List Int} {x : Int} (h : x ∈ form) (hx : ¬ (x ≠ 0 ∧ -30 ≤ x ∧ x ≤ 30)) : fOk form = false := by
  unfold fOk; exact decide_eq_false (fun k => hx (k.2.2 x h))
theorem fOk_end {xs : List Int} (h : ∀ j, j < xs.length → rd xs (j : Int) ≠ 0 ∧ -30 ≤ rd xs (j : Int) ∧ rd xs (j : Int) ≤ 30) : fOk xs = decide (1 ≤ xs.length ∧ xs.length ≤ 4) := by
  have ha : ∀ x ∈ xs, x ≠ 0 ∧ -30 ≤ x ∧ x ≤ 30 := by
    intro x hx
    obtain ⟨j, hj, rfl⟩ := List.getElem_of_mem hx
    have := h j hj
    rwa [rd_at, List.getD_eq_getElem?_getD, List.getElem?_eq_getElem hj] at this
  unfold fOk
  by_cases h4 : 1 ≤ xs.length ∧ xs.length ≤ 4
  · rw [decide_eq_true h4]; exact decide_eq_true ⟨h4.1, h4.2, ha⟩
  · rw [decide_eq_false h4]; exact decide_eq_false (fun k => h4 ⟨k.1, k.2.1⟩)
theorem iFormValid_l (xs : List Int) (ht : Tame xs) : ∀ (m i : Nat), i + m = xs.length → (∀ j, j < i → j < xs.length → rd xs (j : Int) ≠ 0 ∧ -30 ≤ rd xs (j : Int) ∧ rd xs (j : Int) ≤ 30) →
    Ev (fun k => impl_FormValid.l0 k xs xs (xs.length : Int) (i : Int)) (fOk xs) := by
  have hn := ht.1
  intro m
  induction m with
  | zero =>
    intro i h hj
    have e := fOk_end (xs := xs) (fun j hj1 => hj j (by omega) hj1)
    refine Ev.step (fun k => impl_FormValid.l0.eq_2 _ _ _ _ k) (Ev.neg (by omega) ?_)
    by_cases h1 : (xs.length : Int) ≥ 1
    · refine Ev.pos h1 (Ev.nows ?_)
      rw [e, decide_eq_decide]; omega
    · refine Ev.neg h1 (Ev.nows ?_)
      rw [e]; exact (decide_eq_false (by omega)).symm
  | succ m ih =>
    intro i h hj
    have hb := ht.2 _ (rd_mem (show i < xs.length by omega))
    refine Ev.step (fun k => impl_FormValid.l0.eq_2 _ _ _ _ k) (Ev.pos (by omega) (Ev.pos (by omega) (Ev.pos (by omega) ?_)))
    by_cases h1 : rd xs (i : Int) = 0
    · exact Ev.pos h1 (Ev.nows (fOk_no (rd_mem (by omega)) (fun k => k.1 h1)).symm)
    · refine Ev.neg h1 (Ev.bind0 (size_eq hb.1 hb.2) ?_)
      by_cases h2 : (((rd xs (i : Int)).natAbs : Nat) : Int) > 30
      · exact Ev.pos h2 (Ev.nows (fOk_no (rd_mem (show i < xs.length by omega)) (by omega)).symm)
      · refine Ev.neg h2 ?_
        rw [w64s (by omega)]
        refine ih (i + 1) (by omega) (fun j h5 h6 => ?_)
        rcases (by omega : j < i ∨ j = i) with h7 | rfl
        · exact hj j h7 h6
        · exact ⟨h1, by omega, by omega⟩
theorem iFormValid_ev (xs : List Int) (ht : Tame xs) : Ev (fun k => impl_FormValid.f k xs) (fOk xs) := by
  unfold impl_FormValid.f
  exact iFormValid_l xs ht xs.length 0 (by omega) (by omega)
theorem vOk_no {n : Nat} {most : Int} {v : List Int} {x : Int} (h : x ∈ v) (hx : ¬ (-most ≤ x ∧ x ≤ most)) : vOk n most v = false := by
  unfold vOk; exact decide_eq_false (fun k => hx (k.2 x h))
theorem vOk_end {n : Nat} {most : Int} {v : List Int} (h : ∀ j, j < v.length → -most ≤ rd v (j : Int) ∧ rd v (j : Int) ≤ most) : vOk n most v = ((v.length : Int) == (n : Int)) := by
  have ha : ∀ x ∈ v, -most ≤ x ∧ x ≤ most := by
    intro x hx
    obtain ⟨j, hj, rfl⟩ := List.getElem_of_mem hx
    have := h j hj
    rwa [rd_at, List.getD_eq_getElem?_getD, List.getElem?_eq_getElem hj] at this
  unfold vOk
  by_cases h4 : v.length = n
  · rw [decide_eq_true (show _ from ⟨h4, ha⟩), h4]; simp
  · rw [decide_eq_false (fun k => h4 k.1)]; simp; omega
theorem iVectorOk_l (form v : List Int) (most : Int) (hm0 : 0 ≤ most) (hm : most ≤ 1000000000) (hn : v.length ≤ 17592186044416) : ∀ (m i : Nat), i + m = v.length → (∀ j, j < i → j < v.length → -most ≤ rd v (j : Int) ∧ rd v (j : Int) ≤ most) →
    Ev (fun k => impl_vectorOk.l0 k form v most v (v.length : Int) (i : Int)) (vOk form.length most v) := by
  intro m
  induction m with
  | zero =>
    intro i h hj
    exact Ev.step (fun k => impl_vectorOk.l0.eq_2 _ _ _ _ _ _ k) (Ev.neg (by omega) (Ev.nows (vOk_end (fun j h1 => hj j (by omega) h1)).symm))
  | succ m ih =>
    intro i h hj
    refine Ev.step (fun k => impl_vectorOk.l0.eq_2 _ _ _ _ _ _ k) (Ev.pos (by omega) (Ev.pos (by omega) (Ev.pos (by omega) ?_)))
    rw [w64 (a := -most) (by omega) (by omega)]
    by_cases h1 : rd v (i : Int) < -most
    · exact Ev.pos h1 (Ev.nows (vOk_no (rd_mem (show i < v.length by omega)) (by omega)).symm)
    · refine Ev.neg h1 ?_
      by_cases h2 : rd v (i : Int) > most
      · exact Ev.pos h2 (Ev.nows (vOk_no (rd_mem (show i < v.length by omega)) (by omega)).symm)
      · refine Ev.neg h2 ?_
        rw [w64s (by omega)]
        refine ih (i + 1) (by omega) (fun j h5 h6 => ?_)
        rcases (by omega : j < i ∨ j = i) with h7 | rfl
        · exact hj j h7 h6
        · exact ⟨by omega, by omega⟩
theorem iVectorOk_ev (form v : List Int) (most : Int) (hm0 : 0 ≤ most) (hm : most ≤ 1000000000) (hn : v.length ≤ 17592186044416) : Ev (fun k => impl_vectorOk.f k form v most) (vOk form.length most v) := by
  unfold impl_vectorOk.f
  exact iVectorOk_l form v most hm0 hm hn v.length 0 (by omega) (by omega)
theorem dot3_drop {f v w : List Int} {i : Nat} (hf : i < f.length) (hv : i < v.length) (hw : i < w.length) :
    dot3 (f.drop i) (v.drop i) (w.drop i) = rd f (i : Int) * rd v (i : Int) * rd w (i : Int) + dot3 (f.drop (i + 1)) (v.drop (i + 1)) (w.drop (i + 1)) := by
  rw [drop_rd hf, drop_rd hv, drop_rd hw]; rfl
theorem dot3_nil {f v w : List Int} {i : Nat} (hf : f.length ≤ i) : dot3 (f.drop i) (v.drop i) (w.drop i) = 0 := by
  rw [List.drop_of_length_le hf]; rfl
theorem iPair_l (f v w : List Int) (hv : v.length = f.length) (hw : w.length = f.length) (hn : f.length ≤ 4) (hf : ∀ x ∈ f, -31 ≤ x ∧ x ≤ 31) (bv : ∀ x ∈ v, -1000000 ≤ x ∧ x ≤ 1000000) (bw : ∀ x ∈ w, -1000000 ≤ x ∧ x ≤ 1000000) :
    ∀ (m i : Nat) (s : Int), i + m = f.length → -(31000000000000 * i) ≤ s → s ≤ 31000000000000 * i → Ev (fun k => impl_pair.l0 k v w s f (f.length : Int) (i : Int)) (s + dot3 (f.drop i) (v.drop i) (w.drop i)) := by
  intro m
  induction m with
  | zero =>
    intro i s h _ _
    exact Ev.step (fun k => impl_pair.l0.eq_2 _ _ _ _ _ _ k) (Ev.neg (by omega) (Ev.nows (by rw [dot3_nil (by omega)]; omega)))
  | succ m ih =>
    intro i s h h1 h2
    have b1 := hf _ (rd_mem (show i < f.length by omega))
    have b2 := bv _ (rd_mem (show i < v.length by omega))
    have b3 := bw _ (rd_mem (show i < w.length by omega))
    have b := mul3_bd b1 b2 b3 (by omega) (by omega)
    refine Ev.step (fun k => impl_pair.l0.eq_2 _ _ _ _ _ _ k) (Ev.pos (by omega) (Ev.pos (by omega) (Ev.pos (by omega) (Ev.pos (by omega) (Ev.pos (by omega) ?_)))))
    rw [w64s (by omega), w64 (a := rd f (i : Int) * rd v (i : Int)) (by omega) (by omega), w64 (a := rd f (i : Int) * rd v (i : Int) * rd w (i : Int)) (by omega) (by omega), w64 (a := s + _) (by omega) (by omega), dot3_drop (show i < f.length by omega) (by omega) (by omega)]
    refine Ev.to (ih (i + 1) _ (by omega) (by omega) (by omega)) (by omega)
theorem iPair_ev (f v w : List Int) (hv : v.length = f.length) (hw : w.length = f.length) (hn : f.length ≤ 4) (hf : ∀ x ∈ f, -31 ≤ x ∧ x ≤ 31) (bv : ∀ x ∈ v, -1000000 ≤ x ∧ x ≤ 1000000) (bw : ∀ x ∈ w, -1000000 ≤ x ∧ x ≤ 1000000) :
    Ev (fun k => impl_pair.f k f v w) (dot3 f v w) := by
  unfold impl_pair.f
  have h := iPair_l f v w hv hw hn hf bv bw f.length 0 0 (by omega) (by omega) (by omega)
  exact Ev.to h (by simp)
theorem iZeroIs_ev (form v : List Int) (hf : Tame form) (hv : Tame v) : Ev (fun k => impl_ZeroIs.f k form v) (zeroB form v) := by
  unfold impl_ZeroIs.f zeroB
  refine Ev.bind (iFormValid_ev form hf) ?_
  by_cases h1 : fOk form = true
  · refine Ev.pos h1 (Ev.bind (iVectorOk_ev form v 1000000 (by omega) (by omega) (by have := hv.1; omega)) (Ev.step (fun k => impl_ZeroIs.j0.eq_2 _ _ _ k) ?_))
    by_cases h2 : vOk form.length 1000000 v = true
    · refine Ev.neg (by rw [h2]; decide) (Ev.bind (gcd_ev v (by have := hv.1; omega) hv.2) ?_)
      by_cases h3 : some0 v = true
      · have h4 : gcdL 0 v ≠ 0 := fun h => by rw [gcdL_zero, h3] at h; cases h
        refine Ev.neg (by omega) (Ev.bind (iPair_ev form v v (vOk_len h2) (vOk_len h2) (fOk_len h1).2 (fun x hx => by have := fOk_mem h1 x hx; omega) (vOk_mem h2) (vOk_mem h2)) (Ev.nows ?_))
        rw [h1, h2, h3]; simp
      · have h4 : gcdL 0 v = 0 := gcdL_zero.2 (by simpa using h3)
        refine Ev.pos (by rw [h4]; rfl) (Ev.nows ?_)
        simp [h3]
    · exact Ev.pos (by simpa using h2) (Ev.nows (by simp [h2]))
  · exact Ev.neg h1 (Ev.step (fun k => impl_ZeroIs.j0.eq_2 _ _ _ k) (Ev.pos rfl (Ev.nows (by simp [h1]))))
theorem plain_l1 (v : List Int) (d : Int) (hd : d ≠ 0) (hn : v.length ≤ 1000000) (ht : ∀ x ∈ v, -9223372036854775807 ≤ x ∧ x ≤ 9223372036854775807) : ∀ (m i : Nat), i + m = v.length →
    Ev (fun k => impl_plain.l1 k d ((v.take i).map (fun x => Int.tdiv x d)) v (v.length : Int) (i : Int)) (v.map (fun x => Int.tdiv x d)) := by
  intro m
  induction m with
  | zero =>
    intro i h
    exact Ev.step (fun k => impl_plain.l1.eq_2 _ _ _ _ _ k) (Ev.neg (by omega) (Ev.nows (by rw [List.take_of_length_le (by omega)])))
  | succ m ih =>
    intro i h
    have hb := ht _ (rd_mem (show i < v.length by omega))
    have hq : (Int.tdiv (rd v (i : Int)) d).natAbs ≤ (rd v (i : Int)).natAbs := by rw [Int.natAbs_tdiv]; exact Nat.div_le_self _ _
    refine Ev.step (fun k => impl_plain.l1.eq_2 _ _ _ _ _ k) (Ev.pos (by omega) (Ev.pos (by omega) (Ev.pos (by omega) (Ev.neg hd (Ev.pos (by rw [List.length_map, List.length_take]; omega) ?_)))))
    rw [w64s (by omega), w64 (a := Int.tdiv (rd v (i : Int)) d) (by omega) (by omega)]
    have e : (v.take i).map (fun x => Int.tdiv x d) ++ [Int.tdiv (rd v (i : Int)) d] = (v.take (i + 1)).map (fun x => Int.tdiv x d) := by
      rw [List.take_succ_eq_append_getElem (show i < v.length by omega), List.map_append, rd_at, List.getD_eq_getElem?_getD, List.getElem?_eq_getElem (show i < v.length by omega)]; rfl
    rw [e]
    exact ih (i + 1) (by omega)
theorem plain_j1 (v : List Int) (d : Int) (hd : d ≠ 0) (ht : Tame v) : Ev (fun k => impl_plain.j1 k v d) (v.map (fun x => Int.tdiv x d)) := by
  refine Ev.step (fun k => impl_plain.j1.eq_2 _ _ k) ?_
  have h := plain_l1 v d hd (by have := ht.1; omega) ht.2 v.length 0 (by omega)
  simpa using h
theorem plain_l0 (v : List Int) (g : Nat) (hg : g ≠ 0) (hg1 : (g : Int) ≤ 9223372036854775807) (ht : Tame v) : ∀ (m i : Nat), i + m = v.length → (m = 0 → sgn1 v = 1) → sgn1 (v.drop i) = sgn1 v →
    Ev (fun k => impl_plain.l0 k v (g : Int) v (v.length : Int) (i : Int)) (v.map (fun x => Int.tdiv x (sgn1 v * g))) := by
  intro m
  have hn := ht.1
  induction m with
  | zero =>
    intro i h h1 _
    refine Ev.step (fun k => impl_plain.l0.eq_2 _ _ _ _ _ k) (Ev.neg (by omega) ?_)
    rw [h1 rfl, Int.one_mul]
    exact plain_j1 v g (by omega) ht
  | succ m ih =>
    intro i h _ h2
    refine Ev.step (fun k => impl_plain.l0.eq_2 _ _ _ _ _ k) (Ev.pos (by omega) (Ev.pos (by omega) (Ev.pos (by omega) ?_)))
    rw [drop_rd (show i < v.length by omega)] at h2
    by_cases hz : rd v (i : Int) = 0
    · refine Ev.pos hz ?_
      rw [w64s (by omega)]
      rw [sgn1, if_pos hz] at h2
      refine ih (i + 1) (by omega) (fun hm => ?_) h2
      rw [← h2, List.drop_of_length_le (by omega)]; rfl
    · refine Ev.neg hz ?_
      rw [sgn1, if_neg hz] at h2
      by_cases hneg : rd v (i : Int) < 0
      · rw [if_pos hneg] at h2
        refine Ev.pos hneg ?_
        rw [← h2, w64 (a := -(g : Int)) (by omega) (by omega), show (-1 : Int) * g = -g by omega]
        exact plain_j1 v (-g) (by omega) ht
      · rw [if_neg hneg] at h2
        refine Ev.neg hneg ?_
        rw [← h2, Int.one_mul]
        exact plain_j1 v g (by omega) ht
theorem gcdL_le {v : List Int} (ht : Tame v) (h : some0 v = true) : (gcdL 0 v : Int) ≤ 9223372036854775807 := by
  unfold some0 at h
  rw [List.any_eq_true] at h
  obtain ⟨x, hx, h0⟩ := h
  have h1 := Nat.le_of_dvd (by simp at h0; omega) ((gcdL_mono v 0).2 x hx)
  have := ht.2 x hx
  omega
theorem iPlain_ev (v : List Int) (ht : Tame v) (h : some0 v = true) : Ev (fun k => impl_plain.f k v) (plainL v) := by
  unfold impl_plain.f plainL
  refine Ev.bind (gcd_ev v (by have := ht.1; omega) ht.2) ?_
  refine plain_l0 v (gcdL 0 v) (fun h0 => by rw [gcdL_zero, h] at h0; cases h0) (gcdL_le ht h) ht v.length 0 (by omega) (fun h0 => ?_) rfl
  rw [List.eq_nil_of_length_eq_zero h0]; rfl
theorem zeroB_some {form v : List Int} (h : zeroB form v = true) : some0 v = true := by
  unfold zeroB at h; simp only [Bool.and_eq_true] at h; exact h.2.2.1
theorem iZeroPlain_ev (form v : List Int) (hf : Tame form) (hv : Tame v) (h : zeroB form v = true) : Ev (fun k => impl_ZeroPlain.f k form v) (plainL v, true) := by
  unfold impl_ZeroPlain.f
  exact Ev.bind (iZeroIs_ev form v hf hv) (Ev.pos h (Ev.bind (iPlain_ev v hv (zeroB_some h)) (Ev.now _)))
theorem sameInts_l (xs : List Int) (hn : xs.length ≤ 17592186044416) : ∀ (m i : Nat), i + m = xs.length → Ev (fun k => laws_sameInts.l0 k xs xs (i : Int)) true := by
  intro m
  induction m with
  | zero =>
    intro i h
    exact Ev.step (fun k => laws_sameInts.l0.eq_2 _ _ _ k) (Ev.neg (by omega) (Ev.now _))
  | succ m ih =>
    intro i h
    refine Ev.step (fun k => laws_sameInts.l0.eq_2 _ _ _ k) (Ev.pos (by omega) (Ev.pos (by omega) (Ev.pos (by omega) (Ev.pos rfl ?_))))
    rw [w64s (by omega)]
    exact ih (i + 1) (by omega)
theorem sameInts_ev (xs : List Int) (hn : xs.length ≤ 17592186044416) : Ev (fun k => laws_sameInts.f k xs xs) true := by
  unfold laws_sameInts.f
  exact Ev.pos rfl (sameInts_l xs hn xs.length 0 (by omega))
/-- What is drawn: three integers of a size that anything bears. -/
theorem l92Triple_ev {s : List Int} (hs : IsCode s) (p : Nat) (hp : p ≤ 1000000) : ∃ a b c : Int, ∃ q : Nat, Ev (fun k => spec_l92Triple.f k s (p : Int)) (a, b, c, (q : Int)) := by
  unfold spec_l92Triple.f
  obtain ⟨x, x0, x1, hx⟩ := pick_ev' hs p 12 (by omega) (by omega)
  have e1 : wrap64 (2 + x) = 2 + x := w64 (by omega) (by omega)
  have e2 : wrap64 (2 + x - 1) = 2 + x - 1 := w64 (by omega) (by omega)
  obtain ⟨y, y0, y1, hy⟩ := pick_ev' hs (p + 1) (2 + x - 1) (by omega) (by omega)
  have e3 : wrap64 (1 + y) = 1 + y := w64 (by omega) (by omega)
  have j0 : ∀ (a b c : Int) (t : Bool) (q : Nat), q ≤ 2000000 → ∃ a' b' c' : Int, ∃ q' : Nat, Ev (fun k => spec_l92Triple.j0 k a b c t s (q : Int)) (a', b', c', (q' : Int)) := by
    intro a b c t q hq
    cases t with
    | true => exact ⟨a, b, c, q, Ev.step (fun k => spec_l92Triple.j0.eq_2 _ _ _ _ _ _ k) (Ev.pos rfl (Ev.now _))⟩
    | false =>
      obtain ⟨u, u0, u1, hu⟩ := pick_ev' hs q 5 (by omega) (by omega)
      obtain ⟨v, v0, v1, hv⟩ := pick_ev' hs (q + 1) 4 (by omega) (by omega)
      obtain ⟨z, z0, z1, hz⟩ := pick_ev' hs (q + 2) 3 (by omega) (by omega)
      exact ⟨_, _, _, q + 3, Ev.step (fun k => spec_l92Triple.j0.eq_2 _ _ _ _ _ _ k) (Ev.neg (by decide) (Ev.bind0 rfl (Ev.bind hu (Ev.pos u0 (Ev.pos u1 (Ev.bind0 rfl (Ev.bind hv (Ev.pos v0 (Ev.pos v1 (Ev.bind0 rfl (Ev.bind hz (Ev.pos z0 (Ev.pos z1 (Ev.now _))))))))))))))⟩
  by_cases h : (mk (2 + x) (1 + y)).2.2.2 = true
  · obtain ⟨z, z0, z1, hz⟩ := pick_ev' hs (p + 2) 12 (by omega) (by omega)
    obtain ⟨a, b, c, q, hj⟩ := j0 (mk (2 + x) (1 + y)).1 (mk (2 + x) (1 + y)).2.1 (mk (2 + x) (1 + y)).2.2.1 (decide (z > 0)) (p + 3) (by omega)
    refine ⟨a, b, c, q, Ev.bind hx ?_⟩
    simp only [e1, e2]
    refine Ev.bind hy ?_
    simp only [e3]
    exact Ev.bind (sTripleMake_ev _ _) (Ev.pos h (Ev.bind hz hj))
  · obtain ⟨a, b, c, q, hj⟩ := j0 (mk (2 + x) (1 + y)).1 (mk (2 + x) (1 + y)).2.1 (mk (2 + x) (1 + y)).2.2.1 false (p + 2) (by omega)
    refine ⟨a, b, c, q, Ev.bind hx ?_⟩
    simp only [e1, e2]
    refine Ev.bind hy ?_
    simp only [e3]
    exact Ev.bind (sTripleMake_ev _ _) (Ev.neg h hj)
end FnTripleFun
open FnTripleFun
theorem FnTriple : laws_FnTriple.Pure := by
  intro l _ _ hw
  refine Ev.rounds (r := true) ?_
  unfold laws_FnTriple.f
  by_cases hl : (l.length : Int) > 1048576
  · exact Ev.pos hl (Ev.now _)
  · have hd : ∃ a b c : Int, Ev (fun k => spec_DrawTripleIs.f k l) (a, b, c) := by
      unfold spec_DrawTripleIs.f
      obtain ⟨s, hs, ho⟩ := open_ev hw
      obtain ⟨a, b, c, q, h⟩ := l92Triple_ev hs 0 (by omega)
      exact ⟨a, b, c, Ev.bind0 ho (Ev.bind h (Ev.now _))⟩
    obtain ⟨a, b, c, hd⟩ := hd
    refine Ev.neg hl (Ev.bind hd (Ev.bind (iTripleIs_ev a b c) (Ev.bind (sTripleIs_ev a b c) (Ev.neg (by simp) (Ev.step (fun k => laws_FnTriple.j0.eq_2 _ _ _ _ _ _ k) ?_)))))
    by_cases ht : tri a b c = true
    · obtain ⟨m, n, h1, h2, h3, ea, eb, ec, hpar, hg⟩ := tri_param ht
      have hb := of_decide_eq_true (show decide _ = true from ht)
      have tv : Tame [a, b, c] := tame_of (m := 100000) (by omega) (by simp) (by intro x hx; simp at hx; omega)
      have tf : Tame [1, 1, -1] := tame_of (m := 1) (by omega) (by simp) (by intro x hx; simp at hx; omega)
      have hz : zeroB [1, 1, -1] [a, b, c] = true := by
        unfold zeroB
        have e1 : fOk [1, 1, -1] = true := by decide
        have e2 : vOk ([1, 1, -1] : List Int).length 1000000 [a, b, c] = true := by
          unfold vOk; exact decide_eq_true ⟨rfl, by intro x hx; simp at hx; omega⟩
        have e3 : some0 [a, b, c] = true := by unfold some0; simp; omega
        have e4 : (dot3 [1, 1, -1] [a, b, c] [a, b, c] == 0) = true := by
          have := hb.2.2.2.2.2.2.1
          simp only [dot3, beq_iff_eq]; grind
        rw [e1, e2, e3, e4]; rfl
      have hp : plainL [a, b, c] = [a, b, c] := by
        refine plainL_self ?_ ?_
        · rw [gcd3 hb.2.2.2.2.2.2.1]; exact hb.2.2.2.2.2.2.2.2.2
        · rw [sgn1, if_neg (by omega), if_neg (by omega)]
      have hback : Ev (fun k => impl_TripleBack.f k a b c) (m, n, true) := by
        subst ea eb ec
        exact iTripleBack_ev m n h1 h2 h3 ht
      have hzp := iZeroPlain_ev [1, 1, -1] [a, b, c] tf tv hz
      rw [hp] at hzp
      refine Ev.neg (by simp [ht]) (Ev.bind0 rfl (Ev.bind hzp (Ev.bind hback (Ev.pos rfl (Ev.pos rfl (Ev.bind (sameInts_ev _ (by simp)) (Ev.pos rfl ?_)))))))
      have hnn := Int.mul_pos (show 0 < n by omega) (show 0 < n by omega)
      have hmn : n * n < m * n := Int.mul_lt_mul_of_pos_right h2 (by omega)
      have hmm : m * n ≤ m * m := Int.mul_le_mul_of_nonneg_left (by omega) (by omega)
      refine Ev.pos ?_ (Ev.pos ?_ (Ev.nows ?_))
      · dsimp only
        rw [Int.tmod_eq_emod_of_nonneg (by omega), ec, Int.add_emod, Int.mul_emod m m, Int.mul_emod n n]
        rcases Int.emod_two_eq m with e1 | e1 <;> rcases Int.emod_two_eq n with e2 | e2 <;> rw [e1, e2] <;> first | rfl | omega
      · dsimp only; omega
      · have h5 : (m - n) * (m - n) = m * m - 2 * m * n + n * n := by grind
        have h6 : 0 < (m - n) * (m - n) := Int.mul_pos (by omega) (by omega)
        exact decide_eq_true (by dsimp only; omega)
    · exact Ev.pos (by simpa using ht) (Ev.nows (by simp))
end Go.Proofs.Ytpmhninmblgjoaa.Pure
