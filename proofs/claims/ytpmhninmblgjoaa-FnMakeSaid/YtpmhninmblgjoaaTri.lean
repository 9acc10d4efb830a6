/- Plain number theory of triples: what TripleIs and TripleMake tell, and each triple is made of two integers. No program in sight. -/
import Derived.Test.YtpmhninmblgjoaaAid
namespace Go.Proofs.Ytpmhninmblgjoaa.Aid
open Go.RowKit Go.Proofs.YtpmhninmblgjoaaW.PrintWords Go.Proofs.YtpmhninmblgjoaaW.PrintLast Go.Proofs.YtpmhninmblgjoaaW.PrintMore

theorem gcd3 {a b c : Int} (h : a * a + b * b = c * c) : gcdL 0 [a, b, c] = Nat.gcd a.natAbs b.natAbs := by
  simp only [gcdL, List.foldl_cons, List.foldl_nil, Nat.gcd_zero_left]
  refine Nat.gcd_eq_left ?_
  obtain ⟨x, hx⟩ := Nat.gcd_dvd_left a.natAbs b.natAbs
  obtain ⟨y, hy⟩ := Nat.gcd_dvd_right a.natAbs b.natAbs
  generalize Nat.gcd a.natAbs b.natAbs = g at *
  have h1 : a.natAbs * a.natAbs + b.natAbs * b.natAbs = c.natAbs * c.natAbs := by
    have e1 := Int.natAbs_mul_self (a := a)
    have e2 := Int.natAbs_mul_self (a := b)
    have e3 := Int.natAbs_mul_self (a := c)
    omega
  rw [hx, hy] at h1
  have h2 : g * g ∣ c.natAbs * c.natAbs := ⟨x * x + y * y, by rw [← h1]; grind⟩
  have h3 : g ^ 2 ∣ c.natAbs ^ 2 := by rw [Nat.pow_two, Nat.pow_two]; exact h2
  exact (Nat.pow_dvd_pow_iff (by decide)).1 h3
/-- What both functions tell. -/
def tri (a b c : Int) : Bool := decide (1 ≤ a ∧ a ≤ 100000 ∧ 1 ≤ b ∧ b ≤ 100000 ∧ 1 ≤ c ∧ c ≤ 100000 ∧ a * a + b * b = c * c ∧ a % 2 = 1 ∧ b % 2 = 0 ∧ Nat.gcd a.natAbs b.natAbs = 1)
theorem sq_bd {a : Int} (h1 : 1 ≤ a) (h2 : a ≤ 100000) : 0 ≤ a * a ∧ a * a ≤ 10000000000 :=
  ⟨Int.mul_nonneg (by omega) (by omega), by have := Int.mul_le_mul h2 h2 (by omega) (by omega); omega⟩
theorem tri_no {a b c : Int} (h : ¬ (1 ≤ a ∧ a ≤ 100000 ∧ 1 ≤ b ∧ b ≤ 100000 ∧ 1 ≤ c ∧ c ≤ 100000 ∧ a * a + b * b = c * c ∧ a % 2 = 1 ∧ b % 2 = 0 ∧ Nat.gcd a.natAbs b.natAbs = 1)) : tri a b c = false := by
  unfold tri; exact decide_eq_false h
theorem tri_last {a b c : Int} (ha : 1 ≤ a ∧ a ≤ 100000) (hb : 1 ≤ b ∧ b ≤ 100000) (hc : 1 ≤ c ∧ c ≤ 100000) (h1 : a * a + b * b = c * c) (h2 : a % 2 = 1) (h3 : b % 2 = 0) :
    (((Nat.gcd a.natAbs b.natAbs : Nat) : Int) == 1) = tri a b c := by
  unfold tri
  by_cases h4 : Nat.gcd a.natAbs b.natAbs = 1
  · rw [decide_eq_true (show _ from ⟨ha.1, ha.2, hb.1, hb.2, hc.1, hc.2, h1, h2, h3, h4⟩)]; simp [h4]
  · rw [decide_eq_false (by rintro ⟨_, _, _, _, _, _, _, _, _, h⟩; exact h4 h)]; simp; omega
/-- What both functions tell. -/
def mk (m n : Int) : Int × Int × Int × Bool := if 2 ≤ m ∧ m ≤ 316 ∧ 1 ≤ n ∧ n < m ∧ tri (m * m - n * n) (2 * m * n) (m * m + n * n) = true then (m * m - n * n, 2 * m * n, m * m + n * n, true) else (0, 0, 0, false)
theorem mk_yes {m n : Int} (hm : 2 ≤ m) (hm1 : m ≤ 316) (hn : 1 ≤ n) (hn1 : n < m) (ht : tri (m * m - n * n) (2 * m * n) (m * m + n * n) = true) : mk m n = (m * m - n * n, 2 * m * n, m * m + n * n, true) := by
  unfold mk; exact if_pos ⟨hm, hm1, hn, hn1, ht⟩
theorem mk_no {m n : Int} (h : ¬ (2 ≤ m ∧ m ≤ 316 ∧ 1 ≤ n ∧ n < m ∧ tri (m * m - n * n) (2 * m * n) (m * m + n * n) = true)) : mk m n = (0, 0, 0, false) := by
  unfold mk; exact if_neg h
theorem mul_bd {a b : Int} (ha : 0 ≤ a) (ha1 : a ≤ 1000) (hb : 0 ≤ b) (hb1 : b ≤ 1000) : 0 ≤ a * b ∧ a * b ≤ 1000000 :=
  ⟨Int.mul_nonneg ha hb, by have := Int.mul_le_mul ha1 hb1 hb (by omega); omega⟩
theorem mk_wraps {m n : Int} (hm : 2 ≤ m) (hm1 : m ≤ 316) (hn : 1 ≤ n) (hn1 : n < m) :
    wrap64 (wrap64 (m * m) - wrap64 (n * n)) = m * m - n * n ∧ wrap64 (wrap64 (2 * m) * n) = 2 * m * n ∧ wrap64 (wrap64 (m * m) + wrap64 (n * n)) = m * m + n * n := by
  have h1 := mul_bd (a := m) (b := m) (by omega) (by omega) (by omega) (by omega)
  have h2 := mul_bd (a := n) (b := n) (by omega) (by omega) (by omega) (by omega)
  have h3 := mul_bd (a := 2 * m) (b := n) (by omega) (by omega) (by omega) (by omega)
  rw [w64 (a := m * m) (by omega) (by omega), w64 (a := n * n) (by omega) (by omega), w64 (a := 2 * m) (by omega) (by omega)]
  exact ⟨w64 (by omega) (by omega), w64 (by omega) (by omega), w64 (by omega) (by omega)⟩
/-- Two numbers without a common divisor whose product is a square are squares. -/
theorem sq_of_mul {u v w : Nat} (h : u * v = w * w) (hg : Nat.gcd u v = 1) : Nat.gcd u w * Nat.gcd u w = u := by
  have h1 : Nat.gcd u w ^ 2 = Nat.gcd (u ^ 2) (w ^ 2) := Nat.pow_gcd_pow.symm
  rw [Nat.pow_two, Nat.pow_two, Nat.pow_two, ← h, Nat.gcd_mul_left, hg, Nat.mul_one] at h1
  exact h1
/-- A triple is made of two integers. -/
theorem tri_param {a b c : Int} (h : tri a b c = true) :
    ∃ m n : Int, 1 ≤ n ∧ n < m ∧ m ≤ 316 ∧ a = m * m - n * n ∧ b = 2 * m * n ∧ c = m * m + n * n ∧ (m + n) % 2 = 1 ∧ Nat.gcd m.natAbs n.natAbs = 1 := by
  unfold tri at h
  obtain ⟨ha, _, hb, _, hc, hc1, he, hao, hbe, hg⟩ := of_decide_eq_true h
  have hca : a < c := by
    refine Decidable.byContradiction fun hn => ?_
    have h1 : c * c ≤ a * a := Int.mul_le_mul (by omega) (by omega) (by omega) (by omega)
    have h2 : 1 * 1 ≤ b * b := Int.mul_le_mul hb hb (by omega) (by omega)
    omega
  have hco : c % 2 = 1 := by
    have h1 : (c * c) % 2 = 1 := by
      rw [← he, Int.add_emod, Int.mul_emod a a, Int.mul_emod b b, hao, hbe]; rfl
    rcases Int.emod_two_eq c with h2 | h2
    · rw [Int.mul_emod, h2] at h1; simp at h1
    · exact h2
  obtain ⟨u, hu⟩ : ∃ u : Nat, (u : Int) = (c + a) / 2 := ⟨((c + a) / 2).toNat, Int.toNat_of_nonneg (by omega)⟩
  obtain ⟨v, hv⟩ : ∃ v : Nat, (v : Int) = (c - a) / 2 := ⟨((c - a) / 2).toNat, Int.toNat_of_nonneg (by omega)⟩
  obtain ⟨w, hw⟩ : ∃ w : Nat, (w : Int) = b / 2 := ⟨(b / 2).toNat, Int.toNat_of_nonneg (by omega)⟩
  have ea : a = u - v := by omega
  have ec : c = u + v := by omega
  have eb : b = 2 * w := by omega
  have huv : u * v = w * w := by
    have h1 : ((u : Int) - v) * (u - v) + 2 * w * (2 * w) = (u + v) * (u + v) := by rw [← ea, ← ec, ← eb]; exact he
    have h2 : (u : Int) * v = w * w := by grind
    exact_mod_cast h2
  have hguv : Nat.gcd u v = 1 := by
    have hd1 : Nat.gcd u v ∣ a.natAbs := by
      have h1 : ((Nat.gcd u v : Nat) : Int) ∣ a := by
        rw [ea]; exact Int.dvd_sub (Int.natCast_dvd_natCast.2 (Nat.gcd_dvd_left u v)) (Int.natCast_dvd_natCast.2 (Nat.gcd_dvd_right u v))
      simpa using Int.natAbs_dvd_natAbs.2 h1
    have hd2 : Nat.gcd u v ∣ w := by
      obtain ⟨x, hx⟩ := Nat.gcd_dvd_left u v
      obtain ⟨y, hy⟩ := Nat.gcd_dvd_right u v
      have h2 : Nat.gcd u v ^ 2 ∣ w ^ 2 := ⟨x * y, by rw [Nat.pow_two, Nat.pow_two, ← huv]; generalize Nat.gcd u v = g at *; rw [hx, hy]; grind⟩
      exact (Nat.pow_dvd_pow_iff (by decide)).1 h2
    have hd3 : Nat.gcd u v ∣ b.natAbs := by
      have h1 : b.natAbs = 2 * w := by omega
      rw [h1]; exact Nat.dvd_trans hd2 ⟨2, by omega⟩
    have := Nat.dvd_gcd hd1 hd3
    rw [hg] at this
    exact Nat.dvd_one.1 this
  have hm := sq_of_mul huv hguv
  have hn := sq_of_mul (u := v) (v := u) (w := w) (by rw [Nat.mul_comm]; exact huv) (by rw [Nat.gcd_comm]; exact hguv)
  generalize hM : Nat.gcd u w = m at *
  generalize hN : Nat.gcd v w = n at *
  have hvpos : 0 < v := by omega
  have hn0 : 1 ≤ n := by
    rcases Nat.eq_zero_or_pos n with rfl | h0
    · omega
    · exact h0
  have hmn : n < m := by
    refine Decidable.byContradiction fun hx => ?_
    have : m * m ≤ n * n := Nat.mul_le_mul (by omega) (by omega)
    omega
  have hwmn : w = m * n := by
    have h1 : w * w = (m * n) * (m * n) := by rw [← huv, ← hm, ← hn]; grind
    exact Nat.mul_self_inj.1 h1
  have hm316 : m ≤ 316 := by
    refine Decidable.byContradiction fun hx => ?_
    have : 317 * 317 ≤ m * m := Nat.mul_le_mul (by omega) (by omega)
    omega
  have hpar : (m + n) % 2 = 1 := by
    have h1 : ((u : Int) + v) % 2 = 1 := by rw [← ec]; exact hco
    have h2 : (m * m + n * n) % 2 = 1 := by omega
    rcases Nat.mod_two_eq_zero_or_one m with a1 | a1 <;> rcases Nat.mod_two_eq_zero_or_one n with a2 | a2 <;> rw [Nat.add_mod, Nat.mul_mod m m, Nat.mul_mod n n, a1, a2] at h2 <;> simp at h2 <;> omega
  refine ⟨m, n, by omega, by omega, by omega, ?_, ?_, ?_, by omega, ?_⟩
  · rw [ea, ← hm, ← hn]; simp
  · rw [eb, hwmn]; simp [Int.mul_assoc]
  · rw [ec, ← hm, ← hn]; simp
  · have h1 : Nat.gcd m n ∣ Nat.gcd u v := Nat.dvd_gcd (by rw [← hm]; exact Nat.dvd_trans (Nat.gcd_dvd_left m n) ⟨m, rfl⟩) (by rw [← hn]; exact Nat.dvd_trans (Nat.gcd_dvd_right m n) ⟨n, rfl⟩)
    rw [hguv] at h1
    simpa using Nat.dvd_one.1 h1
end Go.Proofs.Ytpmhninmblgjoaa.Aid
