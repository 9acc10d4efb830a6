/- Plain number theory of triples: what TripleIs and TripleMake tell, and each triple is made of two integers. No program in sight. -/
import Derived.Test.YtpmhninmblgjoaaAid
namespace Go.Proofs.Ytpmhninmblgjoaa.Aid
open Go.RowKit Go.Proofs.YtpmhninmblgjoaaW.PrintWords Go.Proofs.YtpmhninmblgjoaaW.PrintLast Go.Proofs.YtpmhninmblgjoaaW.PrintMore

theorem gcd3 {a b c : Int} (h : a * a + b * b = c * c) : gcdL 0 [a, b, c] = Nat.gcd a.natAbs b.natAbs := by
  simp only [gcdL, List.foldl_cons, List.foldl_nil, Nat.gcd_zero_left]
  refine Nat.gcd_eq_left ?_
  obtain ⟨x, hx⟩ := Nat.gcd_dvd_left a.natAbs b.natAbs
  obtain ⟨y, hy⟩ := Nat.gcd_dvd_right a.natAbs b.natAbs
  generalize Nat.gcd a.natAbs b.natAbs = g at *
  have h1 : a.natAbs * a.natAbs + b.natAbs * b.natAbs = c.natAbs * c.natAbs := by
    have e1 := Int.natAbs_mul_self (a := a)
    have e2 := Int.natAbs_mul_self (a := b)
    have e3 := Int.natAbs_mul_self (a := c)
    omega
  rw [hx, hy] at h1
  have h2 : g * g ∣ c.natAbs * c.natAbs := ⟨x * x + y * y, by rw [← h1]; grind⟩
  have h3 : g ^ 2 ∣ c.natAbs ^ 2 := by rw [Nat.pow_two, Nat.pow_two]; exact h2
  exact (Nat.pow_dvd_pow_iff (by decide)).1 h3
/-- What both functions tell. -/
def tri (a b c : Int) : Bool := decide (1 ≤ a ∧ a ≤ 100000 ∧ 1 ≤ b ∧ b ≤ 100000 ∧ 1 ≤ c ∧ c ≤ 100000 ∧ a * a + b * b = c * c ∧ a % 2 = 1 ∧ b % 2 = 0 ∧ Nat.gcd a.natAbs b.natAbs = 1)
theorem sq_bd {a : Int} (h1 : 1 ≤ a) (h2 : a ≤ 100000) : 0 ≤ a * a ∧ a * a ≤ 10000000000 :=
  ⟨Int.mul_nonneg (by omega) (by omega), by have := Int.mul_le_mul h2 h2 (by omega) (by omega); omega⟩
theorem tri_no {a b c : Int} (h : ¬ (1 ≤ a ∧ a ≤ 100000 ∧ 1 ≤ b ∧ b ≤ 100000 ∧ 1 ≤ c ∧ c ≤ 100000 ∧ a * a + b * b = c * c ∧ a % 2 = 1 ∧ b % 2 = 0 ∧ Nat.gcd a.natAbs b.natAbs = 1)) : tri a b c = false := by
  unfold tri; exact decide_eq_false h
theorem tri_last {a b c : Int} (ha : 1 ≤ a ∧ a ≤ 100000) (hb : 1 ≤ b ∧ b ≤ 100000) (hc : 1 ≤ c ∧ c ≤ 100000) (h1 : a * a + b * b = c * c) (h2 : a % 2 = 1) (h3 : b % 2 = 0) :
    (((Nat.gcd a.natAbs b.natAbs : Nat) : Int) == 1) = tri a b c := by
  unfold tri
  by_cases h4 : Nat.gcd a.natAbs b.natAbs = 1
  · rw [decide_eq_true (show _ from ⟨ha.1, ha.2, hb.1, hb.2, hc.1, hc.2, h1, h2, h3, h4⟩)]; simp [h4]
  · rw [decide_eq_false (by rintro ⟨_, _, _, _, _, _, _, _, _, h⟩; exact h4 h)]; simp; omega
/-- What both functions tell. -/
def mk (m n : Int) : Int × Int × Int × Bool := if 2 ≤ m ∧ m ≤ 316 ∧ 1 ≤ n ∧ n < m ∧ tri (m * m - n * n) (2 * m * n) (m * m + n * n) = true then (m * m - n * n, 2 * m * n, m * m + n * n, true) else (0, 0, 0, false)
theorem mk_yes {m n : Int} (hm : 2 ≤ m) (hm1 : m ≤ 316) (hn : 1 ≤ n) (hn1 : n < m) (ht : tri (m * m - n * n) (2 * m * n) (m * m + n * n) = true) : mk m n = (m * m - n * n, 2 * m * n, m * m + n * n, true) := by
  unfold mk; exact if_pos ⟨hm, hm1, hn, hn1, ht⟩
theorem mk_no {m n : Int} (h : ¬ (2 ≤ m ∧ m ≤ 316 ∧ 1 ≤ n ∧ n < m ∧ tri (m * m - n * n) (2 * m * n) (m * m + n * n) = true)) : mk m n = (0, 0, 0, false) := by
  unfold mk; exact if_neg h
theorem mul_bd {a b : Int} (ha : 0 ≤ a) (ha1 : a ≤ 1000) (hb : 0 ≤ b) (hb1 : b ≤ 1000) : 0 ≤ a * b ∧ a * b ≤ 1000000 :=
  ⟨Int.mul_nonneg ha hb, by have := Int.mul_le_mul ha1 hb1 hb (by omega); omega⟩
theorem mk_wraps {m n : Int} (hm : 2 ≤ m) (hm1 : m ≤ 316) (hn : 1 ≤ n) (hn1 : n < m) :
    wrap64 (wrap64 (m * m) - wrap64 (n * n)) = m * m - n * n ∧ wrap64 (wrap64 (2 * m) * n) = 2 * m * n ∧ wrap64 (wrap64 (m * m) + wrap64 (n * n)) = m * m + n * n := by
  have h1 := mul_bd (a := m) (b := m) (by omega) (by omega) (by omega) (by omega)
  have h2 := mul_bd (a := n) (b := n) (by omega) (by omega) (by omega) (by omega)
  have h3 := mul_bd (a := 2 * m) (b := n) (by omega) (by omega) (by omega) (by omega)
  rw [w64 (a := m * m) (by omega) (by omega), w64 (a := n * n) (by omega) (by omega), w64 (a := 2 * m) (by omega) (by omega)]
  exact ⟨w64 (by omega) (by omega), w64 (by omega) (by omega), w64 (by omega) (by omega)⟩
/-- Two numbers without a common divisor whose product is a square are squares. -/
theorem sq_of_mul {u v w : Nat} (h : u * v = w * w) (hg : Nat.gcd u v = 1) : Nat.gcd u w * Nat.gcd u w = u := by
  have h1 : Nat.gcd u w ^ 2 = Nat.gcd (u ^ 2) (w ^ 2) := Nat.pow_gcd_pow.symm
  rw [Nat.pow_two, Nat.pow_two, Nat.pow_two, ← h, Nat.gcd_mul_left, hg, Nat.mul_one] at h1
  exact h1
/-- A triple is made of two integers. -/
theorem tri_param {a b c : Int} (h : tri a b c = true) :
    ∃ m n : Int, 1 ≤ n ∧ n < m ∧ m ≤ 316 ∧ a = m * m - n * n ∧ b = 2 * m * n ∧ c = m * m + n * n ∧ (m + n) % 2 = 1 ∧ Nat.gcd m.natAbs n.natAbs = 1 := by
  unfold tri at h
  obtain ⟨ha, _, hb, _, hc, hc1, he, hao, hbe, hg⟩ := of_decide_eq_true h
  have hca : a < c := by
    refine Decidable.byContradiction fun hn => ?_
    have h1 : c * c ≤ a * a := Int.mul_le_mul (by omega) (by omega) (by omega) (by omega)
    have h2 : 1 * 1 ≤ b * b := Int.mul_le_mul hb hb (by omega) (by omega)
    omega
  have hco : c % 2 = 1 := by
    have h1 : (c * c) % 2 = 1 := by
      rw [← he, Int.add_emod, Int.mul_emod a a, Int.mul_emod b b, hao, hbe]; rfl
    rcases Int.emod_two_eq c with h2 | h2
    · rw [Int.mul_emod, h2] at h1; simp at h1
    · exact h2
  obtain ⟨u, hu⟩ : ∃ u : Nat, (u : Int) = (c + a) / 2 := ⟨((c + a) / 2).toNat, Int.toNat_of_nonneg (by omega)⟩
  obtain ⟨v, hv⟩ : ∃ v : Nat, (v : Int) = (c - a) / 2 := ⟨((c - a) / 2).toNat, Int.toNat_of_nonneg (by omega)⟩
  obtain ⟨w, hw⟩ : ∃ w : Nat, (w : Int) = b / 2 := ⟨(b / 2).toNat, Int.toNat_of_nonneg (by omega)⟩
  have ea : a = u - v := by omega
  have ec : c = u + v := by omega
  have eb : b = 2 * w := by omega
  have huv : u * v = w * w := by
    have h1 : ((u : Int) - v) * (u - v) + 2 * w * (2 * w) = (u + v) * (u + v) := by rw [← ea, ← ec, ← eb]; exact he
    have h2 : (u : Int) * v = w * w := by grind
    exact_mod_cast h2
  have hguv : Nat.gcd u v = 1 := by
    have hd1 : Nat.gcd u v ∣ a.natAbs := by
      have h1 : ((Nat.gcd u v : Nat) : Int) ∣ a := by
        rw [ea]; exact Int.dvd_sub (Int.natCast_dvd_natCast.2 (Nat.gcd_dvd_left u v)) (Int.natCast_dvd_natCast.2 (Nat.gcd_dvd_right u v))
      simpa using Int.natAbs_dvd_natAbs.2 h1
    have hd2 : Nat.gcd u v ∣ w := by
      obtain ⟨x, hx⟩ := Nat.gcd_dvd_left u v
      obtain ⟨y, hy⟩ := Nat.gcd_dvd_right u v
      have h2 : Nat.gcd u v ^ 2 ∣ w ^ 2 := ⟨x * y, by rw [Nat.pow_two, Nat.pow_two, ← huv]; generalize Nat.gcd u v = g at *; rw [hx, hy]; grind⟩
      exact (Nat.pow_dvd_pow_iff (by decide)).1 h2
    have hd3 : Nat.gcd u v ∣ b.natAbs := by
      have h1 : b.natAbs = 2 * w := by omega
      rw [h1]; exact Nat.dvd_trans hd2 ⟨2, by omega⟩
    have := Nat.dvd_gcd hd1 hd3
    rw [hg] at this
    exact Nat.dvd_one.1 this
  have hm := sq_of_mul huv hguv
  have hn := sq_of_mul (u := v) (v := u) (w := w) (by rw [Nat.mul_comm]; exact huv) (by rw [Nat.gcd_comm]; exact hguv)
  generalize hM : Nat.gcd u w = m at *
  generalize hN : Nat.gcd v w = n at *
  have hvpos : 0 < v := by omega
  have hn0 : 1 ≤ n := by
    rcases Nat.eq_zero_or_pos n with rfl | h0
    · omega
    · exact h0
  have hmn : n < m := by
    refine Decidable.byContradiction fun hx => ?_
    have : m * m ≤ n * n := Nat.mul_le_mul (by omega) (by omega)
    omega
  have hwmn : w = m * n := by
    have h1 : w * w = (m * n) * (m * n) := by rw [← huv, ← hm, ← hn]; grind
    exact Nat.mul_self_inj.1 h1
  have hm316 : m ≤ 316 := by
    refine Decidable.byContradiction fun hx => ?_
    have : 317 * 317 ≤ m * m := Nat.mul_le_mul (by omega) (by omega)
    omega
  have hpar : (m + n) % 2 = 1 := by
    have h1 : ((u : Int) + v) % 2 = 1 := by rw [← ec]; exact hco
    have h2 : (m * m + n * n) % 2 = 1 := by omega
    rcases Nat.mod_two_eq_zero_or_one m with a1 | a1 <;> rcases Nat.mod_two_eq_zero_or_one n with a2 | a2 <;> rw [Nat.add_mod, Nat.mul_mod m m, Nat.mul_mod n n, a1, a2] at h2 <;> simp at h2 <;> omega
  refine ⟨m, n, by omega, by omega, by omega, ?_, ?_, ?_, by omega, ?_⟩
  · rw [ea, ← hm, ← hn]; simp
  · rw [eb, hwmn]; simp [Int.mul_assoc]
  · rw [ec, ← hm, ← hn]; simp
  · have h1 : Nat.gcd m n ∣ Nat.gcd u v := Nat.dvd_gcd (by rw [← hm]; exact Nat.dvd_trans (Nat.gcd_dvd_left m n) ⟨m, rfl⟩) (by rw [← hn]; exact Nat.dvd_trans (Nat.gcd_dvd_right m n) ⟨n, rfl⟩)
    rw [hguv] at h1
    simpa using Nat.dvd_one.1 h1
/-- m and n make a triple. -/
theorem tri_of {m n : Int} (hn : 1 ≤ n) (hmn : n < m) (hp : (m + n) % 2 = 1) (hg : Nat.gcd m.natAbs n.natAbs = 1) (hc : m * m + n * n ≤ 100000) :
    tri (m * m - n * n) (2 * m * n) (m * m + n * n) = true := by
  have h1 : n * n < m * m := Int.lt_of_lt_of_le (Int.mul_lt_mul_of_pos_right hmn (by omega)) (Int.mul_le_mul_of_nonneg_left (by omega) (by omega))
  have h2 : 1 ≤ n * n := Int.mul_pos (by omega) (by omega)
  have h3 : 1 ≤ m * n := Int.mul_pos (by omega) (by omega)
  have h5 : (m - n) * (m - n) = m * m - 2 * m * n + n * n := by grind
  have h6 : 0 < (m - n) * (m - n) := Int.mul_pos (by omega) (by omega)
  have h7 : 2 * m * n = 2 * (m * n) := by grind
  have hodd : (m * m - n * n) % 2 = 1 := by
    rw [show m * m - n * n = (m + n) * (m - n) by grind, Int.mul_emod, hp]
    have : (m - n) % 2 = 1 := by omega
    rw [this]; rfl
  refine decide_eq_true ⟨by omega, by omega, by omega, by omega, by omega, hc, by grind, hodd, by rw [h7]; omega, ?_⟩
  obtain ⟨M, hM⟩ : ∃ M : Nat, (M : Int) = m := ⟨m.toNat, by omega⟩
  obtain ⟨N, hN⟩ : ∃ N : Nat, (N : Int) = n := ⟨n.toNat, by omega⟩
  subst hM hN
  have hg' : Nat.gcd M N = 1 := by simpa using hg
  obtain ⟨D, hD⟩ : ∃ D : Nat, M = N + D := ⟨M - N, by omega⟩
  have e1 : ((M : Int) * M - N * N).natAbs = D * (M + N) := by
    rw [show (M : Int) * M - N * N = ((D * (M + N) : Nat) : Int) by rw [hD]; simp; grind]
    exact Int.natAbs_natCast _
  have e2 : (2 * (M : Int) * N).natAbs = 2 * (M * N) := by
    rw [show 2 * (M : Int) * N = ((2 * (M * N) : Nat) : Int) by simp; grind]
    exact Int.natAbs_natCast _
  rw [e1, e2]
  have one : ∀ {a b c d : Nat}, (∀ x : Nat, x ∣ a → x ∣ b → x ∣ c ∧ x ∣ d) → Nat.gcd c d = 1 → Nat.gcd a b = 1 := by
    intro a b c d h1 h2
    have h3 := h1 _ (Nat.gcd_dvd_left a b) (Nat.gcd_dvd_right a b)
    have h4 := Nat.dvd_gcd h3.1 h3.2
    rw [h2] at h4
    exact Nat.dvd_one.1 h4
  have gDN : Nat.gcd D N = 1 := one (fun x ha hb => ⟨by rw [hD]; exact Nat.dvd_add hb ha, hb⟩) hg'
  have gDM : Nat.gcd D M = 1 := one (fun x ha hb => ⟨hb, (Nat.dvd_add_left ha).1 (by rw [← hD]; exact hb)⟩) hg'
  have gSN : Nat.gcd (M + N) N = 1 := one (fun x ha hb => ⟨(Nat.dvd_add_left hb).1 ha, hb⟩) hg'
  have gSM : Nat.gcd (M + N) M = 1 := one (fun x ha hb => ⟨hb, (Nat.dvd_add_right hb).1 ha⟩) hg'
  have g2 : ∀ x : Nat, x % 2 = 1 → Nat.gcd x 2 = 1 := by
    intro x hx
    rw [Nat.gcd_comm, Nat.gcd_rec, hx]; rfl
  have gD2 := g2 D (by omega)
  have gS2 := g2 (M + N) (by omega)
  have a1 : Nat.Coprime D (2 * (M * N)) := Nat.Coprime.mul_right gD2 (Nat.Coprime.mul_right gDM gDN)
  have a2 : Nat.Coprime (M + N) (2 * (M * N)) := Nat.Coprime.mul_right gS2 (Nat.Coprime.mul_right gSM gSN)
  exact Nat.Coprime.mul_left a1 a2
/-- The parent of what m and n make, and its number. -/
def par (m n : Int) : Int × Int × Int × Int × Bool :=
  if m < 2 * n then (if (mk n (2 * n - m)).2.2.2 = true then ((mk n (2 * n - m)).1, (mk n (2 * n - m)).2.1, (mk n (2 * n - m)).2.2.1, 0, true) else (0, 0, 0, 0, false))
  else if m < 3 * n then (if (mk n (m - 2 * n)).2.2.2 = true then ((mk n (m - 2 * n)).1, (mk n (m - 2 * n)).2.1, (mk n (m - 2 * n)).2.2.1, 1, true) else (0, 0, 0, 0, false))
  else (if (mk (m - 2 * n) n).2.2.2 = true then ((mk (m - 2 * n) n).1, (mk (m - 2 * n) n).2.1, (mk (m - 2 * n) n).2.2.1, 2, true) else (0, 0, 0, 0, false))
theorem mk_ok {m n : Int} (h : (mk m n).2.2.2 = true) : 2 ≤ m ∧ m ≤ 316 ∧ 1 ≤ n ∧ n < m ∧ tri (m * m - n * n) (2 * m * n) (m * m + n * n) = true ∧ mk m n = (m * m - n * n, 2 * m * n, m * m + n * n, true) := by
  by_cases h1 : 2 ≤ m ∧ m ≤ 316 ∧ 1 ≤ n ∧ n < m ∧ tri (m * m - n * n) (2 * m * n) (m * m + n * n) = true
  · exact ⟨h1.1, h1.2.1, h1.2.2.1, h1.2.2.2.1, h1.2.2.2.2, mk_yes h1.1 h1.2.1 h1.2.2.1 h1.2.2.2.1 h1.2.2.2.2⟩
  · rw [mk_no h1] at h; simp at h
theorem gcd_sub2 {m n : Int} (k : Int) (hg : Nat.gcd m.natAbs n.natAbs = 1) : Nat.gcd n.natAbs (m - k * n).natAbs = 1 := by
  have h1 : ((Nat.gcd n.natAbs (m - k * n).natAbs : Nat) : Int) ∣ n := Int.dvd_trans (Int.natCast_dvd_natCast.2 (Nat.gcd_dvd_left _ _)) Int.natAbs_dvd_self
  have h2 : ((Nat.gcd n.natAbs (m - k * n).natAbs : Nat) : Int) ∣ m - k * n := Int.dvd_trans (Int.natCast_dvd_natCast.2 (Nat.gcd_dvd_right _ _)) Int.natAbs_dvd_self
  have h3 : ((Nat.gcd n.natAbs (m - k * n).natAbs : Nat) : Int) ∣ m := by
    have := Int.dvd_add h2 (Int.dvd_trans h1 ⟨k, Int.mul_comm k n⟩)
    rwa [show m - k * n + k * n = m by omega] at this
  have h4 := Int.natAbs_dvd_natAbs.2 h1
  have h5 := Int.natAbs_dvd_natAbs.2 h3
  rw [Int.natAbs_natCast] at h4 h5
  have h6 := Nat.dvd_gcd h5 h4
  rw [hg] at h6
  exact Nat.dvd_one.1 h6
/-- The parent of a triple: there is none of 3, 4, 5 alone; it is made of smaller integers. -/
theorem par_fine {m n : Int} (hn : 1 ≤ n) (hmn : n < m) (hm : m ≤ 316) (hp : (m + n) % 2 = 1) (hg : Nat.gcd m.natAbs n.natAbs = 1) (hc : m * m + n * n ≤ 100000) :
    (m = 2 ∧ n = 1 ∧ par m n = (0, 0, 0, 0, false)) ∨ ∃ x y k : Int, (k = 0 ∧ m = 2 * x - y ∧ n = x ∨ k = 1 ∧ m = 2 * x + y ∧ n = x ∨ k = 2 ∧ m = x + 2 * y ∧ n = y) ∧ 1 ≤ y ∧ y < x ∧ x ≤ 316 ∧ x * x + y * y < m * m + n * n ∧
      tri (x * x - y * y) (2 * x * y) (x * x + y * y) = true ∧ par m n = (x * x - y * y, 2 * x * y, x * x + y * y, k, true) := by
  have hnm : n * n < m * m := Int.lt_of_lt_of_le (Int.mul_lt_mul_of_pos_right hmn (by omega)) (Int.mul_le_mul_of_nonneg_left (by omega) (by omega))
  have sq : ∀ {a b : Int}, 0 ≤ a → a < b → a * a < b * b := fun {a b} h0 h => by
    rcases (by omega : a = 0 ∨ 0 < a) with rfl | h1
    · have := Int.mul_pos h h; omega
    · exact Int.lt_of_lt_of_le (Int.mul_lt_mul_of_pos_right h h1) (Int.mul_le_mul_of_nonneg_left (by omega) (by omega))
  unfold par
  by_cases h1 : m < 2 * n
  · refine .inr ⟨n, 2 * n - m, 0, .inl ⟨rfl, by omega, rfl⟩, by omega, by omega, by omega, ?_, ?_, ?_⟩
    · have := sq (a := 2 * n - m) (b := n) (by omega) (by omega); omega
    · have := sq (a := 2 * n - m) (b := n) (by omega) (by omega)
      have g := gcd_sub2 2 hg
      exact tri_of (by omega) (by omega) (by omega) (by rw [show 2 * n - m = -(m - 2 * n) by omega, Int.natAbs_neg]; exact g) (by omega)
    · have := sq (a := 2 * n - m) (b := n) (by omega) (by omega)
      have g := gcd_sub2 2 hg
      have t := tri_of (m := n) (n := 2 * n - m) (by omega) (by omega) (by omega) (by rw [show 2 * n - m = -(m - 2 * n) by omega, Int.natAbs_neg]; exact g) (by omega)
      rw [if_pos h1, mk_yes (m := n) (n := 2 * n - m) (by omega) (by omega) (by omega) (by omega) t, if_pos rfl]
  · rw [if_neg h1]
    by_cases h2 : m < 3 * n
    · rw [if_pos h2]
      by_cases h3 : m = 2 * n
      · have hn1 : n = 1 := by
          have : Nat.gcd m.natAbs n.natAbs = n.natAbs := by rw [h3]; exact Nat.gcd_eq_right ⟨2, by omega⟩
          omega
        refine .inl ⟨by omega, hn1, ?_⟩
        rw [mk_no (by omega), if_neg (by simp)]
      · have hs := sq (a := m - 2 * n) (b := n) (by omega) (by omega)
        have g := gcd_sub2 2 hg
        have t := tri_of (m := n) (n := m - 2 * n) (by omega) (by omega) (by omega) g (by omega)
        refine .inr ⟨n, m - 2 * n, 1, .inr (.inl ⟨rfl, by omega, rfl⟩), by omega, by omega, by omega, by omega, t, ?_⟩
        rw [mk_yes (m := n) (n := m - 2 * n) (by omega) (by omega) (by omega) (by omega) t, if_pos rfl]
    · rw [if_neg h2]
      have h3 : m ≠ 3 * n := fun h => by omega
      have hs := sq (a := m - 2 * n) (b := m) (by omega) (by omega)
      have g := gcd_sub2 2 hg
      have t := tri_of (m := m - 2 * n) (n := n) (by omega) (by omega) (by omega) (by rw [Nat.gcd_comm]; exact g) (by omega)
      refine .inr ⟨m - 2 * n, n, 2, .inr (.inr ⟨rfl, by omega, rfl⟩), by omega, by omega, by omega, by omega, t, ?_⟩
      rw [mk_yes (m := m - 2 * n) (n := n) (by omega) (by omega) (by omega) (by omega) t, if_pos rfl]
end Go.Proofs.Ytpmhninmblgjoaa.Aid
