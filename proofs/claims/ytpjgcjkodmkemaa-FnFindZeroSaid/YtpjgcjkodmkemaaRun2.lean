/- The reader behind the code's end: a number that is not 1 is never far. No program in sight. -/
import Derived.Test.YtpjgcjkodmkemaaAid
namespace Go.Proofs.Ytpjgcjkodmkemaa.Aid
open Go.RowKit Go.Proofs.YtpjgcjkodmkemaaW.PrintWords Go.Proofs.YtpjgcjkodmkemaaW.PrintLast Go.Proofs.YtpjgcjkodmkemaaW.PrintMore
def fx (x : Nat) : Nat := x ^^^ x / 64
theorem xor_parts (e a b c d : Nat) (ha : a < 2 ^ e) (hc : c < 2 ^ e) : (2 ^ e * b + a) ^^^ (2 ^ e * d + c) = 2 ^ e * (b ^^^ d) + (a ^^^ c) := by
  apply Nat.eq_of_testBit_eq
  intro i
  have hx : a ^^^ c < 2 ^ e := Nat.xor_lt_two_pow ha hc
  rw [Nat.testBit_xor, Nat.testBit_two_pow_mul_add _ ha, Nat.testBit_two_pow_mul_add _ hc, Nat.testBit_two_pow_mul_add _ hx]
  by_cases h : i < e
  · rw [if_pos h, if_pos h, if_pos h, Nat.testBit_xor]
  · rw [if_neg h, if_neg h, if_neg h, Nat.testBit_xor]
theorem pow_cop (e z : Nat) (h : 5 ∣ 2 ^ e * z) : 5 ∣ z := by
  have : Nat.Coprime 5 (2 ^ e) := Nat.Coprime.pow_right e (by decide)
  exact this.dvd_of_dvd_mul_left h
theorem mixed_step {s : List Int} (hL : 1 ≤ s.length) (p j : Nat) : mixed s (p + 4 * (s.length * j)) = mixed s p + 4 * (29 * s.length + 53) * j := by
  have e0 : 4 * (s.length * j) = s.length * (4 * j) := by rw [Nat.mul_left_comm]
  have e1 : (p + 4 * (s.length * j)) % s.length = p % s.length := by rw [e0, Nat.add_mul_mod_self_left]
  have e2 : ((p + 4 * (s.length * j)) * 7 + 3) % s.length = (p * 7 + 3) % s.length := by
    rw [show (p + 4 * (s.length * j)) * 7 + 3 = p * 7 + 3 + s.length * (28 * j) by rw [e0, Nat.add_mul, Nat.mul_assoc, show 4 * j * 7 = 28 * j by omega]; omega, Nat.add_mul_mod_self_left]
  have e3 : (p + 4 * (s.length * j)) / s.length = p / s.length + 4 * j := by rw [e0, Nat.add_mul_div_left _ _ (by omega)]
  have e4 : 4 * (29 * s.length + 53) * j = 4 * (s.length * j) * 29 + 4 * j * 53 := by
    rw [Nat.mul_add, Nat.add_mul, show 4 * (29 * s.length) * j = 4 * (s.length * j) * 29 by rw [Nat.mul_left_comm 4 29, Nat.mul_assoc 29, Nat.mul_comm 29, Nat.mul_assoc 4]]; omega
  unfold mixed
  rw [e1, e2, e3, e4]
  omega
theorem pickv_40 {s : List Int} {p : Nat} (hL : 1 ≤ s.length) (hp : s.length ≤ p) : pickv s p 40 = fx (mixed s p) % 40 := by
  unfold pickv fx
  rw [if_neg (by omega), if_neg (by omega)]
def gK (y lh : Nat) : Nat := ((64 * y + lh) ^^^ y) % 5
def look (c lh k0 : Nat) : Nat → Nat → Bool
  | 0, _ => false
  | f + 1, y => gK y lh != k0 || look c lh k0 f (y + c)
def CS : List Nat := [1, 31, 15, 89, 59, 147, 11, 205, 117, 263, 73, 321, 175, 379, 51, 437]
def chkK : Bool := CS.all fun c => (List.range c).all fun y => (List.range 64).all fun lh => look c lh (gK y lh) 66 (y + c)
theorem chkK_true : chkK = true := by decide +kernel
theorem look_some {c lh k0 : Nat} : ∀ (f y : Nat), look c lh k0 f y = true → ∃ j, j < f ∧ gK (y + c * j) lh ≠ k0
  | 0, y, h => by cases h
  | f + 1, y, h => by
    unfold look at h
    rw [Bool.or_eq_true, bne_iff_ne] at h
    rcases h with h | h
    · exact ⟨0, by omega, by simpa using h⟩
    · obtain ⟨j, h1, h2⟩ := look_some f (y + c) h
      exact ⟨j + 1, by omega, by rwa [Nat.mul_succ, Nat.add_comm (c * j) c, ← Nat.add_assoc]⟩
theorem turn {c y lh : Nat} (hc : c ∈ CS) (hy : y < c) (hl : lh < 64) : ∃ j, j ≤ 66 ∧ gK (y + c * j) lh ≠ gK y lh := by
  have t := List.all_eq_true.1 (List.all_eq_true.1 (List.all_eq_true.1 chkK_true c hc) y (List.mem_range.2 hy)) lh (List.mem_range.2 hl)
  obtain ⟨j, h1, h2⟩ := look_some _ _ t
  exact ⟨j + 1, by omega, by rwa [Nat.mul_succ, Nat.add_comm (c * j) c, ← Nat.add_assoc]⟩
def stepB (L : Nat) : Bool := L == 0 || [2, 3, 4, 5, 6, 7, 8].any (fun a => 4 * (29 * L + 53) % 2 ^ (a + 1) == 2 ^ a) || [9, 10, 11, 12, 13].any (fun a => CS.any (fun c => 4 * (29 * L + 53) == 2 ^ a * c))
theorem stepB_all : (List.range 2001).all stepB = true := by decide +kernel
theorem step_of {L : Nat} (h1 : 1 ≤ L) (h2 : L ≤ 2000) : (∃ a q, 2 ≤ a ∧ a ≤ 8 ∧ 4 * (29 * L + 53) = 2 ^ a * (2 * q + 1)) ∨ ∃ a c, 9 ≤ a ∧ a ≤ 13 ∧ c ∈ CS ∧ 4 * (29 * L + 53) = 2 ^ a * c := by
  have t := List.all_eq_true.1 stepB_all L (List.mem_range.2 (by omega))
  unfold stepB at t
  rw [Bool.or_eq_true, Bool.or_eq_true, beq_iff_eq, List.any_eq_true, List.any_eq_true] at t
  rcases t with (t | ⟨a, ha, t⟩) | ⟨a, ha, t⟩
  · omega
  · rw [beq_iff_eq] at t
    refine .inl ⟨a, 4 * (29 * L + 53) / 2 ^ (a + 1), ?_, ?_, ?_⟩
    · simp at ha; omega
    · simp at ha; omega
    · have := Nat.div_add_mod (4 * (29 * L + 53)) (2 ^ (a + 1))
      rw [t, Nat.pow_succ] at this
      rw [Nat.pow_succ]
      rw [← this]
      grind
  · rw [List.any_eq_true] at t
    obtain ⟨c, hc, t⟩ := t
    rw [beq_iff_eq] at t
    simp at ha
    exact .inr ⟨a, c, by omega, by omega, hc, t⟩
theorem near_bit {x q : Nat} (h : fx x % 40 = 1) : fx (x + 256 * (2 * q + 1)) % 40 ≠ 1 := by
  intro h'
  have b : ∀ z : Nat, fx z % 40 = 1 → (z / 4 % 2 == 1) = (z / 256 % 2 == 1) := by
    intro z hz
    have h1 : (fx z).testBit 2 = false := by
      rw [Nat.testBit_eq_decide_div_mod_eq]
      have : fx z / 2 ^ 2 % 2 = 0 := by omega
      rw [this]; rfl
    unfold fx at h1
    rw [Nat.testBit_xor, Nat.testBit_eq_decide_div_mod_eq, Nat.testBit_eq_decide_div_mod_eq] at h1
    rw [show z / 64 / 2 ^ 2 = z / 256 by omega, show z / 2 ^ 2 = z / 4 by rfl] at h1
    have h2 : decide (z / 4 % 2 = 1) = decide (z / 256 % 2 = 1) := by
      generalize decide (z / 4 % 2 = 1) = u at *
      generalize decide (z / 256 % 2 = 1) = v at *
      cases u <;> cases v <;> first | rfl | cases h1
    exact h2
  have e1 := b _ h
  have e2 := b _ h'
  rw [show (x + 256 * (2 * q + 1)) / 4 % 2 = x / 4 % 2 by omega] at e2
  rw [e1] at e2
  have : (x + 256 * (2 * q + 1)) / 256 % 2 = 1 - x / 256 % 2 := by omega
  rw [this] at e2
  rcases Nat.mod_two_eq_zero_or_one (x / 256) with k | k <;> rw [k] at e2 <;> cases e2
theorem fx_cut (e y l : Nat) (hl : l < 2 ^ (e + 6)) : fx (2 ^ (e + 6) * y + l) = 2 ^ e * ((64 * y + l / 2 ^ e) ^^^ y) + ((l % 2 ^ e) ^^^ (l / 64)) := by
  have p6 : 2 ^ (e + 6) = 2 ^ e * 64 := by rw [Nat.pow_add]
  have h0 : 0 < 2 ^ e := Nat.pow_pos (by omega)
  have h1 : l / 64 < 2 ^ e := by rw [Nat.div_lt_iff_lt_mul (by omega)]; omega
  have e1 : (2 ^ (e + 6) * y + l) / 64 = 2 ^ e * y + l / 64 := by
    rw [p6, Nat.mul_comm (2 ^ e) 64, Nat.mul_assoc, Nat.mul_add_div (by omega)]
  have e2 : 2 ^ (e + 6) * y + l = 2 ^ e * (64 * y + l / 2 ^ e) + l % 2 ^ e := by
    rw [Nat.mul_add, ← Nat.mul_assoc, ← p6, Nat.add_assoc, Nat.div_add_mod]
  unfold fx
  rw [e1, e2]
  exact xor_parts e _ _ _ _ (Nat.mod_lt _ h0) h1
theorem win (T u lh : Nat) (hu : u < 65536) (hl : lh < 64) : (64 * (4194304 * T + u) + lh) ^^^ (4194304 * T + u) = 4194304 * ((64 * T) ^^^ T) + ((64 * u + lh) ^^^ u) := by
  have := xor_parts 22 (64 * u + lh) (64 * T) u T (by show _ < 4194304; omega) (by show _ < 4194304; omega)
  rw [show (2 : Nat) ^ 22 = 4194304 by decide] at this
  rw [← this]
  congr 1
  omega
theorem far_turn {a c x : Nat} (ha : 9 ≤ a) (hc : c ∈ CS) : ∃ j, j ≤ 4194400 ∧ fx (x + 2 ^ a * c * j) % 40 ≠ 1 := by
  obtain ⟨e, rfl⟩ : ∃ e, a = e + 6 := ⟨a - 6, by omega⟩
  have hcb : 1 ≤ c ∧ c ≤ 437 := by
    have : ∀ z ∈ CS, 1 ≤ z ∧ z ≤ 437 := by decide
    exact this c hc
  have h0 : 0 < 2 ^ (e + 6) := Nat.pow_pos (by omega)
  have h0e : 0 < 2 ^ e := Nat.pow_pos (by omega)
  generalize hy : x / 2 ^ (e + 6) = y
  generalize hl : x % 2 ^ (e + 6) = l
  have hll : l < 2 ^ (e + 6) := by rw [← hl]; exact Nat.mod_lt _ h0
  have hx : x = 2 ^ (e + 6) * y + l := by rw [← hy, ← hl]; exact (Nat.div_add_mod _ _).symm
  have hlh : l / 2 ^ e < 64 := by rw [Nat.div_lt_iff_lt_mul h0e]; rw [Nat.pow_add] at hll; omega
  obtain ⟨j0, T, u, hj0, hu, e0⟩ : ∃ j0 T u, j0 ≤ 4194304 ∧ u < c ∧ y + c * j0 = 4194304 * T + u := by
    by_cases h : y % 4194304 < c
    · exact ⟨0, y / 4194304, y % 4194304, by omega, h, by omega⟩
    · have h1 := Nat.div_add_mod (4194304 - y % 4194304 + (c - 1)) c
      have h2 := Nat.mod_lt (4194304 - y % 4194304 + (c - 1)) (show 0 < c by omega)
      have h3 : (4194304 - y % 4194304 + (c - 1)) / c ≤ 4194304 := by
        refine Nat.div_le_of_le_mul ?_
        have : 4194304 - y % 4194304 + (c - 1) ≤ 4194304 := by omega
        exact Nat.le_trans this (Nat.le_mul_of_pos_left _ (by omega))
      generalize hq : (4194304 - y % 4194304 + (c - 1)) / c = q at *
      generalize (4194304 - y % 4194304 + (c - 1)) % c = r at *
      refine ⟨q, y / 4194304 + 1, (c - 1) - r, h3, by omega, ?_⟩
      generalize c * q = m at *
      omega
  obtain ⟨j, hj, ht⟩ := turn hc hu hlh
  have hcj : c * j ≤ 437 * 66 := Nat.mul_le_mul hcb.2 hj
  have val : ∀ i, i = 0 ∨ i = j → fx (x + 2 ^ (e + 6) * c * (j0 + i)) = 2 ^ e * (4194304 * ((64 * T) ^^^ T) + ((64 * (u + c * i) + l / 2 ^ e) ^^^ (u + c * i))) + ((l % 2 ^ e) ^^^ (l / 64)) := by
    intro i hi
    have hb : c * i ≤ 437 * 66 := by rcases hi with rfl | rfl; simp; exact hcj
    rw [← win T (u + c * i) (l / 2 ^ e) (by omega) hlh, ← fx_cut e _ l hll]
    congr 1
    rw [hx, show 4194304 * T + (u + c * i) = y + c * j0 + c * i by omega, Nat.mul_assoc, Nat.mul_add c, Nat.mul_add, Nat.mul_add, Nat.mul_add]
    omega
  by_cases k0 : fx (x + 2 ^ (e + 6) * c * (j0 + 0)) % 40 = 1
  · refine ⟨j0 + j, by omega, fun k1 => ht ?_⟩
    rw [val 0 (.inl rfl)] at k0
    rw [val j (.inr rfl)] at k1
    rw [Nat.mul_zero, Nat.add_zero] at k0
    unfold gK
    generalize (64 * (u + c * j) + l / 2 ^ e) ^^^ (u + c * j) = A at *
    generalize (64 * u + l / 2 ^ e) ^^^ u = B at *
    generalize 4194304 * ((64 * T) ^^^ T) = D at *
    generalize (l % 2 ^ e) ^^^ (l / 64) = F at *
    have m : (2 ^ e * (D + A) + F) % 5 = (2 ^ e * (D + B) + F) % 5 := by omega
    have go : ∀ A B : Nat, A ≤ B → (2 ^ e * (D + A) + F) % 5 = (2 ^ e * (D + B) + F) % 5 → A % 5 = B % 5 := by
      intro A B hAB hm
      obtain ⟨z, rfl⟩ : ∃ z, B = A + z := ⟨B - A, by omega⟩
      have e3 : 2 ^ e * (D + (A + z)) + F = (2 ^ e * (D + A) + F) + 2 ^ e * z := by rw [← Nat.add_assoc, Nat.mul_add]; omega
      rw [e3] at hm
      have h5 : 5 ∣ 2 ^ e * z := by
        rw [Nat.dvd_iff_mod_eq_zero]; omega
      have := pow_cop e z h5
      omega
    rcases Nat.le_total A B with h | h
    · exact go A B h m
    · exact (go B A h m.symm).symm
  · exact ⟨j0 + 0, by omega, k0⟩
theorem far_some {s : List Int} (hs : IsCode s) (p : Nat) : ∃ i, 4 * i ≤ 40000000000 ∧ pickv s (p + 3 + 4 * i) 40 ≠ 1 := by
  rcases Nat.eq_zero_or_pos s.length with h | h
  · exact ⟨0, by omega, by unfold pickv; rw [if_pos h]; decide⟩
  · have hl := hs.1
    have key : ∃ j, j ≤ 4194400 ∧ fx (mixed s (p + 3 + 4 * 501) + 4 * (29 * s.length + 53) * j) % 40 ≠ 1 := by
      rcases step_of h hl with ⟨a, q, a2, a8, e⟩ | ⟨a, c, a9, _, hc, e⟩
      · by_cases k : fx (mixed s (p + 3 + 4 * 501)) % 40 = 1
        · refine ⟨2 ^ (8 - a), ?_, ?_⟩
          · have : 2 ^ (8 - a) ≤ 2 ^ 8 := Nat.pow_le_pow_right (by omega) (by omega)
            omega
          · have e2 : 4 * (29 * s.length + 53) * 2 ^ (8 - a) = 256 * (2 * q + 1) := by
              rw [e, Nat.mul_assoc, Nat.mul_comm (2 * q + 1), ← Nat.mul_assoc, ← Nat.pow_add, show a + (8 - a) = 8 by omega]
            rw [e2]; exact near_bit k
        · exact ⟨0, by omega, by rwa [Nat.mul_zero, Nat.add_zero]⟩
      · rw [e]; exact far_turn a9 hc
    obtain ⟨j, j1, j2⟩ := key
    rw [← mixed_step h, ← pickv_40 h (by omega)] at j2
    refine ⟨501 + s.length * j, ?_, ?_⟩
    · have := Nat.mul_le_mul hl j1
      omega
    · rw [show p + 3 + 4 * (501 + s.length * j) = p + 3 + 4 * 501 + 4 * (s.length * j) by omega]
      exact j2
end Go.Proofs.Ytpjgcjkodmkemaa.Aid
