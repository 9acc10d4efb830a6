/- Plain mathematics: the reader's numbers behind the code's end are not one number for ever. No program in sight. -/
import Derived.Test.YtpaohkhmhdhibaaVec
namespace Go.Proofs.Ytpaohkhmhdhibaa.Aid
open Go.RowKit Go.Proofs.YtpaohkhmhdhibaaW.PrintWords Go.Proofs.YtpaohkhmhdhibaaW.PrintLast Go.Proofs.YtpaohkhmhdhibaaW.PrintMore
theorem xor_parts (e a b c d : Nat) (ha : a < 2 ^ e) (hc : c < 2 ^ e) : (2 ^ e * b + a) ^^^ (2 ^ e * d + c) = 2 ^ e * (b ^^^ d) + (a ^^^ c) := by
  apply Nat.eq_of_testBit_eq
  intro i
  have hx : a ^^^ c < 2 ^ e := Nat.xor_lt_two_pow ha hc
  rw [Nat.testBit_xor, Nat.testBit_two_pow_mul_add _ ha, Nat.testBit_two_pow_mul_add _ hc, Nat.testBit_two_pow_mul_add _ hx]
  by_cases h : i < e
  · rw [if_pos h, if_pos h, if_pos h, Nat.testBit_xor]
  · rw [if_neg h, if_neg h, if_neg h, Nat.testBit_xor]
def fx (x : Nat) : Nat := x ^^^ x / 64
theorem fx_parts (e x y : Nat) (he : 6 ≤ e) (hx : x < 2 ^ (e + 6)) : ∃ r, fx (x + 2 ^ (e + 6) * y) = 2 ^ e * ((x / 2 ^ e + 64 * y) ^^^ y) + r ∧ fx x = 2 ^ e * (x / 2 ^ e) + r := by
  have p6 : 2 ^ (e + 6) = 2 ^ e * 64 := by rw [Nat.pow_add]
  have pe : 2 ^ e = 2 ^ (e - 6) * 64 := by rw [show e = (e - 6) + 6 by omega, Nat.pow_add]; simp
  have h0 : 0 < 2 ^ e := Nat.pow_pos (by omega)
  have hl : x % 2 ^ e < 2 ^ e := Nat.mod_lt _ h0
  have hd := Nat.div_add_mod x (2 ^ e)
  have hq : x / 64 < 2 ^ e := by rw [Nat.div_lt_iff_lt_mul (by omega)]; omega
  refine ⟨x % 2 ^ e ^^^ x / 64, ?_, ?_⟩
  · unfold fx
    have e1 : x + 2 ^ (e + 6) * y = 2 ^ e * (x / 2 ^ e + 64 * y) + x % 2 ^ e := by rw [p6, Nat.mul_add, Nat.mul_assoc]; omega
    have e2 : (x + 2 ^ (e + 6) * y) / 64 = 2 ^ e * y + x / 64 := by
      rw [p6, Nat.mul_assoc, Nat.mul_comm 64 y, ← Nat.mul_assoc, Nat.add_mul_div_right _ _ (by omega)]; omega
    rw [e2]
    rw [e1]
    exact xor_parts e _ _ _ _ hl hq
  · unfold fx
    have := xor_parts e (x % 2 ^ e) (x / 2 ^ e) (x / 64) 0 hl hq
    rw [Nat.mul_zero, Nat.zero_add, Nat.xor_zero, hd] at this
    exact this
theorem pow_cop (e z : Nat) (h : 5 ∣ 2 ^ e * z) : 5 ∣ z := by
  have : Nat.Coprime 5 (2 ^ e) := Nat.Coprime.pow_right e (by decide)
  exact this.dvd_of_dvd_mul_left h
theorem fx_rest (e x y : Nat) (he : 6 ≤ e) (hx : x < 2 ^ (e + 6)) (h : fx (x + 2 ^ (e + 6) * y) % 5 = fx x % 5) : ((x / 2 ^ e + 64 * y) ^^^ y) % 5 = (x / 2 ^ e) % 5 := by
  obtain ⟨r, h1, h2⟩ := fx_parts e x y he hx
  rw [h1, h2] at h
  generalize (x / 2 ^ e + 64 * y) ^^^ y = u at *
  generalize x / 2 ^ e = v at *
  rcases Nat.le_total u v with k | k
  · have : 2 ^ e * v = 2 ^ e * u + 2 ^ e * (v - u) := by rw [← Nat.mul_add]; congr 1; omega
    have := pow_cop e (v - u) (by omega)
    omega
  · have : 2 ^ e * u = 2 ^ e * v + 2 ^ e * (u - v) := by rw [← Nat.mul_add]; congr 1; omega
    have := pow_cop e (u - v) (by omega)
    omega
def stopAt (L xh m : Nat) : Bool :=
  let d := 29 * L + 53
  let g := Nat.gcd d 256
  let y := d / g * m
  decide (((xh + 64 * y) ^^^ y) % 5 ≠ xh % 5) && decide (L * (256 / g) * m ≤ 3400000)
def stopSome (L xh : Nat) : Nat → Nat → Bool
  | 0, _ => false
  | k + 1, m => stopAt L xh m || stopSome L xh k (m + 1)
def stopRow (L : Nat) : Nat → Bool
  | 0 => true
  | k + 1 => stopSome L k 70 1 && stopRow L k
def stopAll : Nat → Bool
  | 0 => true
  | L + 1 => stopRow (L + 1) 64 && stopAll L
theorem stop_all : stopAll 2000 = true := by decide +kernel
theorem stop_row {L : Nat} : ∀ {k x : Nat}, stopRow L k = true → x < k → stopSome L x 70 1 = true
  | k + 1, x, h, hx => by
    unfold stopRow at h
    rw [Bool.and_eq_true] at h
    rcases (by omega : x = k ∨ x < k) with rfl | hx
    · exact h.1
    · exact stop_row h.2 hx
theorem stop_of {n L : Nat} (h : stopAll n = true) (h0 : 1 ≤ L) (hL : L ≤ n) : stopRow L 64 = true := by
  induction n with
  | zero => omega
  | succ n ih =>
    unfold stopAll at h
    rw [Bool.and_eq_true] at h
    rcases (by omega : L = n + 1 ∨ L ≤ n) with rfl | hl
    · exact h.1
    · exact ih h.2 hl
theorem stop_some {L x : Nat} : ∀ {k m : Nat}, stopSome L x k m = true → ∃ m, stopAt L x m = true
  | k + 1, m, h => by
    unfold stopSome at h
    rw [Bool.or_eq_true] at h
    rcases h with h | h
    · exact ⟨m, h⟩
    · exact stop_some h
theorem mixed_step {s : List Int} (hL : 1 ≤ s.length) (p j : Nat) : mixed s (p + 4 * (s.length * j)) = mixed s p + 4 * (29 * s.length + 53) * j := by
  have e0 : 4 * (s.length * j) = s.length * (4 * j) := by rw [Nat.mul_left_comm]
  have e1 : (p + 4 * (s.length * j)) % s.length = p % s.length := by rw [e0, Nat.add_mul_mod_self_left]
  have e2 : ((p + 4 * (s.length * j)) * 7 + 3) % s.length = (p * 7 + 3) % s.length := by
    rw [show (p + 4 * (s.length * j)) * 7 + 3 = p * 7 + 3 + s.length * (28 * j) by rw [e0, Nat.add_mul, Nat.mul_assoc, show 4 * j * 7 = 28 * j by omega]; omega, Nat.add_mul_mod_self_left]
  have e3 : (p + 4 * (s.length * j)) / s.length = p / s.length + 4 * j := by rw [e0, Nat.add_mul_div_left _ _ (by omega)]
  have e4 : 4 * (29 * s.length + 53) * j = 4 * (s.length * j) * 29 + 4 * j * 53 := by
    rw [Nat.mul_add, Nat.add_mul, show 4 * (29 * s.length) * j = 4 * (s.length * j) * 29 by rw [Nat.mul_left_comm 4 29, Nat.mul_assoc 29, Nat.mul_comm 29, Nat.mul_assoc 4]]; omega
  unfold mixed
  rw [e1, e2, e3, e4]
  omega
theorem pickv_40 {s : List Int} {p : Nat} (hL : 1 ≤ s.length) (hp : s.length ≤ p) : pickv s p 40 = fx (mixed s p) % 40 := by
  unfold pickv fx
  rw [if_neg (by omega), if_neg (by omega)]
theorem far_one {s : List Int} (hs : IsCode s) (hL : 1 ≤ s.length) (e p : Nat) (he : 6 ≤ e) (hp : s.length ≤ p) (hx : mixed s p < 2 ^ (e + 6)) : ∃ k, k ≤ 13600000 * 2 ^ (e - 4) ∧ k % 4 = 0 ∧ ¬ (pickv s p 40 = 1 ∧ pickv s (p + k) 40 = 1) := by
  have hq : 2 ^ (e + 6) = 64 * 2 ^ e := by rw [Nat.pow_add, Nat.mul_comm]
  have h0 : 0 < 2 ^ e := Nat.pow_pos (by omega)
  have hxh : mixed s p / 2 ^ e < 64 := by rw [Nat.div_lt_iff_lt_mul h0]; omega
  obtain ⟨m, hm⟩ := stop_some (stop_row (stop_of stop_all hL hs.1) hxh)
  unfold stopAt at hm
  rw [Bool.and_eq_true] at hm
  obtain ⟨h1, h2⟩ := hm
  have h1 := of_decide_eq_true h1
  have h2 := of_decide_eq_true h2
  have hg : 0 < Nat.gcd (29 * s.length + 53) 256 := Nat.gcd_pos_of_pos_left _ (by omega)
  have hd := Nat.div_mul_cancel (Nat.gcd_dvd_left (29 * s.length + 53) 256)
  have h256 := Nat.div_mul_cancel (Nat.gcd_dvd_right (29 * s.length + 53) 256)
  generalize Nat.gcd (29 * s.length + 53) 256 = g at *
  generalize hd' : (29 * s.length + 53) / g = d at *
  generalize hu' : 256 / g = u at *
  refine ⟨4 * (s.length * (2 ^ (e - 4) * (u * m))), ?_, by omega, fun ⟨a, b⟩ => h1 ?_⟩
  · have : s.length * (2 ^ (e - 4) * (u * m)) = s.length * u * m * 2 ^ (e - 4) := by
      rw [Nat.mul_left_comm, Nat.mul_comm (2 ^ (e - 4)), ← Nat.mul_assoc s.length u m]
    rw [this]
    have := Nat.mul_le_mul_right (2 ^ (e - 4)) h2
    omega
  · rw [pickv_40 hL hp] at a
    rw [pickv_40 hL (by omega), mixed_step hL] at b
    have ey : 4 * (29 * s.length + 53) * (2 ^ (e - 4) * (u * m)) = 2 ^ (e + 6) * (d * m) := by
      rw [← hd, show e + 6 = (e - 4) + 10 by omega, Nat.pow_add]
      have : 4 * (d * g) * (2 ^ (e - 4) * (u * m)) = 2 ^ (e - 4) * (4 * (u * g)) * (d * m) := by
        simp only [Nat.mul_assoc, Nat.mul_left_comm, Nat.mul_comm]
      rw [this, h256]
    rw [ey] at b
    exact fx_rest e (mixed s p) (d * m) he hx (by omega)
theorem far_some {s : List Int} (hs : IsCode s) (e p : Nat) (he : 6 ≤ e) (hx : 318240 + 82 * (p + 2007) < 2 ^ (e + 6)) : ∃ i, 4 * i ≤ 2004 + 13600000 * 2 ^ (e - 4) ∧ pickv s (p + 3 + 4 * i) 40 ≠ 1 := by
  rcases Nat.eq_zero_or_pos s.length with h | h
  · exact ⟨0, by omega, by unfold pickv; rw [if_pos h]; decide⟩
  · have hl := hs.1
    have hm := mixed_le hs (p + 3 + 4 * 501)
    obtain ⟨k, k1, k2, k3⟩ := far_one hs h e (p + 3 + 4 * 501) he (by omega) (by omega)
    by_cases a : pickv s (p + 3 + 4 * 501) 40 = 1
    · refine ⟨501 + k / 4, by omega, fun b => k3 ⟨a, ?_⟩⟩
      rw [show p + 3 + 4 * 501 + k = p + 3 + 4 * (501 + k / 4) by omega]; exact b
    · exact ⟨501, by omega, a⟩
end Go.Proofs.Ytpaohkhmhdhibaa.Aid
