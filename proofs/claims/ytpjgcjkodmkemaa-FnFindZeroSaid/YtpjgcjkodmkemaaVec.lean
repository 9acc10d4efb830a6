/- Plain words on forms and vectors: what FormValid, vectorOk, pair, plain and ZeroIs tell. No program in sight. -/
import Derived.Test.YtpjgcjkodmkemaaAid
namespace Go.Proofs.Ytpjgcjkodmkemaa.Aid
open Go.RowKit Go.Proofs.YtpjgcjkodmkemaaW.PrintWords Go.Proofs.YtpjgcjkodmkemaaW.PrintLast Go.Proofs.YtpjgcjkodmkemaaW.PrintMore
def fOk (form : List Int) : Bool := decide (1 ≤ form.length ∧ form.length ≤ 4 ∧ ∀ t ∈ form, t ≠ 0 ∧ -30 ≤ t ∧ t ≤ 30)
def vOk (n : Nat) (most : Int) (v : List Int) : Bool := decide (v.length = n ∧ ∀ x ∈ v, -most ≤ x ∧ x ≤ most)
def dot3 : List Int → List Int → List Int → Int
  | f :: fs, v :: vs, w :: ws => f * v * w + dot3 fs vs ws
  | _, _, _ => 0
def some0 (v : List Int) : Bool := v.any (fun x => x != 0)
def sgn1 : List Int → Int
  | [] => 1
  | x :: xs => if x = 0 then sgn1 xs else if x < 0 then -1 else 1
def plainL (v : List Int) : List Int := v.map (fun x => Int.tdiv x (sgn1 v * gcdL 0 v))
def zeroB (form v : List Int) : Bool := fOk form && (vOk form.length 1000000 v && (some0 v && dot3 form v v == 0))
def Tame (v : List Int) : Prop := v.length ≤ 1000000 ∧ ∀ x ∈ v, -9223372036854775807 ≤ x ∧ x ≤ 9223372036854775807
theorem fOk_len {form : List Int} (h : fOk form = true) : 1 ≤ form.length ∧ form.length ≤ 4 := ⟨(of_decide_eq_true h).1, (of_decide_eq_true h).2.1⟩
theorem fOk_mem {form : List Int} (h : fOk form = true) : ∀ t ∈ form, t ≠ 0 ∧ -30 ≤ t ∧ t ≤ 30 := (of_decide_eq_true h).2.2
theorem vOk_len {n : Nat} {most : Int} {v : List Int} (h : vOk n most v = true) : v.length = n := (of_decide_eq_true h).1
theorem vOk_mem {n : Nat} {most : Int} {v : List Int} (h : vOk n most v = true) : ∀ x ∈ v, -most ≤ x ∧ x ≤ most := (of_decide_eq_true h).2
theorem gcdL_mono : ∀ (v : List Int) (g : Nat), gcdL g v ∣ g ∧ ∀ x ∈ v, gcdL g v ∣ x.natAbs
  | [], g => ⟨Nat.dvd_refl g, by simp⟩
  | y :: v, g => by
    have h := gcdL_mono v (Nat.gcd g y.natAbs)
    refine ⟨Nat.dvd_trans h.1 (Nat.gcd_dvd_left _ _), fun x hx => ?_⟩
    rcases List.mem_cons.1 hx with rfl | hx
    · exact Nat.dvd_trans h.1 (Nat.gcd_dvd_right _ _)
    · exact h.2 x hx
theorem gcdL_great : ∀ (v : List Int) (g d : Nat), d ∣ g → (∀ x ∈ v, d ∣ x.natAbs) → d ∣ gcdL g v
  | [], _, _, hg, _ => hg
  | y :: v, g, d, hg, h => gcdL_great v (Nat.gcd g y.natAbs) d (Nat.dvd_gcd hg (h y (by simp))) (fun x hx => h x (by simp [hx]))
theorem gcdL_zero {v : List Int} : gcdL 0 v = 0 ↔ some0 v = false := by
  constructor
  · intro h
    unfold some0
    rw [List.any_eq_false]
    intro x hx
    have := (gcdL_mono v 0).2 x hx
    rw [h] at this
    have := Nat.eq_zero_of_zero_dvd this
    simp; omega
  · intro h
    unfold some0 at h
    rw [List.any_eq_false] at h
    have := gcdL_great v 0 0 (Nat.dvd_refl 0) (fun x hx => by have := h x hx; simp at this; rw [this]; exact Nat.dvd_refl 0)
    exact Nat.eq_zero_of_zero_dvd this
theorem sgn1_cases : ∀ v : List Int, sgn1 v = 1 ∨ sgn1 v = -1
  | [] => .inl rfl
  | x :: xs => by
    unfold sgn1
    split
    · exact sgn1_cases xs
    · split
      · exact .inr rfl
      · exact .inl rfl
theorem mul3_bd {a b c B C : Int} (ha : -31 ≤ a ∧ a ≤ 31) (hb : -B ≤ b ∧ b ≤ B) (hc : -C ≤ c ∧ c ≤ C) (hB : 0 ≤ B) (hC : 0 ≤ C) :
    -(31 * B) ≤ a * b ∧ a * b ≤ 31 * B ∧ -(31 * (B * C)) ≤ a * b * c ∧ a * b * c ≤ 31 * (B * C) := by
  have h1 : a.natAbs ≤ 31 := by omega
  have h2 : b.natAbs ≤ B.toNat := by omega
  have h3 : c.natAbs ≤ C.toNat := by omega
  have h4 : (a * b).natAbs ≤ 31 * B.toNat := by rw [Int.natAbs_mul]; exact Nat.mul_le_mul h1 h2
  have h5 : (a * b * c).natAbs ≤ 31 * B.toNat * C.toNat := by rw [Int.natAbs_mul]; exact Nat.mul_le_mul h4 h3
  have e1 : ((31 * B.toNat : Nat) : Int) = 31 * B := by omega
  have e2 : ((31 * B.toNat * C.toNat : Nat) : Int) = 31 * (B * C) := by
    rw [Int.natCast_mul, e1, Int.toNat_of_nonneg hC, Int.mul_assoc]
  omega
end Go.Proofs.Ytpjgcjkodmkemaa.Aid
