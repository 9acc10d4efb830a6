/- Plain mathematics on what leads back, and on products of moves. No program in sight. -/
import Derived.Test.YtnbeeogmaamgdaaMat2
namespace Go.Proofs.Ytnbeeogmaamgdaa.Aid
open Go.RowKit Go.Proofs.YtnbeeogmaamgdaaW.PrintWords Go.Proofs.YtnbeeogmaamgdaaW.PrintLast Go.Proofs.YtnbeeogmaamgdaaW.PrintMore
theorem sign_same {n : Nat} {a b x y : Int} (ha : 0 < a) (hb : 0 < b) (h : a ^ n * x = b ^ n * y) : (x > 0) ↔ (y > 0) := by
  have pa : 0 < a ^ n := Int.pow_pos ha
  have pb : 0 < b ^ n := Int.pow_pos hb
  constructor
  · intro hx
    have := Int.mul_pos pa hx
    rw [h] at this
    rcases (by omega : y ≤ 0 ∨ 0 < y) with q | q
    · have := Int.mul_nonneg (show (0 : Int) ≤ b ^ n by omega) (show 0 ≤ -y by omega)
      rw [Int.mul_neg] at this; omega
    · exact q
  · intro hy
    have := Int.mul_pos pb hy
    rw [← h] at this
    rcases (by omega : x ≤ 0 ∨ 0 < x) with q | q
    · have := Int.mul_nonneg (show (0 : Int) ≤ a ^ n by omega) (show 0 ≤ -x by omega)
      rw [Int.mul_neg] at this; omega
    · exact q
theorem mul_sign {form : List Int} {A : List (List Int)} {da : Int} {B : List (List Int)} {db : Int} (h : (mulB form A da B db).2.2 = true) :
    signB form (mulB form A da B db).1 (mulB form A da B db).2.1 = signB form A da * signB form B db := by
  obtain ⟨hA, hB, hC, g, g0, gd, ge⟩ := mulB_ok h
  obtain ⟨hf, h3, _⟩ := mvB_of hA
  have h1 := (fOk_len hf).1
  have e := det_mul h1 h3 (ent A) (ent B)
  rw [det_congr h3 ge, det_scale h1 h3] at e
  have e2 : g ^ form.length * detF form.length (ent (mulB form A da B db).1) = 1 ^ form.length * (detF form.length (ent A) * detF form.length (ent B)) := by rw [e, Int.one_pow, Int.one_mul]
  have s := sign_same g0 (show (0 : Int) < 1 by omega) e2
  have nA := det_ne hA
  have nB := det_ne hB
  rw [signB_det hA, signB_det hB, signB_det hC]
  have p : (detF form.length (ent (mulB form A da B db).1) > 0) ↔ ((detF form.length (ent A) > 0) ↔ (detF form.length (ent B) > 0)) := by
    rw [s]
    rcases (by omega : detF form.length (ent A) < 0 ∨ detF form.length (ent A) > 0) with a | a <;> rcases (by omega : detF form.length (ent B) < 0 ∨ detF form.length (ent B) > 0) with b | b
    · have := Int.mul_pos_of_neg_of_neg a b; constructor <;> intro <;> omega
    · have := Int.mul_neg_of_neg_of_pos a b; constructor <;> intro <;> omega
    · have := Int.mul_neg_of_pos_of_neg a b; constructor <;> intro <;> omega
    · have := Int.mul_pos a b; constructor <;> intro <;> omega
  by_cases q : detF form.length (ent (mulB form A da B db).1) > 0 <;> by_cases a : detF form.length (ent A) > 0 <;> by_cases b : detF form.length (ent B) > 0 <;> simp [q, a, b] at p ⊢
theorem sign_two {form : List Int} {A : List (List Int)} {d : Int} (h : mvB form A d = true) : signB form A d = 1 ∨ signB form A d = -1 := by
  rw [signB_det h]; split
  · exact .inl rfl
  · exact .inr rfl
end Go.Proofs.Ytnbeeogmaamgdaa.Aid
