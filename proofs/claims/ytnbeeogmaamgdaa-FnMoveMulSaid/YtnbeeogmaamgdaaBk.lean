/- Plain mathematics on what leads back, and on products of moves. No program in sight. -/
import Derived.Test.YtnbeeogmaamgdaaMat2
namespace Go.Proofs.Ytnbeeogmaamgdaa.Aid
open Go.RowKit Go.Proofs.YtnbeeogmaamgdaaW.PrintWords Go.Proofs.YtnbeeogmaamgdaaW.PrintLast Go.Proofs.YtnbeeogmaamgdaaW.PrintMore

theorem prodL_dvd : ∀ (f : List Int) (i : Nat), i < f.length → rd f (i : Int) ∣ prodL f
  | [], i, h => by simp at h
  | x :: xs, 0, _ => by rw [rd_at]; exact Int.dvd_mul_right _ _
  | x :: xs, i + 1, h => by
    have ih := prodL_dvd xs i (by simpa using h)
    have e : rd (x :: xs) ((i + 1 : Nat) : Int) = rd xs (i : Int) := by rw [rd_at, rd_at]; rfl
    rw [e]
    exact Int.dvd_trans ih (Int.dvd_mul_left _ _)
/-- The product's size divided by a term. -/
def coF (form : List Int) (i : Nat) : Int := Int.tdiv ((prodL form).natAbs : Int) (rd form (i : Int))
theorem coF_mul {form : List Int} {i : Nat} (hi : i < form.length) : rd form (i : Int) * coF form i = ((prodL form).natAbs : Int) :=
  Int.mul_tdiv_cancel' (Int.dvd_natAbs.2 (prodL_dvd form i hi))
theorem backF_eq {form : List Int} {A : List (List Int)} (hA : A.length = form.length) {i k : Nat} (hk : k < form.length) : backF form A i k = rd form (k : Int) * ent A k i * coF form i := by
  have h2 : k < A.length := by omega
  unfold backF coF ent colL
  rw [getD_at h2]
  congr 2
  rw [rd_at, List.getD_eq_getElem?_getD, List.getElem?_map, List.getElem?_eq_getElem h2]
  simp
/-- The parts of what leads back. -/
theorem backB_ok {form : List Int} {A : List (List Int)} {da : Int} (h : (backB form A da).2.2 = true) :
    mvB form A da = true ∧ mvB form (backB form A da).1 (backB form A da).2.1 = true ∧ ∃ g : Int, 0 < g ∧ da * ((prodL form).natAbs : Int) = g * (backB form A da).2.1 ∧
      ∀ i k, i < form.length → k < form.length → rd form (k : Int) * ent A k i * coF form i = g * ent (backB form A da).1 i k := by
  unfold backB at h ⊢
  by_cases hv : mvB form A da = true
  · rw [if_pos hv] at h ⊢
    obtain ⟨hf, h3, la, hda, ra, _⟩ := mvB_of hv
    have hp := prodL_3 hf h3
    have hd : 0 < da * ((prodL form).natAbs : Int) := Int.mul_pos (by omega) (by omega)
    obtain ⟨h1, g, g0, g1, g2⟩ := lowB_ok (by omega) h
    refine ⟨hv, h1, g, ?_, g2, fun i k hi hk => ?_⟩
    · have hc := (mvB_of h1).2.2.2.1
      rcases (by omega : g < 0 ∨ 0 < g) with q | q
      · have := Int.mul_neg_of_neg_of_pos q (show 0 < (lowB form (backR form A) (da * ((prodL form).natAbs : Int))).2.1 by omega); omega
      · exact q
    · rw [← backF_eq la hk, ← ent_scale, ← g1]
      unfold backR; rw [ent_mat hi hk]
  · rw [if_neg hv] at h; simp at h
/-- What leads back, times the move. -/
theorem back_mm {form : List Int} {A : List (List Int)} {da : Int} (h : (backB form A da).2.2 = true) : ∀ i k, i < form.length → k < form.length →
    mm form.length (ent (backB form A da).1) (ent A) i k = unit ((backB form A da).2.1 * da) i k := by
  obtain ⟨hv, hb, g, g0, gd, ge⟩ := backB_ok h
  intro i k hi hk
  have o := mvB_isO hv i hi k hk
  have e : g * mm form.length (ent (backB form A da).1) (ent A) i k = coF form i * sumN form.length (fun j => rd form (j : Int) * ent A j i * ent A j k) := by
    unfold mm
    rw [← sumN_mul, ← sumN_mul]
    refine sumN_congr _ _ _ (fun j hj => ?_)
    rw [← Int.mul_assoc, ← ge i j hi hj]; grind
  rw [o] at e
  refine Int.eq_of_mul_eq_mul_left (show g ≠ 0 by omega) ?_
  rw [e]
  unfold unit
  by_cases hik : i = k
  · subst hik
    have c := coF_mul hi
    rw [if_pos rfl, if_pos rfl]; grind
  · rw [if_neg hik, if_neg hik]; simp
theorem mm_back {form : List Int} {A : List (List Int)} {da : Int} (h : (backB form A da).2.2 = true) : ∀ i k, i < form.length → k < form.length →
    mm form.length (ent A) (ent (backB form A da).1) i k = unit ((backB form A da).2.1 * da) i k := by
  obtain ⟨hv, hb, _⟩ := backB_ok h
  obtain ⟨hf, h3, _, hd, _⟩ := mvB_of hv
  have hd2 := (mvB_of hb).2.2.2.1
  exact inv_comm (fOk_len hf).1 h3 (Int.mul_ne_zero (by omega) (by omega)) (back_mm h)
theorem back_left {form : List Int} {A : List (List Int)} {da : Int} (h : (backB form A da).2.2 = true) : mulB form (backB form A da).1 (backB form A da).2.1 A da = (stayR form.length, 1, true) := by
  obtain ⟨hv, hb, _⟩ := backB_ok h
  obtain ⟨hf, h3, _⟩ := mvB_of hv
  exact mulB_unit hb hv (stay_valid form hf h3) (back_mm h)
theorem back_right {form : List Int} {A : List (List Int)} {da : Int} (h : (backB form A da).2.2 = true) : mulB form A da (backB form A da).1 (backB form A da).2.1 = (stayR form.length, 1, true) := by
  obtain ⟨hv, hb, _⟩ := backB_ok h
  obtain ⟨hf, h3, _⟩ := mvB_of hv
  exact mulB_unit hv hb (stay_valid form hf h3) (fun i k hi hk => by rw [mm_back h i k hi hk, Int.mul_comm])
theorem back_cases (form : List Int) (A : List (List Int)) (da : Int) : (backB form A da = ([], 0, false)) ∨ ((backB form A da).2.2 = true ∧ mvB form (backB form A da).1 (backB form A da).2.1 = true) := by
  unfold backB
  split
  · exact lowB_cases _ _ _
  · exact .inl rfl
theorem backB_rows (form : List Int) (A : List (List Int)) (da : Int) : RowsOk (backB form A da).1 := by
  rcases back_cases form A da with h | h
  · rw [h]; exact rows_nil
  · exact mvB_rows h.2
/-- Back from back is the move. -/
theorem back_back {form : List Int} {A : List (List Int)} {da : Int} (h : (backB form A da).2.2 = true) (h2 : (backB form (backB form A da).1 (backB form A da).2.1).2.2 = true) :
    (backB form (backB form A da).1 (backB form A da).2.1).1 = A ∧ (backB form (backB form A da).1 (backB form A da).2.1).2.1 = da := by
  obtain ⟨hv, hb, g, g0, gd, ge⟩ := backB_ok h
  obtain ⟨_, hc, k, k0, kd, ke⟩ := backB_ok h2
  refine move_uniq hc hv (fun i j hi hj => ?_)
  have e1 := ke i j hi hj
  have e2 := ge j i hj hi
  have ci := coF_mul hi
  have cj := coF_mul hj
  generalize ent (backB form (backB form A da).1 (backB form A da).2.1).1 i j = C at *
  generalize (backB form (backB form A da).1 (backB form A da).2.1).2.1 = dc at *
  generalize ent (backB form A da).1 j i = B at *
  generalize (backB form A da).2.1 = db at *
  generalize ((prodL form).natAbs : Int) = P at *
  refine Int.eq_of_mul_eq_mul_left (show g * k ≠ 0 from Int.mul_ne_zero (by omega) (by omega)) ?_
  have e3 : g * k * (da * C) = da * (rd form (j : Int) * coF form i) * (g * B) := by
    have : g * k * (da * C) = g * da * (k * C) := by grind
    rw [this, ← e1]; grind
  have e4 : g * k * (dc * ent A i j) = P * P * da * ent A i j := by
    have : g * k * (dc * ent A i j) = g * ent A i j * (k * dc) := by grind
    rw [this, ← kd]
    have : g * ent A i j * (db * P) = P * ent A i j * (g * db) := by grind
    rw [this, ← gd]; grind
  rw [e3, e4, ← e2]
  have : da * (rd form (j : Int) * coF form i) * (rd form (i : Int) * ent A i j * coF form j) = da * ent A i j * (rd form (i : Int) * coF form i) * (rd form (j : Int) * coF form j) := by grind
  rw [this, ci, cj]; grind
theorem sign_same {n : Nat} {a b x y : Int} (ha : 0 < a) (hb : 0 < b) (h : a ^ n * x = b ^ n * y) : (x > 0) ↔ (y > 0) := by
  have pa : 0 < a ^ n := Int.pow_pos ha
  have pb : 0 < b ^ n := Int.pow_pos hb
  constructor
  · intro hx
    have := Int.mul_pos pa hx
    rw [h] at this
    rcases (by omega : y ≤ 0 ∨ 0 < y) with q | q
    · have := Int.mul_nonneg (show (0 : Int) ≤ b ^ n by omega) (show 0 ≤ -y by omega)
      rw [Int.mul_neg] at this; omega
    · exact q
  · intro hy
    have := Int.mul_pos pb hy
    rw [← h] at this
    rcases (by omega : x ≤ 0 ∨ 0 < x) with q | q
    · have := Int.mul_nonneg (show (0 : Int) ≤ a ^ n by omega) (show 0 ≤ -x by omega)
      rw [Int.mul_neg] at this; omega
    · exact q
/-- What leads back has the move's sign. -/
theorem back_sign {form : List Int} {A : List (List Int)} {da : Int} (h : (backB form A da).2.2 = true) : signB form (backB form A da).1 (backB form A da).2.1 = signB form A da := by
  obtain ⟨hv, hb, g, g0, gd, ge⟩ := backB_ok h
  obtain ⟨hf, h3, _⟩ := mvB_of hv
  have h1 := (fOk_len hf).1
  have hp := prodL_3 hf h3
  have e : detF form.length (fun i k => rd form (k : Int) * ent A k i * coF form i) = ((prodL form).natAbs : Int) ^ form.length * detF form.length (ent A) := by
    have c : ∀ i, i < form.length → rd form (i : Int) * coF form i = ((prodL form).natAbs : Int) := fun i hi => coF_mul hi
    generalize ((prodL form).natAbs : Int) = P at *
    rcases (by omega : form.length = 1 ∨ form.length = 2 ∨ form.length = 3) with l | l | l <;> rw [l] at c ⊢ <;> simp only [detF]
    · have := c 0 (by omega); grind
    · have c0 := c 0 (by omega)
      have c1 := c 1 (by omega)
      rw [show P ^ 2 = P * P by grind]
      have : ∀ f0 f1 k0 k1 a b c d : Int, f0 * a * k0 * (f1 * d * k1) - f1 * c * k0 * (f0 * b * k1) = (f0 * k0) * (f1 * k1) * (a * d - b * c) := fun f0 f1 k0 k1 a b c d => by grind
      rw [this, c0, c1]
    · have c0 := c 0 (by omega)
      have c1 := c 1 (by omega)
      have c2 := c 2 (by omega)
      rw [show P ^ 3 = P * P * P by grind]
      have : ∀ f0 f1 f2 k0 k1 k2 a b c d e f g h i : Int, f0 * a * k0 * (f1 * e * k1 * (f2 * i * k2) - f2 * h * k1 * (f1 * f * k2)) + f1 * d * k0 * (f2 * h * k1 * (f0 * c * k2) - f0 * b * k1 * (f2 * i * k2)) + f2 * g * k0 * (f0 * b * k1 * (f1 * f * k2) - f1 * e * k1 * (f0 * c * k2))
          = (f0 * k0) * (f1 * k1) * (f2 * k2) * (a * (e * i - f * h) + b * (f * g - d * i) + c * (d * h - e * g)) := fun f0 f1 f2 k0 k1 k2 a b c d e f g h i => by grind
      rw [this, c0, c1, c2]
  rw [det_congr h3 ge, det_scale h1 h3] at e
  rw [signB_det hb, signB_det hv]
  have := sign_same g0 (show (0 : Int) < ((prodL form).natAbs : Int) by omega) e
  by_cases q : detF form.length (ent (backB form A da).1) > 0
  · rw [if_pos q, if_pos (this.1 q)]
  · rw [if_neg q, if_neg (fun k => q (this.2 k))]
/-- A product's sign. -/
theorem mul_sign {form : List Int} {A : List (List Int)} {da : Int} {B : List (List Int)} {db : Int} (h : (mulB form A da B db).2.2 = true) :
    signB form (mulB form A da B db).1 (mulB form A da B db).2.1 = signB form A da * signB form B db := by
  obtain ⟨hA, hB, hC, g, g0, gd, ge⟩ := mulB_ok h
  obtain ⟨hf, h3, _⟩ := mvB_of hA
  have h1 := (fOk_len hf).1
  have e := det_mul h1 h3 (ent A) (ent B)
  rw [det_congr h3 ge, det_scale h1 h3] at e
  have e2 : g ^ form.length * detF form.length (ent (mulB form A da B db).1) = 1 ^ form.length * (detF form.length (ent A) * detF form.length (ent B)) := by rw [e, Int.one_pow, Int.one_mul]
  have s := sign_same g0 (show (0 : Int) < 1 by omega) e2
  have nA := det_ne hA
  have nB := det_ne hB
  rw [signB_det hA, signB_det hB, signB_det hC]
  have p : (detF form.length (ent (mulB form A da B db).1) > 0) ↔ ((detF form.length (ent A) > 0) ↔ (detF form.length (ent B) > 0)) := by
    rw [s]
    rcases (by omega : detF form.length (ent A) < 0 ∨ detF form.length (ent A) > 0) with a | a <;> rcases (by omega : detF form.length (ent B) < 0 ∨ detF form.length (ent B) > 0) with b | b
    · have := Int.mul_pos_of_neg_of_neg a b; constructor <;> intro <;> omega
    · have := Int.mul_neg_of_neg_of_pos a b; constructor <;> intro <;> omega
    · have := Int.mul_neg_of_pos_of_neg a b; constructor <;> intro <;> omega
    · have := Int.mul_pos a b; constructor <;> intro <;> omega
  by_cases q : detF form.length (ent (mulB form A da B db).1) > 0 <;> by_cases a : detF form.length (ent A) > 0 <;> by_cases b : detF form.length (ent B) > 0 <;> simp [q, a, b] at p ⊢
theorem sign_two {form : List Int} {A : List (List Int)} {d : Int} (h : mvB form A d = true) : signB form A d = 1 ∨ signB form A d = -1 := by
  rw [signB_det h]; split
  · exact .inl rfl
  · exact .inr rfl
end Go.Proofs.Ytnbeeogmaamgdaa.Aid
