/- Plain mathematics on mirrors. No program in sight. -/
import Derived.Test.YtnbeeogmaamgdaaMat2
namespace Go.Proofs.Ytnbeeogmaamgdaa.Aid
open Go.RowKit Go.Proofs.YtnbeeogmaamgdaaW.PrintWords Go.Proofs.YtnbeeogmaamgdaaW.PrintLast Go.Proofs.YtnbeeogmaamgdaaW.PrintMore

theorem dot3_n {form w : List Int} (hw : w.length = form.length) : dot3 form w w = sumN form.length (fun k => rd form (k : Int) * rd w (k : Int) * rd w (k : Int)) := dot3_sum form.length _ _ _ rfl hw hw
/-- A mirror done twice. -/
theorem mir_mm {form w : List Int} (h1 : 1 ≤ form.length) (h3 : form.length ≤ 3) (hw : w.length = form.length) (i k : Nat) (hi : i < form.length) (hk : k < form.length) :
    mm form.length (mirF form w) (mirF form w) i k = unit (dot3 form w w * dot3 form w w) i k := by
  have hq := dot3_n hw
  unfold mirF
  generalize dot3 form w w = q at *
  rcases (by omega : form.length = 1 ∨ form.length = 2 ∨ form.length = 3) with l | l | l <;> rw [l] at hi hk hq ⊢
  · obtain rfl : i = 0 := by omega
    obtain rfl : k = 0 := by omega
    simp [mm, sumN, unit] at hq ⊢; grind
  · rcases (by omega : i = 0 ∨ i = 1) with rfl | rfl <;> rcases (by omega : k = 0 ∨ k = 1) with rfl | rfl <;> simp [mm, sumN, unit] at hq ⊢ <;> grind
  · rcases (by omega : i = 0 ∨ i = 1 ∨ i = 2) with rfl | rfl | rfl <;> rcases (by omega : k = 0 ∨ k = 1 ∨ k = 2) with rfl | rfl | rfl <;> simp [mm, sumN, unit] at hq ⊢ <;> grind
/-- A mirror of its own vector. -/
theorem mir_mv {form w : List Int} (h1 : 1 ≤ form.length) (h3 : form.length ≤ 3) (hw : w.length = form.length) (i : Nat) (hi : i < form.length) :
    mv form.length (mirF form w) (fun k => rd w (k : Int)) i = -(dot3 form w w) * rd w (i : Int) := by
  have hq := dot3_n hw
  unfold mirF
  generalize dot3 form w w = q at *
  rcases (by omega : form.length = 1 ∨ form.length = 2 ∨ form.length = 3) with l | l | l <;> rw [l] at hi hq ⊢
  · obtain rfl : i = 0 := by omega
    simp [mv, sumN] at hq ⊢; grind
  · rcases (by omega : i = 0 ∨ i = 1) with rfl | rfl <;> simp [mv, sumN] at hq ⊢ <;> grind
  · rcases (by omega : i = 0 ∨ i = 1 ∨ i = 2) with rfl | rfl | rfl <;> simp [mv, sumN] at hq ⊢ <;> grind
/-- A mirror's determinant. -/
theorem mir_det {form w : List Int} (h1 : 1 ≤ form.length) (h3 : form.length ≤ 3) (hw : w.length = form.length) : detF form.length (mirF form w) = -(dot3 form w w ^ form.length) := by
  have hq := dot3_n hw
  unfold mirF
  generalize dot3 form w w = q at *
  rcases (by omega : form.length = 1 ∨ form.length = 2 ∨ form.length = 3) with l | l | l <;> rw [l] at hq ⊢ <;> simp [detF, sumN] at hq ⊢ <;> grind
/-- The parts of a mirror. -/
theorem mirB_ok {form w : List Int} (h : (mirB form w).2.2 = true) :
    fOk form = true ∧ form.length ≤ 3 ∧ vOk form.length 1000 w = true ∧ dot3 form w w ≠ 0 ∧ mvB form (mirB form w).1 (mirB form w).2.1 = true ∧ ∃ g : Int, g ≠ 0 ∧ dot3 form w w = g * (mirB form w).2.1 ∧
      ∀ i k, i < form.length → k < form.length → mirF form w i k = g * ent (mirB form w).1 i k := by
  unfold mirB at h ⊢
  by_cases hv : fOk form = true ∧ form.length ≤ 3 ∧ vOk form.length 1000 w = true ∧ dot3 form w w ≠ 0
  · rw [if_pos hv] at h ⊢
    obtain ⟨h1, g, g0, g1, g2⟩ := lowB_ok hv.2.2.2 h
    refine ⟨hv.1, hv.2.1, hv.2.2.1, hv.2.2.2, h1, g, g0, g2, fun i k hi hk => ?_⟩
    rw [← ent_scale, ← g1]
    unfold mirR; rw [ent_mat hi hk]
  · rw [if_neg hv] at h; simp at h
theorem mir_twice {form w : List Int} (h : (mirB form w).2.2 = true) : mulB form (mirB form w).1 (mirB form w).2.1 (mirB form w).1 (mirB form w).2.1 = (stayR form.length, 1, true) := by
  obtain ⟨hf, h3, hw, h0, hm, g, g0, gq, ge⟩ := mirB_ok h
  refine mulB_unit hm hm (stay_valid form hf h3) (fun i k hi hk => ?_)
  have := mir_mm (fOk_len hf).1 h3 (vOk_len hw) i k hi hk
  rw [mm_congr ge ge i k hi hk, mm_mul, gq] at this
  refine Int.eq_of_mul_eq_mul_left (Int.mul_ne_zero g0 g0) ?_
  rw [this]; unfold unit; split <;> grind
/-- A vector the other way round. -/
def negL (w : List Int) : List Int := w.map fun x => -x
theorem negL_rd (w : List Int) (k : Nat) : rd (negL w) (k : Int) = -rd w (k : Int) := by
  unfold negL; rw [rd_at, rd_at]
  rcases Nat.lt_or_ge k w.length with h | h <;> simp [h]
theorem negL_len (w : List Int) : (negL w).length = w.length := by unfold negL; rw [List.length_map]
theorem negL_ok {n : Nat} {M : Int} {w : List Int} (h : vOk n M w = true) : vOk n M (negL w) = true := by
  refine vOk_of (by rw [negL_len]; exact vOk_len h) (fun x hx => ?_)
  unfold negL at hx
  obtain ⟨y, hy, rfl⟩ := List.mem_map.1 hx
  have := vOk_mem h y hy; omega
theorem negL_val {form w : List Int} (hw : w.length = form.length) : dot3 form (negL w) (negL w) = dot3 form w w := by
  rw [dot3_n hw, dot3_n (by rw [negL_len]; exact hw)]
  refine sumN_congr _ _ _ (fun k _ => ?_)
  rw [negL_rd]; grind
theorem mir_minus {form w : List Int} (hf : fOk form = true ∧ form.length ≤ 3 ∧ vOk form.length 1000 w = true) : mirB form (negL w) = mirB form w := by
  have hw := vOk_len hf.2.2
  have e : mirR form (negL w) = mirR form w := by
    unfold mirR
    refine mat_congr (fun i k _ _ => ?_)
    unfold mirF
    rw [negL_rd, negL_rd, negL_val hw]
    split <;> grind
  unfold mirB
  rw [e, negL_val hw]
  by_cases h0 : dot3 form w w ≠ 0
  · rw [if_pos ⟨hf.1, hf.2.1, negL_ok hf.2.2, h0⟩, if_pos ⟨hf.1, hf.2.1, hf.2.2, h0⟩]
  · rw [if_neg (fun k => h0 k.2.2.2), if_neg (fun k => h0 k.2.2.2)]
theorem mir_on {form w : List Int} (h : (mirB form w).2.2 = true) : onB form (mirB form w).1 (mirB form w).2.1 w = (negL w, 1, true) := by
  obtain ⟨hf, h3, hw, h0, hm, g, g0, gq, ge⟩ := mirB_ok h
  have hl := (mvB_of hm).2.2.1
  have hr := (mvB_of hm).2.2.2.2.1
  have hd := (mvB_of hm).2.2.2.1
  generalize (mirB form w).1 = A at *
  generalize (mirB form w).2.1 = d at *
  have hwl := vOk_len hw
  have e : onR A w = w.map (fun x => d * -x) := by
    apply List.ext_getElem
    · rw [onR_len, List.length_map, hl, hwl]
    · intro i h1 h2
      have hi : i < form.length := by rw [onR_len, hl] at h1; exact h1
      have hiw : i < w.length := by omega
      have e1 := onR_at hl (fun r hr2 => vOk_len (hr r hr2)) hwl hi
      rw [rd_at, List.getD_eq_getElem?_getD, List.getElem?_eq_getElem h1] at e1
      have e2 := mir_mv (fOk_len hf).1 h3 hwl i hi
      have e3 : mv form.length (mirF form w) (fun k => rd w (k : Int)) i = g * mv form.length (ent A) (fun k => rd w (k : Int)) i := by
        rw [mv_congr (f' := fun i k => g * ent A i k) (v' := fun k => 1 * rd w (k : Int)) (fun k hk => ge i k hi hk) (fun k _ => (Int.one_mul _).symm), mv_mul]; simp
      have e4 : rd w (i : Int) = w[i] := by rw [rd_at]; simp [hiw]
      rw [e3, gq, e4] at e2
      simp only [Option.getD_some] at e1
      rw [e1, List.getElem_map]
      refine Int.eq_of_mul_eq_mul_left g0 ?_
      rw [e2]; grind
  have hg : gcdL 0 (d :: onR A w) = d.natAbs := by
    rw [gcdL_cons, Nat.gcd_zero_left, gcdL_gcd]
    refine Nat.gcd_eq_left ?_
    refine gcdL_great _ _ _ (Nat.dvd_zero _) (fun x hx => ?_)
    rw [e] at hx
    obtain ⟨y, _, rfl⟩ := List.mem_map.1 hx
    rw [Int.natAbs_mul]; exact Nat.dvd_mul_right _ _
  have hdd : ((d.natAbs : Nat) : Int) = d := by omega
  unfold onB
  rw [if_pos ⟨hm, hw⟩, hg, hdd, e, List.map_map]
  have e5 : List.map ((fun x => Int.tdiv x d) ∘ fun x => d * -x) w = negL w := List.map_congr_left (fun x _ => Int.mul_tdiv_cancel_left _ (by omega))
  rw [e5, Int.tdiv_self (by omega)]
theorem mir_sign {form w : List Int} (h : (mirB form w).2.2 = true) : signB form (mirB form w).1 (mirB form w).2.1 = -1 := by
  obtain ⟨hf, h3, hw, h0, hm, g, g0, gq, ge⟩ := mirB_ok h
  have h1 := (fOk_len hf).1
  rw [signB_det hm]
  have hd := (mvB_of hm).2.2.2.1
  have e := mir_det h1 h3 (vOk_len hw)
  rw [det_congr h3 ge, det_scale h1 h3, gq] at e
  have e2 : (g * (mirB form w).2.1) ^ form.length = g ^ form.length * (mirB form w).2.1 ^ form.length := Int.mul_pow
  rw [e2, ← Int.mul_neg] at e
  have e3 := Int.eq_of_mul_eq_mul_left (Int.pow_ne_zero g0) e
  have : 0 < (mirB form w).2.1 ^ form.length := Int.pow_pos (by omega)
  rw [if_neg (by omega)]
end Go.Proofs.Ytnbeeogmaamgdaa.Aid
