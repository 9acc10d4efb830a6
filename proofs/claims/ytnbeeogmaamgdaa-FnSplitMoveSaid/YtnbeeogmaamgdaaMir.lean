/- Plain mathematics on mirrors. No program in sight. -/
import Derived.Test.YtnbeeogmaamgdaaMat2
namespace Go.Proofs.Ytnbeeogmaamgdaa.Aid
open Go.RowKit Go.Proofs.YtnbeeogmaamgdaaW.PrintWords Go.Proofs.YtnbeeogmaamgdaaW.PrintLast Go.Proofs.YtnbeeogmaamgdaaW.PrintMore
theorem dot3_n {form w : List Int} (hw : w.length = form.length) : dot3 form w w = sumN form.length (fun k => rd form (k : Int) * rd w (k : Int) * rd w (k : Int)) := dot3_sum form.length _ _ _ rfl hw hw
theorem mir_mm {form w : List Int} (h1 : 1 ≤ form.length) (h3 : form.length ≤ 3) (hw : w.length = form.length) (i k : Nat) (hi : i < form.length) (hk : k < form.length) :
    mm form.length (mirF form w) (mirF form w) i k = unit (dot3 form w w * dot3 form w w) i k := by
  have hq := dot3_n hw
  unfold mirF
  generalize dot3 form w w = q at *
  rcases (by omega : form.length = 1 ∨ form.length = 2 ∨ form.length = 3) with l | l | l <;> rw [l] at hi hk hq ⊢
  · obtain rfl : i = 0 := by omega
    obtain rfl : k = 0 := by omega
    simp [mm, sumN, unit] at hq ⊢; grind
  · rcases (by omega : i = 0 ∨ i = 1) with rfl | rfl <;> rcases (by omega : k = 0 ∨ k = 1) with rfl | rfl <;> simp [mm, sumN, unit] at hq ⊢ <;> grind
  · rcases (by omega : i = 0 ∨ i = 1 ∨ i = 2) with rfl | rfl | rfl <;> rcases (by omega : k = 0 ∨ k = 1 ∨ k = 2) with rfl | rfl | rfl <;> simp [mm, sumN, unit] at hq ⊢ <;> grind
theorem mirB_ok {form w : List Int} (h : (mirB form w).2.2 = true) :
    fOk form = true ∧ form.length ≤ 3 ∧ vOk form.length 1000 w = true ∧ dot3 form w w ≠ 0 ∧ mvB form (mirB form w).1 (mirB form w).2.1 = true ∧ ∃ g : Int, g ≠ 0 ∧ dot3 form w w = g * (mirB form w).2.1 ∧
      ∀ i k, i < form.length → k < form.length → mirF form w i k = g * ent (mirB form w).1 i k := by
  unfold mirB at h ⊢
  by_cases hv : fOk form = true ∧ form.length ≤ 3 ∧ vOk form.length 1000 w = true ∧ dot3 form w w ≠ 0
  · rw [if_pos hv] at h ⊢
    obtain ⟨h1, g, g0, g1, g2⟩ := lowB_ok hv.2.2.2 h
    refine ⟨hv.1, hv.2.1, hv.2.2.1, hv.2.2.2, h1, g, g0, g2, fun i k hi hk => ?_⟩
    rw [← ent_scale, ← g1]
    unfold mirR; rw [ent_mat hi hk]
  · rw [if_neg hv] at h; simp at h
def negL (w : List Int) : List Int := w.map fun x => -x
theorem negL_rd (w : List Int) (k : Nat) : rd (negL w) (k : Int) = -rd w (k : Int) := by
  unfold negL; rw [rd_at, rd_at]
  rcases Nat.lt_or_ge k w.length with h | h <;> simp [h]
theorem negL_len (w : List Int) : (negL w).length = w.length := by unfold negL; rw [List.length_map]
end Go.Proofs.Ytnbeeogmaamgdaa.Aid
