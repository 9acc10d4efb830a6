/- Plain mathematics on products of mirrors. No program in sight. -/
import Derived.Test.YtnbeeogmaamgdaaMir
import Derived.Test.YtnbeeogmaamgdaaBk
namespace Go.Proofs.Ytnbeeogmaamgdaa.Aid
open Go.RowKit Go.Proofs.YtnbeeogmaamgdaaW.PrintWords Go.Proofs.YtnbeeogmaamgdaaW.PrintLast Go.Proofs.YtnbeeogmaamgdaaW.PrintMore
def prodM (form : List Int) : List (List Int) → Nat → Nat → Int
  | [] => unit 1
  | w :: ws => mm form.length (mirF form w) (prodM form ws)
def prodQ (form : List Int) : List (List Int) → Int
  | [] => 1
  | w :: ws => dot3 form w w * prodQ form ws
theorem prodM_app (form : List Int) (b : List (List Int)) : ∀ (a : List (List Int)) (i k : Nat), i < form.length → k < form.length → prodM form (a ++ b) i k = mm form.length (prodM form a) (prodM form b) i k
  | [], i, k, hi, _ => by
    show prodM form b i k = mm form.length (unit 1) (prodM form b) i k
    rw [unit_mm _ _ hi, Int.one_mul]
  | w :: a, i, k, hi, hk => by
    show mm form.length (mirF form w) (prodM form (a ++ b)) i k = mm form.length (mm form.length (mirF form w) (prodM form a)) (prodM form b) i k
    rw [mm_assoc]
    exact mm_congr (fun _ _ _ _ => rfl) (prodM_app form b a) i k hi hk
theorem prodQ_app (form : List Int) (b : List (List Int)) : ∀ (a : List (List Int)), prodQ form (a ++ b) = prodQ form a * prodQ form b
  | [] => by simp [prodQ]
  | w :: a => by
    show dot3 form w w * prodQ form (a ++ b) = dot3 form w w * prodQ form a * prodQ form b
    rw [prodQ_app form b a, Int.mul_assoc]
theorem prodQ_ne (form : List Int) : ∀ (a : List (List Int)), (∀ w ∈ a, dot3 form w w ≠ 0) → prodQ form a ≠ 0
  | [], _ => by simp [prodQ]
  | w :: a, h => Int.mul_ne_zero (h w (by simp)) (prodQ_ne form a (fun v hv => h v (by simp [hv])))
theorem rev_mm {form : List Int} (h1 : 1 ≤ form.length) (h3 : form.length ≤ 3) : ∀ (a : List (List Int)), (∀ w ∈ a, w.length = form.length) → ∀ (i k : Nat), i < form.length → k < form.length →
    mm form.length (prodM form a.reverse) (prodM form a) i k = unit (prodQ form a * prodQ form a) i k
  | [], _, i, k, hi, _ => by
    show mm form.length (unit 1) (unit 1) i k = unit (1 * 1) i k
    rw [unit_mm _ _ hi, Int.one_mul]; rfl
  | w :: a, h, i, k, hi, hk => by
    have ih := rev_mm h1 h3 a (fun v hv => h v (by simp [hv]))
    have hw := h w (by simp)
    have e1 : ∀ i k, i < form.length → k < form.length → prodM form (w :: a).reverse i k = mm form.length (prodM form a.reverse) (mirF form w) i k := by
      intro i k hi hk
      rw [List.reverse_cons, prodM_app form [w] a.reverse i k hi hk]
      refine mm_congr (fun _ _ _ _ => rfl) (fun i k hi hk => ?_) i k hi hk
      show mm form.length (mirF form w) (unit 1) i k = _
      rw [mm_unit _ _ hk, Int.mul_one]
    have e2 : ∀ i k, i < form.length → k < form.length → mm form.length (mirF form w) (mm form.length (mirF form w) (prodM form a)) i k = dot3 form w w * dot3 form w w * prodM form a i k := by
      intro i k hi hk
      rw [← mm_assoc, mm_congr (mir_mm h1 h3 hw) (fun _ _ _ _ => rfl) i k hi hk, unit_mm _ _ hi]
    have e3 : mm form.length (prodM form (w :: a).reverse) (prodM form (w :: a)) i k = mm form.length (prodM form a.reverse) (mm form.length (mirF form w) (mm form.length (mirF form w) (prodM form a))) i k := by
      rw [mm_congr e1 (fun _ _ _ _ => rfl) i k hi hk, mm_assoc]; rfl
    have e4 : mm form.length (prodM form a.reverse) (fun i k => dot3 form w w * dot3 form w w * prodM form a i k) i k = dot3 form w w * dot3 form w w * mm form.length (prodM form a.reverse) (prodM form a) i k := by
      unfold mm
      rw [← sumN_mul]
      exact sumN_congr _ _ _ (fun j _ => by grind)
    rw [e3, mm_congr (fun _ _ _ _ => rfl) e2 i k hi hk, e4, ih i k hi hk]
    show _ = unit (dot3 form w w * prodQ form a * (dot3 form w w * prodQ form a)) i k
    unfold unit; split <;> grind
theorem ofGo_ok (form : List Int) : ∀ (l : List (List Int)) (A : List (List Int)) (d : Int), mvB form A d = true → (ofGo form l A d).2.2 = true →
    mvB form (ofGo form l A d).1 (ofGo form l A d).2.1 = true ∧ (∀ w ∈ l, (mirB form w).2.2 = true) ∧
      ∀ i k, i < form.length → k < form.length → (ofGo form l A d).2.1 * mm form.length (ent A) (prodM form l) i k = d * prodQ form l * ent (ofGo form l A d).1 i k
  | [], A, d, hA, _ => by
    refine ⟨hA, by simp, fun i k hi hk => ?_⟩
    show d * mm form.length (ent A) (unit 1) i k = d * 1 * ent A i k
    rw [mm_unit _ _ hk]; grind
  | w :: ws, A, d, hA, h => by
    unfold ofGo at h ⊢
    by_cases e1 : (mirB form w).2.2 = true
    · rw [if_pos e1] at h ⊢
      by_cases e2 : (mulB form A d (mirB form w).1 (mirB form w).2.1).2.2 = true
      · rw [if_pos e2] at h ⊢
        obtain ⟨_, _, _, _, hM, g, g0, gq, ge⟩ := mirB_ok e1
        obtain ⟨_, _, hN, k0, kp, kd, ke⟩ := mulB_ok e2
        obtain ⟨r1, r2, r3⟩ := ofGo_ok form ws _ _ hN h
        refine ⟨r1, fun v hv => ?_, fun i k hi hk => ?_⟩
        · rcases List.mem_cons.1 hv with rfl | hv
          · exact e1
          · exact r2 v hv
        · have s := r3 i k hi hk
          have e3 : mm form.length (ent A) (mm form.length (mirF form w) (prodM form ws)) i k = g * k0 * mm form.length (ent (mulB form A d (mirB form w).1 (mirB form w).2.1).1) (prodM form ws) i k := by
            rw [← mm_assoc]
            have e4 : ∀ i k, i < form.length → k < form.length → mm form.length (ent A) (mirF form w) i k = g * k0 * ent (mulB form A d (mirB form w).1 (mirB form w).2.1).1 i k := by
              intro i k hi hk
              rw [mm_congr (fun _ _ _ _ => rfl) ge i k hi hk, Int.mul_assoc, ← ke i k hi hk]
              unfold mm
              rw [← sumN_mul]
              exact sumN_congr _ _ _ (fun j _ => by grind)
            rw [mm_congr e4 (fun _ _ _ _ => rfl) i k hi hk]
            unfold mm
            rw [← sumN_mul]
            exact sumN_congr _ _ _ (fun j _ => by grind)
          show (ofGo form ws _ _).2.1 * mm form.length (ent A) (mm form.length (mirF form w) (prodM form ws)) i k = d * (dot3 form w w * prodQ form ws) * ent (ofGo form ws _ _).1 i k
          rw [e3, gq]
          generalize mm form.length (ent (mulB form A d (mirB form w).1 (mirB form w).2.1).1) (prodM form ws) i k = X at *
          generalize ent (ofGo form ws (mulB form A d (mirB form w).1 (mirB form w).2.1).1 (mulB form A d (mirB form w).1 (mirB form w).2.1).2.1).1 i k = Y at *
          generalize (ofGo form ws (mulB form A d (mirB form w).1 (mirB form w).2.1).1 (mulB form A d (mirB form w).1 (mirB form w).2.1).2.1).2.1 = dc at *
          generalize (mulB form A d (mirB form w).1 (mirB form w).2.1).2.1 = dn at *
          generalize (mirB form w).2.1 = dm at *
          generalize prodQ form ws = Q at *
          have : dc * (g * k0 * X) = g * k0 * (dc * X) := by grind
          rw [this, s]
          have : d * (g * dm * Q) * Y = g * Q * Y * (d * dm) := by grind
          rw [this, kd]; grind
      · rw [if_neg e2] at h; simp at h
    · rw [if_neg e1] at h; simp at h
theorem ofB_ok {form : List Int} {l : List (List Int)} (h : (ofB form l).2.2 = true) :
    fOk form = true ∧ form.length ≤ 3 ∧ mvB form (ofB form l).1 (ofB form l).2.1 = true ∧ (∀ w ∈ l, (mirB form w).2.2 = true) ∧
      ∀ i k, i < form.length → k < form.length → (ofB form l).2.1 * prodM form l i k = prodQ form l * ent (ofB form l).1 i k := by
  unfold ofB at h ⊢
  by_cases hv : fOk form = true ∧ form.length ≤ 3 ∧ l.length ≤ 6
  · rw [if_pos hv] at h ⊢
    obtain ⟨r1, r2, r3⟩ := ofGo_ok form l _ _ (stay_valid form hv.1 hv.2.1) h
    refine ⟨hv.1, hv.2.1, r1, r2, fun i k hi hk => ?_⟩
    have := r3 i k hi hk
    rw [mm_congr (f' := unit 1) (g' := prodM form l) (fun i k hi hk => by unfold stayR; rw [ent_mat hi hk]; rfl) (fun _ _ _ _ => rfl) i k hi hk, unit_mm _ _ hi] at this
    grind
  · rw [if_neg hv] at h; simp at h
theorem mir_vec {form : List Int} {l : List (List Int)} (h : ∀ w ∈ l, (mirB form w).2.2 = true) : (∀ w ∈ l, w.length = form.length) ∧ ∀ w ∈ l, dot3 form w w ≠ 0 :=
  ⟨fun w hw => vOk_len (mirB_ok (h w hw)).2.2.1, fun w hw => (mirB_ok (h w hw)).2.2.2.1⟩
end Go.Proofs.Ytnbeeogmaamgdaa.Aid
