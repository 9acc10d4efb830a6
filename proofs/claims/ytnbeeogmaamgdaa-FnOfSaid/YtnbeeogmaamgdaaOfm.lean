/- Plain mathematics on products of mirrors. No program in sight. -/
import Derived.Test.YtnbeeogmaamgdaaMir
import Derived.Test.YtnbeeogmaamgdaaBk
namespace Go.Proofs.Ytnbeeogmaamgdaa.Aid
open Go.RowKit Go.Proofs.YtnbeeogmaamgdaaW.PrintWords Go.Proofs.YtnbeeogmaamgdaaW.PrintLast Go.Proofs.YtnbeeogmaamgdaaW.PrintMore

/-- Mirrors multiplied, over the product of their values. -/
def prodM (form : List Int) : List (List Int) → Nat → Nat → Int
  | [] => unit 1
  | w :: ws => mm form.length (mirF form w) (prodM form ws)
/-- The product of the values of vectors. -/
def prodQ (form : List Int) : List (List Int) → Int
  | [] => 1
  | w :: ws => dot3 form w w * prodQ form ws
theorem prodM_app (form : List Int) (b : List (List Int)) : ∀ (a : List (List Int)) (i k : Nat), i < form.length → k < form.length → prodM form (a ++ b) i k = mm form.length (prodM form a) (prodM form b) i k
  | [], i, k, hi, _ => by
    show prodM form b i k = mm form.length (unit 1) (prodM form b) i k
    rw [unit_mm _ _ hi, Int.one_mul]
  | w :: a, i, k, hi, hk => by
    show mm form.length (mirF form w) (prodM form (a ++ b)) i k = mm form.length (mm form.length (mirF form w) (prodM form a)) (prodM form b) i k
    rw [mm_assoc]
    exact mm_congr (fun _ _ _ _ => rfl) (prodM_app form b a) i k hi hk
theorem prodQ_app (form : List Int) (b : List (List Int)) : ∀ (a : List (List Int)), prodQ form (a ++ b) = prodQ form a * prodQ form b
  | [] => by simp [prodQ]
  | w :: a => by
    show dot3 form w w * prodQ form (a ++ b) = dot3 form w w * prodQ form a * prodQ form b
    rw [prodQ_app form b a, Int.mul_assoc]
theorem prodQ_rev (form : List Int) : ∀ (a : List (List Int)), prodQ form a.reverse = prodQ form a
  | [] => rfl
  | w :: a => by
    rw [List.reverse_cons, prodQ_app, prodQ_rev form a]
    show prodQ form a * (dot3 form w w * 1) = dot3 form w w * prodQ form a
    rw [Int.mul_one, Int.mul_comm]
theorem prodQ_ne (form : List Int) : ∀ (a : List (List Int)), (∀ w ∈ a, dot3 form w w ≠ 0) → prodQ form a ≠ 0
  | [], _ => by simp [prodQ]
  | w :: a, h => Int.mul_ne_zero (h w (by simp)) (prodQ_ne form a (fun v hv => h v (by simp [hv])))
/-- Mirrors in the opposite order, times the mirrors. -/
theorem rev_mm {form : List Int} (h1 : 1 ≤ form.length) (h3 : form.length ≤ 3) : ∀ (a : List (List Int)), (∀ w ∈ a, w.length = form.length) → ∀ (i k : Nat), i < form.length → k < form.length →
    mm form.length (prodM form a.reverse) (prodM form a) i k = unit (prodQ form a * prodQ form a) i k
  | [], _, i, k, hi, _ => by
    show mm form.length (unit 1) (unit 1) i k = unit (1 * 1) i k
    rw [unit_mm _ _ hi, Int.one_mul]; rfl
  | w :: a, h, i, k, hi, hk => by
    have ih := rev_mm h1 h3 a (fun v hv => h v (by simp [hv]))
    have hw := h w (by simp)
    have e1 : ∀ i k, i < form.length → k < form.length → prodM form (w :: a).reverse i k = mm form.length (prodM form a.reverse) (mirF form w) i k := by
      intro i k hi hk
      rw [List.reverse_cons, prodM_app form [w] a.reverse i k hi hk]
      refine mm_congr (fun _ _ _ _ => rfl) (fun i k hi hk => ?_) i k hi hk
      show mm form.length (mirF form w) (unit 1) i k = _
      rw [mm_unit _ _ hk, Int.mul_one]
    have e2 : ∀ i k, i < form.length → k < form.length → mm form.length (mirF form w) (mm form.length (mirF form w) (prodM form a)) i k = dot3 form w w * dot3 form w w * prodM form a i k := by
      intro i k hi hk
      rw [← mm_assoc, mm_congr (mir_mm h1 h3 hw) (fun _ _ _ _ => rfl) i k hi hk, unit_mm _ _ hi]
    have e3 : mm form.length (prodM form (w :: a).reverse) (prodM form (w :: a)) i k = mm form.length (prodM form a.reverse) (mm form.length (mirF form w) (mm form.length (mirF form w) (prodM form a))) i k := by
      rw [mm_congr e1 (fun _ _ _ _ => rfl) i k hi hk, mm_assoc]; rfl
    have e4 : mm form.length (prodM form a.reverse) (fun i k => dot3 form w w * dot3 form w w * prodM form a i k) i k = dot3 form w w * dot3 form w w * mm form.length (prodM form a.reverse) (prodM form a) i k := by
      unfold mm
      rw [← sumN_mul]
      exact sumN_congr _ _ _ (fun j _ => by grind)
    rw [e3, mm_congr (fun _ _ _ _ => rfl) e2 i k hi hk, e4, ih i k hi hk]
    show _ = unit (dot3 form w w * prodQ form a * (dot3 form w w * prodQ form a)) i k
    unfold unit; split <;> grind
theorem det_prod {form : List Int} (h1 : 1 ≤ form.length) (h3 : form.length ≤ 3) : ∀ (a : List (List Int)), (∀ w ∈ a, w.length = form.length) → detF form.length (prodM form a) = (-1) ^ a.length * prodQ form a ^ form.length
  | [], _ => by
    show detF form.length (unit 1) = _
    rw [det_unit h1 h3]; simp [prodQ]
  | w :: a, h => by
    have ih := det_prod h1 h3 a (fun v hv => h v (by simp [hv]))
    show detF form.length (mm form.length (mirF form w) (prodM form a)) = (-1) ^ (a.length + 1) * (dot3 form w w * prodQ form a) ^ form.length
    have e : (dot3 form w w * prodQ form a) ^ form.length = dot3 form w w ^ form.length * prodQ form a ^ form.length := Int.mul_pow
    rw [det_mul h1 h3, mir_det h1 h3 (h w (by simp)), ih, e, Int.pow_succ]
    generalize (-1 : Int) ^ a.length = s
    generalize dot3 form w w ^ form.length = x
    generalize prodQ form a ^ form.length = y
    grind
/-- What mirrors make, one after the other. -/
theorem ofGo_ok (form : List Int) : ∀ (l : List (List Int)) (A : List (List Int)) (d : Int), mvB form A d = true → (ofGo form l A d).2.2 = true →
    mvB form (ofGo form l A d).1 (ofGo form l A d).2.1 = true ∧ (∀ w ∈ l, (mirB form w).2.2 = true) ∧
      ∀ i k, i < form.length → k < form.length → (ofGo form l A d).2.1 * mm form.length (ent A) (prodM form l) i k = d * prodQ form l * ent (ofGo form l A d).1 i k
  | [], A, d, hA, _ => by
    refine ⟨hA, by simp, fun i k hi hk => ?_⟩
    show d * mm form.length (ent A) (unit 1) i k = d * 1 * ent A i k
    rw [mm_unit _ _ hk]; grind
  | w :: ws, A, d, hA, h => by
    unfold ofGo at h ⊢
    by_cases e1 : (mirB form w).2.2 = true
    · rw [if_pos e1] at h ⊢
      by_cases e2 : (mulB form A d (mirB form w).1 (mirB form w).2.1).2.2 = true
      · rw [if_pos e2] at h ⊢
        obtain ⟨_, _, _, _, hM, g, g0, gq, ge⟩ := mirB_ok e1
        obtain ⟨_, _, hN, k0, kp, kd, ke⟩ := mulB_ok e2
        obtain ⟨r1, r2, r3⟩ := ofGo_ok form ws _ _ hN h
        refine ⟨r1, fun v hv => ?_, fun i k hi hk => ?_⟩
        · rcases List.mem_cons.1 hv with rfl | hv
          · exact e1
          · exact r2 v hv
        · have s := r3 i k hi hk
          have e3 : mm form.length (ent A) (mm form.length (mirF form w) (prodM form ws)) i k = g * k0 * mm form.length (ent (mulB form A d (mirB form w).1 (mirB form w).2.1).1) (prodM form ws) i k := by
            rw [← mm_assoc]
            have e4 : ∀ i k, i < form.length → k < form.length → mm form.length (ent A) (mirF form w) i k = g * k0 * ent (mulB form A d (mirB form w).1 (mirB form w).2.1).1 i k := by
              intro i k hi hk
              rw [mm_congr (fun _ _ _ _ => rfl) ge i k hi hk, Int.mul_assoc, ← ke i k hi hk]
              unfold mm
              rw [← sumN_mul]
              exact sumN_congr _ _ _ (fun j _ => by grind)
            rw [mm_congr e4 (fun _ _ _ _ => rfl) i k hi hk]
            unfold mm
            rw [← sumN_mul]
            exact sumN_congr _ _ _ (fun j _ => by grind)
          show (ofGo form ws _ _).2.1 * mm form.length (ent A) (mm form.length (mirF form w) (prodM form ws)) i k = d * (dot3 form w w * prodQ form ws) * ent (ofGo form ws _ _).1 i k
          rw [e3, gq]
          generalize mm form.length (ent (mulB form A d (mirB form w).1 (mirB form w).2.1).1) (prodM form ws) i k = X at *
          generalize ent (ofGo form ws (mulB form A d (mirB form w).1 (mirB form w).2.1).1 (mulB form A d (mirB form w).1 (mirB form w).2.1).2.1).1 i k = Y at *
          generalize (ofGo form ws (mulB form A d (mirB form w).1 (mirB form w).2.1).1 (mulB form A d (mirB form w).1 (mirB form w).2.1).2.1).2.1 = dc at *
          generalize (mulB form A d (mirB form w).1 (mirB form w).2.1).2.1 = dn at *
          generalize (mirB form w).2.1 = dm at *
          generalize prodQ form ws = Q at *
          have : dc * (g * k0 * X) = g * k0 * (dc * X) := by grind
          rw [this, s]
          have : d * (g * dm * Q) * Y = g * Q * Y * (d * dm) := by grind
          rw [this, kd]; grind
      · rw [if_neg e2] at h; simp at h
    · rw [if_neg e1] at h; simp at h
/-- The parts of what mirrors make. -/
theorem ofB_ok {form : List Int} {l : List (List Int)} (h : (ofB form l).2.2 = true) :
    fOk form = true ∧ form.length ≤ 3 ∧ mvB form (ofB form l).1 (ofB form l).2.1 = true ∧ (∀ w ∈ l, (mirB form w).2.2 = true) ∧
      ∀ i k, i < form.length → k < form.length → (ofB form l).2.1 * prodM form l i k = prodQ form l * ent (ofB form l).1 i k := by
  unfold ofB at h ⊢
  by_cases hv : fOk form = true ∧ form.length ≤ 3 ∧ l.length ≤ 6
  · rw [if_pos hv] at h ⊢
    obtain ⟨r1, r2, r3⟩ := ofGo_ok form l _ _ (stay_valid form hv.1 hv.2.1) h
    refine ⟨hv.1, hv.2.1, r1, r2, fun i k hi hk => ?_⟩
    have := r3 i k hi hk
    rw [mm_congr (f' := unit 1) (g' := prodM form l) (fun i k hi hk => by unfold stayR; rw [ent_mat hi hk]; rfl) (fun _ _ _ _ => rfl) i k hi hk, unit_mm _ _ hi] at this
    grind
  · rw [if_neg hv] at h; simp at h
theorem mir_vec {form : List Int} {l : List (List Int)} (h : ∀ w ∈ l, (mirB form w).2.2 = true) : (∀ w ∈ l, w.length = form.length) ∧ ∀ w ∈ l, dot3 form w w ≠ 0 :=
  ⟨fun w hw => vOk_len (mirB_ok (h w hw)).2.2.1, fun w hw => (mirB_ok (h w hw)).2.2.2.1⟩
/-- The sign of what mirrors make. -/
theorem of_sign {form : List Int} {l : List (List Int)} (h : (ofB form l).2.2 = true) : signB form (ofB form l).1 (ofB form l).2.1 = if l.length % 2 = 0 then 1 else -1 := by
  obtain ⟨hf, h3, hm, hw, he⟩ := ofB_ok h
  obtain ⟨w1, w2⟩ := mir_vec hw
  have h1 := (fOk_len hf).1
  have hd := (mvB_of hm).2.2.2.1
  have hQ := prodQ_ne form l w2
  have e : detF form.length (fun i k => (ofB form l).2.1 * prodM form l i k) = detF form.length (fun i k => prodQ form l * ent (ofB form l).1 i k) := det_congr h3 he
  rw [det_scale h1 h3, det_scale h1 h3, det_prod h1 h3 l w1] at e
  have pd : 0 < (ofB form l).2.1 ^ form.length := Int.pow_pos (by omega)
  have e2 : (ofB form l).2.1 ^ form.length * (-1) ^ l.length = detF form.length (ent (ofB form l).1) := by
    refine Int.eq_of_mul_eq_mul_left (show prodQ form l ^ form.length ≠ 0 from Int.pow_ne_zero hQ) ?_
    rw [← e]; grind
  rw [signB_det hm, ← e2]
  rcases (by omega : l.length % 2 = 0 ∨ l.length % 2 = 1) with k | k
  · have : (-1 : Int) ^ l.length = 1 := by
      rw [show l.length = 2 * (l.length / 2) by omega, Int.pow_mul, show ((-1 : Int)) ^ 2 = 1 from rfl, Int.one_pow]
    rw [this, if_pos k, if_pos (by omega)]
  · have : (-1 : Int) ^ l.length = -1 := by
      rw [show l.length = 2 * (l.length / 2) + 1 by omega, Int.pow_succ, Int.pow_mul, show ((-1 : Int)) ^ 2 = 1 from rfl, Int.one_pow]; rfl
    rw [this, if_neg (by omega), if_neg (by omega)]
/-- Mirrors in the opposite order lead back. -/
theorem of_rev {form : List Int} {l : List (List Int)} (h : (ofB form l).2.2 = true) (hr : (ofB form l.reverse).2.2 = true) (hb : (backB form (ofB form l).1 (ofB form l).2.1).2.2 = true) :
    (ofB form l.reverse).1 = (backB form (ofB form l).1 (ofB form l).2.1).1 ∧ (ofB form l.reverse).2.1 = (backB form (ofB form l).1 (ofB form l).2.1).2.1 := by
  obtain ⟨hf, h3, hC, hw, eC⟩ := ofB_ok h
  obtain ⟨_, _, hX, _, eX⟩ := ofB_ok hr
  obtain ⟨w1, w2⟩ := mir_vec hw
  have h1 := (fOk_len hf).1
  have hQ := prodQ_ne form l w2
  have hY := (backB_ok hb).2.1
  have eY := mm_back hb
  have dC := (mvB_of hC).2.2.2.1
  rw [prodQ_rev] at eX
  generalize hcC : (ofB form l).1 = C at *
  generalize (ofB form l).2.1 = dc at *
  generalize (ofB form l.reverse).1 = X at *
  generalize (ofB form l.reverse).2.1 = dx at *
  generalize (backB form C dc).1 = Y at *
  generalize (backB form C dc).2.1 = dy at *
  have eXC : ∀ i k, i < form.length → k < form.length → mm form.length (ent X) (ent C) i k = unit (dx * dc) i k := by
    intro i k hi hk
    have a := mm_mul form.length (prodQ form l) (prodQ form l) (ent X) (ent C) i k
    rw [← mm_congr eX eC i k hi hk, mm_mul, rev_mm h1 h3 l w1 i k hi hk] at a
    refine Int.eq_of_mul_eq_mul_left (Int.mul_ne_zero hQ hQ) ?_
    rw [← a]; unfold unit; split <;> grind
  refine move_uniq hX hY (fun i k hi hk => ?_)
  have a := mm_assoc form.length (ent X) (ent C) (ent Y) i k
  rw [mm_congr eXC (fun _ _ _ _ => rfl) i k hi hk, unit_mm _ _ hi, mm_congr (fun _ _ _ _ => rfl) eY i k hi hk, mm_unit _ _ hk] at a
  refine Int.eq_of_mul_eq_mul_left (show dc ≠ 0 by omega) ?_
  grind
end Go.Proofs.Ytnbeeogmaamgdaa.Aid
