/- Plain mathematics on moves: products, inverses, determinants, lowest terms, mirrors. No program in sight. -/
import Derived.Test.YtnbeeogmaamgdaaMat
namespace Go.Proofs.Ytnbeeogmaamgdaa.Aid
open Go.RowKit Go.Proofs.YtnbeeogmaamgdaaW.PrintWords Go.Proofs.YtnbeeogmaamgdaaW.PrintLast Go.Proofs.YtnbeeogmaamgdaaW.PrintMore
def mm (n : Nat) (f g : Nat → Nat → Int) (i k : Nat) : Int := sumN n (fun j => f i j * g j k)
def unit (c : Int) (i k : Nat) : Int := if i = k then c else 0
theorem mm_congr {n : Nat} {f f' g g' : Nat → Nat → Int} (hf : ∀ i k, i < n → k < n → f i k = f' i k) (hg : ∀ i k, i < n → k < n → g i k = g' i k) (i k : Nat) (hi : i < n) (hk : k < n) : mm n f g i k = mm n f' g' i k :=
  sumN_congr _ _ _ (fun j hj => by rw [hf i j hi hj, hg j k hj hk])
theorem mm_assoc (n : Nat) (f g h : Nat → Nat → Int) (i k : Nat) : mm n (mm n f g) h i k = mm n f (mm n g h) i k := by
  unfold mm
  have e1 : ∀ j, sumN n (fun l => f i l * g l j) * h j k = sumN n (fun l => f i l * g l j * h j k) := fun j => (sumN_mulr n _ _).symm
  have e2 : ∀ l, f i l * sumN n (fun j => g l j * h j k) = sumN n (fun j => f i l * (g l j * h j k)) := fun l => (sumN_mul n _ _).symm
  rw [sumN_congr n _ _ (fun j _ => e1 j), sumN_congr n (fun j => f i j * sumN n fun j_1 => g j j_1 * h j_1 k) _ (fun l _ => e2 l), sumN_swap]
  exact sumN_congr _ _ _ (fun l _ => sumN_congr _ _ _ (fun j _ => Int.mul_assoc _ _ _))
theorem mm_unit {n : Nat} (f : Nat → Nat → Int) (c : Int) {i k : Nat} (hk : k < n) : mm n f (unit c) i k = f i k * c := by
  unfold mm
  rw [sumN_one n k hk _ (fun j _ hne => by unfold unit; rw [if_neg hne, Int.mul_zero])]
  unfold unit; rw [if_pos rfl]
theorem unit_mm {n : Nat} (f : Nat → Nat → Int) (c : Int) {i k : Nat} (hi : i < n) : mm n (unit c) f i k = c * f i k := by
  unfold mm
  rw [sumN_one n i hi _ (fun j _ hne => by unfold unit; rw [if_neg (fun e => hne e.symm), Int.zero_mul])]
  unfold unit; rw [if_pos rfl]
def detF (n : Nat) (f : Nat → Nat → Int) : Int :=
  match n with
  | 1 => f 0 0
  | 2 => f 0 0 * f 1 1 - f 0 1 * f 1 0
  | 3 => f 0 0 * (f 1 1 * f 2 2 - f 1 2 * f 2 1) + f 0 1 * (f 1 2 * f 2 0 - f 1 0 * f 2 2) + f 0 2 * (f 1 0 * f 2 1 - f 1 1 * f 2 0)
  | _ => 0
theorem det_congr {n : Nat} (h3 : n ≤ 3) {f g : Nat → Nat → Int} (h : ∀ i k, i < n → k < n → f i k = g i k) : detF n f = detF n g := by
  rcases (by omega : n = 0 ∨ n = 1 ∨ n = 2 ∨ n = 3) with rfl | rfl | rfl | rfl
  · rfl
  · exact h 0 0 (by omega) (by omega)
  · simp only [detF]; rw [h 0 0 (by omega) (by omega), h 0 1 (by omega) (by omega), h 1 0 (by omega) (by omega), h 1 1 (by omega) (by omega)]
  · simp only [detF]
    rw [h 0 0 (by omega) (by omega), h 0 1 (by omega) (by omega), h 0 2 (by omega) (by omega), h 1 0 (by omega) (by omega), h 1 1 (by omega) (by omega), h 1 2 (by omega) (by omega), h 2 0 (by omega) (by omega), h 2 1 (by omega) (by omega), h 2 2 (by omega) (by omega)]
theorem det_mul {n : Nat} (h1 : 1 ≤ n) (h3 : n ≤ 3) (f g : Nat → Nat → Int) : detF n (mm n f g) = detF n f * detF n g := by
  rcases (by omega : n = 1 ∨ n = 2 ∨ n = 3) with rfl | rfl | rfl <;> simp only [detF, mm, sumN] <;> grind
theorem det_unit {n : Nat} (h1 : 1 ≤ n) (h3 : n ≤ 3) (c : Int) : detF n (unit c) = c ^ n := by
  rcases (by omega : n = 1 ∨ n = 2 ∨ n = 3) with rfl | rfl | rfl <;> simp [detF, unit] <;> grind
def adj (n : Nat) (f : Nat → Nat → Int) (i k : Nat) : Int :=
  match n with
  | 1 => 1
  | 2 => if i = k then f (1 - i) (1 - k) else - f i k
  | _ => f ((k + 1) % 3) ((i + 1) % 3) * f ((k + 2) % 3) ((i + 2) % 3) - f ((k + 1) % 3) ((i + 2) % 3) * f ((k + 2) % 3) ((i + 1) % 3)
theorem mm_adj {n : Nat} (h1 : 1 ≤ n) (h3 : n ≤ 3) (f : Nat → Nat → Int) (i k : Nat) (hi : i < n) (hk : k < n) : mm n f (adj n f) i k = unit (detF n f) i k := by
  rcases (by omega : n = 1 ∨ n = 2 ∨ n = 3) with rfl | rfl | rfl
  · obtain rfl : i = 0 := by omega
    obtain rfl : k = 0 := by omega
    simp [detF, mm, sumN, adj, unit]
  · rcases (by omega : i = 0 ∨ i = 1) with rfl | rfl <;> rcases (by omega : k = 0 ∨ k = 1) with rfl | rfl <;> simp [detF, mm, sumN, adj, unit] <;> grind
  · rcases (by omega : i = 0 ∨ i = 1 ∨ i = 2) with rfl | rfl | rfl <;> rcases (by omega : k = 0 ∨ k = 1 ∨ k = 2) with rfl | rfl | rfl <;> simp [detF, mm, sumN, adj, unit] <;> grind
theorem inv_comm {n : Nat} (h1 : 1 ≤ n) (h3 : n ≤ 3) {f b : Nat → Nat → Int} {c : Int} (hc : c ≠ 0) (h : ∀ i k, i < n → k < n → mm n b f i k = unit c i k) : ∀ i k, i < n → k < n → mm n f b i k = unit c i k := by
  have hd : detF n f ≠ 0 := by
    intro e
    have := det_mul h1 h3 b f
    rw [det_congr h3 h, det_unit h1 h3, e, Int.mul_zero] at this
    exact Int.pow_ne_zero hc this
  have e1 : ∀ i k, i < n → k < n → b i k * detF n f = c * adj n f i k := by
    intro i k hi hk
    rw [← mm_unit b (detF n f) hk, ← unit_mm (adj n f) c hi, ← mm_congr (fun _ _ _ _ => rfl) (mm_adj h1 h3 f) i k hi hk, ← mm_assoc]
    exact mm_congr h (fun _ _ _ _ => rfl) i k hi hk
  intro i k hi hk
  have e2 : mm n f b i k * detF n f = mm n f (fun i k => c * adj n f i k) i k := by
    unfold mm
    rw [← sumN_mulr]
    refine sumN_congr _ _ _ (fun j hj => ?_)
    rw [Int.mul_assoc, e1 j k hj hk]
  have e3 : mm n f (fun i k => c * adj n f i k) i k = c * mm n f (adj n f) i k := by
    unfold mm
    rw [← sumN_mul]
    exact sumN_congr _ _ _ (fun j _ => by grind)
  rw [e3, mm_adj h1 h3 f i k hi hk] at e2
  refine Int.eq_of_mul_eq_mul_right hd ?_
  rw [e2]; unfold unit; split <;> grind
theorem ent_mat {n : Nat} {f : Nat → Nat → Int} {i k : Nat} (hi : i < n) (hk : k < n) : ent (mat n f) i k = f i k := by
  unfold ent; rw [mat_at hi, rd_range hk]
theorem ent_scale (g : Int) (A : List (List Int)) (i k : Nat) : ent (scale g A) i k = g * ent A i k := by
  unfold ent scale
  rw [rd_at, rd_at]
  rcases Nat.lt_or_ge i A.length with h | h
  · rw [getD_at (by rw [List.length_map]; exact h), getD_at h, List.getElem_map]
    rcases Nat.lt_or_ge k A[i].length with h2 | h2
    · simp [h2]
    · simp [h2]
  · simp [h]
theorem mulF_mm {n : Nat} {A B : List (List Int)} (hA : A.length = n) (hr : ∀ r ∈ A, r.length = n) (hB : B.length = n) {i k : Nat} (hi : i < n) : mulF A B i k = mm n (ent A) (ent B) i k := by
  have h1 : i < A.length := by omega
  unfold mulF mm
  rw [getD_at h1, dot2_sum n _ _ (hr _ (List.getElem_mem h1)) (by rw [colL_len, hB])]
  refine sumN_congr _ _ _ (fun j hj => ?_)
  have h2 : j < B.length := by omega
  unfold ent colL
  rw [getD_at h1, getD_at h2]
  congr 1
  rw [rd_at, rd_at, List.getD_eq_getElem?_getD, List.getElem?_map, List.getElem?_eq_getElem h2]
  simp [rd_at]
theorem lowB_ok {form : List Int} {rows : List (List Int)} {den : Int} (hd : den ≠ 0) (h : (lowB form rows den).2.2 = true) :
    mvB form (lowB form rows den).1 (lowB form rows den).2.1 = true ∧ ∃ g : Int, g ≠ 0 ∧ rows = scale g (lowB form rows den).1 ∧ den = g * (lowB form rows den).2.1 := by
  have hg := gcd_pos hd rows.flatten
  obtain ⟨g1, g2⟩ := gcd_dvd den rows.flatten
  have e0 : lowD rows den ≠ 0 ∧ lowD rows den ∣ den ∧ ∀ x ∈ rows.flatten, lowD rows den ∣ x := by
    unfold lowD
    split
    · exact ⟨by omega, Int.neg_dvd.2 g1, fun x hx => Int.neg_dvd.2 (g2 x hx)⟩
    · exact ⟨by omega, g1, g2⟩
  unfold lowB at h ⊢
  by_cases hv : mvB form (lowR rows den) (Int.tdiv den (lowD rows den)) = true
  · rw [if_pos hv] at h ⊢
    refine ⟨hv, lowD rows den, e0.1, ?_, (Int.mul_tdiv_cancel' e0.2.1).symm⟩
    unfold scale lowR
    rw [List.map_map]
    conv => lhs; rw [← List.map_id rows]
    refine List.map_congr_left (fun r hr => ?_)
    exact map_tdiv r (fun x hx => e0.2.2 x (List.mem_flatten.2 ⟨r, hr, hx⟩))
  · rw [if_neg hv] at h; simp at h
theorem mem_flat_ent {n : Nat} {A : List (List Int)} (hA : A.length = n) (hr : ∀ r ∈ A, r.length = n) {x : Int} (hx : x ∈ A.flatten) : ∃ i k, i < n ∧ k < n ∧ x = ent A i k := by
  obtain ⟨r, h1, h2⟩ := List.mem_flatten.1 hx
  obtain ⟨i, hi, rfl⟩ := List.getElem_of_mem h1
  obtain ⟨k, hk, rfl⟩ := List.getElem_of_mem h2
  have := hr _ (List.getElem_mem hi)
  exact ⟨i, k, by omega, by omega, by unfold ent; rw [getD_at hi, rd_at]; simp [hk]⟩
theorem move_uniq {form : List Int} {A B : List (List Int)} {d e : Int} (hA : mvB form A d = true) (hB : mvB form B e = true) (h : ∀ i k, i < form.length → k < form.length → e * ent A i k = d * ent B i k) : A = B ∧ d = e := by
  obtain ⟨_, _, la, da, ra, ga, _⟩ := mvB_of hA
  obtain ⟨_, _, lb, db, rb, gb, _⟩ := mvB_of hB
  have half : ∀ (A B : List (List Int)) (d e : Int), A.length = form.length → (∀ r ∈ A, r.length = form.length) → gcdL 0 (d :: A.flatten) = 1 → (∀ i k, i < form.length → k < form.length → e * ent A i k = d * ent B i k) → d.natAbs ∣ e.natAbs := by
    intro A B d e la ra ga h
    have := gcdL_scale e (d :: A.flatten) 0
    rw [ga, Nat.mul_zero, Nat.mul_one] at this
    rw [← this]
    refine gcdL_great _ _ _ (Nat.dvd_zero _) (fun x hx => ?_)
    rw [List.map_cons] at hx
    rcases List.mem_cons.1 hx with rfl | hx
    · rw [Int.natAbs_mul]; exact Nat.dvd_mul_left _ _
    · obtain ⟨y, hy, rfl⟩ := List.mem_map.1 hx
      obtain ⟨i, k, hi, hk, rfl⟩ := mem_flat_ent la ra hy
      show d.natAbs ∣ (e * ent A i k).natAbs
      rw [h i k hi hk, Int.natAbs_mul]; exact Nat.dvd_mul_right _ _
  have h1 := half A B d e la (fun r hr => vOk_len (ra r hr)) ga h
  have h2 := half B A e d lb (fun r hr => vOk_len (rb r hr)) gb (fun i k hi hk => (h i k hi hk).symm)
  have hde : d = e := by have := Nat.dvd_antisymm h1 h2; omega
  subst hde
  refine ⟨?_, rfl⟩
  rw [mvB_mat_eq hA, mvB_mat_eq hB]
  exact mat_congr (fun i k hi hk => Int.eq_of_mul_eq_mul_left (by omega) (h i k hi hk))
theorem mulB_ok {form : List Int} {A : List (List Int)} {da : Int} {B : List (List Int)} {db : Int} (h : (mulB form A da B db).2.2 = true) :
    mvB form A da = true ∧ mvB form B db = true ∧ mvB form (mulB form A da B db).1 (mulB form A da B db).2.1 = true ∧ ∃ g : Int, 0 < g ∧ da * db = g * (mulB form A da B db).2.1 ∧
      ∀ i k, i < form.length → k < form.length → mm form.length (ent A) (ent B) i k = g * ent (mulB form A da B db).1 i k := by
  unfold mulB at h ⊢
  by_cases hv : mvB form A da = true ∧ mvB form B db = true
  · rw [if_pos hv] at h ⊢
    obtain ⟨_, _, la, hda, ra, _⟩ := mvB_of hv.1
    obtain ⟨_, _, lb, hdb, rb, _⟩ := mvB_of hv.2
    have hd : 0 < da * db := Int.mul_pos (by omega) (by omega)
    obtain ⟨h1, g, g0, g1, g2⟩ := lowB_ok (by omega) h
    refine ⟨hv.1, hv.2, h1, g, ?_, g2, fun i k hi hk => ?_⟩
    · have hc := (mvB_of h1).2.2.2.1
      rcases (by omega : g < 0 ∨ 0 < g) with q | q
      · have := Int.mul_neg_of_neg_of_pos q (show 0 < (lowB form (mulR form.length A B) (da * db)).2.1 by omega); omega
      · exact q
    · rw [← mulF_mm la (fun r hr => vOk_len (ra r hr)) lb hi, ← ent_scale, ← g1]
      unfold mulR; rw [ent_mat hi hk]
  · rw [if_neg hv] at h; simp at h
theorem diag_sum (form : List Int) (d : Nat → Int) (hd : ∀ k, d k * d k = 1) : ∀ a, a < form.length → ∀ b, b < form.length →
    sumN form.length (fun k => rd form (k : Int) * (if k = a then d k else 0) * (if k = b then d k else 0)) = if a = b then rd form (a : Int) * 1 * 1 else 0 := by
  intro a ha b hb
  rw [sumN_one form.length a ha _ (fun k _ hne => by rw [if_neg hne]; simp), if_pos rfl]
  by_cases h : a = b
  · subst h; rw [if_pos rfl, if_pos rfl, Int.mul_assoc, hd]; simp
  · rw [if_neg h, if_neg h]; simp
theorem diag_valid (form : List Int) (d : Nat → Int) (hf : fOk form = true) (h3 : form.length ≤ 3) (hd : ∀ k, d k = 1 ∨ d k = -1) : mvB form (mat form.length fun i k => if i = k then d i else 0) 1 = true := by
  refine mvB_mat hf h3 (by omega) (fun i k _ _ => ?_) (stay_gcd _) ?_
  · split
    · rcases hd i with h | h <;> rw [h] <;> omega
    · omega
  · exact diag_sum form d (fun k => by rcases hd k with h | h <;> rw [h] <;> rfl)
theorem stay_valid (form : List Int) (hf : fOk form = true) (h3 : form.length ≤ 3) : mvB form (stayR form.length) 1 = true := by
  have := diag_valid form (fun _ => 1) hf h3 (fun _ => .inl rfl)
  exact this
end Go.Proofs.Ytnbeeogmaamgdaa.Aid
