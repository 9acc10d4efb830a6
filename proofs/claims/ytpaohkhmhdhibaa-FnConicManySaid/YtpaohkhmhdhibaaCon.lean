/- Plain words on conics: points, secants, headings. No program in sight. -/
import Derived.Test.YtpaohkhmhdhibaaMat
namespace Go.Proofs.Ytpaohkhmhdhibaa.Aid
open Go.RowKit Go.Proofs.YtpaohkhmhdhibaaW.PrintWords Go.Proofs.YtpaohkhmhdhibaaW.PrintLast Go.Proofs.YtpaohkhmhdhibaaW.PrintMore
theorem ext_rd {u v : List Int} (hl : u.length = v.length) (h : ∀ i, i < u.length → rd u (i : Int) = rd v (i : Int)) : u = v := by
  refine List.ext_getElem hl (fun i h1 h2 => ?_)
  have := h i h1
  rw [rd_at, rd_at, List.getD_eq_getElem?_getD, List.getD_eq_getElem?_getD, List.getElem?_eq_getElem h1, List.getElem?_eq_getElem h2] at this
  exact this
theorem some0_rd {v : List Int} : some0 v = false ↔ ∀ i, i < v.length → rd v (i : Int) = 0 := by
  unfold some0
  rw [List.any_eq_false]
  constructor
  · intro h i hi
    have := h _ (rd_mem hi)
    simpa using this
  · intro h x hx
    obtain ⟨i, hi, rfl⟩ := List.getElem_of_mem hx
    have := h i hi
    rw [rd_at, List.getD_eq_getElem?_getD, List.getElem?_eq_getElem hi] at this
    simpa using this
theorem plain_mul {z : List Int} (h : some0 z = true) : ∃ c : Int, c ≠ 0 ∧ (plainL z).length = z.length ∧ (∀ i, i < z.length → rd z (i : Int) = c * rd (plainL z) (i : Int)) := by
  have hg : gcdL 0 z ≠ 0 := fun k => by rw [gcdL_zero, h] at k; cases k
  have hs := sgn1_cases z
  have hc : sgn1 z * (gcdL 0 z : Int) ≠ 0 := Int.mul_ne_zero (by omega) (by omega)
  refine ⟨_, hc, by unfold plainL; rw [List.length_map], fun i hi => ?_⟩
  have hd : (sgn1 z * (gcdL 0 z : Int)) ∣ z[i] := by
    have := (gcdL_mono z 0).2 _ (List.getElem_mem hi)
    have h1 : (gcdL 0 z : Int) ∣ z[i] := Int.ofNat_dvd_left.2 this
    rcases hs with e | e <;> rw [e]
    · rw [Int.one_mul]; exact h1
    · rw [show (-1 : Int) * (gcdL 0 z : Int) = -(gcdL 0 z : Int) by omega]; exact Int.neg_dvd.2 h1
  have e1 : rd z (i : Int) = z[i] := by rw [rd_at]; simp [hi]
  have e2 : rd (plainL z) (i : Int) = Int.tdiv z[i] (sgn1 z * (gcdL 0 z : Int)) := by unfold plainL; rw [rd_at]; simp [hi]
  rw [e1, e2, Int.mul_tdiv_cancel' hd]
theorem sgn1_scale {q : Int} (hq : q ≠ 0) : ∀ v : List Int, some0 v = true → sgn1 (v.map (q * ·)) = (if q < 0 then -1 else 1) * sgn1 v
  | [], h => by simp [some0] at h
  | x :: v, h => by
    by_cases hx : x = 0
    · have h1 : some0 v = true := by unfold some0 at h ⊢; simpa [hx] using h
      rw [List.map_cons, sgn1, sgn1, if_pos (by rw [hx, Int.mul_zero]), if_pos hx]; exact sgn1_scale hq v h1
    · rw [List.map_cons, sgn1, sgn1, if_neg (Int.mul_ne_zero hq hx), if_neg hx]
      rcases (by omega : q < 0 ∨ 0 < q) with a | a <;> rcases (by omega : x < 0 ∨ 0 < x) with b | b
      · have := Int.mul_pos_of_neg_of_neg a b
        rw [if_neg (by omega), if_pos a, if_pos b]; rfl
      · have := Int.mul_neg_of_neg_of_pos a b
        rw [if_pos this, if_pos a, if_neg (by omega)]; rfl
      · have := Int.mul_neg_of_pos_of_neg a b
        rw [if_pos this, if_neg (by omega), if_pos b]; rfl
      · have := Int.mul_pos a b
        rw [if_neg (by omega), if_neg (by omega), if_neg (by omega)]; rfl
theorem plainL_scale {q : Int} (hq : q ≠ 0) {v : List Int} (h : some0 v = true) : plainL (v.map (q * ·)) = plainL v := by
  have e := gcdL_scale q v 0
  rw [Nat.mul_zero] at e
  unfold plainL
  rw [sgn1_scale hq v h, e, List.map_map]
  refine List.map_congr_left (fun x hx => ?_)
  show Int.tdiv (q * x) _ = _
  have e2 : (if q < 0 then (-1 : Int) else 1) * sgn1 v * ((q.natAbs * gcdL 0 v : Nat) : Int) = q * (sgn1 v * (gcdL 0 v : Int)) := by
    rw [Int.natCast_mul]
    split
    · rw [show ((q.natAbs : Nat) : Int) = -q by omega]; grind
    · rw [show ((q.natAbs : Nat) : Int) = q by omega]; grind
  have hg : gcdL 0 v ≠ 0 := fun k => by rw [gcdL_zero, h] at k; cases k
  have hs := sgn1_cases v
  have hc : sgn1 v * (gcdL 0 v : Int) ≠ 0 := Int.mul_ne_zero (by omega) (by omega)
  have hd : (sgn1 v * (gcdL 0 v : Int)) ∣ x := by
    have h1 : (gcdL 0 v : Int) ∣ x := Int.ofNat_dvd_left.2 ((gcdL_mono v 0).2 _ hx)
    rcases hs with e | e <;> rw [e]
    · rw [Int.one_mul]; exact h1
    · rw [show (-1 : Int) * (gcdL 0 v : Int) = -(gcdL 0 v : Int) by omega]; exact Int.neg_dvd.2 h1
  rw [e2]
  generalize sgn1 v * (gcdL 0 v : Int) = c at *
  obtain ⟨y, rfl⟩ := hd
  rw [← Int.mul_assoc, Int.mul_tdiv_cancel_left _ (Int.mul_ne_zero hq hc), Int.mul_tdiv_cancel_left _ hc]
def pointB (form v : List Int) : Bool := decide (form.length = 3) && (vOk 3 1000 v && (zeroB form v && decide (plainL v = v)))
def collB (v w : List Int) : Bool := decide (rd v 0 * rd w 1 = rd v 1 * rd w 0) && (decide (rd v 0 * rd w 2 = rd v 2 * rd w 0) && decide (rd v 1 * rd w 2 = rd v 2 * rd w 1))
def outL (form v w : List Int) : List Int :=
  [dot3 form w w * rd v 0 - 2 * dot3 form v w * rd w 0, dot3 form w w * rd v 1 - 2 * dot3 form v w * rd w 1, dot3 form w w * rd v 2 - 2 * dot3 form v w * rd w 2]
def otherB (form v w : List Int) : List Int × Bool :=
  if pointB form v = true ∧ vOk 3 20 w = true ∧ collB v w = false then (if vOk 3 1000000 (plainL (outL form v w)) = true then (plainL (outL form v w), true) else ([], false)) else ([], false)
def axB (v : List Int) : Int × Int × Int := if rd v 0 ≠ 0 then (0, 1, 2) else if rd v 1 ≠ 0 then (1, 0, 2) else (2, 0, 1)
def headL (v : List Int) (s t : Int) : List Int := if rd v 0 ≠ 0 then [0, s, t] else if rd v 1 ≠ 0 then [s, 0, t] else [s, t, 0]
def atB (form v : List Int) (s t : Int) : List Int × Bool :=
  if pointB form v = true ∧ (s ≠ 0 ∨ t ≠ 0) ∧ s.natAbs ≤ 20 ∧ t.natAbs ≤ 20 then otherB form v (headL v s t) else ([], false)
def rawL (form v z : List Int) : List Int :=
  if collB v z = true then [rd form (axB v).2.2 * rd v (axB v).2.2, -(rd form (axB v).2.1) * rd v (axB v).2.1]
  else [rd z (axB v).2.1 * rd v (axB v).1 - rd v (axB v).2.1 * rd z (axB v).1, rd z (axB v).2.2 * rd v (axB v).1 - rd v (axB v).2.2 * rd z (axB v).1]
def backC (form v z : List Int) : Int × Int × Bool :=
  if pointB form v = true ∧ zeroB form z = true then (rd (plainL (rawL form v z)) 0, rd (plainL (rawL form v z)) 1, true) else (0, 0, false)
theorem zeroB_of {form v : List Int} (h : zeroB form v = true) : fOk form = true ∧ vOk form.length 1000000 v = true ∧ some0 v = true ∧ dot3 form v v = 0 := by
  unfold zeroB at h; simp only [Bool.and_eq_true, beq_iff_eq] at h; exact h
theorem pointB_of {form v : List Int} (h : pointB form v = true) : form.length = 3 ∧ vOk 3 1000 v = true ∧ zeroB form v = true ∧ plainL v = v := by
  unfold pointB at h; simp only [Bool.and_eq_true, decide_eq_true_eq] at h; exact h
theorem point_at {form v : List Int} (h : pointB form v = true) : ∃ F G H x y z : Int, form = [F, G, H] ∧ v = [x, y, z] ∧ (F ≠ 0 ∧ G ≠ 0 ∧ H ≠ 0) ∧ (-30 ≤ F ∧ F ≤ 30 ∧ -30 ≤ G ∧ G ≤ 30 ∧ -30 ≤ H ∧ H ≤ 30) ∧
    (-1000 ≤ x ∧ x ≤ 1000 ∧ -1000 ≤ y ∧ y ≤ 1000 ∧ -1000 ≤ z ∧ z ≤ 1000) ∧ (x ≠ 0 ∨ y ≠ 0 ∨ z ≠ 0) ∧ F * x * x + G * y * y + H * z * z = 0 ∧ plainL v = v := by
  obtain ⟨h1, h2, h3, h4⟩ := pointB_of h
  obtain ⟨z1, z2, z3, z4⟩ := zeroB_of h3
  obtain ⟨F, G, H, rfl⟩ := list3 h1
  obtain ⟨x, y, z, rfl⟩ := list3 (vOk_len h2)
  have f1 := fOk_mem z1 F (by simp)
  have f2 := fOk_mem z1 G (by simp)
  have f3 := fOk_mem z1 H (by simp)
  have b1 := vOk_mem h2 x (by simp)
  have b2 := vOk_mem h2 y (by simp)
  have b3 := vOk_mem h2 z (by simp)
  refine ⟨F, G, H, x, y, z, rfl, rfl, ⟨f1.1, f2.1, f3.1⟩, ⟨f1.2.1, f1.2.2, f2.2.1, f2.2.2, f3.2.1, f3.2.2⟩, ⟨b1.1, b1.2, b2.1, b2.2, b3.1, b3.2⟩, ?_, ?_, h4⟩
  · unfold some0 at z3
    simp only [List.any_cons, List.any_nil, Bool.or_eq_true, bne_iff_ne] at z3
    rcases z3 with h | h | h | h
    · exact .inl h
    · exact .inr (.inl h)
    · exact .inr (.inr h)
    · cases h
  · have e : dot3 [F, G, H] [x, y, z] [x, y, z] = F * x * x + (G * y * y + (H * z * z + 0)) := rfl
    rw [e] at z4; omega
theorem sq_zero {m : Int} (h : m * m = 0) : m = 0 := by
  rcases Int.mul_eq_zero.1 h with h | h <;> exact h
theorem no_plane {F G H x y z a b c : Int} (hF : F ≠ 0) (hG : G ≠ 0) (h1 : F * x * x + G * y * y + H * z * z = 0) (h2 : F * a * a + G * b * b + H * c * c = 0) (h3 : F * x * a + G * y * b + H * z * c = 0) : x * b = y * a := by
  have e1 : F * x * x + G * y * y = -(H * z * z) := by omega
  have e2 : F * a * a + G * b * b = -(H * c * c) := by omega
  have e3 : F * x * a + G * y * b = -(H * z * c) := by omega
  have id : F * G * ((x * b - y * a) * (x * b - y * a)) = (F * x * x + G * y * y) * (F * a * a + G * b * b) - (F * x * a + G * y * b) * (F * x * a + G * y * b) := by grind
  rw [e1, e2, e3] at id
  have id2 : F * G * ((x * b - y * a) * (x * b - y * a)) = 0 := by rw [id]; grind
  rcases Int.mul_eq_zero.1 id2 with h | h
  · exact absurd h (Int.mul_ne_zero hF hG)
  · have := sq_zero h; omega
theorem line_of {q p x y a b : Int} (h1 : q * x = p * a) (h2 : q * y = p * b) (h : q ≠ 0 ∨ p ≠ 0) : x * b = y * a := by
  rcases h with h | h
  · refine Int.eq_of_mul_eq_mul_left h ?_
    rw [← Int.mul_assoc, h1, ← Int.mul_assoc, h2]; grind
  · refine Int.eq_of_mul_eq_mul_left h ?_
    rw [show p * (x * b) = x * (p * b) by grind, ← h2, show p * (y * a) = y * (p * a) by grind, ← h1]; grind
theorem dot3_at (F G H x y z a b c : Int) : dot3 [F, G, H] [x, y, z] [a, b, c] = F * x * a + G * y * b + H * z * c := by
  have e : dot3 [F, G, H] [x, y, z] [a, b, c] = F * x * a + (G * y * b + (H * z * c + 0)) := rfl
  rw [e]; omega
theorem collB_at (x y z a b c : Int) : collB [x, y, z] [a, b, c] = true ↔ x * b = y * a ∧ x * c = z * a ∧ y * c = z * b := by
  have e : collB [x, y, z] [a, b, c] = (decide (x * b = y * a) && (decide (x * c = z * a) && decide (y * c = z * b))) := rfl
  rw [e]; simp only [Bool.and_eq_true, decide_eq_true_eq]
theorem outL_at (F G H x y z a b c : Int) : outL [F, G, H] [x, y, z] [a, b, c] =
    [(F * a * a + G * b * b + H * c * c) * x - 2 * (F * x * a + G * y * b + H * z * c) * a, (F * a * a + G * b * b + H * c * c) * y - 2 * (F * x * a + G * y * b + H * z * c) * b, (F * a * a + G * b * b + H * c * c) * z - 2 * (F * x * a + G * y * b + H * z * c) * c] := by
  unfold outL; rw [dot3_at, dot3_at]; rfl
theorem some0_at (x y z : Int) : some0 [x, y, z] = true ↔ x ≠ 0 ∨ y ≠ 0 ∨ z ≠ 0 := by
  unfold some0; simp [Bool.or_eq_true]
theorem out_some {F G H x y z a b c : Int} (hf : F ≠ 0 ∧ G ≠ 0 ∧ H ≠ 0) (h1 : F * x * x + G * y * y + H * z * z = 0) (hc : collB [x, y, z] [a, b, c] = false) : some0 (outL [F, G, H] [x, y, z] [a, b, c]) = true := by
  rw [outL_at, some0_at]
  obtain ⟨q, hq⟩ : ∃ q : Int, F * a * a + G * b * b + H * c * c = q := ⟨_, rfl⟩
  obtain ⟨p, hp⟩ : ∃ p : Int, F * x * a + G * y * b + H * z * c = p := ⟨_, rfl⟩
  rw [hq, hp]
  rcases Decidable.em (q * x - 2 * p * a ≠ 0 ∨ q * y - 2 * p * b ≠ 0 ∨ q * z - 2 * p * c ≠ 0) with h | h
  · exact h
  · exfalso
    simp only [not_or, Decidable.not_not] at h
    obtain ⟨n1, n2, n3⟩ := h
    have : collB [x, y, z] [a, b, c] = true := by
      rw [collB_at]
      by_cases h0 : q = 0 ∧ p = 0
      · obtain ⟨rfl, rfl⟩ := h0
        exact ⟨no_plane hf.1 hf.2.1 h1 hq hp, no_plane (F := F) (G := H) (H := G) (y := z) (z := y) (b := c) (c := b) hf.1 hf.2.2 (by omega) (by omega) (by omega), no_plane (F := G) (G := H) (H := F) (x := y) (y := z) (z := x) (a := b) (b := c) (c := a) hf.2.1 hf.2.2 (by omega) (by omega) (by omega)⟩
      · have h2 : q ≠ 0 ∨ 2 * p ≠ 0 := by omega
        exact ⟨line_of (by omega) (by omega) h2, line_of (by omega) (by omega) h2, line_of (by omega) (by omega) h2⟩
    rw [this] at hc; cases hc
end Go.Proofs.Ytpaohkhmhdhibaa.Aid
