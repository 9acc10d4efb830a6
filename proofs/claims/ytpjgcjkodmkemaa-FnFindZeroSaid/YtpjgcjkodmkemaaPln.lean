/- Plain vectors, once more beside the words on places. No program in sight. -/
import Derived.Test.YtpjgcjkodmkemaaLeg2
namespace Go.Proofs.Ytpjgcjkodmkemaa.Aid
open Go.RowKit Go.Proofs.YtpjgcjkodmkemaaW.PrintWords Go.Proofs.YtpjgcjkodmkemaaW.PrintLast Go.Proofs.YtpjgcjkodmkemaaW.PrintMore
theorem ext_rd {u v : List Int} (hl : u.length = v.length) (h : ∀ i, i < u.length → rd u (i : Int) = rd v (i : Int)) : u = v := by
  refine List.ext_getElem hl (fun i h1 h2 => ?_)
  have := h i h1
  rw [rd_at, rd_at, List.getD_eq_getElem?_getD, List.getD_eq_getElem?_getD, List.getElem?_eq_getElem h1, List.getElem?_eq_getElem h2] at this
  exact this
theorem gcdL_cons (x : Int) (a : List Int) (g : Nat) : gcdL g (x :: a) = gcdL (Nat.gcd g x.natAbs) a := rfl
theorem gcdL_scale (g : Int) : ∀ (l : List Int) (a : Nat), gcdL (g.natAbs * a) (l.map (g * ·)) = g.natAbs * gcdL a l
  | [], a => rfl
  | x :: l, a => by
    simp only [List.map_cons, gcdL_cons, Int.natAbs_mul]
    rw [Nat.gcd_mul_left]
    exact gcdL_scale g l _
theorem sgn1_scale {q : Int} (hq : q ≠ 0) : ∀ v : List Int, some0 v = true → sgn1 (v.map (q * ·)) = (if q < 0 then -1 else 1) * sgn1 v
  | [], h => by simp [some0] at h
  | x :: v, h => by
    by_cases hx : x = 0
    · have h1 : some0 v = true := by unfold some0 at h ⊢; simpa [hx] using h
      rw [List.map_cons, sgn1, sgn1, if_pos (by rw [hx, Int.mul_zero]), if_pos hx]; exact sgn1_scale hq v h1
    · rw [List.map_cons, sgn1, sgn1, if_neg (Int.mul_ne_zero hq hx), if_neg hx]
      rcases (by omega : q < 0 ∨ 0 < q) with a | a <;> rcases (by omega : x < 0 ∨ 0 < x) with b | b
      · have := Int.mul_pos_of_neg_of_neg a b
        rw [if_neg (by omega), if_pos a, if_pos b]; rfl
      · have := Int.mul_neg_of_neg_of_pos a b
        rw [if_pos this, if_pos a, if_neg (by omega)]; rfl
      · have := Int.mul_neg_of_pos_of_neg a b
        rw [if_pos this, if_neg (by omega), if_pos b]; rfl
      · have := Int.mul_pos a b
        rw [if_neg (by omega), if_neg (by omega), if_neg (by omega)]; rfl
theorem plainL_scale {q : Int} (hq : q ≠ 0) {v : List Int} (h : some0 v = true) : plainL (v.map (q * ·)) = plainL v := by
  have e := gcdL_scale q v 0
  rw [Nat.mul_zero] at e
  unfold plainL
  rw [sgn1_scale hq v h, e, List.map_map]
  refine List.map_congr_left (fun x hx => ?_)
  show Int.tdiv (q * x) _ = _
  have e2 : (if q < 0 then (-1 : Int) else 1) * sgn1 v * ((q.natAbs * gcdL 0 v : Nat) : Int) = q * (sgn1 v * (gcdL 0 v : Int)) := by
    rw [Int.natCast_mul]
    split
    · rw [show ((q.natAbs : Nat) : Int) = -q by omega]; grind
    · rw [show ((q.natAbs : Nat) : Int) = q by omega]; grind
  have hg : gcdL 0 v ≠ 0 := fun k => by rw [gcdL_zero, h] at k; cases k
  have hs := sgn1_cases v
  have hc : sgn1 v * (gcdL 0 v : Int) ≠ 0 := Int.mul_ne_zero (by omega) (by omega)
  have hd : (sgn1 v * (gcdL 0 v : Int)) ∣ x := by
    have h1 : (gcdL 0 v : Int) ∣ x := Int.ofNat_dvd_left.2 ((gcdL_mono v 0).2 _ hx)
    rcases hs with e | e <;> rw [e]
    · rw [Int.one_mul]; exact h1
    · rw [show (-1 : Int) * (gcdL 0 v : Int) = -(gcdL 0 v : Int) by omega]; exact Int.neg_dvd.2 h1
  rw [e2]
  generalize sgn1 v * (gcdL 0 v : Int) = c at *
  obtain ⟨y, rfl⟩ := hd
  rw [← Int.mul_assoc, Int.mul_tdiv_cancel_left _ (Int.mul_ne_zero hq hc), Int.mul_tdiv_cancel_left _ hc]
theorem dot3_scale (f : List Int) (g : Int) : ∀ (v w : List Int), dot3 f (v.map (g * ·)) (w.map (g * ·)) = g * g * dot3 f v w := by
  induction f with
  | nil => intro v w; simp [dot3]
  | cons x f ih =>
    intro v w
    cases v with
    | nil => simp [dot3]
    | cons a v =>
      cases w with
      | nil => simp [dot3]
      | cons b w => simp only [List.map_cons, dot3]; rw [ih]; grind
theorem some_plain {z : List Int} (h : some0 z = true) : some0 (plainL z) = true := by
  obtain ⟨c, hc, hl, hr⟩ := plain_mul h
  cases e : some0 (plainL z) with
  | true => rfl
  | false =>
    have : some0 z = false := some0_rd.2 (fun i hi => by rw [hr i hi, some0_rd.1 e i (by omega), Int.mul_zero])
    rw [h] at this; cases this
theorem map_rd {c : Int} {u z : List Int} (hl : u.length = z.length) (hr : ∀ i, i < z.length → rd z (i : Int) = c * rd u (i : Int)) : z = u.map (c * ·) := by
  refine ext_rd (by simp [hl]) (fun i hi => ?_)
  rw [hr i hi, rd_at, rd_at]
  simp [List.getD_eq_getElem?_getD, show i < u.length by omega]
theorem plain_idem {z : List Int} (h : some0 z = true) : plainL (plainL z) = plainL z := by
  obtain ⟨c, hc, hl, hr⟩ := plain_mul h
  have e := map_rd hl hr
  have := plainL_scale hc (some_plain h)
  rw [← e] at this
  exact this.symm
theorem dot3_plain {form z : List Int} (h : some0 z = true) (h0 : dot3 form z z = 0) : dot3 form (plainL z) (plainL z) = 0 := by
  obtain ⟨c, hc, hl, hr⟩ := plain_mul h
  have e := map_rd hl hr
  have k := dot3_scale form c (plainL z) (plainL z)
  rw [← e, h0] at k
  rcases Int.mul_eq_zero.1 k.symm with h | h
  · exact absurd h (Int.mul_ne_zero hc hc)
  · exact h
theorem plainL_bd {v : List Int} {M : Int} (h : ∀ x ∈ v, -M ≤ x ∧ x ≤ M) : (plainL v).length = v.length ∧ ∀ x ∈ plainL v, -M ≤ x ∧ x ≤ M := by
  unfold plainL
  refine ⟨List.length_map .., fun x hx => ?_⟩
  obtain ⟨y, hy, rfl⟩ := List.mem_map.1 hx
  have := tdiv_mag y (sgn1 v * gcdL 0 v)
  have := h y hy
  omega
theorem zero_plain {f u : List Int} {M : Int} (hf : fOk f = true) (hl : u.length = f.length) (hs : some0 u = true) (hM : M ≤ 1000000) (hb : ∀ x ∈ u, -M ≤ x ∧ x ≤ M) (h0 : dot3 f u u = 0) : zeroB f (plainL u) = true ∧ plainL (plainL u) = plainL u ∧ ∀ x ∈ plainL u, -M ≤ x ∧ x ≤ M := by
  have b := plainL_bd hb
  refine ⟨?_, plain_idem hs, b.2⟩
  unfold zeroB
  rw [hf, some_plain hs, dot3_plain hs h0]
  have : vOk f.length 1000000 (plainL u) = true := by
    unfold vOk; exact decide_eq_true ⟨by rw [b.1]; exact hl, fun x hx => by have := b.2 x hx; omega⟩
  rw [this]; rfl
def find2 (a b : Int) : List Int × Bool := if (coreT a).1 = -(coreT b).1 then (plainL [(coreT b).2, (coreT a).2], true) else ([], false)
def findF : List Int → List Int × Bool
  | [a, b] => find2 a b
  | [a, b, c] => findT a b c
  | _ => ([], false)
theorem findF_zero {f : List Int} (hf : fOk f = true) : findF f = ([], false) ∨ ∃ v, findF f = (v, true) ∧ zeroB f v = true ∧ plainL v = v ∧ ∀ x ∈ v, -9000 ≤ x ∧ x ≤ 9000 := by
  have hm := fOk_mem hf
  match f, hf, hm with
  | [], _, _ => exact .inl rfl
  | [a], _, _ => exact .inl rfl
  | [a, b], hf, hm =>
    have b0 := hm a (by simp); have b1 := hm b (by simp)
    show find2 a b = ([], false) ∨ ∃ v, find2 a b = (v, true) ∧ _
    unfold find2
    by_cases c : (coreT a).1 = -(coreT b).1
    · rw [if_pos c]
      have cb : ∀ {t : Int}, t ≠ 0 → -30 ≤ t ∧ t ≤ 30 → 1 ≤ rootT t ∧ rootT t ≤ 30 := by
        intro t h0 h1
        obtain ⟨c1, c2, c3, c4, _⟩ := core_is h0 (by omega)
        have a := Nat.mul_le_mul_right (rootT t * rootT t) c3
        have b := Nat.mul_le_mul_left (rootT t) c2
        omega
      have ra := cb b0.1 b0.2; have rb := cb b1.1 b1.2
      have v0 := core_val b0.1 (by omega); have v1 := core_val b1.1 (by omega)
      have z := zero_plain (M := 9000) (u := [(coreT b).2, (coreT a).2]) hf rfl (by unfold some0 coreT; simp only [List.any_cons, Bool.or_eq_true, bne_iff_ne]; exact .inl (by omega)) (by omega)
        (fun x hx => by unfold coreT at hx; simp only [List.mem_cons, List.not_mem_nil, or_false] at hx; omega) (by
          show a * _ * _ + (b * _ * _ + 0) = 0
          generalize (coreT a).2 = A at *
          generalize (coreT b).2 = B at *
          rw [c] at v0
          generalize (coreT b).1 = C at *
          rw [v0, v1]; grind)
      exact .inr ⟨_, rfl, z.1, z.2.1, z.2.2⟩
    · rw [if_neg c]; exact .inl rfl
  | [a, b, c], hf, hm =>
    rcases findT_zero hm with h | ⟨u, v, w, h, h1, h2, h3⟩
    · exact .inl h
    · have z := zero_plain (M := 9000) (u := [u, v, w]) hf rfl h1 (by omega) h2 h3
      exact .inr ⟨_, h, z.1, z.2.1, z.2.2⟩
  | _ :: _ :: _ :: _ :: _, _, _ => exact .inl rfl
def clT (p : Nat) (t : Int) : Bool × Bool := clN p (decide (t < 0)) (coreN t)
theorem chkCo : (CO.all fun c => OP.all fun p => c % p != 0 || c / p % p != 0) = true := by decide +kernel
theorem cl_core {p : Nat} (hp : p ∈ OP) {c : Nat} (hc : c ∈ CO) : CL p (c : Int) (clN p false c) := by
  have p2 := (op_two hp).1
  have k := List.all_eq_true.1 (List.all_eq_true.1 chkCo c hc) p hp
  simp only [Bool.or_eq_true, bne_iff_ne] at k
  have nd : ∀ {u : Nat}, u % p ≠ 0 → ¬ (p : Int) ∣ (u : Int) ∧ rOf p (u : Int) = u % p := by
    intro u h
    refine ⟨fun d => h (Nat.mod_eq_zero_of_dvd (Int.ofNat_dvd.1 d)), ?_⟩
    unfold rOf; rw [← Int.natCast_emod]; rfl
  unfold clN
  by_cases h : c % p = 0
  · rw [if_pos h]
    have h1 := nd (k.resolve_left (fun k => k h))
    refine ⟨1, ((c / p : Nat) : Int), ⟨?_, h1.1⟩, ?_⟩
    · rw [Int.pow_one, ← Int.natCast_mul, Nat.mul_div_cancel' (Nat.dvd_of_mod_eq_zero h)]
    · rw [h1.2]; simp
  · rw [if_neg h]
    have h1 := nd h
    refine ⟨0, (c : Int), ⟨by simp, h1.1⟩, ?_⟩
    rw [h1.2]; simp
theorem cl_term {p : Nat} (hp : p ∈ OP) {t : Int} (h0 : t ≠ 0) (h : -30 ≤ t ∧ t ≤ 30) : CL p t (clT p t) := by
  obtain ⟨c1, c2, c3, c4, c5⟩ := core_is h0 (by omega)
  have hc := cl_core hp (c5 (by omega))
  have v := core_val h0 (by omega)
  have hr : CL p (((rootT t : Nat) : Int) * ((rootT t : Nat) : Int)) (false, false) := by
    obtain ⟨c, e⟩ := cl_ex hp (n := ((rootT t : Nat) : Int)) (by omega)
    have := cl_mul hp e e
    simpa using this
  have hs : CL p (sx (decide (t < 0)) (coreN t)) (clT p t) := by
    unfold clT
    cases hd : decide (t < 0) with
    | false => exact hc
    | true =>
      have m := cl_mul hp (cl_minus hp) hc
      rw [show (-1 : Int) * (coreN t : Int) = sx true (coreN t) by unfold sx; simp] at m
      unfold clN at m ⊢
      split at m
      · rename_i h1; rw [if_pos h1]; simpa [Bool.xor_comm] using m
      · rename_i h1; rw [if_neg h1]; simpa [Bool.xor_comm] using m
  have m := cl_mul hp hs hr
  unfold coreT at v
  rw [← v] at m
  simpa using m
def VanT (f : List Int) (P : Nat) : Prop := (P = 0 → (∃ a ∈ f, a < 0) ∧ ∃ a ∈ f, 0 < a) ∧ (P ∈ OP → vanB ((P - 1) / 2 % 2 == 1) (f.map (clT P)) = true) ∧ (P = 2 → ∀ a b, f = [a, b] → CT (-(a * b)) 1)
end Go.Proofs.Ytpjgcjkodmkemaa.Aid
