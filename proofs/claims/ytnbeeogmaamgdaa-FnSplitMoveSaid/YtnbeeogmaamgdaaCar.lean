/- Plain mathematics: vectors of one value are carried to each other by mirrors. No program in sight. -/
import Derived.Test.YtnbeeogmaamgdaaMir
namespace Go.Proofs.Ytnbeeogmaamgdaa.Aid
open Go.RowKit Go.Proofs.YtnbeeogmaamgdaaW.PrintWords Go.Proofs.YtnbeeogmaamgdaaW.PrintLast Go.Proofs.YtnbeeogmaamgdaaW.PrintMore
def combL (u : List Int) (t : Int) (v : List Int) : List Int := (List.range u.length).map fun (i : Nat) => rd u (i : Int) + t * rd v (i : Int)
theorem combL_len (u : List Int) (t : Int) (v : List Int) : (combL u t v).length = u.length := by unfold combL; simp
theorem combL_rd {u v : List Int} {t : Int} {i : Nat} (h : i < u.length) : rd (combL u t v) (i : Int) = rd u (i : Int) + t * rd v (i : Int) := by
  unfold combL; rw [rd_range h]
theorem combL_bd {u v : List Int} {t M : Int} (ht : t = 1 ∨ t = -1) (hl : v.length = u.length) (hu : ∀ x ∈ u, -M ≤ x ∧ x ≤ M) (hv : ∀ x ∈ v, -M ≤ x ∧ x ≤ M) : ∀ x ∈ combL u t v, -(2 * M) ≤ x ∧ x ≤ 2 * M := by
  intro x hx
  unfold combL at hx
  obtain ⟨i, hi, rfl⟩ := List.mem_map.1 hx
  have hi := List.mem_range.1 hi
  have a := hu _ (rd_mem hi)
  have b := hv _ (rd_mem (show i < v.length by omega))
  rcases ht with rfl | rfl <;> omega
theorem ext_rd {u v : List Int} (hl : u.length = v.length) (h : ∀ i, i < u.length → rd u (i : Int) = rd v (i : Int)) : u = v := by
  refine List.ext_getElem hl (fun i h1 h2 => ?_)
  have := h i h1
  rw [rd_at, rd_at, List.getD_eq_getElem?_getD, List.getD_eq_getElem?_getD, List.getElem?_eq_getElem h1, List.getElem?_eq_getElem h2] at this
  exact this
theorem some0_rd {v : List Int} : some0 v = false ↔ ∀ i, i < v.length → rd v (i : Int) = 0 := by
  unfold some0
  rw [List.any_eq_false]
  constructor
  · intro h i hi
    have := h _ (rd_mem hi)
    simpa using this
  · intro h x hx
    obtain ⟨i, hi, rfl⟩ := List.getElem_of_mem hx
    have := h i hi
    rw [rd_at, List.getD_eq_getElem?_getD, List.getElem?_eq_getElem hi] at this
    simpa using this
theorem comb_some {u v : List Int} (hl : v.length = u.length) : some0 (combL u (-1) v) = false ↔ u = v := by
  rw [some0_rd]
  constructor
  · intro h
    refine ext_rd hl.symm (fun i hi => ?_)
    have := h i (by rw [combL_len]; exact hi)
    rw [combL_rd hi] at this; omega
  · intro h i hi
    rw [combL_len] at hi
    rw [combL_rd hi, h]; omega
theorem plain_mul {z : List Int} (h : some0 z = true) : ∃ c : Int, c ≠ 0 ∧ (plainL z).length = z.length ∧ (∀ i, i < z.length → rd z (i : Int) = c * rd (plainL z) (i : Int)) := by
  have hg : gcdL 0 z ≠ 0 := fun k => by rw [gcdL_zero, h] at k; cases k
  have hs := sgn1_cases z
  have hc : sgn1 z * (gcdL 0 z : Int) ≠ 0 := Int.mul_ne_zero (by omega) (by omega)
  refine ⟨_, hc, by unfold plainL; rw [List.length_map], fun i hi => ?_⟩
  have hd : (sgn1 z * (gcdL 0 z : Int)) ∣ z[i] := by
    have := (gcdL_mono z 0).2 _ (List.getElem_mem hi)
    have h1 : (gcdL 0 z : Int) ∣ z[i] := Int.ofNat_dvd_left.2 this
    rcases hs with e | e <;> rw [e]
    · rw [Int.one_mul]; exact h1
    · rw [show (-1 : Int) * (gcdL 0 z : Int) = -(gcdL 0 z : Int) by omega]; exact Int.neg_dvd.2 h1
  have e1 : rd z (i : Int) = z[i] := by rw [rd_at]; simp [hi]
  have e2 : rd (plainL z) (i : Int) = Int.tdiv z[i] (sgn1 z * (gcdL 0 z : Int)) := by unfold plainL; rw [rd_at]; simp [hi]
  rw [e1, e2, Int.mul_tdiv_cancel' hd]
def bF (n : Nat) (F u v : Nat → Int) : Int := sumN n (fun k => F k * u k * v k)
theorem bF_comb (n : Nat) (F u v w : Nat → Int) (a b : Int) : bF n F (fun k => a * u k + b * v k) w = a * bF n F u w + b * bF n F v w := by
  unfold bF
  rw [← sumN_mul, ← sumN_mul, ← sumN_add]
  exact sumN_congr _ _ _ (fun k _ => by grind)
theorem bF_comm (n : Nat) (F u v : Nat → Int) : bF n F u v = bF n F v u := sumN_congr _ _ _ (fun k _ => by grind)
theorem bF_congr {n : Nat} {F u u' v v' : Nat → Int} (hu : ∀ k, k < n → u k = u' k) (hv : ∀ k, k < n → v k = v' k) : bF n F u v = bF n F u' v' := sumN_congr _ _ _ (fun k hk => by rw [hu k hk, hv k hk])
theorem dot3_bF {form u v : List Int} (hu : u.length = form.length) (hv : v.length = form.length) : dot3 form u v = bF form.length (fun k => rd form (k : Int)) (fun k => rd u (k : Int)) (fun k => rd v (k : Int)) := dot3_sum form.length _ _ _ rfl hu hv
theorem mirF_mv {form w : List Int} (x : Nat → Int) (i : Nat) (hi : i < form.length) :
    mv form.length (mirF form w) x i = dot3 form w w * x i - 2 * rd w (i : Int) * bF form.length (fun k => rd form (k : Int)) (fun k => rd w (k : Int)) x := by
  unfold mv mirF bF
  have e : ∀ k : Nat, (-2 * rd w (i : Int) * rd form (k : Int) * rd w (k : Int) + if i = k then dot3 form w w else 0) * x k = (-2 * rd w (i : Int)) * (rd form (k : Int) * rd w (k : Int) * x k) + (if i = k then dot3 form w w else 0) * x k := fun k => by grind
  rw [sumN_congr form.length _ _ (fun k _ => e k), sumN_add, sumN_mul, sumN_one form.length i hi (fun k => (if i = k then dot3 form w w else 0) * x k) (fun k _ hne => by rw [if_neg (fun q => hne q.symm), Int.zero_mul]), if_pos rfl]
  grind
theorem carry_eq {form u v : List Int} {t : Int} (ht : t * t = 1) (hu : u.length = form.length) (hv : v.length = form.length) (hq : dot3 form u u = dot3 form v v) (hs : some0 (combL u t v) = true) :
    ∀ i, i < form.length → 2 * rd (plainL (combL u t v)) (i : Int) * dot3 form (plainL (combL u t v)) u = dot3 form (plainL (combL u t v)) (plainL (combL u t v)) * (rd u (i : Int) - -t * rd v (i : Int)) := by
  obtain ⟨c, c0, pl, pe⟩ := plain_mul hs
  have zl := combL_len u t v
  generalize plainL (combL u t v) = w at *
  have hwl : w.length = form.length := by omega
  have ez : ∀ k, k < form.length → rd u (k : Int) + t * rd v (k : Int) = c * rd w (k : Int) := fun k hk => by
    rw [← combL_rd (show k < u.length by omega)]; exact pe k (by omega)
  intro i hi
  rw [dot3_bF hwl hu, dot3_bF hwl hwl]
  rw [dot3_bF hu hu, dot3_bF hv hv] at hq
  have a1 : bF form.length (fun k => rd form (k : Int)) (fun k => c * rd w (k : Int) + 0 * rd w (k : Int)) (fun k => rd u (k : Int)) = bF form.length (fun k => rd form (k : Int)) (fun k => 1 * rd u (k : Int) + t * rd v (k : Int)) (fun k => rd u (k : Int)) :=
    bF_congr (fun k hk => by rw [← ez k hk]; grind) (fun _ _ => rfl)
  have a2 : bF form.length (fun k => rd form (k : Int)) (fun k => c * rd w (k : Int) + 0 * rd w (k : Int)) (fun k => rd v (k : Int)) = bF form.length (fun k => rd form (k : Int)) (fun k => 1 * rd u (k : Int) + t * rd v (k : Int)) (fun k => rd v (k : Int)) :=
    bF_congr (fun k hk => by rw [← ez k hk]; grind) (fun _ _ => rfl)
  have a3 : bF form.length (fun k => rd form (k : Int)) (fun k => c * rd w (k : Int) + 0 * rd w (k : Int)) (fun k => rd w (k : Int)) = bF form.length (fun k => rd form (k : Int)) (fun k => 1 * rd u (k : Int) + t * rd v (k : Int)) (fun k => rd w (k : Int)) :=
    bF_congr (fun k hk => by rw [← ez k hk]; grind) (fun _ _ => rfl)
  rw [bF_comb, bF_comb] at a1 a2 a3
  rw [bF_comm _ _ (fun k => rd v (k : Int)) (fun k => rd u (k : Int))] at a1
  rw [bF_comm _ _ (fun k => rd u (k : Int)) (fun k => rd w (k : Int)), bF_comm _ _ (fun k => rd v (k : Int)) (fun k => rd w (k : Int))] at a3
  have ei := ez i hi
  generalize bF form.length (fun k => rd form (k : Int)) (fun k => rd w (k : Int)) (fun k => rd u (k : Int)) = wu at *
  generalize bF form.length (fun k => rd form (k : Int)) (fun k => rd w (k : Int)) (fun k => rd v (k : Int)) = wv at *
  generalize bF form.length (fun k => rd form (k : Int)) (fun k => rd w (k : Int)) (fun k => rd w (k : Int)) = ww at *
  generalize bF form.length (fun k => rd form (k : Int)) (fun k => rd u (k : Int)) (fun k => rd u (k : Int)) = uu at *
  generalize bF form.length (fun k => rd form (k : Int)) (fun k => rd v (k : Int)) (fun k => rd v (k : Int)) = vv at *
  generalize bF form.length (fun k => rd form (k : Int)) (fun k => rd u (k : Int)) (fun k => rd v (k : Int)) = uv at *
  have b0 : c * wv = uv + t * vv := by omega
  have b1 : c * wu = t * (c * wv) := by
    rw [b0, Int.mul_add, ← Int.mul_assoc t t vv, ht]; omega
  have b2 : wu = t * wv := Int.eq_of_mul_eq_mul_left c0 (by rw [b1]; grind)
  have b3 : c * ww = 2 * wu := by
    have : c * ww = wu + t * wv := by grind
    rw [this, ← b2]; omega
  have b4 : rd u (i : Int) - -t * rd v (i : Int) = c * rd w (i : Int) := by rw [← ei]; grind
  rw [b4]
  have : ww * (c * rd w (i : Int)) = c * ww * rd w (i : Int) := by grind
  rw [this, b3]; grind
theorem carry_own {form v : List Int} (hv : v.length = form.length) (hs : some0 v = true) :
    ∀ i, i < form.length → 2 * rd (plainL v) (i : Int) * dot3 form (plainL v) (negL v) = dot3 form (plainL v) (plainL v) * (rd (negL v) (i : Int) - rd v (i : Int)) := by
  obtain ⟨c, c0, pl, pe⟩ := plain_mul hs
  generalize plainL v = w at *
  have hwl : w.length = form.length := by omega
  intro i hi
  rw [dot3_bF hwl (by rw [negL_len]; exact hv), dot3_bF hwl hwl]
  have a : bF form.length (fun k => rd form (k : Int)) (fun k => rd w (k : Int)) (fun k => rd (negL v) (k : Int)) = -c * bF form.length (fun k => rd form (k : Int)) (fun k => rd w (k : Int)) (fun k => rd w (k : Int)) := by
    rw [bF_comm, bF_congr (u' := fun k => -c * rd w (k : Int) + 0 * rd w (k : Int)) (v' := fun k => rd w (k : Int)) (fun k hk => by rw [negL_rd, pe k (by omega)]; grind) (fun _ _ => rfl), bF_comb]
    grind
  rw [a, negL_rd, pe i (by omega)]
  grind
def lessN (form : List Int) : Nat := form.countP (fun t => decide (t < 0))
theorem dot3_sign : ∀ (f z : List Int), f.length = z.length → (∀ t ∈ f, 0 < t) → dot3 f z z ≥ 0 ∧ (dot3 f z z = 0 → ∀ x ∈ z, x = 0)
  | [], [], _, _ => by simp [dot3]
  | [], _ :: _, h, _ => by simp at h
  | _ :: _, [], h, _ => by simp at h
  | t :: f, x :: z, h, hp => by
    have ih := dot3_sign f z (by simpa using h) (fun s hs => hp s (by simp [hs]))
    have ht := hp t (by simp)
    have hx : 0 ≤ t * x * x := by
      rw [Int.mul_assoc]
      refine Int.mul_nonneg (by omega) ?_
      rcases Int.le_total 0 x with k | k
      · exact Int.mul_nonneg k k
      · rw [← Int.neg_mul_neg]; exact Int.mul_nonneg (by omega) (by omega)
    simp only [dot3]
    refine ⟨by omega, fun h0 y hy => ?_⟩
    rcases List.mem_cons.1 hy with rfl | hy
    · have : t * y * y = 0 := by omega
      rw [Int.mul_assoc] at this
      rcases Int.mul_eq_zero.1 this with q | q
      · omega
      · rcases Int.mul_eq_zero.1 q with q | q <;> exact q
    · exact ih.2 (by omega) y hy
theorem dot3_neg (f z : List Int) : dot3 (f.map fun t => -t) z z = -dot3 f z z := by
  induction f generalizing z with
  | nil => simp [dot3]
  | cons t f ih =>
    cases z with
    | nil => simp [dot3]
    | cons x z => simp only [List.map_cons, dot3]; rw [ih]; grind
theorem definite {form z : List Int} (hf : fOk form = true) (hz : z.length = form.length) (hl : lessN form = 0 ∨ lessN form = form.length) (h0 : dot3 form z z = 0) : some0 z = false := by
  have all : ∀ x ∈ z, x = 0 := by
    rcases hl with h | h
    · refine (dot3_sign form z hz.symm (fun t ht => ?_)).2 h0
      have := (List.countP_eq_zero.1 h) t ht
      have := (fOk_mem hf t ht).1
      simp at *; omega
    · refine (dot3_sign (form.map fun t => -t) z (by rw [List.length_map]; exact hz.symm) (fun t ht => ?_)).2 (by rw [dot3_neg, h0]; rfl)
      obtain ⟨s, hs, rfl⟩ := List.mem_map.1 ht
      have := (List.countP_eq_length.1 h) s hs
      simp at this; omega
  rw [some0_rd]
  exact fun i hi => all _ (rd_mem hi)
end Go.Proofs.Ytnbeeogmaamgdaa.Aid
