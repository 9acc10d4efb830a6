/- Plain mathematics: vectors of one value are carried to each other by mirrors. No program in sight. -/
import Derived.Test.YtnbeeogmaamgdaaMir
namespace Go.Proofs.Ytnbeeogmaamgdaa.Aid
open Go.RowKit Go.Proofs.YtnbeeogmaamgdaaW.PrintWords Go.Proofs.YtnbeeogmaamgdaaW.PrintLast Go.Proofs.YtnbeeogmaamgdaaW.PrintMore

/-- A vector and another one so many times. -/
def combL (u : List Int) (t : Int) (v : List Int) : List Int := (List.range u.length).map fun (i : Nat) => rd u (i : Int) + t * rd v (i : Int)
theorem combL_len (u : List Int) (t : Int) (v : List Int) : (combL u t v).length = u.length := by unfold combL; simp
theorem combL_rd {u v : List Int} {t : Int} {i : Nat} (h : i < u.length) : rd (combL u t v) (i : Int) = rd u (i : Int) + t * rd v (i : Int) := by
  unfold combL; rw [rd_range h]
theorem combL_bd {u v : List Int} {t M : Int} (ht : t = 1 ∨ t = -1) (hl : v.length = u.length) (hu : ∀ x ∈ u, -M ≤ x ∧ x ≤ M) (hv : ∀ x ∈ v, -M ≤ x ∧ x ≤ M) : ∀ x ∈ combL u t v, -(2 * M) ≤ x ∧ x ≤ 2 * M := by
  intro x hx
  unfold combL at hx
  obtain ⟨i, hi, rfl⟩ := List.mem_map.1 hx
  have hi := List.mem_range.1 hi
  have a := hu _ (rd_mem hi)
  have b := hv _ (rd_mem (show i < v.length by omega))
  rcases ht with rfl | rfl <;> omega
theorem ext_rd {u v : List Int} (hl : u.length = v.length) (h : ∀ i, i < u.length → rd u (i : Int) = rd v (i : Int)) : u = v := by
  refine List.ext_getElem hl (fun i h1 h2 => ?_)
  have := h i h1
  rw [rd_at, rd_at, List.getD_eq_getElem?_getD, List.getD_eq_getElem?_getD, List.getElem?_eq_getElem h1, List.getElem?_eq_getElem h2] at this
  exact this
theorem some0_rd {v : List Int} : some0 v = false ↔ ∀ i, i < v.length → rd v (i : Int) = 0 := by
  unfold some0
  rw [List.any_eq_false]
  constructor
  · intro h i hi
    have := h _ (rd_mem hi)
    simpa using this
  · intro h x hx
    obtain ⟨i, hi, rfl⟩ := List.getElem_of_mem hx
    have := h i hi
    rw [rd_at, List.getD_eq_getElem?_getD, List.getElem?_eq_getElem hi] at this
    simpa using this
theorem comb_some {u v : List Int} (hl : v.length = u.length) : some0 (combL u (-1) v) = false ↔ u = v := by
  rw [some0_rd]
  constructor
  · intro h
    refine ext_rd hl.symm (fun i hi => ?_)
    have := h i (by rw [combL_len]; exact hi)
    rw [combL_rd hi] at this; omega
  · intro h i hi
    rw [combL_len] at hi
    rw [combL_rd hi, h]; omega
/-- A vector is its plain vector times a number. -/
theorem plain_mul {z : List Int} (h : some0 z = true) : ∃ c : Int, c ≠ 0 ∧ (plainL z).length = z.length ∧ (∀ i, i < z.length → rd z (i : Int) = c * rd (plainL z) (i : Int)) := by
  have hg : gcdL 0 z ≠ 0 := fun k => by rw [gcdL_zero, h] at k; cases k
  have hs := sgn1_cases z
  have hc : sgn1 z * (gcdL 0 z : Int) ≠ 0 := Int.mul_ne_zero (by omega) (by omega)
  refine ⟨_, hc, by unfold plainL; rw [List.length_map], fun i hi => ?_⟩
  have hd : (sgn1 z * (gcdL 0 z : Int)) ∣ z[i] := by
    have := (gcdL_mono z 0).2 _ (List.getElem_mem hi)
    have h1 : (gcdL 0 z : Int) ∣ z[i] := Int.ofNat_dvd_left.2 this
    rcases hs with e | e <;> rw [e]
    · rw [Int.one_mul]; exact h1
    · rw [show (-1 : Int) * (gcdL 0 z : Int) = -(gcdL 0 z : Int) by omega]; exact Int.neg_dvd.2 h1
  have e1 : rd z (i : Int) = z[i] := by rw [rd_at]; simp [hi]
  have e2 : rd (plainL z) (i : Int) = Int.tdiv z[i] (sgn1 z * (gcdL 0 z : Int)) := by unfold plainL; rw [rd_at]; simp [hi]
  rw [e1, e2, Int.mul_tdiv_cancel' hd]
theorem plain_bd {z : List Int} {M : Int} (h : ∀ x ∈ z, -M ≤ x ∧ x ≤ M) : ∀ x ∈ plainL z, -M ≤ x ∧ x ≤ M := by
  intro x hx
  unfold plainL at hx
  obtain ⟨y, hy, rfl⟩ := List.mem_map.1 hx
  have := h y hy
  have b1 := tdiv_mag y (sgn1 z * (gcdL 0 z : Int))
  omega
/-- A form's pair as a sum. -/
def bF (n : Nat) (F u v : Nat → Int) : Int := sumN n (fun k => F k * u k * v k)
theorem bF_comb (n : Nat) (F u v w : Nat → Int) (a b : Int) : bF n F (fun k => a * u k + b * v k) w = a * bF n F u w + b * bF n F v w := by
  unfold bF
  rw [← sumN_mul, ← sumN_mul, ← sumN_add]
  exact sumN_congr _ _ _ (fun k _ => by grind)
theorem bF_comm (n : Nat) (F u v : Nat → Int) : bF n F u v = bF n F v u := sumN_congr _ _ _ (fun k _ => by grind)
theorem bF_congr {n : Nat} {F u u' v v' : Nat → Int} (hu : ∀ k, k < n → u k = u' k) (hv : ∀ k, k < n → v k = v' k) : bF n F u v = bF n F u' v' := sumN_congr _ _ _ (fun k hk => by rw [hu k hk, hv k hk])
theorem dot3_bF {form u v : List Int} (hu : u.length = form.length) (hv : v.length = form.length) : dot3 form u v = bF form.length (fun k => rd form (k : Int)) (fun k => rd u (k : Int)) (fun k => rd v (k : Int)) := dot3_sum form.length _ _ _ rfl hu hv
/-- A mirror of any vector. -/
theorem mirF_mv {form w : List Int} (x : Nat → Int) (i : Nat) (hi : i < form.length) :
    mv form.length (mirF form w) x i = dot3 form w w * x i - 2 * rd w (i : Int) * bF form.length (fun k => rd form (k : Int)) (fun k => rd w (k : Int)) x := by
  unfold mv mirF bF
  have e : ∀ k : Nat, (-2 * rd w (i : Int) * rd form (k : Int) * rd w (k : Int) + if i = k then dot3 form w w else 0) * x k = (-2 * rd w (i : Int)) * (rd form (k : Int) * rd w (k : Int) * x k) + (if i = k then dot3 form w w else 0) * x k := fun k => by grind
  rw [sumN_congr form.length _ _ (fun k _ => e k), sumN_add, sumN_mul, sumN_one form.length i hi (fun k => (if i = k then dot3 form w w else 0) * x k) (fun k _ hne => by rw [if_neg (fun q => hne q.symm), Int.zero_mul]), if_pos rfl]
  grind
/-- Where a mirror takes a vector, if that is a vector of integers. -/
theorem mir_on2 {form w x y : List Int} (h : (mirB form w).2.2 = true) (hx : vOk form.length 1000 x = true) (hy : y.length = form.length)
    (e : ∀ i, i < form.length → 2 * rd w (i : Int) * dot3 form w x = dot3 form w w * (rd x (i : Int) - rd y (i : Int))) : onB form (mirB form w).1 (mirB form w).2.1 x = (y, 1, true) := by
  obtain ⟨hf, h3, hw, h0, hm, g, g0, gq, ge⟩ := mirB_ok h
  have hl := (mvB_of hm).2.2.1
  have hr := (mvB_of hm).2.2.2.2.1
  have hd := (mvB_of hm).2.2.2.1
  generalize (mirB form w).1 = A at *
  generalize (mirB form w).2.1 = d at *
  have hwl := vOk_len hw
  have hxl := vOk_len hx
  have e0 : onR A x = y.map (fun z => d * z) := by
    apply List.ext_getElem
    · rw [onR_len, List.length_map, hl, hy]
    · intro i h1 h2
      have hi : i < form.length := by rw [onR_len, hl] at h1; exact h1
      have hiy : i < y.length := by omega
      have e1 := onR_at hl (fun r hr2 => vOk_len (hr r hr2)) hxl hi
      rw [rd_at, List.getD_eq_getElem?_getD, List.getElem?_eq_getElem h1] at e1
      have e2 := mirF_mv (form := form) (w := w) (fun k => rd x (k : Int)) i hi
      rw [← dot3_bF hwl hxl, e i hi] at e2
      have e3 : mv form.length (mirF form w) (fun k => rd x (k : Int)) i = g * mv form.length (ent A) (fun k => rd x (k : Int)) i := by
        rw [mv_congr (f' := fun i k => g * ent A i k) (v' := fun k => 1 * rd x (k : Int)) (fun k hk => ge i k hi hk) (fun k _ => (Int.one_mul _).symm), mv_mul]; simp
      have e4 : rd y (i : Int) = y[i] := by rw [rd_at]; simp [hiy]
      rw [e3, gq, e4] at e2
      simp only [Option.getD_some] at e1
      rw [e1, List.getElem_map]
      refine Int.eq_of_mul_eq_mul_left g0 ?_
      rw [e2]; grind
  have hg : gcdL 0 (d :: onR A x) = d.natAbs := by
    rw [gcdL_cons, Nat.gcd_zero_left, gcdL_gcd]
    refine Nat.gcd_eq_left ?_
    refine gcdL_great _ _ _ (Nat.dvd_zero _) (fun z hz => ?_)
    rw [e0] at hz
    obtain ⟨y, _, rfl⟩ := List.mem_map.1 hz
    rw [Int.natAbs_mul]; exact Nat.dvd_mul_right _ _
  have hdd : ((d.natAbs : Nat) : Int) = d := by omega
  unfold onB
  rw [if_pos ⟨hm, hx⟩, hg, hdd, e0, List.map_map]
  have e5 : List.map ((fun x => Int.tdiv x d) ∘ fun x => d * x) y = y := by
    conv => rhs; rw [← List.map_id y]
    exact List.map_congr_left (fun x _ => Int.mul_tdiv_cancel_left _ (by omega))
  rw [e5, Int.tdiv_self (by omega)]
/-- The mirror along the difference of two vectors of one value takes the one to the other; along the sum, to what is opposite. -/
theorem carry_eq {form u v : List Int} {t : Int} (ht : t * t = 1) (hu : u.length = form.length) (hv : v.length = form.length) (hq : dot3 form u u = dot3 form v v) (hs : some0 (combL u t v) = true) :
    ∀ i, i < form.length → 2 * rd (plainL (combL u t v)) (i : Int) * dot3 form (plainL (combL u t v)) u = dot3 form (plainL (combL u t v)) (plainL (combL u t v)) * (rd u (i : Int) - -t * rd v (i : Int)) := by
  obtain ⟨c, c0, pl, pe⟩ := plain_mul hs
  have zl := combL_len u t v
  generalize plainL (combL u t v) = w at *
  have hwl : w.length = form.length := by omega
  have ez : ∀ k, k < form.length → rd u (k : Int) + t * rd v (k : Int) = c * rd w (k : Int) := fun k hk => by
    rw [← combL_rd (show k < u.length by omega)]; exact pe k (by omega)
  intro i hi
  rw [dot3_bF hwl hu, dot3_bF hwl hwl]
  rw [dot3_bF hu hu, dot3_bF hv hv] at hq
  have a1 : bF form.length (fun k => rd form (k : Int)) (fun k => c * rd w (k : Int) + 0 * rd w (k : Int)) (fun k => rd u (k : Int)) = bF form.length (fun k => rd form (k : Int)) (fun k => 1 * rd u (k : Int) + t * rd v (k : Int)) (fun k => rd u (k : Int)) :=
    bF_congr (fun k hk => by rw [← ez k hk]; grind) (fun _ _ => rfl)
  have a2 : bF form.length (fun k => rd form (k : Int)) (fun k => c * rd w (k : Int) + 0 * rd w (k : Int)) (fun k => rd v (k : Int)) = bF form.length (fun k => rd form (k : Int)) (fun k => 1 * rd u (k : Int) + t * rd v (k : Int)) (fun k => rd v (k : Int)) :=
    bF_congr (fun k hk => by rw [← ez k hk]; grind) (fun _ _ => rfl)
  have a3 : bF form.length (fun k => rd form (k : Int)) (fun k => c * rd w (k : Int) + 0 * rd w (k : Int)) (fun k => rd w (k : Int)) = bF form.length (fun k => rd form (k : Int)) (fun k => 1 * rd u (k : Int) + t * rd v (k : Int)) (fun k => rd w (k : Int)) :=
    bF_congr (fun k hk => by rw [← ez k hk]; grind) (fun _ _ => rfl)
  rw [bF_comb, bF_comb] at a1 a2 a3
  rw [bF_comm _ _ (fun k => rd v (k : Int)) (fun k => rd u (k : Int))] at a1
  rw [bF_comm _ _ (fun k => rd u (k : Int)) (fun k => rd w (k : Int)), bF_comm _ _ (fun k => rd v (k : Int)) (fun k => rd w (k : Int))] at a3
  have ei := ez i hi
  generalize bF form.length (fun k => rd form (k : Int)) (fun k => rd w (k : Int)) (fun k => rd u (k : Int)) = wu at *
  generalize bF form.length (fun k => rd form (k : Int)) (fun k => rd w (k : Int)) (fun k => rd v (k : Int)) = wv at *
  generalize bF form.length (fun k => rd form (k : Int)) (fun k => rd w (k : Int)) (fun k => rd w (k : Int)) = ww at *
  generalize bF form.length (fun k => rd form (k : Int)) (fun k => rd u (k : Int)) (fun k => rd u (k : Int)) = uu at *
  generalize bF form.length (fun k => rd form (k : Int)) (fun k => rd v (k : Int)) (fun k => rd v (k : Int)) = vv at *
  generalize bF form.length (fun k => rd form (k : Int)) (fun k => rd u (k : Int)) (fun k => rd v (k : Int)) = uv at *
  have b0 : c * wv = uv + t * vv := by omega
  have b1 : c * wu = t * (c * wv) := by
    rw [b0, Int.mul_add, ← Int.mul_assoc t t vv, ht]; omega
  have b2 : wu = t * wv := Int.eq_of_mul_eq_mul_left c0 (by rw [b1]; grind)
  have b3 : c * ww = 2 * wu := by
    have : c * ww = wu + t * wv := by grind
    rw [this, ← b2]; omega
  have b4 : rd u (i : Int) - -t * rd v (i : Int) = c * rd w (i : Int) := by rw [← ei]; grind
  rw [b4]
  have : ww * (c * rd w (i : Int)) = c * ww * rd w (i : Int) := by grind
  rw [this, b3]; grind
/-- The mirror along a vector takes the opposite vector to it. -/
theorem carry_own {form v : List Int} (hv : v.length = form.length) (hs : some0 v = true) :
    ∀ i, i < form.length → 2 * rd (plainL v) (i : Int) * dot3 form (plainL v) (negL v) = dot3 form (plainL v) (plainL v) * (rd (negL v) (i : Int) - rd v (i : Int)) := by
  obtain ⟨c, c0, pl, pe⟩ := plain_mul hs
  generalize plainL v = w at *
  have hwl : w.length = form.length := by omega
  intro i hi
  rw [dot3_bF hwl (by rw [negL_len]; exact hv), dot3_bF hwl hwl]
  have a : bF form.length (fun k => rd form (k : Int)) (fun k => rd w (k : Int)) (fun k => rd (negL v) (k : Int)) = -c * bF form.length (fun k => rd form (k : Int)) (fun k => rd w (k : Int)) (fun k => rd w (k : Int)) := by
    rw [bF_comm, bF_congr (u' := fun k => -c * rd w (k : Int) + 0 * rd w (k : Int)) (v' := fun k => rd w (k : Int)) (fun k hk => by rw [negL_rd, pe k (by omega)]; grind) (fun _ _ => rfl), bF_comb]
    grind
  rw [a, negL_rd, pe i (by omega)]
  grind
/-- The list of vectors whose mirrors carry one vector to another one. -/
def carryB (form u v : List Int) : List (List Int) × Bool :=
  if fOk form = true ∧ form.length ≤ 3 ∧ vOk form.length 500 u = true ∧ vOk form.length 500 v = true ∧ dot3 form u u ≠ 0 ∧ dot3 form u u = dot3 form v v then
    (if u = v then ([], true) else if dot3 form (combL u (-1) v) (combL u (-1) v) ≠ 0 then ([plainL (combL u (-1) v)], true) else ([plainL (combL u 1 v), plainL v], true))
  else ([], false)
/-- How many terms are less than 0. -/
def lessN (form : List Int) : Nat := form.countP (fun t => decide (t < 0))
theorem dot3_sign : ∀ (f z : List Int), f.length = z.length → (∀ t ∈ f, 0 < t) → dot3 f z z ≥ 0 ∧ (dot3 f z z = 0 → ∀ x ∈ z, x = 0)
  | [], [], _, _ => by simp [dot3]
  | [], _ :: _, h, _ => by simp at h
  | _ :: _, [], h, _ => by simp at h
  | t :: f, x :: z, h, hp => by
    have ih := dot3_sign f z (by simpa using h) (fun s hs => hp s (by simp [hs]))
    have ht := hp t (by simp)
    have hx : 0 ≤ t * x * x := by
      rw [Int.mul_assoc]
      refine Int.mul_nonneg (by omega) ?_
      rcases Int.le_total 0 x with k | k
      · exact Int.mul_nonneg k k
      · rw [← Int.neg_mul_neg]; exact Int.mul_nonneg (by omega) (by omega)
    simp only [dot3]
    refine ⟨by omega, fun h0 y hy => ?_⟩
    rcases List.mem_cons.1 hy with rfl | hy
    · have : t * y * y = 0 := by omega
      rw [Int.mul_assoc] at this
      rcases Int.mul_eq_zero.1 this with q | q
      · omega
      · rcases Int.mul_eq_zero.1 q with q | q <;> exact q
    · exact ih.2 (by omega) y hy
theorem dot3_neg (f z : List Int) : dot3 (f.map fun t => -t) z z = -dot3 f z z := by
  induction f generalizing z with
  | nil => simp [dot3]
  | cons t f ih =>
    cases z with
    | nil => simp [dot3]
    | cons x z => simp only [List.map_cons, dot3]; rw [ih]; grind
/-- A form whose terms have one sign has the value 0 nowhere else than at 0. -/
theorem definite {form z : List Int} (hf : fOk form = true) (hz : z.length = form.length) (hl : lessN form = 0 ∨ lessN form = form.length) (h0 : dot3 form z z = 0) : some0 z = false := by
  have all : ∀ x ∈ z, x = 0 := by
    rcases hl with h | h
    · refine (dot3_sign form z hz.symm (fun t ht => ?_)).2 h0
      have := (List.countP_eq_zero.1 h) t ht
      have := (fOk_mem hf t ht).1
      simp at *; omega
    · refine (dot3_sign (form.map fun t => -t) z (by rw [List.length_map]; exact hz.symm) (fun t ht => ?_)).2 (by rw [dot3_neg, h0]; rfl)
      obtain ⟨s, hs, rfl⟩ := List.mem_map.1 ht
      have := (List.countP_eq_length.1 h) s hs
      simp at this; omega
  rw [some0_rd]
  exact fun i hi => all _ (rd_mem hi)
end Go.Proofs.Ytnbeeogmaamgdaa.Aid
