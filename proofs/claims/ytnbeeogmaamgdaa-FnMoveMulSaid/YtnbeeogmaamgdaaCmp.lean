/- Plain mathematics: a product of moves takes a vector where the moves take it. No program in sight. -/
import Derived.Test.YtnbeeogmaamgdaaBk
namespace Go.Proofs.Ytnbeeogmaamgdaa.Aid
open Go.RowKit Go.Proofs.YtnbeeogmaamgdaaW.PrintWords Go.Proofs.YtnbeeogmaamgdaaW.PrintLast Go.Proofs.YtnbeeogmaamgdaaW.PrintMore

/-- Two vectors over denominators, both in lowest terms, that are one fraction are one. -/
theorem vec_uniq {x y : List Int} {d e : Int} (hl : x.length = y.length) (hd : 0 < d) (he : 0 < e) (gx : gcdL 0 (d :: x) = 1) (gy : gcdL 0 (e :: y) = 1) (h : ∀ i, i < x.length → e * rd x (i : Int) = d * rd y (i : Int)) : x = y ∧ d = e := by
  have half : ∀ (x y : List Int) (d e : Int), x.length = y.length → gcdL 0 (d :: x) = 1 → (∀ i, i < x.length → e * rd x (i : Int) = d * rd y (i : Int)) → d.natAbs ∣ e.natAbs := by
    intro x y d e hl ga h
    have := gcdL_scale e (d :: x) 0
    rw [ga, Nat.mul_zero, Nat.mul_one] at this
    rw [← this]
    refine gcdL_great _ _ _ (Nat.dvd_zero _) (fun z hz => ?_)
    rw [List.map_cons] at hz
    rcases List.mem_cons.1 hz with rfl | hz
    · rw [Int.natAbs_mul]; exact Nat.dvd_mul_left _ _
    · obtain ⟨w, hw, rfl⟩ := List.mem_map.1 hz
      obtain ⟨i, hi, rfl⟩ := List.getElem_of_mem hw
      have := h i hi
      rw [rd_at, List.getD_eq_getElem?_getD, List.getElem?_eq_getElem hi] at this
      simp only [Option.getD_some] at this
      show d.natAbs ∣ (e * x[i]).natAbs
      rw [this, Int.natAbs_mul]; exact Nat.dvd_mul_right _ _
  have h1 := half x y d e hl gx h
  have h2 := half y x e d hl.symm gy (fun i hi => (h i (by omega)).symm)
  have hde : d = e := by have := Nat.dvd_antisymm h1 h2; omega
  subst hde
  refine ⟨List.ext_getElem hl (fun i h1 h2 => ?_), rfl⟩
  have := Int.eq_of_mul_eq_mul_left (by omega) (h i h1)
  rw [rd_at, rd_at, List.getD_eq_getElem?_getD, List.getD_eq_getElem?_getD, List.getElem?_eq_getElem h1, List.getElem?_eq_getElem h2] at this
  exact this
/-- The parts of what a move takes a vector to. -/
theorem onB_ok {form : List Int} {A : List (List Int)} {da : Int} {v : List Int} (h : mvB form A da = true) (hv : vOk form.length 1000 v = true) :
    (onB form A da v).2.2 = true ∧ (onB form A da v).1.length = form.length ∧ 0 < (onB form A da v).2.1 ∧ gcdL 0 ((onB form A da v).2.1 :: (onB form A da v).1) = 1 ∧
      ∀ i, i < form.length → (onB form A da v).2.1 * mv form.length (ent A) (fun k => rd v (k : Int)) i = da * rd (onB form A da v).1 (i : Int) := by
  obtain ⟨_, _, hl, hd, hr, _⟩ := mvB_of h
  have hat := fun i (hi : i < form.length) => onR_at hl (fun r h2 => vOk_len (hr r h2)) (vOk_len hv) hi
  unfold onB
  rw [if_pos ⟨h, hv⟩]
  simp only
  have hg := gcd_pos (show da ≠ 0 by omega) (onR A v)
  obtain ⟨g1, g2⟩ := gcd_dvd da (onR A v)
  have hgg : gcdL 0 (da :: onR A v) = gcdL 0 (da :: onR A v) := rfl
  have hol : (onR A v).length = form.length := by rw [onR_len, hl]
  generalize hG : gcdL 0 (da :: onR A v) = g at *
  have e1 := map_tdiv (onR A v) g2
  have e2 : (g : Int) * Int.tdiv da (g : Int) = da := Int.mul_tdiv_cancel' g1
  generalize hD : Int.tdiv da (g : Int) = D at *
  generalize hY : (onR A v).map (fun x => Int.tdiv x (g : Int)) = Y at *
  have hYl : Y.length = form.length := by rw [← hY, List.length_map, hol]
  refine ⟨trivial, hYl, ?_, ?_, fun i hi => ?_⟩
  · rcases (by omega : D ≤ 0 ∨ 0 < D) with k | k
    · have := Int.mul_nonneg (show (0 : Int) ≤ g by omega) (show 0 ≤ -D by omega)
      rw [Int.mul_neg] at this; omega
    · exact k
  · have s := gcdL_scale (g : Int) (D :: Y) 0
    rw [List.map_cons, e2, ← e1, Nat.mul_zero, hG] at s
    have : (g : Int).natAbs = g := rfl
    rw [this] at s
    exact Nat.eq_of_mul_eq_mul_left hg (by rw [← s, Nat.mul_one])
  · have a := hat i hi
    have hiY : i < Y.length := by omega
    have : rd (onR A v) (i : Int) = g * rd Y (i : Int) := by
      rw [e1, rd_at, rd_at]; simp [hiY]
    rw [← a, this, ← e2]; grind
/-- A product takes a vector where the second move and then the first one take it. -/
theorem on_mul {form : List Int} {A : List (List Int)} {da : Int} {B : List (List Int)} {db : Int} {v : List Int} (h : (mulB form A da B db).2.2 = true) (hv : vOk form.length 1000 v = true) (h1 : (onB form B db v).2.1 = 1) (hx : vOk form.length 1000 (onB form B db v).1 = true) :
    (onB form (mulB form A da B db).1 (mulB form A da B db).2.1 v).1 = (onB form A da (onB form B db v).1).1 ∧ (onB form (mulB form A da B db).1 (mulB form A da B db).2.1 v).2.1 = (onB form A da (onB form B db v).1).2.1 := by
  obtain ⟨hA, hB, hC, g, g0, gd, ge⟩ := mulB_ok h
  obtain ⟨_, xl, _, _, xe⟩ := onB_ok hB hv
  obtain ⟨_, yl, y0, yg, ye⟩ := onB_ok hC hv
  obtain ⟨_, zl, z0, zg, ze⟩ := onB_ok hA hx
  have hda := (mvB_of hA).2.2.2.1
  have hdb := (mvB_of hB).2.2.2.1
  have hdc := (mvB_of hC).2.2.2.1
  refine vec_uniq (by rw [yl, zl]) y0 z0 yg zg (fun i hi => ?_)
  have hi2 : i < form.length := by omega
  have ey := ye i hi2
  have ez := ze i hi2
  rw [h1] at xe
  have e1 : db * mv form.length (ent A) (fun k => rd (onB form B db v).1 (k : Int)) i = g * mv form.length (ent (mulB form A da B db).1) (fun k => rd v (k : Int)) i := by
    have a : mv form.length (fun i k => 1 * ent A i k) (fun k => db * rd (onB form B db v).1 (k : Int)) i = 1 * db * mv form.length (ent A) (fun k => rd (onB form B db v).1 (k : Int)) i := mv_mul _ _ _ _ _ _
    have b : mv form.length (fun i k => 1 * ent A i k) (fun k => db * rd (onB form B db v).1 (k : Int)) i = mv form.length (ent A) (mv form.length (ent B) (fun k => rd v (k : Int))) i :=
      mv_congr (fun k _ => Int.one_mul _) (fun k hk => by rw [← xe k hk, Int.one_mul])
    rw [b, ← mv_mm, Int.one_mul] at a
    rw [← a]
    have c := mv_mul form.length g 1 (ent (mulB form A da B db).1) (fun k => rd v (k : Int)) i
    rw [Int.mul_one] at c
    rw [← c]
    exact mv_congr (fun k hk => ge i k hi2 hk) (fun k _ => (Int.one_mul _).symm)
  generalize mv form.length (ent A) (fun k => rd (onB form B db v).1 (k : Int)) i = P at *
  generalize mv form.length (ent (mulB form A da B db).1) (fun k => rd v (k : Int)) i = Q at *
  generalize rd (onB form (mulB form A da B db).1 (mulB form A da B db).2.1 v).1 (i : Int) = y at *
  generalize rd (onB form A da (onB form B db v).1).1 (i : Int) = z at *
  generalize (onB form (mulB form A da B db).1 (mulB form A da B db).2.1 v).2.1 = ey' at *
  generalize (onB form A da (onB form B db v).1).2.1 = ez' at *
  generalize (mulB form A da B db).2.1 = dc at *
  refine Int.eq_of_mul_eq_mul_left (show g * dc ≠ 0 from Int.mul_ne_zero (by omega) (by omega)) ?_
  have a1 : g * dc * (ez' * y) = g * ez' * (dc * y) := by grind
  have a2 : g * dc * (ey' * z) = ey' * db * (da * z) := by rw [← gd]; grind
  rw [a1, a2, ← ey, ← ez]
  have : g * ez' * (ey' * Q) = ez' * ey' * (g * Q) := by grind
  rw [this, ← e1]; grind
end Go.Proofs.Ytnbeeogmaamgdaa.Aid
