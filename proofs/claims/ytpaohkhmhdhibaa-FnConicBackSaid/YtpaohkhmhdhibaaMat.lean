/- Plain mathematics on moves: sums over places, rows as functions of two places, pairs kept, lowest terms. No program in sight. -/
import Derived.Test.YtpaohkhmhdhibaaMov
namespace Go.Proofs.Ytpaohkhmhdhibaa.Aid
open Go.RowKit Go.Proofs.YtpaohkhmhdhibaaW.PrintWords Go.Proofs.YtpaohkhmhdhibaaW.PrintLast Go.Proofs.YtpaohkhmhdhibaaW.PrintMore

theorem sumN_add (n : Nat) (f g : Nat → Int) : sumN n (fun k => f k + g k) = sumN n f + sumN n g := by
  induction n with
  | zero => rfl
  | succ n ih => simp only [sumN]; rw [ih]; omega
theorem sumN_mul (n : Nat) (c : Int) (f : Nat → Int) : sumN n (fun k => c * f k) = c * sumN n f := by
  induction n with
  | zero => simp [sumN]
  | succ n ih => simp only [sumN]; rw [ih, Int.mul_add]
theorem sumN_mulr (n : Nat) (c : Int) (f : Nat → Int) : sumN n (fun k => f k * c) = sumN n f * c := by
  rw [Int.mul_comm, ← sumN_mul]; exact sumN_congr _ _ _ (fun k _ => Int.mul_comm _ _)
theorem sumN_zero (n : Nat) : sumN n (fun _ => 0) = 0 := by
  induction n with
  | zero => rfl
  | succ n ih => simp only [sumN]; rw [ih]; rfl
theorem sumN_swap (n m : Nat) (f : Nat → Nat → Int) : sumN n (fun i => sumN m (f i)) = sumN m (fun j => sumN n (fun i => f i j)) := by
  induction n with
  | zero => exact (sumN_zero m).symm
  | succ n ih => simp only [sumN]; rw [ih, ← sumN_add]
theorem sumN_one (n p : Nat) (hp : p < n) (f : Nat → Int) (h : ∀ k, k < n → k ≠ p → f k = 0) : sumN n f = f p := by
  induction n with
  | zero => omega
  | succ n ih =>
    simp only [sumN]
    rcases (by omega : p = n ∨ p < n) with rfl | h1
    · have : ∀ m, m ≤ p → sumN m f = 0 := by
        intro m
        induction m with
        | zero => intro _; rfl
        | succ m ih => intro hm; simp only [sumN]; rw [ih (by omega), h m (by omega) (by omega)]; rfl
      rw [this p (by omega)]; omega
    · rw [ih h1 (fun k h2 h3 => h k (by omega) h3), h n (by omega) (by omega)]; omega
/-- The columns of a matrix by a function have the pairs of terms, times the square of a number. -/
def IsO (n : Nat) (F : Nat → Int) (f : Nat → Nat → Int) (D : Int) : Prop :=
  ∀ a, a < n → ∀ b, b < n → sumN n (fun k => F k * f k a * f k b) = if a = b then F a * D * D else 0
/-- A matrix times a vector. -/
def mv (n : Nat) (f : Nat → Nat → Int) (v : Nat → Int) (i : Nat) : Int := sumN n (fun a => f i a * v a)
/-- A matrix keeps pairs. -/
theorem pair_on {n : Nat} {F : Nat → Int} {f : Nat → Nat → Int} {D : Int} (h : IsO n F f D) (u v : Nat → Int) :
    sumN n (fun k => F k * mv n f u k * mv n f v k) = D * D * sumN n (fun k => F k * u k * v k) := by
  have e1 : ∀ k, F k * mv n f u k * mv n f v k = sumN n (fun a => sumN n (fun b => F k * f k a * f k b * (u a * v b))) := by
    intro k
    unfold mv
    rw [← sumN_mul n (F k), ← sumN_mulr]
    refine sumN_congr _ _ _ (fun a _ => ?_)
    rw [← sumN_mul]
    exact sumN_congr _ _ _ (fun b _ => by grind)
  rw [sumN_congr n _ _ (fun k _ => e1 k), sumN_swap, ← sumN_mul]
  refine sumN_congr _ _ _ (fun a ha => ?_)
  rw [sumN_swap]
  rw [sumN_one n a ha _ (fun b hb hne => ?_)]
  · rw [sumN_mulr, h a ha a ha, if_pos rfl]; grind
  · rw [sumN_mulr, h a ha b hb, if_neg (fun e => hne e.symm), Int.zero_mul]
/-- The integers of rows. -/
def ent (A : List (List Int)) (i k : Nat) : Int := rd (A.getD i []) (k : Int)
theorem rows_mat {n : Nat} {A : List (List Int)} (hA : A.length = n) (hr : ∀ r ∈ A, r.length = n) : A = mat n (ent A) := by
  apply List.ext_getElem
  · rw [mat_len, hA]
  · intro i h1 h2
    have e : (mat n (ent A))[i] = (List.range n).map (ent A i) := by simp [mat]
    rw [e]
    have hl := hr _ (List.getElem_mem h1)
    apply List.ext_getElem
    · rw [hl, List.length_map, List.length_range]
    · intro k k1 k2
      simp [ent, rd_at, h1, k1]
theorem mvB_mat_eq {form : List Int} {A : List (List Int)} {d : Int} (h : mvB form A d = true) : A = mat form.length (ent A) := by
  obtain ⟨_, _, hl, _, hr, _⟩ := mvB_of h
  exact rows_mat hl (fun r hr2 => vOk_len (hr r hr2))
theorem mvB_isO {form : List Int} {A : List (List Int)} {d : Int} (h : mvB form A d = true) : IsO form.length (fun k => rd form (k : Int)) (ent A) d := by
  have e := mvB_mat_eq h
  have hp := (mvB_of h).2.2.2.2.2.2
  rw [e] at hp
  exact mvP_mat.1 hp
theorem onR_at {n : Nat} {A : List (List Int)} {v : List Int} (hA : A.length = n) (hr : ∀ r ∈ A, r.length = n) (hv : v.length = n) {i : Nat} (hi : i < n) : rd (onR A v) (i : Int) = mv n (ent A) (fun k => rd v (k : Int)) i := by
  have h1 : i < A.length := by omega
  have e : rd (onR A v) (i : Int) = dot2 (A[i]) v := by rw [rd_at]; unfold onR; simp [h1]
  rw [e, dot2_sum n _ _ (hr _ (List.getElem_mem h1)) hv]
  unfold mv ent
  simp [h1]
theorem onR_len (A : List (List Int)) (v : List Int) : (onR A v).length = A.length := by unfold onR; rw [List.length_map]
/-- What a move takes two vectors to has the vectors' pair, times the square of the denominator. -/
theorem on_pair {form : List Int} {A : List (List Int)} {d : Int} (h : mvB form A d = true) {u v : List Int} (hu : u.length = form.length) (hv : v.length = form.length) :
    dot3 form (onR A u) (onR A v) = d * d * dot3 form u v := by
  obtain ⟨_, _, hl, _, hr, _⟩ := mvB_of h
  have hr2 : ∀ r ∈ A, r.length = form.length := fun r h2 => vOk_len (hr r h2)
  rw [dot3_sum form.length _ _ _ rfl (by rw [onR_len, hl]) (by rw [onR_len, hl]), dot3_sum form.length _ _ _ rfl hu hv, ← pair_on (mvB_isO h)]
  refine sumN_congr _ _ _ (fun k hk => ?_)
  rw [onR_at hl hr2 hu hk, onR_at hl hr2 hv hk]
/-- A list is a number times what is left of it behind dividing by it. -/
theorem map_tdiv {g : Int} (y : List Int) (h : ∀ x ∈ y, g ∣ x) : y = (y.map fun x => Int.tdiv x g).map (g * ·) := by
  rw [List.map_map]
  conv => lhs; rw [← List.map_id y]
  exact List.map_congr_left (fun x hx => (Int.mul_tdiv_cancel' (h x hx)).symm)
theorem dot3_scale (f : List Int) (g : Int) : ∀ (v w : List Int), dot3 f (v.map (g * ·)) (w.map (g * ·)) = g * g * dot3 f v w := by
  induction f with
  | nil => intro v w; simp [dot3]
  | cons x f ih =>
    intro v w
    cases v with
    | nil => simp [dot3]
    | cons a v =>
      cases w with
      | nil => simp [dot3]
      | cons b w => simp only [List.map_cons, dot3]; rw [ih]; grind
theorem gcd_dvd (d : Int) (y : List Int) : (gcdL 0 (d :: y) : Int) ∣ d ∧ ∀ x ∈ y, (gcdL 0 (d :: y) : Int) ∣ x := by
  have h := gcdL_mono (d :: y) 0
  exact ⟨Int.ofNat_dvd_left.2 (h.2 d (by simp)), fun x hx => Int.ofNat_dvd_left.2 (h.2 x (by simp [hx]))⟩
theorem gcd_pos {d : Int} (hd : d ≠ 0) (y : List Int) : 0 < gcdL 0 (d :: y) := by
  rw [gcdL_cons, gcdL_gcd, Nat.gcd_zero_left]; exact Nat.gcd_pos_of_pos_left _ (by omega)
/-- Moves keep values: what a move takes a vector to, in lowest terms, has the vector's value times the square of the denominator. -/
theorem on_value {form : List Int} {A : List (List Int)} {d : Int} {v : List Int} (h : mvB form A d = true) (hv : vOk form.length 1000 v = true) :
    dot3 form (onB form A d v).1 (onB form A d v).1 = dot3 form v v * (onB form A d v).2.1 * (onB form A d v).2.1 ∧ 1 ≤ (onB form A d v).2.1 ∧ (onB form A d v).2.1 ≤ 10000 ∧ (onB form A d v).2.2 = true := by
  obtain ⟨_, _, hl, hd, hr, _⟩ := mvB_of h
  unfold onB
  rw [if_pos ⟨h, hv⟩]
  simp only
  have hp := on_pair h (vOk_len hv) (vOk_len hv)
  have hg := gcd_pos (show d ≠ 0 by omega) (onR A v)
  obtain ⟨g1, g2⟩ := gcd_dvd d (onR A v)
  generalize gcdL 0 (d :: onR A v) = g at *
  have e1 := map_tdiv (onR A v) g2
  have e2 : (g : Int) * Int.tdiv d (g : Int) = d := Int.mul_tdiv_cancel' g1
  generalize hD : Int.tdiv d (g : Int) = D at *
  generalize hY : (onR A v).map (fun x => Int.tdiv x (g : Int)) = Y at *
  rw [e1, dot3_scale, ← e2] at hp
  have hg2 : ((g : Int) * g) ≠ 0 := Int.mul_ne_zero (by omega) (by omega)
  have hD0 : 1 ≤ D := by
    rcases (by omega : D ≤ 0 ∨ 1 ≤ D) with k | k
    · have := Int.mul_nonneg (show (0 : Int) ≤ g by omega) (show 0 ≤ -D by omega)
      rw [Int.mul_neg] at this; omega
    · exact k
  have hD1 : D ≤ 10000 := by
    have := Int.mul_le_mul_of_nonneg_right (show (1 : Int) ≤ g by omega) (show 0 ≤ D by omega)
    omega
  refine ⟨Int.eq_of_mul_eq_mul_left hg2 ?_, hD0, hD1, trivial⟩
  rw [hp]; grind
end Go.Proofs.Ytpaohkhmhdhibaa.Aid
