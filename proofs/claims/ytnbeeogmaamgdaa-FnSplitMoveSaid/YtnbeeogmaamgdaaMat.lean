/- Plain mathematics on moves: sums over places, rows as functions of two places, pairs kept, lowest terms. No program in sight. -/
import Derived.Test.YtnbeeogmaamgdaaMov
namespace Go.Proofs.Ytnbeeogmaamgdaa.Aid
open Go.RowKit Go.Proofs.YtnbeeogmaamgdaaW.PrintWords Go.Proofs.YtnbeeogmaamgdaaW.PrintLast Go.Proofs.YtnbeeogmaamgdaaW.PrintMore
theorem sumN_add (n : Nat) (f g : Nat → Int) : sumN n (fun k => f k + g k) = sumN n f + sumN n g := by
  induction n with
  | zero => rfl
  | succ n ih => simp only [sumN]; rw [ih]; omega
theorem sumN_mul (n : Nat) (c : Int) (f : Nat → Int) : sumN n (fun k => c * f k) = c * sumN n f := by
  induction n with
  | zero => simp [sumN]
  | succ n ih => simp only [sumN]; rw [ih, Int.mul_add]
theorem sumN_mulr (n : Nat) (c : Int) (f : Nat → Int) : sumN n (fun k => f k * c) = sumN n f * c := by
  rw [Int.mul_comm, ← sumN_mul]; exact sumN_congr _ _ _ (fun k _ => Int.mul_comm _ _)
theorem sumN_zero (n : Nat) : sumN n (fun _ => 0) = 0 := by
  induction n with
  | zero => rfl
  | succ n ih => simp only [sumN]; rw [ih]; rfl
theorem sumN_swap (n m : Nat) (f : Nat → Nat → Int) : sumN n (fun i => sumN m (f i)) = sumN m (fun j => sumN n (fun i => f i j)) := by
  induction n with
  | zero => exact (sumN_zero m).symm
  | succ n ih => simp only [sumN]; rw [ih, ← sumN_add]
theorem sumN_one (n p : Nat) (hp : p < n) (f : Nat → Int) (h : ∀ k, k < n → k ≠ p → f k = 0) : sumN n f = f p := by
  induction n with
  | zero => omega
  | succ n ih =>
    simp only [sumN]
    rcases (by omega : p = n ∨ p < n) with rfl | h1
    · have : ∀ m, m ≤ p → sumN m f = 0 := by
        intro m
        induction m with
        | zero => intro _; rfl
        | succ m ih => intro hm; simp only [sumN]; rw [ih (by omega), h m (by omega) (by omega)]; rfl
      rw [this p (by omega)]; omega
    · rw [ih h1 (fun k h2 h3 => h k (by omega) h3), h n (by omega) (by omega)]; omega
def mv (n : Nat) (f : Nat → Nat → Int) (v : Nat → Int) (i : Nat) : Int := sumN n (fun a => f i a * v a)
def ent (A : List (List Int)) (i k : Nat) : Int := rd (A.getD i []) (k : Int)
theorem rows_mat {n : Nat} {A : List (List Int)} (hA : A.length = n) (hr : ∀ r ∈ A, r.length = n) : A = mat n (ent A) := by
  apply List.ext_getElem
  · rw [mat_len, hA]
  · intro i h1 h2
    have e : (mat n (ent A))[i] = (List.range n).map (ent A i) := by simp [mat]
    rw [e]
    have hl := hr _ (List.getElem_mem h1)
    apply List.ext_getElem
    · rw [hl, List.length_map, List.length_range]
    · intro k k1 k2
      simp [ent, rd_at, h1, k1]
theorem mvB_mat_eq {form : List Int} {A : List (List Int)} {d : Int} (h : mvB form A d = true) : A = mat form.length (ent A) := by
  obtain ⟨_, _, hl, _, hr, _⟩ := mvB_of h
  exact rows_mat hl (fun r hr2 => vOk_len (hr r hr2))
theorem onR_at {n : Nat} {A : List (List Int)} {v : List Int} (hA : A.length = n) (hr : ∀ r ∈ A, r.length = n) (hv : v.length = n) {i : Nat} (hi : i < n) : rd (onR A v) (i : Int) = mv n (ent A) (fun k => rd v (k : Int)) i := by
  have h1 : i < A.length := by omega
  have e : rd (onR A v) (i : Int) = dot2 (A[i]) v := by rw [rd_at]; unfold onR; simp [h1]
  rw [e, dot2_sum n _ _ (hr _ (List.getElem_mem h1)) hv]
  unfold mv ent
  simp [h1]
theorem onR_len (A : List (List Int)) (v : List Int) : (onR A v).length = A.length := by unfold onR; rw [List.length_map]
theorem map_tdiv {g : Int} (y : List Int) (h : ∀ x ∈ y, g ∣ x) : y = (y.map fun x => Int.tdiv x g).map (g * ·) := by
  rw [List.map_map]
  conv => lhs; rw [← List.map_id y]
  exact List.map_congr_left (fun x hx => (Int.mul_tdiv_cancel' (h x hx)).symm)
theorem gcd_dvd (d : Int) (y : List Int) : (gcdL 0 (d :: y) : Int) ∣ d ∧ ∀ x ∈ y, (gcdL 0 (d :: y) : Int) ∣ x := by
  have h := gcdL_mono (d :: y) 0
  exact ⟨Int.ofNat_dvd_left.2 (h.2 d (by simp)), fun x hx => Int.ofNat_dvd_left.2 (h.2 x (by simp [hx]))⟩
theorem gcd_pos {d : Int} (hd : d ≠ 0) (y : List Int) : 0 < gcdL 0 (d :: y) := by
  rw [gcdL_cons, gcdL_gcd, Nat.gcd_zero_left]; exact Nat.gcd_pos_of_pos_left _ (by omega)
end Go.Proofs.Ytnbeeogmaamgdaa.Aid
