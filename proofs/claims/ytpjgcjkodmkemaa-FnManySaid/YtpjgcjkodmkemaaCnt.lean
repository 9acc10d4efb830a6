/- Counting vectors: plain words. No program in sight. -/
import Derived.Test.YtpjgcjkodmkemaaPln
namespace Go.Proofs.Ytpjgcjkodmkemaa.Aid
open Go.RowKit Go.Proofs.YtpjgcjkodmkemaaW.PrintWords Go.Proofs.YtpjgcjkodmkemaaW.PrintLast Go.Proofs.YtpjgcjkodmkemaaW.PrintMore
def hitB (f v : List Int) : Bool := decide (dot3 f v v = 0) && (some0 v && decide (plainL v = v))
def cntL (g : Int → Nat) : Nat → Int → Nat
  | 0, _ => 0
  | c + 1, x => g x + cntL g c (x + 1)
def cntR (h : List Int → Bool) (n : Nat) : Nat → List Int → Nat
  | 0, p => if h p = true then 1 else 0
  | m + 1, p => cntL (fun x => cntR h n m (p ++ [x])) (2 * n + 1) (-(n : Int))
theorem cntL_le {g : Int → Nat} {B : Nat} (h : ∀ x, g x ≤ B) : ∀ c x, cntL g c x ≤ c * B
  | 0, _ => Nat.zero_le _
  | c + 1, x => by
    have := cntL_le h c (x + 1)
    have := h x
    unfold cntL; rw [Nat.succ_mul]; omega
theorem cntR_le (h : List Int → Bool) (n : Nat) : ∀ m p, cntR h n m p ≤ (2 * n + 1) ^ m
  | 0, p => by unfold cntR; split <;> simp
  | m + 1, p => by
    have := cntL_le (fun x => cntR_le h n m (p ++ [x])) (2 * n + 1) (-(n : Int))
    unfold cntR; rw [Nat.pow_succ, Nat.mul_comm ((2 * n + 1) ^ m)]; exact this
theorem cntL_mono {g g' : Int → Nat} (h : ∀ x, g x ≤ g' x) : ∀ c x, cntL g c x ≤ cntL g' c x
  | 0, _ => Nat.le_refl _
  | c + 1, x => by have := cntL_mono h c (x + 1); have := h x; unfold cntL; omega
theorem cntL_end (g : Int → Nat) : ∀ c x, cntL g (c + 1) x = cntL g c x + g (x + c)
  | 0, x => by simp [cntL]
  | c + 1, x => by
    have e := cntL_end g c (x + 1)
    rw [cntL, e, cntL, show x + 1 + (c : Int) = x + ((c + 1 : Nat) : Int) by omega]; omega
theorem cntR_mono (h : List Int → Bool) (n : Nat) : ∀ m p, cntR h n m p ≤ cntR h (n + 1) m p
  | 0, p => Nat.le_refl _
  | m + 1, p => by
    have a := cntL_mono (fun x => cntR_mono h n m (p ++ [x])) (2 * n + 1) (-(n : Int))
    unfold cntR
    have e := cntL_end (fun x => cntR h (n + 1) m (p ++ [x])) (2 * n + 1 + 1) (-((n + 1 : Nat) : Int))
    have f : ∀ (g : Int → Nat) (c : Nat) (x : Int), cntL g (c + 1) x = g x + cntL g c (x + 1) := fun _ _ _ => rfl
    rw [show 2 * (n + 1) + 1 = 2 * n + 1 + 1 + 1 by omega, e, f _ (2 * n + 1) (-((n + 1 : Nat) : Int)), show -((n + 1 : Nat) : Int) + 1 = -(n : Int) by omega]
    omega
theorem cntL_pos {g : Int → Nat} : ∀ (c : Nat) (x y : Int), x ≤ y → y < x + c → 1 ≤ g y → 1 ≤ cntL g c x
  | 0, x, y, h, h1, _ => by omega
  | c + 1, x, y, h, h1, h2 => by
    unfold cntL
    rcases (by omega : x = y ∨ x + 1 ≤ y) with rfl | k
    · omega
    · have := cntL_pos (g := g) c (x + 1) y k (by omega) h2; omega
theorem cntR_pos (h : List Int → Bool) (n : Nat) : ∀ (q p : List Int), (∀ x ∈ q, -(n : Int) ≤ x ∧ x ≤ n) → h (p ++ q) = true → 1 ≤ cntR h n q.length p
  | [], p, _, hh => by rw [List.append_nil] at hh; simp [cntR, hh]
  | x :: q, p, hb, hh => by
    have := cntR_pos h n q (p ++ [x]) (fun y hy => hb y (List.mem_cons_of_mem _ hy)) (by rw [List.append_assoc]; exact hh)
    have b := hb x (by simp)
    rw [List.length_cons, cntR]
    exact cntL_pos _ _ x (by omega) (by omega) this
theorem cntL_some {g : Int → Nat} : ∀ (c : Nat) (x : Int), 1 ≤ cntL g c x → ∃ y, x ≤ y ∧ y < x + c ∧ 1 ≤ g y
  | 0, x, h => by simp [cntL] at h
  | c + 1, x, h => by
    unfold cntL at h
    rcases (by omega : 1 ≤ g x ∨ 1 ≤ cntL g c (x + 1)) with k | k
    · exact ⟨x, Int.le_refl _, by omega, k⟩
    · obtain ⟨y, h1, h2, h3⟩ := cntL_some c (x + 1) k
      exact ⟨y, by omega, by omega, h3⟩
theorem cntR_some (h : List Int → Bool) (n : Nat) : ∀ m p, 1 ≤ cntR h n m p → ∃ q : List Int, q.length = m ∧ (∀ x ∈ q, -(n : Int) ≤ x ∧ x ≤ n) ∧ h (p ++ q) = true
  | 0, p, hc => by
    unfold cntR at hc
    split at hc
    · rename_i k; exact ⟨[], rfl, by simp, by rw [List.append_nil]; exact k⟩
    · omega
  | m + 1, p, hc => by
    unfold cntR at hc
    obtain ⟨y, h1, h2, h3⟩ := cntL_some _ _ hc
    obtain ⟨q, q1, q2, q3⟩ := cntR_some h n m (p ++ [y]) h3
    refine ⟨y :: q, by simp [q1], fun x hx => ?_, by rw [List.append_assoc] at q3; exact q3⟩
    rcases List.mem_cons.1 hx with rfl | hx
    · omega
    · exact q2 x hx
end Go.Proofs.Ytpjgcjkodmkemaa.Aid
