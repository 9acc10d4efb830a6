/- Plain words on moves: rows of integers over one denominator. No program in sight. -/
import Derived.Test.YtpaohkhmhdhibaaVec
namespace Go.Proofs.Ytpaohkhmhdhibaa.Aid
open Go.RowKit Go.Proofs.YtpaohkhmhdhibaaW.PrintWords Go.Proofs.YtpaohkhmhdhibaaW.PrintLast Go.Proofs.YtpaohkhmhdhibaaW.PrintMore
def colL (rows : List (List Int)) (j : Nat) : List Int := rows.map fun r => rd r (j : Int)
def mvP (form : List Int) (rows : List (List Int)) (den : Int) : Prop :=
  ∀ a, a < form.length → ∀ b, b < form.length → dot3 form (colL rows a) (colL rows b) = if a = b then rd form (a : Int) * den * den else 0
instance (form : List Int) (rows : List (List Int)) (den : Int) : Decidable (mvP form rows den) := by unfold mvP; exact inferInstance
theorem gcdL_cons (x : Int) (a : List Int) (g : Nat) : gcdL g (x :: a) = gcdL (Nat.gcd g x.natAbs) a := rfl
theorem list3 {α : Type} {l : List α} (h : l.length = 3) : ∃ a b c, l = [a, b, c] := by
  match l, h with | [a, b, c], _ => exact ⟨a, b, c, rfl⟩
theorem gcdL_scale (g : Int) : ∀ (l : List Int) (a : Nat), gcdL (g.natAbs * a) (l.map (g * ·)) = g.natAbs * gcdL a l
  | [], a => rfl
  | x :: l, a => by
    simp only [List.map_cons, gcdL_cons, Int.natAbs_mul]
    rw [Nat.gcd_mul_left]
    exact gcdL_scale g l _
theorem mul2_bd {a b A B : Int} (ha : -A ≤ a ∧ a ≤ A) (hb : -B ≤ b ∧ b ≤ B) : -(A * B) ≤ a * b ∧ a * b ≤ A * B := by
  have h2 : a.natAbs ≤ A.toNat := by omega
  have h3 : b.natAbs ≤ B.toNat := by omega
  have h4 : (a * b).natAbs ≤ A.toNat * B.toNat := by rw [Int.natAbs_mul]; exact Nat.mul_le_mul h2 h3
  have e : ((A.toNat * B.toNat : Nat) : Int) = A * B := by rw [Int.natCast_mul, Int.toNat_of_nonneg (by omega), Int.toNat_of_nonneg (by omega)]
  omega
theorem tdiv_mag (x d : Int) : (Int.tdiv x d).natAbs ≤ x.natAbs := by
  rw [Int.natAbs_tdiv]; exact Nat.div_le_self _ _
end Go.Proofs.Ytpaohkhmhdhibaa.Aid
