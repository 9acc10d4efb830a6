/- Plain mathematics on moves: sums over places, rows as functions of two places, pairs kept, lowest terms. No program in sight. -/
import Derived.Test.YtpaohkhmhdhibaaMov
namespace Go.Proofs.Ytpaohkhmhdhibaa.Aid
open Go.RowKit Go.Proofs.YtpaohkhmhdhibaaW.PrintWords Go.Proofs.YtpaohkhmhdhibaaW.PrintLast Go.Proofs.YtpaohkhmhdhibaaW.PrintMore
theorem dot3_scale (f : List Int) (g : Int) : ∀ (v w : List Int), dot3 f (v.map (g * ·)) (w.map (g * ·)) = g * g * dot3 f v w := by
  induction f with
  | nil => intro v w; simp [dot3]
  | cons x f ih =>
    intro v w
    cases v with
    | nil => simp [dot3]
    | cons a v =>
      cases w with
      | nil => simp [dot3]
      | cons b w => simp only [List.map_cons, dot3]; rw [ih]; grind
end Go.Proofs.Ytpaohkhmhdhibaa.Aid
