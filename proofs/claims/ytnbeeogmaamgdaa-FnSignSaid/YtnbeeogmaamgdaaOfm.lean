/- Plain mathematics on products of mirrors. No program in sight. -/
import Derived.Test.YtnbeeogmaamgdaaMir
import Derived.Test.YtnbeeogmaamgdaaBk
namespace Go.Proofs.Ytnbeeogmaamgdaa.Aid
open Go.RowKit Go.Proofs.YtnbeeogmaamgdaaW.PrintWords Go.Proofs.YtnbeeogmaamgdaaW.PrintLast Go.Proofs.YtnbeeogmaamgdaaW.PrintMore
def prodM (form : List Int) : List (List Int) → Nat → Nat → Int
  | [] => unit 1
  | w :: ws => mm form.length (mirF form w) (prodM form ws)
def prodQ (form : List Int) : List (List Int) → Int
  | [] => 1
  | w :: ws => dot3 form w w * prodQ form ws
theorem prodQ_app (form : List Int) (b : List (List Int)) : ∀ (a : List (List Int)), prodQ form (a ++ b) = prodQ form a * prodQ form b
  | [] => by simp [prodQ]
  | w :: a => by
    show dot3 form w w * prodQ form (a ++ b) = dot3 form w w * prodQ form a * prodQ form b
    rw [prodQ_app form b a, Int.mul_assoc]
theorem prodQ_rev (form : List Int) : ∀ (a : List (List Int)), prodQ form a.reverse = prodQ form a
  | [] => rfl
  | w :: a => by
    rw [List.reverse_cons, prodQ_app, prodQ_rev form a]
    show prodQ form a * (dot3 form w w * 1) = dot3 form w w * prodQ form a
    rw [Int.mul_one, Int.mul_comm]
theorem prodQ_ne (form : List Int) : ∀ (a : List (List Int)), (∀ w ∈ a, dot3 form w w ≠ 0) → prodQ form a ≠ 0
  | [], _ => by simp [prodQ]
  | w :: a, h => Int.mul_ne_zero (h w (by simp)) (prodQ_ne form a (fun v hv => h v (by simp [hv])))
theorem det_prod {form : List Int} (h1 : 1 ≤ form.length) (h3 : form.length ≤ 3) : ∀ (a : List (List Int)), (∀ w ∈ a, w.length = form.length) → detF form.length (prodM form a) = (-1) ^ a.length * prodQ form a ^ form.length
  | [], _ => by
    show detF form.length (unit 1) = _
    rw [det_unit h1 h3]; simp [prodQ]
  | w :: a, h => by
    have ih := det_prod h1 h3 a (fun v hv => h v (by simp [hv]))
    show detF form.length (mm form.length (mirF form w) (prodM form a)) = (-1) ^ (a.length + 1) * (dot3 form w w * prodQ form a) ^ form.length
    have e : (dot3 form w w * prodQ form a) ^ form.length = dot3 form w w ^ form.length * prodQ form a ^ form.length := Int.mul_pow
    rw [det_mul h1 h3, mir_det h1 h3 (h w (by simp)), ih, e, Int.pow_succ]
    generalize (-1 : Int) ^ a.length = s
    generalize dot3 form w w ^ form.length = x
    generalize prodQ form a ^ form.length = y
    grind
theorem mir_vec {form : List Int} {l : List (List Int)} (h : ∀ w ∈ l, (mirB form w).2.2 = true) : (∀ w ∈ l, w.length = form.length) ∧ ∀ w ∈ l, dot3 form w w ≠ 0 :=
  ⟨fun w hw => vOk_len (mirB_ok (h w hw)).2.2.1, fun w hw => (mirB_ok (h w hw)).2.2.2.1⟩
end Go.Proofs.Ytnbeeogmaamgdaa.Aid
