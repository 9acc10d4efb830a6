/- Plain words on moves: rows of integers over one denominator. No program in sight. -/
import Derived.Test.YtnbeeogmaamgdaaVec
namespace Go.Proofs.Ytnbeeogmaamgdaa.Aid
open Go.RowKit Go.Proofs.YtnbeeogmaamgdaaW.PrintWords Go.Proofs.YtnbeeogmaamgdaaW.PrintLast Go.Proofs.YtnbeeogmaamgdaaW.PrintMore

/-- A column of rows. -/
def colL (rows : List (List Int)) (j : Nat) : List Int := rows.map fun r => rd r (j : Int)
/-- The columns have the pairs of the form's terms, times the denominator's square. -/
def mvP (form : List Int) (rows : List (List Int)) (den : Int) : Prop :=
  ∀ a, a < form.length → ∀ b, b < form.length → dot3 form (colL rows a) (colL rows b) = if a = b then rd form (a : Int) * den * den else 0
instance (form : List Int) (rows : List (List Int)) (den : Int) : Decidable (mvP form rows den) := by unfold mvP; exact inferInstance
/-- Rows over a denominator are a move of a form. -/
def mvB (form : List Int) (rows : List (List Int)) (den : Int) : Bool :=
  decide (fOk form = true ∧ form.length ≤ 3 ∧ rows.length = form.length ∧ (1 ≤ den ∧ den ≤ 10000) ∧ (∀ r ∈ rows, vOk form.length 1000000 r = true) ∧ gcdL 0 (den :: rows.flatten) = 1 ∧ mvP form rows den)
/-- The greatest integer that divides a denominator and rows, with the denominator's sign. -/
def lowD (rows : List (List Int)) (den : Int) : Int := if den < 0 then -(gcdL 0 (den :: rows.flatten) : Int) else (gcdL 0 (den :: rows.flatten) : Int)
/-- Rows over a denominator in lowest terms. -/
def lowR (rows : List (List Int)) (den : Int) : List (List Int) := rows.map fun r => r.map fun x => Int.tdiv x (lowD rows den)
/-- The move that rows over a denominator are in lowest terms, if they are one. -/
def lowB (form : List Int) (rows : List (List Int)) (den : Int) : List (List Int) × Int × Bool :=
  if mvB form (lowR rows den) (Int.tdiv den (lowD rows den)) then (lowR rows den, Int.tdiv den (lowD rows den), true) else ([], 0, false)
/-- The rows by a function of two places. -/
def mat (n : Nat) (f : Nat → Nat → Int) : List (List Int) := (List.range n).map fun i => (List.range n).map (f i)

theorem take_s {α : Type} {l : List α} {i : Nat} (h : i < l.length) : l.take (i + 1) = l.take i ++ [l[i]] := by
  rw [List.take_add_one, List.getElem?_eq_getElem h]; rfl
theorem dot3_drop' {f v w : List Int} {i : Nat} (hf : i < f.length) (hv : i < v.length) (hw : i < w.length) :
    dot3 (f.drop i) (v.drop i) (w.drop i) = rd f (i : Int) * rd v (i : Int) * rd w (i : Int) + dot3 (f.drop (i + 1)) (v.drop (i + 1)) (w.drop (i + 1)) := by
  rw [drop_rd hf, drop_rd hv, drop_rd hw]; rfl
theorem dot3_nil' {f v w : List Int} {i : Nat} (hf : f.length ≤ i) : dot3 (f.drop i) (v.drop i) (w.drop i) = 0 := by
  rw [List.drop_of_length_le hf]; rfl
theorem colL_len (rows : List (List Int)) (j : Nat) : (colL rows j).length = rows.length := by unfold colL; simp
theorem gcdL_app (a b : List Int) : ∀ g, gcdL g (a ++ b) = gcdL (gcdL g a) b := by
  intro g; unfold gcdL; rw [List.foldl_append]
theorem gcdL_cons (x : Int) (a : List Int) (g : Nat) : gcdL g (x :: a) = gcdL (Nat.gcd g x.natAbs) a := rfl
theorem gcdL_gcd : ∀ (a : List Int) (g : Nat), gcdL g a = Nat.gcd g (gcdL 0 a)
  | [], g => by simp [gcdL]
  | x :: a, g => by
    rw [gcdL_cons, gcdL_gcd a (Nat.gcd g _), gcdL_cons, gcdL_gcd a (Nat.gcd 0 _), Nat.gcd_zero_left, Nat.gcd_assoc]
/-- The sum of the products of the integers of two lists. -/
def dot2 : List Int → List Int → Int
  | v :: vs, w :: ws => v * w + dot2 vs ws
  | _, _ => 0
/-- The product of a form's terms. -/
def prodL : List Int → Int
  | [] => 1
  | x :: xs => x * prodL xs
/-- The integers of a mirror, over the vector's value. -/
def mirF (form w : List Int) (i k : Nat) : Int := -2 * rd w (i : Int) * rd form (k : Int) * rd w (k : Int) + if i = k then dot3 form w w else 0
/-- The rows of a mirror, over the vector's value. -/
def mirR (form w : List Int) : List (List Int) := mat form.length (mirF form w)
/-- The mirror along a vector. -/
def mirB (form w : List Int) : List (List Int) × Int × Bool :=
  if fOk form = true ∧ form.length ≤ 3 ∧ vOk form.length 1000 w = true ∧ dot3 form w w ≠ 0 then lowB form (mirR form w) (dot3 form w w) else ([], 0, false)
/-- The integers of a product. -/
def mulF (A B : List (List Int)) (i k : Nat) : Int := dot2 (A.getD i []) (colL B k)
/-- The rows of a product. -/
def mulR (n : Nat) (A B : List (List Int)) : List (List Int) := mat n (mulF A B)
/-- The product of two moves. -/
def mulB (form : List Int) (A : List (List Int)) (da : Int) (B : List (List Int)) (db : Int) : List (List Int) × Int × Bool :=
  if mvB form A da = true ∧ mvB form B db = true then lowB form (mulR form.length A B) (da * db) else ([], 0, false)
/-- The integers of what leads back. -/
def backF (form : List Int) (A : List (List Int)) (i k : Nat) : Int := rd form (k : Int) * rd (colL A i) (k : Int) * Int.tdiv ((prodL form).natAbs : Int) (rd form (i : Int))
/-- The rows of what leads back, over the denominator times the product's size. -/
def backR (form : List Int) (A : List (List Int)) : List (List Int) :=
  mat form.length (backF form A)
/-- What leads back. -/
def backB (form : List Int) (A : List (List Int)) (da : Int) : List (List Int) × Int × Bool :=
  if mvB form A da = true then lowB form (backR form A) (da * ((prodL form).natAbs : Int)) else ([], 0, false)
/-- The rows of what stays. -/
def stayR (n : Nat) : List (List Int) := mat n fun i k => if i = k then 1 else 0
/-- What stays. -/
def stayB (form : List Int) : List (List Int) × Int × Bool := if fOk form = true ∧ form.length ≤ 3 then (stayR form.length, 1, true) else ([], 0, false)
/-- The determinant of rows of one, two or three. -/
def detL : List (List Int) → Int
  | [[a]] => a
  | [[a, b], [c, d]] => a * d - b * c
  | [[a, b, c], [d, e, f], [g, h, i]] => a * (e * i - f * h) + b * (f * g - d * i) + c * (d * h - e * g)
  | _ => 0
/-- The sign of a move's determinant. -/
def signB (form : List Int) (A : List (List Int)) (da : Int) : Int := if mvB form A da = true then (if detL A > 0 then 1 else -1) else 0
theorem list1 {α : Type} {l : List α} (h : l.length = 1) : ∃ a, l = [a] := by
  match l, h with | [a], _ => exact ⟨a, rfl⟩
theorem list2 {α : Type} {l : List α} (h : l.length = 2) : ∃ a b, l = [a, b] := by
  match l, h with | [a, b], _ => exact ⟨a, b, rfl⟩
theorem list3 {α : Type} {l : List α} (h : l.length = 3) : ∃ a b c, l = [a, b, c] := by
  match l, h with | [a, b, c], _ => exact ⟨a, b, c, rfl⟩
theorem rows1 {M : Int} {rows : List (List Int)} (hl : rows.length = 1) (hr : ∀ r ∈ rows, vOk 1 M r = true) : ∃ a, rows = [[a]] ∧ ∀ x ∈ [a], -M ≤ x ∧ x ≤ M := by
  obtain ⟨r, rfl⟩ := list1 hl
  obtain ⟨a, rfl⟩ := list1 (vOk_len (hr r (by simp)))
  exact ⟨a, rfl, vOk_mem (hr _ (by simp))⟩
theorem rows2 {M : Int} {rows : List (List Int)} (hl : rows.length = 2) (hr : ∀ r ∈ rows, vOk 2 M r = true) : ∃ a b c d, rows = [[a, b], [c, d]] ∧ ∀ x ∈ [a, b, c, d], -M ≤ x ∧ x ≤ M := by
  obtain ⟨r, s, rfl⟩ := list2 hl
  obtain ⟨a, b, rfl⟩ := list2 (vOk_len (hr r (by simp)))
  obtain ⟨c, d, rfl⟩ := list2 (vOk_len (hr s (by simp)))
  have h1 := vOk_mem (hr [a, b] (by simp))
  have h2 := vOk_mem (hr [c, d] (by simp))
  refine ⟨a, b, c, d, rfl, fun x hx => ?_⟩
  rcases List.mem_append.1 (show x ∈ [a, b] ++ [c, d] from hx) with h | h
  · exact h1 x h
  · exact h2 x h
theorem rows3 {M : Int} {rows : List (List Int)} (hl : rows.length = 3) (hr : ∀ r ∈ rows, vOk 3 M r = true) : ∃ a b c d e f g h i, rows = [[a, b, c], [d, e, f], [g, h, i]] ∧ ∀ x ∈ [a, b, c, d, e, f, g, h, i], -M ≤ x ∧ x ≤ M := by
  obtain ⟨r, s, t, rfl⟩ := list3 hl
  obtain ⟨a, b, c, rfl⟩ := list3 (vOk_len (hr r (by simp)))
  obtain ⟨d, e, f, rfl⟩ := list3 (vOk_len (hr s (by simp)))
  obtain ⟨g, h, i, rfl⟩ := list3 (vOk_len (hr t (by simp)))
  have h1 := vOk_mem (hr [a, b, c] (by simp))
  have h2 := vOk_mem (hr [d, e, f] (by simp))
  have h3 := vOk_mem (hr [g, h, i] (by simp))
  refine ⟨a, b, c, d, e, f, g, h, i, rfl, fun x hx => ?_⟩
  rcases List.mem_append.1 (show x ∈ [a, b, c] ++ ([d, e, f] ++ [g, h, i]) from hx) with k | k
  · exact h1 x k
  · rcases List.mem_append.1 k with k | k
    · exact h2 x k
    · exact h3 x k
/-- Every integer of a row times a number. -/
def scale (g : Int) (rows : List (List Int)) : List (List Int) := rows.map fun r => r.map (g * ·)
theorem gcdL_scale (g : Int) : ∀ (l : List Int) (a : Nat), gcdL (g.natAbs * a) (l.map (g * ·)) = g.natAbs * gcdL a l
  | [], a => rfl
  | x :: l, a => by
    simp only [List.map_cons, gcdL_cons, Int.natAbs_mul]
    rw [Nat.gcd_mul_left]
    exact gcdL_scale g l _
/-- Rows over a denominator, both times a number: in lowest terms they are the rows. -/
theorem lowD_scale {g den : Int} {rows : List (List Int)} (hg : g ≠ 0) (hd : 0 < den) (h1 : gcdL 0 (den :: rows.flatten) = 1) : lowD (scale g rows) (g * den) = g := by
  have e : (scale g rows).flatten = rows.flatten.map (g * ·) := by unfold scale; rw [List.map_flatten]
  have h : gcdL 0 ((g * den) :: (scale g rows).flatten) = g.natAbs := by
    have := gcdL_scale g (den :: rows.flatten) 0
    rw [h1] at this
    rw [e]; simpa using this
  unfold lowD
  rw [h]
  by_cases k : g < 0
  · rw [if_pos (Int.mul_neg_of_neg_of_pos k hd)]; omega
  · have : 0 < g * den := Int.mul_pos (by omega) hd
    rw [if_neg (by omega)]; omega
theorem lowB_scale {form : List Int} {g den : Int} {rows : List (List Int)} (hg : g ≠ 0) (hd : 0 < den) (h1 : gcdL 0 (den :: rows.flatten) = 1) :
    lowB form (scale g rows) (g * den) = if mvB form rows den = true then (rows, den, true) else ([], 0, false) := by
  have e := lowD_scale hg hd h1
  have e1 : Int.tdiv (g * den) g = den := Int.mul_tdiv_cancel_left _ hg
  have e2 : lowR (scale g rows) (g * den) = rows := by
    unfold lowR scale at *
    rw [List.map_map, e]
    conv => rhs; rw [← List.map_id rows]
    refine List.map_congr_left (fun r _ => ?_)
    simp only [Function.comp, List.map_map]
    conv => rhs; rw [id, ← List.map_id r]
    refine List.map_congr_left (fun x _ => ?_)
    exact Int.mul_tdiv_cancel_left _ hg
  unfold lowB
  rw [e2, e, e1]
theorem range_s (n : Nat) {β : Type} (f : Nat → β) : (List.range (n + 1)).map f = (List.range n).map f ++ [f n] := by
  rw [List.range_succ, List.map_append]; rfl
theorem mat_len (n : Nat) (f : Nat → Nat → Int) : (mat n f).length = n := by unfold mat; simp
theorem mvB_of {form : List Int} {rows : List (List Int)} {den : Int} (h : mvB form rows den = true) :
    fOk form = true ∧ form.length ≤ 3 ∧ rows.length = form.length ∧ (1 ≤ den ∧ den ≤ 10000) ∧ (∀ r ∈ rows, vOk form.length 1000000 r = true) ∧ gcdL 0 (den :: rows.flatten) = 1 ∧ mvP form rows den := of_decide_eq_true h
theorem dot2_drop {v w : List Int} {i : Nat} (hv : i < v.length) (hw : i < w.length) : dot2 (v.drop i) (w.drop i) = rd v (i : Int) * rd w (i : Int) + dot2 (v.drop (i + 1)) (w.drop (i + 1)) := by
  rw [drop_rd hv, drop_rd hw]; rfl
theorem dot2_nil {v w : List Int} {i : Nat} (hw : w.length ≤ i) : dot2 (v.drop i) (w.drop i) = 0 := by
  rw [List.drop_of_length_le hw]
  cases v.drop i <;> rfl
theorem mul2_bd {a b A B : Int} (ha : -A ≤ a ∧ a ≤ A) (hb : -B ≤ b ∧ b ≤ B) : -(A * B) ≤ a * b ∧ a * b ≤ A * B := by
  have h2 : a.natAbs ≤ A.toNat := by omega
  have h3 : b.natAbs ≤ B.toNat := by omega
  have h4 : (a * b).natAbs ≤ A.toNat * B.toNat := by rw [Int.natAbs_mul]; exact Nat.mul_le_mul h2 h3
  have e : ((A.toNat * B.toNat : Nat) : Int) = A * B := by rw [Int.natCast_mul, Int.toNat_of_nonneg (by omega), Int.toNat_of_nonneg (by omega)]
  omega
theorem stay_gcd (rows : List (List Int)) : gcdL 0 (1 :: rows.flatten) = 1 := by
  rw [gcdL_cons, gcdL_gcd]; simp
theorem vOk_of {n : Nat} {M : Int} {v : List Int} (hl : v.length = n) (h : ∀ x ∈ v, -M ≤ x ∧ x ≤ M) : vOk n M v = true := by
  unfold vOk; exact decide_eq_true ⟨hl, h⟩
theorem mat_at {n : Nat} {f : Nat → Nat → Int} {i : Nat} (h : i < n) : (mat n f).getD i [] = (List.range n).map (f i) := by
  unfold mat; simp [h]
theorem rd_range {n : Nat} {f : Nat → Int} {k : Nat} (h : k < n) : rd ((List.range n).map f) (k : Int) = f k := by
  rw [rd_at]; simp [h]
theorem mat_col {n : Nat} {f : Nat → Nat → Int} {k : Nat} (h : k < n) : colL (mat n f) k = (List.range n).map (fun i => f i k) := by
  unfold colL mat
  rw [List.map_map]
  exact List.map_congr_left (fun i _ => rd_range h)
theorem mat_congr {n : Nat} {f g : Nat → Nat → Int} (h : ∀ i k, i < n → k < n → f i k = g i k) : mat n f = mat n g := by
  unfold mat
  refine List.map_congr_left (fun i hi => List.map_congr_left (fun k hk => h i k (List.mem_range.1 hi) (List.mem_range.1 hk)))
theorem scale_mat (g : Int) (n : Nat) (f : Nat → Nat → Int) : scale g (mat n f) = mat n (fun i k => g * f i k) := by
  unfold scale mat
  rw [List.map_map]
  refine List.map_congr_left (fun i _ => ?_)
  simp only [Function.comp, List.map_map]
  exact List.map_congr_left (fun k _ => rfl)
/-- A sum over places. -/
def sumN : Nat → (Nat → Int) → Int
  | 0, _ => 0
  | n + 1, f => sumN n f + f n
theorem dot3_sum : ∀ (n : Nat) (f v w : List Int), f.length = n → v.length = n → w.length = n → dot3 f v w = sumN n (fun k => rd f (k : Int) * rd v (k : Int) * rd w (k : Int)) := by
  intro n f v w hf hv hw
  have : ∀ (m i : Nat), i + m = n → sumN i (fun k => rd f (k : Int) * rd v (k : Int) * rd w (k : Int)) + dot3 (f.drop i) (v.drop i) (w.drop i) = sumN n (fun k => rd f (k : Int) * rd v (k : Int) * rd w (k : Int)) := by
    intro m
    induction m with
    | zero => intro i h; obtain rfl : i = n := by omega
              rw [dot3_nil' (by omega)]; omega
    | succ m ih =>
      intro i h
      rw [← ih (i + 1) (by omega), dot3_drop' (by omega) (by omega) (by omega)]
      simp only [sumN]; omega
  have h := this n 0 (by omega)
  simpa [sumN] using h
theorem dot2_sum : ∀ (n : Nat) (v w : List Int), v.length = n → w.length = n → dot2 v w = sumN n (fun k => rd v (k : Int) * rd w (k : Int)) := by
  intro n v w hv hw
  have : ∀ (m i : Nat), i + m = n → sumN i (fun k => rd v (k : Int) * rd w (k : Int)) + dot2 (v.drop i) (w.drop i) = sumN n (fun k => rd v (k : Int) * rd w (k : Int)) := by
    intro m
    induction m with
    | zero => intro i h; obtain rfl : i = n := by omega
              rw [dot2_nil (by omega)]; omega
    | succ m ih =>
      intro i h
      rw [← ih (i + 1) (by omega), dot2_drop (by omega) (by omega)]
      simp only [sumN]; omega
  have h := this n 0 (by omega)
  simpa [sumN] using h
theorem sumN_congr : ∀ (n : Nat) (f g : Nat → Int), (∀ k, k < n → f k = g k) → sumN n f = sumN n g
  | 0, _, _, _ => rfl
  | n + 1, f, g, h => by
    simp only [sumN]
    rw [sumN_congr n f g (fun k hk => h k (by omega)), h n (by omega)]
/-- The columns of a matrix have the pairs of the form's terms. -/
theorem mvP_mat {form : List Int} {f : Nat → Nat → Int} {den : Int} :
    mvP form (mat form.length f) den ↔ ∀ a, a < form.length → ∀ b, b < form.length → sumN form.length (fun k => rd form (k : Int) * f k a * f k b) = if a = b then rd form (a : Int) * den * den else 0 := by
  have e : ∀ a, a < form.length → ∀ b, b < form.length → dot3 form (colL (mat form.length f) a) (colL (mat form.length f) b) = sumN form.length (fun k => rd form (k : Int) * f k a * f k b) := by
    intro a ha b hb
    rw [dot3_sum form.length _ _ _ rfl (by rw [colL_len, mat_len]) (by rw [colL_len, mat_len]), mat_col ha, mat_col hb]
    refine sumN_congr _ _ _ (fun k hk => ?_)
    rw [rd_range hk, rd_range hk]
  constructor
  · intro h a ha b hb; rw [← e a ha b hb]; exact h a ha b hb
  · intro h a ha b hb; rw [e a ha b hb]; exact h a ha b hb
/-- Rows by a function over a denominator are a move. -/
theorem mvB_mat {form : List Int} {f : Nat → Nat → Int} {den : Int} (hf : fOk form = true) (h3 : form.length ≤ 3) (hd : 1 ≤ den ∧ den ≤ 10000) (hb : ∀ i k, i < form.length → k < form.length → -1000000 ≤ f i k ∧ f i k ≤ 1000000)
    (hg : gcdL 0 (den :: (mat form.length f).flatten) = 1) (hp : ∀ a, a < form.length → ∀ b, b < form.length → sumN form.length (fun k => rd form (k : Int) * f k a * f k b) = if a = b then rd form (a : Int) * den * den else 0) : mvB form (mat form.length f) den = true := by
  unfold mvB
  refine decide_eq_true ⟨hf, h3, mat_len _ _, hd, fun r hr => ?_, hg, mvP_mat.2 hp⟩
  unfold mat at hr
  obtain ⟨i, h1, rfl⟩ := List.mem_map.1 hr
  refine vOk_of (by simp) (fun x hx => ?_)
  obtain ⟨k, h2, rfl⟩ := List.mem_map.1 hx
  exact hb i k (List.mem_range.1 h1) (List.mem_range.1 h2)
end Go.Proofs.Ytnbeeogmaamgdaa.Aid
