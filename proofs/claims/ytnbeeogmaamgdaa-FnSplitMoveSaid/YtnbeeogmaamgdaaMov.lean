/- Plain words on moves: rows of integers over one denominator. No program in sight. -/
import Derived.Test.YtnbeeogmaamgdaaVec
namespace Go.Proofs.Ytnbeeogmaamgdaa.Aid
open Go.RowKit Go.Proofs.YtnbeeogmaamgdaaW.PrintWords Go.Proofs.YtnbeeogmaamgdaaW.PrintLast Go.Proofs.YtnbeeogmaamgdaaW.PrintMore
def colL (rows : List (List Int)) (j : Nat) : List Int := rows.map fun r => rd r (j : Int)
def mvP (form : List Int) (rows : List (List Int)) (den : Int) : Prop :=
  ∀ a, a < form.length → ∀ b, b < form.length → dot3 form (colL rows a) (colL rows b) = if a = b then rd form (a : Int) * den * den else 0
instance (form : List Int) (rows : List (List Int)) (den : Int) : Decidable (mvP form rows den) := by unfold mvP; exact inferInstance
def mvB (form : List Int) (rows : List (List Int)) (den : Int) : Bool :=
  decide (fOk form = true ∧ form.length ≤ 3 ∧ rows.length = form.length ∧ (1 ≤ den ∧ den ≤ 10000) ∧ (∀ r ∈ rows, vOk form.length 1000000 r = true) ∧ gcdL 0 (den :: rows.flatten) = 1 ∧ mvP form rows den)
def lowD (rows : List (List Int)) (den : Int) : Int := if den < 0 then -(gcdL 0 (den :: rows.flatten) : Int) else (gcdL 0 (den :: rows.flatten) : Int)
def lowR (rows : List (List Int)) (den : Int) : List (List Int) := rows.map fun r => r.map fun x => Int.tdiv x (lowD rows den)
def lowB (form : List Int) (rows : List (List Int)) (den : Int) : List (List Int) × Int × Bool :=
  if mvB form (lowR rows den) (Int.tdiv den (lowD rows den)) then (lowR rows den, Int.tdiv den (lowD rows den), true) else ([], 0, false)
def mat (n : Nat) (f : Nat → Nat → Int) : List (List Int) := (List.range n).map fun i => (List.range n).map (f i)
theorem take_s {α : Type} {l : List α} {i : Nat} (h : i < l.length) : l.take (i + 1) = l.take i ++ [l[i]] := by
  rw [List.take_add_one, List.getElem?_eq_getElem h]; rfl
theorem dot3_drop' {f v w : List Int} {i : Nat} (hf : i < f.length) (hv : i < v.length) (hw : i < w.length) :
    dot3 (f.drop i) (v.drop i) (w.drop i) = rd f (i : Int) * rd v (i : Int) * rd w (i : Int) + dot3 (f.drop (i + 1)) (v.drop (i + 1)) (w.drop (i + 1)) := by
  rw [drop_rd hf, drop_rd hv, drop_rd hw]; rfl
theorem dot3_nil' {f v w : List Int} {i : Nat} (hf : f.length ≤ i) : dot3 (f.drop i) (v.drop i) (w.drop i) = 0 := by
  rw [List.drop_of_length_le hf]; rfl
theorem colL_len (rows : List (List Int)) (j : Nat) : (colL rows j).length = rows.length := by unfold colL; simp
theorem gcdL_app (a b : List Int) : ∀ g, gcdL g (a ++ b) = gcdL (gcdL g a) b := by
  intro g; unfold gcdL; rw [List.foldl_append]
theorem gcdL_cons (x : Int) (a : List Int) (g : Nat) : gcdL g (x :: a) = gcdL (Nat.gcd g x.natAbs) a := rfl
theorem gcdL_gcd : ∀ (a : List Int) (g : Nat), gcdL g a = Nat.gcd g (gcdL 0 a)
  | [], g => by simp [gcdL]
  | x :: a, g => by
    rw [gcdL_cons, gcdL_gcd a (Nat.gcd g _), gcdL_cons, gcdL_gcd a (Nat.gcd 0 _), Nat.gcd_zero_left, Nat.gcd_assoc]
def dot2 : List Int → List Int → Int
  | v :: vs, w :: ws => v * w + dot2 vs ws
  | _, _ => 0
def mirF (form w : List Int) (i k : Nat) : Int := -2 * rd w (i : Int) * rd form (k : Int) * rd w (k : Int) + if i = k then dot3 form w w else 0
def mirR (form w : List Int) : List (List Int) := mat form.length (mirF form w)
def mirB (form w : List Int) : List (List Int) × Int × Bool :=
  if fOk form = true ∧ form.length ≤ 3 ∧ vOk form.length 1000 w = true ∧ dot3 form w w ≠ 0 then lowB form (mirR form w) (dot3 form w w) else ([], 0, false)
def mulF (A B : List (List Int)) (i k : Nat) : Int := dot2 (A.getD i []) (colL B k)
def mulR (n : Nat) (A B : List (List Int)) : List (List Int) := mat n (mulF A B)
def mulB (form : List Int) (A : List (List Int)) (da : Int) (B : List (List Int)) (db : Int) : List (List Int) × Int × Bool :=
  if mvB form A da = true ∧ mvB form B db = true then lowB form (mulR form.length A B) (da * db) else ([], 0, false)
def stayR (n : Nat) : List (List Int) := mat n fun i k => if i = k then 1 else 0
def stayB (form : List Int) : List (List Int) × Int × Bool := if fOk form = true ∧ form.length ≤ 3 then (stayR form.length, 1, true) else ([], 0, false)
theorem list1 {α : Type} {l : List α} (h : l.length = 1) : ∃ a, l = [a] := by
  match l, h with | [a], _ => exact ⟨a, rfl⟩
theorem list2 {α : Type} {l : List α} (h : l.length = 2) : ∃ a b, l = [a, b] := by
  match l, h with | [a, b], _ => exact ⟨a, b, rfl⟩
theorem rows1 {M : Int} {rows : List (List Int)} (hl : rows.length = 1) (hr : ∀ r ∈ rows, vOk 1 M r = true) : ∃ a, rows = [[a]] ∧ ∀ x ∈ [a], -M ≤ x ∧ x ≤ M := by
  obtain ⟨r, rfl⟩ := list1 hl
  obtain ⟨a, rfl⟩ := list1 (vOk_len (hr r (by simp)))
  exact ⟨a, rfl, vOk_mem (hr _ (by simp))⟩
theorem rows2 {M : Int} {rows : List (List Int)} (hl : rows.length = 2) (hr : ∀ r ∈ rows, vOk 2 M r = true) : ∃ a b c d, rows = [[a, b], [c, d]] ∧ ∀ x ∈ [a, b, c, d], -M ≤ x ∧ x ≤ M := by
  obtain ⟨r, s, rfl⟩ := list2 hl
  obtain ⟨a, b, rfl⟩ := list2 (vOk_len (hr r (by simp)))
  obtain ⟨c, d, rfl⟩ := list2 (vOk_len (hr s (by simp)))
  have h1 := vOk_mem (hr [a, b] (by simp))
  have h2 := vOk_mem (hr [c, d] (by simp))
  refine ⟨a, b, c, d, rfl, fun x hx => ?_⟩
  rcases List.mem_append.1 (show x ∈ [a, b] ++ [c, d] from hx) with h | h
  · exact h1 x h
  · exact h2 x h
def scale (g : Int) (rows : List (List Int)) : List (List Int) := rows.map fun r => r.map (g * ·)
theorem gcdL_scale (g : Int) : ∀ (l : List Int) (a : Nat), gcdL (g.natAbs * a) (l.map (g * ·)) = g.natAbs * gcdL a l
  | [], a => rfl
  | x :: l, a => by
    simp only [List.map_cons, gcdL_cons, Int.natAbs_mul]
    rw [Nat.gcd_mul_left]
    exact gcdL_scale g l _
theorem range_s (n : Nat) {β : Type} (f : Nat → β) : (List.range (n + 1)).map f = (List.range n).map f ++ [f n] := by
  rw [List.range_succ, List.map_append]; rfl
theorem mat_len (n : Nat) (f : Nat → Nat → Int) : (mat n f).length = n := by unfold mat; simp
theorem mvB_of {form : List Int} {rows : List (List Int)} {den : Int} (h : mvB form rows den = true) :
    fOk form = true ∧ form.length ≤ 3 ∧ rows.length = form.length ∧ (1 ≤ den ∧ den ≤ 10000) ∧ (∀ r ∈ rows, vOk form.length 1000000 r = true) ∧ gcdL 0 (den :: rows.flatten) = 1 ∧ mvP form rows den := of_decide_eq_true h
theorem dot2_drop {v w : List Int} {i : Nat} (hv : i < v.length) (hw : i < w.length) : dot2 (v.drop i) (w.drop i) = rd v (i : Int) * rd w (i : Int) + dot2 (v.drop (i + 1)) (w.drop (i + 1)) := by
  rw [drop_rd hv, drop_rd hw]; rfl
theorem dot2_nil {v w : List Int} {i : Nat} (hw : w.length ≤ i) : dot2 (v.drop i) (w.drop i) = 0 := by
  rw [List.drop_of_length_le hw]
  cases v.drop i <;> rfl
theorem mul2_bd {a b A B : Int} (ha : -A ≤ a ∧ a ≤ A) (hb : -B ≤ b ∧ b ≤ B) : -(A * B) ≤ a * b ∧ a * b ≤ A * B := by
  have h2 : a.natAbs ≤ A.toNat := by omega
  have h3 : b.natAbs ≤ B.toNat := by omega
  have h4 : (a * b).natAbs ≤ A.toNat * B.toNat := by rw [Int.natAbs_mul]; exact Nat.mul_le_mul h2 h3
  have e : ((A.toNat * B.toNat : Nat) : Int) = A * B := by rw [Int.natCast_mul, Int.toNat_of_nonneg (by omega), Int.toNat_of_nonneg (by omega)]
  omega
theorem stay_gcd (rows : List (List Int)) : gcdL 0 (1 :: rows.flatten) = 1 := by
  rw [gcdL_cons, gcdL_gcd]; simp
theorem vOk_of {n : Nat} {M : Int} {v : List Int} (hl : v.length = n) (h : ∀ x ∈ v, -M ≤ x ∧ x ≤ M) : vOk n M v = true := by
  unfold vOk; exact decide_eq_true ⟨hl, h⟩
theorem mat_at {n : Nat} {f : Nat → Nat → Int} {i : Nat} (h : i < n) : (mat n f).getD i [] = (List.range n).map (f i) := by
  unfold mat; simp [h]
theorem rd_range {n : Nat} {f : Nat → Int} {k : Nat} (h : k < n) : rd ((List.range n).map f) (k : Int) = f k := by
  rw [rd_at]; simp [h]
theorem mat_col {n : Nat} {f : Nat → Nat → Int} {k : Nat} (h : k < n) : colL (mat n f) k = (List.range n).map (fun i => f i k) := by
  unfold colL mat
  rw [List.map_map]
  exact List.map_congr_left (fun i _ => rd_range h)
theorem mat_congr {n : Nat} {f g : Nat → Nat → Int} (h : ∀ i k, i < n → k < n → f i k = g i k) : mat n f = mat n g := by
  unfold mat
  refine List.map_congr_left (fun i hi => List.map_congr_left (fun k hk => h i k (List.mem_range.1 hi) (List.mem_range.1 hk)))
def sumN : Nat → (Nat → Int) → Int
  | 0, _ => 0
  | n + 1, f => sumN n f + f n
theorem dot3_sum : ∀ (n : Nat) (f v w : List Int), f.length = n → v.length = n → w.length = n → dot3 f v w = sumN n (fun k => rd f (k : Int) * rd v (k : Int) * rd w (k : Int)) := by
  intro n f v w hf hv hw
  have : ∀ (m i : Nat), i + m = n → sumN i (fun k => rd f (k : Int) * rd v (k : Int) * rd w (k : Int)) + dot3 (f.drop i) (v.drop i) (w.drop i) = sumN n (fun k => rd f (k : Int) * rd v (k : Int) * rd w (k : Int)) := by
    intro m
    induction m with
    | zero => intro i h; obtain rfl : i = n := by omega
              rw [dot3_nil' (by omega)]; omega
    | succ m ih =>
      intro i h
      rw [← ih (i + 1) (by omega), dot3_drop' (by omega) (by omega) (by omega)]
      simp only [sumN]; omega
  have h := this n 0 (by omega)
  simpa [sumN] using h
theorem dot2_sum : ∀ (n : Nat) (v w : List Int), v.length = n → w.length = n → dot2 v w = sumN n (fun k => rd v (k : Int) * rd w (k : Int)) := by
  intro n v w hv hw
  have : ∀ (m i : Nat), i + m = n → sumN i (fun k => rd v (k : Int) * rd w (k : Int)) + dot2 (v.drop i) (w.drop i) = sumN n (fun k => rd v (k : Int) * rd w (k : Int)) := by
    intro m
    induction m with
    | zero => intro i h; obtain rfl : i = n := by omega
              rw [dot2_nil (by omega)]; omega
    | succ m ih =>
      intro i h
      rw [← ih (i + 1) (by omega), dot2_drop (by omega) (by omega)]
      simp only [sumN]; omega
  have h := this n 0 (by omega)
  simpa [sumN] using h
theorem sumN_congr : ∀ (n : Nat) (f g : Nat → Int), (∀ k, k < n → f k = g k) → sumN n f = sumN n g
  | 0, _, _, _ => rfl
  | n + 1, f, g, h => by
    simp only [sumN]
    rw [sumN_congr n f g (fun k hk => h k (by omega)), h n (by omega)]
theorem mvP_mat {form : List Int} {f : Nat → Nat → Int} {den : Int} :
    mvP form (mat form.length f) den ↔ ∀ a, a < form.length → ∀ b, b < form.length → sumN form.length (fun k => rd form (k : Int) * f k a * f k b) = if a = b then rd form (a : Int) * den * den else 0 := by
  have e : ∀ a, a < form.length → ∀ b, b < form.length → dot3 form (colL (mat form.length f) a) (colL (mat form.length f) b) = sumN form.length (fun k => rd form (k : Int) * f k a * f k b) := by
    intro a ha b hb
    rw [dot3_sum form.length _ _ _ rfl (by rw [colL_len, mat_len]) (by rw [colL_len, mat_len]), mat_col ha, mat_col hb]
    refine sumN_congr _ _ _ (fun k hk => ?_)
    rw [rd_range hk, rd_range hk]
  constructor
  · intro h a ha b hb; rw [← e a ha b hb]; exact h a ha b hb
  · intro h a ha b hb; rw [e a ha b hb]; exact h a ha b hb
theorem mvB_mat {form : List Int} {f : Nat → Nat → Int} {den : Int} (hf : fOk form = true) (h3 : form.length ≤ 3) (hd : 1 ≤ den ∧ den ≤ 10000) (hb : ∀ i k, i < form.length → k < form.length → -1000000 ≤ f i k ∧ f i k ≤ 1000000)
    (hg : gcdL 0 (den :: (mat form.length f).flatten) = 1) (hp : ∀ a, a < form.length → ∀ b, b < form.length → sumN form.length (fun k => rd form (k : Int) * f k a * f k b) = if a = b then rd form (a : Int) * den * den else 0) : mvB form (mat form.length f) den = true := by
  unfold mvB
  refine decide_eq_true ⟨hf, h3, mat_len _ _, hd, fun r hr => ?_, hg, mvP_mat.2 hp⟩
  unfold mat at hr
  obtain ⟨i, h1, rfl⟩ := List.mem_map.1 hr
  refine vOk_of (by simp) (fun x hx => ?_)
  obtain ⟨k, h2, rfl⟩ := List.mem_map.1 hx
  exact hb i k (List.mem_range.1 h1) (List.mem_range.1 h2)
def ofGo (form : List Int) : List (List Int) → List (List Int) → Int → List (List Int) × Int × Bool
  | [], A, d => (A, d, true)
  | w :: ws, A, d => if (mirB form w).2.2 = true then (if (mulB form A d (mirB form w).1 (mirB form w).2.1).2.2 = true then ofGo form ws (mulB form A d (mirB form w).1 (mirB form w).2.1).1 (mulB form A d (mirB form w).1 (mirB form w).2.1).2.1 else ([], 0, false)) else ([], 0, false)
def ofB (form : List Int) (list : List (List Int)) : List (List Int) × Int × Bool := if fOk form = true ∧ form.length ≤ 3 ∧ list.length ≤ 6 then ofGo form list (stayR form.length) 1 else ([], 0, false)
def onR (A : List (List Int)) (v : List Int) : List Int := A.map fun r => dot2 r v
theorem dot3_comm : ∀ (f v w : List Int), dot3 f v w = dot3 f w v
  | [], _, _ => rfl
  | _ :: _, [], [] => rfl
  | _ :: _, [], _ :: _ => rfl
  | _ :: _, _ :: _, [] => rfl
  | f :: fs, v :: vs, w :: ws => by simp only [dot3]; rw [dot3_comm fs vs ws, Int.mul_assoc, Int.mul_comm v w, ← Int.mul_assoc]
theorem lowB_cases (form : List Int) (rows : List (List Int)) (den : Int) : (lowB form rows den = ([], 0, false)) ∨ ((lowB form rows den).2.2 = true ∧ mvB form (lowB form rows den).1 (lowB form rows den).2.1 = true) := by
  unfold lowB
  split
  · next h => exact .inr ⟨rfl, h⟩
  · exact .inl rfl
theorem mirB_cases (form w : List Int) : (mirB form w = ([], 0, false)) ∨ ((mirB form w).2.2 = true ∧ mvB form (mirB form w).1 (mirB form w).2.1 = true) := by
  unfold mirB
  split
  · exact lowB_cases _ _ _
  · exact .inl rfl
theorem mulB_cases (form : List Int) (A : List (List Int)) (da : Int) (B : List (List Int)) (db : Int) : (mulB form A da B db = ([], 0, false)) ∨ ((mulB form A da B db).2.2 = true ∧ mvB form (mulB form A da B db).1 (mulB form A da B db).2.1 = true) := by
  unfold mulB
  split
  · exact lowB_cases _ _ _
  · exact .inl rfl
def RowsOk (rows : List (List Int)) : Prop := rows.length ≤ 1000 ∧ ∀ r ∈ rows, r.length ≤ 1000
theorem mvB_rows {form : List Int} {A : List (List Int)} {d : Int} (h : mvB form A d = true) : RowsOk A := by
  obtain ⟨_, h3, hl, _, hr, _⟩ := mvB_of h
  exact ⟨by omega, fun r h => by rw [vOk_len (hr r h)]; omega⟩
theorem rows_nil : RowsOk [] := ⟨by simp, by simp⟩
theorem mirB_rows (form w : List Int) : RowsOk (mirB form w).1 := by
  rcases mirB_cases form w with h | h
  · rw [h]; exact rows_nil
  · exact mvB_rows h.2
theorem mulB_rows (form : List Int) (A : List (List Int)) (da : Int) (B : List (List Int)) (db : Int) : RowsOk (mulB form A da B db).1 := by
  rcases mulB_cases form A da B db with h | h
  · rw [h]; exact rows_nil
  · exact mvB_rows h.2
def RowsB (rows : List (List Int)) : Prop := rows.length ≤ 1000 ∧ ∀ r ∈ rows, r.length ≤ 1000 ∧ ∀ x ∈ r, -9000000000000000000 ≤ x ∧ x ≤ 9000000000000000000
theorem gcd_le_left' {g h : Nat} (hg : 0 < g) : Nat.gcd g h ≤ g := Nat.le_of_dvd hg (Nat.gcd_dvd_left g h)
theorem tdiv_mag (x d : Int) : (Int.tdiv x d).natAbs ≤ x.natAbs := by
  rw [Int.natAbs_tdiv]; exact Nat.div_le_self _ _
theorem gcdL_flat (rows : List (List Int)) (den : Int) (i : Nat) (h : i < rows.length) :
    gcdL 0 (rows[i] ++ [(gcdL 0 (den :: (rows.take i).flatten) : Int)]) = gcdL 0 (den :: (rows.take (i + 1)).flatten) := by
  have e : [rows[i]].flatten = rows[i] := by simp
  have h1 : gcdL 0 (rows[i] ++ [(gcdL 0 (den :: (rows.take i).flatten) : Int)]) = Nat.gcd (gcdL 0 rows[i]) (gcdL 0 (den :: (rows.take i).flatten)) := by rw [gcdL_app]; rfl
  rw [h1, take_s h, List.flatten_append, e, gcdL_cons, gcdL_cons, gcdL_app, gcdL_gcd rows[i] (gcdL _ _), Nat.gcd_comm]
theorem dot3_bd : ∀ (f v w : List Int) (B C : Int), 0 ≤ B → 0 ≤ C → (∀ x ∈ f, -31 ≤ x ∧ x ≤ 31) → (∀ x ∈ v, -B ≤ x ∧ x ≤ B) → (∀ x ∈ w, -C ≤ x ∧ x ≤ C) → -(31 * (B * C) * f.length) ≤ dot3 f v w ∧ dot3 f v w ≤ 31 * (B * C) * f.length
  | [], v, w, B, C, _, _, _, _, _ => by simp [dot3]
  | f :: fs, [], w, B, C, hB, hC, _, _, _ => by
    have : 0 ≤ 31 * (B * C) * ((f :: fs).length : Int) := Int.mul_nonneg (Int.mul_nonneg (by omega) (Int.mul_nonneg hB hC)) (by omega)
    simp only [dot3]; omega
  | f :: fs, v :: vs, [], B, C, hB, hC, _, _, _ => by
    have : 0 ≤ 31 * (B * C) * ((f :: fs).length : Int) := Int.mul_nonneg (Int.mul_nonneg (by omega) (Int.mul_nonneg hB hC)) (by omega)
    simp only [dot3]; omega
  | f :: fs, v :: vs, w :: ws, B, C, hB, hC, h1, h2, h3 => by
    have ih := dot3_bd fs vs ws B C hB hC (fun x hx => h1 x (by simp [hx])) (fun x hx => h2 x (by simp [hx])) (fun x hx => h3 x (by simp [hx]))
    have := mul3_bd (h1 f (by simp)) (h2 v (by simp)) (h3 w (by simp)) hB hC
    simp only [dot3, List.length_cons]
    rw [show 31 * (B * C) * ((fs.length + 1 : Nat) : Int) = 31 * (B * C) * (fs.length : Int) + 31 * (B * C) by rw [Int.natCast_add, Int.mul_add]; simp]
    omega
theorem mat_rows (n : Nat) (f : Nat → Nat → Int) (r : List Int) (h : r ∈ mat n f) : ∃ i, i < n ∧ r = (List.range n).map (f i) := by
  unfold mat at h
  obtain ⟨i, h1, rfl⟩ := List.mem_map.1 h
  exact ⟨i, List.mem_range.1 h1, rfl⟩
theorem mat_ne (n : Nat) (f : Nat → Nat → Int) (hn : 1 ≤ n) (r : List Int) (h : r ∈ mat n f) : r ≠ [] := by
  obtain ⟨i, _, rfl⟩ := mat_rows n f r h
  intro e
  have := congrArg List.length e
  rw [List.length_map, List.length_range] at this
  change n = 0 at this
  omega
theorem mat_tame (n : Nat) (f : Nat → Nat → Int) (hn : n ≤ 3) (h : ∀ i k, i < n → k < n → -9000000000000000000 ≤ f i k ∧ f i k ≤ 9000000000000000000) : RowsB (mat n f) := by
  refine ⟨by rw [mat_len]; omega, fun r hr => ?_⟩
  obtain ⟨i, hi, rfl⟩ := mat_rows n f r hr
  refine ⟨by simp; omega, fun x hx => ?_⟩
  obtain ⟨k, h1, rfl⟩ := List.mem_map.1 hx
  exact h i k hi (List.mem_range.1 h1)
section
variable (form w : List Int) (hf : fOk form = true) (h3 : form.length ≤ 3) (hw : vOk form.length 1000 w = true)
include hf hw
include h3 in
theorem mir_q : -100000000 ≤ dot3 form w w ∧ dot3 form w w ≤ 100000000 := by
  have := dot3_bd form w w 1000 1000 (by omega) (by omega) (fun x hx => by have := fOk_mem hf x hx; omega) (vOk_mem hw) (vOk_mem hw); omega
theorem mir_b (i k : Nat) (hi : i < form.length) (hk : k < form.length) : -2000 ≤ -2 * rd w (i : Int) ∧ -2 * rd w (i : Int) ≤ 2000 ∧ -62000 ≤ -2 * rd w (i : Int) * rd form (k : Int) ∧ -2 * rd w (i : Int) * rd form (k : Int) ≤ 62000 ∧
    -62000000 ≤ -2 * rd w (i : Int) * rd form (k : Int) * rd w (k : Int) ∧ -2 * rd w (i : Int) * rd form (k : Int) * rd w (k : Int) ≤ 62000000 := by
  have hl := vOk_len hw
  have b1 := vOk_mem hw _ (rd_mem (show i < w.length by omega))
  have b2 := fOk_mem hf _ (rd_mem (show k < form.length by omega))
  have b3 := vOk_mem hw _ (rd_mem (show k < w.length by omega))
  have c1 := mul2_bd (a := -2 * rd w (i : Int)) (b := rd form (k : Int)) (A := 2000) (B := 31) (by omega) (by omega)
  have c2 := mul2_bd (a := -2 * rd w (i : Int) * rd form (k : Int)) (b := rd w (k : Int)) (A := 62000) (B := 1000) (by omega) (by omega)
  omega
end
theorem col_mem {rows : List (List Int)} {j n : Nat} {M : Int} (hr : ∀ r ∈ rows, vOk n M r = true) (hj : j < n) : ∀ x ∈ colL rows j, -M ≤ x ∧ x ≤ M := by
  intro x hx
  unfold colL at hx
  obtain ⟨r, h1, rfl⟩ := List.mem_map.1 hx
  exact vOk_mem (hr r h1) _ (rd_mem (by rw [vOk_len (hr r h1)]; exact hj))
theorem getD_at {A : List (List Int)} {i : Nat} (h : i < A.length) : A.getD i [] = A[i] := by simp [h]
section
variable (n : Nat)
theorem dot2_bd (v w : List Int) (hv : v.length = n) (hw : w.length = n) (bv : ∀ x ∈ v, -1000000 ≤ x ∧ x ≤ 1000000) (bw : ∀ x ∈ w, -1000000 ≤ x ∧ x ≤ 1000000) : ∀ (m i : Nat), i + m = n → -(1000000000000 * (m : Int)) ≤ dot2 (v.drop i) (w.drop i) ∧ dot2 (v.drop i) (w.drop i) ≤ 1000000000000 * (m : Int) := by
  intro m
  induction m with
  | zero => intro i h; rw [dot2_nil (by omega)]; omega
  | succ m ih =>
    intro i h
    have := ih (i + 1) (by omega)
    have c := mul2_bd (bv _ (rd_mem (show i < v.length by omega))) (bw _ (rd_mem (show i < w.length by omega)))
    rw [dot2_drop (by omega) (by omega)]; omega
variable (h3 : n ≤ 3) (A : List (List Int)) (B : List (List Int)) (hA : A.length = n) (hB : B.length = n) (rA : ∀ r ∈ A, vOk n 1000000 r = true) (rB : ∀ r ∈ B, vOk n 1000000 r = true)
include h3 hA hB rA rB
theorem mulF_bd (i k : Nat) (hi : i < n) (hk : k < n) : -3000000000000 ≤ mulF A B i k ∧ mulF A B i k ≤ 3000000000000 := by
  unfold mulF
  have hr := rA _ (List.getElem_mem (show i < A.length by omega))
  have := dot2_bd n (A.getD i []) (colL B k) (by rw [getD_at (by omega), vOk_len hr]) (by rw [colL_len, hB]) (by rw [getD_at (by omega)]; exact vOk_mem hr) (col_mem rB hk) n 0 (by omega)
  simp only [List.drop_zero] at this; omega
end
end Go.Proofs.Ytnbeeogmaamgdaa.Aid
