/- The law FnSplitMove holds: each move is made of mirrors. For every list of bytes; no condition. -/
import Derived.Test.YtnbeeogmaamgdaaPFnSplitMovex
import Derived.Test.YtnbeeogmaamgdaaSpl
namespace Go.Proofs.Ytnbeeogmaamgdaa.Pure
open Go.RowKit Go.Proofs.Ytnbeeogmaamgdaa.PFnSplitMove Go.Proofs.YtnbeeogmaamgdaaW.PrintWords Go.Proofs.YtnbeeogmaamgdaaW.PrintLast Go.Proofs.YtnbeeogmaamgdaaW.PrintMore Go.Proofs.Ytnbeeogmaamgdaa.Aid
namespace FnSplitMoveFun
set_option linter.unusedVariables false
theorem in_eq (a b c : Int) : spec_l6In.f a b c = some (decide (b ≤ a ∧ a ≤ c)) := by
  unfold spec_l6In.f
  by_cases h : b ≤ a <;> simp [h]
theorem size_eq {x : Int} (h : -9223372036854775807 ≤ x) (h1 : x ≤ 9223372036854775807) : impl_size.f x = some (x.natAbs : Int) := by
  unfold impl_size.f; rw [mx_abs h h1]
theorem gcd_l1 (xs : List Int) (n i : Int) (r : Int) : ∀ (B b a : Nat), b ≤ B → Ev (fun k => impl_gcd.l0 k (Nat.gcd a b : Int) xs n (wrap64 (i + 1))) r → Ev (fun k => impl_gcd.l1 k (a : Int) (b : Int) xs n i) r := by
  intro B
  induction B with
  | zero =>
    intro b a h hr
    obtain rfl : b = 0 := by omega
    refine Ev.step (fun k => impl_gcd.l1.eq_2 _ _ _ _ _ k) (Ev.pos rfl ?_)
    simpa using hr
  | succ B ih =>
    intro b a h hr
    rcases Nat.eq_zero_or_pos b with rfl | hb
    · refine Ev.step (fun k => impl_gcd.l1.eq_2 _ _ _ _ _ k) (Ev.pos rfl ?_)
      simpa using hr
    · refine Ev.step (fun k => impl_gcd.l1.eq_2 _ _ _ _ _ k) (Ev.neg (by omega) ?_)
      have e : Int.tmod (a : Int) (b : Int) = ((a % b : Nat) : Int) := by rw [Int.tmod_eq_emod_of_nonneg (by omega)]; rfl
      rw [e]
      refine ih (a % b) b (by have := Nat.mod_lt a hb; omega) ?_
      rwa [show Nat.gcd b (a % b) = Nat.gcd a b by rw [Nat.gcd_comm a b, Nat.gcd_rec b a, Nat.gcd_comm]]
theorem gcd_l0 (xs : List Int) (hn : xs.length ≤ 17592186044416) (hb : ∀ x ∈ xs, -9223372036854775807 ≤ x ∧ x ≤ 9223372036854775807) : ∀ (m i g : Nat), i + m = xs.length → Ev (fun k => impl_gcd.l0 k (g : Int) xs (xs.length : Int) (i : Int)) (gcdL g (xs.drop i) : Int) := by
  intro m
  induction m with
  | zero =>
    intro i g h
    refine Ev.step (fun k => impl_gcd.l0.eq_2 _ _ _ _ k) (Ev.neg (by omega) (Ev.nows ?_))
    rw [List.drop_of_length_le (by omega)]; rfl
  | succ m ih =>
    intro i g h
    have hx := hb _ (rd_mem (show i < xs.length by omega))
    refine Ev.step (fun k => impl_gcd.l0.eq_2 _ _ _ _ k) (Ev.pos (by omega) (Ev.pos (by omega) (Ev.pos (by omega) (Ev.bind0 (size_eq hx.1 hx.2) ?_))))
    refine gcd_l1 _ _ _ _ _ _ _ (Nat.le_refl _) ?_
    rw [w64s (by omega), drop_rd (show i < xs.length by omega)]
    exact ih (i + 1) _ (by omega)
theorem gcd_ev (xs : List Int) (hn : xs.length ≤ 17592186044416) (hb : ∀ x ∈ xs, -9223372036854775807 ≤ x ∧ x ≤ 9223372036854775807) : Ev (fun k => impl_gcd.f k xs) (gcdL 0 xs : Int) := by
  unfold impl_gcd.f
  exact gcd_l0 xs hn hb xs.length 0 0 (by omega)
theorem l1Size_eq {x : Int} (h : -9223372036854775807 ≤ x) (h1 : x ≤ 9223372036854775807) : spec_l1Size.f x = some (x.natAbs : Int) := by
  unfold spec_l1Size.f; rw [mx_abs h h1]
theorem l1Gcd_l : ∀ (B b a : Nat), b ≤ B → Ev (fun k => spec_l1Gcd.l0 k (a : Int) (b : Int)) (Nat.gcd a b : Int) := by
  intro B
  induction B with
  | zero =>
    intro b a h
    obtain rfl : b = 0 := by omega
    exact Ev.step (fun k => spec_l1Gcd.l0.eq_2 _ _ k) (Ev.pos rfl (Ev.nows (by simp)))
  | succ B ih =>
    intro b a h
    rcases Nat.eq_zero_or_pos b with rfl | hb
    · exact Ev.step (fun k => spec_l1Gcd.l0.eq_2 _ _ k) (Ev.pos rfl (Ev.nows (by simp)))
    · refine Ev.step (fun k => spec_l1Gcd.l0.eq_2 _ _ k) (Ev.neg (by omega) ?_)
      have e : Int.tmod (a : Int) (b : Int) = ((a % b : Nat) : Int) := by rw [Int.tmod_eq_emod_of_nonneg (by omega)]; rfl
      rw [e]
      refine Ev.to (ih (a % b) b (by have := Nat.mod_lt a hb; omega)) ?_
      rw [show Nat.gcd b (a % b) = Nat.gcd a b by rw [Nat.gcd_comm a b, Nat.gcd_rec b a, Nat.gcd_comm]]
theorem l1Gcd_ev {a b : Int} (ha : -9223372036854775807 ≤ a) (ha1 : a ≤ 9223372036854775807) (hb : -9223372036854775807 ≤ b) (hb1 : b ≤ 9223372036854775807) : Ev (fun k => spec_l1Gcd.f k a b) (Nat.gcd a.natAbs b.natAbs : Int) := by
  unfold spec_l1Gcd.f
  exact Ev.bind0 (l1Size_eq ha ha1) (Ev.bind0 (l1Size_eq hb hb1) (l1Gcd_l _ _ _ (Nat.le_refl _)))
theorem fOk_no {form : List Int} {x : Int} (h : x ∈ form) (hx : ¬ (x ≠ 0 ∧ -30 ≤ x ∧ x ≤ 30)) : fOk form = false := by
  unfold fOk; exact decide_eq_false (fun k => hx (k.2.2 x h))
theorem fOk_end {xs : List Int} (h : ∀ j, j < xs.length → rd xs (j : Int) ≠ 0 ∧ -30 ≤ rd xs (j : Int) ∧ rd xs (j : Int) ≤ 30) : fOk xs = decide (1 ≤ xs.length ∧ xs.length ≤ 4) := by
  have ha : ∀ x ∈ xs, x ≠ 0 ∧ -30 ≤ x ∧ x ≤ 30 := by
    intro x hx
    obtain ⟨j, hj, rfl⟩ := List.getElem_of_mem hx
    have := h j hj
    rwa [rd_at, List.getD_eq_getElem?_getD, List.getElem?_eq_getElem hj] at this
  unfold fOk
  by_cases h4 : 1 ≤ xs.length ∧ xs.length ≤ 4
  · rw [decide_eq_true h4]; exact decide_eq_true ⟨h4.1, h4.2, ha⟩
  · rw [decide_eq_false h4]; exact decide_eq_false (fun k => h4 ⟨k.1, k.2.1⟩)
theorem iFormValid_l (xs : List Int) (ht : Tame xs) : ∀ (m i : Nat), i + m = xs.length → (∀ j, j < i → j < xs.length → rd xs (j : Int) ≠ 0 ∧ -30 ≤ rd xs (j : Int) ∧ rd xs (j : Int) ≤ 30) →
    Ev (fun k => impl_FormValid.l0 k xs xs (xs.length : Int) (i : Int)) (fOk xs) := by
  have hn := ht.1
  intro m
  induction m with
  | zero =>
    intro i h hj
    have e := fOk_end (xs := xs) (fun j hj1 => hj j (by omega) hj1)
    refine Ev.step (fun k => impl_FormValid.l0.eq_2 _ _ _ _ k) (Ev.neg (by omega) ?_)
    by_cases h1 : (xs.length : Int) ≥ 1
    · refine Ev.pos h1 (Ev.nows ?_)
      rw [e, decide_eq_decide]; omega
    · refine Ev.neg h1 (Ev.nows ?_)
      rw [e]; exact (decide_eq_false (by omega)).symm
  | succ m ih =>
    intro i h hj
    have hb := ht.2 _ (rd_mem (show i < xs.length by omega))
    refine Ev.step (fun k => impl_FormValid.l0.eq_2 _ _ _ _ k) (Ev.pos (by omega) (Ev.pos (by omega) (Ev.pos (by omega) ?_)))
    by_cases h1 : rd xs (i : Int) = 0
    · exact Ev.pos h1 (Ev.nows (fOk_no (rd_mem (by omega)) (fun k => k.1 h1)).symm)
    · refine Ev.neg h1 (Ev.bind0 (size_eq hb.1 hb.2) ?_)
      by_cases h2 : (((rd xs (i : Int)).natAbs : Nat) : Int) > 30
      · exact Ev.pos h2 (Ev.nows (fOk_no (rd_mem (show i < xs.length by omega)) (by omega)).symm)
      · refine Ev.neg h2 ?_
        rw [w64s (by omega)]
        refine ih (i + 1) (by omega) (fun j h5 h6 => ?_)
        rcases (by omega : j < i ∨ j = i) with h7 | rfl
        · exact hj j h7 h6
        · exact ⟨h1, by omega, by omega⟩
theorem iFormValid_ev (xs : List Int) (ht : Tame xs) : Ev (fun k => impl_FormValid.f k xs) (fOk xs) := by
  unfold impl_FormValid.f
  exact iFormValid_l xs ht xs.length 0 (by omega) (by omega)
theorem vOk_no {n : Nat} {most : Int} {v : List Int} {x : Int} (h : x ∈ v) (hx : ¬ (-most ≤ x ∧ x ≤ most)) : vOk n most v = false := by
  unfold vOk; exact decide_eq_false (fun k => hx (k.2 x h))
theorem vOk_end {n : Nat} {most : Int} {v : List Int} (h : ∀ j, j < v.length → -most ≤ rd v (j : Int) ∧ rd v (j : Int) ≤ most) : vOk n most v = ((v.length : Int) == (n : Int)) := by
  have ha : ∀ x ∈ v, -most ≤ x ∧ x ≤ most := by
    intro x hx
    obtain ⟨j, hj, rfl⟩ := List.getElem_of_mem hx
    have := h j hj
    rwa [rd_at, List.getD_eq_getElem?_getD, List.getElem?_eq_getElem hj] at this
  unfold vOk
  by_cases h4 : v.length = n
  · rw [decide_eq_true (show _ from ⟨h4, ha⟩), h4]; simp
  · rw [decide_eq_false (fun k => h4 k.1)]; simp; omega
theorem iVectorOk_l (form v : List Int) (most : Int) (hm0 : 0 ≤ most) (hm : most ≤ 1000000000) (hn : v.length ≤ 17592186044416) : ∀ (m i : Nat), i + m = v.length → (∀ j, j < i → j < v.length → -most ≤ rd v (j : Int) ∧ rd v (j : Int) ≤ most) →
    Ev (fun k => impl_vectorOk.l0 k form v most v (v.length : Int) (i : Int)) (vOk form.length most v) := by
  intro m
  induction m with
  | zero =>
    intro i h hj
    exact Ev.step (fun k => impl_vectorOk.l0.eq_2 _ _ _ _ _ _ k) (Ev.neg (by omega) (Ev.nows (vOk_end (fun j h1 => hj j (by omega) h1)).symm))
  | succ m ih =>
    intro i h hj
    refine Ev.step (fun k => impl_vectorOk.l0.eq_2 _ _ _ _ _ _ k) (Ev.pos (by omega) (Ev.pos (by omega) (Ev.pos (by omega) ?_)))
    rw [w64 (a := -most) (by omega) (by omega)]
    by_cases h1 : rd v (i : Int) < -most
    · exact Ev.pos h1 (Ev.nows (vOk_no (rd_mem (show i < v.length by omega)) (by omega)).symm)
    · refine Ev.neg h1 ?_
      by_cases h2 : rd v (i : Int) > most
      · exact Ev.pos h2 (Ev.nows (vOk_no (rd_mem (show i < v.length by omega)) (by omega)).symm)
      · refine Ev.neg h2 ?_
        rw [w64s (by omega)]
        refine ih (i + 1) (by omega) (fun j h5 h6 => ?_)
        rcases (by omega : j < i ∨ j = i) with h7 | rfl
        · exact hj j h7 h6
        · exact ⟨by omega, by omega⟩
theorem iVectorOk_ev (form v : List Int) (most : Int) (hm0 : 0 ≤ most) (hm : most ≤ 1000000000) (hn : v.length ≤ 17592186044416) : Ev (fun k => impl_vectorOk.f k form v most) (vOk form.length most v) := by
  unfold impl_vectorOk.f
  exact iVectorOk_l form v most hm0 hm hn v.length 0 (by omega) (by omega)
theorem dot3_drop {f v w : List Int} {i : Nat} (hf : i < f.length) (hv : i < v.length) (hw : i < w.length) :
    dot3 (f.drop i) (v.drop i) (w.drop i) = rd f (i : Int) * rd v (i : Int) * rd w (i : Int) + dot3 (f.drop (i + 1)) (v.drop (i + 1)) (w.drop (i + 1)) := by
  rw [drop_rd hf, drop_rd hv, drop_rd hw]; rfl
theorem dot3_nil {f v w : List Int} {i : Nat} (hf : f.length ≤ i) : dot3 (f.drop i) (v.drop i) (w.drop i) = 0 := by
  rw [List.drop_of_length_le hf]; rfl
theorem iPair_l (f v w : List Int) (hv : v.length = f.length) (hw : w.length = f.length) (hn : f.length ≤ 4) (hf : ∀ x ∈ f, -31 ≤ x ∧ x ≤ 31) (bv : ∀ x ∈ v, -1000000 ≤ x ∧ x ≤ 1000000) (bw : ∀ x ∈ w, -1000000 ≤ x ∧ x ≤ 1000000) :
    ∀ (m i : Nat) (s : Int), i + m = f.length → -(31000000000000 * i) ≤ s → s ≤ 31000000000000 * i → Ev (fun k => impl_pair.l0 k v w s f (f.length : Int) (i : Int)) (s + dot3 (f.drop i) (v.drop i) (w.drop i)) := by
  intro m
  induction m with
  | zero =>
    intro i s h _ _
    exact Ev.step (fun k => impl_pair.l0.eq_2 _ _ _ _ _ _ k) (Ev.neg (by omega) (Ev.nows (by rw [dot3_nil (by omega)]; omega)))
  | succ m ih =>
    intro i s h h1 h2
    have b1 := hf _ (rd_mem (show i < f.length by omega))
    have b2 := bv _ (rd_mem (show i < v.length by omega))
    have b3 := bw _ (rd_mem (show i < w.length by omega))
    have b := mul3_bd b1 b2 b3 (by omega) (by omega)
    refine Ev.step (fun k => impl_pair.l0.eq_2 _ _ _ _ _ _ k) (Ev.pos (by omega) (Ev.pos (by omega) (Ev.pos (by omega) (Ev.pos (by omega) (Ev.pos (by omega) ?_)))))
    rw [w64s (by omega), w64 (a := rd f (i : Int) * rd v (i : Int)) (by omega) (by omega), w64 (a := rd f (i : Int) * rd v (i : Int) * rd w (i : Int)) (by omega) (by omega), w64 (a := s + _) (by omega) (by omega), dot3_drop (show i < f.length by omega) (by omega) (by omega)]
    refine Ev.to (ih (i + 1) _ (by omega) (by omega) (by omega)) (by omega)
theorem iPair_ev (f v w : List Int) (hv : v.length = f.length) (hw : w.length = f.length) (hn : f.length ≤ 4) (hf : ∀ x ∈ f, -31 ≤ x ∧ x ≤ 31) (bv : ∀ x ∈ v, -1000000 ≤ x ∧ x ≤ 1000000) (bw : ∀ x ∈ w, -1000000 ≤ x ∧ x ≤ 1000000) :
    Ev (fun k => impl_pair.f k f v w) (dot3 f v w) := by
  unfold impl_pair.f
  have h := iPair_l f v w hv hw hn hf bv bw f.length 0 0 (by omega) (by omega) (by omega)
  exact Ev.to h (by simp)
theorem iPair2_l (f v w : List Int) (hv : v.length = f.length) (hw : w.length = f.length) (hn : f.length ≤ 4) (hf : ∀ x ∈ f, -31 ≤ x ∧ x ≤ 31) (bv : ∀ x ∈ v, -2000000 ≤ x ∧ x ≤ 2000000) (bw : ∀ x ∈ w, -2000000 ≤ x ∧ x ≤ 2000000) :
    ∀ (m i : Nat) (s : Int), i + m = f.length → -(124000000000000 * i) ≤ s → s ≤ 124000000000000 * i → Ev (fun k => impl_pair.l0 k v w s f (f.length : Int) (i : Int)) (s + dot3 (f.drop i) (v.drop i) (w.drop i)) := by
  intro m
  induction m with
  | zero =>
    intro i s h _ _
    exact Ev.step (fun k => impl_pair.l0.eq_2 _ _ _ _ _ _ k) (Ev.neg (by omega) (Ev.nows (by rw [dot3_nil (by omega)]; omega)))
  | succ m ih =>
    intro i s h h1 h2
    have b1 := hf _ (rd_mem (show i < f.length by omega))
    have b2 := bv _ (rd_mem (show i < v.length by omega))
    have b3 := bw _ (rd_mem (show i < w.length by omega))
    have b := mul3_bd b1 b2 b3 (by omega) (by omega)
    refine Ev.step (fun k => impl_pair.l0.eq_2 _ _ _ _ _ _ k) (Ev.pos (by omega) (Ev.pos (by omega) (Ev.pos (by omega) (Ev.pos (by omega) (Ev.pos (by omega) ?_)))))
    rw [w64s (by omega), w64 (a := rd f (i : Int) * rd v (i : Int)) (by omega) (by omega), w64 (a := rd f (i : Int) * rd v (i : Int) * rd w (i : Int)) (by omega) (by omega), w64 (a := s + _) (by omega) (by omega), dot3_drop (show i < f.length by omega) (by omega) (by omega)]
    refine Ev.to (ih (i + 1) _ (by omega) (by omega) (by omega)) (by omega)
theorem iPair2_ev (f v w : List Int) (hv : v.length = f.length) (hw : w.length = f.length) (hn : f.length ≤ 4) (hf : ∀ x ∈ f, -31 ≤ x ∧ x ≤ 31) (bv : ∀ x ∈ v, -2000000 ≤ x ∧ x ≤ 2000000) (bw : ∀ x ∈ w, -2000000 ≤ x ∧ x ≤ 2000000) :
    Ev (fun k => impl_pair.f k f v w) (dot3 f v w) := by
  unfold impl_pair.f
  have h := iPair2_l f v w hv hw hn hf bv bw f.length 0 0 (by omega) (by omega) (by omega)
  exact Ev.to h (by simp)
theorem rdL2_at {rows : List (List Int)} {i : Nat} (h : i < rows.length) : rd_L1 rows (i : Int) = rows[i] := by
  unfold rd_L1; simp [h]
theorem iColumn_l (rows : List (List Int)) (j : Nat) (hn : rows.length ≤ 1000) (hr : ∀ r ∈ rows, j < r.length) : ∀ (m i : Nat), i + m = rows.length →
    Ev (fun k => impl_column.l0 k (j : Int) (colL (rows.take i) j) rows (rows.length : Int) (i : Int)) (colL rows j) := by
  intro m
  induction m with
  | zero =>
    intro i h
    exact Ev.step (fun k => impl_column.l0.eq_2 _ _ _ _ _ k) (Ev.neg (by omega) (Ev.nows (by rw [List.take_of_length_le (by omega)])))
  | succ m ih =>
    intro i h
    have hi : i < rows.length := by omega
    have hri : j < (rd_L1 rows (i : Int)).length := by rw [rdL2_at hi]; exact hr _ (List.getElem_mem hi)
    have hc : (colL (rows.take i) j).length = i := by rw [colL_len, List.length_take]; omega
    refine Ev.step (fun k => impl_column.l0.eq_2 _ _ _ _ _ k) (Ev.pos (by omega) (Ev.pos (by omega) (Ev.pos (by omega) (Ev.pos (by omega) (Ev.pos (by omega) (Ev.pos (by omega) ?_))))))
    rw [w64s (by omega)]
    have e : colL (rows.take i) j ++ [rd (rd_L1 rows (i : Int)) (j : Int)] = colL (rows.take (i + 1)) j := by
      rw [take_s hi, rdL2_at hi]; unfold colL; rw [List.map_append]; rfl
    rw [e]
    exact ih (i + 1) (by omega)
theorem iColumn_ev (rows : List (List Int)) (den : Int) (j : Nat) (hn : rows.length ≤ 1000) (hr : ∀ r ∈ rows, j < r.length) : Ev (fun k => impl_column.f k rows den (j : Int)) (colL rows j) := by
  unfold impl_column.f
  exact iColumn_l rows j hn hr rows.length 0 (by omega)
theorem rdL2_mem {rows : List (List Int)} {i : Nat} (h : i < rows.length) : rd_L1 rows (i : Int) ∈ rows := by
  rw [rdL2_at h]; exact List.getElem_mem h
theorem iMoveValid_2 (form : List Int) (rows : List (List Int)) (den : Int) (hf : fOk form = true) (h3 : form.length ≤ 3) (hl : rows.length = form.length) (hd : 1 ≤ den ∧ den ≤ 10000)
    (hr : ∀ r ∈ rows, vOk form.length 1000000 r = true) :
    ∀ (m i : Nat), i + m = form.length → ∀ (m2 j : Nat), j + m2 = form.length → i < form.length →
      ((∀ a b, a < i + 1 → b < form.length → dot3 form (colL rows a) (colL rows b) = if a = b then rd form (a : Int) * den * den else 0) → Ev (fun k => impl_MoveValid.l1 k form (form.length : Int) (form.length : Int) ((i + 1 : Nat) : Int) rows den) (mvB form rows den)) →
      (∀ a b, (a < i ∨ a = i ∧ b < j) → b < form.length → dot3 form (colL rows a) (colL rows b) = if a = b then rd form (a : Int) * den * den else 0) →
      Ev (fun k => impl_MoveValid.l2 k form (form.length : Int) (i : Int) (form.length : Int) (i : Int) (form.length : Int) (j : Int) rows den) (mvB form rows den) := by
  intro m i hi m2
  induction m2 with
  | zero =>
    intro j hj hin h1 hp
    refine Ev.step (fun k => impl_MoveValid.l2.eq_2 _ _ _ _ _ _ _ _ _ k) (Ev.neg (by omega) ?_)
    rw [w64s (by omega)]
    exact h1 (fun a b ha hb => hp a b (by omega) hb)
  | succ m2 ih =>
    intro j hj hin h1 hp
    have hrl : ∀ c, c < form.length → ∀ r ∈ rows, c < r.length := fun c hc r h => by rw [vOk_len (hr r h)]; exact hc
    have hfb : ∀ x ∈ form, -31 ≤ x ∧ x ≤ 31 := fun x hx => by have := fOk_mem hf x hx; omega
    have bf := hfb _ (rd_mem hin)
    have step4 : ∀ w : Int, w = (if i = j then rd form (i : Int) * den * den else 0) → Ev (fun k => impl_MoveValid.j4 k form (form.length : Int) (i : Int) (j : Int) w (form.length : Int) (i : Int) (form.length : Int) (j : Int) rows den) (mvB form rows den) := by
      intro w hw
      refine Ev.step (fun k => impl_MoveValid.j4.eq_2 _ _ _ _ _ _ _ _ _ _ _ k) (Ev.bind (iColumn_ev rows den i (by omega) (hrl i hin)) (Ev.bind (iColumn_ev rows den j (by omega) (hrl j (by omega)))
        (Ev.bind (iPair_ev form (colL rows i) (colL rows j) (by rw [colL_len, hl]) (by rw [colL_len, hl]) (by omega) hfb (col_mem hr hin) (col_mem hr (by omega))) ?_)))
      by_cases h : dot3 form (colL rows i) (colL rows j) = w
      · refine Ev.pos h ?_
        rw [w64s (by omega)]
        refine ih (j + 1) (by omega) hin h1 (fun a b hab hb => ?_)
        rcases (by omega : (a < i ∨ a = i ∧ b < j) ∨ (a = i ∧ b = j)) with h5 | ⟨rfl, rfl⟩
        · exact hp a b h5 hb
        · rw [h, hw]
      · refine Ev.neg h (Ev.nows ?_)
        unfold mvB
        exact (decide_eq_false (fun k => h (by rw [k.2.2.2.2.2.2 i hin j (by omega), hw]))).symm
    refine Ev.step (fun k => impl_MoveValid.l2.eq_2 _ _ _ _ _ _ _ _ _ k) (Ev.pos (by omega) ?_)
    by_cases hij : i = j
    · refine Ev.pos (by omega) (Ev.pos (by omega) (Ev.pos (by omega) (step4 _ ?_)))
      have b1 : -310000 ≤ rd form (i : Int) * den ∧ rd form (i : Int) * den ≤ 310000 := by
        have := mul3_bd (a := rd form (i : Int)) (b := den) (c := 1) (B := 10000) (C := 1) bf (by omega) (by omega) (by omega) (by omega); omega
      have b2 : -3100000000 ≤ rd form (i : Int) * den * den ∧ rd form (i : Int) * den * den ≤ 3100000000 := by
        have := mul3_bd (a := rd form (i : Int)) (b := den) (c := den) (B := 10000) (C := 10000) bf (by omega) (by omega) (by omega) (by omega); omega
      rw [w64 (a := rd form (i : Int) * den) (by omega) (by omega), w64 (by omega) (by omega), if_pos hij]
    · exact Ev.neg (by omega) (step4 _ (by rw [if_neg hij]))
theorem iMoveValid_1 (form : List Int) (rows : List (List Int)) (den : Int) (hf : fOk form = true) (h3 : form.length ≤ 3) (hl : rows.length = form.length) (hd : 1 ≤ den ∧ den ≤ 10000)
    (hr : ∀ r ∈ rows, vOk form.length 1000000 r = true) (hg : gcdL 0 (den :: rows.flatten) = 1) :
    ∀ (m i : Nat), i + m = form.length →
      (∀ a b, a < i → b < form.length → dot3 form (colL rows a) (colL rows b) = if a = b then rd form (a : Int) * den * den else 0) →
      Ev (fun k => impl_MoveValid.l1 k form (form.length : Int) (form.length : Int) (i : Int) rows den) (mvB form rows den) := by
  intro m
  induction m with
  | zero =>
    intro i h hp
    refine Ev.step (fun k => impl_MoveValid.l1.eq_2 _ _ _ _ _ _ k) (Ev.neg (by omega) (Ev.nows ?_))
    unfold mvB
    exact (decide_eq_true ⟨hf, h3, hl, hd, hr, hg, fun a ha b hb => hp a b (by omega) hb⟩).symm
  | succ m ih =>
    intro i h hp
    refine Ev.step (fun k => impl_MoveValid.l1.eq_2 _ _ _ _ _ _ k) (Ev.pos (by omega) ?_)
    exact iMoveValid_2 form rows den hf h3 hl hd hr (m + 1) i h form.length 0 (by omega) (by omega) (ih (i + 1) (by omega)) (fun a b hab hb => hp a b (by omega) hb)
theorem iMoveValid_0 (form : List Int) (rows : List (List Int)) (den : Int) (hf : fOk form = true) (h3 : form.length ≤ 3) (hl : rows.length = form.length) (hd : 1 ≤ den ∧ den ≤ 10000) (hR : RowsOk rows) :
    ∀ (m i : Nat), i + m = rows.length → (∀ r ∈ rows.take i, vOk form.length 1000000 r = true) →
      Ev (fun k => impl_MoveValid.l0 k form (form.length : Int) (den :: (rows.take i).flatten) rows (rows.length : Int) (i : Int) rows den) (mvB form rows den) := by
  intro m
  induction m with
  | zero =>
    intro i h hp
    rw [List.take_of_length_le (by omega)] at hp ⊢
    have hb : ∀ x ∈ (den :: rows.flatten), -9223372036854775807 ≤ x ∧ x ≤ 9223372036854775807 := by
      intro x hx
      rcases List.mem_cons.1 hx with rfl | hx
      · omega
      · obtain ⟨r, hr, hx⟩ := List.mem_flatten.1 hx
        have := vOk_mem (hp r hr) x hx; omega
    have hfl : rows.flatten.length ≤ 9 := by
      rw [List.length_flatten]
      have : ∀ (l : List (List Int)), (∀ r ∈ l, r.length ≤ 3) → (l.map List.length).sum ≤ 3 * l.length := by
        intro l; induction l with
        | nil => intro _; simp
        | cons a l ih => intro h; have := ih (fun r hr => h r (by simp [hr])); have := h a (by simp); simp only [List.map_cons, List.sum_cons, List.length_cons]; omega
      have := this rows (fun r hr => by rw [vOk_len (hp r hr)]; exact h3); omega
    refine Ev.step (fun k => impl_MoveValid.l0.eq_2 _ _ _ _ _ _ _ _ k) (Ev.neg (by omega) (Ev.bind (gcd_ev _ (by simp only [List.length_cons]; omega) hb) ?_))
    by_cases hg : gcdL 0 (den :: rows.flatten) = 1
    · refine Ev.pos (by omega) ?_
      exact iMoveValid_1 form rows den hf h3 hl hd hp hg form.length 0 (by omega) (by omega)
    · refine Ev.neg (by omega) (Ev.nows ?_)
      unfold mvB
      exact (decide_eq_false (fun k => hg k.2.2.2.2.2.1)).symm
  | succ m ih =>
    intro i h hp
    have hi : i < rows.length := by omega
    refine Ev.step (fun k => impl_MoveValid.l0.eq_2 _ _ _ _ _ _ _ _ k) (Ev.pos (by omega) (Ev.pos (by omega) (Ev.pos (by omega) (Ev.bind (iVectorOk_ev form _ 1000000 (by omega) (by omega) (by have := hR.2 _ (rdL2_mem hi); omega)) ?_))))
    rw [rdL2_at hi]
    by_cases hv : vOk form.length 1000000 rows[i] = true
    · have hfl : (rows.take i).flatten.length ≤ 9 := by
        rw [List.length_flatten]
        have : ∀ (l : List (List Int)), (∀ r ∈ l, r.length ≤ 3) → (l.map List.length).sum ≤ 3 * l.length := by
          intro l; induction l with
          | nil => intro _; simp
          | cons a l ih => intro h; have := ih (fun r hr => h r (by simp [hr])); have := h a (by simp); simp only [List.map_cons, List.sum_cons, List.length_cons]; omega
        have := this (rows.take i) (fun r hr => by rw [vOk_len (hp r hr)]; exact h3)
        rw [List.length_take] at this; omega
      have hvl := vOk_len hv
      refine Ev.pos hv (Ev.pos (by simp only [List.length_cons]; omega) ?_)
      rw [w64s (by omega)]
      have e : (den :: (rows.take i).flatten) ++ rows[i] = den :: (rows.take (i + 1)).flatten := by
        rw [take_s hi, List.flatten_append]; simp
      rw [e]
      refine ih (i + 1) (by omega) (fun r hr => ?_)
      rw [take_s hi] at hr
      rcases List.mem_append.1 hr with hr | hr
      · exact hp r hr
      · simp at hr; rw [hr]; exact hv
    · refine Ev.neg hv (Ev.nows ?_)
      unfold mvB
      exact (decide_eq_false (fun k => hv (k.2.2.2.2.1 _ (List.getElem_mem hi)))).symm
theorem iMoveValid_ev (form : List Int) (rows : List (List Int)) (den : Int) (ht : Tame form) (hR : RowsOk rows) : Ev (fun k => impl_MoveValid.f k form rows den) (mvB form rows den) := by
  have hn := ht.1
  have bad : ¬ (fOk form = true ∧ form.length ≤ 3 ∧ rows.length = form.length ∧ (1 ≤ den ∧ den ≤ 10000)) → Ev (fun k => impl_MoveValid.j0 k form (form.length : Int) true rows den) (mvB form rows den) := by
    intro h
    refine Ev.step (fun k => impl_MoveValid.j0.eq_2 _ _ _ _ _ k) (Ev.pos rfl (Ev.nows ?_))
    unfold mvB
    exact (decide_eq_false (fun k => h ⟨k.1, k.2.1, k.2.2.1, k.2.2.2.1⟩)).symm
  unfold impl_MoveValid.f
  refine Ev.bind (iFormValid_ev form ht) ?_
  by_cases hf : fOk form = true
  · refine Ev.pos hf ?_
    by_cases h3 : form.length ≤ 3
    · refine Ev.neg (by omega) ?_
      by_cases hl : rows.length = form.length
      · refine Ev.pos (by omega) ?_
        by_cases h1 : den < 1
        · exact Ev.pos h1 (bad (fun k => by omega))
        · refine Ev.neg h1 ?_
          by_cases h2 : den > 10000
          · rw [decide_eq_true h2]; exact bad (fun k => by omega)
          · rw [decide_eq_false h2]
            refine Ev.step (fun k => impl_MoveValid.j0.eq_2 _ _ _ _ _ k) (Ev.neg (by simp) ?_)
            have := iMoveValid_0 form rows den hf h3 hl (by omega) hR rows.length 0 (by omega) (by simp)
            simpa using this
      · exact Ev.neg (by omega) (bad (fun k => hl k.2.2.1))
    · exact Ev.pos (by omega) (bad (fun k => h3 k.2.1))
  · exact Ev.neg hf (bad (fun k => hf k.1))
theorem clone_eq {l : List Int} (h : l.length ≤ 1000) : slices_Clone_int_int.f l = some l := by
  unfold slices_Clone_int_int.f; rw [if_pos (by omega)]
theorem iLowest_2 (form : List Int) (rows : List (List Int)) (d : Int) (hd : d ≠ 0) (out : List (List Int)) (od : Int) (R : List (List Int) × Int × Bool) (i : Nat) (r : List Int) (hr : r.length ≤ 1000) (hb : ∀ x ∈ r, -9000000000000000000 ≤ x ∧ x ≤ 9000000000000000000) (ho : out.length ≤ 1000)
    (hk : Ev (fun k => impl_lowest.l1 k form d rows (rows.length : Int) (wrap64 ((i : Int) + 1)) (out ++ [r.map fun x => Int.tdiv x d]) od) R) :
    ∀ (m j : Nat), j + m = r.length → Ev (fun k => impl_lowest.l2 k form d ((r.take j).map fun x => Int.tdiv x d) rows (rows.length : Int) (i : Int) r (r.length : Int) (j : Int) out od) R := by
  intro m
  induction m with
  | zero =>
    intro j h
    refine Ev.step (fun k => impl_lowest.l2.eq_2 _ _ _ _ _ _ _ _ _ _ _ k) (Ev.neg (by omega) (Ev.pos (by omega) ?_))
    rw [List.take_of_length_le (by omega)]; exact hk
  | succ m ih =>
    intro j h
    have hj : j < r.length := by omega
    have hc : ((r.take j).map fun x => Int.tdiv x d).length = j := by rw [List.length_map, List.length_take]; omega
    refine Ev.step (fun k => impl_lowest.l2.eq_2 _ _ _ _ _ _ _ _ _ _ _ k) (Ev.pos (by omega) (Ev.pos (by omega) (Ev.pos (by omega) (Ev.neg hd (Ev.pos (by omega) ?_)))))
    have b := hb _ (rd_mem hj)
    have b1 := tdiv_mag (rd r (j : Int)) d
    rw [w64s (by omega), w64 (a := Int.tdiv _ _) (by omega) (by omega)]
    have e : ((r.take j).map fun x => Int.tdiv x d) ++ [Int.tdiv (rd r (j : Int)) d] = (r.take (j + 1)).map fun x => Int.tdiv x d := by
      rw [take_s hj, List.map_append, rd_at, List.getD_eq_getElem?_getD, List.getElem?_eq_getElem hj]; rfl
    rw [e]
    exact ih (j + 1) (by omega)
theorem iLowest_1 (form : List Int) (rows : List (List Int)) (d : Int) (hd : d ≠ 0) (od : Int) (ht : Tame form) (hR : RowsB rows) :
    ∀ (m i : Nat), i + m = rows.length →
      Ev (fun k => impl_lowest.l1 k form d rows (rows.length : Int) (i : Int) ((rows.take i).map fun r => r.map fun x => Int.tdiv x d) od)
        (if mvB form (rows.map fun r => r.map fun x => Int.tdiv x d) od then (rows.map fun r => r.map fun x => Int.tdiv x d, od, true) else ([], 0, false)) := by
  intro m
  have hn := hR.1
  induction m with
  | zero =>
    intro i h
    refine Ev.step (fun k => impl_lowest.l1.eq_2 _ _ _ _ _ _ _ k) (Ev.neg (by omega) ?_)
    rw [List.take_of_length_le (by omega)]
    refine Ev.bind (iMoveValid_ev form _ od ht ⟨by rw [List.length_map]; exact hn, fun r hr => ?_⟩) ?_
    · obtain ⟨s, h1, rfl⟩ := List.mem_map.1 hr
      rw [List.length_map]; exact (hR.2 s h1).1
    · by_cases hv : mvB form (rows.map fun r => r.map fun x => Int.tdiv x d) od = true
      · exact Ev.to (Ev.pos hv (Ev.now _)) (if_pos hv).symm
      · exact Ev.to (Ev.neg hv (Ev.now _)) (if_neg hv).symm
  | succ m ih =>
    intro i h
    have hi : i < rows.length := by omega
    refine Ev.step (fun k => impl_lowest.l1.eq_2 _ _ _ _ _ _ _ k) (Ev.pos (by omega) (Ev.pos (by omega) (Ev.pos (by omega) ?_)))
    have hb := hR.2 _ (rdL2_mem hi)
    have hc : ((rows.take i).map fun r => r.map fun x => Int.tdiv x d).length = i := by rw [List.length_map, List.length_take]; omega
    have := iLowest_2 form rows d hd ((rows.take i).map fun r => r.map fun x => Int.tdiv x d) od _ i (rd_L1 rows (i : Int)) hb.1 hb.2 (by omega) (by
      rw [w64s (by omega)]
      have e : ((rows.take i).map fun r => r.map fun x => Int.tdiv x d) ++ [(rd_L1 rows (i : Int)).map fun x => Int.tdiv x d] = (rows.take (i + 1)).map fun r => r.map fun x => Int.tdiv x d := by
        rw [take_s hi, List.map_append, rdL2_at hi]; rfl
      rw [e]
      exact ih (i + 1) (by omega)) (rd_L1 rows (i : Int)).length 0 (by omega)
    simpa using this
theorem iLowest_0 (form : List Int) (rows : List (List Int)) (den : Int) (hd : den ≠ 0) (hd1 : -9000000000000000000 ≤ den ∧ den ≤ 9000000000000000000) (ht : Tame form) (hR : RowsB rows) :
    ∀ (m i : Nat), i + m = rows.length →
      Ev (fun k => impl_lowest.l0 k form (gcdL 0 (den :: (rows.take i).flatten) : Int) rows (rows.length : Int) (i : Int) rows den) (lowB form rows den) := by
  intro m
  have hn := hR.1
  have hg : ∀ l : List Int, 0 < gcdL 0 (den :: l) ∧ gcdL 0 (den :: l) ≤ den.natAbs := by
    intro l
    rw [gcdL_cons, Nat.gcd_zero_left, gcdL_gcd]
    exact ⟨Nat.gcd_pos_of_pos_left _ (by omega), gcd_le_left' (by omega)⟩
  induction m with
  | zero =>
    intro i h
    rw [List.take_of_length_le (by omega)]
    have hg1 := hg rows.flatten
    have fin : ∀ d : Int, d ≠ 0 → d = lowD rows den → Ev (fun k => impl_lowest.j1 k form d rows den) (lowB form rows den) := by
      intro d h0 hd2
      refine Ev.step (fun k => impl_lowest.j1.eq_2 _ _ _ _ k) (Ev.neg h0 ?_)
      have b1 := tdiv_mag den d
      rw [w64 (a := Int.tdiv _ _) (by omega) (by omega)]
      have := iLowest_1 form rows d h0 (Int.tdiv den d) ht hR rows.length 0 (by omega)
      unfold lowB lowR
      rw [← hd2]
      simpa using this
    refine Ev.step (fun k => impl_lowest.l0.eq_2 _ _ _ _ _ _ _ k) (Ev.neg (by omega) ?_)
    by_cases hneg : den < 0
    · refine Ev.pos hneg ?_
      rw [w64 (by omega) (by omega)]
      exact fin _ (by omega) (by unfold lowD; rw [if_pos hneg])
    · exact Ev.neg hneg (fin _ (by omega) (by unfold lowD; rw [if_neg hneg]))
  | succ m ih =>
    intro i h
    have hi : i < rows.length := by omega
    have hb := hR.2 _ (rdL2_mem hi)
    have hg1 := hg (rows.take i).flatten
    refine Ev.step (fun k => impl_lowest.l0.eq_2 _ _ _ _ _ _ _ k) (Ev.pos (by omega) (Ev.pos (by omega) (Ev.pos (by omega) (Ev.bind0 (clone_eq hb.1) (Ev.pos (by omega) (Ev.bind (gcd_ev _ (by rw [List.length_append]; simp only [List.length_cons, List.length_nil]; omega) (fun x hx => ?_)) ?_))))))
    · rcases List.mem_append.1 hx with hx | hx
      · have := hb.2 x hx; omega
      · rw [List.mem_singleton.1 hx]; omega
    · rw [rdL2_at hi, gcdL_flat rows den i hi, w64s (by omega)]
      exact ih (i + 1) (by omega)
theorem iLowest_ev (form : List Int) (rows : List (List Int)) (den : Int) (hd : den ≠ 0) (hd1 : -9000000000000000000 ≤ den ∧ den ≤ 9000000000000000000) (ht : Tame form) (hR : RowsB rows) :
    Ev (fun k => impl_lowest.f k form rows den) (lowB form rows den) := by
  unfold impl_lowest.f
  refine Ev.bind (gcd_ev [den] (by simp) (fun x hx => by rw [List.mem_singleton.1 hx]; omega)) ?_
  have := iLowest_0 form rows den hd hd1 ht hR rows.length 0 (by omega)
  simpa using this
section
variable (form w : List Int) (hf : fOk form = true) (h3 : form.length ≤ 3) (hw : vOk form.length 1000 w = true) (h0 : dot3 form w w ≠ 0)
include hf hw
include h3
theorem iMirror_1 (i : Nat) (hi : i < form.length) (out : List (List Int)) (ho : out.length ≤ 1000) (od : Int) (R : List (List Int) × Int × Bool)
    (hk : Ev (fun k => impl_MoveMirror.l0 k form w (dot3 form w w) (form.length : Int) (wrap64 ((i : Int) + 1)) (out ++ [(List.range form.length).map (mirF form w i)]) od) R) :
    ∀ (m k : Nat), k + m = form.length → Ev (fun n => impl_MoveMirror.l1 n form w (dot3 form w w) (i : Int) ((List.range k).map (mirF form w i)) (form.length : Int) (i : Int) (form.length : Int) (k : Int) out od) R := by
  intro m
  have hl := vOk_len hw
  have hq := mir_q form w hf h3 hw
  induction m with
  | zero =>
    intro k h
    obtain rfl : k = form.length := by omega
    exact Ev.step (fun k => impl_MoveMirror.l1.eq_2 _ _ _ _ _ _ _ _ _ _ _ k) (Ev.neg (by omega) (Ev.pos (by omega) hk))
  | succ m ih =>
    intro k h
    have hb := mir_b form w hf hw i k hi (by omega)
    have hc : ((List.range k).map (mirF form w i)).length = k := by rw [List.length_map, List.length_range]
    have := ih (k + 1) (by omega)
    rw [range_s] at this
    refine Ev.step (fun k => impl_MoveMirror.l1.eq_2 _ _ _ _ _ _ _ _ _ _ _ k) (Ev.pos (by omega) (Ev.pos (by omega) (Ev.pos (by omega) (Ev.pos (by omega) (Ev.pos (by omega) (Ev.pos (by omega) ?_))))))
    rw [w64s (by omega), w64 (a := -2 * rd w (i : Int)) (by omega) (by omega), w64 (a := -2 * rd w (i : Int) * rd form (k : Int)) (by omega) (by omega), w64 (a := -2 * rd w (i : Int) * rd form (k : Int) * rd w (k : Int)) (by omega) (by omega)]
    by_cases hik : i = k
    · rw [show mirF form w i k = -2 * rd w (i : Int) * rd form (k : Int) * rd w (k : Int) + dot3 form w w by unfold mirF; rw [if_pos hik]] at this
      refine Ev.pos (by omega) (Ev.pos (by omega) ?_)
      rw [w64 (a := -2 * rd w (i : Int) * rd form (k : Int) * rd w (k : Int) + dot3 form w w) (by omega) (by omega)]
      exact this
    · rw [show mirF form w i k = -2 * rd w (i : Int) * rd form (k : Int) * rd w (k : Int) by unfold mirF; rw [if_neg hik, Int.add_zero]] at this
      exact Ev.neg (by omega) (Ev.pos (by omega) this)
include h0 in
theorem iMirror_0 (ht : Tame form) : ∀ (m i : Nat), i + m = form.length →
    Ev (fun n => impl_MoveMirror.l0 n form w (dot3 form w w) (form.length : Int) (i : Int) ((List.range i).map fun i => (List.range form.length).map (mirF form w i)) (dot3 form w w))
      (lowB form (mirR form w) (dot3 form w w)) := by
  intro m
  have hq := mir_q form w hf h3 hw
  induction m with
  | zero =>
    intro i h
    obtain rfl : i = form.length := by omega
    refine Ev.step (fun k => impl_MoveMirror.l0.eq_2 _ _ _ _ _ _ _ k) (Ev.neg (by omega) (Ev.bind (iLowest_ev form (mirR form w) _ h0 (by omega) ht ?_) (Ev.now _)))
    refine mat_tame _ _ h3 (fun i k hi hk => ?_)
    have hb := mir_b form w hf hw i k hi hk
    unfold mirF; split <;> omega
  | succ m ih =>
    intro i h
    refine Ev.step (fun k => impl_MoveMirror.l0.eq_2 _ _ _ _ _ _ _ k) (Ev.pos (by omega) ?_)
    have := iMirror_1 form w hf h3 hw i (by omega) ((List.range i).map fun i => (List.range form.length).map (mirF form w i)) (by simp; omega) (dot3 form w w) (lowB form (mirR form w) (dot3 form w w)) (by
      rw [w64s (by omega)]
      have := ih (i + 1) (by omega)
      rw [range_s] at this; exact this) form.length 0 (by omega)
    simpa using this
end
theorem iMirror_ev (form w : List Int) (ht : Tame form) (hwl : w.length ≤ 1000) : Ev (fun k => impl_MoveMirror.f k form w) (mirB form w) := by
  have hn := ht.1
  have bad : ¬ (fOk form = true ∧ form.length ≤ 3 ∧ vOk form.length 1000 w = true) → Ev (fun k => impl_MoveMirror.j0 k form w true) (mirB form w) := by
    intro h
    refine Ev.step (fun k => impl_MoveMirror.j0.eq_2 _ _ _ k) (Ev.pos rfl (Ev.nows ?_))
    unfold mirB
    exact (if_neg (fun k => h ⟨k.1, k.2.1, k.2.2.1⟩)).symm
  unfold impl_MoveMirror.f
  refine Ev.bind (iFormValid_ev form ht) ?_
  by_cases hf : fOk form = true
  · refine Ev.pos hf ?_
    by_cases h3 : form.length ≤ 3
    · refine Ev.neg (by omega) (Ev.bind (iVectorOk_ev form w 1000 (by omega) (by omega) (by omega)) ?_)
      by_cases hw : vOk form.length 1000 w = true
      · have hfb : ∀ x ∈ form, -31 ≤ x ∧ x ≤ 31 := fun x hx => by have := fOk_mem hf x hx; omega
        have hwb : ∀ x ∈ w, -1000000 ≤ x ∧ x ≤ 1000000 := fun x hx => by have := vOk_mem hw x hx; omega
        rw [hw]
        refine Ev.step (fun k => impl_MoveMirror.j0.eq_2 _ _ _ k) (Ev.neg (by simp) (Ev.bind (iPair_ev form w w (vOk_len hw) (vOk_len hw) (by omega) hfb hwb hwb) ?_))
        by_cases h0 : dot3 form w w = 0
        · refine Ev.pos h0 (Ev.nows ?_)
          unfold mirB; exact (if_neg (fun k => k.2.2.2 h0)).symm
        · refine Ev.neg h0 ?_
          have := iMirror_0 form w hf h3 hw h0 ht form.length 0 (by omega)
          refine Ev.to this ?_
          unfold mirB; exact (if_pos ⟨hf, h3, hw, h0⟩).symm
      · rw [show vOk form.length 1000 w = false by simpa using hw]
        exact bad (fun k => hw k.2.2)
    · exact Ev.pos (by omega) (bad (fun k => h3 k.2.1))
  · exact Ev.neg hf (bad (fun k => hf k.1))
section
variable (n : Nat)
variable (h3 : n ≤ 3) (form : List Int) (hn : form.length = n) (A : List (List Int)) (B : List (List Int)) (hA : A.length = n) (hB : B.length = n) (rA : ∀ r ∈ A, vOk n 1000000 r = true) (rB : ∀ r ∈ B, vOk n 1000000 r = true) (db : Int)
include h3 hA hB rA rB
include hn
theorem iMul_2 (i k : Nat) (hi : i < n) (hk : k < n) (x11 : List Int) (hx : x11.length ≤ 1000) (out : List (List Int)) (od : Int) (R : List (List Int) × Int × Bool)
    (hR : Ev (fun t => impl_MoveMul.l1 t form (A.getD i []) (x11 ++ [mulF A B i k]) A (A.length : Int) (i : Int) (form.length : Int) (wrap64 ((k : Int) + 1)) B db out od) R) :
    ∀ (m j : Nat) (s : Int), j + m = n → -(1000000000000 * (j : Int)) ≤ s → s ≤ 1000000000000 * (j : Int) → s + dot2 ((A.getD i []).drop j) ((colL B k).drop j) = mulF A B i k →
      Ev (fun t => impl_MoveMul.l2 t form (A.getD i []) x11 s A (A.length : Int) (i : Int) (form.length : Int) (k : Int) (colL B k) ((colL B k).length : Int) (j : Int) B db out od) R := by
  intro m
  have hcl : (colL B k).length = n := by rw [colL_len, hB]
  have hr := rA _ (List.getElem_mem (show i < A.length by omega))
  have hal : (A.getD i []).length = n := by rw [getD_at (by omega), vOk_len hr]
  induction m with
  | zero =>
    intro j s h _ _ he
    rw [dot2_nil (by omega), Int.add_zero] at he
    rw [he]
    exact Ev.step (fun k => impl_MoveMul.l2.eq_2 _ _ _ _ _ _ _ _ _ _ _ _ _ _ _ _ k) (Ev.neg (by omega) (Ev.pos (by omega) hR))
  | succ m ih =>
    intro j s h h1 h2 he
    have b1 : -1000000 ≤ rd (A.getD i []) (j : Int) ∧ rd (A.getD i []) (j : Int) ≤ 1000000 := by rw [getD_at (by omega)]; exact vOk_mem hr _ (rd_mem (by rw [vOk_len hr]; omega))
    have b2 := col_mem rB hk _ (rd_mem (show j < (colL B k).length by omega))
    have c := mul2_bd b1 b2
    refine Ev.step (fun k => impl_MoveMul.l2.eq_2 _ _ _ _ _ _ _ _ _ _ _ _ _ _ _ _ k) (Ev.pos (by omega) (Ev.pos (by omega) (Ev.pos (by omega) (Ev.pos (by omega) ?_))))
    rw [w64s (by omega), w64 (a := rd (A.getD i []) (j : Int) * _) (by omega) (by omega), w64 (a := s + _) (by omega) (by omega)]
    refine ih (j + 1) _ (by omega) (by omega) (by omega) ?_
    rw [← he, dot2_drop (show j < (A.getD i []).length by omega) (by omega)]; omega
theorem iMul_1 (i : Nat) (hi : i < n) (out : List (List Int)) (ho : out.length ≤ 1000) (od : Int) (R : List (List Int) × Int × Bool)
    (hR : Ev (fun t => impl_MoveMul.l0 t form A (A.length : Int) (wrap64 ((i : Int) + 1)) B db (out ++ [(List.range n).map (mulF A B i)]) od) R) :
    ∀ (m k : Nat), k + m = n → Ev (fun t => impl_MoveMul.l1 t form (A.getD i []) ((List.range k).map (mulF A B i)) A (A.length : Int) (i : Int) (form.length : Int) (k : Int) B db out od) R := by
  intro m
  induction m with
  | zero =>
    intro k h
    obtain rfl : k = n := by omega
    exact Ev.step (fun k => impl_MoveMul.l1.eq_2 _ _ _ _ _ _ _ _ _ _ _ _ k) (Ev.neg (by omega) (Ev.pos (by omega) hR))
  | succ m ih =>
    intro k h
    have := ih (k + 1) (by omega)
    rw [range_s] at this
    refine Ev.step (fun k => impl_MoveMul.l1.eq_2 _ _ _ _ _ _ _ _ _ _ _ _ k) (Ev.pos (by omega) (Ev.bind (iColumn_ev B db k (by omega) (fun r hr => by rw [vOk_len (rB r hr)]; omega)) ?_))
    exact iMul_2 n h3 form hn A B hA hB rA rB db i k hi (by omega) _ (by simp; omega) out od R (by rw [w64s (by omega)]; exact this) n 0 0 (by omega) (by omega) (by omega) (by unfold mulF; simp)
theorem iMul_0 (ht : Tame form) (od : Int) (hd : od ≠ 0) (hd1 : -9000000000000000000 ≤ od ∧ od ≤ 9000000000000000000) : ∀ (m i : Nat), i + m = n →
    Ev (fun t => impl_MoveMul.l0 t form A (A.length : Int) (i : Int) B db ((List.range i).map fun i => (List.range n).map (mulF A B i)) od) (lowB form (mulR n A B) od) := by
  intro m
  induction m with
  | zero =>
    intro i h
    obtain rfl : i = n := by omega
    refine Ev.step (fun k => impl_MoveMul.l0.eq_2 _ _ _ _ _ _ _ _ k) (Ev.neg (by omega) (Ev.bind (iLowest_ev form (mulR i A B) _ hd hd1 ht ?_) (Ev.now _)))
    refine mat_tame _ _ h3 (fun a b ha hb => ?_)
    have := mulF_bd i h3 A B hA hB rA rB a b ha hb
    omega
  | succ m ih =>
    intro i h
    have hl : ((List.range i).map fun i => (List.range n).map (mulF A B i)).length = i := by rw [List.length_map, List.length_range]
    have e : rd_L1 A (i : Int) = A.getD i [] := by unfold rd_L1; simp
    refine Ev.step (fun k => impl_MoveMul.l0.eq_2 _ _ _ _ _ _ _ _ k) (Ev.pos (by omega) (Ev.pos (by omega) (Ev.pos (by omega) ?_)))
    rw [e]
    have := iMul_1 n h3 form hn A B hA hB rA rB db i (by omega) ((List.range i).map fun i => (List.range n).map (mulF A B i)) (by omega) od (lowB form (mulR n A B) od) (by
      rw [w64s (by omega)]
      have := ih (i + 1) (by omega)
      rw [range_s] at this; exact this) n 0 (by omega)
    simpa using this
end
theorem iMul_ev (form : List Int) (A : List (List Int)) (da : Int) (B : List (List Int)) (db : Int) (ht : Tame form) (hA : RowsOk A) (hB : RowsOk B) : Ev (fun k => impl_MoveMul.f k form A da B db) (mulB form A da B db) := by
  unfold impl_MoveMul.f
  refine Ev.bind (iMoveValid_ev form A da ht hA) ?_
  have bad : ¬ (mvB form A da = true ∧ mvB form B db = true) → Ev (fun k => impl_MoveMul.j0 k form true A da B db) (mulB form A da B db) := by
    intro h
    refine Ev.step (fun k => impl_MoveMul.j0.eq_2 _ _ _ _ _ _ k) (Ev.pos rfl (Ev.nows ?_))
    unfold mulB; exact (if_neg h).symm
  by_cases h1 : mvB form A da = true
  · refine Ev.pos h1 (Ev.bind (iMoveValid_ev form B db ht hB) ?_)
    by_cases h2 : mvB form B db = true
    · rw [h2]
      obtain ⟨_, h3, hl, hd, hr, _⟩ := mvB_of h1
      obtain ⟨_, _, hl2, hd2, hr2, _⟩ := mvB_of h2
      have c := mul2_bd (a := da) (b := db) (A := 10000) (B := 10000) (by omega) (by omega)
      have cp : 0 < da * db := Int.mul_pos (by omega) (by omega)
      refine Ev.step (fun k => impl_MoveMul.j0.eq_2 _ _ _ _ _ _ k) (Ev.neg (by simp) ?_)
      rw [w64 (a := da * db) (by omega) (by omega)]
      have := iMul_0 form.length h3 form rfl A B hl hl2 hr hr2 db ht (da * db) (by omega) (by omega) form.length 0 (by omega)
      refine Ev.to this ?_
      unfold mulB; exact (if_pos ⟨h1, h2⟩).symm
    · rw [show mvB form B db = false by simpa using h2]; exact bad (fun k => h2 k.2)
  · exact Ev.neg h1 (bad (fun k => h1 k.1))
theorem row_eq (n i : Nat) : (List.replicate n (0 : Int)).set i 1 = (List.range n).map (fun k => if i = k then (1 : Int) else 0) := by
  apply List.ext_getElem
  · simp
  · intro k h1 h2
    rw [List.getElem_set]
    simp
theorem iStay_l (n : Nat) (hn : n ≤ 1000) : ∀ (m i : Nat), i + m = n → Ev (fun k => impl_stay.l0 k (n : Int) (n : Int) (i : Int) ((List.range i).map fun i => (List.range n).map (fun k => if i = k then (1 : Int) else 0)) 1) (stayR n, 1) := by
  intro m
  induction m with
  | zero =>
    intro i h
    obtain rfl : i = n := by omega
    exact Ev.step (fun k => impl_stay.l0.eq_2 _ _ _ _ _ k) (Ev.neg (by omega) (Ev.now _))
  | succ m ih =>
    intro i h
    have hl : ((List.range i).map fun i => (List.range n).map (fun k => if i = k then (1 : Int) else 0)).length = i := by rw [List.length_map, List.length_range]
    have := ih (i + 1) (by omega)
    rw [range_s] at this
    refine Ev.step (fun k => impl_stay.l0.eq_2 _ _ _ _ _ k) (Ev.pos (by omega) (Ev.pos (by omega) (Ev.pos (by omega) (Ev.bind0 rfl (Ev.pos (by omega) (Ev.pos (by rw [List.length_replicate]; omega) (Ev.pos (by omega) ?_)))))))
    rw [w64s (by omega), show ((n : Int)).toNat = n from rfl, show ((i : Int)).toNat = i from rfl, row_eq]
    exact this
theorem iStay_ev (n : Nat) (hn : n ≤ 1000) : Ev (fun k => impl_stay.f k (n : Int)) (stayR n, 1) := by
  unfold impl_stay.f
  exact iStay_l n hn n 0 (by omega)
theorem iMoveStay_ev (form : List Int) (ht : Tame form) : Ev (fun k => impl_MoveStay.f k form) (stayB form) := by
  unfold impl_MoveStay.f
  refine Ev.bind (iFormValid_ev form ht) ?_
  by_cases hf : fOk form = true
  · refine Ev.pos hf ?_
    by_cases h3 : form.length ≤ 3
    · refine Ev.neg (by omega) (Ev.bind (iStay_ev form.length (by omega)) (Ev.nows ?_))
      unfold stayB; exact (if_pos ⟨hf, h3⟩).symm
    · refine Ev.pos (by omega) (Ev.nows ?_)
      unfold stayB; exact (if_neg (fun k => h3 k.2)).symm
  · refine Ev.neg hf (Ev.nows ?_)
    unfold stayB; exact (if_neg (fun k => hf k.1)).symm
theorem sFormValid_l (xs : List Int) (hn : xs.length ≤ 1000000) : ∀ (m i : Nat), i + m = xs.length → (∀ j, j < i → j < xs.length → rd xs (j : Int) ≠ 0 ∧ -30 ≤ rd xs (j : Int) ∧ rd xs (j : Int) ≤ 30) →
    Ev (fun k => spec_FormValid.l0 k xs (i : Int)) (fOk xs) := by
  intro m
  induction m with
  | zero =>
    intro i h hj
    refine Ev.step (fun k => spec_FormValid.l0.eq_2 _ _ k) (Ev.neg (by omega) (Ev.bind0 (in_eq _ _ _) (Ev.nows ?_)))
    rw [fOk_end (fun j h1 => hj j (by omega) h1)]
    exact decide_eq_decide.2 ⟨fun h => by omega, fun h => by omega⟩
  | succ m ih =>
    intro i h hj
    refine Ev.step (fun k => spec_FormValid.l0.eq_2 _ _ k) (Ev.pos (by omega) (Ev.pos (by omega) ?_))
    by_cases h1 : rd xs (i : Int) = 0
    · exact Ev.pos h1 (Ev.nows (fOk_no (rd_mem (show i < xs.length by omega)) (by omega)).symm)
    · refine Ev.neg h1 (Ev.bind0 (in_eq _ _ _) ?_)
      by_cases h2 : -30 ≤ rd xs (i : Int) ∧ rd xs (i : Int) ≤ 30
      · refine Ev.pos (decide_eq_true h2) ?_
        rw [w64s (by omega)]
        refine ih (i + 1) (by omega) (fun j h5 h6 => ?_)
        rcases (by omega : j < i ∨ j = i) with h7 | rfl
        · exact hj j h7 h6
        · exact ⟨h1, h2⟩
      · refine Ev.neg (by simpa using h2) (Ev.nows ?_)
        exact (fOk_no (rd_mem (show i < xs.length by omega)) (fun k => h2 k.2)).symm
theorem sFormValid_ev (xs : List Int) (hn : xs.length ≤ 1000000) : Ev (fun k => spec_FormValid.f k xs) (fOk xs) := by
  unfold spec_FormValid.f
  exact sFormValid_l xs hn xs.length 0 (by omega) (by omega)
theorem l7Form_ev (xs : List Int) (hn : xs.length ≤ 1000000) : Ev (fun k => spec_l7Form.f k xs) (decide (fOk xs = true ∧ xs.length ≤ 3)) := by
  unfold spec_l7Form.f
  refine Ev.bind (sFormValid_ev xs hn) ?_
  by_cases h : fOk xs = true
  · refine Ev.pos h (Ev.nows (decide_eq_decide.2 ⟨fun k => ⟨h, by omega⟩, fun k => by omega⟩))
  · exact Ev.neg h (Ev.nows (decide_eq_false (fun k => h k.1)).symm)
theorem sStay_l (n : Nat) (hn : n ≤ 1000) : ∀ (m i : Nat), i + m = n → Ev (fun k => spec_l7Stay.l0 k (n : Int) (i : Int) ((List.range i).map fun i => (List.range n).map (fun k => if i = k then (1 : Int) else 0)) 1) (stayR n, 1) := by
  intro m
  induction m with
  | zero =>
    intro i h
    obtain rfl : i = n := by omega
    exact Ev.step (fun k => spec_l7Stay.l0.eq_2 _ _ _ _ k) (Ev.neg (by omega) (Ev.now _))
  | succ m ih =>
    intro i h
    have hl : ((List.range i).map fun i => (List.range n).map (fun k => if i = k then (1 : Int) else 0)).length = i := by rw [List.length_map, List.length_range]
    have := ih (i + 1) (by omega)
    rw [range_s] at this
    refine Ev.step (fun k => spec_l7Stay.l0.eq_2 _ _ _ _ k) (Ev.pos (by omega) (Ev.pos (by omega) (Ev.pos (by omega) (Ev.bind0 rfl (Ev.pos (by omega) (Ev.pos (by rw [List.length_replicate]; omega) (Ev.pos (by omega) ?_)))))))
    rw [w64s (by omega), show ((n : Int)).toNat = n from rfl, show ((i : Int)).toNat = i from rfl, row_eq]
    exact this
theorem sStay_ev (n : Nat) (hn : n ≤ 1000) : Ev (fun k => spec_l7Stay.f k (n : Int)) (stayR n, 1) := by
  unfold spec_l7Stay.f
  exact sStay_l n hn n 0 (by omega)
theorem sMoveStay_ev (form : List Int) (hn : form.length ≤ 1000000) : Ev (fun k => spec_MoveStay.f k form) (stayB form) := by
  unfold spec_MoveStay.f
  refine Ev.bind (l7Form_ev form hn) ?_
  by_cases h : fOk form = true ∧ form.length ≤ 3
  · refine Ev.pos (decide_eq_true h) (Ev.bind (sStay_ev form.length (by omega)) (Ev.nows ?_))
    unfold stayB; exact (if_pos h).symm
  · refine Ev.neg (by simpa using h) (Ev.nows ?_)
    unfold stayB; exact (if_neg h).symm
theorem l4Vector_l (form v : List Int) (M : Int) (h0 : 0 ≤ M) (hM : M ≤ 1000000000) (hn : form.length ≤ 1000000) (hv : v.length ≤ 1000000) : ∀ (m i : Nat), i + m = v.length → (∀ j, j < i → j < v.length → -M ≤ rd v (j : Int) ∧ rd v (j : Int) ≤ M) →
    Ev (fun k => spec_l4Vector.l0 k form v M (i : Int)) (fOk form && vOk form.length M v) := by
  intro m
  induction m with
  | zero =>
    intro i h hj
    refine Ev.step (fun k => spec_l4Vector.l0.eq_2 _ _ _ _ k) (Ev.neg (by omega) (Ev.bind (sFormValid_ev form hn) ?_))
    have e := vOk_end (n := form.length) (most := M) (v := v) (fun j h1 => hj j (by omega) h1)
    by_cases hf : fOk form = true
    · refine Ev.pos hf (Ev.nows ?_); rw [hf, e]; rfl
    · refine Ev.neg hf (Ev.nows ?_); rw [show fOk form = false by simpa using hf]; rfl
  | succ m ih =>
    intro i h hj
    refine Ev.step (fun k => spec_l4Vector.l0.eq_2 _ _ _ _ k) (Ev.pos (by omega) (Ev.pos (by omega) ?_))
    rw [w64 (a := -M) (by omega) (by omega)]
    refine Ev.bind0 (in_eq _ _ _) ?_
    by_cases h2 : -M ≤ rd v (i : Int) ∧ rd v (i : Int) ≤ M
    · refine Ev.pos (decide_eq_true h2) ?_
      rw [w64s (by omega)]
      refine ih (i + 1) (by omega) (fun j h5 h6 => ?_)
      rcases (by omega : j < i ∨ j = i) with h7 | rfl
      · exact hj j h7 h6
      · exact h2
    · refine Ev.neg (by simpa using h2) (Ev.nows ?_)
      rw [vOk_no (rd_mem (show i < v.length by omega)) h2, Bool.and_false]
theorem l4Vector_ev (form v : List Int) (M : Int) (h0 : 0 ≤ M) (hM : M ≤ 1000000000) (hn : form.length ≤ 1000000) (hv : v.length ≤ 1000000) : Ev (fun k => spec_l4Vector.f k form v M) (fOk form && vOk form.length M v) := by
  unfold spec_l4Vector.f
  exact l4Vector_l form v M h0 hM hn hv v.length 0 (by omega) (by omega)
theorem l4Value_l (f v : List Int) (hv : v.length = f.length) (hn : f.length ≤ 4) (hf : ∀ x ∈ f, -31 ≤ x ∧ x ≤ 31) (bv : ∀ x ∈ v, -1000000 ≤ x ∧ x ≤ 1000000) :
    ∀ (m i : Nat) (s : Int), i + m = f.length → -(31000000000000 * i) ≤ s → s ≤ 31000000000000 * i → Ev (fun k => spec_l4Value.l0 k f v s (i : Int)) (s + dot3 (f.drop i) (v.drop i) (v.drop i)) := by
  intro m
  induction m with
  | zero =>
    intro i s h _ _
    exact Ev.step (fun k => spec_l4Value.l0.eq_2 _ _ _ _ k) (Ev.neg (by omega) (Ev.nows (by rw [dot3_nil (by omega)]; omega)))
  | succ m ih =>
    intro i s h h1 h2
    have b1 := hf _ (rd_mem (show i < f.length by omega))
    have b2 := bv _ (rd_mem (show i < v.length by omega))
    have b := mul3_bd b1 b2 b2 (by omega) (by omega)
    refine Ev.step (fun k => spec_l4Value.l0.eq_2 _ _ _ _ k) (Ev.pos (by omega) (Ev.pos (by omega) (Ev.pos (by omega) ?_)))
    rw [w64s (by omega), w64 (a := rd f (i : Int) * rd v (i : Int)) (by omega) (by omega), w64 (a := rd f (i : Int) * rd v (i : Int) * rd v (i : Int)) (by omega) (by omega), w64 (a := s + _) (by omega) (by omega), dot3_drop (show i < f.length by omega) (by omega) (by omega)]
    refine Ev.to (ih (i + 1) _ (by omega) (by omega) (by omega)) (by omega)
theorem l4Value_ev (f v : List Int) (hv : v.length = f.length) (hn : f.length ≤ 4) (hf : ∀ x ∈ f, -31 ≤ x ∧ x ≤ 31) (bv : ∀ x ∈ v, -1000000 ≤ x ∧ x ≤ 1000000) : Ev (fun k => spec_l4Value.f k f v) (dot3 f v v) := by
  unfold spec_l4Value.f
  have h := l4Value_l f v hv hn hf bv f.length 0 0 (by omega) (by omega) (by omega)
  exact Ev.to h (by simp)
theorem l4Value2_l (f v : List Int) (hv : v.length = f.length) (hn : f.length ≤ 4) (hf : ∀ x ∈ f, -31 ≤ x ∧ x ≤ 31) (bv : ∀ x ∈ v, -2000000 ≤ x ∧ x ≤ 2000000) :
    ∀ (m i : Nat) (s : Int), i + m = f.length → -(124000000000000 * i) ≤ s → s ≤ 124000000000000 * i → Ev (fun k => spec_l4Value.l0 k f v s (i : Int)) (s + dot3 (f.drop i) (v.drop i) (v.drop i)) := by
  intro m
  induction m with
  | zero =>
    intro i s h _ _
    exact Ev.step (fun k => spec_l4Value.l0.eq_2 _ _ _ _ k) (Ev.neg (by omega) (Ev.nows (by rw [dot3_nil (by omega)]; omega)))
  | succ m ih =>
    intro i s h h1 h2
    have b1 := hf _ (rd_mem (show i < f.length by omega))
    have b2 := bv _ (rd_mem (show i < v.length by omega))
    have b := mul3_bd b1 b2 b2 (by omega) (by omega)
    refine Ev.step (fun k => spec_l4Value.l0.eq_2 _ _ _ _ k) (Ev.pos (by omega) (Ev.pos (by omega) (Ev.pos (by omega) ?_)))
    rw [w64s (by omega), w64 (a := rd f (i : Int) * rd v (i : Int)) (by omega) (by omega), w64 (a := rd f (i : Int) * rd v (i : Int) * rd v (i : Int)) (by omega) (by omega), w64 (a := s + _) (by omega) (by omega), dot3_drop (show i < f.length by omega) (by omega) (by omega)]
    refine Ev.to (ih (i + 1) _ (by omega) (by omega) (by omega)) (by omega)
theorem l4Value2_ev (f v : List Int) (hv : v.length = f.length) (hn : f.length ≤ 4) (hf : ∀ x ∈ f, -31 ≤ x ∧ x ≤ 31) (bv : ∀ x ∈ v, -2000000 ≤ x ∧ x ≤ 2000000) : Ev (fun k => spec_l4Value.f k f v) (dot3 f v v) := by
  unfold spec_l4Value.f
  have h := l4Value2_l f v hv hn hf bv f.length 0 0 (by omega) (by omega) (by omega)
  exact Ev.to h (by simp)
theorem sShape_1 (form : List Int) (rows : List (List Int)) (den : Int) (h3 : form.length ≤ 3) (hl : rows.length = form.length) (hd : 1 ≤ den ∧ den ≤ 10000) (i : Nat) (hi : i < rows.length) (R : Bool)
    (hn : (rd_L1 rows (i : Int)).length = form.length) (hbad : ¬ (∀ x ∈ rd_L1 rows (i : Int), -1000000 ≤ x ∧ x ≤ 1000000) → R = false) (p : Nat) (hp0 : 1 ≤ p) (hp : p ≤ 10000)
    (hR : (∀ x ∈ rd_L1 rows (i : Int), -1000000 ≤ x ∧ x ≤ 1000000) → Ev (fun k => spec_l7Shape.l0 k form (gcdL p (rd_L1 rows (i : Int)) : Int) ((i + 1 : Nat) : Int) rows den) R) :
    ∀ (m j : Nat) (g : Nat), j + m = form.length → 1 ≤ g → g ≤ 10000 → gcdL g ((rd_L1 rows (i : Int)).drop j) = gcdL p (rd_L1 rows (i : Int)) → (∀ c, c < j → c < form.length → -1000000 ≤ rd (rd_L1 rows (i : Int)) (c : Int) ∧ rd (rd_L1 rows (i : Int)) (c : Int) ≤ 1000000) →
      Ev (fun k => spec_l7Shape.l1 k form (g : Int) (i : Int) (j : Int) rows den) R := by
  intro m
  induction m with
  | zero =>
    intro j g h _ _ he hb
    refine Ev.step (fun k => spec_l7Shape.l1.eq_2 _ _ _ _ _ _ k) (Ev.neg (by omega) ?_)
    rw [w64s (by omega)]
    rw [List.drop_of_length_le (by omega)] at he
    rw [show g = gcdL p (rd_L1 rows (i : Int)) from he]
    refine hR (fun x hx => ?_)
    obtain ⟨c, hc, rfl⟩ := List.getElem_of_mem hx
    have := hb c (by omega) (by omega)
    rwa [rd_at, List.getD_eq_getElem?_getD, List.getElem?_eq_getElem hc] at this
  | succ m ih =>
    intro j g h hg hg1 he hb
    refine Ev.step (fun k => spec_l7Shape.l1.eq_2 _ _ _ _ _ _ k) (Ev.pos (by omega) (Ev.pos (by omega) (Ev.pos (by omega) (Ev.pos (by omega) (Ev.pos (by omega) (Ev.bind0 (in_eq _ _ _) ?_))))))
    by_cases h2 : -1000000 ≤ rd (rd_L1 rows (i : Int)) (j : Int) ∧ rd (rd_L1 rows (i : Int)) (j : Int) ≤ 1000000
    · refine Ev.pos (decide_eq_true h2) (Ev.bind (l1Gcd_ev (by omega) (by omega) (by omega) (by omega)) ?_)
      rw [w64s (by omega), show ((g : Int)).natAbs = g from rfl]
      have q := Nat.gcd_le_left (rd (rd_L1 rows (i : Int)) (j : Int)).natAbs (show 0 < g by omega)
      refine ih (j + 1) _ (by omega) (Nat.gcd_pos_of_pos_left _ (by omega)) (by omega) ?_ (fun c h5 h6 => ?_)
      · rw [← he, drop_rd (show j < (rd_L1 rows (i : Int)).length by omega)]; rfl
      · rcases (by omega : c < j ∨ c = j) with h7 | rfl
        · exact hb c h7 h6
        · exact h2
    · refine Ev.neg (by simpa using h2) (Ev.nows (hbad (fun k => h2 (k _ (rd_mem (by omega))))).symm)
def shapeB (form : List Int) (rows : List (List Int)) (den : Int) : Bool :=
  decide (fOk form = true ∧ form.length ≤ 3 ∧ rows.length = form.length ∧ (1 ≤ den ∧ den ≤ 10000) ∧ (∀ r ∈ rows, vOk form.length 1000000 r = true) ∧ gcdL 0 (den :: rows.flatten) = 1)
theorem sShape_0 (form : List Int) (rows : List (List Int)) (den : Int) (hf : fOk form = true) (h3 : form.length ≤ 3) (hl : rows.length = form.length) (hd : 1 ≤ den ∧ den ≤ 10000) (hR : RowsOk rows) :
    ∀ (m i : Nat), i + m = rows.length → (∀ r ∈ rows.take i, vOk form.length 1000000 r = true) →
      Ev (fun k => spec_l7Shape.l0 k form (gcdL 0 (den :: (rows.take i).flatten) : Int) (i : Int) rows den) (shapeB form rows den) := by
  intro m
  induction m with
  | zero =>
    intro i h hp
    rw [List.take_of_length_le (by omega)] at hp ⊢
    refine Ev.step (fun k => spec_l7Shape.l0.eq_2 _ _ _ _ _ k) (Ev.neg (by omega) (Ev.nows ?_))
    unfold shapeB
    by_cases hg : gcdL 0 (den :: rows.flatten) = 1
    · rw [decide_eq_true (show _ from ⟨hf, h3, hl, hd, hp, hg⟩), hg]; rfl
    · rw [decide_eq_false (fun k => hg k.2.2.2.2.2)]
      simp; omega
  | succ m ih =>
    intro i h hp
    have hi : i < rows.length := by omega
    have hx := rdL2_at hi
    refine Ev.step (fun k => spec_l7Shape.l0.eq_2 _ _ _ _ _ k) (Ev.pos (by omega) (Ev.pos (by omega) ?_))
    by_cases hn : (rd_L1 rows (i : Int)).length = form.length
    · have hg1 : 1 ≤ gcdL 0 (den :: (rows.take i).flatten) ∧ gcdL 0 (den :: (rows.take i).flatten) ≤ 10000 := by
        rw [gcdL_cons, Nat.gcd_zero_left, gcdL_gcd]
        have := Nat.gcd_le_left (gcdL 0 (rows.take i).flatten) (show 0 < den.natAbs by omega)
        exact ⟨Nat.gcd_pos_of_pos_left _ (by omega), by omega⟩
      refine Ev.pos (by omega) (sShape_1 form rows den h3 hl hd i hi _ hn (fun k => ?_) _ hg1.1 hg1.2 (fun k => ?_) form.length 0 _ (by omega) hg1.1 hg1.2 rfl (by omega))
      · unfold shapeB
        refine decide_eq_false (fun q => k (vOk_mem (q.2.2.2.2.1 _ (rdL2_mem hi))))
      · have e : gcdL (gcdL 0 (den :: (rows.take i).flatten)) (rd_L1 rows (i : Int)) = gcdL 0 (den :: (rows.take (i + 1)).flatten) := by
          rw [← gcdL_app, take_s hi, List.flatten_append, hx]; simp
        rw [e]
        refine ih (i + 1) (by omega) (fun r hr => ?_)
        rw [take_s hi] at hr
        rcases List.mem_append.1 hr with hr | hr
        · exact hp r hr
        · rw [List.mem_singleton.1 hr, ← hx]; exact vOk_of hn k
    · refine Ev.neg (by omega) (Ev.nows ?_)
      unfold shapeB
      exact (decide_eq_false (fun q => hn (vOk_len (q.2.2.2.2.1 _ (rdL2_mem hi))))).symm
theorem sShape_ev (form : List Int) (rows : List (List Int)) (den : Int) (hn : form.length ≤ 1000000) (hR : RowsOk rows) : Ev (fun k => spec_l7Shape.f k form rows den) (shapeB form rows den) := by
  have bad : ¬ (fOk form = true ∧ form.length ≤ 3 ∧ rows.length = form.length ∧ (1 ≤ den ∧ den ≤ 10000)) → Ev (fun k => spec_l7Shape.j0 k form true rows den) (shapeB form rows den) := by
    intro h
    refine Ev.step (fun k => spec_l7Shape.j0.eq_2 _ _ _ _ k) (Ev.pos rfl (Ev.nows ?_))
    unfold shapeB
    exact (decide_eq_false (fun k => h ⟨k.1, k.2.1, k.2.2.1, k.2.2.2.1⟩)).symm
  unfold spec_l7Shape.f
  refine Ev.bind (l7Form_ev form hn) ?_
  by_cases hf : fOk form = true ∧ form.length ≤ 3
  · refine Ev.pos (decide_eq_true hf) ?_
    by_cases hl : rows.length = form.length
    · refine Ev.pos (by omega) (Ev.bind0 (in_eq _ _ _) ?_)
      by_cases hd : 1 ≤ den ∧ den ≤ 10000
      · rw [decide_eq_true hd]
        refine Ev.step (fun k => spec_l7Shape.j0.eq_2 _ _ _ _ k) (Ev.neg (by simp) ?_)
        have := sShape_0 form rows den hf.1 hf.2 hl hd hR rows.length 0 (by omega) (by simp)
        have e : gcdL 0 (den :: (rows.take 0).flatten) = den.toNat := by
          rw [gcdL_cons, Nat.gcd_zero_left]; simp [gcdL]; omega
        rw [e, Int.toNat_of_nonneg (by omega)] at this
        exact this
      · rw [decide_eq_false hd]; exact bad (fun k => hd k.2.2.2)
    · exact Ev.neg (by omega) (bad (fun k => hl k.2.2.1))
  · exact Ev.neg (by simpa using hf) (bad (fun k => hf ⟨k.1, k.2.1⟩))
section
variable (form : List Int) (rows : List (List Int)) (den : Int) (hs : shapeB form rows den = true)
include hs
theorem sMV_2 (i j : Nat) (hi : i < form.length) (hj : j < form.length) (R : Bool)
    (hR : Ev (fun k => spec_MoveValid.l2 k form (i : Int) (j : Int) (dot3 form (colL rows i) (colL rows j)) (form.length : Int) rows den) R) :
    ∀ (m r : Nat) (s : Int), r + m = form.length → -(31000000000000 * r) ≤ s → s ≤ 31000000000000 * r → s + dot3 (form.drop r) ((colL rows i).drop r) ((colL rows j).drop r) = dot3 form (colL rows i) (colL rows j) →
      Ev (fun k => spec_MoveValid.l2 k form (i : Int) (j : Int) s (r : Int) rows den) R := by
  obtain ⟨hf, h3, hl, hd, hr, _⟩ := of_decide_eq_true hs
  have hfb : ∀ x ∈ form, -31 ≤ x ∧ x ≤ 31 := fun x hx => by have := fOk_mem hf x hx; omega
  intro m
  induction m with
  | zero =>
    intro r s h _ _ he
    obtain rfl : r = form.length := by omega
    rw [dot3_nil' (by omega), Int.add_zero] at he
    rw [he]; exact hR
  | succ m ih =>
    intro r s h h1 h2 he
    have hrr : r < rows.length := by omega
    have hx := rdL2_at hrr
    have hln : (rd_L1 rows (r : Int)).length = form.length := by rw [hx]; exact vOk_len (hr _ (List.getElem_mem hrr))
    have ec : ∀ c : Nat, c < form.length → rd (rd_L1 rows (r : Int)) (c : Int) = rd (colL rows c) (r : Int) := by
      intro c hc
      rw [hx]; unfold colL
      rw [rd_at, rd_at, List.getD_eq_getElem?_getD, List.getD_eq_getElem?_getD, List.getElem?_map, List.getElem?_eq_getElem hrr]
      simp [rd_at]
    have b1 := hfb _ (rd_mem (show r < form.length by omega))
    have b2 := col_mem hr hi _ (rd_mem (show r < (colL rows i).length by rw [colL_len]; omega))
    have b3 := col_mem hr hj _ (rd_mem (show r < (colL rows j).length by rw [colL_len]; omega))
    have b := mul3_bd b1 b2 b3 (by omega) (by omega)
    refine Ev.step (fun k => spec_MoveValid.l2.eq_2 _ _ _ _ _ _ _ k) (Ev.pos (by omega) (Ev.pos (by omega) (Ev.pos (by omega) (Ev.pos (by omega) (Ev.pos (by omega) (Ev.pos (by omega) (Ev.pos (by omega) ?_)))))))
    rw [ec i hi, ec j hj, w64s (by omega), w64 (a := rd form (r : Int) * rd (colL rows i) (r : Int)) (by omega) (by omega), w64 (a := rd form (r : Int) * rd (colL rows i) (r : Int) * rd (colL rows j) (r : Int)) (by omega) (by omega), w64 (a := s + _) (by omega) (by omega)]
    refine ih (r + 1) _ (by omega) (by omega) (by omega) ?_
    rw [← he, dot3_drop' (show r < form.length by omega) (by rw [colL_len]; omega) (by rw [colL_len]; omega)]; omega
theorem sMV_1 (i : Nat) (hi : i < form.length)
    (hR : (∀ a b, a ≤ i → b ≤ a → dot3 form (colL rows a) (colL rows b) = if a = b then rd form (a : Int) * den * den else 0) → Ev (fun k => spec_MoveValid.l0 k form ((i + 1 : Nat) : Int) rows den) (mvB form rows den)) :
    ∀ (m j : Nat), j + m = i + 1 → (∀ a b, (a < i ∨ a = i ∧ b < j) → b ≤ a → dot3 form (colL rows a) (colL rows b) = if a = b then rd form (a : Int) * den * den else 0) →
      Ev (fun k => spec_MoveValid.l1 k form (i : Int) (j : Int) rows den) (mvB form rows den) := by
  obtain ⟨hf, h3, hl, hd, hr, _⟩ := of_decide_eq_true hs
  have hfb : ∀ x ∈ form, -31 ≤ x ∧ x ≤ 31 := fun x hx => by have := fOk_mem hf x hx; omega
  intro m
  induction m with
  | zero =>
    intro j h hp
    refine Ev.step (fun k => spec_MoveValid.l1.eq_2 _ _ _ _ _ k) (Ev.neg (by omega) ?_)
    rw [w64s (by omega)]
    exact hR (fun a b ha hb => hp a b (by omega) hb)
  | succ m ih =>
    intro j h hp
    refine Ev.step (fun k => spec_MoveValid.l1.eq_2 _ _ _ _ _ k) (Ev.pos (by omega) ?_)
    refine sMV_2 form rows den hs i j hi (by omega) _ ?_ form.length 0 0 (by omega) (by omega) (by omega) (by simp)
    have bf := hfb _ (rd_mem hi)
    have next : (dot3 form (colL rows i) (colL rows j) = if i = j then rd form (i : Int) * den * den else 0) → Ev (fun k => spec_MoveValid.l1 k form (i : Int) (wrap64 ((j : Int) + 1)) rows den) (mvB form rows den) := by
      intro he
      rw [w64s (by omega)]
      refine ih (j + 1) (by omega) (fun a b hab hb => ?_)
      rcases (by omega : (a < i ∨ a = i ∧ b < j) ∨ (a = i ∧ b = j)) with h5 | ⟨rfl, rfl⟩
      · exact hp a b h5 hb
      · exact he
    have bad : ¬ (dot3 form (colL rows i) (colL rows j) = if i = j then rd form (i : Int) * den * den else 0) → mvB form rows den = false := by
      intro hne
      unfold mvB
      exact decide_eq_false (fun k => hne (k.2.2.2.2.2.2 i hi j (by omega)))
    refine Ev.step (fun k => spec_MoveValid.l2.eq_2 _ _ _ _ _ _ _ k) (Ev.neg (by omega) ?_)
    by_cases hij : i = j
    · have b1 : -310000 ≤ rd form (i : Int) * den ∧ rd form (i : Int) * den ≤ 310000 := by
        have := mul3_bd (a := rd form (i : Int)) (b := den) (c := 1) (B := 10000) (C := 1) bf (by omega) (by omega) (by omega) (by omega); omega
      have b2 : -3100000000 ≤ rd form (i : Int) * den * den ∧ rd form (i : Int) * den * den ≤ 3100000000 := by
        have := mul3_bd (a := rd form (i : Int)) (b := den) (c := den) (B := 10000) (C := 10000) bf (by omega) (by omega) (by omega) (by omega); omega
      refine Ev.pos (by omega) (Ev.pos (by omega) (Ev.pos (by omega) ?_))
      rw [w64 (a := rd form (i : Int) * den) (by omega) (by omega), w64 (a := rd form (i : Int) * den * den) (by omega) (by omega)]
      by_cases he : dot3 form (colL rows i) (colL rows j) = rd form (i : Int) * den * den
      · exact Ev.pos he (next (by rw [if_pos hij]; exact he))
      · exact Ev.neg he (Ev.nows (bad (by rw [if_pos hij]; exact he)).symm)
    · refine Ev.neg (by omega) ?_
      by_cases he : dot3 form (colL rows i) (colL rows j) = 0
      · exact Ev.pos he (next (by rw [if_neg hij]; exact he))
      · exact Ev.neg he (Ev.nows (bad (by rw [if_neg hij]; exact he)).symm)
theorem sMV_0 : ∀ (m i : Nat), i + m = form.length → (∀ a b, a < i → b ≤ a → dot3 form (colL rows a) (colL rows b) = if a = b then rd form (a : Int) * den * den else 0) →
    Ev (fun k => spec_MoveValid.l0 k form (i : Int) rows den) (mvB form rows den) := by
  intro m
  have ⟨hf, h3, hl, hd, hr, hg⟩ := of_decide_eq_true hs
  induction m with
  | zero =>
    intro i h hp
    refine Ev.step (fun k => spec_MoveValid.l0.eq_2 _ _ _ _ k) (Ev.neg (by omega) (Ev.nows ?_))
    unfold mvB
    refine (decide_eq_true ⟨hf, h3, hl, hd, hr, hg, fun a ha b hb => ?_⟩).symm
    rcases (by omega : b ≤ a ∨ a < b) with h5 | h5
    · exact hp a b (by omega) h5
    · rw [dot3_comm, hp b a (by omega) (by omega), if_neg (by omega), if_neg (by omega)]
  | succ m ih =>
    intro i h hp
    refine Ev.step (fun k => spec_MoveValid.l0.eq_2 _ _ _ _ k) (Ev.pos (by omega) ?_)
    exact sMV_1 form rows den hs i (by omega) (fun hp2 => ih (i + 1) (by omega) (fun a b ha hb => hp2 a b (by omega) hb)) (i + 1) 0 (by omega) (fun a b hab hb => hp a b (by omega) hb)
end
theorem sMoveValid_ev (form : List Int) (rows : List (List Int)) (den : Int) (hn : form.length ≤ 1000000) (hR : RowsOk rows) : Ev (fun k => spec_MoveValid.f k form rows den) (mvB form rows den) := by
  unfold spec_MoveValid.f
  refine Ev.bind (sShape_ev form rows den hn hR) ?_
  by_cases hs : shapeB form rows den = true
  · exact Ev.pos hs (sMV_0 form rows den hs form.length 0 (by omega) (by omega))
  · refine Ev.neg hs (Ev.nows ?_)
    unfold mvB
    refine (decide_eq_false (fun k => hs ?_)).symm
    exact decide_eq_true ⟨k.1, k.2.1, k.2.2.1, k.2.2.2.1, k.2.2.2.2.1, k.2.2.2.2.2.1⟩
section
variable (rows : List (List Int)) (den : Int) (hR : RowsB rows)
include hR
theorem low_3 (g : Int) (hg : g ≠ 0) (i : Nat) (hi : i < rows.length) (out : List (List Int)) (ho : out.length ≤ 1000) (od : Int) (R : List (List Int) × Int)
    (hk : Ev (fun k => spec_l7Low.l2 k rows g ((i + 1 : Nat) : Int) (out ++ [(rd_L1 rows (i : Int)).map fun x => Int.tdiv x g]) od) R) :
    ∀ (m j : Nat), j + m = (rd_L1 rows (i : Int)).length → Ev (fun k => spec_l7Low.l3 k rows g (i : Int) (((rd_L1 rows (i : Int)).take j).map fun x => Int.tdiv x g) (j : Int) out od) R := by
  have hb := hR.2 _ (rdL2_mem hi)
  intro m
  induction m with
  | zero =>
    intro j h
    refine Ev.step (fun k => spec_l7Low.l3.eq_2 _ _ _ _ _ _ _ k) (Ev.pos (by omega) (Ev.pos (by omega) (Ev.neg (by omega) (Ev.pos (by omega) ?_))))
    rw [List.take_of_length_le (by omega), w64s (by have := hR.1; omega)]; exact hk
  | succ m ih =>
    intro j h
    have hj : j < (rd_L1 rows (i : Int)).length := by omega
    have hl := hb.1
    have hc : (((rd_L1 rows (i : Int)).take j).map fun x => Int.tdiv x g).length = j := by rw [List.length_map, List.length_take]; omega
    refine Ev.step (fun k => spec_l7Low.l3.eq_2 _ _ _ _ _ _ _ k) (Ev.pos (by omega) (Ev.pos (by omega) (Ev.pos (by omega) (Ev.pos (by omega) (Ev.neg hg (Ev.pos (by omega) ?_))))))
    have b := hb.2 _ (rd_mem hj)
    have b1 : (Int.tdiv (rd (rd_L1 rows (i : Int)) (j : Int)) g).natAbs ≤ (rd (rd_L1 rows (i : Int)) (j : Int)).natAbs := by rw [Int.natAbs_tdiv]; exact Nat.div_le_self _ _
    rw [w64s (by omega), w64 (a := Int.tdiv _ _) (by omega) (by omega)]
    have e : (((rd_L1 rows (i : Int)).take j).map fun x => Int.tdiv x g) ++ [Int.tdiv (rd (rd_L1 rows (i : Int)) (j : Int)) g] = ((rd_L1 rows (i : Int)).take (j + 1)).map fun x => Int.tdiv x g := by
      rw [take_s hj, List.map_append, rd_at, List.getD_eq_getElem?_getD, List.getElem?_eq_getElem hj]; rfl
    rw [e]
    exact ih (j + 1) (by omega)
theorem low_2 (g : Int) (hg : g ≠ 0) (od : Int) :
    ∀ (m i : Nat), i + m = rows.length → Ev (fun k => spec_l7Low.l2 k rows g (i : Int) ((rows.take i).map fun r => r.map fun x => Int.tdiv x g) od) (rows.map fun r => r.map fun x => Int.tdiv x g, od) := by
  have hn := hR.1
  intro m
  induction m with
  | zero =>
    intro i h
    refine Ev.step (fun k => spec_l7Low.l2.eq_2 _ _ _ _ _ k) (Ev.neg (by omega) (Ev.nows ?_))
    rw [List.take_of_length_le (by omega)]
  | succ m ih =>
    intro i h
    have hi : i < rows.length := by omega
    have hc : ((rows.take i).map fun r => r.map fun x => Int.tdiv x g).length = i := by rw [List.length_map, List.length_take]; omega
    refine Ev.step (fun k => spec_l7Low.l2.eq_2 _ _ _ _ _ k) (Ev.pos (by omega) ?_)
    have := low_3 rows hR g hg i hi ((rows.take i).map fun r => r.map fun x => Int.tdiv x g) (by omega) od _ (by
      have e : ((rows.take i).map fun r => r.map fun x => Int.tdiv x g) ++ [(rd_L1 rows (i : Int)).map fun x => Int.tdiv x g] = (rows.take (i + 1)).map fun r => r.map fun x => Int.tdiv x g := by
        rw [take_s hi, List.map_append, rdL2_at hi]; rfl
      rw [e]
      exact ih (i + 1) (by omega)) (rd_L1 rows (i : Int)).length 0 (by omega)
    simpa using this
theorem low_1 (i : Nat) (hi : i < rows.length) (R : List (List Int) × Int) (p : Nat) (hp : 1 ≤ p) (hp1 : p ≤ 9000000000000000000)
    (hk : Ev (fun k => spec_l7Low.l0 k rows den (gcdL p (rd_L1 rows (i : Int)) : Int) ((i + 1 : Nat) : Int)) R) :
    ∀ (m j : Nat) (g : Int), j + m = (rd_L1 rows (i : Int)).length → 1 ≤ g.natAbs → g.natAbs ≤ 9000000000000000000 → gcdL g.natAbs ((rd_L1 rows (i : Int)).drop j) = gcdL p (rd_L1 rows (i : Int)) → (0 ≤ g ∨ j < (rd_L1 rows (i : Int)).length) →
      Ev (fun k => spec_l7Low.l1 k rows den g (i : Int) (j : Int)) R := by
  have hb := hR.2 _ (rdL2_mem hi)
  intro m
  induction m with
  | zero =>
    intro j g h _ _ he hs
    refine Ev.step (fun k => spec_l7Low.l1.eq_2 _ _ _ _ _ k) (Ev.pos (by omega) (Ev.pos (by omega) (Ev.neg (by omega) ?_)))
    rw [w64s (by have := hR.1; omega)]
    rw [List.drop_of_length_le (by omega)] at he
    rw [show g = (gcdL p (rd_L1 rows (i : Int)) : Int) by rw [← he]; simp [gcdL]; omega]
    exact hk
  | succ m ih =>
    intro j g h hg hg1 he hs
    have hj : j < (rd_L1 rows (i : Int)).length := by omega
    have hl := hb.1
    have b := hb.2 _ (rd_mem hj)
    have q := Nat.gcd_le_left (rd (rd_L1 rows (i : Int)) (j : Int)).natAbs (show 0 < g.natAbs by omega)
    refine Ev.step (fun k => spec_l7Low.l1.eq_2 _ _ _ _ _ k) (Ev.pos (by omega) (Ev.pos (by omega) (Ev.pos (by omega) (Ev.pos (by omega) (Ev.bind (l1Gcd_ev (by omega) (by omega) (by omega) (by omega)) ?_)))))
    rw [w64s (by omega)]
    refine ih (j + 1) _ (by omega) ?_ ?_ ?_ (.inl (by omega))
    · exact Nat.gcd_pos_of_pos_left _ (by omega)
    · show Nat.gcd _ _ ≤ _; omega
    · rw [← he, drop_rd hj]; rfl
theorem low_0 (hd : den ≠ 0) (hd1 : -9000000000000000000 ≤ den ∧ den ≤ 9000000000000000000) (hne : ∀ r ∈ rows, r ≠ []) :
    ∀ (m i : Nat) (g : Int), i + m = rows.length → g.natAbs = gcdL 0 (den :: (rows.take i).flatten) → (0 ≤ g ∨ i < rows.length) → Ev (fun k => spec_l7Low.l0 k rows den g (i : Int)) (lowR rows den, Int.tdiv den (lowD rows den)) := by
  have hg : ∀ l : List Int, 0 < gcdL 0 (den :: l) ∧ gcdL 0 (den :: l) ≤ den.natAbs := by
    intro l
    rw [gcdL_cons, Nat.gcd_zero_left, gcdL_gcd]
    exact ⟨Nat.gcd_pos_of_pos_left _ (by omega), Nat.gcd_le_left _ (by omega)⟩
  intro m
  induction m with
  | zero =>
    intro i g h he hs
    rw [List.take_of_length_le (by omega)] at he
    have hg1 := hg rows.flatten
    have fin : ∀ d : Int, d ≠ 0 → d = lowD rows den → Ev (fun k => spec_l7Low.j2 k rows den d) (lowR rows den, Int.tdiv den (lowD rows den)) := by
      intro d h0 hd2
      have b1 : (Int.tdiv den d).natAbs ≤ den.natAbs := by rw [Int.natAbs_tdiv]; exact Nat.div_le_self _ _
      refine Ev.step (fun k => spec_l7Low.j2.eq_2 _ _ _ k) (Ev.neg h0 ?_)
      rw [w64 (a := Int.tdiv _ _) (by omega) (by omega)]
      have := low_2 rows hR d h0 (Int.tdiv den d) rows.length 0 (by omega)
      unfold lowR
      rw [← hd2]
      simpa using this
    refine Ev.step (fun k => spec_l7Low.l0.eq_2 _ _ _ _ k) (Ev.neg (by omega) ?_)
    by_cases hneg : den < 0
    · refine Ev.pos hneg ?_
      rw [w64 (by omega) (by omega)]
      exact fin _ (by omega) (by unfold lowD; rw [if_pos hneg]; omega)
    · exact Ev.neg hneg (fin _ (by omega) (by unfold lowD; rw [if_neg hneg]; omega))
  | succ m ih =>
    intro i g h he hs
    have hi : i < rows.length := by omega
    have hg1 := hg (rows.take i).flatten
    have hr0 : 0 < (rd_L1 rows (i : Int)).length := Nat.pos_of_ne_zero (fun k => hne _ (rdL2_mem hi) (List.eq_nil_of_length_eq_zero k))
    refine Ev.step (fun k => spec_l7Low.l0.eq_2 _ _ _ _ k) (Ev.pos (by omega) ?_)
    refine low_1 rows den hR i hi _ g.natAbs (by omega) (by omega) ?_ (rd_L1 rows (i : Int)).length 0 g (by omega) (by omega) (by omega) (by simp) (.inr hr0)
    refine ih (i + 1) _ (by omega) ?_ (.inl (by omega))
    rw [show ((gcdL g.natAbs (rd_L1 rows (i : Int)) : Nat) : Int).natAbs = gcdL g.natAbs (rd_L1 rows (i : Int)) from rfl, he, ← gcdL_app, take_s hi, List.flatten_append, rdL2_at hi]; simp
end
theorem l7Low_ev (rows : List (List Int)) (den : Int) (hR : RowsB rows) (hd : den ≠ 0) (hd1 : -9000000000000000000 ≤ den ∧ den ≤ 9000000000000000000) (hne : ∀ r ∈ rows, r ≠ []) (h1 : 1 ≤ rows.length) :
    Ev (fun k => spec_l7Low.f k rows den) (lowR rows den, Int.tdiv den (lowD rows den)) := by
  unfold spec_l7Low.f
  exact low_0 rows den hR hd hd1 hne rows.length 0 den (by omega) (by rw [gcdL_cons, Nat.gcd_zero_left]; simp [gcdL]) (.inr (by omega))
theorem lowAsk_ev (form : List Int) (rows : List (List Int)) (den : Int) (hn : form.length ≤ 1000000) (hR : RowsB rows) (hd : den ≠ 0) (hd1 : -9000000000000000000 ≤ den ∧ den ≤ 9000000000000000000) (hne : ∀ r ∈ rows, r ≠ []) (h1 : 1 ≤ rows.length) :
    Ev (fun k => (spec_l7Low.f k rows den).bind fun b => ((spec_MoveValid.f k form b.1 b.2).bind fun t => (if t = true then (some (b.1, b.2, true)) else (some (([] : List (List Int)), 0, false))))) (lowB form rows den) := by
  refine Ev.bind (l7Low_ev rows den hR hd hd1 hne h1) (Ev.bind (sMoveValid_ev form (lowR rows den) (Int.tdiv den (lowD rows den)) hn ⟨by unfold lowR; rw [List.length_map]; exact hR.1, fun r hr => ?_⟩) ?_)
  · unfold lowR at hr
    obtain ⟨s, hs, rfl⟩ := List.mem_map.1 hr
    rw [List.length_map]; exact (hR.2 s hs).1
  · unfold lowB
    by_cases h : mvB form (lowR rows den) (Int.tdiv den (lowD rows den)) = true
    · exact Ev.pos h (Ev.nows (if_pos h).symm)
    · exact Ev.neg h (Ev.nows (if_neg h).symm)
section
variable (form w : List Int) (hf : fOk form = true) (h3 : form.length ≤ 3) (hw : vOk form.length 1000 w = true)
include hf h3 hw
theorem sMirror_1 (i : Nat) (hi : i < form.length) (out : List (List Int)) (ho : out.length ≤ 1000) (R : List (List Int) × Int × Bool)
    (hR : Ev (fun n => spec_MoveMirror.l0 n form w (dot3 form w w) (out ++ [(List.range form.length).map (mirF form w i)]) (wrap64 ((i : Int) + 1))) R) :
    ∀ (m k : Nat), k + m = form.length → Ev (fun n => spec_MoveMirror.l1 n form w (dot3 form w w) out (i : Int) ((List.range k).map (mirF form w i)) (k : Int)) R := by
  intro m
  have hq := mir_q form w hf h3 hw
  have hwl := vOk_len hw
  induction m with
  | zero =>
    intro k h
    obtain rfl : k = form.length := by omega
    exact Ev.step (fun k => spec_MoveMirror.l1.eq_2 _ _ _ _ _ _ _ k) (Ev.neg (by omega) (Ev.pos (by omega) hR))
  | succ m ih =>
    intro k h
    have := ih (k + 1) (by omega)
    rw [range_s] at this
    have hc : ((List.range k).map (mirF form w i)).length = k := by rw [List.length_map, List.length_range]
    have hfb : ∀ x ∈ form, -31 ≤ x ∧ x ≤ 31 := fun x hx => by have := fOk_mem hf x hx; omega
    have b1 := hfb _ (rd_mem (show k < form.length by omega))
    have b2 := vOk_mem hw _ (rd_mem (show k < w.length by omega))
    have b3 := vOk_mem hw _ (rd_mem (show i < w.length by omega))
    have b := mul3_bd b1 b2 b3 (by omega) (by omega)
    have e1 : 2 * rd form (k : Int) * rd w (k : Int) = 2 * (rd form (k : Int) * rd w (k : Int)) := Int.mul_assoc _ _ _
    have e2 : 2 * rd form (k : Int) * rd w (k : Int) * rd w (i : Int) = 2 * (rd form (k : Int) * rd w (k : Int) * rd w (i : Int)) := by rw [e1, Int.mul_assoc]
    have e3 : -2 * rd w (i : Int) * rd form (k : Int) * rd w (k : Int) = -(2 * rd form (k : Int) * rd w (k : Int) * rd w (i : Int)) := by grind
    refine Ev.step (fun k => spec_MoveMirror.l1.eq_2 _ _ _ _ _ _ _ k) (Ev.pos (by omega) (Ev.pos (by omega) (Ev.pos (by omega) (Ev.pos (by omega) (Ev.pos (by omega) ?_)))))
    rw [w64s (by omega), w64 (a := 2 * rd form (k : Int)) (by omega) (by omega), w64 (a := 2 * rd form (k : Int) * rd w (k : Int)) (by omega) (by omega), w64 (a := 2 * rd form (k : Int) * rd w (k : Int) * rd w (i : Int)) (by omega) (by omega), w64 (a := -(2 * rd form (k : Int) * rd w (k : Int) * rd w (i : Int))) (by omega) (by omega)]
    by_cases hik : i = k
    · rw [show mirF form w i k = -(2 * rd form (k : Int) * rd w (k : Int) * rd w (i : Int)) + dot3 form w w by unfold mirF; rw [if_pos hik, e3]] at this
      refine Ev.pos (by omega) (Ev.pos (by omega) ?_)
      rw [w64 (a := -(2 * rd form (k : Int) * rd w (k : Int) * rd w (i : Int)) + dot3 form w w) (by omega) (by omega)]
      exact this
    · rw [show mirF form w i k = -(2 * rd form (k : Int) * rd w (k : Int) * rd w (i : Int)) by unfold mirF; rw [if_neg hik, Int.add_zero, e3]] at this
      exact Ev.neg (by omega) (Ev.pos (by omega) this)
theorem sMirror_0 (h0 : dot3 form w w ≠ 0) : ∀ (m i : Nat), i + m = form.length →
    Ev (fun n => spec_MoveMirror.l0 n form w (dot3 form w w) ((List.range i).map fun i => (List.range form.length).map (mirF form w i)) (i : Int)) (lowB form (mirR form w) (dot3 form w w)) := by
  intro m
  have hq := mir_q form w hf h3 hw
  have hn := fOk_len hf
  induction m with
  | zero =>
    intro i h
    obtain rfl : i = form.length := by omega
    refine Ev.step (fun k => spec_MoveMirror.l0.eq_2 _ _ _ _ _ k) (Ev.neg (by omega) ?_)
    refine lowAsk_ev form (mirR form w) _ (by omega) ?_ h0 (by omega) (fun r hr => ?_) (by unfold mirR; rw [mat_len]; omega)
    · refine mat_tame _ _ h3 (fun i k hi hk => ?_)
      have hb := mir_b form w hf hw i k hi hk
      unfold mirF; split <;> omega
    · exact mat_ne _ _ (by omega) r hr
  | succ m ih =>
    intro i h
    refine Ev.step (fun k => spec_MoveMirror.l0.eq_2 _ _ _ _ _ k) (Ev.pos (by omega) ?_)
    have := sMirror_1 form w hf h3 hw i (by omega) ((List.range i).map fun i => (List.range form.length).map (mirF form w i)) (by simp; omega) (lowB form (mirR form w) (dot3 form w w)) (by
      rw [w64s (by omega)]
      have := ih (i + 1) (by omega)
      rw [range_s] at this; exact this) form.length 0 (by omega)
    simpa using this
end
theorem sMirror_ev (form w : List Int) (hn : form.length ≤ 1000000) (hwl : w.length ≤ 1000000) : Ev (fun k => spec_MoveMirror.f k form w) (mirB form w) := by
  have bad : ¬ (fOk form = true ∧ form.length ≤ 3 ∧ vOk form.length 1000 w = true ∧ dot3 form w w ≠ 0) → Ev (fun k => spec_MoveMirror.j0 k form w true) (mirB form w) := by
    intro h
    refine Ev.step (fun k => spec_MoveMirror.j0.eq_2 _ _ _ k) (Ev.pos rfl (Ev.nows ?_))
    unfold mirB
    exact (if_neg h).symm
  unfold spec_MoveMirror.f
  refine Ev.bind (l7Form_ev form hn) ?_
  by_cases hf : fOk form = true ∧ form.length ≤ 3
  · refine Ev.pos (decide_eq_true hf) (Ev.bind (l4Vector_ev form w 1000 (by omega) (by omega) hn hwl) ?_)
    rw [hf.1, Bool.true_and]
    by_cases hw : vOk form.length 1000 w = true
    · have hfb : ∀ x ∈ form, -31 ≤ x ∧ x ≤ 31 := fun x hx => by have := fOk_mem hf.1 x hx; omega
      have hwb : ∀ x ∈ w, -1000000 ≤ x ∧ x ≤ 1000000 := fun x hx => by have := vOk_mem hw x hx; omega
      have hv := l4Value_ev form w (vOk_len hw) (by omega) hfb hwb
      refine Ev.pos hw (Ev.bind hv ?_)
      by_cases h0 : dot3 form w w = 0
      · rw [h0]; exact bad (fun k => k.2.2.2 h0)
      · rw [show ((dot3 form w w) == 0) = false by simpa using h0]
        refine Ev.step (fun k => spec_MoveMirror.j0.eq_2 _ _ _ k) (Ev.neg (by simp) (Ev.bind hv ?_))
        refine Ev.to (sMirror_0 form w hf.1 hf.2 hw h0 form.length 0 (by omega)) ?_
        unfold mirB; exact (if_pos ⟨hf.1, hf.2, hw, h0⟩).symm
    · exact Ev.neg hw (bad (fun k => hw k.2.2.1))
  · exact Ev.neg (by simpa using hf) (bad (fun k => hf ⟨k.1, k.2.1⟩))
section
variable (n : Nat) (h3 : n ≤ 3) (h1 : 1 ≤ n) (form : List Int) (hn : form.length = n) (A : List (List Int)) (B : List (List Int)) (hA : A.length = n) (hB : B.length = n) (rA : ∀ r ∈ A, vOk n 1000000 r = true) (rB : ∀ r ∈ B, vOk n 1000000 r = true) (da db : Int)
include h3 hA hB rA rB hn
theorem sMul_2 (i k : Nat) (hi : i < n) (hk : k < n) (out : List (List Int)) (row : List Int) (hx : row.length ≤ 1000) (R : List (List Int) × Int × Bool)
    (hR : Ev (fun t => spec_MoveMul.l1 t form out (i : Int) (row ++ [mulF A B i k]) (wrap64 ((k : Int) + 1)) A da B db) R) :
    ∀ (m j : Nat) (s : Int), j + m = n → -(1000000000000 * (j : Int)) ≤ s → s ≤ 1000000000000 * (j : Int) → s + dot2 ((A.getD i []).drop j) ((colL B k).drop j) = mulF A B i k →
      Ev (fun t => spec_MoveMul.l2 t form out (i : Int) row (k : Int) s (j : Int) A da B db) R := by
  intro m
  have hcl : (colL B k).length = n := by rw [colL_len, hB]
  have hr := rA _ (List.getElem_mem (show i < A.length by omega))
  have hal : (A.getD i []).length = n := by rw [getD_at (by omega), vOk_len hr]
  have e1 : rd_L1 A (i : Int) = A.getD i [] := by unfold rd_L1; simp
  induction m with
  | zero =>
    intro j s h _ _ he
    rw [dot2_nil (by omega), Int.add_zero] at he
    rw [he]
    exact Ev.step (fun k => spec_MoveMul.l2.eq_2 _ _ _ _ _ _ _ _ _ _ _ k) (Ev.neg (by omega) (Ev.pos (by omega) hR))
  | succ m ih =>
    intro j s h h1 h2 he
    have hjB : j < B.length := by omega
    have hrB := vOk_len (rB _ (List.getElem_mem hjB))
    have e2 : rd_L1 B (j : Int) = B[j] := rdL2_at hjB
    have e3 : rd (rd_L1 B (j : Int)) (k : Int) = rd (colL B k) (j : Int) := by
      rw [e2]; unfold colL
      rw [rd_at, rd_at, List.getD_eq_getElem?_getD, List.getD_eq_getElem?_getD, List.getElem?_map, List.getElem?_eq_getElem hjB]
      simp [rd_at]
    have b1 : -1000000 ≤ rd (A.getD i []) (j : Int) ∧ rd (A.getD i []) (j : Int) ≤ 1000000 := by rw [getD_at (by omega)]; exact vOk_mem hr _ (rd_mem (by rw [vOk_len hr]; omega))
    have b2 := col_mem rB hk _ (rd_mem (show j < (colL B k).length by omega))
    have c := mul2_bd b1 b2
    refine Ev.step (fun k => spec_MoveMul.l2.eq_2 _ _ _ _ _ _ _ _ _ _ _ k) (Ev.pos (by omega) (Ev.pos (by omega) (Ev.pos (by omega) (Ev.pos (by omega) (Ev.pos (by rw [e1]; omega) (Ev.pos (by omega) (Ev.pos (by omega) (Ev.pos (by rw [e2]; omega) ?_))))))))
    rw [e3, e1, w64s (by omega), w64 (a := rd (A.getD i []) (j : Int) * _) (by omega) (by omega), w64 (a := s + _) (by omega) (by omega)]
    refine ih (j + 1) _ (by omega) (by omega) (by omega) ?_
    rw [← he, dot2_drop (show j < (A.getD i []).length by omega) (by omega)]; omega
theorem sMul_1 (i : Nat) (hi : i < n) (out : List (List Int)) (ho : out.length ≤ 1000) (R : List (List Int) × Int × Bool)
    (hR : Ev (fun t => spec_MoveMul.l0 t form (out ++ [(List.range n).map (mulF A B i)]) (wrap64 ((i : Int) + 1)) A da B db) R) :
    ∀ (m k : Nat), k + m = n → Ev (fun t => spec_MoveMul.l1 t form out (i : Int) ((List.range k).map (mulF A B i)) (k : Int) A da B db) R := by
  intro m
  induction m with
  | zero =>
    intro k h
    obtain rfl : k = n := by omega
    exact Ev.step (fun k => spec_MoveMul.l1.eq_2 _ _ _ _ _ _ _ _ _ k) (Ev.neg (by omega) (Ev.pos (by omega) hR))
  | succ m ih =>
    intro k h
    have := ih (k + 1) (by omega)
    rw [range_s] at this
    refine Ev.step (fun k => spec_MoveMul.l1.eq_2 _ _ _ _ _ _ _ _ _ k) (Ev.pos (by omega) ?_)
    exact sMul_2 n h3 form hn A B hA hB rA rB da db i k hi (by omega) out _ (by simp; omega) R (by rw [w64s (by omega)]; exact this) n 0 0 (by omega) (by omega) (by omega) (by unfold mulF; simp)
include h1
theorem sMul_0 (od : Int) (ho : wrap64 (da * db) = od) (hd : od ≠ 0) (hd1 : -9000000000000000000 ≤ od ∧ od ≤ 9000000000000000000) : ∀ (m i : Nat), i + m = n →
    Ev (fun t => spec_MoveMul.l0 t form ((List.range i).map fun i => (List.range n).map (mulF A B i)) (i : Int) A da B db) (lowB form (mulR n A B) od) := by
  intro m
  induction m with
  | zero =>
    intro i h
    obtain rfl : i = n := by omega
    refine Ev.step (fun k => spec_MoveMul.l0.eq_2 _ _ _ _ _ _ _ k) (Ev.neg (by omega) ?_)
    rw [ho]
    refine lowAsk_ev form (mulR i A B) _ (by omega) ?_ hd hd1 (fun r hr => ?_) (by unfold mulR; rw [mat_len]; omega)
    · refine mat_tame _ _ h3 (fun a b ha hb => ?_)
      have := mulF_bd i h3 A B hA hB rA rB a b ha hb
      omega
    · exact mat_ne _ _ (by omega) r hr
  | succ m ih =>
    intro i h
    have hl : ((List.range i).map fun i => (List.range n).map (mulF A B i)).length = i := by rw [List.length_map, List.length_range]
    refine Ev.step (fun k => spec_MoveMul.l0.eq_2 _ _ _ _ _ _ _ k) (Ev.pos (by omega) ?_)
    have := sMul_1 n h3 form hn A B hA hB rA rB da db i (by omega) ((List.range i).map fun i => (List.range n).map (mulF A B i)) (by omega) (lowB form (mulR n A B) od) (by
      rw [w64s (by omega)]
      have := ih (i + 1) (by omega)
      rw [range_s] at this; exact this) n 0 (by omega)
    simpa using this
end
theorem sMul_ev (form : List Int) (A : List (List Int)) (da : Int) (B : List (List Int)) (db : Int) (hn : form.length ≤ 1000000) (hA : RowsOk A) (hB : RowsOk B) : Ev (fun k => spec_MoveMul.f k form A da B db) (mulB form A da B db) := by
  unfold spec_MoveMul.f
  refine Ev.bind (sMoveValid_ev form A da hn hA) ?_
  have bad : ¬ (mvB form A da = true ∧ mvB form B db = true) → Ev (fun k => spec_MoveMul.j0 k form true A da B db) (mulB form A da B db) := by
    intro h
    refine Ev.step (fun k => spec_MoveMul.j0.eq_2 _ _ _ _ _ _ k) (Ev.pos rfl (Ev.nows ?_))
    unfold mulB; exact (if_neg h).symm
  by_cases h1 : mvB form A da = true
  · refine Ev.pos h1 (Ev.bind (sMoveValid_ev form B db hn hB) ?_)
    by_cases h2 : mvB form B db = true
    · rw [h2]
      obtain ⟨hf, h3, hl, hd, hr, _⟩ := mvB_of h1
      obtain ⟨_, _, hl2, hd2, hr2, _⟩ := mvB_of h2
      have c := mul2_bd (a := da) (b := db) (A := 10000) (B := 10000) (by omega) (by omega)
      have cp : 0 < da * db := Int.mul_pos (by omega) (by omega)
      refine Ev.step (fun k => spec_MoveMul.j0.eq_2 _ _ _ _ _ _ k) (Ev.neg (by simp) ?_)
      have := sMul_0 form.length h3 (fOk_len hf).1 form rfl A B hl hl2 hr hr2 da db (da * db) (w64 (by omega) (by omega)) (by omega) (by omega) form.length 0 (by omega)
      refine Ev.to this ?_
      unfold mulB; exact (if_pos ⟨h1, h2⟩).symm
    · rw [show mvB form B db = false by simpa using h2]; exact bad (fun k => h2 k.2)
  · exact Ev.neg h1 (bad (fun k => h1 k.1))
theorem sOf_l (form : List Int) (list : List (List Int)) (hn : form.length ≤ 1000000) (hl : list.length ≤ 1000) (hr : ∀ w ∈ list, w.length ≤ 1000) : ∀ (m i : Nat) (A : List (List Int)) (d : Int), i + m = list.length → RowsOk A →
    Ev (fun k => spec_MoveOf.l0 k form list (i : Int) A d) (ofGo form (list.drop i) A d) := by
  intro m
  induction m with
  | zero =>
    intro i A d h hA
    refine Ev.step (fun k => spec_MoveOf.l0.eq_2 _ _ _ _ _ k) (Ev.neg (by omega) (Ev.nows ?_))
    rw [List.drop_of_length_le (by omega)]; rfl
  | succ m ih =>
    intro i A d h hA
    have hi : i < list.length := by omega
    have e : list.drop i = rd_L1 list (i : Int) :: list.drop (i + 1) := by rw [List.drop_eq_getElem_cons hi, rdL2_at hi]
    rw [e]
    refine Ev.step (fun k => spec_MoveOf.l0.eq_2 _ _ _ _ _ k) (Ev.pos (by omega) (Ev.pos (by omega) (Ev.bind (sMirror_ev form _ hn (by have := hr _ (rdL2_mem hi); omega)) ?_)))
    unfold ofGo
    by_cases h1 : (mirB form (rd_L1 list (i : Int))).2.2 = true
    · rw [if_pos h1]
      refine Ev.pos h1 (Ev.bind (sMul_ev form A d _ _ hn hA (mirB_rows form _)) ?_)
      by_cases h2 : (mulB form A d (mirB form (rd_L1 list (i : Int))).1 (mirB form (rd_L1 list (i : Int))).2.1).2.2 = true
      · rw [if_pos h2]
        refine Ev.pos h2 ?_
        rw [w64s (by omega)]
        exact ih (i + 1) _ _ (by omega) (mulB_rows _ _ _ _ _)
      · rw [if_neg h2]; exact Ev.neg h2 (Ev.now _)
    · rw [if_neg h1]; exact Ev.neg h1 (Ev.now _)
theorem sOf_ev (form : List Int) (list : List (List Int)) (hn : form.length ≤ 1000000) (hl : list.length ≤ 1000) (hr : ∀ w ∈ list, w.length ≤ 1000) : Ev (fun k => spec_MoveOf.f k form list) (ofB form list) := by
  have bad : ¬ (fOk form = true ∧ form.length ≤ 3 ∧ list.length ≤ 6) → Ev (fun k => spec_MoveOf.j0 k form list true) (ofB form list) := by
    intro h
    refine Ev.step (fun k => spec_MoveOf.j0.eq_2 _ _ _ k) (Ev.pos rfl (Ev.nows ?_))
    unfold ofB
    exact (if_neg h).symm
  unfold spec_MoveOf.f
  refine Ev.bind (l7Form_ev form hn) ?_
  by_cases hf : fOk form = true ∧ form.length ≤ 3
  · refine Ev.pos (decide_eq_true hf) ?_
    by_cases h6 : list.length ≤ 6
    · rw [decide_eq_false (by omega)]
      refine Ev.step (fun k => spec_MoveOf.j0.eq_2 _ _ _ k) (Ev.neg (by simp) (Ev.bind (sStay_ev form.length (by omega)) ?_))
      refine Ev.to (sOf_l form list hn hl hr list.length 0 _ _ (by omega) ?_) ?_
      · refine ⟨by unfold stayR; rw [mat_len]; omega, fun r hr => ?_⟩
        obtain ⟨i, _, rfl⟩ := mat_rows _ _ r hr
        simp; omega
      · unfold ofB; rw [if_pos ⟨hf.1, hf.2, h6⟩]; rfl
    · rw [decide_eq_true (by omega)]; exact bad (fun k => h6 k.2.2)
  · exact Ev.neg (by simpa using hf) (bad (fun k => hf ⟨k.1, k.2.1⟩))
theorem iOf_no (form : List Int) (list : List (List Int)) (ht : Tame form) (hl : list.length ≤ 1000) (hr : ∀ w ∈ list, w.length ≤ 1000) (A : List (List Int)) (d : Int) : ∀ (m i : Nat), i + m = list.length →
    Ev (fun k => impl_MoveOf.l0 k form false list (list.length : Int) (i : Int) A d) ([], 0, false) := by
  intro m i h
  rcases Nat.lt_or_ge i list.length with hi | hi
  · exact Ev.step (fun k => impl_MoveOf.l0.eq_2 _ _ _ _ _ _ _ k) (Ev.pos (by omega) (Ev.pos (by omega) (Ev.pos (by omega) (Ev.bind (iMirror_ev form _ ht (hr _ (rdL2_mem hi))) (Ev.neg (by simp) (Ev.now _))))))
  · exact Ev.step (fun k => impl_MoveOf.l0.eq_2 _ _ _ _ _ _ _ k) (Ev.neg (by omega) (Ev.neg (by simp) (Ev.now _)))
theorem iOf_l (form : List Int) (list : List (List Int)) (ht : Tame form) (hl : list.length ≤ 1000) (hr : ∀ w ∈ list, w.length ≤ 1000) : ∀ (m i : Nat) (A : List (List Int)) (d : Int), i + m = list.length → RowsOk A →
    Ev (fun k => impl_MoveOf.l0 k form true list (list.length : Int) (i : Int) A d) (ofGo form (list.drop i) A d) := by
  intro m
  induction m with
  | zero =>
    intro i A d h hA
    refine Ev.step (fun k => impl_MoveOf.l0.eq_2 _ _ _ _ _ _ _ k) (Ev.neg (by omega) (Ev.pos rfl (Ev.nows ?_)))
    rw [List.drop_of_length_le (by omega)]; rfl
  | succ m ih =>
    intro i A d h hA
    have hi : i < list.length := by omega
    have e : list.drop i = rd_L1 list (i : Int) :: list.drop (i + 1) := by rw [List.drop_eq_getElem_cons hi, rdL2_at hi]
    rw [e]
    refine Ev.step (fun k => impl_MoveOf.l0.eq_2 _ _ _ _ _ _ _ k) (Ev.pos (by omega) (Ev.pos (by omega) (Ev.pos (by omega) (Ev.bind (iMirror_ev form _ ht (hr _ (rdL2_mem hi))) (Ev.pos rfl ?_)))))
    unfold ofGo
    by_cases h1 : (mirB form (rd_L1 list (i : Int))).2.2 = true
    · rw [if_pos h1]
      refine Ev.pos h1 (Ev.bind (iMul_ev form A d _ _ ht hA (mirB_rows form _)) ?_)
      rw [w64s (by omega)]
      by_cases h2 : (mulB form A d (mirB form (rd_L1 list (i : Int))).1 (mirB form (rd_L1 list (i : Int))).2.1).2.2 = true
      · rw [if_pos h2]
        rw [h2]
        exact ih (i + 1) _ _ (by omega) (mulB_rows _ _ _ _ _)
      · rw [if_neg h2]
        rw [show (mulB form A d (mirB form (rd_L1 list (i : Int))).1 (mirB form (rd_L1 list (i : Int))).2.1).2.2 = false by simpa using h2]
        exact iOf_no form list ht hl hr _ _ m (i + 1) (by omega)
    · rw [if_neg h1]; exact Ev.neg h1 (Ev.now _)
theorem iOf_ev (form : List Int) (list : List (List Int)) (ht : Tame form) (hl : list.length ≤ 1000) (hr : ∀ w ∈ list, w.length ≤ 1000) : Ev (fun k => impl_MoveOf.f k form list) (ofB form list) := by
  have hn := ht.1
  unfold impl_MoveOf.f
  by_cases h6 : (list.length : Int) > 6
  · refine Ev.pos h6 (Ev.nows ?_)
    unfold ofB; rw [if_neg (fun k => by omega)]
  · refine Ev.neg h6 (Ev.bind (iMoveStay_ev form ht) ?_)
    by_cases hf : fOk form = true ∧ form.length ≤ 3
    · rw [show stayB form = (stayR form.length, 1, true) by unfold stayB; exact if_pos hf]
      refine Ev.to (iOf_l form list ht hl hr list.length 0 _ _ (by omega) (mvB_rows (stay_valid form hf.1 hf.2))) ?_
      unfold ofB; rw [if_pos ⟨hf.1, hf.2, by omega⟩]; rfl
    · rw [show stayB form = ([], 0, false) by unfold stayB; exact if_neg hf]
      refine Ev.to (iOf_no form list ht hl hr _ _ list.length 0 (by omega)) ?_
      unfold ofB; rw [if_neg (fun k => hf ⟨k.1, k.2.1⟩)]
section
variable (n : Nat) (h3 : n ≤ 3) (A : List (List Int)) (hA : A.length = n) (rA : ∀ r ∈ A, vOk n 1000000 r = true) (da : Int) (v : List Int) (hv : vOk n 1000 v = true)
include h3 hA rA hv
theorem l7On_1 (i : Nat) (hi : i < n) (out : List Int) (ho : out.length ≤ 1000) (R : List Int)
    (hR : Ev (fun k => spec_l7On.l0 k v (out ++ [dot2 (A.getD i []) v]) ((i + 1 : Nat) : Int) A da) R) :
    ∀ (m j : Nat) (s : Int), j + m = n → -(1000000000 * (j : Int)) ≤ s → s ≤ 1000000000 * (j : Int) → s + dot2 ((A.getD i []).drop j) (v.drop j) = dot2 (A.getD i []) v →
      Ev (fun k => spec_l7On.l1 k v out (i : Int) s (j : Int) A da) R := by
  have hr := rA _ (List.getElem_mem (show i < A.length by omega))
  have hal : (A.getD i []).length = n := by rw [getD_at (by omega), vOk_len hr]
  have hvl := vOk_len hv
  have e : rd_L1 A (i : Int) = A.getD i [] := by unfold rd_L1; simp
  intro m
  induction m with
  | zero =>
    intro j s h _ _ he
    rw [dot2_nil (by omega), Int.add_zero] at he
    refine Ev.step (fun k => spec_l7On.l1.eq_2 _ _ _ _ _ _ _ k) (Ev.neg (by omega) (Ev.pos (by omega) ?_))
    rw [he, w64s (by omega)]; exact hR
  | succ m ih =>
    intro j s h h1 h2 he
    have b1 : -1000000 ≤ rd (A.getD i []) (j : Int) ∧ rd (A.getD i []) (j : Int) ≤ 1000000 := by rw [getD_at (by omega)]; exact vOk_mem hr _ (rd_mem (by rw [vOk_len hr]; omega))
    have c := mul2_bd b1 (vOk_mem hv _ (rd_mem (show j < v.length by omega)))
    refine Ev.step (fun k => spec_l7On.l1.eq_2 _ _ _ _ _ _ _ k) (Ev.pos (by omega) (Ev.pos (by omega) (Ev.pos (by omega) (Ev.pos (by omega) (Ev.pos (by rw [e]; omega) ?_)))))
    rw [e, w64s (by omega), w64 (a := rd (A.getD i []) (j : Int) * _) (by omega) (by omega), w64 (a := s + _) (by omega) (by omega)]
    refine ih (j + 1) _ (by omega) (by omega) (by omega) ?_
    rw [← he, dot2_drop (show j < (A.getD i []).length by omega) (by omega)]; omega
theorem l7On_0 : ∀ (m i : Nat), i + m = n → Ev (fun k => spec_l7On.l0 k v ((onR A v).take i) (i : Int) A da) (onR A v) := by
  have hl : (onR A v).length = n := by unfold onR; rw [List.length_map, hA]
  have hvl := vOk_len hv
  intro m
  induction m with
  | zero =>
    intro i h
    refine Ev.step (fun k => spec_l7On.l0.eq_2 _ _ _ _ _ k) (Ev.neg (by omega) (Ev.nows ?_))
    exact List.take_of_length_le (by omega)
  | succ m ih =>
    intro i h
    have hi : i < A.length := by omega
    have hc : ((onR A v).take i).length = i := by rw [List.length_take]; omega
    refine Ev.step (fun k => spec_l7On.l0.eq_2 _ _ _ _ _ k) (Ev.pos (by omega) ?_)
    refine l7On_1 n h3 A hA rA da v hv i (by omega) _ (by omega) _ ?_ n 0 0 (by omega) (by omega) (by omega) (by simp)
    have e2 : (onR A v).take i ++ [dot2 (A.getD i []) v] = (onR A v).take (i + 1) := by
      rw [take_s (show i < (onR A v).length by omega), getD_at hi]
      congr 1
      unfold onR; simp
    rw [e2]
    exact ih (i + 1) (by omega)
theorem l7On_ev : Ev (fun k => spec_l7On.f k A da v) (onR A v) := by
  unfold spec_l7On.f
  exact l7On_0 n h3 A hA rA da v hv n 0 (by omega)
end
theorem pick_ev {s : List Int} (hs : IsCode s) (p n : Nat) (hp : p ≤ 20000000000000000) (hn : 1 ≤ n) : Ev (fun k => spec_l6Rd_pick.f k s (p : Int) (n : Int)) ((pickv s p n : Int), ((p + 1 : Nat) : Int)) := by
  unfold spec_l6Rd_pick.f
  rw [w64s (by omega)]
  refine Ev.neg (by omega) (Ev.step (fun k => spec_l6Rd_pick.j0.eq_2 _ _ _ _ k) ?_)
  have hl := hs.1
  by_cases h0 : s.length = 0
  · exact Ev.pos (by simp [h0]) (Ev.nows (by unfold pickv; rw [if_pos h0]; rfl))
  · refine Ev.neg (by simp; simpa using h0) ?_
    rw [show ((p + 1 : Nat) : Int) - 1 = (p : Int) by omega, w64 (a := (p : Int)) (by omega) (by omega)]
    by_cases h1 : p < s.length
    · refine Ev.pos (by omega) (Ev.pos (by omega) (Ev.neg (by omega) (Ev.nows ?_)))
      have hb := code_at hs p
      unfold pickv
      rw [if_neg h0, if_pos h1, rd_at, w64 (by omega) (by omega), Int.tmod_eq_emod_of_nonneg hb.1, Int.natCast_emod, Int.toNat_of_nonneg hb.1]
    · refine Ev.neg (by omega) (Ev.neg (by omega) ?_)
      have e1 : Int.tmod (p : Int) (s.length : Int) = ((p % s.length : Nat) : Int) := by rw [Int.tmod_eq_emod_of_nonneg (by omega)]; rfl
      have e2 : Int.tmod (wrap64 (wrap64 ((p : Int) * 7) + 3)) (s.length : Int) = (((p * 7 + 3) % s.length : Nat) : Int) := by
        rw [w64 (a := (p : Int) * 7) (by omega) (by omega), w64 (by omega) (by omega), Int.tmod_eq_emod_of_nonneg (by omega)]; rfl
      have m1 : p % s.length < s.length := Nat.mod_lt _ (by omega)
      have m2 : (p * 7 + 3) % s.length < s.length := Nat.mod_lt _ (by omega)
      rw [e1, e2]
      refine Ev.pos (by omega) (Ev.pos (by omega) (Ev.pos (by omega) (Ev.pos (by omega) (Ev.neg (by omega) (Ev.nows ?_)))))
      have hb1 := code_at hs (p % s.length)
      have hb2 := code_at hs ((p * 7 + 3) % s.length)
      have hd : p / s.length ≤ p := Nat.div_le_self _ _
      have e3 : wrap64 (Int.tdiv (p : Int) (s.length : Int)) = ((p / s.length : Nat) : Int) := by
        rw [Int.tdiv_eq_ediv_of_nonneg (by omega), show (p : Int) / (s.length : Int) = ((p / s.length : Nat) : Int) from rfl]
        generalize p / s.length = q at *
        exact w64 (by omega) (by omega)
      have hm := mixed_le hs p
      have e4 : wrap64 ((wrap64 ((wrap64 ((wrap64 ((wrap64 (rd s ((p % s.length : Nat) : Int))) * 131)) + (wrap64 ((wrap64 (rd s (((p * 7 + 3) % s.length : Nat) : Int))) * 1117)))) + (wrap64 ((p : Int) * 29)))) + (wrap64 ((wrap64 (Int.tdiv (p : Int) (s.length : Int))) * 53))) = ((mixed s p : Nat) : Int) := by
        rw [e3, rd_at, rd_at, mix_wrap (s.getD (p % s.length) 0) (s.getD ((p * 7 + 3) % s.length) 0) (p : Int) ((p / s.length : Nat) : Int) hb1.1 hb1.2 hb2.1 hb2.2 (Int.natCast_nonneg _) (Int.ofNat_le.2 hp) (Int.natCast_nonneg _) (Int.ofNat_le.2 hd)]
        exact (mixed_int hs p).symm
      rw [e4]
      have e5 : wrap64 (Int.tdiv ((mixed s p : Nat) : Int) 64) = ((mixed s p / 64 : Nat) : Int) := by
        generalize mixed s p = M at *
        rw [Int.tdiv_eq_ediv_of_nonneg (by omega)]; exact w64 (by omega) (by omega)
      rw [e5, xor_i64 _ _ (by omega) (by omega), Int.tmod_eq_emod_of_nonneg (by omega)]
      unfold pickv
      rw [if_neg h0, if_neg h1]
      rfl
theorem pick_ev' {s : List Int} (hs : IsCode s) (p : Nat) (n : Int) (hp : p ≤ 20000000000000000) (hn : 1 ≤ n) : ∃ r : Int, 0 ≤ r ∧ r < n ∧ Ev (fun k => spec_l6Rd_pick.f k s (p : Int) n) (r, ((p + 1 : Nat) : Int)) := by
  obtain ⟨m, rfl⟩ : ∃ m : Nat, n = m := ⟨n.toNat, by omega⟩
  have h := pickv_lt s p (n := m) (by omega)
  exact ⟨_, by omega, by omega, pick_ev hs p m hp (by omega)⟩
theorem open_ev {l : List Int} (hw : ∀ x ∈ l, (Lit.int .u8 x).wf = true) : ∃ s, IsCode s ∧ spec_l6Open.f l = some (s, 0) := by
  have hb : ∀ x ∈ l, 0 ≤ x ∧ x ≤ 255 := fun x hx => by
    have := hw x hx
    simp [Lit.wf, IntKind.min, IntKind.max, IntKind.signed, IntKind.bits] at this; omega
  unfold spec_l6Open.f
  by_cases h : (l.length : Int) > 2000
  · rw [if_pos h, if_pos (by omega)]
    exact ⟨l.take 2000, ⟨by rw [List.length_take]; omega, fun x hx => hb x (List.mem_of_mem_take hx)⟩, rfl⟩
  · rw [if_neg h]
    exact ⟨l, ⟨by omega, hb⟩, rfl⟩
def Drawn (form : List Int) : Prop := form.length ≤ 4 ∧ ∀ x ∈ form, -31 ≤ x ∧ x ≤ 31
theorem l91Form_l {s : List Int} (hs : IsCode s) : ∀ (m i n : Nat) (x : List Int) (p : Nat), i + m = n → 1 ≤ n → n ≤ 4 → x.length = i → (∀ y ∈ x, -31 ≤ y ∧ y ≤ 31) → p + 2 * m ≤ 1000100 →
    ∃ form : List Int, ∃ q : Nat, Drawn form ∧ q ≤ 1000200 ∧ Ev (fun k => spec_l91Form.l0 k x (n : Int) (i : Int) s (p : Int)) (form, (q : Int)) := by
  intro m
  induction m with
  | zero =>
    intro i n x p h h1 h4 hx hb hp
    obtain ⟨a, a0, a1, ha⟩ := pick_ev' hs p 40 (by omega) (by omega)
    by_cases e0 : a = 0
    · obtain ⟨b, b0, b1, hb2⟩ := pick_ev' hs (p + 1) 2 (by omega) (by omega)
      refine ⟨x.set 0 (rd ([0, 31] : List Int) b), p + 1 + 1, ⟨by rw [List.length_set]; omega, fun y hy => ?_⟩, by omega, Ev.step (fun k => spec_l91Form.l0.eq_2 _ _ _ _ _ k) (Ev.neg (by omega) (Ev.bind ha (Ev.pos e0 (Ev.bind0 rfl (Ev.bind hb2 (Ev.pos b0 (Ev.pos b1 (Ev.pos (by omega) (Ev.now _)))))))))⟩
      rcases List.mem_or_eq_of_mem_set hy with h5 | rfl
      · exact hb y h5
      · rcases (by omega : b = 0 ∨ b = 1) with rfl | rfl <;> decide
    · by_cases e1 : a = 1
      · exact ⟨[], p + 1, ⟨by simp, by simp⟩, by omega, Ev.step (fun k => spec_l91Form.l0.eq_2 _ _ _ _ _ k) (Ev.neg (by omega) (Ev.bind ha (Ev.neg e0 (Ev.pos e1 (Ev.now _)))))⟩
      · exact ⟨x, p + 1, ⟨by omega, hb⟩, by omega, Ev.step (fun k => spec_l91Form.l0.eq_2 _ _ _ _ _ k) (Ev.neg (by omega) (Ev.bind ha (Ev.neg e0 (Ev.neg e1 (Ev.now _)))))⟩
  | succ m ih =>
    intro i n x p h h1 h4 hx hb hp
    obtain ⟨a, a0, a1, ha⟩ := pick_ev' hs p 16 (by omega) (by omega)
    obtain ⟨b, b0, b1, hb2⟩ := pick_ev' hs (p + 1) 5 (by omega) (by omega)
    have hm : 1 ≤ rd ([1, 2, 3, 5, 6, 7, 1, 10, 12, 3, 15, 4, 21, 1, 30, 8] : List Int) a ∧ rd ([1, 2, 3, 5, 6, 7, 1, 10, 12, 3, 15, 4, 21, 1, 30, 8] : List Int) a ≤ 30 := by
      obtain ⟨c, rfl⟩ : ∃ c : Nat, a = c := ⟨a.toNat, by omega⟩
      have : ∀ y ∈ ([1, 2, 3, 5, 6, 7, 1, 10, 12, 3, 15, 4, 21, 1, 30, 8] : List Int), 1 ≤ y ∧ y ≤ 30 := by decide
      exact this _ (rd_mem (show c < 16 by omega))
    have next : ∀ y : Int, -31 ≤ y ∧ y ≤ 31 → ∃ form : List Int, ∃ q : Nat, Drawn form ∧ q ≤ 1000200 ∧ Ev (fun k => spec_l91Form.l0 k (x ++ [y]) (n : Int) (wrap64 ((i : Int) + 1)) s ((p + 1 + 1 : Nat) : Int)) (form, (q : Int)) := by
      intro y hy
      rw [w64s (by omega)]
      exact ih (i + 1) n (x ++ [y]) (p + 1 + 1) (by omega) h1 h4 (by rw [List.length_append]; simp only [List.length_cons, List.length_nil]; omega) (fun z hz => by
        rcases List.mem_append.1 hz with hz | hz
        · exact hb z hz
        · rw [List.mem_singleton.1 hz]; exact hy) (by omega)
    by_cases e : b < 2
    · obtain ⟨form, q, h5, h6, h7⟩ := next (wrap64 (-(rd ([1, 2, 3, 5, 6, 7, 1, 10, 12, 3, 15, 4, 21, 1, 30, 8] : List Int) a))) (by rw [w64 (by omega) (by omega)]; omega)
      exact ⟨form, q, h5, h6, Ev.step (fun k => spec_l91Form.l0.eq_2 _ _ _ _ _ k) (Ev.pos (by omega) (Ev.bind0 rfl (Ev.bind ha (Ev.pos a0 (Ev.pos a1 (Ev.bind hb2 (Ev.pos e (Ev.pos (by omega) h7))))))))⟩
    · obtain ⟨form, q, h5, h6, h7⟩ := next (rd ([1, 2, 3, 5, 6, 7, 1, 10, 12, 3, 15, 4, 21, 1, 30, 8] : List Int) a) (by omega)
      exact ⟨form, q, h5, h6, Ev.step (fun k => spec_l91Form.l0.eq_2 _ _ _ _ _ k) (Ev.pos (by omega) (Ev.bind0 rfl (Ev.bind ha (Ev.pos a0 (Ev.pos a1 (Ev.bind hb2 (Ev.neg e (Ev.pos (by omega) h7))))))))⟩
theorem l91Form_ev {s : List Int} (hs : IsCode s) (p : Nat) (hp : p ≤ 1000000) (a : Int) (h0 : 1 ≤ a) (h4 : a ≤ 4) : ∃ form : List Int, ∃ q : Nat, Drawn form ∧ q ≤ 1000200 ∧ Ev (fun k => spec_l91Form.f k s (p : Int) a) (form, (q : Int)) := by
  unfold spec_l91Form.f
  obtain ⟨x, x0, x1, hx⟩ := pick_ev' hs p a (by omega) (by omega)
  obtain ⟨n, hn⟩ : ∃ n : Nat, 1 + x = n := ⟨(1 + x).toNat, by omega⟩
  obtain ⟨form, q, h5, h6, h7⟩ := l91Form_l hs n 0 n [] (p + 1) (by omega) (by omega) (by omega) rfl (by simp) (by omega)
  refine ⟨form, q, h5, h6, Ev.bind hx ?_⟩
  simp only
  rw [w64 (by omega) (by omega), hn]
  exact h7
theorem l91Vector_l {s : List Int} (hs : IsCode s) (form : List Int) (n : Int) (h0 : 0 ≤ n) (hn : n ≤ 1000) (hf : form.length ≤ 1000) : ∀ (m i : Nat) (x : List Int) (p : Nat), i + m = form.length → x.length = i → (∀ y ∈ x, -n ≤ y ∧ y ≤ n) → p ≤ 3000000 + i →
    ∃ v : List Int, v.length = form.length ∧ (∀ y ∈ v, -n ≤ y ∧ y ≤ n) ∧ Ev (fun k => spec_l91Vector.l0 k form n x (i : Int) s (p : Int)) (v, ((p + m : Nat) : Int)) := by
  intro m
  induction m with
  | zero =>
    intro i x p h hx hb hp
    exact ⟨x, by omega, hb, Ev.step (fun k => spec_l91Vector.l0.eq_2 _ _ _ _ _ _ k) (Ev.neg (by omega) (Ev.now _))⟩
  | succ m ih =>
    intro i x p h hx hb hp
    obtain ⟨a, a0, a1, ha⟩ := pick_ev' hs p (2 * n + 1) (by omega) (by omega)
    obtain ⟨v, h1, h2, h3⟩ := ih (i + 1) (x ++ [a - n]) (p + 1) (by omega) (by rw [List.length_append]; simp only [List.length_cons, List.length_nil]; omega) (fun z hz => by
      rcases List.mem_append.1 hz with hz | hz
      · exact hb z hz
      · rw [List.mem_singleton.1 hz]; omega) (by omega)
    refine ⟨v, h1, h2, Ev.step (fun k => spec_l91Vector.l0.eq_2 _ _ _ _ _ _ k) (Ev.pos (by omega) ?_)⟩
    rw [w64 (a := 2 * n) (by omega) (by omega), w64 (a := 2 * n + 1) (by omega) (by omega)]
    refine Ev.bind ha ?_
    simp only
    rw [w64s (by omega), w64 (a := a - n) (by omega) (by omega)]
    refine Ev.pos (by omega) (Ev.to h3 ?_)
    rw [show p + 1 + m = p + (m + 1) by omega]
theorem l91Vector_ev {s : List Int} (hs : IsCode s) (p : Nat) (hp : p ≤ 3000000) (form : List Int) (n : Int) (h0 : 0 ≤ n) (hn : n ≤ 1000) (hf : form.length ≤ 1000) :
    ∃ v : List Int, v.length = form.length ∧ (∀ y ∈ v, -n ≤ y ∧ y ≤ n) ∧ Ev (fun k => spec_l91Vector.f k s (p : Int) form n) (v, ((p + form.length : Nat) : Int)) := by
  unfold spec_l91Vector.f
  exact l91Vector_l hs form n h0 hn hf form.length 0 [] p (by omega) rfl (by simp) (by omega)
def Small (form : List Int) : Prop := form.length ≤ 5 ∧ ∀ x ∈ form, -31 ≤ x ∧ x ≤ 31
theorem small_tame {form : List Int} (h : Small form) : Tame form := ⟨by have := h.1; omega, fun x hx => by have := h.2 x hx; omega⟩
theorem l92Small_ev {s : List Int} (hs : IsCode s) (p : Nat) (hp : p ≤ 100) : ∃ form : List Int, ∃ q : Nat, Small form ∧ q ≤ 1000200 ∧ Ev (fun k => spec_l92Small.f k s (p : Int)) (form, (q : Int)) := by
  obtain ⟨x, x0, x1, hx⟩ := pick_ev' hs p 3 (by omega) (by omega)
  by_cases h : x = 0
  · obtain ⟨a, a0, a1, ha⟩ := pick_ev' hs (p + 1) 3 (by omega) (by omega)
    obtain ⟨b, b0, b1, hb⟩ := pick_ev' hs (p + 1 + 1) 3 (by omega) (by omega)
    refine ⟨(([1, 1, 1, -1, 2] : List Int).take (3 + b).toNat).drop a.toNat, p + 1 + 1 + 1, ⟨?_, fun y hy => ?_⟩, by omega, ?_⟩
    · rw [List.length_drop, List.length_take]; simp only [List.length_cons, List.length_nil]; omega
    · have : ∀ z ∈ ([1, 1, 1, -1, 2] : List Int), -31 ≤ z ∧ z ≤ 31 := by decide
      exact this y (List.mem_of_mem_take (List.mem_of_mem_drop hy))
    · unfold spec_l92Small.f
      refine Ev.bind hx (Ev.pos h (Ev.bind ha (Ev.bind hb (Ev.pos ⟨a0, by simp only; omega, b0, by simp only; omega⟩ (Ev.now _)))))
  · obtain ⟨form, q, h1, h2, h3⟩ := l91Form_ev hs (p + 1) (by omega) 3 (by omega) (by omega)
    refine ⟨form, q, ⟨by have := h1.1; omega, h1.2⟩, h2, ?_⟩
    unfold spec_l92Small.f
    exact Ev.bind hx (Ev.neg h h3)
theorem ofGo_den (form : List Int) : ∀ (l : List (List Int)) (A : List (List Int)) (d : Int), RowsOk A → 0 ≤ d → d ≤ 10000 → RowsOk (ofGo form l A d).1 ∧ 0 ≤ (ofGo form l A d).2.1 ∧ (ofGo form l A d).2.1 ≤ 10000
  | [], A, d, hA, h0, h1 => ⟨hA, h0, h1⟩
  | w :: ws, A, d, hA, h0, h1 => by
    have z : RowsOk ([] : List (List Int)) ∧ (0 : Int) ≤ 0 ∧ (0 : Int) ≤ 10000 := ⟨rows_nil, by omega, by omega⟩
    unfold ofGo
    by_cases e1 : (mirB form w).2.2 = true
    · rw [if_pos e1]
      by_cases e2 : (mulB form A d (mirB form w).1 (mirB form w).2.1).2.2 = true
      · rw [if_pos e2]
        refine ofGo_den form ws _ _ (mulB_rows _ _ _ _ _) ?_ ?_ <;> rcases mulB_cases form A d (mirB form w).1 (mirB form w).2.1 with h | h
        · rw [h]; decide
        · have := (mvB_of h.2).2.2.2.1; omega
        · rw [h]; decide
        · have := (mvB_of h.2).2.2.2.1; omega
      · rw [if_neg e2]; exact z
    · rw [if_neg e1]; exact z
theorem stayB_den (form : List Int) : RowsOk (stayB form).1 ∧ 0 ≤ (stayB form).2.1 ∧ (stayB form).2.1 ≤ 10000 := by
  unfold stayB
  split
  · next h =>
    refine ⟨⟨by unfold stayR; rw [mat_len]; omega, fun r hr => ?_⟩, by show (0 : Int) ≤ 1; decide, by show (1 : Int) ≤ 10000; decide⟩
    obtain ⟨i, _, rfl⟩ := mat_rows _ _ r hr
    simp; omega
  · exact ⟨rows_nil, by decide, by decide⟩
theorem ofB_den (form : List Int) (l : List (List Int)) : RowsOk (ofB form l).1 ∧ 0 ≤ (ofB form l).2.1 ∧ (ofB form l).2.1 ≤ 10000 := by
  unfold ofB
  split
  · next h =>
    refine ofGo_den form l _ _ ⟨by unfold stayR; rw [mat_len]; omega, fun r hr => ?_⟩ (by decide) (by decide)
    obtain ⟨i, _, rfl⟩ := mat_rows _ _ r hr
    simp; omega
  · exact ⟨rows_nil, by decide, by decide⟩
theorem l92Move_j {s : List Int} (hs : IsCode s) (p : Nat) (hp : p ≤ 2000000) (form : List Int) (A : List (List Int)) (d : Int) (h : RowsOk A ∧ 0 ≤ d ∧ d ≤ 10000) :
    ∃ (B : List (List Int)) (e : Int) (q : Nat), RowsOk B ∧ 0 ≤ e ∧ e ≤ 10001 ∧ q ≤ 2000001 ∧ Ev (fun k => spec_l92Move.j1 k form s (p : Int) A d) (form, B, e, (q : Int)) := by
  obtain ⟨a, a0, a1, ha⟩ := pick_ev' hs p 24 (by omega) (by omega)
  by_cases e0 : a = 0
  · exact ⟨A, wrap64 (d + 1), p + 1, h.1, by rw [w64 (by omega) (by omega)]; omega, by rw [w64 (by omega) (by omega)]; omega, by omega, Ev.step (fun k => spec_l92Move.j1.eq_2 _ _ _ _ _ k) (Ev.bind ha (Ev.pos e0 (Ev.now _)))⟩
  · by_cases e1 : a = 1
    · exact ⟨A, 0, p + 1, h.1, by omega, by omega, by omega, Ev.step (fun k => spec_l92Move.j1.eq_2 _ _ _ _ _ k) (Ev.bind ha (Ev.neg e0 (Ev.pos e1 (Ev.now _))))⟩
    · exact ⟨A, d, p + 1, h.1, by omega, by omega, by omega, Ev.step (fun k => spec_l92Move.j1.eq_2 _ _ _ _ _ k) (Ev.bind ha (Ev.neg e0 (Ev.neg e1 (Ev.now _))))⟩
theorem l92Move_l {s : List Int} (hs : IsCode s) (form : List Int) (hf : form.length ≤ 5) (n : Nat) (hn : n ≤ 10) : ∀ (m i : Nat) (x : List (List Int)) (p : Nat), i + m = n → x.length = i → (∀ y ∈ x, y.length = form.length) → p ≤ 1000300 + i * 5 →
    ∃ (B : List (List Int)) (e : Int) (q : Nat), RowsOk B ∧ 0 ≤ e ∧ e ≤ 10001 ∧ q ≤ 2000001 ∧ Ev (fun k => spec_l92Move.l0 k form x (n : Int) (i : Int) s (p : Int)) (form, B, e, (q : Int)) := by
  intro m
  induction m with
  | zero =>
    intro i x p h hx hb hp
    have hof := sOf_ev form x (by omega) (by omega) (fun y hy => by rw [hb y hy]; omega)
    by_cases ok : (ofB form x).2.2 = true
    · obtain ⟨B, e, q, h1, h2, h3, h4, h5⟩ := l92Move_j hs p (by omega) form _ _ (ofB_den form x)
      exact ⟨B, e, q, h1, h2, h3, h4, Ev.step (fun k => spec_l92Move.l0.eq_2 _ _ _ _ _ _ k) (Ev.neg (by omega) (Ev.bind hof (Ev.pos ok h5)))⟩
    · obtain ⟨B, e, q, h1, h2, h3, h4, h5⟩ := l92Move_j hs p (by omega) form _ _ (stayB_den form)
      exact ⟨B, e, q, h1, h2, h3, h4, Ev.step (fun k => spec_l92Move.l0.eq_2 _ _ _ _ _ _ k) (Ev.neg (by omega) (Ev.bind hof (Ev.neg ok (Ev.bind (sMoveStay_ev form (by omega)) h5))))⟩
  | succ m ih =>
    intro i x p h hx hb hp
    obtain ⟨v, v1, v2, v3⟩ := l91Vector_ev hs p (by omega) form 2 (by omega) (by omega) (by omega)
    obtain ⟨B, e, q, h1, h2, h3, h4, h5⟩ := ih (i + 1) (x ++ [v]) (p + form.length) (by omega) (by rw [List.length_append]; simp only [List.length_cons, List.length_nil]; omega) (fun y hy => by
      rcases List.mem_append.1 hy with hy | hy
      · exact hb y hy
      · rw [List.mem_singleton.1 hy]; exact v1) (by omega)
    refine ⟨B, e, q, h1, h2, h3, h4, Ev.step (fun k => spec_l92Move.l0.eq_2 _ _ _ _ _ _ k) (Ev.pos (by omega) (Ev.bind v3 (Ev.pos (by omega) ?_)))⟩
    rw [w64s (by omega)]; exact h5
theorem l92Move_ev {s : List Int} (hs : IsCode s) : ∃ (form : List Int) (B : List (List Int)) (e : Int) (q : Nat), Small form ∧ RowsOk B ∧ 0 ≤ e ∧ e ≤ 10001 ∧ q ≤ 2000001 ∧ Ev (fun k => spec_l92Move.f k s 0) (form, B, e, (q : Int)) := by
  obtain ⟨form, q, h1, h2, h3⟩ := l92Small_ev hs 0 (by omega)
  obtain ⟨a, a0, a1, ha⟩ := pick_ev' hs q 3 (by omega) (by omega)
  obtain ⟨n, rfl⟩ : ∃ n : Nat, a = n := ⟨a.toNat, by omega⟩
  obtain ⟨B, e, r, k1, k2, k3, k4, k5⟩ := l92Move_l hs form h1.1 n (by omega) n 0 [] (q + 1) (by omega) rfl (by simp) (by omega)
  refine ⟨form, B, e, r, h1, k1, k2, k3, k4, ?_⟩
  unfold spec_l92Move.f
  exact Ev.bind h3 (Ev.bind ha k5)
theorem sameInts_l (xs : List Int) (hn : xs.length ≤ 17592186044416) : ∀ (m i : Nat), i + m = xs.length → Ev (fun k => laws_sameInts.l0 k xs xs (i : Int)) true := by
  intro m
  induction m with
  | zero =>
    intro i h
    exact Ev.step (fun k => laws_sameInts.l0.eq_2 _ _ _ k) (Ev.neg (by omega) (Ev.now _))
  | succ m ih =>
    intro i h
    refine Ev.step (fun k => laws_sameInts.l0.eq_2 _ _ _ k) (Ev.pos (by omega) (Ev.pos (by omega) (Ev.pos (by omega) (Ev.pos rfl ?_))))
    rw [w64s (by omega)]
    exact ih (i + 1) (by omega)
theorem sameInts_ev (xs : List Int) (hn : xs.length ≤ 17592186044416) : Ev (fun k => laws_sameInts.f k xs xs) true := by
  unfold laws_sameInts.f
  exact Ev.pos rfl (sameInts_l xs hn xs.length 0 (by omega))
theorem sameLists_l (xs : List (List Int)) (hn : RowsOk xs) : ∀ (m i : Nat), i + m = xs.length → Ev (fun k => laws_sameLists.l0 k xs xs (i : Int)) true := by
  intro m
  have h0 := hn.1
  induction m with
  | zero =>
    intro i h
    exact Ev.step (fun k => laws_sameLists.l0.eq_2 _ _ _ k) (Ev.neg (by omega) (Ev.now _))
  | succ m ih =>
    intro i h
    have hr := hn.2 _ (rdL2_mem (show i < xs.length by omega))
    refine Ev.step (fun k => laws_sameLists.l0.eq_2 _ _ _ k) (Ev.pos (by omega) (Ev.pos (by omega) (Ev.pos (by omega) (Ev.bind (sameInts_ev _ (by omega)) (Ev.pos rfl ?_)))))
    rw [w64s (by omega)]
    exact ih (i + 1) (by omega)
theorem sameLists_ev (xs : List (List Int)) (hn : RowsOk xs) : Ev (fun k => laws_sameLists.f k xs xs) true := by
  unfold laws_sameLists.f
  exact Ev.pos rfl (sameLists_l xs hn xs.length 0 (by omega))
theorem sameMove_ev (xs : List (List Int)) (d : Int) (hn : RowsOk xs) : Ev (fun k => laws_sameMove.f k xs d xs d) true := by
  unfold laws_sameMove.f
  refine Ev.pos rfl (Ev.bind ?_ (Ev.now _))
  unfold laws_sameLists.f
  exact Ev.pos rfl (sameLists_l xs hn xs.length 0 (by omega))
theorem iEqual_l (u v : List Int) (hl : v.length = u.length) (hn : u.length ≤ 1000000) : ∀ (m i : Nat), i + m = u.length → (∀ j, j < i → j < u.length → rd u (j : Int) = rd v (j : Int)) →
    Ev (fun k => slices_Equal_int_int.l0 k u v (u.length : Int) (i : Int)) (decide (u = v)) := by
  intro m
  induction m with
  | zero =>
    intro i h hj
    exact Ev.step (fun k => slices_Equal_int_int.l0.eq_2 _ _ _ _ k) (Ev.neg (by omega) (Ev.nows (decide_eq_true (ext_rd hl.symm (fun j h1 => hj j (by omega) h1))).symm))
  | succ m ih =>
    intro i h hj
    refine Ev.step (fun k => slices_Equal_int_int.l0.eq_2 _ _ _ _ k) (Ev.pos (by omega) (Ev.pos (by omega) (Ev.pos (by omega) (Ev.pos (by omega) ?_))))
    by_cases e : rd u (i : Int) = rd v (i : Int)
    · refine Ev.pos e ?_
      rw [w64s (by omega)]
      refine ih (i + 1) (by omega) (fun j h5 h6 => ?_)
      rcases (by omega : j < i ∨ j = i) with h7 | rfl
      · exact hj j h7 h6
      · exact e
    · exact Ev.neg e (Ev.nows (decide_eq_false (fun k => e (by rw [k]))).symm)
theorem iEqual_ev (u v : List Int) (hl : v.length = u.length) (hn : u.length ≤ 1000000) : Ev (fun k => slices_Equal_int_int.f k u v) (decide (u = v)) := by
  unfold slices_Equal_int_int.f
  exact Ev.pos (by omega) (iEqual_l u v hl hn u.length 0 (by omega) (by omega))
theorem comb_take {u v : List Int} {t : Int} {i : Nat} (hi : i < u.length) : (combL u t v).take i ++ [rd u (i : Int) + t * rd v (i : Int)] = (combL u t v).take (i + 1) := by
  have hc : i < (combL u t v).length := by rw [combL_len]; exact hi
  rw [take_s hc]
  congr 2
  rw [← combL_rd hi, rd_at]; simp [hc]
theorem iCombined_ev (u v : List Int) (t : Int) (ht : t = 1 ∨ t = -1) (hl : v.length = u.length) (hn : u.length ≤ 1000) (hu : ∀ x ∈ u, -1000000 ≤ x ∧ x ≤ 1000000) (hv : ∀ x ∈ v, -1000000 ≤ x ∧ x ≤ 1000000) : Ev (fun k => impl_combined.f k u t v) (combL u t v) := by
  have go : ∀ (m i : Nat), i + m = u.length → Ev (fun k => impl_combined.l0 k u t v ((combL u t v).take i) (u.length : Int) (i : Int)) (combL u t v) := by
    intro m
    induction m with
    | zero =>
      intro i h
      exact Ev.step (fun k => impl_combined.l0.eq_2 _ _ _ _ _ _ k) (Ev.neg (by omega) (Ev.nows (List.take_of_length_le (by rw [combL_len]; omega))))
    | succ m ih =>
      intro i h
      have hi : i < u.length := by omega
      have a := hu _ (rd_mem hi)
      have b := hv _ (rd_mem (show i < v.length by omega))
      have c : -1000000 ≤ t * rd v (i : Int) ∧ t * rd v (i : Int) ≤ 1000000 := by rcases ht with rfl | rfl <;> omega
      have hc : ((combL u t v).take i).length = i := by rw [List.length_take, combL_len]; omega
      refine Ev.step (fun k => impl_combined.l0.eq_2 _ _ _ _ _ _ k) (Ev.pos (by omega) (Ev.pos (by omega) (Ev.pos (by omega) (Ev.pos (by omega) (Ev.pos (by omega) ?_)))))
      rw [w64s (by omega), w64 (a := t * rd v (i : Int)) (by omega) (by omega), w64 (a := rd u (i : Int) + _) (by omega) (by omega), comb_take hi]
      exact ih (i + 1) (by omega)
  unfold impl_combined.f
  exact go u.length 0 (by omega)
theorem l7Mix_ev (u v : List Int) (t : Int) (ht : t = 1 ∨ t = -1) (hl : v.length = u.length) (hn : u.length ≤ 1000) (hu : ∀ x ∈ u, -1000000 ≤ x ∧ x ≤ 1000000) (hv : ∀ x ∈ v, -1000000 ≤ x ∧ x ≤ 1000000) : Ev (fun k => spec_l7Mix.f k u v t) (combL u t v) := by
  have go : ∀ (m i : Nat), i + m = u.length → Ev (fun k => spec_l7Mix.l0 k u v t ((combL u t v).take i) (i : Int)) (combL u t v) := by
    intro m
    induction m with
    | zero =>
      intro i h
      exact Ev.step (fun k => spec_l7Mix.l0.eq_2 _ _ _ _ _ k) (Ev.neg (by omega) (Ev.nows (List.take_of_length_le (by rw [combL_len]; omega))))
    | succ m ih =>
      intro i h
      have hi : i < u.length := by omega
      have a := hu _ (rd_mem hi)
      have b := hv _ (rd_mem (show i < v.length by omega))
      have c : -1000000 ≤ t * rd v (i : Int) ∧ t * rd v (i : Int) ≤ 1000000 := by rcases ht with rfl | rfl <;> omega
      have hc : ((combL u t v).take i).length = i := by rw [List.length_take, combL_len]; omega
      refine Ev.step (fun k => spec_l7Mix.l0.eq_2 _ _ _ _ _ k) (Ev.pos (by omega) (Ev.pos (by omega) (Ev.pos (by omega) (Ev.pos (by omega) ?_))))
      rw [w64s (by omega), w64 (a := t * rd v (i : Int)) (by omega) (by omega), w64 (a := rd u (i : Int) + _) (by omega) (by omega), comb_take hi]
      exact ih (i + 1) (by omega)
  unfold spec_l7Mix.f
  exact go u.length 0 (by omega)
theorem l5Some_ev (v : List Int) (hn : v.length ≤ 1000000) : Ev (fun k => spec_l5Some.f k v) (some0 v) := by
  have go : ∀ (m i : Nat), i + m = v.length → (∀ j, j < i → j < v.length → rd v (j : Int) = 0) → Ev (fun k => spec_l5Some.l0 k v (i : Int)) (some0 v) := by
    intro m
    induction m with
    | zero =>
      intro i h hj
      exact Ev.step (fun k => spec_l5Some.l0.eq_2 _ _ k) (Ev.neg (by omega) (Ev.nows (some0_rd.2 (fun j h1 => hj j (by omega) h1)).symm))
    | succ m ih =>
      intro i h hj
      refine Ev.step (fun k => spec_l5Some.l0.eq_2 _ _ k) (Ev.pos (by omega) (Ev.pos (by omega) ?_))
      by_cases e : rd v (i : Int) = 0
      · refine Ev.pos e ?_
        rw [w64s (by omega)]
        refine ih (i + 1) (by omega) (fun j h5 h6 => ?_)
        rcases (by omega : j < i ∨ j = i) with h7 | rfl
        · exact hj j h7 h6
        · exact e
      · refine Ev.neg e (Ev.nows ?_)
        have : some0 v ≠ false := fun k => e (some0_rd.1 k i (by omega))
        simpa using this
  unfold spec_l5Some.f
  exact go v.length 0 (by omega) (by omega)
theorem plain_l1 (v : List Int) (d : Int) (hd : d ≠ 0) (hn : v.length ≤ 1000000) (ht : ∀ x ∈ v, -9223372036854775807 ≤ x ∧ x ≤ 9223372036854775807) : ∀ (m i : Nat), i + m = v.length →
    Ev (fun k => impl_plain.l1 k d ((v.take i).map (fun x => Int.tdiv x d)) v (v.length : Int) (i : Int)) (v.map (fun x => Int.tdiv x d)) := by
  intro m
  induction m with
  | zero =>
    intro i h
    exact Ev.step (fun k => impl_plain.l1.eq_2 _ _ _ _ _ k) (Ev.neg (by omega) (Ev.nows (by rw [List.take_of_length_le (by omega)])))
  | succ m ih =>
    intro i h
    have hb := ht _ (rd_mem (show i < v.length by omega))
    have hq : (Int.tdiv (rd v (i : Int)) d).natAbs ≤ (rd v (i : Int)).natAbs := by rw [Int.natAbs_tdiv]; exact Nat.div_le_self _ _
    refine Ev.step (fun k => impl_plain.l1.eq_2 _ _ _ _ _ k) (Ev.pos (by omega) (Ev.pos (by omega) (Ev.pos (by omega) (Ev.neg hd (Ev.pos (by rw [List.length_map, List.length_take]; omega) ?_)))))
    rw [w64s (by omega), w64 (a := Int.tdiv (rd v (i : Int)) d) (by omega) (by omega)]
    have e : (v.take i).map (fun x => Int.tdiv x d) ++ [Int.tdiv (rd v (i : Int)) d] = (v.take (i + 1)).map (fun x => Int.tdiv x d) := by
      rw [List.take_succ_eq_append_getElem (show i < v.length by omega), List.map_append, rd_at, List.getD_eq_getElem?_getD, List.getElem?_eq_getElem (show i < v.length by omega)]; rfl
    rw [e]
    exact ih (i + 1) (by omega)
theorem plain_j1 (v : List Int) (d : Int) (hd : d ≠ 0) (ht : Tame v) : Ev (fun k => impl_plain.j1 k v d) (v.map (fun x => Int.tdiv x d)) := by
  refine Ev.step (fun k => impl_plain.j1.eq_2 _ _ k) ?_
  have h := plain_l1 v d hd (by have := ht.1; omega) ht.2 v.length 0 (by omega)
  simpa using h
theorem plain_l0 (v : List Int) (g : Nat) (hg : g ≠ 0) (hg1 : (g : Int) ≤ 9223372036854775807) (ht : Tame v) : ∀ (m i : Nat), i + m = v.length → (m = 0 → sgn1 v = 1) → sgn1 (v.drop i) = sgn1 v →
    Ev (fun k => impl_plain.l0 k v (g : Int) v (v.length : Int) (i : Int)) (v.map (fun x => Int.tdiv x (sgn1 v * g))) := by
  intro m
  have hn := ht.1
  induction m with
  | zero =>
    intro i h h1 _
    refine Ev.step (fun k => impl_plain.l0.eq_2 _ _ _ _ _ k) (Ev.neg (by omega) ?_)
    rw [h1 rfl, Int.one_mul]
    exact plain_j1 v g (by omega) ht
  | succ m ih =>
    intro i h _ h2
    refine Ev.step (fun k => impl_plain.l0.eq_2 _ _ _ _ _ k) (Ev.pos (by omega) (Ev.pos (by omega) (Ev.pos (by omega) ?_)))
    rw [drop_rd (show i < v.length by omega)] at h2
    by_cases hz : rd v (i : Int) = 0
    · refine Ev.pos hz ?_
      rw [w64s (by omega)]
      rw [sgn1, if_pos hz] at h2
      refine ih (i + 1) (by omega) (fun hm => ?_) h2
      rw [← h2, List.drop_of_length_le (by omega)]; rfl
    · refine Ev.neg hz ?_
      rw [sgn1, if_neg hz] at h2
      by_cases hneg : rd v (i : Int) < 0
      · rw [if_pos hneg] at h2
        refine Ev.pos hneg ?_
        rw [← h2, w64 (a := -(g : Int)) (by omega) (by omega), show (-1 : Int) * g = -g by omega]
        exact plain_j1 v (-g) (by omega) ht
      · rw [if_neg hneg] at h2
        refine Ev.neg hneg ?_
        rw [← h2, Int.one_mul]
        exact plain_j1 v g (by omega) ht
theorem gcdL_le {v : List Int} (ht : Tame v) (h : some0 v = true) : (gcdL 0 v : Int) ≤ 9223372036854775807 := by
  unfold some0 at h
  rw [List.any_eq_true] at h
  obtain ⟨x, hx, h0⟩ := h
  have h1 := Nat.le_of_dvd (by simp at h0; omega) ((gcdL_mono v 0).2 x hx)
  have := ht.2 x hx
  omega
theorem iPlain_ev (v : List Int) (ht : Tame v) (h : some0 v = true) : Ev (fun k => impl_plain.f k v) (plainL v) := by
  unfold impl_plain.f plainL
  refine Ev.bind (gcd_ev v (by have := ht.1; omega) ht.2) ?_
  refine plain_l0 v (gcdL 0 v) (fun h0 => by rw [gcdL_zero, h] at h0; cases h0) (gcdL_le ht h) ht v.length 0 (by omega) (fun h0 => ?_) rfl
  rw [List.eq_nil_of_length_eq_zero h0]; rfl
theorem l5Plain_1 (v : List Int) (g : Nat) (hg : g ≠ 0) (s : Int) (hs : s = 1 ∨ s = -1) (hn : v.length ≤ 1000000) (ht : ∀ x ∈ v, -9000000000000000000 ≤ x ∧ x ≤ 9000000000000000000) : ∀ (m i : Nat), i + m = v.length →
    Ev (fun k => spec_l5Plain.l1 k v (g : Int) s ((v.take i).map (fun x => Int.tdiv x (s * g))) (i : Int)) (v.map (fun x => Int.tdiv x (s * g))) := by
  intro m
  induction m with
  | zero =>
    intro i h
    exact Ev.step (fun k => spec_l5Plain.l1.eq_2 _ _ _ _ _ k) (Ev.neg (by omega) (Ev.nows (by rw [List.take_of_length_le (by omega)])))
  | succ m ih =>
    intro i h
    have hi : i < v.length := by omega
    have b := ht _ (rd_mem hi)
    have e1 : Int.tdiv (s * rd v (i : Int)) (g : Int) = Int.tdiv (rd v (i : Int)) (s * g) := by
      rcases hs with rfl | rfl
      · rw [Int.one_mul, Int.one_mul]
      · rw [show (-1 : Int) * rd v (i : Int) = -rd v (i : Int) by omega, show (-1 : Int) * (g : Int) = -(g : Int) by omega, Int.neg_tdiv, Int.tdiv_neg]
    have e2 : -9000000000000000000 ≤ s * rd v (i : Int) ∧ s * rd v (i : Int) ≤ 9000000000000000000 := by rcases hs with rfl | rfl <;> omega
    have hq : (Int.tdiv (s * rd v (i : Int)) (g : Int)).natAbs ≤ (s * rd v (i : Int)).natAbs := by rw [Int.natAbs_tdiv]; exact Nat.div_le_self _ _
    have hc : ((v.take i).map (fun x => Int.tdiv x (s * g))).length = i := by rw [List.length_map, List.length_take]; omega
    refine Ev.step (fun k => spec_l5Plain.l1.eq_2 _ _ _ _ _ k) (Ev.pos (by omega) (Ev.pos (by omega) (Ev.neg (by omega) (Ev.pos (by omega) ?_))))
    rw [w64s (by omega), w64 (a := s * rd v (i : Int)) (by omega) (by omega), w64 (a := Int.tdiv _ _) (by omega) (by omega), e1]
    have e : (v.take i).map (fun x => Int.tdiv x (s * g)) ++ [Int.tdiv (rd v (i : Int)) (s * g)] = (v.take (i + 1)).map (fun x => Int.tdiv x (s * g)) := by
      rw [List.take_succ_eq_append_getElem hi, List.map_append, rd_at, List.getD_eq_getElem?_getD, List.getElem?_eq_getElem hi]; rfl
    rw [e]
    exact ih (i + 1) (by omega)
theorem l5Plain_0 (v : List Int) (h0 : some0 v = true) (hn : v.length ≤ 1000000) (ht : ∀ x ∈ v, -9000000000000000000 ≤ x ∧ x ≤ 9000000000000000000) : ∀ (m i : Nat) (g : Nat) (s : Int) (first : Bool), i + m = v.length → g ≤ 9000000000000000000 → gcdL g (v.drop i) = gcdL 0 v →
    (first = true → s = 1 ∧ sgn1 (v.drop i) = sgn1 v) → (first = false → s = sgn1 v) → Ev (fun k => spec_l5Plain.l0 k v (g : Int) s first (i : Int)) (plainL v) := by
  have hg : gcdL 0 v ≠ 0 := fun k => by rw [gcdL_zero, h0] at k; cases k
  intro m
  induction m with
  | zero =>
    intro i g s first h _ he h1 h2
    rw [List.drop_of_length_le (by omega)] at he h1
    refine Ev.step (fun k => spec_l5Plain.l0.eq_2 _ _ _ _ _ k) (Ev.neg (by omega) ?_)
    have es : s = sgn1 v := by
      cases first with
      | true => have := h1 rfl; rw [this.1, ← this.2]; rfl
      | false => exact h2 rfl
    rw [es, show g = gcdL 0 v from he]
    have := l5Plain_1 v (gcdL 0 v) hg (sgn1 v) (sgn1_cases v) hn ht v.length 0 (by omega)
    unfold plainL
    simpa using this
  | succ m ih =>
    intro i g s first h hgb he h1 h2
    have hi : i < v.length := by omega
    have b := ht _ (rd_mem hi)
    rw [drop_rd hi] at he h1
    refine Ev.step (fun k => spec_l5Plain.l0.eq_2 _ _ _ _ _ k) (Ev.pos (by omega) (Ev.pos (by omega) (Ev.bind (l1Gcd_ev (by omega) (by omega) (by omega) (by omega)) ?_)))
    have hb2 : Nat.gcd g (rd v (i : Int)).natAbs ≤ 9000000000000000000 := by
      rcases Nat.eq_zero_or_pos g with rfl | hp
      · rw [Nat.gcd_zero_left]; omega
      · have := Nat.gcd_le_left (rd v (i : Int)).natAbs hp; omega
    rw [show ((g : Int)).natAbs = g from rfl]
    have he2 : gcdL (Nat.gcd g (rd v (i : Int)).natAbs) (v.drop (i + 1)) = gcdL 0 v := by rw [← he]; rfl
    by_cases hz : rd v (i : Int) = 0
    · refine Ev.pos hz (Ev.step (fun k => spec_l5Plain.j1.eq_2 _ _ _ _ _ _ k) (Ev.neg (by simp) ?_))
      rw [w64s (by omega)]
      refine ih (i + 1) _ s first (by omega) hb2 he2 (fun k => ?_) h2
      have := h1 k
      rw [sgn1, if_pos hz] at this; exact this
    · refine Ev.neg hz (Ev.step (fun k => spec_l5Plain.j1.eq_2 _ _ _ _ _ _ k) ?_)
      cases first with
      | true =>
        obtain ⟨s1, s2⟩ := h1 rfl
        rw [sgn1, if_neg hz] at s2
        refine Ev.pos rfl (Ev.pos (by omega) (Ev.pos (by omega) ?_))
        rw [w64s (by omega)]
        by_cases hneg : rd v (i : Int) < 0
        · rw [if_pos hneg] at s2
          exact Ev.pos hneg (ih (i + 1) _ (-1) false (by omega) hb2 he2 (fun k => by cases k) (fun _ => s2))
        · rw [if_neg hneg] at s2
          exact Ev.neg hneg (ih (i + 1) _ s false (by omega) hb2 he2 (fun k => by cases k) (fun _ => by rw [s1]; exact s2))
      | false =>
        refine Ev.neg (by simp) ?_
        rw [w64s (by omega)]
        exact ih (i + 1) _ s false (by omega) hb2 he2 (fun k => by cases k) h2
theorem l5Plain_ev (v : List Int) (h0 : some0 v = true) (hn : v.length ≤ 1000000) (ht : ∀ x ∈ v, -9000000000000000000 ≤ x ∧ x ≤ 9000000000000000000) : Ev (fun k => spec_l5Plain.f k v) (plainL v) := by
  unfold spec_l5Plain.f
  exact l5Plain_0 v h0 hn ht v.length 0 0 1 true (by omega) (by omega) rfl (fun _ => ⟨rfl, rfl⟩) (fun k => by cases k)
theorem iNote_ev (form : List Int) (ls A : List (List Int)) (d : Int) (u : List Int) (ht : Tame form) (hA : RowsOk A) (hl : ls.length ≤ 1000) (hu : u.length ≤ 1000) (hb : ∀ x ∈ u, -2000000 ≤ x ∧ x ≤ 2000000) (hs : some0 u = true) : Ev (fun k => impl_MoveSplit.n k form ls A d u) (noteB form ls A d u) := by
  unfold impl_MoveSplit.n noteB
  have hpl : (plainL u).length = u.length := by unfold plainL; rw [List.length_map]
  refine Ev.bind (iPlain_ev u ⟨by omega, fun x hx => by have := hb x hx; omega⟩ hs) (Ev.pos (by omega) (Ev.bind (iMirror_ev form (plainL u) ht (by omega)) ?_))
  by_cases h : (mirB form (plainL u)).2.2 = true
  · rw [if_pos h]
    exact Ev.pos h (Ev.bind (iMul_ev form _ _ A d ht (mirB_rows form _) hA) (Ev.now _))
  · rw [if_neg h]; exact Ev.neg h (Ev.now _)
theorem place_bd {form : List Int} {A : List (List Int)} {d : Int} (h : mvB form A d = true) {i : Nat} (hi : i < form.length) :
    (∀ x ∈ form, -31 ≤ x ∧ x ≤ 31) ∧ (colL A i).length = form.length ∧ (∀ x ∈ colL A i, -1000000 ≤ x ∧ x ≤ 1000000) ∧ (∀ x ∈ eL form.length i d, -1000000 ≤ x ∧ x ≤ 1000000) ∧ ∀ t : Int, t = 1 ∨ t = -1 → ∀ x ∈ combL (colL A i) t (eL form.length i d), -2000000 ≤ x ∧ x ≤ 2000000 := by
  obtain ⟨hf, h3, la, hd, ra, _⟩ := mvB_of h
  have c1 := col_mem ra hi
  have c2 := eL_bd (n := form.length) (i := i) (d := d) (M := 1000000) (by omega) (by omega)
  exact ⟨fun x hx => by have := fOk_mem hf x hx; omega, by rw [colL_len, la], c1, c2, fun t ht x hx => by have := combL_bd ht (by rw [eL_len, colL_len, la]) c1 c2 x hx; omega⟩
theorem iSplit_l (form : List Int) (ht : Tame form) : ∀ (m i : Nat) (ls A : List (List Int)) (d : Int), i + m = form.length → ls.length ≤ 2 * i → mvB form A d = true →
    Ev (fun k => impl_MoveSplit.l0 k form ls A d (i : Int)) (splitGo form m i ls A d) := by
  intro m
  induction m with
  | zero => intro i ls A d h _ _; exact Ev.step (fun k => impl_MoveSplit.l0.eq_2 _ _ _ _ _ k) (Ev.neg (by omega) (Ev.now _))
  | succ m ih =>
    intro i ls A d h hl hv
    have hi : i < form.length := by omega
    obtain ⟨hf, h3, la, hd, ra, _⟩ := mvB_of hv
    obtain ⟨fb, cl, cb, eb, zb⟩ := place_bd hv hi
    have el := eL_len form.length i d
    have zl : ∀ t, (combL (colL A i) t (eL form.length i d)).length = form.length := fun t => by rw [combL_len, cl]
    have hw : wrap64 ((i : Int) + 1) = ((i + 1 : Nat) : Int) := w64s (by omega)
    refine Ev.step (fun k => impl_MoveSplit.l0.eq_2 _ _ _ _ _ k) (Ev.pos (by omega) (Ev.pos (by omega) (Ev.pos (by omega) (Ev.bind (iColumn_ev A d i (by omega) (fun r hr => by rw [vOk_len (ra r hr)]; omega)) ?_))))
    rw [hw]
    show Ev (fun n => (slices_Equal_int_int.f n (colL A i) (eL form.length i d)).bind fun q => if q = true then impl_MoveSplit.l0 n form ls A d ((i + 1 : Nat) : Int) else ((impl_combined.f n (colL A i) (-1) (eL form.length i d)).bind fun less => ((impl_pair.f n form less less).bind fun v =>
        if v = 0 then ((impl_combined.f n (colL A i) 1 (eL form.length i d)).bind fun s => ((impl_MoveSplit.n n form ls A d s).bind fun a => if a.1 = true then ((impl_MoveSplit.n n form a.2.1 a.2.2.1 a.2.2.2 (eL form.length i d)).bind fun b => if b.1 = true then impl_MoveSplit.l0 n form b.2.1 b.2.2.1 b.2.2.2 ((i + 1 : Nat) : Int) else some ([], false)) else some ([], false)))
        else ((impl_MoveSplit.n n form ls A d less).bind fun a => if a.1 = true then impl_MoveSplit.l0 n form a.2.1 a.2.2.1 a.2.2.2 ((i + 1 : Nat) : Int) else some ([], false))))) (splitGo form (m + 1) i ls A d)
    refine Ev.bind (iEqual_ev (colL A i) (eL form.length i d) (by omega) (by omega)) ?_
    unfold splitGo
    by_cases h1 : colL A i = eL form.length i d
    · rw [if_pos h1]
      exact Ev.pos (decide_eq_true h1) (ih (i + 1) ls A d (by omega) (by omega) hv)
    · rw [if_neg h1]
      obtain ⟨s1, s2⟩ := place_some hv hi h1
      refine Ev.neg (by simpa using h1) (Ev.bind (iCombined_ev _ _ (-1) (.inr rfl) (by omega) (by omega) cb eb) (Ev.bind (iPair2_ev form _ _ (zl _) (zl _) (by omega) fb (zb _ (.inr rfl)) (zb _ (.inr rfl))) ?_))
      by_cases hz : dot3 form (combL (colL A i) (-1) (eL form.length i d)) (combL (colL A i) (-1) (eL form.length i d)) = 0
      · rw [if_pos hz]
        refine Ev.pos hz (Ev.bind (iCombined_ev _ _ 1 (.inl rfl) (by omega) (by omega) cb eb) (Ev.bind (iNote_ev form ls A d _ ht (mvB_rows hv) (by omega) (by rw [zl]; omega) (zb _ (.inl rfl)) (s2 hz)) ?_))
        have N := fun h => note_ok (form := form) (ls := ls) (A := A) (d := d) (u := combL (colL A i) 1 (eL form.length i d)) h
        generalize noteB form ls A d (combL (colL A i) 1 (eL form.length i d)) = a at N ⊢
        by_cases h2 : a.1 = true
        · obtain ⟨_, _, n3, n4, _⟩ := N h2
          have l1 : a.2.1.length = ls.length + 1 := by rw [n3, List.length_append]; rfl
          rw [if_pos h2]
          refine Ev.pos h2 (Ev.bind (iNote_ev form _ _ _ _ ht (mvB_rows n4) (by omega) (by omega) (fun x hx => by have := eb x hx; omega) (eL_some hi (by omega))) ?_)
          have N2 := fun h => note_ok (form := form) (ls := a.2.1) (A := a.2.2.1) (d := a.2.2.2) (u := eL form.length i d) h
          generalize noteB form a.2.1 a.2.2.1 a.2.2.2 (eL form.length i d) = b at N2 ⊢
          by_cases h3 : b.1 = true
          · obtain ⟨_, _, n5, n6, _⟩ := N2 h3
            rw [if_pos h3]
            exact Ev.pos h3 (ih (i + 1) _ _ _ (by omega) (by rw [n5, List.length_append]; simp only [List.length_cons, List.length_nil]; omega) n6)
          · rw [if_neg h3]; exact Ev.neg h3 (Ev.now _)
        · rw [if_neg h2]; exact Ev.neg h2 (Ev.now _)
      · rw [if_neg hz]
        refine Ev.neg hz (Ev.bind (iNote_ev form ls A d _ ht (mvB_rows hv) (by omega) (by rw [zl]; omega) (zb _ (.inr rfl)) s1) ?_)
        have N := fun h => note_ok (form := form) (ls := ls) (A := A) (d := d) (u := combL (colL A i) (-1) (eL form.length i d)) h
        generalize noteB form ls A d (combL (colL A i) (-1) (eL form.length i d)) = a at N ⊢
        by_cases h2 : a.1 = true
        · obtain ⟨_, _, n3, n4, _⟩ := N h2
          rw [if_pos h2]
          exact Ev.pos h2 (ih (i + 1) _ _ _ (by omega) (by rw [n3, List.length_append]; simp only [List.length_cons, List.length_nil]; omega) n4)
        · rw [if_neg h2]; exact Ev.neg h2 (Ev.now _)
theorem iSplit_ev (form : List Int) (A : List (List Int)) (d : Int) (ht : Tame form) (hA : RowsOk A) : Ev (fun k => impl_MoveSplit.f k form A d) (splitB form A d) := by
  unfold impl_MoveSplit.f splitB
  refine Ev.bind (iMoveValid_ev form A d ht hA) ?_
  by_cases h : mvB form A d = true
  · rw [if_pos h]; exact Ev.pos h (iSplit_l form ht form.length 0 [] A d (by omega) (by simp) h)
  · rw [if_neg h]; exact Ev.neg h (Ev.now _)
theorem onR_e {n : Nat} {A : List (List Int)} (hA : A.length = n) (hr : ∀ r ∈ A, r.length = n) {i : Nat} (hi : i < n) : onR A (eL n i 1) = colL A i := by
  refine ext_rd (by rw [onR_len, colL_len]) (fun r hr2 => ?_)
  rw [onR_len] at hr2
  rw [onR_at hA hr (eL_len _ _ _) (by omega), col_rd hr2]
  show sumN n (fun a => ent A r a * rd (eL n i 1) (a : Int)) = ent A r i
  rw [sumN_one n i hi _ (fun k hk hne => by rw [eL_rd hk, if_neg (fun e => hne e.symm), Int.mul_zero]), eL_rd hi, if_pos rfl, Int.mul_one]
section
variable (form : List Int) (hn : form.length ≤ 1000000) (i : Nat) (x11 : List (List Int)) (j : Nat) (hj : j < x11.length) (ls A : List (List Int)) (d : Int) (u : List Int) (hu : x11[j] = u) (hA : RowsOk A) (hl : ls.length ≤ 1000) (hul : u.length ≤ 1000) (hb : ∀ x ∈ u, -2000000 ≤ x ∧ x ≤ 2000000) (hs : some0 u = true) (hj9 : j ≤ 1000)
include hn hA hul hb hs hu
theorem sNote_no (h : ¬ (noteB form ls A d u).1 = true) : Ev (fun k => spec_MoveSplit.l1 k form ls (i : Int) x11 (j : Int) A d) ([], false) := by
  have hpl : (plainL u).length = u.length := by unfold plainL; rw [List.length_map]
  refine Ev.step (fun k => spec_MoveSplit.l1.eq_2 _ _ _ _ _ _ _ k) (Ev.pos (by omega) (Ev.pos (by omega) ?_))
  rw [rdL2_at hj, hu]
  refine Ev.bind (l5Plain_ev u hs (by omega) (fun x hx => by have := hb x hx; omega)) (Ev.bind (sMirror_ev form (plainL u) hn (by omega)) ?_)
  unfold noteB at h
  by_cases h1 : (mirB form (plainL u)).2.2 = true
  · rw [if_pos h1] at h
    exact Ev.pos h1 (Ev.bind (sMul_ev form _ _ A d hn (mirB_rows form _) hA) (Ev.neg h (Ev.now _)))
  · exact Ev.neg h1 (Ev.now _)
include hl hj9
theorem sNote_yes (h : (noteB form ls A d u).1 = true) {R : List (List Int) × Bool} (hR : Ev (fun k => spec_MoveSplit.l1 k form (noteB form ls A d u).2.1 (i : Int) x11 ((j + 1 : Nat) : Int) (noteB form ls A d u).2.2.1 (noteB form ls A d u).2.2.2) R) : Ev (fun k => spec_MoveSplit.l1 k form ls (i : Int) x11 (j : Int) A d) R := by
  have hpl : (plainL u).length = u.length := by unfold plainL; rw [List.length_map]
  refine Ev.step (fun k => spec_MoveSplit.l1.eq_2 _ _ _ _ _ _ _ k) (Ev.pos (by omega) (Ev.pos (by omega) ?_))
  rw [rdL2_at hj, hu]
  refine Ev.bind (l5Plain_ev u hs (by omega) (fun x hx => by have := hb x hx; omega)) (Ev.bind (sMirror_ev form (plainL u) hn (by omega)) ?_)
  unfold noteB at h hR
  by_cases h1 : (mirB form (plainL u)).2.2 = true
  · rw [if_pos h1] at h hR
    refine Ev.pos h1 (Ev.bind (sMul_ev form _ _ A d hn (mirB_rows form _) hA) (Ev.pos h (Ev.pos (by omega) ?_)))
    rw [w64s (by omega)]; exact hR
  · rw [if_neg h1] at h; simp at h
end
theorem sSplit_end (form : List Int) (i : Nat) (x11 ls A : List (List Int)) (d : Int) (j : Nat) (hj : x11.length ≤ j) (hi : i ≤ 1000) {R : List (List Int) × Bool} (hR : Ev (fun k => spec_MoveSplit.l0 k form ls ((i + 1 : Nat) : Int) A d) R) : Ev (fun k => spec_MoveSplit.l1 k form ls (i : Int) x11 (j : Int) A d) R := by
  refine Ev.step (fun k => spec_MoveSplit.l1.eq_2 _ _ _ _ _ _ _ k) (Ev.neg (by omega) ?_)
  rw [w64s (by omega)]; exact hR
theorem noteB_plain (form : List Int) (ls A : List (List Int)) (d : Int) {u v : List Int} (h : plainL u = plainL v) : noteB form ls A d u = noteB form ls A d v := by unfold noteB; rw [h]
theorem sSplit_l (form : List Int) (hn : form.length ≤ 1000000) : ∀ (m i : Nat) (ls A : List (List Int)) (d : Int), i + m = form.length → ls.length ≤ 2 * i → mvB form A d = true →
    Ev (fun k => spec_MoveSplit.l0 k form ls (i : Int) A d) (splitGo form m i ls A d) := by
  intro m
  induction m with
  | zero => intro i ls A d h _ _; exact Ev.step (fun k => spec_MoveSplit.l0.eq_2 _ _ _ _ _ k) (Ev.neg (by omega) (Ev.now _))
  | succ m ih =>
    intro i ls A d h hl hv
    have hi : i < form.length := by omega
    obtain ⟨hf, h3, la, hd, ra, _⟩ := mvB_of hv
    obtain ⟨fb, cl, cb, eb, zb⟩ := place_bd hv hi
    have el := eL_len form.length i d
    have e1b : ∀ x ∈ eL form.length i 1, -1000 ≤ x ∧ x ≤ 1000 := eL_bd (by omega) (by omega)
    have zl : ∀ t, (combL (colL A i) t (eL form.length i d)).length = form.length := fun t => by rw [combL_len, cl]
    have hw : wrap64 ((i : Int) + 1) = ((i + 1 : Nat) : Int) := w64s (by omega)
    have on1 := l7On_ev form.length h3 A la ra d (eL form.length i 1) (vOk_of (eL_len _ _ _) e1b)
    rw [onR_e la (fun r hr => vOk_len (ra r hr)) hi] at on1
    refine Ev.step (fun k => spec_MoveSplit.l0.eq_2 _ _ _ _ _ k) (Ev.pos (by omega) (Ev.pos (by omega) (Ev.pos (by omega) (Ev.bind0 rfl (Ev.pos (by omega) (Ev.pos (by rw [List.length_replicate]; omega) (Ev.bind0 rfl (Ev.bind on1 (Ev.bind0 rfl (Ev.pos (by rw [List.length_replicate]; omega) (Ev.bind0 rfl ?_)))))))))))
    show Ev (fun n => (spec_l7Mix.f n (colL A i) (eL form.length i d) (-1)).bind fun t558 => ((some (([t558] : List (List Int)) : List (List Int))).bind fun y561 => (if 0 < (y561.length : Int) then ((spec_l5Some.f n (rd_L1 y561 0)).bind fun t565 => (if t565 = true then ((spec_l4Value.f n form (rd_L1 y561 0)).bind fun t567 => (if t567 = 0 then ((spec_l7Mix.f n (colL A i) (eL form.length i d) 1).bind fun t568 => (spec_MoveSplit.j1 n form ls (i : Int) (([t568, eL form.length i 1] : List (List Int))) A d)) else (spec_MoveSplit.j1 n form ls (i : Int) y561 A d))) else (spec_MoveSplit.l0 n form ls (wrap64 ((i : Int) + 1)) A d))) else none))) (splitGo form (m + 1) i ls A d)
    rw [hw]
    refine Ev.bind (l7Mix_ev _ _ (-1) (.inr rfl) (by omega) (by omega) cb eb) (Ev.bind0 rfl (Ev.pos (by simp) ?_))
    have e0 : rd_L1 [combL (colL A i) (-1) (eL form.length i d)] 0 = combL (colL A i) (-1) (eL form.length i d) := rfl
    rw [e0]
    refine Ev.bind (l5Some_ev _ (by rw [zl]; omega)) ?_
    unfold splitGo
    by_cases h1 : colL A i = eL form.length i d
    · rw [if_pos h1, (comb_some (by omega)).2 h1]
      exact Ev.neg (by simp) (ih (i + 1) ls A d (by omega) (by omega) hv)
    · rw [if_neg h1]
      obtain ⟨s1, s2⟩ := place_some hv hi h1
      refine Ev.pos s1 (Ev.bind (l4Value2_ev form _ (zl _) (by omega) fb (zb _ (.inr rfl))) ?_)
      by_cases hz : dot3 form (combL (colL A i) (-1) (eL form.length i d)) (combL (colL A i) (-1) (eL form.length i d)) = 0
      · rw [if_pos hz]
        refine Ev.pos hz (Ev.bind (l7Mix_ev _ _ 1 (.inl rfl) (by omega) (by omega) cb eb) (Ev.step (fun k => spec_MoveSplit.j1.eq_2 _ _ _ _ _ _ k) ?_))
        have N := fun h => note_ok (form := form) (ls := ls) (A := A) (d := d) (u := combL (colL A i) 1 (eL form.length i d)) h
        have y1 := fun h (R : List (List Int) × Bool) => sNote_yes form hn i [combL (colL A i) 1 (eL form.length i d), eL form.length i 1] 0 (by simp) ls A d (combL (colL A i) 1 (eL form.length i d)) rfl (mvB_rows hv) (by omega) (by rw [zl]; omega) (zb _ (.inl rfl)) (s2 hz) (by omega) h (R := R)
        have n1 := sNote_no form hn i [combL (colL A i) 1 (eL form.length i d), eL form.length i 1] 0 (by simp) ls A d (combL (colL A i) 1 (eL form.length i d)) rfl (mvB_rows hv) (by rw [zl]; omega) (zb _ (.inl rfl)) (s2 hz)
        generalize noteB form ls A d (combL (colL A i) 1 (eL form.length i d)) = a at N y1 n1 ⊢
        by_cases h2 : a.1 = true
        · obtain ⟨_, _, n3, n4, _⟩ := N h2
          have l1 : a.2.1.length = ls.length + 1 := by rw [n3, List.length_append]; rfl
          rw [if_pos h2]
          refine y1 h2 _ ?_
          have pe : plainL (eL form.length i 1) = plainL (eL form.length i d) := by rw [eL_plain hi (by omega), eL_plain hi (by omega)]
          have ne := noteB_plain form a.2.1 a.2.2.1 a.2.2.2 pe
          have N2 := fun h => note_ok (form := form) (ls := a.2.1) (A := a.2.2.1) (d := a.2.2.2) (u := eL form.length i d) h
          have y2 := fun h (R : List (List Int) × Bool) => sNote_yes form hn i [combL (colL A i) 1 (eL form.length i d), eL form.length i 1] 1 (by simp) a.2.1 a.2.2.1 a.2.2.2 (eL form.length i 1) rfl (mvB_rows n4) (by omega) (by rw [eL_len]; omega) (fun x hx => by have := e1b x hx; omega) (eL_some hi (by omega)) (by omega) h (R := R)
          have n2 := sNote_no form hn i [combL (colL A i) 1 (eL form.length i d), eL form.length i 1] 1 (by simp) a.2.1 a.2.2.1 a.2.2.2 (eL form.length i 1) rfl (mvB_rows n4) (by rw [eL_len]; omega) (fun x hx => by have := e1b x hx; omega) (eL_some hi (by omega))
          rw [ne] at y2 n2
          generalize noteB form a.2.1 a.2.2.1 a.2.2.2 (eL form.length i d) = b at N2 y2 n2 ⊢
          by_cases h3 : b.1 = true
          · obtain ⟨_, _, n5, n6, _⟩ := N2 h3
            rw [if_pos h3]
            exact y2 h3 _ (sSplit_end form i _ _ _ _ 2 (by simp) (by omega) (ih (i + 1) _ _ _ (by omega) (by rw [n5, List.length_append]; simp only [List.length_cons, List.length_nil]; omega) n6))
          · rw [if_neg h3]; exact n2 h3
        · rw [if_neg h2]; exact n1 h2
      · rw [if_neg hz]
        refine Ev.neg hz (Ev.step (fun k => spec_MoveSplit.j1.eq_2 _ _ _ _ _ _ k) ?_)
        have N := fun h => note_ok (form := form) (ls := ls) (A := A) (d := d) (u := combL (colL A i) (-1) (eL form.length i d)) h
        have y1 := fun h (R : List (List Int) × Bool) => sNote_yes form hn i [combL (colL A i) (-1) (eL form.length i d)] 0 (by simp) ls A d (combL (colL A i) (-1) (eL form.length i d)) rfl (mvB_rows hv) (by omega) (by rw [zl]; omega) (zb _ (.inr rfl)) s1 (by omega) h (R := R)
        have n1 := sNote_no form hn i [combL (colL A i) (-1) (eL form.length i d)] 0 (by simp) ls A d (combL (colL A i) (-1) (eL form.length i d)) rfl (mvB_rows hv) (by rw [zl]; omega) (zb _ (.inr rfl)) s1
        generalize noteB form ls A d (combL (colL A i) (-1) (eL form.length i d)) = a at N y1 n1 ⊢
        by_cases h2 : a.1 = true
        · obtain ⟨_, _, n3, n4, _⟩ := N h2
          rw [if_pos h2]
          exact y1 h2 _ (sSplit_end form i _ _ _ _ 1 (by simp) (by omega) (ih (i + 1) _ _ _ (by omega) (by rw [n3, List.length_append]; simp only [List.length_cons, List.length_nil]; omega) n4))
        · rw [if_neg h2]; exact n1 h2
theorem sSplit_ev (form : List Int) (A : List (List Int)) (d : Int) (hn : form.length ≤ 1000000) (hA : RowsOk A) : Ev (fun k => spec_MoveSplit.f k form A d) (splitB form A d) := by
  unfold spec_MoveSplit.f splitB
  refine Ev.bind0 rfl (Ev.bind (sMoveValid_ev form A d hn hA) ?_)
  by_cases h : mvB form A d = true
  · rw [if_pos h]; exact Ev.pos h (sSplit_l form hn form.length 0 [] A d (by omega) (by simp) h)
  · rw [if_neg h]; exact Ev.neg h (Ev.now _)
theorem iLess_ev (f : List Int) (hn : f.length ≤ 1000000) : Ev (fun k => impl_lessTerms.f k f) (lessN f : Int) := by
  have go : ∀ (m i c : Nat), i + m = f.length → c ≤ i → c + lessN (f.drop i) = lessN f → Ev (fun k => impl_lessTerms.l0 k (c : Int) f (f.length : Int) (i : Int)) (lessN f : Int) := by
    intro m
    induction m with
    | zero =>
      intro i c h _ he
      rw [List.drop_of_length_le (by omega)] at he
      refine Ev.step (fun k => impl_lessTerms.l0.eq_2 _ _ _ _ k) (Ev.neg (by omega) (Ev.nows ?_))
      rw [← he]; rfl
    | succ m ih =>
      intro i c h hc he
      have hi : i < f.length := by omega
      rw [drop_rd hi] at he
      unfold lessN at he
      rw [List.countP_cons] at he
      refine Ev.step (fun k => impl_lessTerms.l0.eq_2 _ _ _ _ k) (Ev.pos (by omega) (Ev.pos (by omega) (Ev.pos (by omega) ?_)))
      rw [w64s (i := i) (by omega)]
      by_cases e : rd f (i : Int) < 0
      · rw [if_pos (by simpa using e)] at he
        refine Ev.pos e ?_
        rw [w64s (i := c) (by omega)]
        exact ih (i + 1) (c + 1) (by omega) (by omega) (by unfold lessN; omega)
      · rw [if_neg (by simpa using e)] at he
        exact Ev.neg e (ih (i + 1) c (by omega) (by omega) (by unfold lessN; omega))
  unfold impl_lessTerms.f
  exact go f.length 0 0 (by omega) (by omega) (by simp)
theorem lessN_le (f : List Int) : lessN f ≤ f.length := by unfold lessN; exact List.countP_le_length
theorem iSigns_ev (f : List Int) (ht : Tame f) (hf : fOk f = true) : Ev (fun k => impl_FormSigns.f k f) ((f.length : Int) - 2 * (lessN f : Int), true) := by
  have hn := fOk_len hf
  have hl := lessN_le f
  unfold impl_FormSigns.f
  refine Ev.bind (iFormValid_ev f ht) (Ev.pos hf (Ev.bind (iLess_ev f (by omega)) (Ev.nows ?_)))
  rw [w64 (a := 2 * (lessN f : Int)) (by omega) (by omega), w64 (by omega) (by omega)]
theorem sizeOf_eq {x : Int} (h : -9223372036854775807 ≤ x) (h1 : x ≤ 9223372036854775807) : laws_sizeOf.f x = some (x.natAbs : Int) := by
  unfold laws_sizeOf.f; rw [mx_abs h h1]
theorem draw_ev {s l : List Int} (hs : IsCode s) (ho : spec_l6Open.f l = some (s, 0)) : ∃ (form : List Int) (A : List (List Int)) (d : Int), Small form ∧ RowsOk A ∧ Ev (fun k => spec_DrawMoveSplit.f k l) (form, A, d) := by
  obtain ⟨form, A, d, q, hF, hA, d0, d1, hq, hm⟩ := l92Move_ev hs
  exact ⟨form, A, d, hF, hA, Ev.bind0 ho (Ev.bind hm (Ev.now _))⟩
theorem val_l (form : List Int) (list : List (List Int)) (hf : fOk form = true) (w : List Int) (hw : vOk form.length 1000 w = true) (h0 : dot3 form w w ≠ 0) (i : Nat) (hi : i < list.length) (hl : list.length ≤ 1000) (he : list[i] = w) (q : Bool) (sg : Int) (q2 : Bool) (A : List (List Int)) (d : Int) (C : List (List Int)) (dc : Int) (R : Bool)
    (hR : Ev (fun k => laws_FnSplitMove.l0 k form list q sg q2 ((i + 1 : Nat) : Int) A d C dc) R) : ∀ (m j : Nat) (s : Int), j + m = form.length → -(100000000 * (j : Int)) ≤ s → s ≤ 100000000 * (j : Int) → s + dot3 (form.drop j) (w.drop j) (w.drop j) = dot3 form w w →
    Ev (fun k => laws_FnSplitMove.l1 k form list q sg q2 (i : Int) s (j : Int) A d C dc) R := by
  have hn := fOk_len hf
  have hwl := vOk_len hw
  intro m
  induction m with
  | zero =>
    intro j s h _ _ hs
    rw [dot3_nil (by omega), Int.add_zero] at hs
    refine Ev.step (fun k => laws_FnSplitMove.l1.eq_2 _ _ _ _ _ _ _ _ _ _ _ _ k) (Ev.neg (by omega) (Ev.neg (by omega) ?_))
    rw [w64s (by omega)]; exact hR
  | succ m ih =>
    intro j s h s1 s2 hs
    have b1 := fOk_mem hf _ (rd_mem (show j < form.length by omega))
    have b2 := vOk_mem hw _ (rd_mem (show j < w.length by omega))
    have b := mul3_bd (a := rd form (j : Int)) (b := rd w (j : Int)) (c := rd w (j : Int)) (B := 1000) (C := 1000) (by omega) b2 b2 (by omega) (by omega)
    refine Ev.step (fun k => laws_FnSplitMove.l1.eq_2 _ _ _ _ _ _ _ _ _ _ _ _ k) (Ev.pos (by omega) (Ev.pos (by omega) (Ev.pos (by omega) (Ev.pos (by omega) (Ev.pos (by rw [rdL2_at hi, he]; omega) ?_)))))
    rw [rdL2_at hi, he, w64s (by omega), w64 (a := rd form (j : Int) * rd w (j : Int)) (by omega) (by omega), w64 (a := rd form (j : Int) * rd w (j : Int) * rd w (j : Int)) (by omega) (by omega), w64 (a := s + _) (by omega) (by omega)]
    refine ih (j + 1) _ (by omega) (by omega) (by omega) ?_
    rw [← hs, dot3_drop (show j < form.length by omega) (by omega) (by omega)]; omega
theorem vals_l (form : List Int) (list : List (List Int)) (hf : fOk form = true) (hl : list.length ≤ 1000) (hw : ∀ w ∈ list, vOk form.length 1000 w = true ∧ dot3 form w w ≠ 0) (q : Bool) (sg : Int) (q2 : Bool) (A : List (List Int)) (d : Int) (C : List (List Int)) (dc : Int) (R : Bool)
    (hR : Ev (fun k => laws_FnSplitMove.l0 k form list q sg q2 (list.length : Int) A d C dc) R) : ∀ (m i : Nat), i + m = list.length → Ev (fun k => laws_FnSplitMove.l0 k form list q sg q2 (i : Int) A d C dc) R := by
  intro m
  induction m with
  | zero => intro i h; obtain rfl : i = list.length := by omega
            exact hR
  | succ m ih =>
    intro i h
    have hi : i < list.length := by omega
    obtain ⟨w1, w2⟩ := hw _ (List.getElem_mem hi)
    refine Ev.step (fun k => laws_FnSplitMove.l0.eq_2 _ _ _ _ _ _ _ _ _ _ k) (Ev.pos (by omega) ?_)
    exact val_l form list hf _ w1 w2 i hi hl rfl q sg q2 A d C dc R (ih (i + 1) (by omega)) form.length 0 0 (by omega) (by omega) (by omega) (by simp)
end FnSplitMoveFun
open FnSplitMoveFun
theorem FnSplitMove : laws_FnSplitMove.Pure := by
  intro l _ _ hw
  refine Ev.rounds (r := true) ?_
  unfold laws_FnSplitMove.f
  by_cases hl : (l.length : Int) > 1048576
  · exact Ev.pos hl (Ev.now _)
  · refine Ev.neg hl ?_
    obtain ⟨s, hs, ho⟩ := open_ev hw
    obtain ⟨form, A, d, hF, hA, hdraw⟩ := draw_ev hs ho
    have ht := small_tame hF
    have hF5 := hF.1
    have hrows : RowsOk (splitB form A d).1 := by
      by_cases h : (splitB form A d).2 = true
      · obtain ⟨hv, hm, hk, _⟩ := split_ok h
        have h3 := (mvB_of hv).2.1
        exact ⟨by omega, fun r hr => by have := vOk_len (mirB_ok (hm r hr)).2.2.1; omega⟩
      · have go : ∀ (m i : Nat) (ls A : List (List Int)) (d : Int), (splitGo form m i ls A d).2 ≠ true → (splitGo form m i ls A d).1 = [] := by
          intro m
          induction m with
          | zero => intro i ls A d h; exact absurd rfl h
          | succ m ih =>
            intro i ls A d h
            unfold splitGo at h ⊢
            split at h
            · rename_i h1; rw [if_pos h1]; exact ih _ _ _ _ h
            · rename_i h1
              rw [if_neg h1]
              split at h
              · rename_i h2
                rw [if_pos h2]
                split at h
                · rename_i h3
                  rw [if_pos h3]
                  split at h
                  · rename_i h4; rw [if_pos h4]; exact ih _ _ _ _ h
                  · rename_i h4; rw [if_neg h4]
                · rename_i h3; rw [if_neg h3]
              · rename_i h2
                rw [if_neg h2]
                split at h
                · rename_i h4; rw [if_pos h4]; exact ih _ _ _ _ h
                · rename_i h4; rw [if_neg h4]
        have : (splitB form A d).1 = [] := by
          unfold splitB at h ⊢
          split at h
          · rename_i h1; rw [if_pos h1]; exact go _ _ _ _ _ h
          · rename_i h1; rw [if_neg h1]
        rw [this]; exact rows_nil
    have same := sameLists_ev _ hrows
    refine Ev.bind hdraw (Ev.bind (iSplit_ev form A d ht hA) (Ev.bind (sSplit_ev form A d (by omega) hA) (Ev.neg (by simp) (Ev.bind same (Ev.pos rfl (Ev.step (fun k => laws_FnSplitMove.j0.eq_2 _ _ _ _ _ _ _ _ k) ?_))))))
    by_cases h : (splitB form A d).2 = true
    · obtain ⟨hv, hm, hk, hd2, _⟩ := split_ok h
      obtain ⟨hf, h3, _⟩ := mvB_of hv
      have hn := fOk_len hf
      have hll := lessN_le form
      have hso := fun ho => split_of (form := form) (A := A) (d := d) h ho
      have hrr : ∀ w ∈ (splitB form A d).1, w.length ≤ 1000 := fun w hw => hrows.2 w hw
      generalize (splitB form A d).1 = ls at hm hk hd2 hrows same hso hrr ⊢
      have fin : Ev (fun k => if ((ls.length : Int) : Int) ≤ (wrap64 (2 * (form.length : Int))) then ((laws_sizeOf.f ((form.length : Int) - 2 * (lessN form : Int))).bind fun t626 => (if t626 < (form.length : Int) then (some true) else (some (decide ((ls.length : Int) ≤ (form.length : Int)))))) else (none)) true := by
        refine Ev.pos (by rw [w64 (by omega) (by omega)]; omega) (Ev.bind0 (sizeOf_eq (by omega) (by omega)) ?_)
        by_cases e : ((((form.length : Int) - 2 * (lessN form : Int)).natAbs : Nat) : Int) < (form.length : Int)
        · exact Ev.pos e (Ev.now _)
        · have := hd2 (by omega)
          exact Ev.neg e (Ev.nows (decide_eq_true (by omega)))
      refine Ev.neg (by simp [h]) (Ev.bind (iOf_ev form ls ht (by omega) hrr) (Ev.bind (iSigns_ev form ht hf) ?_))
      refine vals_l form ls hf (by omega) (fun w hw => ⟨(mirB_ok (hm w hw)).2.2.1, (mirB_ok (hm w hw)).2.2.2.1⟩) _ _ _ _ _ _ _ _ ?_ ls.length 0 (by omega)
      refine Ev.step (fun k => laws_FnSplitMove.l0.eq_2 _ _ _ _ _ _ _ _ _ _ k) (Ev.neg (by omega) (Ev.pos rfl ?_))
      by_cases e : (ofB form ls).2.2 = true
      · obtain ⟨e1, e2⟩ := hso e
        rw [e1, e2]
        exact Ev.pos e (Ev.bind (sameMove_ev _ _ hA) (Ev.pos rfl fin))
      · exact Ev.neg e fin
    · exact Ev.pos (by simpa using h) (Ev.pos (by simp) (Ev.bind same (Ev.now _)))
end Go.Proofs.Ytnbeeogmaamgdaa.Pure
