/- The law FnCarry holds: vectors of one value are carried to each other. For every list of bytes; no condition. -/
import Derived.Test.YtnbeeogmaamgdaaPFnCarryx
import Derived.Test.YtnbeeogmaamgdaaCar
namespace Go.Proofs.Ytnbeeogmaamgdaa.Pure
open Go.RowKit Go.Proofs.Ytnbeeogmaamgdaa.PFnCarry Go.Proofs.YtnbeeogmaamgdaaW.PrintWords Go.Proofs.YtnbeeogmaamgdaaW.PrintLast Go.Proofs.YtnbeeogmaamgdaaW.PrintMore Go.Proofs.Ytnbeeogmaamgdaa.Aid
namespace FnCarryFun
set_option linter.unusedVariables false
theorem in_eq (a b c : Int) : spec_l6In.f a b c = some (decide (b ≤ a ∧ a ≤ c)) := by
  unfold spec_l6In.f
  by_cases h : b ≤ a <;> simp [h]
theorem size_eq {x : Int} (h : -9223372036854775807 ≤ x) (h1 : x ≤ 9223372036854775807) : impl_size.f x = some (x.natAbs : Int) := by
  unfold impl_size.f; rw [mx_abs h h1]
theorem gcd_l1 (xs : List Int) (n i : Int) (r : Int) : ∀ (B b a : Nat), b ≤ B → Ev (fun k => impl_gcd.l0 k (Nat.gcd a b : Int) xs n (wrap64 (i + 1))) r → Ev (fun k => impl_gcd.l1 k (a : Int) (b : Int) xs n i) r := by
  intro B
  induction B with
  | zero =>
    intro b a h hr
    obtain rfl : b = 0 := by omega
    refine Ev.step (fun k => impl_gcd.l1.eq_2 _ _ _ _ _ k) (Ev.pos rfl ?_)
    simpa using hr
  | succ B ih =>
    intro b a h hr
    rcases Nat.eq_zero_or_pos b with rfl | hb
    · refine Ev.step (fun k => impl_gcd.l1.eq_2 _ _ _ _ _ k) (Ev.pos rfl ?_)
      simpa using hr
    · refine Ev.step (fun k => impl_gcd.l1.eq_2 _ _ _ _ _ k) (Ev.neg (by omega) ?_)
      have e : Int.tmod (a : Int) (b : Int) = ((a % b : Nat) : Int) := by rw [Int.tmod_eq_emod_of_nonneg (by omega)]; rfl
      rw [e]
      refine ih (a % b) b (by have := Nat.mod_lt a hb; omega) ?_
      rwa [show Nat.gcd b (a % b) = Nat.gcd a b by rw [Nat.gcd_comm a b, Nat.gcd_rec b a, Nat.gcd_comm]]
theorem gcd_l0 (xs : List Int) (hn : xs.length ≤ 17592186044416) (hb : ∀ x ∈ xs, -9223372036854775807 ≤ x ∧ x ≤ 9223372036854775807) : ∀ (m i g : Nat), i + m = xs.length → Ev (fun k => impl_gcd.l0 k (g : Int) xs (xs.length : Int) (i : Int)) (gcdL g (xs.drop i) : Int) := by
  intro m
  induction m with
  | zero =>
    intro i g h
    refine Ev.step (fun k => impl_gcd.l0.eq_2 _ _ _ _ k) (Ev.neg (by omega) (Ev.nows ?_))
    rw [List.drop_of_length_le (by omega)]; rfl
  | succ m ih =>
    intro i g h
    have hx := hb _ (rd_mem (show i < xs.length by omega))
    refine Ev.step (fun k => impl_gcd.l0.eq_2 _ _ _ _ k) (Ev.pos (by omega) (Ev.pos (by omega) (Ev.pos (by omega) (Ev.bind0 (size_eq hx.1 hx.2) ?_))))
    refine gcd_l1 _ _ _ _ _ _ _ (Nat.le_refl _) ?_
    rw [w64s (by omega), drop_rd (show i < xs.length by omega)]
    exact ih (i + 1) _ (by omega)
theorem gcd_ev (xs : List Int) (hn : xs.length ≤ 17592186044416) (hb : ∀ x ∈ xs, -9223372036854775807 ≤ x ∧ x ≤ 9223372036854775807) : Ev (fun k => impl_gcd.f k xs) (gcdL 0 xs : Int) := by
  unfold impl_gcd.f
  exact gcd_l0 xs hn hb xs.length 0 0 (by omega)
theorem l1Size_eq {x : Int} (h : -9223372036854775807 ≤ x) (h1 : x ≤ 9223372036854775807) : spec_l1Size.f x = some (x.natAbs : Int) := by
  unfold spec_l1Size.f; rw [mx_abs h h1]
theorem l1Gcd_l : ∀ (B b a : Nat), b ≤ B → Ev (fun k => spec_l1Gcd.l0 k (a : Int) (b : Int)) (Nat.gcd a b : Int) := by
  intro B
  induction B with
  | zero =>
    intro b a h
    obtain rfl : b = 0 := by omega
    exact Ev.step (fun k => spec_l1Gcd.l0.eq_2 _ _ k) (Ev.pos rfl (Ev.nows (by simp)))
  | succ B ih =>
    intro b a h
    rcases Nat.eq_zero_or_pos b with rfl | hb
    · exact Ev.step (fun k => spec_l1Gcd.l0.eq_2 _ _ k) (Ev.pos rfl (Ev.nows (by simp)))
    · refine Ev.step (fun k => spec_l1Gcd.l0.eq_2 _ _ k) (Ev.neg (by omega) ?_)
      have e : Int.tmod (a : Int) (b : Int) = ((a % b : Nat) : Int) := by rw [Int.tmod_eq_emod_of_nonneg (by omega)]; rfl
      rw [e]
      refine Ev.to (ih (a % b) b (by have := Nat.mod_lt a hb; omega)) ?_
      rw [show Nat.gcd b (a % b) = Nat.gcd a b by rw [Nat.gcd_comm a b, Nat.gcd_rec b a, Nat.gcd_comm]]
theorem l1Gcd_ev {a b : Int} (ha : -9223372036854775807 ≤ a) (ha1 : a ≤ 9223372036854775807) (hb : -9223372036854775807 ≤ b) (hb1 : b ≤ 9223372036854775807) : Ev (fun k => spec_l1Gcd.f k a b) (Nat.gcd a.natAbs b.natAbs : Int) := by
  unfold spec_l1Gcd.f
  exact Ev.bind0 (l1Size_eq ha ha1) (Ev.bind0 (l1Size_eq hb hb1) (l1Gcd_l _ _ _ (Nat.le_refl _)))

theorem fOk_no {form : List Int} {x : Int} (h : x ∈ form) (hx : ¬ (x ≠ 0 ∧ -30 ≤ x ∧ x ≤ 30)) : fOk form = false := by
  unfold fOk; exact decide_eq_false (fun k => hx (k.2.2 x h))
theorem fOk_end {xs : List Int} (h : ∀ j, j < xs.length → rd xs (j : Int) ≠ 0 ∧ -30 ≤ rd xs (j : Int) ∧ rd xs (j : Int) ≤ 30) : fOk xs = decide (1 ≤ xs.length ∧ xs.length ≤ 4) := by
  have ha : ∀ x ∈ xs, x ≠ 0 ∧ -30 ≤ x ∧ x ≤ 30 := by
    intro x hx
    obtain ⟨j, hj, rfl⟩ := List.getElem_of_mem hx
    have := h j hj
    rwa [rd_at, List.getD_eq_getElem?_getD, List.getElem?_eq_getElem hj] at this
  unfold fOk
  by_cases h4 : 1 ≤ xs.length ∧ xs.length ≤ 4
  · rw [decide_eq_true h4]; exact decide_eq_true ⟨h4.1, h4.2, ha⟩
  · rw [decide_eq_false h4]; exact decide_eq_false (fun k => h4 ⟨k.1, k.2.1⟩)
theorem iFormValid_l (xs : List Int) (ht : Tame xs) : ∀ (m i : Nat), i + m = xs.length → (∀ j, j < i → j < xs.length → rd xs (j : Int) ≠ 0 ∧ -30 ≤ rd xs (j : Int) ∧ rd xs (j : Int) ≤ 30) →
    Ev (fun k => impl_FormValid.l0 k xs xs (xs.length : Int) (i : Int)) (fOk xs) := by
  have hn := ht.1
  intro m
  induction m with
  | zero =>
    intro i h hj
    have e := fOk_end (xs := xs) (fun j hj1 => hj j (by omega) hj1)
    refine Ev.step (fun k => impl_FormValid.l0.eq_2 _ _ _ _ k) (Ev.neg (by omega) ?_)
    by_cases h1 : (xs.length : Int) ≥ 1
    · refine Ev.pos h1 (Ev.nows ?_)
      rw [e, decide_eq_decide]; omega
    · refine Ev.neg h1 (Ev.nows ?_)
      rw [e]; exact (decide_eq_false (by omega)).symm
  | succ m ih =>
    intro i h hj
    have hb := ht.2 _ (rd_mem (show i < xs.length by omega))
    refine Ev.step (fun k => impl_FormValid.l0.eq_2 _ _ _ _ k) (Ev.pos (by omega) (Ev.pos (by omega) (Ev.pos (by omega) ?_)))
    by_cases h1 : rd xs (i : Int) = 0
    · exact Ev.pos h1 (Ev.nows (fOk_no (rd_mem (by omega)) (fun k => k.1 h1)).symm)
    · refine Ev.neg h1 (Ev.bind0 (size_eq hb.1 hb.2) ?_)
      by_cases h2 : (((rd xs (i : Int)).natAbs : Nat) : Int) > 30
      · exact Ev.pos h2 (Ev.nows (fOk_no (rd_mem (show i < xs.length by omega)) (by omega)).symm)
      · refine Ev.neg h2 ?_
        rw [w64s (by omega)]
        refine ih (i + 1) (by omega) (fun j h5 h6 => ?_)
        rcases (by omega : j < i ∨ j = i) with h7 | rfl
        · exact hj j h7 h6
        · exact ⟨h1, by omega, by omega⟩
theorem iFormValid_ev (xs : List Int) (ht : Tame xs) : Ev (fun k => impl_FormValid.f k xs) (fOk xs) := by
  unfold impl_FormValid.f
  exact iFormValid_l xs ht xs.length 0 (by omega) (by omega)
theorem vOk_no {n : Nat} {most : Int} {v : List Int} {x : Int} (h : x ∈ v) (hx : ¬ (-most ≤ x ∧ x ≤ most)) : vOk n most v = false := by
  unfold vOk; exact decide_eq_false (fun k => hx (k.2 x h))
theorem vOk_end {n : Nat} {most : Int} {v : List Int} (h : ∀ j, j < v.length → -most ≤ rd v (j : Int) ∧ rd v (j : Int) ≤ most) : vOk n most v = ((v.length : Int) == (n : Int)) := by
  have ha : ∀ x ∈ v, -most ≤ x ∧ x ≤ most := by
    intro x hx
    obtain ⟨j, hj, rfl⟩ := List.getElem_of_mem hx
    have := h j hj
    rwa [rd_at, List.getD_eq_getElem?_getD, List.getElem?_eq_getElem hj] at this
  unfold vOk
  by_cases h4 : v.length = n
  · rw [decide_eq_true (show _ from ⟨h4, ha⟩), h4]; simp
  · rw [decide_eq_false (fun k => h4 k.1)]; simp; omega
theorem iVectorOk_l (form v : List Int) (most : Int) (hm0 : 0 ≤ most) (hm : most ≤ 1000000000) (hn : v.length ≤ 17592186044416) : ∀ (m i : Nat), i + m = v.length → (∀ j, j < i → j < v.length → -most ≤ rd v (j : Int) ∧ rd v (j : Int) ≤ most) →
    Ev (fun k => impl_vectorOk.l0 k form v most v (v.length : Int) (i : Int)) (vOk form.length most v) := by
  intro m
  induction m with
  | zero =>
    intro i h hj
    exact Ev.step (fun k => impl_vectorOk.l0.eq_2 _ _ _ _ _ _ k) (Ev.neg (by omega) (Ev.nows (vOk_end (fun j h1 => hj j (by omega) h1)).symm))
  | succ m ih =>
    intro i h hj
    refine Ev.step (fun k => impl_vectorOk.l0.eq_2 _ _ _ _ _ _ k) (Ev.pos (by omega) (Ev.pos (by omega) (Ev.pos (by omega) ?_)))
    rw [w64 (a := -most) (by omega) (by omega)]
    by_cases h1 : rd v (i : Int) < -most
    · exact Ev.pos h1 (Ev.nows (vOk_no (rd_mem (show i < v.length by omega)) (by omega)).symm)
    · refine Ev.neg h1 ?_
      by_cases h2 : rd v (i : Int) > most
      · exact Ev.pos h2 (Ev.nows (vOk_no (rd_mem (show i < v.length by omega)) (by omega)).symm)
      · refine Ev.neg h2 ?_
        rw [w64s (by omega)]
        refine ih (i + 1) (by omega) (fun j h5 h6 => ?_)
        rcases (by omega : j < i ∨ j = i) with h7 | rfl
        · exact hj j h7 h6
        · exact ⟨by omega, by omega⟩
theorem iVectorOk_ev (form v : List Int) (most : Int) (hm0 : 0 ≤ most) (hm : most ≤ 1000000000) (hn : v.length ≤ 17592186044416) : Ev (fun k => impl_vectorOk.f k form v most) (vOk form.length most v) := by
  unfold impl_vectorOk.f
  exact iVectorOk_l form v most hm0 hm hn v.length 0 (by omega) (by omega)
theorem dot3_drop {f v w : List Int} {i : Nat} (hf : i < f.length) (hv : i < v.length) (hw : i < w.length) :
    dot3 (f.drop i) (v.drop i) (w.drop i) = rd f (i : Int) * rd v (i : Int) * rd w (i : Int) + dot3 (f.drop (i + 1)) (v.drop (i + 1)) (w.drop (i + 1)) := by
  rw [drop_rd hf, drop_rd hv, drop_rd hw]; rfl
theorem dot3_nil {f v w : List Int} {i : Nat} (hf : f.length ≤ i) : dot3 (f.drop i) (v.drop i) (w.drop i) = 0 := by
  rw [List.drop_of_length_le hf]; rfl
theorem iPair_l (f v w : List Int) (hv : v.length = f.length) (hw : w.length = f.length) (hn : f.length ≤ 4) (hf : ∀ x ∈ f, -31 ≤ x ∧ x ≤ 31) (bv : ∀ x ∈ v, -1000000 ≤ x ∧ x ≤ 1000000) (bw : ∀ x ∈ w, -1000000 ≤ x ∧ x ≤ 1000000) :
    ∀ (m i : Nat) (s : Int), i + m = f.length → -(31000000000000 * i) ≤ s → s ≤ 31000000000000 * i → Ev (fun k => impl_pair.l0 k v w s f (f.length : Int) (i : Int)) (s + dot3 (f.drop i) (v.drop i) (w.drop i)) := by
  intro m
  induction m with
  | zero =>
    intro i s h _ _
    exact Ev.step (fun k => impl_pair.l0.eq_2 _ _ _ _ _ _ k) (Ev.neg (by omega) (Ev.nows (by rw [dot3_nil (by omega)]; omega)))
  | succ m ih =>
    intro i s h h1 h2
    have b1 := hf _ (rd_mem (show i < f.length by omega))
    have b2 := bv _ (rd_mem (show i < v.length by omega))
    have b3 := bw _ (rd_mem (show i < w.length by omega))
    have b := mul3_bd b1 b2 b3 (by omega) (by omega)
    refine Ev.step (fun k => impl_pair.l0.eq_2 _ _ _ _ _ _ k) (Ev.pos (by omega) (Ev.pos (by omega) (Ev.pos (by omega) (Ev.pos (by omega) (Ev.pos (by omega) ?_)))))
    rw [w64s (by omega), w64 (a := rd f (i : Int) * rd v (i : Int)) (by omega) (by omega), w64 (a := rd f (i : Int) * rd v (i : Int) * rd w (i : Int)) (by omega) (by omega), w64 (a := s + _) (by omega) (by omega), dot3_drop (show i < f.length by omega) (by omega) (by omega)]
    refine Ev.to (ih (i + 1) _ (by omega) (by omega) (by omega)) (by omega)
theorem iPair_ev (f v w : List Int) (hv : v.length = f.length) (hw : w.length = f.length) (hn : f.length ≤ 4) (hf : ∀ x ∈ f, -31 ≤ x ∧ x ≤ 31) (bv : ∀ x ∈ v, -1000000 ≤ x ∧ x ≤ 1000000) (bw : ∀ x ∈ w, -1000000 ≤ x ∧ x ≤ 1000000) :
    Ev (fun k => impl_pair.f k f v w) (dot3 f v w) := by
  unfold impl_pair.f
  have h := iPair_l f v w hv hw hn hf bv bw f.length 0 0 (by omega) (by omega) (by omega)
  exact Ev.to h (by simp)
theorem rdL2_at {rows : List (List Int)} {i : Nat} (h : i < rows.length) : rd_L1 rows (i : Int) = rows[i] := by
  unfold rd_L1; simp [h]
theorem iColumn_l (rows : List (List Int)) (j : Nat) (hn : rows.length ≤ 1000) (hr : ∀ r ∈ rows, j < r.length) : ∀ (m i : Nat), i + m = rows.length →
    Ev (fun k => impl_column.l0 k (j : Int) (colL (rows.take i) j) rows (rows.length : Int) (i : Int)) (colL rows j) := by
  intro m
  induction m with
  | zero =>
    intro i h
    exact Ev.step (fun k => impl_column.l0.eq_2 _ _ _ _ _ k) (Ev.neg (by omega) (Ev.nows (by rw [List.take_of_length_le (by omega)])))
  | succ m ih =>
    intro i h
    have hi : i < rows.length := by omega
    have hri : j < (rd_L1 rows (i : Int)).length := by rw [rdL2_at hi]; exact hr _ (List.getElem_mem hi)
    have hc : (colL (rows.take i) j).length = i := by rw [colL_len, List.length_take]; omega
    refine Ev.step (fun k => impl_column.l0.eq_2 _ _ _ _ _ k) (Ev.pos (by omega) (Ev.pos (by omega) (Ev.pos (by omega) (Ev.pos (by omega) (Ev.pos (by omega) (Ev.pos (by omega) ?_))))))
    rw [w64s (by omega)]
    have e : colL (rows.take i) j ++ [rd (rd_L1 rows (i : Int)) (j : Int)] = colL (rows.take (i + 1)) j := by
      rw [take_s hi, rdL2_at hi]; unfold colL; rw [List.map_append]; rfl
    rw [e]
    exact ih (i + 1) (by omega)
theorem iColumn_ev (rows : List (List Int)) (den : Int) (j : Nat) (hn : rows.length ≤ 1000) (hr : ∀ r ∈ rows, j < r.length) : Ev (fun k => impl_column.f k rows den (j : Int)) (colL rows j) := by
  unfold impl_column.f
  exact iColumn_l rows j hn hr rows.length 0 (by omega)
theorem rdL2_mem {rows : List (List Int)} {i : Nat} (h : i < rows.length) : rd_L1 rows (i : Int) ∈ rows := by
  rw [rdL2_at h]; exact List.getElem_mem h
theorem iMoveValid_2 (form : List Int) (rows : List (List Int)) (den : Int) (hf : fOk form = true) (h3 : form.length ≤ 3) (hl : rows.length = form.length) (hd : 1 ≤ den ∧ den ≤ 10000)
    (hr : ∀ r ∈ rows, vOk form.length 1000000 r = true) :
    ∀ (m i : Nat), i + m = form.length → ∀ (m2 j : Nat), j + m2 = form.length → i < form.length →
      ((∀ a b, a < i + 1 → b < form.length → dot3 form (colL rows a) (colL rows b) = if a = b then rd form (a : Int) * den * den else 0) → Ev (fun k => impl_MoveValid.l1 k form (form.length : Int) (form.length : Int) ((i + 1 : Nat) : Int) rows den) (mvB form rows den)) →
      (∀ a b, (a < i ∨ a = i ∧ b < j) → b < form.length → dot3 form (colL rows a) (colL rows b) = if a = b then rd form (a : Int) * den * den else 0) →
      Ev (fun k => impl_MoveValid.l2 k form (form.length : Int) (i : Int) (form.length : Int) (i : Int) (form.length : Int) (j : Int) rows den) (mvB form rows den) := by
  intro m i hi m2
  induction m2 with
  | zero =>
    intro j hj hin h1 hp
    refine Ev.step (fun k => impl_MoveValid.l2.eq_2 _ _ _ _ _ _ _ _ _ k) (Ev.neg (by omega) ?_)
    rw [w64s (by omega)]
    exact h1 (fun a b ha hb => hp a b (by omega) hb)
  | succ m2 ih =>
    intro j hj hin h1 hp
    have hrl : ∀ c, c < form.length → ∀ r ∈ rows, c < r.length := fun c hc r h => by rw [vOk_len (hr r h)]; exact hc
    have hfb : ∀ x ∈ form, -31 ≤ x ∧ x ≤ 31 := fun x hx => by have := fOk_mem hf x hx; omega
    have bf := hfb _ (rd_mem hin)
    have step4 : ∀ w : Int, w = (if i = j then rd form (i : Int) * den * den else 0) → Ev (fun k => impl_MoveValid.j4 k form (form.length : Int) (i : Int) (j : Int) w (form.length : Int) (i : Int) (form.length : Int) (j : Int) rows den) (mvB form rows den) := by
      intro w hw
      refine Ev.step (fun k => impl_MoveValid.j4.eq_2 _ _ _ _ _ _ _ _ _ _ _ k) (Ev.bind (iColumn_ev rows den i (by omega) (hrl i hin)) (Ev.bind (iColumn_ev rows den j (by omega) (hrl j (by omega)))
        (Ev.bind (iPair_ev form (colL rows i) (colL rows j) (by rw [colL_len, hl]) (by rw [colL_len, hl]) (by omega) hfb (col_mem hr hin) (col_mem hr (by omega))) ?_)))
      by_cases h : dot3 form (colL rows i) (colL rows j) = w
      · refine Ev.pos h ?_
        rw [w64s (by omega)]
        refine ih (j + 1) (by omega) hin h1 (fun a b hab hb => ?_)
        rcases (by omega : (a < i ∨ a = i ∧ b < j) ∨ (a = i ∧ b = j)) with h5 | ⟨rfl, rfl⟩
        · exact hp a b h5 hb
        · rw [h, hw]
      · refine Ev.neg h (Ev.nows ?_)
        unfold mvB
        exact (decide_eq_false (fun k => h (by rw [k.2.2.2.2.2.2 i hin j (by omega), hw]))).symm
    refine Ev.step (fun k => impl_MoveValid.l2.eq_2 _ _ _ _ _ _ _ _ _ k) (Ev.pos (by omega) ?_)
    by_cases hij : i = j
    · refine Ev.pos (by omega) (Ev.pos (by omega) (Ev.pos (by omega) (step4 _ ?_)))
      have b1 : -310000 ≤ rd form (i : Int) * den ∧ rd form (i : Int) * den ≤ 310000 := by
        have := mul3_bd (a := rd form (i : Int)) (b := den) (c := 1) (B := 10000) (C := 1) bf (by omega) (by omega) (by omega) (by omega); omega
      have b2 : -3100000000 ≤ rd form (i : Int) * den * den ∧ rd form (i : Int) * den * den ≤ 3100000000 := by
        have := mul3_bd (a := rd form (i : Int)) (b := den) (c := den) (B := 10000) (C := 10000) bf (by omega) (by omega) (by omega) (by omega); omega
      rw [w64 (a := rd form (i : Int) * den) (by omega) (by omega), w64 (by omega) (by omega), if_pos hij]
    · exact Ev.neg (by omega) (step4 _ (by rw [if_neg hij]))
theorem iMoveValid_1 (form : List Int) (rows : List (List Int)) (den : Int) (hf : fOk form = true) (h3 : form.length ≤ 3) (hl : rows.length = form.length) (hd : 1 ≤ den ∧ den ≤ 10000)
    (hr : ∀ r ∈ rows, vOk form.length 1000000 r = true) (hg : gcdL 0 (den :: rows.flatten) = 1) :
    ∀ (m i : Nat), i + m = form.length →
      (∀ a b, a < i → b < form.length → dot3 form (colL rows a) (colL rows b) = if a = b then rd form (a : Int) * den * den else 0) →
      Ev (fun k => impl_MoveValid.l1 k form (form.length : Int) (form.length : Int) (i : Int) rows den) (mvB form rows den) := by
  intro m
  induction m with
  | zero =>
    intro i h hp
    refine Ev.step (fun k => impl_MoveValid.l1.eq_2 _ _ _ _ _ _ k) (Ev.neg (by omega) (Ev.nows ?_))
    unfold mvB
    exact (decide_eq_true ⟨hf, h3, hl, hd, hr, hg, fun a ha b hb => hp a b (by omega) hb⟩).symm
  | succ m ih =>
    intro i h hp
    refine Ev.step (fun k => impl_MoveValid.l1.eq_2 _ _ _ _ _ _ k) (Ev.pos (by omega) ?_)
    exact iMoveValid_2 form rows den hf h3 hl hd hr (m + 1) i h form.length 0 (by omega) (by omega) (ih (i + 1) (by omega)) (fun a b hab hb => hp a b (by omega) hb)
theorem iMoveValid_0 (form : List Int) (rows : List (List Int)) (den : Int) (hf : fOk form = true) (h3 : form.length ≤ 3) (hl : rows.length = form.length) (hd : 1 ≤ den ∧ den ≤ 10000) (hR : RowsOk rows) :
    ∀ (m i : Nat), i + m = rows.length → (∀ r ∈ rows.take i, vOk form.length 1000000 r = true) →
      Ev (fun k => impl_MoveValid.l0 k form (form.length : Int) (den :: (rows.take i).flatten) rows (rows.length : Int) (i : Int) rows den) (mvB form rows den) := by
  intro m
  induction m with
  | zero =>
    intro i h hp
    rw [List.take_of_length_le (by omega)] at hp ⊢
    have hb : ∀ x ∈ (den :: rows.flatten), -9223372036854775807 ≤ x ∧ x ≤ 9223372036854775807 := by
      intro x hx
      rcases List.mem_cons.1 hx with rfl | hx
      · omega
      · obtain ⟨r, hr, hx⟩ := List.mem_flatten.1 hx
        have := vOk_mem (hp r hr) x hx; omega
    have hfl : rows.flatten.length ≤ 9 := by
      rw [List.length_flatten]
      have : ∀ (l : List (List Int)), (∀ r ∈ l, r.length ≤ 3) → (l.map List.length).sum ≤ 3 * l.length := by
        intro l; induction l with
        | nil => intro _; simp
        | cons a l ih => intro h; have := ih (fun r hr => h r (by simp [hr])); have := h a (by simp); simp only [List.map_cons, List.sum_cons, List.length_cons]; omega
      have := this rows (fun r hr => by rw [vOk_len (hp r hr)]; exact h3); omega
    refine Ev.step (fun k => impl_MoveValid.l0.eq_2 _ _ _ _ _ _ _ _ k) (Ev.neg (by omega) (Ev.bind (gcd_ev _ (by simp only [List.length_cons]; omega) hb) ?_))
    by_cases hg : gcdL 0 (den :: rows.flatten) = 1
    · refine Ev.pos (by omega) ?_
      exact iMoveValid_1 form rows den hf h3 hl hd hp hg form.length 0 (by omega) (by omega)
    · refine Ev.neg (by omega) (Ev.nows ?_)
      unfold mvB
      exact (decide_eq_false (fun k => hg k.2.2.2.2.2.1)).symm
  | succ m ih =>
    intro i h hp
    have hi : i < rows.length := by omega
    refine Ev.step (fun k => impl_MoveValid.l0.eq_2 _ _ _ _ _ _ _ _ k) (Ev.pos (by omega) (Ev.pos (by omega) (Ev.pos (by omega) (Ev.bind (iVectorOk_ev form _ 1000000 (by omega) (by omega) (by have := hR.2 _ (rdL2_mem hi); omega)) ?_))))
    rw [rdL2_at hi]
    by_cases hv : vOk form.length 1000000 rows[i] = true
    · have hfl : (rows.take i).flatten.length ≤ 9 := by
        rw [List.length_flatten]
        have : ∀ (l : List (List Int)), (∀ r ∈ l, r.length ≤ 3) → (l.map List.length).sum ≤ 3 * l.length := by
          intro l; induction l with
          | nil => intro _; simp
          | cons a l ih => intro h; have := ih (fun r hr => h r (by simp [hr])); have := h a (by simp); simp only [List.map_cons, List.sum_cons, List.length_cons]; omega
        have := this (rows.take i) (fun r hr => by rw [vOk_len (hp r hr)]; exact h3)
        rw [List.length_take] at this; omega
      have hvl := vOk_len hv
      refine Ev.pos hv (Ev.pos (by simp only [List.length_cons]; omega) ?_)
      rw [w64s (by omega)]
      have e : (den :: (rows.take i).flatten) ++ rows[i] = den :: (rows.take (i + 1)).flatten := by
        rw [take_s hi, List.flatten_append]; simp
      rw [e]
      refine ih (i + 1) (by omega) (fun r hr => ?_)
      rw [take_s hi] at hr
      rcases List.mem_append.1 hr with hr | hr
      · exact hp r hr
      · simp at hr; rw [hr]; exact hv
    · refine Ev.neg hv (Ev.nows ?_)
      unfold mvB
      exact (decide_eq_false (fun k => hv (k.2.2.2.2.1 _ (List.getElem_mem hi)))).symm
theorem iMoveValid_ev (form : List Int) (rows : List (List Int)) (den : Int) (ht : Tame form) (hR : RowsOk rows) : Ev (fun k => impl_MoveValid.f k form rows den) (mvB form rows den) := by
  have hn := ht.1
  have bad : ¬ (fOk form = true ∧ form.length ≤ 3 ∧ rows.length = form.length ∧ (1 ≤ den ∧ den ≤ 10000)) → Ev (fun k => impl_MoveValid.j0 k form (form.length : Int) true rows den) (mvB form rows den) := by
    intro h
    refine Ev.step (fun k => impl_MoveValid.j0.eq_2 _ _ _ _ _ k) (Ev.pos rfl (Ev.nows ?_))
    unfold mvB
    exact (decide_eq_false (fun k => h ⟨k.1, k.2.1, k.2.2.1, k.2.2.2.1⟩)).symm
  unfold impl_MoveValid.f
  refine Ev.bind (iFormValid_ev form ht) ?_
  by_cases hf : fOk form = true
  · refine Ev.pos hf ?_
    by_cases h3 : form.length ≤ 3
    · refine Ev.neg (by omega) ?_
      by_cases hl : rows.length = form.length
      · refine Ev.pos (by omega) ?_
        by_cases h1 : den < 1
        · exact Ev.pos h1 (bad (fun k => by omega))
        · refine Ev.neg h1 ?_
          by_cases h2 : den > 10000
          · rw [decide_eq_true h2]; exact bad (fun k => by omega)
          · rw [decide_eq_false h2]
            refine Ev.step (fun k => impl_MoveValid.j0.eq_2 _ _ _ _ _ k) (Ev.neg (by simp) ?_)
            have := iMoveValid_0 form rows den hf h3 hl (by omega) hR rows.length 0 (by omega) (by simp)
            simpa using this
      · exact Ev.neg (by omega) (bad (fun k => hl k.2.2.1))
    · exact Ev.pos (by omega) (bad (fun k => h3 k.2.1))
  · exact Ev.neg hf (bad (fun k => hf k.1))
theorem clone_eq {l : List Int} (h : l.length ≤ 1000) : slices_Clone_int_int.f l = some l := by
  unfold slices_Clone_int_int.f; rw [if_pos (by omega)]
theorem iLowest_2 (form : List Int) (rows : List (List Int)) (d : Int) (hd : d ≠ 0) (out : List (List Int)) (od : Int) (R : List (List Int) × Int × Bool) (i : Nat) (r : List Int) (hr : r.length ≤ 1000) (hb : ∀ x ∈ r, -9000000000000000000 ≤ x ∧ x ≤ 9000000000000000000) (ho : out.length ≤ 1000)
    (hk : Ev (fun k => impl_lowest.l1 k form d rows (rows.length : Int) (wrap64 ((i : Int) + 1)) (out ++ [r.map fun x => Int.tdiv x d]) od) R) :
    ∀ (m j : Nat), j + m = r.length → Ev (fun k => impl_lowest.l2 k form d ((r.take j).map fun x => Int.tdiv x d) rows (rows.length : Int) (i : Int) r (r.length : Int) (j : Int) out od) R := by
  intro m
  induction m with
  | zero =>
    intro j h
    refine Ev.step (fun k => impl_lowest.l2.eq_2 _ _ _ _ _ _ _ _ _ _ _ k) (Ev.neg (by omega) (Ev.pos (by omega) ?_))
    rw [List.take_of_length_le (by omega)]; exact hk
  | succ m ih =>
    intro j h
    have hj : j < r.length := by omega
    have hc : ((r.take j).map fun x => Int.tdiv x d).length = j := by rw [List.length_map, List.length_take]; omega
    refine Ev.step (fun k => impl_lowest.l2.eq_2 _ _ _ _ _ _ _ _ _ _ _ k) (Ev.pos (by omega) (Ev.pos (by omega) (Ev.pos (by omega) (Ev.neg hd (Ev.pos (by omega) ?_)))))
    have b := hb _ (rd_mem hj)
    have b1 := tdiv_mag (rd r (j : Int)) d
    rw [w64s (by omega), w64 (a := Int.tdiv _ _) (by omega) (by omega)]
    have e : ((r.take j).map fun x => Int.tdiv x d) ++ [Int.tdiv (rd r (j : Int)) d] = (r.take (j + 1)).map fun x => Int.tdiv x d := by
      rw [take_s hj, List.map_append, rd_at, List.getD_eq_getElem?_getD, List.getElem?_eq_getElem hj]; rfl
    rw [e]
    exact ih (j + 1) (by omega)
theorem iLowest_1 (form : List Int) (rows : List (List Int)) (d : Int) (hd : d ≠ 0) (od : Int) (ht : Tame form) (hR : RowsB rows) :
    ∀ (m i : Nat), i + m = rows.length →
      Ev (fun k => impl_lowest.l1 k form d rows (rows.length : Int) (i : Int) ((rows.take i).map fun r => r.map fun x => Int.tdiv x d) od)
        (if mvB form (rows.map fun r => r.map fun x => Int.tdiv x d) od then (rows.map fun r => r.map fun x => Int.tdiv x d, od, true) else ([], 0, false)) := by
  intro m
  have hn := hR.1
  induction m with
  | zero =>
    intro i h
    refine Ev.step (fun k => impl_lowest.l1.eq_2 _ _ _ _ _ _ _ k) (Ev.neg (by omega) ?_)
    rw [List.take_of_length_le (by omega)]
    refine Ev.bind (iMoveValid_ev form _ od ht ⟨by rw [List.length_map]; exact hn, fun r hr => ?_⟩) ?_
    · obtain ⟨s, h1, rfl⟩ := List.mem_map.1 hr
      rw [List.length_map]; exact (hR.2 s h1).1
    · by_cases hv : mvB form (rows.map fun r => r.map fun x => Int.tdiv x d) od = true
      · exact Ev.to (Ev.pos hv (Ev.now _)) (if_pos hv).symm
      · exact Ev.to (Ev.neg hv (Ev.now _)) (if_neg hv).symm
  | succ m ih =>
    intro i h
    have hi : i < rows.length := by omega
    refine Ev.step (fun k => impl_lowest.l1.eq_2 _ _ _ _ _ _ _ k) (Ev.pos (by omega) (Ev.pos (by omega) (Ev.pos (by omega) ?_)))
    have hb := hR.2 _ (rdL2_mem hi)
    have hc : ((rows.take i).map fun r => r.map fun x => Int.tdiv x d).length = i := by rw [List.length_map, List.length_take]; omega
    have := iLowest_2 form rows d hd ((rows.take i).map fun r => r.map fun x => Int.tdiv x d) od _ i (rd_L1 rows (i : Int)) hb.1 hb.2 (by omega) (by
      rw [w64s (by omega)]
      have e : ((rows.take i).map fun r => r.map fun x => Int.tdiv x d) ++ [(rd_L1 rows (i : Int)).map fun x => Int.tdiv x d] = (rows.take (i + 1)).map fun r => r.map fun x => Int.tdiv x d := by
        rw [take_s hi, List.map_append, rdL2_at hi]; rfl
      rw [e]
      exact ih (i + 1) (by omega)) (rd_L1 rows (i : Int)).length 0 (by omega)
    simpa using this
theorem iLowest_0 (form : List Int) (rows : List (List Int)) (den : Int) (hd : den ≠ 0) (hd1 : -9000000000000000000 ≤ den ∧ den ≤ 9000000000000000000) (ht : Tame form) (hR : RowsB rows) :
    ∀ (m i : Nat), i + m = rows.length →
      Ev (fun k => impl_lowest.l0 k form (gcdL 0 (den :: (rows.take i).flatten) : Int) rows (rows.length : Int) (i : Int) rows den) (lowB form rows den) := by
  intro m
  have hn := hR.1
  have hg : ∀ l : List Int, 0 < gcdL 0 (den :: l) ∧ gcdL 0 (den :: l) ≤ den.natAbs := by
    intro l
    rw [gcdL_cons, Nat.gcd_zero_left, gcdL_gcd]
    exact ⟨Nat.gcd_pos_of_pos_left _ (by omega), gcd_le_left' (by omega)⟩
  induction m with
  | zero =>
    intro i h
    rw [List.take_of_length_le (by omega)]
    have hg1 := hg rows.flatten
    have fin : ∀ d : Int, d ≠ 0 → d = lowD rows den → Ev (fun k => impl_lowest.j1 k form d rows den) (lowB form rows den) := by
      intro d h0 hd2
      refine Ev.step (fun k => impl_lowest.j1.eq_2 _ _ _ _ k) (Ev.neg h0 ?_)
      have b1 := tdiv_mag den d
      rw [w64 (a := Int.tdiv _ _) (by omega) (by omega)]
      have := iLowest_1 form rows d h0 (Int.tdiv den d) ht hR rows.length 0 (by omega)
      unfold lowB lowR
      rw [← hd2]
      simpa using this
    refine Ev.step (fun k => impl_lowest.l0.eq_2 _ _ _ _ _ _ _ k) (Ev.neg (by omega) ?_)
    by_cases hneg : den < 0
    · refine Ev.pos hneg ?_
      rw [w64 (by omega) (by omega)]
      exact fin _ (by omega) (by unfold lowD; rw [if_pos hneg])
    · exact Ev.neg hneg (fin _ (by omega) (by unfold lowD; rw [if_neg hneg]))
  | succ m ih =>
    intro i h
    have hi : i < rows.length := by omega
    have hb := hR.2 _ (rdL2_mem hi)
    have hg1 := hg (rows.take i).flatten
    refine Ev.step (fun k => impl_lowest.l0.eq_2 _ _ _ _ _ _ _ k) (Ev.pos (by omega) (Ev.pos (by omega) (Ev.pos (by omega) (Ev.bind0 (clone_eq hb.1) (Ev.pos (by omega) (Ev.bind (gcd_ev _ (by rw [List.length_append]; simp only [List.length_cons, List.length_nil]; omega) (fun x hx => ?_)) ?_))))))
    · rcases List.mem_append.1 hx with hx | hx
      · have := hb.2 x hx; omega
      · rw [List.mem_singleton.1 hx]; omega
    · rw [rdL2_at hi, gcdL_flat rows den i hi, w64s (by omega)]
      exact ih (i + 1) (by omega)
theorem iLowest_ev (form : List Int) (rows : List (List Int)) (den : Int) (hd : den ≠ 0) (hd1 : -9000000000000000000 ≤ den ∧ den ≤ 9000000000000000000) (ht : Tame form) (hR : RowsB rows) :
    Ev (fun k => impl_lowest.f k form rows den) (lowB form rows den) := by
  unfold impl_lowest.f
  refine Ev.bind (gcd_ev [den] (by simp) (fun x hx => by rw [List.mem_singleton.1 hx]; omega)) ?_
  have := iLowest_0 form rows den hd hd1 ht hR rows.length 0 (by omega)
  simpa using this
section
variable (form w : List Int) (hf : fOk form = true) (h3 : form.length ≤ 3) (hw : vOk form.length 1000 w = true) (h0 : dot3 form w w ≠ 0)
include hf hw
include h3
theorem iMirror_1 (i : Nat) (hi : i < form.length) (out : List (List Int)) (ho : out.length ≤ 1000) (od : Int) (R : List (List Int) × Int × Bool)
    (hk : Ev (fun k => impl_MoveMirror.l0 k form w (dot3 form w w) (form.length : Int) (wrap64 ((i : Int) + 1)) (out ++ [(List.range form.length).map (mirF form w i)]) od) R) :
    ∀ (m k : Nat), k + m = form.length → Ev (fun n => impl_MoveMirror.l1 n form w (dot3 form w w) (i : Int) ((List.range k).map (mirF form w i)) (form.length : Int) (i : Int) (form.length : Int) (k : Int) out od) R := by
  intro m
  have hl := vOk_len hw
  have hq := mir_q form w hf h3 hw
  induction m with
  | zero =>
    intro k h
    obtain rfl : k = form.length := by omega
    exact Ev.step (fun k => impl_MoveMirror.l1.eq_2 _ _ _ _ _ _ _ _ _ _ _ k) (Ev.neg (by omega) (Ev.pos (by omega) hk))
  | succ m ih =>
    intro k h
    have hb := mir_b form w hf hw i k hi (by omega)
    have hc : ((List.range k).map (mirF form w i)).length = k := by rw [List.length_map, List.length_range]
    have := ih (k + 1) (by omega)
    rw [range_s] at this
    refine Ev.step (fun k => impl_MoveMirror.l1.eq_2 _ _ _ _ _ _ _ _ _ _ _ k) (Ev.pos (by omega) (Ev.pos (by omega) (Ev.pos (by omega) (Ev.pos (by omega) (Ev.pos (by omega) (Ev.pos (by omega) ?_))))))
    rw [w64s (by omega), w64 (a := -2 * rd w (i : Int)) (by omega) (by omega), w64 (a := -2 * rd w (i : Int) * rd form (k : Int)) (by omega) (by omega), w64 (a := -2 * rd w (i : Int) * rd form (k : Int) * rd w (k : Int)) (by omega) (by omega)]
    by_cases hik : i = k
    · rw [show mirF form w i k = -2 * rd w (i : Int) * rd form (k : Int) * rd w (k : Int) + dot3 form w w by unfold mirF; rw [if_pos hik]] at this
      refine Ev.pos (by omega) (Ev.pos (by omega) ?_)
      rw [w64 (a := -2 * rd w (i : Int) * rd form (k : Int) * rd w (k : Int) + dot3 form w w) (by omega) (by omega)]
      exact this
    · rw [show mirF form w i k = -2 * rd w (i : Int) * rd form (k : Int) * rd w (k : Int) by unfold mirF; rw [if_neg hik, Int.add_zero]] at this
      exact Ev.neg (by omega) (Ev.pos (by omega) this)
include h0 in
theorem iMirror_0 (ht : Tame form) : ∀ (m i : Nat), i + m = form.length →
    Ev (fun n => impl_MoveMirror.l0 n form w (dot3 form w w) (form.length : Int) (i : Int) ((List.range i).map fun i => (List.range form.length).map (mirF form w i)) (dot3 form w w))
      (lowB form (mirR form w) (dot3 form w w)) := by
  intro m
  have hq := mir_q form w hf h3 hw
  induction m with
  | zero =>
    intro i h
    obtain rfl : i = form.length := by omega
    refine Ev.step (fun k => impl_MoveMirror.l0.eq_2 _ _ _ _ _ _ _ k) (Ev.neg (by omega) (Ev.bind (iLowest_ev form (mirR form w) _ h0 (by omega) ht ?_) (Ev.now _)))
    refine mat_tame _ _ h3 (fun i k hi hk => ?_)
    have hb := mir_b form w hf hw i k hi hk
    unfold mirF; split <;> omega
  | succ m ih =>
    intro i h
    refine Ev.step (fun k => impl_MoveMirror.l0.eq_2 _ _ _ _ _ _ _ k) (Ev.pos (by omega) ?_)
    have := iMirror_1 form w hf h3 hw i (by omega) ((List.range i).map fun i => (List.range form.length).map (mirF form w i)) (by simp; omega) (dot3 form w w) (lowB form (mirR form w) (dot3 form w w)) (by
      rw [w64s (by omega)]
      have := ih (i + 1) (by omega)
      rw [range_s] at this; exact this) form.length 0 (by omega)
    simpa using this
end
theorem iMirror_ev (form w : List Int) (ht : Tame form) (hwl : w.length ≤ 1000) : Ev (fun k => impl_MoveMirror.f k form w) (mirB form w) := by
  have hn := ht.1
  have bad : ¬ (fOk form = true ∧ form.length ≤ 3 ∧ vOk form.length 1000 w = true) → Ev (fun k => impl_MoveMirror.j0 k form w true) (mirB form w) := by
    intro h
    refine Ev.step (fun k => impl_MoveMirror.j0.eq_2 _ _ _ k) (Ev.pos rfl (Ev.nows ?_))
    unfold mirB
    exact (if_neg (fun k => h ⟨k.1, k.2.1, k.2.2.1⟩)).symm
  unfold impl_MoveMirror.f
  refine Ev.bind (iFormValid_ev form ht) ?_
  by_cases hf : fOk form = true
  · refine Ev.pos hf ?_
    by_cases h3 : form.length ≤ 3
    · refine Ev.neg (by omega) (Ev.bind (iVectorOk_ev form w 1000 (by omega) (by omega) (by omega)) ?_)
      by_cases hw : vOk form.length 1000 w = true
      · have hfb : ∀ x ∈ form, -31 ≤ x ∧ x ≤ 31 := fun x hx => by have := fOk_mem hf x hx; omega
        have hwb : ∀ x ∈ w, -1000000 ≤ x ∧ x ≤ 1000000 := fun x hx => by have := vOk_mem hw x hx; omega
        rw [hw]
        refine Ev.step (fun k => impl_MoveMirror.j0.eq_2 _ _ _ k) (Ev.neg (by simp) (Ev.bind (iPair_ev form w w (vOk_len hw) (vOk_len hw) (by omega) hfb hwb hwb) ?_))
        by_cases h0 : dot3 form w w = 0
        · refine Ev.pos h0 (Ev.nows ?_)
          unfold mirB; exact (if_neg (fun k => k.2.2.2 h0)).symm
        · refine Ev.neg h0 ?_
          have := iMirror_0 form w hf h3 hw h0 ht form.length 0 (by omega)
          refine Ev.to this ?_
          unfold mirB; exact (if_pos ⟨hf, h3, hw, h0⟩).symm
      · rw [show vOk form.length 1000 w = false by simpa using hw]
        exact bad (fun k => hw k.2.2)
    · exact Ev.pos (by omega) (bad (fun k => h3 k.2.1))
  · exact Ev.neg hf (bad (fun k => hf k.1))
section
variable (n : Nat) (h3 : n ≤ 3) (A : List (List Int)) (hA : A.length = n) (rA : ∀ r ∈ A, vOk n 1000000 r = true) (da : Int) (v : List Int) (hv : vOk n 1000 v = true)
include h3 hA rA hv
theorem iOn_1 (i : Nat) (hi : i < n) (out : List Int) (ho : out.length ≤ 1000) (R : List Int × Int × Bool)
    (hR : Ev (fun k => impl_MoveOn.l0 k v (out ++ [dot2 (A.getD i []) v]) A (A.length : Int) ((i + 1 : Nat) : Int) A da) R) :
    ∀ (m j : Nat) (s : Int), j + m = n → -(1000000000 * (j : Int)) ≤ s → s ≤ 1000000000 * (j : Int) → s + dot2 ((A.getD i []).drop j) (v.drop j) = dot2 (A.getD i []) v →
      Ev (fun k => impl_MoveOn.l1 k v out (A.getD i []) s A (A.length : Int) (i : Int) v (v.length : Int) (j : Int) A da) R := by
  have hr := rA _ (List.getElem_mem (show i < A.length by omega))
  have hal : (A.getD i []).length = n := by rw [getD_at (by omega), vOk_len hr]
  have hvl := vOk_len hv
  intro m
  induction m with
  | zero =>
    intro j s h _ _ he
    rw [dot2_nil (by omega), Int.add_zero] at he
    refine Ev.step (fun k => impl_MoveOn.l1.eq_2 _ _ _ _ _ _ _ _ _ _ _ _ k) (Ev.neg (by omega) (Ev.bind0 rfl (Ev.pos (by simp only [List.length_cons, List.length_nil]; omega) ?_)))
    rw [he, w64s (by omega)]; exact hR
  | succ m ih =>
    intro j s h h1 h2 he
    have b1 : -1000000 ≤ rd (A.getD i []) (j : Int) ∧ rd (A.getD i []) (j : Int) ≤ 1000000 := by rw [getD_at (by omega)]; exact vOk_mem hr _ (rd_mem (by rw [vOk_len hr]; omega))
    have c := mul2_bd b1 (vOk_mem hv _ (rd_mem (show j < v.length by omega)))
    refine Ev.step (fun k => impl_MoveOn.l1.eq_2 _ _ _ _ _ _ _ _ _ _ _ _ k) (Ev.pos (by omega) (Ev.pos (by omega) (Ev.pos (by omega) (Ev.pos (by omega) ?_))))
    rw [w64s (by omega), w64 (a := rd (A.getD i []) (j : Int) * _) (by omega) (by omega), w64 (a := s + _) (by omega) (by omega)]
    refine ih (j + 1) _ (by omega) (by omega) (by omega) ?_
    rw [← he, dot2_drop (show j < (A.getD i []).length by omega) (by omega)]; omega
theorem iOn_2 (g : Nat) (hg : 0 < g) (hd : -1000000 ≤ da ∧ da ≤ 1000000) : ∀ (m i : Nat), i + m = n →
    Ev (fun k => impl_MoveOn.l2 k (((onR A v).take i).map (fun x => Int.tdiv x (g : Int)) ++ (onR A v).drop i) (g : Int) (n : Int) (i : Int) A da) ((onR A v).map fun x => Int.tdiv x (g : Int), Int.tdiv da (g : Int), true) := by
  have hl : (onR A v).length = n := by unfold onR; rw [List.length_map, hA]
  intro m
  induction m with
  | zero =>
    intro i h
    have b1 : (Int.tdiv da (g : Int)).natAbs ≤ da.natAbs := tdiv_mag _ _
    refine Ev.step (fun k => impl_MoveOn.l2.eq_2 _ _ _ _ _ _ k) (Ev.neg (by omega) (Ev.neg (by omega) (Ev.nows ?_)))
    rw [List.take_of_length_le (by omega), List.drop_of_length_le (by omega), List.append_nil, w64 (by omega) (by omega)]
  | succ m ih =>
    intro i h
    have hi : i < (onR A v).length := by omega
    have hc : (((onR A v).take i).map (fun x => Int.tdiv x (g : Int))).length = i := by rw [List.length_map, List.length_take]; omega
    have hlen : (((onR A v).take i).map (fun x => Int.tdiv x (g : Int)) ++ (onR A v).drop i).length = n := by rw [List.length_append, hc, List.length_drop]; omega
    have hrd : rd (((onR A v).take i).map (fun x => Int.tdiv x (g : Int)) ++ (onR A v).drop i) (i : Int) = (onR A v)[i] := by
      rw [rd_at, List.getD_eq_getElem?_getD, List.getElem?_append_right (by omega), hc, Nat.sub_self, List.getElem?_drop]
      simp [hi]
    have b := onR_bd n h3 A hA rA v hv _ (List.getElem_mem hi)
    have b1 : (Int.tdiv (onR A v)[i] (g : Int)).natAbs ≤ ((onR A v)[i]).natAbs := tdiv_mag _ _
    refine Ev.step (fun k => impl_MoveOn.l2.eq_2 _ _ _ _ _ _ k) (Ev.pos (by omega) (Ev.pos (by omega) (Ev.pos (by omega) (Ev.neg (by omega) ?_))))
    rw [hrd, w64s (by omega), w64 (a := Int.tdiv _ _) (by omega) (by omega)]
    have e : (((onR A v).take i).map (fun x => Int.tdiv x (g : Int)) ++ (onR A v).drop i).set ((i : Int)).toNat (Int.tdiv (onR A v)[i] (g : Int)) = ((onR A v).take (i + 1)).map (fun x => Int.tdiv x (g : Int)) ++ (onR A v).drop (i + 1) := by
      rw [show ((i : Int)).toNat = i from rfl, List.set_append_right _ _ (by omega), hc, Nat.sub_self, List.drop_eq_getElem_cons hi, take_s hi, List.map_append, List.append_assoc]
      rfl
    rw [e]
    exact ih (i + 1) (by omega)
theorem iOn_0 (hd : 1 ≤ da ∧ da ≤ 10000) : ∀ (m i : Nat), i + m = n → Ev (fun k => impl_MoveOn.l0 k v ((onR A v).take i) A (A.length : Int) (i : Int) A da)
    ((onR A v).map fun x => Int.tdiv x (gcdL 0 (da :: onR A v) : Int), Int.tdiv da (gcdL 0 (da :: onR A v) : Int), true) := by
  have hl : (onR A v).length = n := by unfold onR; rw [List.length_map, hA]
  intro m
  induction m with
  | zero =>
    intro i h
    have hb := onR_bd n h3 A hA rA v hv
    have e : gcdL 0 (onR A v ++ [da]) = gcdL 0 (da :: onR A v) := by
      have h1 : gcdL 0 (onR A v ++ [da]) = Nat.gcd (gcdL 0 (onR A v)) da.natAbs := by rw [gcdL_app]; rfl
      rw [h1, gcdL_cons, Nat.gcd_zero_left, gcdL_gcd (onR A v) da.natAbs, Nat.gcd_comm]
    have hg : 0 < gcdL 0 (da :: onR A v) := by
      rw [gcdL_cons, Nat.gcd_zero_left, gcdL_gcd]; exact Nat.gcd_pos_of_pos_left _ (by omega)
    refine Ev.step (fun k => impl_MoveOn.l0.eq_2 _ _ _ _ _ _ _ k) (Ev.neg (by omega) ?_)
    rw [List.take_of_length_le (by omega)]
    refine Ev.bind0 (clone_eq (by omega)) (Ev.bind0 rfl (Ev.pos (by simp only [List.length_cons, List.length_nil]; omega) (Ev.bind (gcd_ev _ (by rw [List.length_append]; simp only [List.length_cons, List.length_nil]; omega) (fun x hx => ?_)) ?_)))
    · rcases List.mem_append.1 hx with hx | hx
      · have := hb x hx; omega
      · rw [List.mem_singleton.1 hx]; omega
    · rw [e, hl]
      have := iOn_2 n h3 A hA rA da v hv _ hg (by omega) n 0 (by omega)
      simpa using this
  | succ m ih =>
    intro i h
    have hi : i < A.length := by omega
    have e : rd_L1 A (i : Int) = A.getD i [] := by unfold rd_L1; simp
    have hc : ((onR A v).take i).length = i := by rw [List.length_take]; omega
    refine Ev.step (fun k => impl_MoveOn.l0.eq_2 _ _ _ _ _ _ _ k) (Ev.pos (by omega) (Ev.pos (by omega) (Ev.pos (by omega) ?_)))
    rw [e]
    refine iOn_1 n h3 A hA rA da v hv i (by omega) _ (by omega) _ ?_ n 0 0 (by omega) (by omega) (by omega) (by simp)
    have e2 : (onR A v).take i ++ [dot2 (A.getD i []) v] = (onR A v).take (i + 1) := by
      rw [take_s (show i < (onR A v).length by omega), getD_at hi]
      congr 1
      unfold onR; simp
    rw [e2]
    exact ih (i + 1) (by omega)
end
theorem iMoveOn_ev (form : List Int) (A : List (List Int)) (da : Int) (v : List Int) (ht : Tame form) (hA : RowsOk A) (hvl : v.length ≤ 1000) : Ev (fun k => impl_MoveOn.f k form A da v) (onB form A da v) := by
  have bad : ¬ (mvB form A da = true ∧ vOk form.length 1000 v = true) → Ev (fun k => impl_MoveOn.j0 k v true A da) (onB form A da v) := by
    intro h
    refine Ev.step (fun k => impl_MoveOn.j0.eq_2 _ _ _ _ k) (Ev.pos rfl (Ev.nows ?_))
    unfold onB; exact (if_neg h).symm
  have hn := ht.1
  unfold impl_MoveOn.f
  refine Ev.bind (iMoveValid_ev form A da ht hA) ?_
  by_cases h1 : mvB form A da = true
  · refine Ev.pos h1 (Ev.bind (iVectorOk_ev form v 1000 (by omega) (by omega) (by omega)) ?_)
    by_cases h2 : vOk form.length 1000 v = true
    · rw [h2]
      obtain ⟨hf, h3, hl, hd, hr, _⟩ := mvB_of h1
      refine Ev.step (fun k => impl_MoveOn.j0.eq_2 _ _ _ _ k) (Ev.neg (by simp) ?_)
      refine Ev.to (iOn_0 form.length h3 A hl hr da v h2 hd form.length 0 (by omega)) ?_
      unfold onB; exact (if_pos ⟨h1, h2⟩).symm
    · rw [show vOk form.length 1000 v = false by simpa using h2]; exact bad (fun k => h2 k.2)
  · exact Ev.neg h1 (bad (fun k => h1 k.1))
theorem sFormValid_l (xs : List Int) (hn : xs.length ≤ 1000000) : ∀ (m i : Nat), i + m = xs.length → (∀ j, j < i → j < xs.length → rd xs (j : Int) ≠ 0 ∧ -30 ≤ rd xs (j : Int) ∧ rd xs (j : Int) ≤ 30) →
    Ev (fun k => spec_FormValid.l0 k xs (i : Int)) (fOk xs) := by
  intro m
  induction m with
  | zero =>
    intro i h hj
    refine Ev.step (fun k => spec_FormValid.l0.eq_2 _ _ k) (Ev.neg (by omega) (Ev.bind0 (in_eq _ _ _) (Ev.nows ?_)))
    rw [fOk_end (fun j h1 => hj j (by omega) h1)]
    exact decide_eq_decide.2 ⟨fun h => by omega, fun h => by omega⟩
  | succ m ih =>
    intro i h hj
    refine Ev.step (fun k => spec_FormValid.l0.eq_2 _ _ k) (Ev.pos (by omega) (Ev.pos (by omega) ?_))
    by_cases h1 : rd xs (i : Int) = 0
    · exact Ev.pos h1 (Ev.nows (fOk_no (rd_mem (show i < xs.length by omega)) (by omega)).symm)
    · refine Ev.neg h1 (Ev.bind0 (in_eq _ _ _) ?_)
      by_cases h2 : -30 ≤ rd xs (i : Int) ∧ rd xs (i : Int) ≤ 30
      · refine Ev.pos (decide_eq_true h2) ?_
        rw [w64s (by omega)]
        refine ih (i + 1) (by omega) (fun j h5 h6 => ?_)
        rcases (by omega : j < i ∨ j = i) with h7 | rfl
        · exact hj j h7 h6
        · exact ⟨h1, h2⟩
      · refine Ev.neg (by simpa using h2) (Ev.nows ?_)
        exact (fOk_no (rd_mem (show i < xs.length by omega)) (fun k => h2 k.2)).symm
theorem sFormValid_ev (xs : List Int) (hn : xs.length ≤ 1000000) : Ev (fun k => spec_FormValid.f k xs) (fOk xs) := by
  unfold spec_FormValid.f
  exact sFormValid_l xs hn xs.length 0 (by omega) (by omega)
theorem l7Form_ev (xs : List Int) (hn : xs.length ≤ 1000000) : Ev (fun k => spec_l7Form.f k xs) (decide (fOk xs = true ∧ xs.length ≤ 3)) := by
  unfold spec_l7Form.f
  refine Ev.bind (sFormValid_ev xs hn) ?_
  by_cases h : fOk xs = true
  · refine Ev.pos h (Ev.nows (decide_eq_decide.2 ⟨fun k => ⟨h, by omega⟩, fun k => by omega⟩))
  · exact Ev.neg h (Ev.nows (decide_eq_false (fun k => h k.1)).symm)
theorem l4Vector_l (form v : List Int) (M : Int) (h0 : 0 ≤ M) (hM : M ≤ 1000000000) (hn : form.length ≤ 1000000) (hv : v.length ≤ 1000000) : ∀ (m i : Nat), i + m = v.length → (∀ j, j < i → j < v.length → -M ≤ rd v (j : Int) ∧ rd v (j : Int) ≤ M) →
    Ev (fun k => spec_l4Vector.l0 k form v M (i : Int)) (fOk form && vOk form.length M v) := by
  intro m
  induction m with
  | zero =>
    intro i h hj
    refine Ev.step (fun k => spec_l4Vector.l0.eq_2 _ _ _ _ k) (Ev.neg (by omega) (Ev.bind (sFormValid_ev form hn) ?_))
    have e := vOk_end (n := form.length) (most := M) (v := v) (fun j h1 => hj j (by omega) h1)
    by_cases hf : fOk form = true
    · refine Ev.pos hf (Ev.nows ?_); rw [hf, e]; rfl
    · refine Ev.neg hf (Ev.nows ?_); rw [show fOk form = false by simpa using hf]; rfl
  | succ m ih =>
    intro i h hj
    refine Ev.step (fun k => spec_l4Vector.l0.eq_2 _ _ _ _ k) (Ev.pos (by omega) (Ev.pos (by omega) ?_))
    rw [w64 (a := -M) (by omega) (by omega)]
    refine Ev.bind0 (in_eq _ _ _) ?_
    by_cases h2 : -M ≤ rd v (i : Int) ∧ rd v (i : Int) ≤ M
    · refine Ev.pos (decide_eq_true h2) ?_
      rw [w64s (by omega)]
      refine ih (i + 1) (by omega) (fun j h5 h6 => ?_)
      rcases (by omega : j < i ∨ j = i) with h7 | rfl
      · exact hj j h7 h6
      · exact h2
    · refine Ev.neg (by simpa using h2) (Ev.nows ?_)
      rw [vOk_no (rd_mem (show i < v.length by omega)) h2, Bool.and_false]
theorem l4Vector_ev (form v : List Int) (M : Int) (h0 : 0 ≤ M) (hM : M ≤ 1000000000) (hn : form.length ≤ 1000000) (hv : v.length ≤ 1000000) : Ev (fun k => spec_l4Vector.f k form v M) (fOk form && vOk form.length M v) := by
  unfold spec_l4Vector.f
  exact l4Vector_l form v M h0 hM hn hv v.length 0 (by omega) (by omega)
theorem l4Value_l (f v : List Int) (hv : v.length = f.length) (hn : f.length ≤ 4) (hf : ∀ x ∈ f, -31 ≤ x ∧ x ≤ 31) (bv : ∀ x ∈ v, -1000000 ≤ x ∧ x ≤ 1000000) :
    ∀ (m i : Nat) (s : Int), i + m = f.length → -(31000000000000 * i) ≤ s → s ≤ 31000000000000 * i → Ev (fun k => spec_l4Value.l0 k f v s (i : Int)) (s + dot3 (f.drop i) (v.drop i) (v.drop i)) := by
  intro m
  induction m with
  | zero =>
    intro i s h _ _
    exact Ev.step (fun k => spec_l4Value.l0.eq_2 _ _ _ _ k) (Ev.neg (by omega) (Ev.nows (by rw [dot3_nil (by omega)]; omega)))
  | succ m ih =>
    intro i s h h1 h2
    have b1 := hf _ (rd_mem (show i < f.length by omega))
    have b2 := bv _ (rd_mem (show i < v.length by omega))
    have b := mul3_bd b1 b2 b2 (by omega) (by omega)
    refine Ev.step (fun k => spec_l4Value.l0.eq_2 _ _ _ _ k) (Ev.pos (by omega) (Ev.pos (by omega) (Ev.pos (by omega) ?_)))
    rw [w64s (by omega), w64 (a := rd f (i : Int) * rd v (i : Int)) (by omega) (by omega), w64 (a := rd f (i : Int) * rd v (i : Int) * rd v (i : Int)) (by omega) (by omega), w64 (a := s + _) (by omega) (by omega), dot3_drop (show i < f.length by omega) (by omega) (by omega)]
    refine Ev.to (ih (i + 1) _ (by omega) (by omega) (by omega)) (by omega)
theorem l4Value_ev (f v : List Int) (hv : v.length = f.length) (hn : f.length ≤ 4) (hf : ∀ x ∈ f, -31 ≤ x ∧ x ≤ 31) (bv : ∀ x ∈ v, -1000000 ≤ x ∧ x ≤ 1000000) : Ev (fun k => spec_l4Value.f k f v) (dot3 f v v) := by
  unfold spec_l4Value.f
  have h := l4Value_l f v hv hn hf bv f.length 0 0 (by omega) (by omega) (by omega)
  exact Ev.to h (by simp)
theorem pick_ev {s : List Int} (hs : IsCode s) (p n : Nat) (hp : p ≤ 20000000000000000) (hn : 1 ≤ n) : Ev (fun k => spec_l6Rd_pick.f k s (p : Int) (n : Int)) ((pickv s p n : Int), ((p + 1 : Nat) : Int)) := by
  unfold spec_l6Rd_pick.f
  rw [w64s (by omega)]
  refine Ev.neg (by omega) (Ev.step (fun k => spec_l6Rd_pick.j0.eq_2 _ _ _ _ k) ?_)
  have hl := hs.1
  by_cases h0 : s.length = 0
  · exact Ev.pos (by simp [h0]) (Ev.nows (by unfold pickv; rw [if_pos h0]; rfl))
  · refine Ev.neg (by simp; simpa using h0) ?_
    rw [show ((p + 1 : Nat) : Int) - 1 = (p : Int) by omega, w64 (a := (p : Int)) (by omega) (by omega)]
    by_cases h1 : p < s.length
    · refine Ev.pos (by omega) (Ev.pos (by omega) (Ev.neg (by omega) (Ev.nows ?_)))
      have hb := code_at hs p
      unfold pickv
      rw [if_neg h0, if_pos h1, rd_at, w64 (by omega) (by omega), Int.tmod_eq_emod_of_nonneg hb.1, Int.natCast_emod, Int.toNat_of_nonneg hb.1]
    · refine Ev.neg (by omega) (Ev.neg (by omega) ?_)
      have e1 : Int.tmod (p : Int) (s.length : Int) = ((p % s.length : Nat) : Int) := by rw [Int.tmod_eq_emod_of_nonneg (by omega)]; rfl
      have e2 : Int.tmod (wrap64 (wrap64 ((p : Int) * 7) + 3)) (s.length : Int) = (((p * 7 + 3) % s.length : Nat) : Int) := by
        rw [w64 (a := (p : Int) * 7) (by omega) (by omega), w64 (by omega) (by omega), Int.tmod_eq_emod_of_nonneg (by omega)]; rfl
      have m1 : p % s.length < s.length := Nat.mod_lt _ (by omega)
      have m2 : (p * 7 + 3) % s.length < s.length := Nat.mod_lt _ (by omega)
      rw [e1, e2]
      refine Ev.pos (by omega) (Ev.pos (by omega) (Ev.pos (by omega) (Ev.pos (by omega) (Ev.neg (by omega) (Ev.nows ?_)))))
      have hb1 := code_at hs (p % s.length)
      have hb2 := code_at hs ((p * 7 + 3) % s.length)
      have hd : p / s.length ≤ p := Nat.div_le_self _ _
      have e3 : wrap64 (Int.tdiv (p : Int) (s.length : Int)) = ((p / s.length : Nat) : Int) := by
        rw [Int.tdiv_eq_ediv_of_nonneg (by omega), show (p : Int) / (s.length : Int) = ((p / s.length : Nat) : Int) from rfl]
        generalize p / s.length = q at *
        exact w64 (by omega) (by omega)
      have hm := mixed_le hs p
      have e4 : wrap64 ((wrap64 ((wrap64 ((wrap64 ((wrap64 (rd s ((p % s.length : Nat) : Int))) * 131)) + (wrap64 ((wrap64 (rd s (((p * 7 + 3) % s.length : Nat) : Int))) * 1117)))) + (wrap64 ((p : Int) * 29)))) + (wrap64 ((wrap64 (Int.tdiv (p : Int) (s.length : Int))) * 53))) = ((mixed s p : Nat) : Int) := by
        rw [e3, rd_at, rd_at, mix_wrap (s.getD (p % s.length) 0) (s.getD ((p * 7 + 3) % s.length) 0) (p : Int) ((p / s.length : Nat) : Int) hb1.1 hb1.2 hb2.1 hb2.2 (Int.natCast_nonneg _) (Int.ofNat_le.2 hp) (Int.natCast_nonneg _) (Int.ofNat_le.2 hd)]
        exact (mixed_int hs p).symm
      rw [e4]
      have e5 : wrap64 (Int.tdiv ((mixed s p : Nat) : Int) 64) = ((mixed s p / 64 : Nat) : Int) := by
        generalize mixed s p = M at *
        rw [Int.tdiv_eq_ediv_of_nonneg (by omega)]; exact w64 (by omega) (by omega)
      rw [e5, xor_i64 _ _ (by omega) (by omega), Int.tmod_eq_emod_of_nonneg (by omega)]
      unfold pickv
      rw [if_neg h0, if_neg h1]
      rfl
/-- The same where the bound is told as an Int. -/
theorem pick_ev' {s : List Int} (hs : IsCode s) (p : Nat) (n : Int) (hp : p ≤ 20000000000000000) (hn : 1 ≤ n) : ∃ r : Int, 0 ≤ r ∧ r < n ∧ Ev (fun k => spec_l6Rd_pick.f k s (p : Int) n) (r, ((p + 1 : Nat) : Int)) := by
  obtain ⟨m, rfl⟩ : ∃ m : Nat, n = m := ⟨n.toNat, by omega⟩
  have h := pickv_lt s p (n := m) (by omega)
  exact ⟨_, by omega, by omega, pick_ev hs p m hp (by omega)⟩
theorem open_ev {l : List Int} (hw : ∀ x ∈ l, (Lit.int .u8 x).wf = true) : ∃ s, IsCode s ∧ spec_l6Open.f l = some (s, 0) := by
  have hb : ∀ x ∈ l, 0 ≤ x ∧ x ≤ 255 := fun x hx => by
    have := hw x hx
    simp [Lit.wf, IntKind.min, IntKind.max, IntKind.signed, IntKind.bits] at this; omega
  unfold spec_l6Open.f
  by_cases h : (l.length : Int) > 2000
  · rw [if_pos h, if_pos (by omega)]
    exact ⟨l.take 2000, ⟨by rw [List.length_take]; omega, fun x hx => hb x (List.mem_of_mem_take hx)⟩, rfl⟩
  · rw [if_neg h]
    exact ⟨l, ⟨by omega, hb⟩, rfl⟩
/-- A form that is drawn: few integers, none of a size above 31. -/
def Drawn (form : List Int) : Prop := form.length ≤ 4 ∧ ∀ x ∈ form, -31 ≤ x ∧ x ≤ 31
theorem drawn_tame {form : List Int} (h : Drawn form) : Tame form := ⟨by have := h.1; omega, fun x hx => by have := h.2 x hx; omega⟩
theorem l91Form_l {s : List Int} (hs : IsCode s) : ∀ (m i n : Nat) (x : List Int) (p : Nat), i + m = n → 1 ≤ n → n ≤ 4 → x.length = i → (∀ y ∈ x, -31 ≤ y ∧ y ≤ 31) → p + 2 * m ≤ 1000100 →
    ∃ form : List Int, ∃ q : Nat, Drawn form ∧ q ≤ 1000200 ∧ Ev (fun k => spec_l91Form.l0 k x (n : Int) (i : Int) s (p : Int)) (form, (q : Int)) := by
  intro m
  induction m with
  | zero =>
    intro i n x p h h1 h4 hx hb hp
    obtain ⟨a, a0, a1, ha⟩ := pick_ev' hs p 40 (by omega) (by omega)
    by_cases e0 : a = 0
    · obtain ⟨b, b0, b1, hb2⟩ := pick_ev' hs (p + 1) 2 (by omega) (by omega)
      refine ⟨x.set 0 (rd ([0, 31] : List Int) b), p + 1 + 1, ⟨by rw [List.length_set]; omega, fun y hy => ?_⟩, by omega, Ev.step (fun k => spec_l91Form.l0.eq_2 _ _ _ _ _ k) (Ev.neg (by omega) (Ev.bind ha (Ev.pos e0 (Ev.bind0 rfl (Ev.bind hb2 (Ev.pos b0 (Ev.pos b1 (Ev.pos (by omega) (Ev.now _)))))))))⟩
      rcases List.mem_or_eq_of_mem_set hy with h5 | rfl
      · exact hb y h5
      · rcases (by omega : b = 0 ∨ b = 1) with rfl | rfl <;> decide
    · by_cases e1 : a = 1
      · exact ⟨[], p + 1, ⟨by simp, by simp⟩, by omega, Ev.step (fun k => spec_l91Form.l0.eq_2 _ _ _ _ _ k) (Ev.neg (by omega) (Ev.bind ha (Ev.neg e0 (Ev.pos e1 (Ev.now _)))))⟩
      · exact ⟨x, p + 1, ⟨by omega, hb⟩, by omega, Ev.step (fun k => spec_l91Form.l0.eq_2 _ _ _ _ _ k) (Ev.neg (by omega) (Ev.bind ha (Ev.neg e0 (Ev.neg e1 (Ev.now _)))))⟩
  | succ m ih =>
    intro i n x p h h1 h4 hx hb hp
    obtain ⟨a, a0, a1, ha⟩ := pick_ev' hs p 16 (by omega) (by omega)
    obtain ⟨b, b0, b1, hb2⟩ := pick_ev' hs (p + 1) 5 (by omega) (by omega)
    have hm : 1 ≤ rd ([1, 2, 3, 5, 6, 7, 1, 10, 12, 3, 15, 4, 21, 1, 30, 8] : List Int) a ∧ rd ([1, 2, 3, 5, 6, 7, 1, 10, 12, 3, 15, 4, 21, 1, 30, 8] : List Int) a ≤ 30 := by
      obtain ⟨c, rfl⟩ : ∃ c : Nat, a = c := ⟨a.toNat, by omega⟩
      have : ∀ y ∈ ([1, 2, 3, 5, 6, 7, 1, 10, 12, 3, 15, 4, 21, 1, 30, 8] : List Int), 1 ≤ y ∧ y ≤ 30 := by decide
      exact this _ (rd_mem (show c < 16 by omega))
    have next : ∀ y : Int, -31 ≤ y ∧ y ≤ 31 → ∃ form : List Int, ∃ q : Nat, Drawn form ∧ q ≤ 1000200 ∧ Ev (fun k => spec_l91Form.l0 k (x ++ [y]) (n : Int) (wrap64 ((i : Int) + 1)) s ((p + 1 + 1 : Nat) : Int)) (form, (q : Int)) := by
      intro y hy
      rw [w64s (by omega)]
      exact ih (i + 1) n (x ++ [y]) (p + 1 + 1) (by omega) h1 h4 (by rw [List.length_append]; simp only [List.length_cons, List.length_nil]; omega) (fun z hz => by
        rcases List.mem_append.1 hz with hz | hz
        · exact hb z hz
        · rw [List.mem_singleton.1 hz]; exact hy) (by omega)
    by_cases e : b < 2
    · obtain ⟨form, q, h5, h6, h7⟩ := next (wrap64 (-(rd ([1, 2, 3, 5, 6, 7, 1, 10, 12, 3, 15, 4, 21, 1, 30, 8] : List Int) a))) (by rw [w64 (by omega) (by omega)]; omega)
      exact ⟨form, q, h5, h6, Ev.step (fun k => spec_l91Form.l0.eq_2 _ _ _ _ _ k) (Ev.pos (by omega) (Ev.bind0 rfl (Ev.bind ha (Ev.pos a0 (Ev.pos a1 (Ev.bind hb2 (Ev.pos e (Ev.pos (by omega) h7))))))))⟩
    · obtain ⟨form, q, h5, h6, h7⟩ := next (rd ([1, 2, 3, 5, 6, 7, 1, 10, 12, 3, 15, 4, 21, 1, 30, 8] : List Int) a) (by omega)
      exact ⟨form, q, h5, h6, Ev.step (fun k => spec_l91Form.l0.eq_2 _ _ _ _ _ k) (Ev.pos (by omega) (Ev.bind0 rfl (Ev.bind ha (Ev.pos a0 (Ev.pos a1 (Ev.bind hb2 (Ev.neg e (Ev.pos (by omega) h7))))))))⟩
theorem l91Form_ev {s : List Int} (hs : IsCode s) (p : Nat) (hp : p ≤ 1000000) (a : Int) (h0 : 1 ≤ a) (h4 : a ≤ 4) : ∃ form : List Int, ∃ q : Nat, Drawn form ∧ q ≤ 1000200 ∧ Ev (fun k => spec_l91Form.f k s (p : Int) a) (form, (q : Int)) := by
  unfold spec_l91Form.f
  obtain ⟨x, x0, x1, hx⟩ := pick_ev' hs p a (by omega) (by omega)
  obtain ⟨n, hn⟩ : ∃ n : Nat, 1 + x = n := ⟨(1 + x).toNat, by omega⟩
  obtain ⟨form, q, h5, h6, h7⟩ := l91Form_l hs n 0 n [] (p + 1) (by omega) (by omega) (by omega) rfl (by simp) (by omega)
  refine ⟨form, q, h5, h6, Ev.bind hx ?_⟩
  simp only
  rw [w64 (by omega) (by omega), hn]
  exact h7
theorem l91Vector_l {s : List Int} (hs : IsCode s) (form : List Int) (n : Int) (h0 : 0 ≤ n) (hn : n ≤ 1000) (hf : form.length ≤ 1000) : ∀ (m i : Nat) (x : List Int) (p : Nat), i + m = form.length → x.length = i → (∀ y ∈ x, -n ≤ y ∧ y ≤ n) → p ≤ 3000000 + i →
    ∃ v : List Int, v.length = form.length ∧ (∀ y ∈ v, -n ≤ y ∧ y ≤ n) ∧ Ev (fun k => spec_l91Vector.l0 k form n x (i : Int) s (p : Int)) (v, ((p + m : Nat) : Int)) := by
  intro m
  induction m with
  | zero =>
    intro i x p h hx hb hp
    exact ⟨x, by omega, hb, Ev.step (fun k => spec_l91Vector.l0.eq_2 _ _ _ _ _ _ k) (Ev.neg (by omega) (Ev.now _))⟩
  | succ m ih =>
    intro i x p h hx hb hp
    obtain ⟨a, a0, a1, ha⟩ := pick_ev' hs p (2 * n + 1) (by omega) (by omega)
    obtain ⟨v, h1, h2, h3⟩ := ih (i + 1) (x ++ [a - n]) (p + 1) (by omega) (by rw [List.length_append]; simp only [List.length_cons, List.length_nil]; omega) (fun z hz => by
      rcases List.mem_append.1 hz with hz | hz
      · exact hb z hz
      · rw [List.mem_singleton.1 hz]; omega) (by omega)
    refine ⟨v, h1, h2, Ev.step (fun k => spec_l91Vector.l0.eq_2 _ _ _ _ _ _ k) (Ev.pos (by omega) ?_)⟩
    rw [w64 (a := 2 * n) (by omega) (by omega), w64 (a := 2 * n + 1) (by omega) (by omega)]
    refine Ev.bind ha ?_
    simp only
    rw [w64s (by omega), w64 (a := a - n) (by omega) (by omega)]
    refine Ev.pos (by omega) (Ev.to h3 ?_)
    rw [show p + 1 + m = p + (m + 1) by omega]
theorem l91Vector_ev {s : List Int} (hs : IsCode s) (p : Nat) (hp : p ≤ 3000000) (form : List Int) (n : Int) (h0 : 0 ≤ n) (hn : n ≤ 1000) (hf : form.length ≤ 1000) :
    ∃ v : List Int, v.length = form.length ∧ (∀ y ∈ v, -n ≤ y ∧ y ≤ n) ∧ Ev (fun k => spec_l91Vector.f k s (p : Int) form n) (v, ((p + form.length : Nat) : Int)) := by
  unfold spec_l91Vector.f
  exact l91Vector_l hs form n h0 hn hf form.length 0 [] p (by omega) rfl (by simp) (by omega)
/-- A form that l92Small draws. -/
def Small (form : List Int) : Prop := form.length ≤ 5 ∧ ∀ x ∈ form, -31 ≤ x ∧ x ≤ 31
theorem small_tame {form : List Int} (h : Small form) : Tame form := ⟨by have := h.1; omega, fun x hx => by have := h.2 x hx; omega⟩
theorem l92Small_ev {s : List Int} (hs : IsCode s) (p : Nat) (hp : p ≤ 100) : ∃ form : List Int, ∃ q : Nat, Small form ∧ q ≤ 1000200 ∧ Ev (fun k => spec_l92Small.f k s (p : Int)) (form, (q : Int)) := by
  obtain ⟨x, x0, x1, hx⟩ := pick_ev' hs p 3 (by omega) (by omega)
  by_cases h : x = 0
  · obtain ⟨a, a0, a1, ha⟩ := pick_ev' hs (p + 1) 3 (by omega) (by omega)
    obtain ⟨b, b0, b1, hb⟩ := pick_ev' hs (p + 1 + 1) 3 (by omega) (by omega)
    refine ⟨(([1, 1, 1, -1, 2] : List Int).take (3 + b).toNat).drop a.toNat, p + 1 + 1 + 1, ⟨?_, fun y hy => ?_⟩, by omega, ?_⟩
    · rw [List.length_drop, List.length_take]; simp only [List.length_cons, List.length_nil]; omega
    · have : ∀ z ∈ ([1, 1, 1, -1, 2] : List Int), -31 ≤ z ∧ z ≤ 31 := by decide
      exact this y (List.mem_of_mem_take (List.mem_of_mem_drop hy))
    · unfold spec_l92Small.f
      refine Ev.bind hx (Ev.pos h (Ev.bind ha (Ev.bind hb (Ev.pos ⟨a0, by simp only; omega, b0, by simp only; omega⟩ (Ev.now _)))))
  · obtain ⟨form, q, h1, h2, h3⟩ := l91Form_ev hs (p + 1) (by omega) 3 (by omega) (by omega)
    refine ⟨form, q, ⟨by have := h1.1; omega, h1.2⟩, h2, ?_⟩
    unfold spec_l92Small.f
    exact Ev.bind hx (Ev.neg h h3)
theorem sameInts_l (xs : List Int) (hn : xs.length ≤ 17592186044416) : ∀ (m i : Nat), i + m = xs.length → Ev (fun k => laws_sameInts.l0 k xs xs (i : Int)) true := by
  intro m
  induction m with
  | zero =>
    intro i h
    exact Ev.step (fun k => laws_sameInts.l0.eq_2 _ _ _ k) (Ev.neg (by omega) (Ev.now _))
  | succ m ih =>
    intro i h
    refine Ev.step (fun k => laws_sameInts.l0.eq_2 _ _ _ k) (Ev.pos (by omega) (Ev.pos (by omega) (Ev.pos (by omega) (Ev.pos rfl ?_))))
    rw [w64s (by omega)]
    exact ih (i + 1) (by omega)
theorem sameInts_ev (xs : List Int) (hn : xs.length ≤ 17592186044416) : Ev (fun k => laws_sameInts.f k xs xs) true := by
  unfold laws_sameInts.f
  exact Ev.pos rfl (sameInts_l xs hn xs.length 0 (by omega))
theorem sameLists_l (xs : List (List Int)) (hn : RowsOk xs) : ∀ (m i : Nat), i + m = xs.length → Ev (fun k => laws_sameLists.l0 k xs xs (i : Int)) true := by
  intro m
  have h0 := hn.1
  induction m with
  | zero =>
    intro i h
    exact Ev.step (fun k => laws_sameLists.l0.eq_2 _ _ _ k) (Ev.neg (by omega) (Ev.now _))
  | succ m ih =>
    intro i h
    have hr := hn.2 _ (rdL2_mem (show i < xs.length by omega))
    refine Ev.step (fun k => laws_sameLists.l0.eq_2 _ _ _ k) (Ev.pos (by omega) (Ev.pos (by omega) (Ev.pos (by omega) (Ev.bind (sameInts_ev _ (by omega)) (Ev.pos rfl ?_)))))
    rw [w64s (by omega)]
    exact ih (i + 1) (by omega)
theorem sameLists_ev (xs : List (List Int)) (hn : RowsOk xs) : Ev (fun k => laws_sameLists.f k xs xs) true := by
  unfold laws_sameLists.f
  exact Ev.pos rfl (sameLists_l xs hn xs.length 0 (by omega))
theorem iEqual_l (u v : List Int) (hl : v.length = u.length) (hn : u.length ≤ 1000000) : ∀ (m i : Nat), i + m = u.length → (∀ j, j < i → j < u.length → rd u (j : Int) = rd v (j : Int)) →
    Ev (fun k => slices_Equal_int_int.l0 k u v (u.length : Int) (i : Int)) (decide (u = v)) := by
  intro m
  induction m with
  | zero =>
    intro i h hj
    exact Ev.step (fun k => slices_Equal_int_int.l0.eq_2 _ _ _ _ k) (Ev.neg (by omega) (Ev.nows (decide_eq_true (ext_rd hl.symm (fun j h1 => hj j (by omega) h1))).symm))
  | succ m ih =>
    intro i h hj
    refine Ev.step (fun k => slices_Equal_int_int.l0.eq_2 _ _ _ _ k) (Ev.pos (by omega) (Ev.pos (by omega) (Ev.pos (by omega) (Ev.pos (by omega) ?_))))
    by_cases e : rd u (i : Int) = rd v (i : Int)
    · refine Ev.pos e ?_
      rw [w64s (by omega)]
      refine ih (i + 1) (by omega) (fun j h5 h6 => ?_)
      rcases (by omega : j < i ∨ j = i) with h7 | rfl
      · exact hj j h7 h6
      · exact e
    · exact Ev.neg e (Ev.nows (decide_eq_false (fun k => e (by rw [k]))).symm)
theorem iEqual_ev (u v : List Int) (hl : v.length = u.length) (hn : u.length ≤ 1000000) : Ev (fun k => slices_Equal_int_int.f k u v) (decide (u = v)) := by
  unfold slices_Equal_int_int.f
  exact Ev.pos (by omega) (iEqual_l u v hl hn u.length 0 (by omega) (by omega))
theorem comb_take {u v : List Int} {t : Int} {i : Nat} (hi : i < u.length) : (combL u t v).take i ++ [rd u (i : Int) + t * rd v (i : Int)] = (combL u t v).take (i + 1) := by
  have hc : i < (combL u t v).length := by rw [combL_len]; exact hi
  rw [take_s hc]
  congr 2
  rw [← combL_rd hi, rd_at]; simp [hc]
theorem iCombined_ev (u v : List Int) (t : Int) (ht : t = 1 ∨ t = -1) (hl : v.length = u.length) (hn : u.length ≤ 1000) (hu : ∀ x ∈ u, -1000000 ≤ x ∧ x ≤ 1000000) (hv : ∀ x ∈ v, -1000000 ≤ x ∧ x ≤ 1000000) : Ev (fun k => impl_combined.f k u t v) (combL u t v) := by
  have go : ∀ (m i : Nat), i + m = u.length → Ev (fun k => impl_combined.l0 k u t v ((combL u t v).take i) (u.length : Int) (i : Int)) (combL u t v) := by
    intro m
    induction m with
    | zero =>
      intro i h
      exact Ev.step (fun k => impl_combined.l0.eq_2 _ _ _ _ _ _ k) (Ev.neg (by omega) (Ev.nows (List.take_of_length_le (by rw [combL_len]; omega))))
    | succ m ih =>
      intro i h
      have hi : i < u.length := by omega
      have a := hu _ (rd_mem hi)
      have b := hv _ (rd_mem (show i < v.length by omega))
      have c : -1000000 ≤ t * rd v (i : Int) ∧ t * rd v (i : Int) ≤ 1000000 := by rcases ht with rfl | rfl <;> omega
      have hc : ((combL u t v).take i).length = i := by rw [List.length_take, combL_len]; omega
      refine Ev.step (fun k => impl_combined.l0.eq_2 _ _ _ _ _ _ k) (Ev.pos (by omega) (Ev.pos (by omega) (Ev.pos (by omega) (Ev.pos (by omega) (Ev.pos (by omega) ?_)))))
      rw [w64s (by omega), w64 (a := t * rd v (i : Int)) (by omega) (by omega), w64 (a := rd u (i : Int) + _) (by omega) (by omega), comb_take hi]
      exact ih (i + 1) (by omega)
  unfold impl_combined.f
  exact go u.length 0 (by omega)
theorem l7Mix_ev (u v : List Int) (t : Int) (ht : t = 1 ∨ t = -1) (hl : v.length = u.length) (hn : u.length ≤ 1000) (hu : ∀ x ∈ u, -1000000 ≤ x ∧ x ≤ 1000000) (hv : ∀ x ∈ v, -1000000 ≤ x ∧ x ≤ 1000000) : Ev (fun k => spec_l7Mix.f k u v t) (combL u t v) := by
  have go : ∀ (m i : Nat), i + m = u.length → Ev (fun k => spec_l7Mix.l0 k u v t ((combL u t v).take i) (i : Int)) (combL u t v) := by
    intro m
    induction m with
    | zero =>
      intro i h
      exact Ev.step (fun k => spec_l7Mix.l0.eq_2 _ _ _ _ _ k) (Ev.neg (by omega) (Ev.nows (List.take_of_length_le (by rw [combL_len]; omega))))
    | succ m ih =>
      intro i h
      have hi : i < u.length := by omega
      have a := hu _ (rd_mem hi)
      have b := hv _ (rd_mem (show i < v.length by omega))
      have c : -1000000 ≤ t * rd v (i : Int) ∧ t * rd v (i : Int) ≤ 1000000 := by rcases ht with rfl | rfl <;> omega
      have hc : ((combL u t v).take i).length = i := by rw [List.length_take, combL_len]; omega
      refine Ev.step (fun k => spec_l7Mix.l0.eq_2 _ _ _ _ _ k) (Ev.pos (by omega) (Ev.pos (by omega) (Ev.pos (by omega) (Ev.pos (by omega) ?_))))
      rw [w64s (by omega), w64 (a := t * rd v (i : Int)) (by omega) (by omega), w64 (a := rd u (i : Int) + _) (by omega) (by omega), comb_take hi]
      exact ih (i + 1) (by omega)
  unfold spec_l7Mix.f
  exact go u.length 0 (by omega)
theorem l5Some_ev (v : List Int) (hn : v.length ≤ 1000000) : Ev (fun k => spec_l5Some.f k v) (some0 v) := by
  have go : ∀ (m i : Nat), i + m = v.length → (∀ j, j < i → j < v.length → rd v (j : Int) = 0) → Ev (fun k => spec_l5Some.l0 k v (i : Int)) (some0 v) := by
    intro m
    induction m with
    | zero =>
      intro i h hj
      exact Ev.step (fun k => spec_l5Some.l0.eq_2 _ _ k) (Ev.neg (by omega) (Ev.nows (some0_rd.2 (fun j h1 => hj j (by omega) h1)).symm))
    | succ m ih =>
      intro i h hj
      refine Ev.step (fun k => spec_l5Some.l0.eq_2 _ _ k) (Ev.pos (by omega) (Ev.pos (by omega) ?_))
      by_cases e : rd v (i : Int) = 0
      · refine Ev.pos e ?_
        rw [w64s (by omega)]
        refine ih (i + 1) (by omega) (fun j h5 h6 => ?_)
        rcases (by omega : j < i ∨ j = i) with h7 | rfl
        · exact hj j h7 h6
        · exact e
      · refine Ev.neg e (Ev.nows ?_)
        have : some0 v ≠ false := fun k => e (some0_rd.1 k i (by omega))
        simpa using this
  unfold spec_l5Some.f
  exact go v.length 0 (by omega) (by omega)
theorem plain_l1 (v : List Int) (d : Int) (hd : d ≠ 0) (hn : v.length ≤ 1000000) (ht : ∀ x ∈ v, -9223372036854775807 ≤ x ∧ x ≤ 9223372036854775807) : ∀ (m i : Nat), i + m = v.length →
    Ev (fun k => impl_plain.l1 k d ((v.take i).map (fun x => Int.tdiv x d)) v (v.length : Int) (i : Int)) (v.map (fun x => Int.tdiv x d)) := by
  intro m
  induction m with
  | zero =>
    intro i h
    exact Ev.step (fun k => impl_plain.l1.eq_2 _ _ _ _ _ k) (Ev.neg (by omega) (Ev.nows (by rw [List.take_of_length_le (by omega)])))
  | succ m ih =>
    intro i h
    have hb := ht _ (rd_mem (show i < v.length by omega))
    have hq : (Int.tdiv (rd v (i : Int)) d).natAbs ≤ (rd v (i : Int)).natAbs := by rw [Int.natAbs_tdiv]; exact Nat.div_le_self _ _
    refine Ev.step (fun k => impl_plain.l1.eq_2 _ _ _ _ _ k) (Ev.pos (by omega) (Ev.pos (by omega) (Ev.pos (by omega) (Ev.neg hd (Ev.pos (by rw [List.length_map, List.length_take]; omega) ?_)))))
    rw [w64s (by omega), w64 (a := Int.tdiv (rd v (i : Int)) d) (by omega) (by omega)]
    have e : (v.take i).map (fun x => Int.tdiv x d) ++ [Int.tdiv (rd v (i : Int)) d] = (v.take (i + 1)).map (fun x => Int.tdiv x d) := by
      rw [List.take_succ_eq_append_getElem (show i < v.length by omega), List.map_append, rd_at, List.getD_eq_getElem?_getD, List.getElem?_eq_getElem (show i < v.length by omega)]; rfl
    rw [e]
    exact ih (i + 1) (by omega)
theorem plain_j1 (v : List Int) (d : Int) (hd : d ≠ 0) (ht : Tame v) : Ev (fun k => impl_plain.j1 k v d) (v.map (fun x => Int.tdiv x d)) := by
  refine Ev.step (fun k => impl_plain.j1.eq_2 _ _ k) ?_
  have h := plain_l1 v d hd (by have := ht.1; omega) ht.2 v.length 0 (by omega)
  simpa using h
theorem plain_l0 (v : List Int) (g : Nat) (hg : g ≠ 0) (hg1 : (g : Int) ≤ 9223372036854775807) (ht : Tame v) : ∀ (m i : Nat), i + m = v.length → (m = 0 → sgn1 v = 1) → sgn1 (v.drop i) = sgn1 v →
    Ev (fun k => impl_plain.l0 k v (g : Int) v (v.length : Int) (i : Int)) (v.map (fun x => Int.tdiv x (sgn1 v * g))) := by
  intro m
  have hn := ht.1
  induction m with
  | zero =>
    intro i h h1 _
    refine Ev.step (fun k => impl_plain.l0.eq_2 _ _ _ _ _ k) (Ev.neg (by omega) ?_)
    rw [h1 rfl, Int.one_mul]
    exact plain_j1 v g (by omega) ht
  | succ m ih =>
    intro i h _ h2
    refine Ev.step (fun k => impl_plain.l0.eq_2 _ _ _ _ _ k) (Ev.pos (by omega) (Ev.pos (by omega) (Ev.pos (by omega) ?_)))
    rw [drop_rd (show i < v.length by omega)] at h2
    by_cases hz : rd v (i : Int) = 0
    · refine Ev.pos hz ?_
      rw [w64s (by omega)]
      rw [sgn1, if_pos hz] at h2
      refine ih (i + 1) (by omega) (fun hm => ?_) h2
      rw [← h2, List.drop_of_length_le (by omega)]; rfl
    · refine Ev.neg hz ?_
      rw [sgn1, if_neg hz] at h2
      by_cases hneg : rd v (i : Int) < 0
      · rw [if_pos hneg] at h2
        refine Ev.pos hneg ?_
        rw [← h2, w64 (a := -(g : Int)) (by omega) (by omega), show (-1 : Int) * g = -g by omega]
        exact plain_j1 v (-g) (by omega) ht
      · rw [if_neg hneg] at h2
        refine Ev.neg hneg ?_
        rw [← h2, Int.one_mul]
        exact plain_j1 v g (by omega) ht
theorem gcdL_le {v : List Int} (ht : Tame v) (h : some0 v = true) : (gcdL 0 v : Int) ≤ 9223372036854775807 := by
  unfold some0 at h
  rw [List.any_eq_true] at h
  obtain ⟨x, hx, h0⟩ := h
  have h1 := Nat.le_of_dvd (by simp at h0; omega) ((gcdL_mono v 0).2 x hx)
  have := ht.2 x hx
  omega
theorem iPlain_ev (v : List Int) (ht : Tame v) (h : some0 v = true) : Ev (fun k => impl_plain.f k v) (plainL v) := by
  unfold impl_plain.f plainL
  refine Ev.bind (gcd_ev v (by have := ht.1; omega) ht.2) ?_
  refine plain_l0 v (gcdL 0 v) (fun h0 => by rw [gcdL_zero, h] at h0; cases h0) (gcdL_le ht h) ht v.length 0 (by omega) (fun h0 => ?_) rfl
  rw [List.eq_nil_of_length_eq_zero h0]; rfl
theorem l5Plain_1 (v : List Int) (g : Nat) (hg : g ≠ 0) (s : Int) (hs : s = 1 ∨ s = -1) (hn : v.length ≤ 1000000) (ht : ∀ x ∈ v, -9000000000000000000 ≤ x ∧ x ≤ 9000000000000000000) : ∀ (m i : Nat), i + m = v.length →
    Ev (fun k => spec_l5Plain.l1 k v (g : Int) s ((v.take i).map (fun x => Int.tdiv x (s * g))) (i : Int)) (v.map (fun x => Int.tdiv x (s * g))) := by
  intro m
  induction m with
  | zero =>
    intro i h
    exact Ev.step (fun k => spec_l5Plain.l1.eq_2 _ _ _ _ _ k) (Ev.neg (by omega) (Ev.nows (by rw [List.take_of_length_le (by omega)])))
  | succ m ih =>
    intro i h
    have hi : i < v.length := by omega
    have b := ht _ (rd_mem hi)
    have e1 : Int.tdiv (s * rd v (i : Int)) (g : Int) = Int.tdiv (rd v (i : Int)) (s * g) := by
      rcases hs with rfl | rfl
      · rw [Int.one_mul, Int.one_mul]
      · rw [show (-1 : Int) * rd v (i : Int) = -rd v (i : Int) by omega, show (-1 : Int) * (g : Int) = -(g : Int) by omega, Int.neg_tdiv, Int.tdiv_neg]
    have e2 : -9000000000000000000 ≤ s * rd v (i : Int) ∧ s * rd v (i : Int) ≤ 9000000000000000000 := by rcases hs with rfl | rfl <;> omega
    have hq : (Int.tdiv (s * rd v (i : Int)) (g : Int)).natAbs ≤ (s * rd v (i : Int)).natAbs := by rw [Int.natAbs_tdiv]; exact Nat.div_le_self _ _
    have hc : ((v.take i).map (fun x => Int.tdiv x (s * g))).length = i := by rw [List.length_map, List.length_take]; omega
    refine Ev.step (fun k => spec_l5Plain.l1.eq_2 _ _ _ _ _ k) (Ev.pos (by omega) (Ev.pos (by omega) (Ev.neg (by omega) (Ev.pos (by omega) ?_))))
    rw [w64s (by omega), w64 (a := s * rd v (i : Int)) (by omega) (by omega), w64 (a := Int.tdiv _ _) (by omega) (by omega), e1]
    have e : (v.take i).map (fun x => Int.tdiv x (s * g)) ++ [Int.tdiv (rd v (i : Int)) (s * g)] = (v.take (i + 1)).map (fun x => Int.tdiv x (s * g)) := by
      rw [List.take_succ_eq_append_getElem hi, List.map_append, rd_at, List.getD_eq_getElem?_getD, List.getElem?_eq_getElem hi]; rfl
    rw [e]
    exact ih (i + 1) (by omega)
theorem l5Plain_0 (v : List Int) (h0 : some0 v = true) (hn : v.length ≤ 1000000) (ht : ∀ x ∈ v, -9000000000000000000 ≤ x ∧ x ≤ 9000000000000000000) : ∀ (m i : Nat) (g : Nat) (s : Int) (first : Bool), i + m = v.length → g ≤ 9000000000000000000 → gcdL g (v.drop i) = gcdL 0 v →
    (first = true → s = 1 ∧ sgn1 (v.drop i) = sgn1 v) → (first = false → s = sgn1 v) → Ev (fun k => spec_l5Plain.l0 k v (g : Int) s first (i : Int)) (plainL v) := by
  have hg : gcdL 0 v ≠ 0 := fun k => by rw [gcdL_zero, h0] at k; cases k
  intro m
  induction m with
  | zero =>
    intro i g s first h _ he h1 h2
    rw [List.drop_of_length_le (by omega)] at he h1
    refine Ev.step (fun k => spec_l5Plain.l0.eq_2 _ _ _ _ _ k) (Ev.neg (by omega) ?_)
    have es : s = sgn1 v := by
      cases first with
      | true => have := h1 rfl; rw [this.1, ← this.2]; rfl
      | false => exact h2 rfl
    rw [es, show g = gcdL 0 v from he]
    have := l5Plain_1 v (gcdL 0 v) hg (sgn1 v) (sgn1_cases v) hn ht v.length 0 (by omega)
    unfold plainL
    simpa using this
  | succ m ih =>
    intro i g s first h hgb he h1 h2
    have hi : i < v.length := by omega
    have b := ht _ (rd_mem hi)
    rw [drop_rd hi] at he h1
    refine Ev.step (fun k => spec_l5Plain.l0.eq_2 _ _ _ _ _ k) (Ev.pos (by omega) (Ev.pos (by omega) (Ev.bind (l1Gcd_ev (by omega) (by omega) (by omega) (by omega)) ?_)))
    have hb2 : Nat.gcd g (rd v (i : Int)).natAbs ≤ 9000000000000000000 := by
      rcases Nat.eq_zero_or_pos g with rfl | hp
      · rw [Nat.gcd_zero_left]; omega
      · have := Nat.gcd_le_left (rd v (i : Int)).natAbs hp; omega
    rw [show ((g : Int)).natAbs = g from rfl]
    have he2 : gcdL (Nat.gcd g (rd v (i : Int)).natAbs) (v.drop (i + 1)) = gcdL 0 v := by rw [← he]; rfl
    by_cases hz : rd v (i : Int) = 0
    · refine Ev.pos hz (Ev.step (fun k => spec_l5Plain.j1.eq_2 _ _ _ _ _ _ k) (Ev.neg (by simp) ?_))
      rw [w64s (by omega)]
      refine ih (i + 1) _ s first (by omega) hb2 he2 (fun k => ?_) h2
      have := h1 k
      rw [sgn1, if_pos hz] at this; exact this
    · refine Ev.neg hz (Ev.step (fun k => spec_l5Plain.j1.eq_2 _ _ _ _ _ _ k) ?_)
      cases first with
      | true =>
        obtain ⟨s1, s2⟩ := h1 rfl
        rw [sgn1, if_neg hz] at s2
        refine Ev.pos rfl (Ev.pos (by omega) (Ev.pos (by omega) ?_))
        rw [w64s (by omega)]
        by_cases hneg : rd v (i : Int) < 0
        · rw [if_pos hneg] at s2
          exact Ev.pos hneg (ih (i + 1) _ (-1) false (by omega) hb2 he2 (fun k => by cases k) (fun _ => s2))
        · rw [if_neg hneg] at s2
          exact Ev.neg hneg (ih (i + 1) _ s false (by omega) hb2 he2 (fun k => by cases k) (fun _ => by rw [s1]; exact s2))
      | false =>
        refine Ev.neg (by simp) ?_
        rw [w64s (by omega)]
        exact ih (i + 1) _ s false (by omega) hb2 he2 (fun k => by cases k) h2
theorem l5Plain_ev (v : List Int) (h0 : some0 v = true) (hn : v.length ≤ 1000000) (ht : ∀ x ∈ v, -9000000000000000000 ≤ x ∧ x ≤ 9000000000000000000) : Ev (fun k => spec_l5Plain.f k v) (plainL v) := by
  unfold spec_l5Plain.f
  exact l5Plain_0 v h0 hn ht v.length 0 0 1 true (by omega) (by omega) rfl (fun _ => ⟨rfl, rfl⟩) (fun k => by cases k)
section
variable (form u v : List Int) (ht : Tame form) (hu : u.length ≤ 1000) (hv : v.length ≤ 1000)
theorem carry_parts (hf : fOk form = true) (h3 : form.length ≤ 3) (h5 : vOk form.length 500 u = true) (h6 : vOk form.length 500 v = true) :
    (∀ x ∈ form, -31 ≤ x ∧ x ≤ 31) ∧ u.length = form.length ∧ v.length = form.length ∧ (∀ x ∈ u, -1000000 ≤ x ∧ x ≤ 1000000) ∧ (∀ x ∈ v, -1000000 ≤ x ∧ x ≤ 1000000) ∧
      (∀ t : Int, t = 1 ∨ t = -1 → (∀ x ∈ combL u t v, -1000 ≤ x ∧ x ≤ 1000)) :=
  ⟨fun x hx => by have := fOk_mem hf x hx; omega, vOk_len h5, vOk_len h6, fun x hx => by have := vOk_mem h5 x hx; omega, fun x hx => by have := vOk_mem h6 x hx; omega,
    fun t ht x hx => by have := combL_bd ht (by rw [vOk_len h5, vOk_len h6]) (vOk_mem h5) (vOk_mem h6) x hx; omega⟩
theorem sum_some (hl : v.length = u.length) (hq : dot3 form u u = dot3 form v v) (hlf : u.length = form.length) (h0 : dot3 form u u ≠ 0) (hz : dot3 form (combL u (-1) v) (combL u (-1) v) = 0) : some0 (combL u 1 v) = true := by
  rcases hs : some0 (combL u 1 v) with _ | _
  · exfalso
    have e : v = negL u := by
      refine ext_rd (by rw [negL_len]; exact hl) (fun i hi => ?_)
      have := some0_rd.1 hs i (by rw [combL_len]; omega)
      rw [combL_rd (by omega)] at this
      rw [negL_rd]; omega
    have e2 : combL u (-1) v = combL u 1 u := by
      refine ext_rd (by rw [combL_len, combL_len]) (fun i hi => ?_)
      rw [combL_len] at hi
      rw [combL_rd hi, combL_rd hi, e, negL_rd]; omega
    have e3 : dot3 form (combL u 1 u) (combL u 1 u) = 4 * dot3 form u u := by
      have cl : (combL u 1 u).length = form.length := by rw [combL_len]; exact hlf
      rw [dot3_bF cl cl, dot3_bF hlf hlf, bF_congr (u' := fun k => 2 * rd u (k : Int) + 0 * rd u (k : Int)) (v' := fun k => rd (combL u 1 u) (k : Int)) (fun k hk => by rw [combL_rd (by omega)]; omega) (fun _ _ => rfl), bF_comb,
        bF_comm, bF_congr (u' := fun k => 2 * rd u (k : Int) + 0 * rd u (k : Int)) (v' := fun k => rd u (k : Int)) (fun k hk => by rw [combL_rd (by omega)]; omega) (fun _ _ => rfl), bF_comb]
      omega
    rw [e2, e3] at hz
    omega
  · rfl
theorem own_some (hlf : v.length = form.length) (h0 : dot3 form v v ≠ 0) : some0 v = true := by
  rcases hs : some0 v with _ | _
  · exfalso
    refine h0 ?_
    rw [dot3_n hlf, sumN_congr form.length _ (fun _ => 0) (fun k hk => by rw [some0_rd.1 hs k (by omega)]; simp), sumN_zero]
  · rfl
include ht hu hv
theorem iCarry_ev : Ev (fun k => impl_MoveCarry.f k form u v) (carryB form u v) := by
  have hn := ht.1
  have bad : ¬ (fOk form = true ∧ form.length ≤ 3 ∧ vOk form.length 500 u = true ∧ vOk form.length 500 v = true) → Ev (fun k => impl_MoveCarry.j0 k form u v true) (carryB form u v) := by
    intro h
    refine Ev.step (fun k => impl_MoveCarry.j0.eq_2 _ _ _ _ k) (Ev.pos rfl (Ev.nows ?_))
    unfold carryB
    exact (if_neg (fun k => h ⟨k.1, k.2.1, k.2.2.1, k.2.2.2.1⟩)).symm
  unfold impl_MoveCarry.f
  refine Ev.bind (iFormValid_ev form ht) ?_
  by_cases hf : fOk form = true
  · refine Ev.pos hf ?_
    by_cases h3 : form.length ≤ 3
    · refine Ev.neg (by omega) (Ev.bind (iVectorOk_ev form u 500 (by omega) (by omega) (by omega)) ?_)
      by_cases h5 : vOk form.length 500 u = true
      · refine Ev.pos h5 (Ev.bind (iVectorOk_ev form v 500 (by omega) (by omega) (by omega)) ?_)
        by_cases h6 : vOk form.length 500 v = true
        · rw [h6]
          obtain ⟨fb, ul, vl, ub, vb, cb⟩ := carry_parts form u v hf h3 h5 h6
          have bad1 : ¬ (dot3 form u u ≠ 0 ∧ dot3 form u u = dot3 form v v) → Ev (fun k => impl_MoveCarry.j1 k form u v true) (carryB form u v) := by
            intro h
            refine Ev.step (fun k => impl_MoveCarry.j1.eq_2 _ _ _ _ k) (Ev.pos rfl (Ev.nows ?_))
            unfold carryB
            exact (if_neg (fun k => h ⟨k.2.2.2.2.1, k.2.2.2.2.2⟩)).symm
          refine Ev.step (fun k => impl_MoveCarry.j0.eq_2 _ _ _ _ k) (Ev.neg (by simp) (Ev.bind (iPair_ev form u u ul ul (by omega) fb ub ub) ?_))
          by_cases h0 : dot3 form u u = 0
          · exact Ev.pos h0 (bad1 (fun k => k.1 h0))
          · refine Ev.neg h0 (Ev.bind (iPair_ev form v v vl vl (by omega) fb vb vb) ?_)
            by_cases hq : dot3 form u u = dot3 form v v
            · rw [show (dot3 form u u != dot3 form v v) = false by simpa using hq]
              have lt := fun t (h : t = 1 ∨ t = -1) x (hx : x ∈ combL u t v) => cb t h x hx
              have ev : carryB form u v = if u = v then ([], true) else if dot3 form (combL u (-1) v) (combL u (-1) v) ≠ 0 then ([plainL (combL u (-1) v)], true) else ([plainL (combL u 1 v), plainL v], true) := by
                unfold carryB; exact if_pos ⟨hf, h3, h5, h6, h0, hq⟩
              rw [ev]
              have tz : ∀ t : Int, t = 1 ∨ t = -1 → Tame (combL u t v) := fun t h => ⟨by rw [combL_len]; omega, fun x hx => by have := cb t h x hx; omega⟩
              refine Ev.step (fun k => impl_MoveCarry.j1.eq_2 _ _ _ _ k) (Ev.neg (by simp) (Ev.bind (iEqual_ev u v (by omega) (by omega)) ?_))
              by_cases he : u = v
              · rw [if_pos he]; exact Ev.pos (decide_eq_true he) (Ev.now _)
              · rw [if_neg he]
                have cl : ∀ t, (combL u t v).length = form.length := fun t => by rw [combL_len]; exact ul
                refine Ev.neg (by simpa using he) (Ev.bind (iCombined_ev u v (-1) (.inr rfl) (by omega) (by omega) ub vb) (Ev.bind (iPair_ev form _ _ (cl _) (cl _) (by omega) fb (fun x hx => by have := cb (-1) (.inr rfl) x hx; omega) (fun x hx => by have := cb (-1) (.inr rfl) x hx; omega)) ?_))
                have hs1 : some0 (combL u (-1) v) = true := by
                  rcases hs : some0 (combL u (-1) v) with _ | _
                  · exact absurd ((comb_some (by omega)).1 hs) he
                  · rfl
                by_cases hz : dot3 form (combL u (-1) v) (combL u (-1) v) = 0
                · rw [if_neg (fun k => k hz)]
                  refine Ev.pos hz (Ev.bind (iCombined_ev u v 1 (.inl rfl) (by omega) (by omega) ub vb) (Ev.bind (iPlain_ev _ (tz 1 (.inl rfl)) (sum_some form u v (by omega) hq ul h0 hz)) (Ev.bind (iPlain_ev v ⟨by omega, fun x hx => by have := vb x hx; omega⟩ (own_some form v vl (by omega))) (Ev.now _))))
                · rw [if_pos hz]
                  exact Ev.neg hz (Ev.bind (iPlain_ev _ (tz (-1) (.inr rfl)) hs1) (Ev.now _))
            · rw [show (dot3 form u u != dot3 form v v) = true by simpa using hq]
              exact bad1 (fun k => hq k.2)
        · rw [show vOk form.length 500 v = false by simpa using h6]; exact bad (fun k => h6 k.2.2.2)
      · exact Ev.neg h5 (bad (fun k => h5 k.2.2.1))
    · exact Ev.pos (by omega) (bad (fun k => h3 k.2.1))
  · exact Ev.neg hf (bad (fun k => hf k.1))
theorem sCarry_ev : Ev (fun k => spec_MoveCarry.f k form u v) (carryB form u v) := by
  have hn := ht.1
  have bad : ¬ (fOk form = true ∧ form.length ≤ 3 ∧ vOk form.length 500 u = true ∧ vOk form.length 500 v = true ∧ dot3 form u u ≠ 0 ∧ dot3 form u u = dot3 form v v) → Ev (fun k => spec_MoveCarry.j0 k form u v true) (carryB form u v) := by
    intro h
    refine Ev.step (fun k => spec_MoveCarry.j0.eq_2 _ _ _ _ k) (Ev.pos rfl (Ev.nows ?_))
    unfold carryB
    exact (if_neg h).symm
  unfold spec_MoveCarry.f
  refine Ev.bind (l7Form_ev form hn) ?_
  by_cases hf3 : fOk form = true ∧ form.length ≤ 3
  · obtain ⟨hf, h3⟩ := hf3
    refine Ev.pos (decide_eq_true ⟨hf, h3⟩) (Ev.bind (l4Vector_ev form u 500 (by omega) (by omega) hn (by omega)) ?_)
    rw [hf, Bool.true_and]
    by_cases h5 : vOk form.length 500 u = true
    · refine Ev.pos h5 (Ev.bind (l4Vector_ev form v 500 (by omega) (by omega) hn (by omega)) ?_)
      rw [hf, Bool.true_and]
      by_cases h6 : vOk form.length 500 v = true
      · obtain ⟨fb, ul, vl, ub, vb, cb⟩ := carry_parts form u v hf h3 h5 h6
        have qu := l4Value_ev form u ul (by omega) fb ub
        refine Ev.pos h6 (Ev.bind qu ?_)
        by_cases h0 : dot3 form u u = 0
        · exact Ev.pos h0 (bad (fun k => k.2.2.2.2.1 h0))
        · refine Ev.neg h0 (Ev.bind qu (Ev.bind (l4Value_ev form v vl (by omega) fb vb) ?_))
          by_cases hq : dot3 form u u = dot3 form v v
          · rw [show (dot3 form u u != dot3 form v v) = false by simpa using hq]
            have ev : carryB form u v = if u = v then ([], true) else if dot3 form (combL u (-1) v) (combL u (-1) v) ≠ 0 then ([plainL (combL u (-1) v)], true) else ([plainL (combL u 1 v), plainL v], true) := by
              unfold carryB; exact if_pos ⟨hf, h3, h5, h6, h0, hq⟩
            rw [ev]
            have cl : ∀ t, (combL u t v).length = form.length := fun t => by rw [combL_len]; exact ul
            have tz : ∀ t : Int, t = 1 ∨ t = -1 → ∀ x ∈ combL u t v, -9000000000000000000 ≤ x ∧ x ≤ 9000000000000000000 := fun t h x hx => by have := cb t h x hx; omega
            refine Ev.step (fun k => spec_MoveCarry.j0.eq_2 _ _ _ _ k) (Ev.neg (by simp) (Ev.bind (l7Mix_ev u v (-1) (.inr rfl) (by omega) (by omega) ub vb) (Ev.bind (l5Some_ev _ (by rw [cl]; omega)) ?_)))
            by_cases he : u = v
            · rw [if_pos he, (comb_some (by omega)).2 he]
              exact Ev.neg (by simp) (Ev.now _)
            · rw [if_neg he]
              have hs1 : some0 (combL u (-1) v) = true := by
                rcases hs : some0 (combL u (-1) v) with _ | _
                · exact absurd ((comb_some (by omega)).1 hs) he
                · rfl
              refine Ev.pos hs1 (Ev.bind (l4Value_ev form _ (cl _) (by omega) fb (fun x hx => by have := cb (-1) (.inr rfl) x hx; omega)) ?_)
              by_cases hz : dot3 form (combL u (-1) v) (combL u (-1) v) = 0
              · rw [if_neg (fun k => k hz)]
                refine Ev.pos hz (Ev.bind (l7Mix_ev u v 1 (.inl rfl) (by omega) (by omega) ub vb) (Ev.bind (l5Plain_ev _ (sum_some form u v (by omega) hq ul h0 hz) (by rw [cl]; omega) (tz 1 (.inl rfl))) (Ev.bind (l5Plain_ev v (own_some form v vl (by omega)) (by omega) (fun x hx => by have := vb x hx; omega)) (Ev.now _))))
              · rw [if_pos hz]
                exact Ev.neg hz (Ev.bind (l5Plain_ev _ hs1 (by rw [cl]; omega) (tz (-1) (.inr rfl))) (Ev.now _))
          · rw [show (dot3 form u u != dot3 form v v) = true by simpa using hq]
            exact bad (fun k => hq k.2.2.2.2.2)
      · exact Ev.neg h6 (bad (fun k => h6 k.2.2.2.1))
    · exact Ev.neg h5 (bad (fun k => h5 k.2.2.1))
  · exact Ev.neg (by simpa using hf3) (bad (fun k => hf3 ⟨k.1, k.2.1⟩))
end
theorem iLess_ev (f : List Int) (hn : f.length ≤ 1000000) : Ev (fun k => impl_lessTerms.f k f) (lessN f : Int) := by
  have go : ∀ (m i c : Nat), i + m = f.length → c ≤ i → c + lessN (f.drop i) = lessN f → Ev (fun k => impl_lessTerms.l0 k (c : Int) f (f.length : Int) (i : Int)) (lessN f : Int) := by
    intro m
    induction m with
    | zero =>
      intro i c h _ he
      rw [List.drop_of_length_le (by omega)] at he
      refine Ev.step (fun k => impl_lessTerms.l0.eq_2 _ _ _ _ k) (Ev.neg (by omega) (Ev.nows ?_))
      rw [← he]; rfl
    | succ m ih =>
      intro i c h hc he
      have hi : i < f.length := by omega
      rw [drop_rd hi] at he
      unfold lessN at he
      rw [List.countP_cons] at he
      refine Ev.step (fun k => impl_lessTerms.l0.eq_2 _ _ _ _ k) (Ev.pos (by omega) (Ev.pos (by omega) (Ev.pos (by omega) ?_)))
      rw [w64s (i := i) (by omega)]
      by_cases e : rd f (i : Int) < 0
      · rw [if_pos (by simpa using e)] at he
        refine Ev.pos e ?_
        rw [w64s (i := c) (by omega)]
        exact ih (i + 1) (c + 1) (by omega) (by omega) (by unfold lessN; omega)
      · rw [if_neg (by simpa using e)] at he
        exact Ev.neg e (ih (i + 1) c (by omega) (by omega) (by unfold lessN; omega))
  unfold impl_lessTerms.f
  exact go f.length 0 0 (by omega) (by omega) (by simp)
theorem lessN_le (f : List Int) : lessN f ≤ f.length := by unfold lessN; exact List.countP_le_length
theorem iSigns_ev (f : List Int) (ht : Tame f) (hf : fOk f = true) : Ev (fun k => impl_FormSigns.f k f) ((f.length : Int) - 2 * (lessN f : Int), true) := by
  have hn := fOk_len hf
  have hl := lessN_le f
  unfold impl_FormSigns.f
  refine Ev.bind (iFormValid_ev f ht) (Ev.pos hf (Ev.bind (iLess_ev f (by omega)) (Ev.nows ?_)))
  rw [w64 (a := 2 * (lessN f : Int)) (by omega) (by omega), w64 (by omega) (by omega)]
theorem draw_l {s : List Int} (hs : IsCode s) (form u : List Int) (hu : u.length = form.length) (hF : form.length ≤ 5) (hb : ∀ x ∈ u, -3 ≤ x ∧ x ≤ 3) : ∀ (m i : Nat) (x : List Int) (p : Nat), i + m = u.length → x.length = i → (∀ y ∈ x, -3 ≤ y ∧ y ≤ 3) → p ≤ 2000000 + i →
    ∃ v : List Int, v.length = form.length ∧ Ev (fun k => spec_DrawMoveCarry.l0 k form u x (i : Int) s (p : Int)) (form, u, v) := by
  intro m
  induction m with
  | zero =>
    intro i x p h hx hxb hp
    obtain ⟨a, a0, a1, ha⟩ := pick_ev' hs p 2 (by omega) (by omega)
    by_cases h3 : (form.length : Int) = 3
    · by_cases he : rd form 0 = rd form 1
      · by_cases e0 : a = 0
        · refine ⟨(x.set 0 (rd x 1)).set 1 (rd x 0), by simp; omega, Ev.step (fun k => spec_DrawMoveCarry.l0.eq_2 _ _ _ _ _ _ k) (Ev.neg (by omega) (Ev.pos h3 (Ev.pos (by omega) (Ev.pos (by omega) (Ev.pos he (Ev.bind ha (Ev.pos e0 (Ev.pos (by omega) (Ev.pos (by omega) (Ev.now _)))))))))) ⟩
        · exact ⟨x, by omega, Ev.step (fun k => spec_DrawMoveCarry.l0.eq_2 _ _ _ _ _ _ k) (Ev.neg (by omega) (Ev.pos h3 (Ev.pos (by omega) (Ev.pos (by omega) (Ev.pos he (Ev.bind ha (Ev.neg e0 (Ev.now _))))))))⟩
      · exact ⟨x, by omega, Ev.step (fun k => spec_DrawMoveCarry.l0.eq_2 _ _ _ _ _ _ k) (Ev.neg (by omega) (Ev.pos h3 (Ev.pos (by omega) (Ev.pos (by omega) (Ev.neg he (Ev.now _))))))⟩
    · exact ⟨x, by omega, Ev.step (fun k => spec_DrawMoveCarry.l0.eq_2 _ _ _ _ _ _ k) (Ev.neg (by omega) (Ev.neg h3 (Ev.now _)))⟩
  | succ m ih =>
    intro i x p h hx hxb hp
    obtain ⟨a, a0, a1, ha⟩ := pick_ev' hs p 2 (by omega) (by omega)
    have b := hb _ (rd_mem (show i < u.length by omega))
    have e : wrap64 ((rd u (i : Int)) * (wrap64 (1 - (wrap64 (2 * a))))) = rd u (i : Int) * (1 - 2 * a) := by
      rw [w64 (a := 2 * a) (by omega) (by omega), w64 (a := 1 - 2 * a) (by omega) (by omega)]
      rcases (by omega : a = 0 ∨ a = 1) with rfl | rfl <;> exact w64 (by omega) (by omega)
    obtain ⟨v, h1, h2⟩ := ih (i + 1) (x ++ [rd u (i : Int) * (1 - 2 * a)]) (p + 1) (by omega) (by rw [List.length_append]; simp only [List.length_cons, List.length_nil]; omega) (fun y hy => by
      rcases List.mem_append.1 hy with hy | hy
      · exact hxb y hy
      · rw [List.mem_singleton.1 hy]; rcases (by omega : a = 0 ∨ a = 1) with rfl | rfl <;> omega) (by omega)
    refine ⟨v, h1, Ev.step (fun k => spec_DrawMoveCarry.l0.eq_2 _ _ _ _ _ _ k) (Ev.pos (by omega) (Ev.pos (by omega) (Ev.bind ha (Ev.pos (by omega) ?_))))⟩
    simp only
    rw [w64s (by omega), e]; exact h2
theorem draw_ev {s l : List Int} (hs : IsCode s) (ho : spec_l6Open.f l = some (s, 0)) : ∃ form u v : List Int, Small form ∧ u.length = form.length ∧ v.length = form.length ∧ Ev (fun k => spec_DrawMoveCarry.f k l) (form, u, v) := by
  obtain ⟨form, q, hF, hq, hf⟩ := l92Small_ev hs 0 (by omega)
  have hF5 := hF.1
  obtain ⟨u, u1, u2, u3⟩ := l91Vector_ev hs q (by omega) form 3 (by omega) (by omega) (by omega)
  obtain ⟨a, a0, a1, ha⟩ := pick_ev' hs (q + form.length) 4 (by omega) (by omega)
  unfold spec_DrawMoveCarry.f
  by_cases e0 : a = 0
  · obtain ⟨v, v1, v2, v3⟩ := l91Vector_ev hs (q + form.length + 1) (by omega) form 3 (by omega) (by omega) (by omega)
    exact ⟨form, u, v, hF, u1, v1, Ev.bind0 ho (Ev.bind hf (Ev.bind u3 (Ev.bind ha (Ev.pos e0 (Ev.bind v3 (Ev.now _))))))⟩
  · by_cases e1 : a = 1
    · exact ⟨form, u, u, hF, u1, u1, Ev.bind0 ho (Ev.bind hf (Ev.bind u3 (Ev.bind ha (Ev.neg e0 (Ev.pos e1 (Ev.now _))))))⟩
    · obtain ⟨v, v1, v2⟩ := draw_l hs form u u1 hF5 u2 u.length 0 [] (q + form.length + 1) (by omega) rfl (by simp) (by omega)
      exact ⟨form, u, v, hF, u1, v1, Ev.bind0 ho (Ev.bind hf (Ev.bind u3 (Ev.bind ha (Ev.neg e0 (Ev.neg e1 v2)))))⟩
theorem end_ok (form v : List Int) (out : List (List Int)) (ht : Tame form) (hf : fOk form = true) (hv : v.length ≤ 1000) (i : Int) (h2 : out.length ≤ 2) (h1 : out.length ≤ 1 ∨ ¬ (lessN form = 0 ∨ lessN form = form.length)) :
    Ev (fun k => laws_FnCarry.j2 k form v out v 1 true i false) true := by
  have hn := fOk_len hf
  have hl := lessN_le form
  refine Ev.step (fun k => laws_FnCarry.j2.eq_2 _ _ _ _ _ _ _ _ k) (Ev.neg (by simp) (Ev.bind (iSigns_ev form ht hf) (Ev.pos rfl (Ev.pos rfl (Ev.pos rfl (Ev.bind (sameInts_ev v (by omega)) (Ev.pos rfl (Ev.pos (by omega) (Ev.bind0 (a := ((((form.length : Int) - 2 * (lessN form : Int)).natAbs : Nat) : Int)) ?_ ?_)))))))))
  · unfold laws_sizeOf.f; rw [mx_abs (by omega) (by omega)]
  · by_cases h : ((((form.length : Int) - 2 * (lessN form : Int)).natAbs : Nat) : Int) < (form.length : Int)
    · exact Ev.pos h (Ev.now _)
    · refine Ev.neg h (Ev.nows (decide_eq_true ?_))
      rcases h1 with h1 | h1
      · omega
      · exfalso; omega
theorem end_no (form v x : List Int) (out : List (List Int)) (d : Int) (ht : Tame form) (hf : fOk form = true) (i : Int) (h0 : 0 < out.length) : Ev (fun k => laws_FnCarry.j2 k form v out x d false i false) true :=
  Ev.step (fun k => laws_FnCarry.j2.eq_2 _ _ _ _ _ _ _ _ k) (Ev.neg (by simp) (Ev.bind (iSigns_ev form ht hf) (Ev.neg (by simp) (Ev.pos rfl (Ev.nows (by simp; omega))))))
theorem l0_no (form v x : List Int) (out : List (List Int)) (d : Int) (ht : Tame form) (hf : fOk form = true) (i : Int) (h0 : 0 < out.length) : Ev (fun k => laws_FnCarry.l0 k form v out x d false i) true := by
  by_cases h : i < (out.length : Int)
  · exact Ev.step (fun k => laws_FnCarry.l0.eq_2 _ _ _ _ _ _ _ k) (Ev.pos h (Ev.neg (by simp) (end_no form v x out d ht hf i h0)))
  · exact Ev.step (fun k => laws_FnCarry.l0.eq_2 _ _ _ _ _ _ _ k) (Ev.neg h (end_no form v x out d ht hf i h0))
theorem step_ev (form v x y w : List Int) (out : List (List Int)) (ht : Tame form) (hf : fOk form = true) (i : Nat) (hi : i < out.length) (h9 : out.length ≤ 1000) (hw : out[i] = w) (hwl : w.length ≤ 1000) (hxl : x.length ≤ 1000)
    (hon : (mirB form w).2.2 = true → onB form (mirB form w).1 (mirB form w).2.1 x = (y, 1, true)) (next : Ev (fun k => laws_FnCarry.l0 k form v out y 1 true ((i + 1 : Nat) : Int)) true) : Ev (fun k => laws_FnCarry.l0 k form v out x 1 true (i : Int)) true := by
  refine Ev.step (fun k => laws_FnCarry.l0.eq_2 _ _ _ _ _ _ _ k) (Ev.pos (by omega) (Ev.pos rfl (Ev.step (fun k => laws_FnCarry.j2.eq_2 _ _ _ _ _ _ _ _ k) (Ev.pos rfl (Ev.pos (by omega) (Ev.pos (by omega) ?_))))))
  rw [rdL2_at hi, hw]
  refine Ev.bind (iMirror_ev form w ht hwl) ?_
  by_cases ok : (mirB form w).2.2 = true
  · have := iMoveOn_ev form (mirB form w).1 (mirB form w).2.1 x ht (mirB_rows form w) hxl
    rw [hon ok] at this
    refine Ev.pos ok (Ev.bind this ?_)
    simp only
    rw [w64s (by omega)]; exact next
  · refine Ev.neg ok ?_
    rw [show (mirB form w).2.2 = false by simpa using ok]
    exact l0_no form v x out 1 ht hf _ (by omega)
end FnCarryFun
open FnCarryFun
theorem FnCarry : laws_FnCarry.Pure := by
  intro l _ _ hw
  refine Ev.rounds (r := true) ?_
  unfold laws_FnCarry.f
  by_cases hl : (l.length : Int) > 1048576
  · exact Ev.pos hl (Ev.now _)
  · refine Ev.neg hl ?_
    obtain ⟨s, hs, ho⟩ := open_ev hw
    obtain ⟨form, u, v, hF, ul, vl, hdraw⟩ := draw_ev hs ho
    have ht := small_tame hF
    have hF5 := hF.1
    refine Ev.bind hdraw (Ev.bind (iCarry_ev form u v ht (by omega) (by omega)) (Ev.bind (sCarry_ev form u v ht (by omega) (by omega)) (Ev.neg (by simp) ?_)))
    by_cases h : fOk form = true ∧ form.length ≤ 3 ∧ vOk form.length 500 u = true ∧ vOk form.length 500 v = true ∧ dot3 form u u ≠ 0 ∧ dot3 form u u = dot3 form v v
    · obtain ⟨hf, h3, h5, h6, h0, hq⟩ := h
      have ev : carryB form u v = if u = v then ([], true) else if dot3 form (combL u (-1) v) (combL u (-1) v) ≠ 0 then ([plainL (combL u (-1) v)], true) else ([plainL (combL u 1 v), plainL v], true) := by
        unfold carryB; exact if_pos ⟨hf, h3, h5, h6, h0, hq⟩
      have x1 : vOk form.length 1000 u = true := vOk_of ul (fun x hx => by have := vOk_mem h5 x hx; omega)
      have x2 : vOk form.length 1000 v = true := vOk_of vl (fun x hx => by have := vOk_mem h6 x hx; omega)
      have pl : ∀ t, (plainL (combL u t v)).length = form.length := fun t => by unfold plainL; rw [List.length_map, combL_len]; exact ul
      have pv : (plainL v).length = form.length := by unfold plainL; rw [List.length_map]; exact vl
      rw [ev]
      by_cases he : u = v
      · rw [if_pos he]
        refine Ev.bind (sameLists_ev [] rows_nil) (Ev.pos rfl (Ev.step (fun k => laws_FnCarry.j0.eq_2 _ _ _ _ _ _ _ _ k) (Ev.neg (by simp) (Ev.step (fun k => laws_FnCarry.l0.eq_2 _ _ _ _ _ _ _ k) (Ev.neg (by simp) ?_)))))
        rw [he]
        exact end_ok form v [] ht hf (by omega) 0 (by simp) (.inl (by simp))
      · rw [if_neg he]
        have hs1 : some0 (combL u (-1) v) = true := by
          rcases hs : some0 (combL u (-1) v) with _ | _
          · exact absurd ((comb_some (by omega)).1 hs) he
          · rfl
        by_cases hz : dot3 form (combL u (-1) v) (combL u (-1) v) = 0
        · rw [if_neg (fun k => k hz)]
          have hs2 := sum_some form u v (by omega) hq ul h0 hz
          have hs3 := own_some form v vl (by omega)
          have hd : ¬ (lessN form = 0 ∨ lessN form = form.length) := fun k => by
            rw [definite hf (by rw [combL_len]; exact ul) k hz] at hs1; cases hs1
          refine Ev.bind (sameLists_ev _ ⟨by simp, fun r hr => ?_⟩) (Ev.pos rfl (Ev.step (fun k => laws_FnCarry.j0.eq_2 _ _ _ _ _ _ _ _ k) (Ev.neg (by simp) ?_)))
          · rcases List.mem_cons.1 hr with rfl | hr
            · rw [pl]; omega
            · rw [List.mem_singleton.1 hr, pv]; omega
          · refine step_ev form v u (negL v) (plainL (combL u 1 v)) [plainL (combL u 1 v), plainL v] ht hf 0 (by simp) (by simp) rfl (by rw [pl]; omega) (by omega) (fun ok => mir_on2 ok x1 (by rw [negL_len]; exact vl) (fun i hi => ?_)) ?_
            · have := carry_eq (t := 1) rfl ul vl hq hs2 i hi
              rw [this, negL_rd]; congr 2; omega
            · refine step_ev form v (negL v) v (plainL v) [plainL (combL u 1 v), plainL v] ht hf 1 (by simp) (by simp) rfl (by rw [pv]; omega) (by rw [negL_len]; omega) (fun ok => mir_on2 ok (negL_ok x2) vl (carry_own vl hs3)) ?_
              exact Ev.step (fun k => laws_FnCarry.l0.eq_2 _ _ _ _ _ _ _ k) (Ev.neg (by simp) (end_ok form v _ ht hf (by omega) _ (by simp) (.inr hd)))
        · rw [if_pos hz]
          refine Ev.bind (sameLists_ev _ ⟨by simp, fun r hr => by rw [List.mem_singleton.1 hr, pl]; omega⟩) (Ev.pos rfl (Ev.step (fun k => laws_FnCarry.j0.eq_2 _ _ _ _ _ _ _ _ k) (Ev.neg (by simp) ?_)))
          refine step_ev form v u v (plainL (combL u (-1) v)) [plainL (combL u (-1) v)] ht hf 0 (by simp) (by simp) rfl (by rw [pl]; omega) (by omega) (fun ok => mir_on2 ok x1 vl (fun i hi => ?_)) ?_
          · have := carry_eq (t := -1) rfl ul vl hq hs1 i hi
            rw [this]; congr 2; omega
          · exact Ev.step (fun k => laws_FnCarry.l0.eq_2 _ _ _ _ _ _ _ k) (Ev.neg (by simp) (end_ok form v _ ht hf (by omega) _ (by simp) (.inl (by simp))))
    · have e : carryB form u v = ([], false) := by unfold carryB; exact if_neg h
      rw [e]
      exact Ev.bind (sameLists_ev [] rows_nil) (Ev.pos rfl (Ev.step (fun k => laws_FnCarry.j0.eq_2 _ _ _ _ _ _ _ _ k) (Ev.pos rfl (Ev.pos rfl (Ev.bind (sameLists_ev [] rows_nil) (Ev.now _))))))
end Go.Proofs.Ytnbeeogmaamgdaa.Pure
