/- The law FnZero holds: a zero makes the form vanish at each place. For every list of bytes; no condition. -/
import Derived.Test.YtpjgcjkodmkemaaPFnZerox
import Derived.Test.YtpjgcjkodmkemaaLoc4
import Derived.Test.YtpjgcjkodmkemaaRun2
namespace Go.Proofs.Ytpjgcjkodmkemaa.Pure
open Go.RowKit Go.Proofs.Ytpjgcjkodmkemaa.PFnZero Go.Proofs.YtpjgcjkodmkemaaW.PrintWords Go.Proofs.YtpjgcjkodmkemaaW.PrintLast Go.Proofs.YtpjgcjkodmkemaaW.PrintMore Go.Proofs.Ytpjgcjkodmkemaa.Aid
namespace FnZeroFun
set_option linter.unusedVariables false
theorem in_eq (a b c : Int) : spec_l6In.f a b c = some (decide (b ≤ a ∧ a ≤ c)) := by
  unfold spec_l6In.f
  by_cases h : b ≤ a <;> simp [h]
theorem size_eq {x : Int} (h : -9223372036854775807 ≤ x) (h1 : x ≤ 9223372036854775807) : impl_size.f x = some (x.natAbs : Int) := by
  unfold impl_size.f; rw [mx_abs h h1]
theorem gcd_l1 (xs : List Int) (n i : Int) (r : Int) : ∀ (B b a : Nat), b ≤ B → Ev (fun k => impl_gcd.l0 k (Nat.gcd a b : Int) xs n (wrap64 (i + 1))) r → Ev (fun k => impl_gcd.l1 k (a : Int) (b : Int) xs n i) r := by
  intro B
  induction B with
  | zero =>
    intro b a h hr
    obtain rfl : b = 0 := by omega
    refine Ev.step (fun k => impl_gcd.l1.eq_2 _ _ _ _ _ k) (Ev.pos rfl ?_)
    simpa using hr
  | succ B ih =>
    intro b a h hr
    rcases Nat.eq_zero_or_pos b with rfl | hb
    · refine Ev.step (fun k => impl_gcd.l1.eq_2 _ _ _ _ _ k) (Ev.pos rfl ?_)
      simpa using hr
    · refine Ev.step (fun k => impl_gcd.l1.eq_2 _ _ _ _ _ k) (Ev.neg (by omega) ?_)
      have e : Int.tmod (a : Int) (b : Int) = ((a % b : Nat) : Int) := by rw [Int.tmod_eq_emod_of_nonneg (by omega)]; rfl
      rw [e]
      refine ih (a % b) b (by have := Nat.mod_lt a hb; omega) ?_
      rwa [show Nat.gcd b (a % b) = Nat.gcd a b by rw [Nat.gcd_comm a b, Nat.gcd_rec b a, Nat.gcd_comm]]
theorem gcd_l0 (xs : List Int) (hn : xs.length ≤ 17592186044416) (hb : ∀ x ∈ xs, -9223372036854775807 ≤ x ∧ x ≤ 9223372036854775807) : ∀ (m i g : Nat), i + m = xs.length → Ev (fun k => impl_gcd.l0 k (g : Int) xs (xs.length : Int) (i : Int)) (gcdL g (xs.drop i) : Int) := by
  intro m
  induction m with
  | zero =>
    intro i g h
    refine Ev.step (fun k => impl_gcd.l0.eq_2 _ _ _ _ k) (Ev.neg (by omega) (Ev.nows ?_))
    rw [List.drop_of_length_le (by omega)]; rfl
  | succ m ih =>
    intro i g h
    have hx := hb _ (rd_mem (show i < xs.length by omega))
    refine Ev.step (fun k => impl_gcd.l0.eq_2 _ _ _ _ k) (Ev.pos (by omega) (Ev.pos (by omega) (Ev.pos (by omega) (Ev.bind0 (size_eq hx.1 hx.2) ?_))))
    refine gcd_l1 _ _ _ _ _ _ _ (Nat.le_refl _) ?_
    rw [w64s (by omega), drop_rd (show i < xs.length by omega)]
    exact ih (i + 1) _ (by omega)
theorem gcd_ev (xs : List Int) (hn : xs.length ≤ 17592186044416) (hb : ∀ x ∈ xs, -9223372036854775807 ≤ x ∧ x ≤ 9223372036854775807) : Ev (fun k => impl_gcd.f k xs) (gcdL 0 xs : Int) := by
  unfold impl_gcd.f
  exact gcd_l0 xs hn hb xs.length 0 0 (by omega)
theorem l1Size_eq {x : Int} (h : -9223372036854775807 ≤ x) (h1 : x ≤ 9223372036854775807) : spec_l1Size.f x = some (x.natAbs : Int) := by
  unfold spec_l1Size.f; rw [mx_abs h h1]
theorem l1Gcd_l : ∀ (B b a : Nat), b ≤ B → Ev (fun k => spec_l1Gcd.l0 k (a : Int) (b : Int)) (Nat.gcd a b : Int) := by
  intro B
  induction B with
  | zero =>
    intro b a h
    obtain rfl : b = 0 := by omega
    exact Ev.step (fun k => spec_l1Gcd.l0.eq_2 _ _ k) (Ev.pos rfl (Ev.nows (by simp)))
  | succ B ih =>
    intro b a h
    rcases Nat.eq_zero_or_pos b with rfl | hb
    · exact Ev.step (fun k => spec_l1Gcd.l0.eq_2 _ _ k) (Ev.pos rfl (Ev.nows (by simp)))
    · refine Ev.step (fun k => spec_l1Gcd.l0.eq_2 _ _ k) (Ev.neg (by omega) ?_)
      have e : Int.tmod (a : Int) (b : Int) = ((a % b : Nat) : Int) := by rw [Int.tmod_eq_emod_of_nonneg (by omega)]; rfl
      rw [e]
      refine Ev.to (ih (a % b) b (by have := Nat.mod_lt a hb; omega)) ?_
      rw [show Nat.gcd b (a % b) = Nat.gcd a b by rw [Nat.gcd_comm a b, Nat.gcd_rec b a, Nat.gcd_comm]]
theorem l1Gcd_ev {a b : Int} (ha : -9223372036854775807 ≤ a) (ha1 : a ≤ 9223372036854775807) (hb : -9223372036854775807 ≤ b) (hb1 : b ≤ 9223372036854775807) : Ev (fun k => spec_l1Gcd.f k a b) (Nat.gcd a.natAbs b.natAbs : Int) := by
  unfold spec_l1Gcd.f
  exact Ev.bind0 (l1Size_eq ha ha1) (Ev.bind0 (l1Size_eq hb hb1) (l1Gcd_l _ _ _ (Nat.le_refl _)))
theorem fOk_no {form : List Int} {x : Int} (h : x ∈ form) (hx : ¬ (x ≠ 0 ∧ -30 ≤ x ∧ x ≤ 30)) : fOk form = false := by
  unfold fOk; exact decide_eq_false (fun k => hx (k.2.2 x h))
theorem fOk_end {xs : List Int} (h : ∀ j, j < xs.length → rd xs (j : Int) ≠ 0 ∧ -30 ≤ rd xs (j : Int) ∧ rd xs (j : Int) ≤ 30) : fOk xs = decide (1 ≤ xs.length ∧ xs.length ≤ 4) := by
  have ha : ∀ x ∈ xs, x ≠ 0 ∧ -30 ≤ x ∧ x ≤ 30 := by
    intro x hx
    obtain ⟨j, hj, rfl⟩ := List.getElem_of_mem hx
    have := h j hj
    rwa [rd_at, List.getD_eq_getElem?_getD, List.getElem?_eq_getElem hj] at this
  unfold fOk
  by_cases h4 : 1 ≤ xs.length ∧ xs.length ≤ 4
  · rw [decide_eq_true h4]; exact decide_eq_true ⟨h4.1, h4.2, ha⟩
  · rw [decide_eq_false h4]; exact decide_eq_false (fun k => h4 ⟨k.1, k.2.1⟩)
theorem iFormValid_l (xs : List Int) (ht : Tame xs) : ∀ (m i : Nat), i + m = xs.length → (∀ j, j < i → j < xs.length → rd xs (j : Int) ≠ 0 ∧ -30 ≤ rd xs (j : Int) ∧ rd xs (j : Int) ≤ 30) →
    Ev (fun k => impl_FormValid.l0 k xs xs (xs.length : Int) (i : Int)) (fOk xs) := by
  have hn := ht.1
  intro m
  induction m with
  | zero =>
    intro i h hj
    have e := fOk_end (xs := xs) (fun j hj1 => hj j (by omega) hj1)
    refine Ev.step (fun k => impl_FormValid.l0.eq_2 _ _ _ _ k) (Ev.neg (by omega) ?_)
    by_cases h1 : (xs.length : Int) ≥ 1
    · refine Ev.pos h1 (Ev.nows ?_)
      rw [e, decide_eq_decide]; omega
    · refine Ev.neg h1 (Ev.nows ?_)
      rw [e]; exact (decide_eq_false (by omega)).symm
  | succ m ih =>
    intro i h hj
    have hb := ht.2 _ (rd_mem (show i < xs.length by omega))
    refine Ev.step (fun k => impl_FormValid.l0.eq_2 _ _ _ _ k) (Ev.pos (by omega) (Ev.pos (by omega) (Ev.pos (by omega) ?_)))
    by_cases h1 : rd xs (i : Int) = 0
    · exact Ev.pos h1 (Ev.nows (fOk_no (rd_mem (by omega)) (fun k => k.1 h1)).symm)
    · refine Ev.neg h1 (Ev.bind0 (size_eq hb.1 hb.2) ?_)
      by_cases h2 : (((rd xs (i : Int)).natAbs : Nat) : Int) > 30
      · exact Ev.pos h2 (Ev.nows (fOk_no (rd_mem (show i < xs.length by omega)) (by omega)).symm)
      · refine Ev.neg h2 ?_
        rw [w64s (by omega)]
        refine ih (i + 1) (by omega) (fun j h5 h6 => ?_)
        rcases (by omega : j < i ∨ j = i) with h7 | rfl
        · exact hj j h7 h6
        · exact ⟨h1, by omega, by omega⟩
theorem iFormValid_ev (xs : List Int) (ht : Tame xs) : Ev (fun k => impl_FormValid.f k xs) (fOk xs) := by
  unfold impl_FormValid.f
  exact iFormValid_l xs ht xs.length 0 (by omega) (by omega)
theorem vOk_no {n : Nat} {most : Int} {v : List Int} {x : Int} (h : x ∈ v) (hx : ¬ (-most ≤ x ∧ x ≤ most)) : vOk n most v = false := by
  unfold vOk; exact decide_eq_false (fun k => hx (k.2 x h))
theorem vOk_end {n : Nat} {most : Int} {v : List Int} (h : ∀ j, j < v.length → -most ≤ rd v (j : Int) ∧ rd v (j : Int) ≤ most) : vOk n most v = ((v.length : Int) == (n : Int)) := by
  have ha : ∀ x ∈ v, -most ≤ x ∧ x ≤ most := by
    intro x hx
    obtain ⟨j, hj, rfl⟩ := List.getElem_of_mem hx
    have := h j hj
    rwa [rd_at, List.getD_eq_getElem?_getD, List.getElem?_eq_getElem hj] at this
  unfold vOk
  by_cases h4 : v.length = n
  · rw [decide_eq_true (show _ from ⟨h4, ha⟩), h4]; simp
  · rw [decide_eq_false (fun k => h4 k.1)]; simp; omega
theorem iVectorOk_l (form v : List Int) (most : Int) (hm0 : 0 ≤ most) (hm : most ≤ 1000000000) (hn : v.length ≤ 17592186044416) : ∀ (m i : Nat), i + m = v.length → (∀ j, j < i → j < v.length → -most ≤ rd v (j : Int) ∧ rd v (j : Int) ≤ most) →
    Ev (fun k => impl_vectorOk.l0 k form v most v (v.length : Int) (i : Int)) (vOk form.length most v) := by
  intro m
  induction m with
  | zero =>
    intro i h hj
    exact Ev.step (fun k => impl_vectorOk.l0.eq_2 _ _ _ _ _ _ k) (Ev.neg (by omega) (Ev.nows (vOk_end (fun j h1 => hj j (by omega) h1)).symm))
  | succ m ih =>
    intro i h hj
    refine Ev.step (fun k => impl_vectorOk.l0.eq_2 _ _ _ _ _ _ k) (Ev.pos (by omega) (Ev.pos (by omega) (Ev.pos (by omega) ?_)))
    rw [w64 (a := -most) (by omega) (by omega)]
    by_cases h1 : rd v (i : Int) < -most
    · exact Ev.pos h1 (Ev.nows (vOk_no (rd_mem (show i < v.length by omega)) (by omega)).symm)
    · refine Ev.neg h1 ?_
      by_cases h2 : rd v (i : Int) > most
      · exact Ev.pos h2 (Ev.nows (vOk_no (rd_mem (show i < v.length by omega)) (by omega)).symm)
      · refine Ev.neg h2 ?_
        rw [w64s (by omega)]
        refine ih (i + 1) (by omega) (fun j h5 h6 => ?_)
        rcases (by omega : j < i ∨ j = i) with h7 | rfl
        · exact hj j h7 h6
        · exact ⟨by omega, by omega⟩
theorem iVectorOk_ev (form v : List Int) (most : Int) (hm0 : 0 ≤ most) (hm : most ≤ 1000000000) (hn : v.length ≤ 17592186044416) : Ev (fun k => impl_vectorOk.f k form v most) (vOk form.length most v) := by
  unfold impl_vectorOk.f
  exact iVectorOk_l form v most hm0 hm hn v.length 0 (by omega) (by omega)
theorem dot3_drop {f v w : List Int} {i : Nat} (hf : i < f.length) (hv : i < v.length) (hw : i < w.length) :
    dot3 (f.drop i) (v.drop i) (w.drop i) = rd f (i : Int) * rd v (i : Int) * rd w (i : Int) + dot3 (f.drop (i + 1)) (v.drop (i + 1)) (w.drop (i + 1)) := by
  rw [drop_rd hf, drop_rd hv, drop_rd hw]; rfl
theorem dot3_nil {f v w : List Int} {i : Nat} (hf : f.length ≤ i) : dot3 (f.drop i) (v.drop i) (w.drop i) = 0 := by
  rw [List.drop_of_length_le hf]; rfl
theorem iPair_l (f v w : List Int) (hv : v.length = f.length) (hw : w.length = f.length) (hn : f.length ≤ 4) (hf : ∀ x ∈ f, -31 ≤ x ∧ x ≤ 31) (bv : ∀ x ∈ v, -1000000 ≤ x ∧ x ≤ 1000000) (bw : ∀ x ∈ w, -1000000 ≤ x ∧ x ≤ 1000000) :
    ∀ (m i : Nat) (s : Int), i + m = f.length → -(31000000000000 * i) ≤ s → s ≤ 31000000000000 * i → Ev (fun k => impl_pair.l0 k v w s f (f.length : Int) (i : Int)) (s + dot3 (f.drop i) (v.drop i) (w.drop i)) := by
  intro m
  induction m with
  | zero =>
    intro i s h _ _
    exact Ev.step (fun k => impl_pair.l0.eq_2 _ _ _ _ _ _ k) (Ev.neg (by omega) (Ev.nows (by rw [dot3_nil (by omega)]; omega)))
  | succ m ih =>
    intro i s h h1 h2
    have b1 := hf _ (rd_mem (show i < f.length by omega))
    have b2 := bv _ (rd_mem (show i < v.length by omega))
    have b3 := bw _ (rd_mem (show i < w.length by omega))
    have b := mul3_bd b1 b2 b3 (by omega) (by omega)
    refine Ev.step (fun k => impl_pair.l0.eq_2 _ _ _ _ _ _ k) (Ev.pos (by omega) (Ev.pos (by omega) (Ev.pos (by omega) (Ev.pos (by omega) (Ev.pos (by omega) ?_)))))
    rw [w64s (by omega), w64 (a := rd f (i : Int) * rd v (i : Int)) (by omega) (by omega), w64 (a := rd f (i : Int) * rd v (i : Int) * rd w (i : Int)) (by omega) (by omega), w64 (a := s + _) (by omega) (by omega), dot3_drop (show i < f.length by omega) (by omega) (by omega)]
    refine Ev.to (ih (i + 1) _ (by omega) (by omega) (by omega)) (by omega)
theorem iPair_ev (f v w : List Int) (hv : v.length = f.length) (hw : w.length = f.length) (hn : f.length ≤ 4) (hf : ∀ x ∈ f, -31 ≤ x ∧ x ≤ 31) (bv : ∀ x ∈ v, -1000000 ≤ x ∧ x ≤ 1000000) (bw : ∀ x ∈ w, -1000000 ≤ x ∧ x ≤ 1000000) :
    Ev (fun k => impl_pair.f k f v w) (dot3 f v w) := by
  unfold impl_pair.f
  have h := iPair_l f v w hv hw hn hf bv bw f.length 0 0 (by omega) (by omega) (by omega)
  exact Ev.to h (by simp)
theorem sFormValid_l (xs : List Int) (hn : xs.length ≤ 1000000) : ∀ (m i : Nat), i + m = xs.length → (∀ j, j < i → j < xs.length → rd xs (j : Int) ≠ 0 ∧ -30 ≤ rd xs (j : Int) ∧ rd xs (j : Int) ≤ 30) →
    Ev (fun k => spec_FormValid.l0 k xs (i : Int)) (fOk xs) := by
  intro m
  induction m with
  | zero =>
    intro i h hj
    refine Ev.step (fun k => spec_FormValid.l0.eq_2 _ _ k) (Ev.neg (by omega) (Ev.bind0 (in_eq _ _ _) (Ev.nows ?_)))
    rw [fOk_end (fun j h1 => hj j (by omega) h1)]
    exact decide_eq_decide.2 ⟨fun h => by omega, fun h => by omega⟩
  | succ m ih =>
    intro i h hj
    refine Ev.step (fun k => spec_FormValid.l0.eq_2 _ _ k) (Ev.pos (by omega) (Ev.pos (by omega) ?_))
    by_cases h1 : rd xs (i : Int) = 0
    · exact Ev.pos h1 (Ev.nows (fOk_no (rd_mem (show i < xs.length by omega)) (by omega)).symm)
    · refine Ev.neg h1 (Ev.bind0 (in_eq _ _ _) ?_)
      by_cases h2 : -30 ≤ rd xs (i : Int) ∧ rd xs (i : Int) ≤ 30
      · refine Ev.pos (decide_eq_true h2) ?_
        rw [w64s (by omega)]
        refine ih (i + 1) (by omega) (fun j h5 h6 => ?_)
        rcases (by omega : j < i ∨ j = i) with h7 | rfl
        · exact hj j h7 h6
        · exact ⟨h1, h2⟩
      · refine Ev.neg (by simpa using h2) (Ev.nows ?_)
        exact (fOk_no (rd_mem (show i < xs.length by omega)) (fun k => h2 k.2)).symm
theorem sFormValid_ev (xs : List Int) (hn : xs.length ≤ 1000000) : Ev (fun k => spec_FormValid.f k xs) (fOk xs) := by
  unfold spec_FormValid.f
  exact sFormValid_l xs hn xs.length 0 (by omega) (by omega)
theorem pick_ev {s : List Int} (hs : IsCode s) (p n : Nat) (hp : p ≤ 20000000000000000) (hn : 1 ≤ n) : Ev (fun k => spec_l6Rd_pick.f k s (p : Int) (n : Int)) ((pickv s p n : Int), ((p + 1 : Nat) : Int)) := by
  unfold spec_l6Rd_pick.f
  rw [w64s (by omega)]
  refine Ev.neg (by omega) (Ev.step (fun k => spec_l6Rd_pick.j0.eq_2 _ _ _ _ k) ?_)
  have hl := hs.1
  by_cases h0 : s.length = 0
  · exact Ev.pos (by simp [h0]) (Ev.nows (by unfold pickv; rw [if_pos h0]; rfl))
  · refine Ev.neg (by simp; simpa using h0) ?_
    rw [show ((p + 1 : Nat) : Int) - 1 = (p : Int) by omega, w64 (a := (p : Int)) (by omega) (by omega)]
    by_cases h1 : p < s.length
    · refine Ev.pos (by omega) (Ev.pos (by omega) (Ev.neg (by omega) (Ev.nows ?_)))
      have hb := code_at hs p
      unfold pickv
      rw [if_neg h0, if_pos h1, rd_at, w64 (by omega) (by omega), Int.tmod_eq_emod_of_nonneg hb.1, Int.natCast_emod, Int.toNat_of_nonneg hb.1]
    · refine Ev.neg (by omega) (Ev.neg (by omega) ?_)
      have e1 : Int.tmod (p : Int) (s.length : Int) = ((p % s.length : Nat) : Int) := by rw [Int.tmod_eq_emod_of_nonneg (by omega)]; rfl
      have e2 : Int.tmod (wrap64 (wrap64 ((p : Int) * 7) + 3)) (s.length : Int) = (((p * 7 + 3) % s.length : Nat) : Int) := by
        rw [w64 (a := (p : Int) * 7) (by omega) (by omega), w64 (by omega) (by omega), Int.tmod_eq_emod_of_nonneg (by omega)]; rfl
      have m1 : p % s.length < s.length := Nat.mod_lt _ (by omega)
      have m2 : (p * 7 + 3) % s.length < s.length := Nat.mod_lt _ (by omega)
      rw [e1, e2]
      refine Ev.pos (by omega) (Ev.pos (by omega) (Ev.pos (by omega) (Ev.pos (by omega) (Ev.neg (by omega) (Ev.nows ?_)))))
      have hb1 := code_at hs (p % s.length)
      have hb2 := code_at hs ((p * 7 + 3) % s.length)
      have hd : p / s.length ≤ p := Nat.div_le_self _ _
      have e3 : wrap64 (Int.tdiv (p : Int) (s.length : Int)) = ((p / s.length : Nat) : Int) := by
        rw [Int.tdiv_eq_ediv_of_nonneg (by omega), show (p : Int) / (s.length : Int) = ((p / s.length : Nat) : Int) from rfl]
        generalize p / s.length = q at *
        exact w64 (by omega) (by omega)
      have hm := mixed_le hs p
      have e4 : wrap64 ((wrap64 ((wrap64 ((wrap64 ((wrap64 (rd s ((p % s.length : Nat) : Int))) * 131)) + (wrap64 ((wrap64 (rd s (((p * 7 + 3) % s.length : Nat) : Int))) * 1117)))) + (wrap64 ((p : Int) * 29)))) + (wrap64 ((wrap64 (Int.tdiv (p : Int) (s.length : Int))) * 53))) = ((mixed s p : Nat) : Int) := by
        rw [e3, rd_at, rd_at, mix_wrap (s.getD (p % s.length) 0) (s.getD ((p * 7 + 3) % s.length) 0) (p : Int) ((p / s.length : Nat) : Int) hb1.1 hb1.2 hb2.1 hb2.2 (Int.natCast_nonneg _) (Int.ofNat_le.2 hp) (Int.natCast_nonneg _) (Int.ofNat_le.2 hd)]
        exact (mixed_int hs p).symm
      rw [e4]
      have e5 : wrap64 (Int.tdiv ((mixed s p : Nat) : Int) 64) = ((mixed s p / 64 : Nat) : Int) := by
        generalize mixed s p = M at *
        rw [Int.tdiv_eq_ediv_of_nonneg (by omega)]; exact w64 (by omega) (by omega)
      rw [e5, xor_i64 _ _ (by omega) (by omega), Int.tmod_eq_emod_of_nonneg (by omega)]
      unfold pickv
      rw [if_neg h0, if_neg h1]
      rfl
theorem pick_ev' {s : List Int} (hs : IsCode s) (p : Nat) (n : Int) (hp : p ≤ 20000000000000000) (hn : 1 ≤ n) : ∃ r : Int, 0 ≤ r ∧ r < n ∧ Ev (fun k => spec_l6Rd_pick.f k s (p : Int) n) (r, ((p + 1 : Nat) : Int)) := by
  obtain ⟨m, rfl⟩ : ∃ m : Nat, n = m := ⟨n.toNat, by omega⟩
  have h := pickv_lt s p (n := m) (by omega)
  exact ⟨_, by omega, by omega, pick_ev hs p m hp (by omega)⟩
theorem open_ev {l : List Int} (hw : ∀ x ∈ l, (Lit.int .u8 x).wf = true) : ∃ s, IsCode s ∧ spec_l6Open.f l = some (s, 0) := by
  have hb : ∀ x ∈ l, 0 ≤ x ∧ x ≤ 255 := fun x hx => by
    have := hw x hx
    simp [Lit.wf, IntKind.min, IntKind.max, IntKind.signed, IntKind.bits] at this; omega
  unfold spec_l6Open.f
  by_cases h : (l.length : Int) > 2000
  · rw [if_pos h, if_pos (by omega)]
    exact ⟨l.take 2000, ⟨by rw [List.length_take]; omega, fun x hx => hb x (List.mem_of_mem_take hx)⟩, rfl⟩
  · rw [if_neg h]
    exact ⟨l, ⟨by omega, hb⟩, rfl⟩
theorem iRest_eq {a m : Int} (hm : 0 < m) (hm1 : m ≤ 1000) (h : -1000000000000000 ≤ a) (h1 : a ≤ 1000000000000000) : impl_rest.f a m = some (a % m) := by
  unfold impl_rest.f
  rw [if_neg (by omega)]
  have h2 := Int.tmod_add_mul_tdiv a m
  have h3 := Int.natAbs_tmod a m
  have h4 := Nat.mod_lt a.natAbs (show 0 < m.natAbs by omega)
  have h5 : -m < Int.tmod a m ∧ Int.tmod a m < m := by omega
  rw [w64 (a := Int.tmod a m + m) (by omega) (by omega), Int.tmod_eq_emod_of_nonneg (by omega)]
  conv => rhs; rw [← h2]
  rw [Int.add_mul_emod_self_left, Int.add_emod_right]
theorem iSplit_l {p : Nat} (hp : 2 ≤ p) (hp1 : p ≤ 1000) : ∀ (k c : Nat) (n u : Int), IsVU p n k u → -1000000000000000 ≤ n → n ≤ 1000000000000000 → c + k ≤ 2000000000000000 → Ev (fun K => impl_split.l0 K n (p : Int) (c : Int)) (((c + k : Nat) : Int), u) := by
  intro k
  induction k with
  | zero =>
    intro c n u h _ _ _
    have e : n = u := by rw [h.1]; simp
    subst e
    refine Ev.step (fun K => impl_split.l0.eq_2 _ _ _ K) (Ev.neg (by omega) (Ev.neg (fun k => h.2 (Int.dvd_of_tmod_eq_zero k)) (Ev.nows rfl)))
  | succ k ih =>
    intro c n u h h1 h2 h3
    have e : n = (p : Int) * ((p : Int) ^ k * u) := by rw [h.1, Int.pow_succ, Int.mul_comm ((p : Int) ^ k) (p : Int), Int.mul_assoc]
    have ab : ((p : Int) ^ k * u).natAbs ≤ n.natAbs := by
      have e3 : n.natAbs = ((p : Int)).natAbs * ((p : Int) ^ k * u).natAbs := (congrArg Int.natAbs e).trans (Int.natAbs_mul _ _)
      rw [e3]
      exact Nat.le_mul_of_pos_left _ (show 0 < ((p : Int)).natAbs by rw [Int.natAbs_natCast]; omega)
    have hv : IsVU p ((p : Int) ^ k * u) k u := ⟨rfl, h.2⟩
    generalize (p : Int) ^ k * u = y at *
    refine Ev.step (fun K => impl_split.l0.eq_2 _ _ _ K) (Ev.neg (by omega) (Ev.pos (by rw [e]; exact Int.mul_tmod_right _ _) ?_))
    rw [show Int.tdiv n (p : Int) = y by rw [e]; exact Int.mul_tdiv_cancel_left _ (show (p : Int) ≠ 0 by omega), w64 (a := y) (by omega) (by omega), w64s (by omega), show c + (k + 1) = c + 1 + k by omega]
    exact ih (c + 1) _ u hv (by omega) (by omega) (by omega)
theorem iSplit_ex {p : Nat} (hp : 2 ≤ p) (hp1 : p ≤ 1000) {n : Int} (h0 : n ≠ 0) (h : -1000000 ≤ n ∧ n ≤ 1000000) : ∃ (k : Nat) (u : Int), IsVU p n k u ∧ k ≤ 1000000 ∧ (-1000000 ≤ u ∧ u ≤ 1000000) ∧ Ev (fun K => impl_split.f K n (p : Int)) ((k : Int), u) := by
  obtain ⟨k, u, h1, h2, h3⟩ := vu_ex hp n.natAbs n (Nat.le_refl _) h0
  refine ⟨k, u, h1, by omega, by omega, ?_⟩
  unfold impl_split.f
  have := iSplit_l hp hp1 k 0 n u h1 (by omega) (by omega) (by omega)
  rw [Nat.zero_add] at this
  exact this
theorem iPower_ev {a : Int} (ha : a = 1 ∨ a = -1) {e : Int} (he : e = 0 ∨ e = 1) : Ev (fun k => impl_power.f k a e) (if e = 1 then a else 1) := by
  unfold impl_power.f
  rcases he with rfl | rfl
  · exact Ev.step (fun k => impl_power.l0.eq_2 _ _ _ _ k) (Ev.neg (by decide) (Ev.nows rfl))
  · refine Ev.step (fun k => impl_power.l0.eq_2 _ _ _ _ k) (Ev.pos (by decide) ?_)
    rw [w64 (a := 1 * a) (by omega) (by omega), w64 (a := (0 : Int) + 1) (by decide) (by decide), Int.one_mul]
    exact Ev.step (fun k => impl_power.l0.eq_2 _ _ _ _ k) (Ev.neg (by decide) (Ev.nows rfl))
theorem iResidue_l {p r : Nat} (hp : 2 ≤ p) (hp1 : p ≤ 1000) : ∀ (m x : Nat), x + m = p / 2 + 1 → 1 ≤ x → (∀ y, 1 ≤ y → y < x → y * y % p ≠ r) → Ev (fun k => impl_residue.l0 k (p : Int) (r : Int) (x : Int)) (if chi p r then -1 else 1) := by
  have hd : Int.tdiv (p : Int) 2 = ((p / 2 : Nat) : Int) := by rw [Int.tdiv_eq_ediv_of_nonneg (by omega)]; omega
  intro m
  induction m with
  | zero =>
    intro x h _ hy
    refine Ev.step (fun k => impl_residue.l0.eq_2 _ _ _ k) ?_
    rw [hd, w64 (by omega) (by omega)]
    refine Ev.neg (by omega) (Ev.nows ?_)
    rw [if_pos]
    unfold chi
    rw [Bool.not_eq_true', List.any_eq_false]
    intro y hy1
    rw [List.mem_range] at hy1
    have := hy (y + 1) (by omega) (by omega)
    simpa using this
  | succ m ih =>
    intro x h h1 hy
    refine Ev.step (fun k => impl_residue.l0.eq_2 _ _ _ k) ?_
    rw [hd, w64 (a := ((p / 2 : Nat) : Int)) (by omega) (by omega)]
    have hx : x * x ≤ 1000 * 1000 := Nat.mul_le_mul (by omega) (by omega)
    have e : Int.tmod (wrap64 ((x : Int) * (x : Int))) (p : Int) = ((x * x % p : Nat) : Int) := by
      rw [show (x : Int) * (x : Int) = ((x * x : Nat) : Int) by push_cast; rfl, w64 (by omega) (by omega), Int.tmod_eq_emod_of_nonneg (by omega)]; rfl
    refine Ev.pos (by omega) (Ev.neg (by omega) ?_)
    rw [e]
    by_cases hr : x * x % p = r
    · refine Ev.pos (by omega) (Ev.nows ?_)
      rw [if_neg]
      unfold chi
      rw [Bool.not_eq_true, Bool.not_eq_false', List.any_eq_true]
      exact ⟨x - 1, List.mem_range.2 (by omega), by rw [show x - 1 + 1 = x by omega, beq_iff_eq]; exact hr⟩
    · refine Ev.neg (by omega) ?_
      rw [w64s (by omega)]
      refine ih (x + 1) (by omega) (by omega) (fun y h2 h3 => ?_)
      rcases (by omega : y < x ∨ y = x) with h4 | rfl
      · exact hy y h2 h4
      · exact hr
theorem iResidue_ev {p : Nat} (hp : 2 ≤ p) (hp1 : p ≤ 1000) {u : Int} (hu : ¬ (p : Int) ∣ u) (h : -1000000 ≤ u ∧ u ≤ 1000000) : Ev (fun k => impl_residue.f k u (p : Int)) (if chi p (rOf p u) then -1 else 1) := by
  unfold impl_residue.f
  have hr := r_lt hp u
  have h0 : rOf p u ≠ 0 := fun k => hu ((r_zero hp u).1 k)
  refine Ev.bind0 (iRest_eq (by omega) (by omega) (by omega) (by omega)) ?_
  rw [← hr.2]
  exact Ev.neg (by omega) (iResidue_l hp hp1 (p / 2) 1 (by omega) (by omega) (fun y h1 h2 => by omega))
def sg (b : Bool) : Int := if b then -1 else 1
theorem sg_mul (a b : Bool) : sg a * sg b = sg (xor a b) := by cases a <;> cases b <;> rfl
theorem sg_pow (b : Bool) (k : Nat) : (if Int.tmod (k : Int) 2 = 1 then sg b else 1) = sg (b && (k % 2 == 1)) := by
  rw [Int.tmod_eq_emod_of_nonneg (by omega)]
  rcases Nat.mod_two_eq_zero_or_one k with h | h
  · rw [if_neg (by omega), h]; cases b <;> rfl
  · rw [if_pos (by omega), h]; cases b <;> rfl
theorem par (k : Nat) : Int.tmod (k : Int) 2 = 0 ∨ Int.tmod (k : Int) 2 = 1 := by
  rw [Int.tmod_eq_emod_of_nonneg (by omega)]; omega
theorem sg_cases (b : Bool) : sg b = 1 ∨ sg b = -1 := by cases b <;> simp [sg]
theorem mul_odd (i j h : Nat) : (i * j * h % 2 == 1) = ((h % 2 == 1) && ((i % 2 == 1) && (j % 2 == 1))) := by
  rcases Nat.mod_two_eq_zero_or_one i with a | a <;> rcases Nat.mod_two_eq_zero_or_one j with b | b <;> rcases Nat.mod_two_eq_zero_or_one h with c | c <;> simp [Nat.mul_mod, a, b, c]
theorem iSymbol_odd {p : Nat} (hp : p ∈ OP) {a b : Int} (a0 : a ≠ 0) (b0 : b ≠ 0) (ha : -1000000 ≤ a ∧ a ≤ 1000000) (hb : -1000000 ≤ b ∧ b ≤ 1000000) {c d : Bool × Bool} (hc : CL p a c) (hd : CL p b d) :
    Ev (fun k => impl_symbol.f k a b (p : Int)) (sg (symB ((p - 1) / 2 % 2 == 1) c d)) := by
  have hp2 := op_two hp
  obtain ⟨i, u, h1, h2, h3, h4⟩ := iSplit_ex hp2.1 (by omega) a0 ha
  obtain ⟨j, v, h5, h6, h7, h8⟩ := iSplit_ex hp2.1 (by omega) b0 hb
  obtain rfl := cl_one hp2.1 hc ⟨i, u, h1, rfl⟩
  obtain rfl := cl_one hp2.1 hd ⟨j, v, h5, rfl⟩
  unfold impl_symbol.f
  refine Ev.neg (by omega) (Ev.bind h4 (Ev.bind h8 (Ev.neg (by omega) ?_)))
  have odd : (p - 1) % 2 = 0 := by unfold OP at hp; simp at hp; omega
  obtain ⟨g, hg⟩ : ∃ g, p - 1 = 2 * g := ⟨(p - 1) / 2, by omega⟩
  have hij : i * j ≤ 1000000 * 1000000 := Nat.mul_le_mul h2 h6
  have hijg : i * j * g ≤ 1000000 * 1000000 * 1000 := Nat.mul_le_mul hij (by omega)
  have e1 : Int.tmod (wrap64 (Int.tdiv (wrap64 (wrap64 ((i : Int) * (j : Int)) * wrap64 ((p : Int) - 1))) 2)) 2 = Int.tmod ((i * j * g : Nat) : Int) 2 := by
    rw [show (i : Int) * (j : Int) = ((i * j : Nat) : Int) by push_cast; rfl, w64 (a := ((i * j : Nat) : Int)) (by omega) (by omega), w64 (a := (p : Int) - 1) (by omega) (by omega),
      show ((i * j : Nat) : Int) * ((p : Int) - 1) = 2 * ((i * j * g : Nat) : Int) by rw [show (p : Int) - 1 = 2 * (g : Int) by omega]; push_cast; grind,
      w64 (a := 2 * ((i * j * g : Nat) : Int)) (by omega) (by omega), Int.mul_tdiv_cancel_left _ (by decide), w64 (by omega) (by omega)]
  have e2 := sg_pow true (i * j * g)
  have p1 : Ev (fun k => impl_power.f k (-1) (Int.tmod ((i * j * g : Nat) : Int) 2)) (sg (true && (i * j * g % 2 == 1))) := by
    rw [← e2]; exact iPower_ev (.inr rfl) (par _)
  have r1 := iResidue_ev hp2.1 (by omega) h1.2 h3
  have r2 := iResidue_ev hp2.1 (by omega) h5.2 h7
  have p2 : Ev (fun k => impl_power.f k (sg (chi p (rOf p u))) (Int.tmod (j : Int) 2)) (sg (chi p (rOf p u) && (j % 2 == 1))) := by
    rw [← sg_pow]; exact iPower_ev (sg_cases _) (par _)
  have p3 : Ev (fun k => impl_power.f k (sg (chi p (rOf p v))) (Int.tmod (i : Int) 2)) (sg (chi p (rOf p v) && (i % 2 == 1))) := by
    rw [← sg_pow]; exact iPower_ev (sg_cases _) (par _)
  simp only
  rw [e1]
  refine Ev.bind p1 (Ev.bind r1 (Ev.bind p2 (Ev.bind r2 (Ev.bind p3 (Ev.nows ?_)))))
  have s1 := sg_cases (true && (i * j * g % 2 == 1))
  rw [sg_mul]
  have s2 := sg_cases (xor (true && (i * j * g % 2 == 1)) (chi p (rOf p u) && (j % 2 == 1)))
  rw [w64 (a := sg _) (by omega) (by omega), sg_mul]
  have s3 := sg_cases (xor (xor (true && (i * j * g % 2 == 1)) (chi p (rOf p u) && (j % 2 == 1))) (chi p (rOf p v) && (i % 2 == 1)))
  rw [w64 (by omega) (by omega)]
  unfold symB
  rw [mul_odd, show (p - 1) / 2 = g by omega]
  congr 1
  cases (i % 2 == 1) <;> cases (j % 2 == 1) <;> cases (g % 2 == 1) <;> cases chi p (rOf p u) <;> cases chi p (rOf p v) <;> rfl
theorem iSquare_odd {p : Nat} (hp : p ∈ OP) {n : Int} (n0 : n ≠ 0) (hn : -1000000 ≤ n ∧ n ≤ 1000000) {c : Bool × Bool} (hc : CL p n c) : Ev (fun k => impl_localSquare.f k n (p : Int)) (!c.1 && !c.2) := by
  have hp2 := op_two hp
  obtain ⟨i, u, h1, h2, h3, h4⟩ := iSplit_ex hp2.1 (by omega) n0 hn
  obtain rfl := cl_one hp2.1 hc ⟨i, u, h1, rfl⟩
  unfold impl_localSquare.f
  refine Ev.neg (by omega) (Ev.bind h4 ?_)
  simp only
  rcases Nat.mod_two_eq_zero_or_one i with h | h
  · refine Ev.pos (by rw [Int.tmod_eq_emod_of_nonneg (by omega)]; omega) (Ev.neg (by omega) (Ev.bind (iResidue_ev hp2.1 (by omega) h1.2 h3) (Ev.nows ?_)))
    rw [h]
    cases chi p (rOf p u) <;> rfl
  · refine Ev.neg (by rw [Int.tmod_eq_emod_of_nonneg (by omega)]; omega) (Ev.nows ?_)
    rw [h]; rfl
theorem iSymbol_two {a b : Int} (a0 : a ≠ 0) (b0 : b ≠ 0) (ha : -1000000 ≤ a ∧ a ≤ 1000000) (hb : -1000000 ≤ b ∧ b ≤ 1000000) {T S : Nat} (hc : CT a T) (hd : CT b S) : Ev (fun k => impl_symbol.f k a b 2) (sg (sym2 T S)) := by
  obtain ⟨i, u, h1, h2, h3, h4⟩ := iSplit_ex (p := 2) (by omega) (by omega) a0 ha
  obtain ⟨j, v, h5, h6, h7, h8⟩ := iSplit_ex (p := 2) (by omega) (by omega) b0 hb
  obtain rfl := ct_one hc ⟨i, u, h1, rfl⟩
  obtain rfl := ct_one hd ⟨j, v, h5, rfl⟩
  have c1 := ct_parts (k := i) h1.2
  have c2 := ct_parts (k := j) h5.2
  have ru := rOf8 h1.2
  have rv := rOf8 h5.2
  unfold impl_symbol.f
  refine Ev.neg (by decide) (Ev.bind h4 (Ev.bind h8 (Ev.pos rfl (Ev.bind0 (iRest_eq (by decide) (by decide) (by show _ ≤ u; omega) (by show u ≤ _; omega)) (Ev.bind0 (iRest_eq (by decide) (by decide) (by show _ ≤ v; omega) (by show v ≤ _; omega)) ?_)))))
  simp only
  rw [← ru.1, ← rv.1]
  unfold sym2
  rw [c1.1, c1.2, c2.1, c2.2]
  generalize rOf 8 u = x at *
  generalize rOf 8 v = y at *
  have key : ∃ m : Nat, Int.tmod (wrap64 ((wrap64 ((wrap64 ((wrap64 (Int.tdiv (wrap64 ((x : Int) - 1)) 2)) * (wrap64 (Int.tdiv (wrap64 ((y : Int) - 1)) 2)))) + (wrap64 (Int.tdiv (wrap64 ((i : Int) * (wrap64 ((wrap64 ((y : Int) * y)) - 1)))) 8)))) + (wrap64 (Int.tdiv (wrap64 ((j : Int) * (wrap64 ((wrap64 ((x : Int) * x)) - 1)))) 8)))) 2 = Int.tmod (m : Int) 2 ∧ (m % 2 == 1) = (((x - 1) / 2 * ((y - 1) / 2) + i % 2 * ((y * y - 1) / 8) + j % 2 * ((x * x - 1) / 8)) % 2 == 1) := by
    have red : ∀ z : Int, (z = 1 ∨ z = 3 ∨ z = 5 ∨ z = 7) → ∃ q t : Int, wrap64 (Int.tdiv (wrap64 (z - 1)) 2) = q ∧ wrap64 (wrap64 (z * z) - 1) = 8 * t ∧ (z = 1 ∧ q = 0 ∧ t = 0 ∨ z = 3 ∧ q = 1 ∧ t = 1 ∨ z = 5 ∧ q = 2 ∧ t = 3 ∨ z = 7 ∧ q = 3 ∧ t = 6) := by
      intro z hz
      rcases hz with rfl | rfl | rfl | rfl
      · exact ⟨0, 0, by decide +kernel, by decide +kernel, by omega⟩
      · exact ⟨1, 1, by decide +kernel, by decide +kernel, by omega⟩
      · exact ⟨2, 3, by decide +kernel, by decide +kernel, by omega⟩
      · exact ⟨3, 6, by decide +kernel, by decide +kernel, by omega⟩
    obtain ⟨qx, tx, hx1, hx2, hx3⟩ := red (x : Int) (by omega)
    obtain ⟨qy, ty, hy1, hy2, hy3⟩ := red (y : Int) (by omega)
    rw [hx1, hy1, hx2, hy2]
    have td : ∀ (n : Nat) (t : Int), n ≤ 1000000 → 0 ≤ t → t ≤ 6 → wrap64 (Int.tdiv (wrap64 ((n : Int) * (8 * t))) 8) = (n : Int) * t := by
      intro n t hn h0 h1
      have hb : (n : Int) * t ≤ 1000000 * 6 := Int.mul_le_mul (by omega) h1 h0 (by omega)
      have hb0 : 0 ≤ (n : Int) * t := Int.mul_nonneg (by omega) h0
      rw [show (n : Int) * (8 * t) = 8 * ((n : Int) * t) by grind, w64 (a := 8 * ((n : Int) * t)) (by omega) (by omega), Int.mul_tdiv_cancel_left _ (by decide), w64 (by omega) (by omega)]
    rw [td i ty h2 (by omega) (by omega), td j tx h6 (by omega) (by omega)]
    obtain ⟨Qx, rfl⟩ : ∃ n : Nat, qx = n := ⟨qx.toNat, by omega⟩
    obtain ⟨Qy, rfl⟩ : ∃ n : Nat, qy = n := ⟨qy.toNat, by omega⟩
    obtain ⟨Tx, rfl⟩ : ∃ n : Nat, tx = n := ⟨tx.toNat, by omega⟩
    obtain ⟨Ty, rfl⟩ : ∃ n : Nat, ty = n := ⟨ty.toNat, by omega⟩
    have hq : Qx * Qy ≤ 3 * 3 := Nat.mul_le_mul (by omega) (by omega)
    have hi : i * Ty ≤ 1000000 * 6 := Nat.mul_le_mul h2 (by omega)
    have hj : j * Tx ≤ 1000000 * 6 := Nat.mul_le_mul h6 (by omega)
    refine ⟨Qx * Qy + i * Ty + j * Tx, ?_, ?_⟩
    · rw [show (Qx : Int) * (Qy : Int) = ((Qx * Qy : Nat) : Int) by push_cast; rfl, show (i : Int) * (Ty : Int) = ((i * Ty : Nat) : Int) by push_cast; rfl, show (j : Int) * (Tx : Int) = ((j * Tx : Nat) : Int) by push_cast; rfl,
        w64 (a := ((Qx * Qy : Nat) : Int)) (by omega) (by omega), w64 (a := ((Qx * Qy : Nat) : Int) + ((i * Ty : Nat) : Int)) (by omega) (by omega), w64 (by omega) (by omega)]
      push_cast; rfl
    · have ex : (x - 1) / 2 = Qx ∧ (x * x - 1) / 8 = Tx := by
        rcases hx3 with ⟨a, b, c⟩ | ⟨a, b, c⟩ | ⟨a, b, c⟩ | ⟨a, b, c⟩
        · obtain rfl : x = 1 := by omega
          omega
        · obtain rfl : x = 3 := by omega
          omega
        · obtain rfl : x = 5 := by omega
          omega
        · obtain rfl : x = 7 := by omega
          omega
      have ey : (y - 1) / 2 = Qy ∧ (y * y - 1) / 8 = Ty := by
        rcases hy3 with ⟨a, b, c⟩ | ⟨a, b, c⟩ | ⟨a, b, c⟩ | ⟨a, b, c⟩
        · obtain rfl : y = 1 := by omega
          omega
        · obtain rfl : y = 3 := by omega
          omega
        · obtain rfl : y = 5 := by omega
          omega
        · obtain rfl : y = 7 := by omega
          omega
      rw [ex.1, ex.2, ey.1, ey.2]
      congr 1
      rw [Nat.add_mod, Nat.add_mod (Qx * Qy) (i * Ty), Nat.mul_mod i, Nat.mul_mod j, Nat.add_mod _ (j % 2 * Tx), Nat.add_mod (Qx * Qy) (i % 2 * Ty), Nat.mul_mod (i % 2), Nat.mul_mod (j % 2)]
      simp
  obtain ⟨m, k1, k2⟩ := key
  rw [k1, ← k2]
  have := sg_pow true m
  refine Ev.bind (a := sg (true && (m % 2 == 1))) ?_ (Ev.nows (by simp))
  rw [← this]
  exact iPower_ev (.inr rfl) (par _)
theorem iSquare_two {n : Int} (n0 : n ≠ 0) (hn : -1000000 ≤ n ∧ n ≤ 1000000) {T : Nat} (hc : CT n T) : Ev (fun k => impl_localSquare.f k n 2) (T == 1) := by
  obtain ⟨i, u, h1, h2, h3, h4⟩ := iSplit_ex (p := 2) (by omega) (by omega) n0 hn
  obtain rfl := ct_one hc ⟨i, u, h1, rfl⟩
  have ru := rOf8 h1.2
  unfold impl_localSquare.f
  refine Ev.neg (by decide) (Ev.bind h4 ?_)
  simp only
  rcases Nat.mod_two_eq_zero_or_one i with h | h
  · refine Ev.pos (by rw [Int.tmod_eq_emod_of_nonneg (by omega)]; omega) (Ev.pos trivial (Ev.bind0 (iRest_eq (by decide) (by decide) (by omega) (by omega)) (Ev.nows ?_)))
    rw [← ru.1, if_neg (by omega), Nat.one_mul]
    rcases ru.2 with e | e | e | e <;> rw [e] <;> rfl
  · refine Ev.neg (by rw [Int.tmod_eq_emod_of_nonneg (by omega)]; omega) (Ev.nows ?_)
    rw [if_pos h]
    rcases ru.2 with e | e | e | e <;> rw [e] <;> rfl
theorem iLess_ev (f : List Int) (hn : f.length ≤ 1000000) : Ev (fun k => impl_lessTerms.f k f) (lessN f : Int) := by
  have go : ∀ (m i c : Nat), i + m = f.length → c ≤ i → c + lessN (f.drop i) = lessN f → Ev (fun k => impl_lessTerms.l0 k (c : Int) f (f.length : Int) (i : Int)) (lessN f : Int) := by
    intro m
    induction m with
    | zero =>
      intro i c h _ he
      rw [List.drop_of_length_le (by omega)] at he
      refine Ev.step (fun k => impl_lessTerms.l0.eq_2 _ _ _ _ k) (Ev.neg (by omega) (Ev.nows ?_))
      rw [← he]; rfl
    | succ m ih =>
      intro i c h hc he
      have hi : i < f.length := by omega
      rw [drop_rd hi] at he
      unfold lessN at he
      rw [List.countP_cons] at he
      refine Ev.step (fun k => impl_lessTerms.l0.eq_2 _ _ _ _ k) (Ev.pos (by omega) (Ev.pos (by omega) (Ev.pos (by omega) ?_)))
      rw [w64s (i := i) (by omega)]
      by_cases e : rd f (i : Int) < 0
      · rw [if_pos (by simpa using e)] at he
        refine Ev.pos e ?_
        rw [w64s (i := c) (by omega)]
        exact ih (i + 1) (c + 1) (by omega) (by omega) (by unfold lessN; omega)
      · rw [if_neg (by simpa using e)] at he
        exact Ev.neg e (ih (i + 1) c (by omega) (by omega) (by unfold lessN; omega))
  unfold impl_lessTerms.f
  exact go f.length 0 0 (by omega) (by omega) (by simp)
theorem iProduct_l (xs : List Int) (hn : xs.length ≤ 4) (hb : ∀ x ∈ xs, -30 ≤ x ∧ x ≤ 30) : ∀ (m i : Nat) (acc : Int), i + m = xs.length → acc.natAbs ≤ 30 ^ i → Ev (fun k => impl_product.l0 k acc xs (xs.length : Int) (i : Int)) ((xs.drop i).foldl (· * ·) acc) := by
  intro m
  induction m with
  | zero =>
    intro i acc h _
    exact Ev.step (fun k => impl_product.l0.eq_2 _ _ _ _ k) (Ev.neg (by omega) (Ev.nows (by rw [List.drop_of_length_le (by omega)]; rfl)))
  | succ m ih =>
    intro i acc h ha
    have hi : i < xs.length := by omega
    have hx := hb _ (rd_mem hi)
    have h1 : (acc * rd xs (i : Int)).natAbs ≤ 30 ^ (i + 1) := by
      rw [Int.natAbs_mul, Nat.pow_succ]
      exact Nat.mul_le_mul ha (by omega)
    have h2 : (30 : Nat) ^ (i + 1) ≤ 30 ^ 4 := Nat.pow_le_pow_right (by decide) (by omega)
    have h3 : (30 : Nat) ^ 4 = 810000 := by decide
    refine Ev.step (fun k => impl_product.l0.eq_2 _ _ _ _ k) (Ev.pos (by omega) (Ev.pos (by omega) (Ev.pos (by omega) ?_)))
    rw [w64 (a := acc * rd xs (i : Int)) (by omega) (by omega), w64s (by omega), drop_rd hi]
    exact ih (i + 1) _ (by omega) h1
theorem iProduct_ev (xs : List Int) (hn : xs.length ≤ 4) (hb : ∀ x ∈ xs, -30 ≤ x ∧ x ≤ 30) : Ev (fun k => impl_product.f k xs) (xs.foldl (· * ·) 1) := by
  unfold impl_product.f
  exact iProduct_l xs hn hb xs.length 0 1 (by omega) (by decide)
theorem inv_end (xs : List Int) (P acc : Int) : Ev (fun k => impl_invariant.l0 k xs P acc xs (xs.length : Int) (xs.length : Int)) acc :=
  Ev.step (fun k => impl_invariant.l0.eq_2 _ _ _ _ _ _ k) (Ev.neg (by omega) (Ev.now _))
theorem inv_out {xs : List Int} {P acc r : Int} {i : Nat} (hi : i < xs.length) (h : Ev (fun k => impl_invariant.l1 k xs P acc (rd xs (i : Int)) xs (xs.length : Int) (i : Int) (xs.take i) (i : Int) 0) r) : Ev (fun k => impl_invariant.l0 k xs P acc xs (xs.length : Int) (i : Int)) r := by
  refine Ev.step (fun k => impl_invariant.l0.eq_2 _ _ _ _ _ _ k) (Ev.pos (by omega) (Ev.pos (by omega) (Ev.pos (by omega) (Ev.pos (by omega) ?_))))
  rw [Int.toNat_natCast, show ((xs.take i).length : Int) = (i : Int) by rw [List.length_take]; omega]
  exact h
theorem inv_in {xs : List Int} {P r : Int} {i j : Nat} {c b : Bool} (hi : i < xs.length) (hn : xs.length ≤ 1000) (hj : j < i) (hs : Ev (fun k => impl_symbol.f k (rd xs (i : Int)) (rd xs (j : Int)) P) (sg b))
    (h : Ev (fun k => impl_invariant.l1 k xs P (sg (xor c b)) (rd xs (i : Int)) xs (xs.length : Int) (i : Int) (xs.take i) (i : Int) ((j + 1 : Nat) : Int)) r) : Ev (fun k => impl_invariant.l1 k xs P (sg c) (rd xs (i : Int)) xs (xs.length : Int) (i : Int) (xs.take i) (i : Int) (j : Int)) r := by
  have e : rd (xs.take i) (j : Int) = rd xs (j : Int) := by
    rw [rd_at, rd_at, List.getD_eq_getElem?_getD, List.getD_eq_getElem?_getD, List.getElem?_take, if_pos hj]
  refine Ev.step (fun k => impl_invariant.l1.eq_2 _ _ _ _ _ _ _ _ _ _ k) (Ev.pos (by omega) (Ev.pos (by omega) (Ev.pos (by rw [List.length_take]; omega) ?_)))
  rw [e]
  refine Ev.bind hs ?_
  have := sg_cases (xor c b)
  rw [sg_mul, w64 (a := sg (xor c b)) (by omega) (by omega), w64s (by omega)]
  exact h
theorem inv_next {xs : List Int} {P acc r : Int} {i : Nat} (hi : i < xs.length) (hn : xs.length ≤ 1000) (h : Ev (fun k => impl_invariant.l0 k xs P acc xs (xs.length : Int) ((i + 1 : Nat) : Int)) r) : Ev (fun k => impl_invariant.l1 k xs P acc (rd xs (i : Int)) xs (xs.length : Int) (i : Int) (xs.take i) (i : Int) (i : Int)) r := by
  refine Ev.step (fun k => impl_invariant.l1.eq_2 _ _ _ _ _ _ _ _ _ _ k) (Ev.neg (by omega) ?_)
  rw [w64s (by omega)]
  exact h
theorem iInv_three {a b c P : Int} {s1 s2 s3 : Bool} (h1 : Ev (fun k => impl_symbol.f k b a P) (sg s1)) (h2 : Ev (fun k => impl_symbol.f k c a P) (sg s2)) (h3 : Ev (fun k => impl_symbol.f k c b P) (sg s3)) :
    Ev (fun k => impl_invariant.f k [a, b, c] P) (sg (xor (xor s1 s2) s3)) := by
  unfold impl_invariant.f
  have e : xor (xor (xor false s1) s2) s3 = xor (xor s1 s2) s3 := by rw [Bool.false_xor]
  rw [← e]
  refine inv_out (i := 0) (by simp) (inv_next (i := 0) (by simp) (by simp) ?_)
  refine inv_out (i := 1) (by simp) (inv_in (i := 1) (j := 0) (c := false) (b := s1) (by simp) (by simp) (by omega) h1 (inv_next (i := 1) (by simp) (by simp) ?_))
  refine inv_out (i := 2) (by simp) (inv_in (i := 2) (j := 0) (b := s2) (by simp) (by simp) (by omega) h2 (inv_in (i := 2) (j := 1) (b := s3) (by simp) (by simp) (by omega) h3 (inv_next (i := 2) (by simp) (by simp) ?_)))
  exact inv_end [a, b, c] P _
theorem iInv_four {a b c d P : Int} {s1 s2 s3 s4 s5 s6 : Bool} (h1 : Ev (fun k => impl_symbol.f k b a P) (sg s1)) (h2 : Ev (fun k => impl_symbol.f k c a P) (sg s2)) (h3 : Ev (fun k => impl_symbol.f k c b P) (sg s3)) (h4 : Ev (fun k => impl_symbol.f k d a P) (sg s4)) (h5 : Ev (fun k => impl_symbol.f k d b P) (sg s5)) (h6 : Ev (fun k => impl_symbol.f k d c P) (sg s6)) :
    Ev (fun k => impl_invariant.f k [a, b, c, d] P) (sg (xor (xor (xor (xor (xor s1 s2) s3) s4) s5) s6)) := by
  unfold impl_invariant.f
  have e : xor (xor (xor (xor (xor (xor false s1) s2) s3) s4) s5) s6 = xor (xor (xor (xor (xor s1 s2) s3) s4) s5) s6 := by rw [Bool.false_xor]
  rw [← e]
  refine inv_out (i := 0) (by simp) (inv_next (i := 0) (by simp) (by simp) ?_)
  refine inv_out (i := 1) (by simp) (inv_in (i := 1) (j := 0) (c := false) (b := s1) (by simp) (by simp) (by omega) h1 (inv_next (i := 1) (by simp) (by simp) ?_))
  refine inv_out (i := 2) (by simp) (inv_in (i := 2) (j := 0) (b := s2) (by simp) (by simp) (by omega) h2 (inv_in (i := 2) (j := 1) (b := s3) (by simp) (by simp) (by omega) h3 (inv_next (i := 2) (by simp) (by simp) ?_)))
  refine inv_out (i := 3) (by simp) (inv_in (i := 3) (j := 0) (b := s4) (by simp) (by simp) (by omega) h4 (inv_in (i := 3) (j := 1) (b := s5) (by simp) (by simp) (by omega) h5 (inv_in (i := 3) (j := 2) (b := s6) (by simp) (by simp) (by omega) h6 (inv_next (i := 3) (by simp) (by simp) ?_))))
  exact inv_end [a, b, c, d] P _
theorem sg_eq (a b : Bool) : (sg a == sg b) = (a == b) := by cases a <;> cases b <;> rfl
theorem prod_bd : ∀ {a b : Int} {A B : Nat}, a.natAbs ≤ A → b.natAbs ≤ B → (a * b).natAbs ≤ A * B := fun h1 h2 => by rw [Int.natAbs_mul]; exact Nat.mul_le_mul h1 h2
theorem iVan_two {a b P : Int} (hP : P ≠ 0) (hb : ∀ x ∈ [a, b], -30 ≤ x ∧ x ≤ 30) {q : Bool} (h : Ev (fun k => impl_localSquare.f k (-(a * b)) P) q) : Ev (fun k => impl_vanishes.f k [a, b] P) q := by
  unfold impl_vanishes.f
  have ha := hb a (by simp); have hb1 := hb b (by simp)
  have bd := prod_bd (a := a) (b := b) (A := 30) (B := 30) (by omega) (by omega)
  refine Ev.bind (iProduct_ev [a, b] (by simp) hb) (Ev.neg hP (Ev.pos (by simp) ?_))
  rw [show [a, b].foldl (· * ·) 1 = a * b by simp, w64 (a := -(a * b)) (by omega) (by omega)]
  exact Ev.bind h (Ev.now _)
theorem iVan_three {a b c P : Int} (hP : P ≠ 0) (hb : ∀ x ∈ [a, b, c], -30 ≤ x ∧ x ≤ 30) {s1 s2 s3 N : Bool} (h1 : Ev (fun k => impl_symbol.f k b a P) (sg s1)) (h2 : Ev (fun k => impl_symbol.f k c a P) (sg s2)) (h3 : Ev (fun k => impl_symbol.f k c b P) (sg s3)) (hN : Ev (fun k => impl_symbol.f k (-1) (-(a * b * c)) P) (sg N)) :
    Ev (fun k => impl_vanishes.f k [a, b, c] P) (xor (xor s1 s2) s3 == N) := by
  unfold impl_vanishes.f
  have ha := hb a (by simp); have hb1 := hb b (by simp); have hc := hb c (by simp)
  have bd := prod_bd (a := a * b) (b := c) (A := 900) (B := 30) (prod_bd (a := a) (b := b) (A := 30) (B := 30) (by omega) (by omega)) (by omega)
  refine Ev.bind (iProduct_ev [a, b, c] (by simp) hb) (Ev.neg hP (Ev.neg (by simp) (Ev.pos (by simp) ?_)))
  rw [show [a, b, c].foldl (· * ·) 1 = a * b * c by simp, w64 (a := -(a * b * c)) (by omega) (by omega)]
  exact Ev.bind (iInv_three h1 h2 h3) (Ev.bind hN (Ev.nows (sg_eq _ _)))
theorem iVan_four {a b c d P : Int} (hP : P ≠ 0) (hb : ∀ x ∈ [a, b, c, d], -30 ≤ x ∧ x ≤ 30) {s1 s2 s3 s4 s5 s6 Q N : Bool} (h1 : Ev (fun k => impl_symbol.f k b a P) (sg s1)) (h2 : Ev (fun k => impl_symbol.f k c a P) (sg s2)) (h3 : Ev (fun k => impl_symbol.f k c b P) (sg s3)) (h4 : Ev (fun k => impl_symbol.f k d a P) (sg s4)) (h5 : Ev (fun k => impl_symbol.f k d b P) (sg s5)) (h6 : Ev (fun k => impl_symbol.f k d c P) (sg s6))
    (hQ : Ev (fun k => impl_localSquare.f k (a * b * c * d) P) Q) (hN : Ev (fun k => impl_symbol.f k (-1) (-1) P) (sg N)) :
    Ev (fun k => impl_vanishes.f k [a, b, c, d] P) (!Q || (xor (xor (xor (xor (xor s1 s2) s3) s4) s5) s6 == N)) := by
  unfold impl_vanishes.f
  refine Ev.bind (iProduct_ev [a, b, c, d] (by simp) hb) (Ev.neg hP (Ev.neg (by simp) (Ev.neg (by simp) (Ev.pos (by simp) ?_))))
  rw [show [a, b, c, d].foldl (· * ·) 1 = a * b * c * d by simp]
  refine Ev.bind hQ ?_
  cases Q with
  | true => exact Ev.pos rfl (Ev.bind (iInv_four h1 h2 h3 h4 h5 h6) (Ev.bind hN (Ev.nows (by rw [sg_eq]; rfl))))
  | false => exact Ev.neg (by simp) (Ev.nows rfl)
theorem ct_minus : CT (-1) 7 := ⟨0, -1, ⟨by simp, by decide⟩, by decide⟩
theorem iVan_zero {f v : List Int} (h : zeroB f v = true) {P : Nat} (hP : P = 0 ∨ P = 2 ∨ P ∈ OP) : Ev (fun k => impl_vanishes.f k f (P : Int)) true := by
  obtain ⟨z1, z2, z3, z4⟩ := zB_of h
  have hl := vOk_len z2
  have hfl := fOk_len z1
  have hf : ∀ x ∈ f, x ≠ 0 := fun x hx => (fOk_mem z1 x hx).1
  have hb : ∀ x ∈ f, -30 ≤ x ∧ x ≤ 30 := fun x hx => (fOk_mem z1 x hx).2
  have hv : ∃ x ∈ v, x ≠ 0 := by
    unfold some0 at z3
    rw [List.any_eq_true] at z3
    obtain ⟨x, hx, h⟩ := z3
    exact ⟨x, hx, by simpa using h⟩
  rcases hP with rfl | hP
  · unfold impl_vanishes.f
    obtain ⟨⟨a, ha, ha0⟩, b, hb', hb0⟩ := zero_sign hl hf z4 hv
    have l1 : 0 < lessN f := by unfold lessN; exact List.countP_pos_iff.2 ⟨a, ha, by simpa using ha0⟩
    have l2 : lessN f < f.length := by
      unfold lessN
      refine Nat.lt_of_le_of_ne List.countP_le_length (fun k => ?_)
      have := List.countP_eq_length.1 k b hb'
      simp at this; omega
    exact Ev.bind (iProduct_ev f hfl.2 hb) (Ev.pos rfl (Ev.bind (iLess_ev f (by omega)) (Ev.pos (by omega) (Ev.nows (decide_eq_true (by omega))))))
  · have P0 : (P : Int) ≠ 0 := by
      rcases hP with rfl | hP
      · decide
      · have := op_two hP; omega
    match f, hfl, hf, hb, hl, z4, z1 with
    | [a], _, hf, _, hl, z4, _ =>
      exfalso
      match v, hl with
      | [x], _ =>
        obtain ⟨y, hy, y0⟩ := hv
        obtain rfl : y = x := by simpa using hy
        have e : dot3 [a] [y] [y] = a * y * y + 0 := rfl
        rw [e, Int.add_zero] at z4
        exact Int.mul_ne_zero (Int.mul_ne_zero (hf a (by simp)) y0) y0 z4
    | [a, b], _, hf, hb, hl, z4, _ =>
      have a0 := hf a (by simp); have b0 := hf b (by simp)
      have ha := hb a (by simp); have hb1 := hb b (by simp)
      have bd := prod_bd (a := a) (b := b) (A := 30) (B := 30) (by omega) (by omega)
      have ne : -(a * b) ≠ 0 := by have := Int.mul_ne_zero a0 b0; omega
      refine Ev.to (iVan_two (q := true) P0 hb ?_) rfl
      rcases hP with rfl | hP
      · obtain ⟨A, hA⟩ := ct_ex a0; obtain ⟨B, hB⟩ := ct_ex b0
        have t := two_two hl hf z4 hv hA hB
        unfold van2 at t
        have hc := ct_mul ct_minus (ct_mul hA hB)
        rw [show (-1 : Int) * (a * b) = -(a * b) by omega] at hc
        exact Ev.to (iSquare_two ne (by omega) hc) t
      · obtain ⟨A, hA⟩ := cl_ex hP a0; obtain ⟨B, hB⟩ := cl_ex hP b0
        have t := odd_two hP hl hf z4 hv hA hB
        unfold vanB at t
        have hc := cl_mul hP (cl_minus hP) (cl_mul hP hA hB)
        rw [show (-1 : Int) * (a * b) = -(a * b) by omega] at hc
        exact Ev.to (iSquare_odd hP ne (by omega) hc) t
    | [a, b, c], _, hf, hb, hl, z4, _ =>
      have a0 := hf a (by simp); have b0 := hf b (by simp); have c0 := hf c (by simp)
      have ha := hb a (by simp); have hb1 := hb b (by simp); have hc1 := hb c (by simp)
      have bd := prod_bd (a := a * b) (b := c) (A := 900) (B := 30) (prod_bd (a := a) (b := b) (A := 30) (B := 30) (by omega) (by omega)) (by omega)
      have ne : -(a * b * c) ≠ 0 := by have := Int.mul_ne_zero (Int.mul_ne_zero a0 b0) c0; omega
      rcases hP with rfl | hP
      · obtain ⟨A, hA⟩ := ct_ex a0; obtain ⟨B, hB⟩ := ct_ex b0; obtain ⟨C, hC⟩ := ct_ex c0
        have t := two_three hl hf z4 hv hA hB hC
        unfold van2 at t
        have hm := ct_mul ct_minus (ct_mul (ct_mul hA hB) hC)
        rw [show (-1 : Int) * (a * b * c) = -(a * b * c) by omega] at hm
        exact Ev.to (iVan_three P0 hb (iSymbol_two b0 a0 (by omega) (by omega) hB hA) (iSymbol_two c0 a0 (by omega) (by omega) hC hA) (iSymbol_two c0 b0 (by omega) (by omega) hC hB) (iSymbol_two (by decide) ne (by decide) (by omega) ct_minus hm)) t
      · obtain ⟨A, hA⟩ := cl_ex hP a0; obtain ⟨B, hB⟩ := cl_ex hP b0; obtain ⟨C, hC⟩ := cl_ex hP c0
        have t := odd_three hP hl hf z4 hv hA hB hC
        unfold vanB at t
        have hm := cl_mul hP (cl_minus hP) (cl_mul hP (cl_mul hP hA hB) hC)
        rw [show (-1 : Int) * (a * b * c) = -(a * b * c) by omega] at hm
        exact Ev.to (iVan_three P0 hb (iSymbol_odd hP b0 a0 (by omega) (by omega) hB hA) (iSymbol_odd hP c0 a0 (by omega) (by omega) hC hA) (iSymbol_odd hP c0 b0 (by omega) (by omega) hC hB) (iSymbol_odd hP (by decide) ne (by decide) (by omega) (cl_minus hP) hm)) t
    | [a, b, c, d], _, hf, hb, hl, z4, _ =>
      have a0 := hf a (by simp); have b0 := hf b (by simp); have c0 := hf c (by simp); have d0 := hf d (by simp)
      have ha := hb a (by simp); have hb1 := hb b (by simp); have hc1 := hb c (by simp); have hd1 := hb d (by simp)
      have bd := prod_bd (a := a * b * c) (b := d) (A := 27000) (B := 30) (prod_bd (a := a * b) (b := c) (A := 900) (B := 30) (prod_bd (a := a) (b := b) (A := 30) (B := 30) (by omega) (by omega)) (by omega)) (by omega)
      have ne : a * b * c * d ≠ 0 := Int.mul_ne_zero (Int.mul_ne_zero (Int.mul_ne_zero a0 b0) c0) d0
      rcases hP with rfl | hP
      · obtain ⟨A, hA⟩ := ct_ex a0; obtain ⟨B, hB⟩ := ct_ex b0; obtain ⟨C, hC⟩ := ct_ex c0; obtain ⟨D, hD⟩ := ct_ex d0
        have t := two_four hl hf z4 hv hA hB hC hD
        unfold van2 at t
        have hm := ct_mul (ct_mul (ct_mul hA hB) hC) hD
        exact Ev.to (iVan_four P0 hb (iSymbol_two b0 a0 (by omega) (by omega) hB hA) (iSymbol_two c0 a0 (by omega) (by omega) hC hA) (iSymbol_two c0 b0 (by omega) (by omega) hC hB) (iSymbol_two d0 a0 (by omega) (by omega) hD hA) (iSymbol_two d0 b0 (by omega) (by omega) hD hB) (iSymbol_two d0 c0 (by omega) (by omega) hD hC) (iSquare_two ne (by omega) hm) (iSymbol_two (by decide) (by decide) (by decide) (by decide) ct_minus ct_minus)) t
      · obtain ⟨A, hA⟩ := cl_ex hP a0; obtain ⟨B, hB⟩ := cl_ex hP b0; obtain ⟨C, hC⟩ := cl_ex hP c0; obtain ⟨D, hD⟩ := cl_ex hP d0
        have t := odd_four hP hl hf z4 hv hA hB hC hD
        unfold vanB at t
        have hm := cl_mul hP (cl_mul hP (cl_mul hP hA hB) hC) hD
        exact Ev.to (iVan_four P0 hb (iSymbol_odd hP b0 a0 (by omega) (by omega) hB hA) (iSymbol_odd hP c0 a0 (by omega) (by omega) hC hA) (iSymbol_odd hP c0 b0 (by omega) (by omega) hC hB) (iSymbol_odd hP d0 a0 (by omega) (by omega) hD hA) (iSymbol_odd hP d0 b0 (by omega) (by omega) hD hB) (iSymbol_odd hP d0 c0 (by omega) (by omega) hD hC) (iSquare_odd hP ne (by omega) hm) (iSymbol_odd hP (by decide) (by decide) (by decide) (by decide) (cl_minus hP) (cl_minus hP))) t
def PR : List Int := [2, 3, 5, 7, 11, 13, 17, 19, 23, 29]
def PL : List Int := 0 :: PR
theorem pl_place {x : Int} (h : x ∈ PL) : ∃ P : Nat, x = (P : Int) ∧ (P = 0 ∨ P = 2 ∨ P ∈ OP) := by
  unfold PL PR at h
  simp only [List.mem_cons, List.not_mem_nil, or_false] at h
  rcases h with rfl | rfl | rfl | rfl | rfl | rfl | rfl | rfl | rfl | rfl | rfl
  · exact ⟨0, rfl, .inl rfl⟩
  · exact ⟨2, rfl, .inr (.inl rfl)⟩
  · exact ⟨3, rfl, .inr (.inr (by decide))⟩
  · exact ⟨5, rfl, .inr (.inr (by decide))⟩
  · exact ⟨7, rfl, .inr (.inr (by decide))⟩
  · exact ⟨11, rfl, .inr (.inr (by decide))⟩
  · exact ⟨13, rfl, .inr (.inr (by decide))⟩
  · exact ⟨17, rfl, .inr (.inr (by decide))⟩
  · exact ⟨19, rfl, .inr (.inr (by decide))⟩
  · exact ⟨23, rfl, .inr (.inr (by decide))⟩
  · exact ⟨29, rfl, .inr (.inr (by decide))⟩
theorem small_prime (n : Nat) (h : n < 31) (h1 : 1 < n) (h2 : n % 2 ≠ 0) (h3 : n % 3 ≠ 0) (h5 : n % 5 ≠ 0) : n = 7 ∨ n = 11 ∨ n = 13 ∨ n = 17 ∨ n = 19 ∨ n = 23 ∨ n = 29 := by
  have k : (List.range 31).all (fun n => decide (n ≤ 1) || (n % 2 == 0 || (n % 3 == 0 || (n % 5 == 0 || [7, 11, 13, 17, 19, 23, 29].contains n)))) = true := by decide
  have t := List.all_eq_true.1 k n (List.mem_range.2 h)
  simp only [Bool.or_eq_true, decide_eq_true_eq, beq_iff_eq, List.contains_eq_mem, List.mem_cons, List.not_mem_nil, or_false] at t
  rcases t with t | t | t | t | t
  · omega
  · exact absurd t h2
  · exact absurd t h3
  · exact absurd t h5
  · exact t
theorem iPrimes_l : ∀ (m p n : Nat) (acc : List Int), p + m = 7 → 2 ≤ p → 1 ≤ n → n ≤ 30 → (2 < p → n % 2 ≠ 0) → (3 < p → n % 3 ≠ 0) → (5 < p → n % 5 ≠ 0) → acc.length + m ≤ 20 → (∀ x ∈ acc, x ∈ PR) →
    ∃ r : List Int, (∀ x ∈ r, x ∈ PR) ∧ r.length ≤ 21 ∧ Ev (fun k => impl_primesOf.l0 k (n : Int) acc (p : Int)) r := by
  intro m
  induction m with
  | zero =>
    intro p n acc h h2 h3 h4 d2 d3 d5 hl hacc
    obtain rfl : p = 7 := by omega
    have w : wrap64 (((7 : Nat) : Int) * ((7 : Nat) : Int)) = 49 := by decide +kernel
    by_cases hn : n = 1
    · refine ⟨acc, hacc, by omega, Ev.step (fun k => impl_primesOf.l0.eq_2 _ _ _ k) ?_⟩
      rw [w]
      exact Ev.neg (by omega) (Ev.neg (by omega) (Ev.now _))
    · refine ⟨acc ++ [(n : Int)], fun x hx => ?_, by rw [List.length_append]; simp; omega, Ev.step (fun k => impl_primesOf.l0.eq_2 _ _ _ k) ?_⟩
      · rcases List.mem_append.1 hx with hx | hx
        · exact hacc x hx
        · rw [List.mem_singleton] at hx
          subst hx
          unfold PR
          simp only [List.mem_cons, List.not_mem_nil, or_false]
          have := small_prime n (by omega) (by omega) (d2 (by omega)) (d3 (by omega)) (d5 (by omega)); omega
      · rw [w]
        exact Ev.neg (by omega) (Ev.pos (by omega) (Ev.pos (by omega) (Ev.now _)))
  | succ m ih =>
    intro p n acc h h2 h3 h4 d2 d3 d5 hl hacc
    have w : wrap64 ((p : Int) * (p : Int)) = ((p * p : Nat) : Int) := by
      have : p * p ≤ 7 * 7 := Nat.mul_le_mul (by omega) (by omega)
      rw [show (p : Int) * (p : Int) = ((p * p : Nat) : Int) by push_cast; rfl, w64 (by omega) (by omega)]
    by_cases hp : p * p ≤ n
    · have hp5 : p ≤ 5 := by
        refine Nat.le_of_not_lt (fun k => ?_)
        have : 6 * 6 ≤ p * p := Nat.mul_le_mul (by omega) (by omega)
        omega
      have hmod : Int.tmod (n : Int) (p : Int) = ((n % p : Nat) : Int) := by rw [Int.tmod_eq_emod_of_nonneg (by omega)]; rfl
      by_cases hd : n % p = 0
      · obtain ⟨k, u, ⟨e1, e2⟩, _, hu, hs⟩ := iSplit_ex (p := p) h2 (by omega) (n := (n : Int)) (by omega) (by omega)
        have u0 : 0 < u := by
          have hpk : 0 < (p : Int) ^ k := Int.pow_pos (by omega)
          refine Int.not_le.1 (fun k0 => ?_)
          have := Int.mul_nonpos_of_nonneg_of_nonpos (Int.le_of_lt hpk) k0
          omega
        have dv : u ∣ (n : Int) := ⟨(p : Int) ^ k, by rw [e1, Int.mul_comm]⟩
        have un : u ≤ (n : Int) := Int.le_of_dvd (by omega) dv
        obtain ⟨U, rfl⟩ : ∃ U : Nat, u = (U : Int) := ⟨u.toNat, by omega⟩
        have dq : ∀ q : Nat, n % q ≠ 0 → U % q ≠ 0 := by
          intro q h0 h1
          have h1 : q ∣ U := Nat.dvd_of_mod_eq_zero h1
          have h2 : U ∣ n := by exact_mod_cast dv
          exact h0 (Nat.mod_eq_zero_of_dvd (Nat.dvd_trans h1 h2))
        have up : U % p ≠ 0 := fun h0 => e2 (by exact_mod_cast Nat.dvd_of_mod_eq_zero h0)
        have pp : (p : Int) ∈ PR := by
          rcases (by omega : p = 2 ∨ p = 3 ∨ p = 4 ∨ p = 5) with rfl | rfl | rfl | rfl
          · decide
          · decide
          · have := d2 (by omega); omega
          · decide
        obtain ⟨r, r1, r2, r3⟩ := ih (p + 1) U (acc ++ [(p : Int)]) (by omega) (by omega) (by omega) (by omega)
          (fun _ => by rcases (by omega : p = 2 ∨ 2 < p) with rfl | k; exact up; exact dq 2 (d2 k))
          (fun k => by rcases (by omega : p = 3 ∨ 3 < p) with rfl | k; exact up; exact dq 3 (d3 k))
          (fun k => by rcases (by omega : p = 5 ∨ 5 < p) with rfl | k; exact up; exact dq 5 (d5 k))
          (by rw [List.length_append]; simp; omega)
          (fun x hx => by rcases List.mem_append.1 hx with hx | hx; exact hacc x hx; rw [List.mem_singleton] at hx; rw [hx]; exact pp)
        refine ⟨r, r1, r2, Ev.step (fun k => impl_primesOf.l0.eq_2 _ _ _ k) ?_⟩
        rw [w]
        refine Ev.pos (by omega) (Ev.neg (by omega) (Ev.pos (by rw [hmod, hd]; rfl) (Ev.pos (by omega) (Ev.bind hs ?_))))
        rw [w64s (by omega)]
        exact r3
      · obtain ⟨r, r1, r2, r3⟩ := ih (p + 1) n acc (by omega) (by omega) h3 h4
          (fun _ => by rcases (by omega : p = 2 ∨ 2 < p) with rfl | k; exact hd; exact d2 k)
          (fun k => by rcases (by omega : p = 3 ∨ 3 < p) with rfl | k; exact hd; exact d3 k)
          (fun k => by rcases (by omega : p = 5 ∨ 5 < p) with rfl | k; exact hd; exact d5 k) (by omega) hacc
        refine ⟨r, r1, r2, Ev.step (fun k => impl_primesOf.l0.eq_2 _ _ _ k) ?_⟩
        rw [w]
        refine Ev.pos (by omega) (Ev.neg (by omega) (Ev.neg (by rw [hmod]; omega) ?_))
        rw [w64s (by omega)]
        exact r3
    · by_cases hn : n = 1
      · refine ⟨acc, hacc, by omega, Ev.step (fun k => impl_primesOf.l0.eq_2 _ _ _ k) ?_⟩
        rw [w]
        exact Ev.neg (by omega) (Ev.neg (by omega) (Ev.now _))
      · refine ⟨acc ++ [(n : Int)], fun x hx => ?_, by rw [List.length_append]; simp; omega, Ev.step (fun k => impl_primesOf.l0.eq_2 _ _ _ k) ?_⟩
        · rcases List.mem_append.1 hx with hx | hx
          · exact hacc x hx
          · rw [List.mem_singleton] at hx
            subst hx
            unfold PR
            simp only [List.mem_cons, List.not_mem_nil, or_false]
            rcases (by omega : p = 2 ∨ p = 3 ∨ p = 4 ∨ p = 5 ∨ p = 6) with rfl | rfl | rfl | rfl | rfl
            · omega
            · have := d2 (by omega); omega
            · have := d2 (by omega); have := d3 (by omega); omega
            · have := d2 (by omega); have := d3 (by omega); omega
            · have := small_prime n (by omega) (by omega) (d2 (by omega)) (d3 (by omega)) (d5 (by omega)); omega
        · rw [w]
          exact Ev.neg (by omega) (Ev.pos (by omega) (Ev.pos (by omega) (Ev.now _)))
theorem iPrimes_ev {t : Int} (h0 : t ≠ 0) (h : -30 ≤ t ∧ t ≤ 30) : ∃ r : List Int, (∀ x ∈ r, x ∈ PR) ∧ r.length ≤ 21 ∧ Ev (fun k => impl_primesOf.f k t) r := by
  unfold impl_primesOf.f
  obtain ⟨r, r1, r2, r3⟩ := iPrimes_l 5 2 t.natAbs [] rfl (by omega) (by omega) (by omega) (by omega) (by omega) (by omega) (by simp) (by simp)
  exact ⟨r, r1, r2, Ev.bind0 (size_eq (by omega) (by omega)) r3⟩
theorem iIndex_l (l : List Int) (x : Int) (hn : l.length ≤ 1000) : ∀ (m i : Nat), i + m = l.length → ∃ r : Int, (0 ≤ r ↔ x ∈ l.drop i) ∧ Ev (fun k => slices_Index_int_int.l0 k l x (l.length : Int) (i : Int)) r := by
  intro m
  induction m with
  | zero =>
    intro i h
    refine ⟨-1, ?_, Ev.step (fun k => slices_Index_int_int.l0.eq_2 _ _ _ _ k) (Ev.neg (by omega) (Ev.now _))⟩
    rw [List.drop_of_length_le (by omega)]; simp
  | succ m ih =>
    intro i h
    have hi : i < l.length := by omega
    by_cases e : x = rd l (i : Int)
    · refine ⟨(i : Int), ?_, Ev.step (fun k => slices_Index_int_int.l0.eq_2 _ _ _ _ k) (Ev.pos (by omega) (Ev.pos (by omega) (Ev.pos (by omega) (Ev.pos e (Ev.now _)))))⟩
      rw [drop_rd hi]; simp [e]
    · obtain ⟨r, r1, r2⟩ := ih (i + 1) (by omega)
      refine ⟨r, ?_, Ev.step (fun k => slices_Index_int_int.l0.eq_2 _ _ _ _ k) (Ev.pos (by omega) (Ev.pos (by omega) (Ev.pos (by omega) (Ev.neg e ?_))))⟩
      · rw [r1, drop_rd hi, List.mem_cons]; simp [e]
      · rw [w64s (by omega)]; exact r2
theorem iContains_ev (l : List Int) (x : Int) (hn : l.length ≤ 1000) : Ev (fun k => slices_Contains_int_int.f k l x) (decide (x ∈ l)) := by
  unfold slices_Contains_int_int.f slices_Index_int_int.f
  obtain ⟨r, r1, r2⟩ := iIndex_l l x hn l.length 0 (by omega)
  refine Ev.bind r2 (Ev.nows ?_)
  rw [List.drop_zero] at r1
  exact decide_eq_decide.2 r1
theorem less_eq (a b : Int) : cmp_Less_int.f a b = some (decide (a < b)) := by
  unfold cmp_Less_int.f cmp_isNaN_int.f; simp
theorem iIsort_l (Q : Int → Prop) (n : Nat) (hn : n ≤ 1000) : ∀ (m i : Nat) (l : List Int), i + m = n → l.length = n → (∀ x ∈ l, Q x) → ∃ r : List Int, r.length = n ∧ (∀ x ∈ r, Q x) ∧ Ev (fun k => slices_insertionSortOrdered_int.l0 k l 0 (n : Int) (i : Int)) r := by
  intro m
  induction m with
  | zero =>
    intro i l h hl hq
    exact ⟨l, hl, hq, Ev.step (fun k => slices_insertionSortOrdered_int.l0.eq_2 _ _ _ _ k) (Ev.neg (by omega) (Ev.now _))⟩
  | succ m ih =>
    intro i l h hl hq
    have inner : ∀ (j : Nat) (l : List Int), j ≤ i → l.length = n → (∀ x ∈ l, Q x) → ∃ r : List Int, r.length = n ∧ (∀ x ∈ r, Q x) ∧ Ev (fun k => slices_insertionSortOrdered_int.l1 k l 0 (n : Int) (i : Int) (j : Int)) r := by
      intro j
      induction j with
      | zero =>
        intro l _ hl hq
        obtain ⟨r, r1, r2, r3⟩ := ih (i + 1) l (by omega) hl hq
        refine ⟨r, r1, r2, Ev.step (fun k => slices_insertionSortOrdered_int.l1.eq_2 _ _ _ _ _ k) (Ev.neg (by omega) ?_)⟩
        rw [w64s (by omega)]; exact r3
      | succ j ihj =>
        intro l hj hl hq
        have w : wrap64 (((j + 1 : Nat) : Int) - 1) = (j : Int) := by rw [w64 (by omega) (by omega)]; omega
        by_cases c : rd l ((j + 1 : Nat) : Int) < rd l (j : Int)
        · have hq2 : ∀ x ∈ (l.set (j + 1) (rd l (j : Int))).set j (rd l ((j + 1 : Nat) : Int)), Q x := by
            intro x hx
            rcases List.mem_or_eq_of_mem_set hx with hx | rfl
            · rcases List.mem_or_eq_of_mem_set hx with hx | rfl
              · exact hq x hx
              · exact hq _ (rd_mem (by omega))
            · exact hq _ (rd_mem (by omega))
          obtain ⟨r, r1, r2, r3⟩ := ihj _ (by omega) (by rw [List.length_set, List.length_set]; exact hl) hq2
          refine ⟨r, r1, r2, Ev.step (fun k => slices_insertionSortOrdered_int.l1.eq_2 _ _ _ _ _ k) (Ev.pos (by omega) (Ev.pos (by omega) (Ev.pos (by omega) ?_)))⟩
          rw [w]
          refine Ev.pos (by omega) (Ev.pos (by omega) (Ev.bind0 (less_eq _ _) (Ev.pos (decide_eq_true c) ?_)))
          rw [Int.toNat_natCast, Int.toNat_natCast]
          exact r3
        · obtain ⟨r, r1, r2, r3⟩ := ih (i + 1) l (by omega) hl hq
          refine ⟨r, r1, r2, Ev.step (fun k => slices_insertionSortOrdered_int.l1.eq_2 _ _ _ _ _ k) (Ev.pos (by omega) (Ev.pos (by omega) (Ev.pos (by omega) ?_)))⟩
          rw [w]
          refine Ev.pos (by omega) (Ev.pos (by omega) (Ev.bind0 (less_eq _ _) (Ev.neg (by simpa using c) ?_)))
          rw [w64s (by omega)]; exact r3
    obtain ⟨r, r1, r2, r3⟩ := inner i l (Nat.le_refl _) hl hq
    exact ⟨r, r1, r2, Ev.step (fun k => slices_insertionSortOrdered_int.l0.eq_2 _ _ _ _ k) (Ev.pos (by omega) r3)⟩
theorem iSort_ev (Q : Int → Prop) (l : List Int) (hn : l.length ≤ 12) (hq : ∀ x ∈ l, Q x) : ∃ r : List Int, r.length = l.length ∧ (∀ x ∈ r, Q x) ∧ Ev (fun k => slices_Sort_int_int.f k l) r := by
  obtain ⟨r, r1, r2, r3⟩ : ∃ r : List Int, r.length = l.length ∧ (∀ x ∈ r, Q x) ∧ Ev (fun k => slices_insertionSortOrdered_int.l0 k l 0 (l.length : Int) ((1 : Nat) : Int)) r := by
    by_cases h : l.length = 0
    · exact ⟨l, rfl, hq, Ev.step (fun k => slices_insertionSortOrdered_int.l0.eq_2 _ _ _ _ k) (Ev.neg (by omega) (Ev.now _))⟩
    · exact iIsort_l Q l.length (by omega) (l.length - 1) 1 l (by omega) rfl hq
  refine ⟨r, r1, r2, ?_⟩
  unfold slices_Sort_int_int.f bits_Len.f slices_pdqsortOrdered_int.f slices_insertionSortOrdered_int.f
  have e : IntKind.u64.wrap (l.length : Int) = (l.length : Int) := by simp [IntKind.wrap, IntKind.bits, IntKind.signed]; omega
  rw [e, if_pos (by omega)]
  refine Ev.bind0 rfl (Ev.bind (Ev.pos ?_ ?_) (Ev.now _))
  · rw [w64 (by omega) (by omega)]; omega
  · rw [show wrap64 ((0 : Int) + 1) = ((1 : Nat) : Int) by decide +kernel]
    exact r3
theorem nodup_len : ∀ (l m : List Int), l.Nodup → (∀ x ∈ l, x ∈ m) → l.length ≤ m.length
  | [], m, _, _ => Nat.zero_le _
  | a :: l, m, h, hs => by
    obtain ⟨s, t, rfl⟩ := List.append_of_mem (hs a (List.mem_cons_self ..))
    rw [List.nodup_cons] at h
    have := nodup_len l (s ++ t) h.2 (fun x hx => by
      have h1 := hs x (List.mem_cons_of_mem _ hx)
      rw [List.mem_append, List.mem_cons] at h1
      rw [List.mem_append]
      rcases h1 with h1 | rfl | h1
      · exact .inl h1
      · exact absurd hx h.1
      · exact .inr h1)
    rw [List.length_append] at this ⊢
    rw [List.length_cons, List.length_cons]; omega
theorem iPlaces_l (f : List Int) (hf : ∀ t ∈ f, t ≠ 0 ∧ -30 ≤ t ∧ t ≤ 30) (hn : f.length ≤ 4) : ∀ (m i : Nat) (acc : List Int), i + m = f.length → acc.Nodup → (∀ x ∈ acc, x ∈ PL) → ∃ r : List Int, r.length ≤ 11 ∧ (∀ x ∈ r, x ∈ PL) ∧ Ev (fun k => impl_placesOf.l0 k acc f (f.length : Int) (i : Int)) r := by
  intro m
  induction m with
  | zero =>
    intro i acc h hd hs
    have hl : acc.length ≤ 11 := nodup_len acc PL hd hs
    obtain ⟨r, r1, r2, r3⟩ := iSort_ev (· ∈ PL) acc (by omega) hs
    exact ⟨r, by omega, r2, Ev.step (fun k => impl_placesOf.l0.eq_2 _ _ _ _ k) (Ev.neg (by omega) (Ev.bind r3 (Ev.now _)))⟩
  | succ m ih =>
    intro i acc h hd hs
    have hi : i < f.length := by omega
    obtain ⟨t0, tb⟩ := hf _ (rd_mem hi)
    obtain ⟨ps, p1, p2, p3⟩ := iPrimes_ev t0 tb
    have inner : ∀ (m j : Nat) (acc : List Int), j + m = ps.length → acc.Nodup → (∀ x ∈ acc, x ∈ PL) → ∃ r : List Int, r.length ≤ 11 ∧ (∀ x ∈ r, x ∈ PL) ∧ Ev (fun k => impl_placesOf.l1 k acc f (f.length : Int) (i : Int) ps (ps.length : Int) (j : Int)) r := by
      intro m
      induction m with
      | zero =>
        intro j acc h hd hs
        obtain ⟨r, r1, r2, r3⟩ := ih (i + 1) acc (by omega) hd hs
        refine ⟨r, r1, r2, Ev.step (fun k => impl_placesOf.l1.eq_2 _ _ _ _ _ _ _ k) (Ev.neg (by omega) ?_)⟩
        rw [w64s (by omega)]; exact r3
      | succ m ihm =>
        intro j acc h hd hs
        have hj : j < ps.length := by omega
        have hl : acc.length ≤ 11 := nodup_len acc PL hd hs
        by_cases c : rd ps (j : Int) ∈ acc
        · obtain ⟨r, r1, r2, r3⟩ := ihm (j + 1) acc (by omega) hd hs
          refine ⟨r, r1, r2, Ev.step (fun k => impl_placesOf.l1.eq_2 _ _ _ _ _ _ _ k) (Ev.pos (by omega) (Ev.pos (by omega) (Ev.pos (by omega) (Ev.bind (iContains_ev acc _ (by omega)) (Ev.pos (decide_eq_true c) ?_)))))⟩
          rw [w64s (by omega)]; exact r3
        · obtain ⟨r, r1, r2, r3⟩ := ihm (j + 1) (acc ++ [rd ps (j : Int)]) (by omega)
            (List.nodup_append.2 ⟨hd, by simp, fun a ha b hb => by rw [List.mem_singleton] at hb; rw [hb]; exact fun k => c (k ▸ ha)⟩)
            (fun x hx => by rcases List.mem_append.1 hx with hx | hx; exact hs x hx; rw [List.mem_singleton] at hx; rw [hx]; exact List.mem_cons_of_mem _ (p1 _ (rd_mem hj)))
          refine ⟨r, r1, r2, Ev.step (fun k => impl_placesOf.l1.eq_2 _ _ _ _ _ _ _ k) (Ev.pos (by omega) (Ev.pos (by omega) (Ev.pos (by omega) (Ev.bind (iContains_ev acc _ (by omega)) (Ev.neg (by simpa using c) (Ev.pos (by omega) ?_))))))⟩
          rw [w64s (by omega)]; exact r3
    obtain ⟨r, r1, r2, r3⟩ := inner ps.length 0 acc (by omega) hd hs
    exact ⟨r, r1, r2, Ev.step (fun k => impl_placesOf.l0.eq_2 _ _ _ _ k) (Ev.pos (by omega) (Ev.pos (by omega) (Ev.pos (by omega) (Ev.bind p3 r3))))⟩
theorem iPlaces_ev (f : List Int) (ht : Tame f) (hf : fOk f = true) : ∃ r : List Int, r.length ≤ 11 ∧ (∀ x ∈ r, x ∈ PL) ∧ Ev (fun k => impl_FormPlaces.f k f) r := by
  obtain ⟨r, r1, r2, r3⟩ := iPlaces_l f (fOk_mem hf) (fOk_len hf).2 f.length 0 [0, 2] (by omega) (by decide) (by decide)
  refine ⟨r, r1, r2, ?_⟩
  unfold impl_FormPlaces.f impl_placesOf.f
  exact Ev.bind (iFormValid_ev f ht) (Ev.pos hf (Ev.bind r3 (Ev.now _)))
theorem iBad_zero {f v : List Int} (ht : Tame f) (h : zeroB f v = true) : Ev (fun k => impl_FormBad.f k f) [] := by
  obtain ⟨r, r1, r2, r3⟩ := iPlaces_ev f ht (zB_of h).1
  unfold impl_FormBad.f
  refine Ev.bind r3 ?_
  have go : ∀ (m i : Nat), i + m = r.length → Ev (fun k => impl_FormBad.l0 k f [] r (r.length : Int) (i : Int)) [] := by
    intro m
    induction m with
    | zero =>
      intro i h
      exact Ev.step (fun k => impl_FormBad.l0.eq_2 _ _ _ _ _ k) (Ev.neg (by omega) (Ev.now _))
    | succ m ih =>
      intro i hi
      obtain ⟨P, e, hP⟩ := pl_place (r2 _ (rd_mem (show i < r.length by omega)))
      have hv := iVan_zero h hP
      rw [← e] at hv
      refine Ev.step (fun k => impl_FormBad.l0.eq_2 _ _ _ _ _ k) (Ev.pos (by omega) (Ev.pos (by omega) (Ev.pos (by omega) (Ev.bind hv (Ev.pos rfl ?_)))))
      rw [w64s (by omega)]
      exact ih (i + 1) (by omega)
  exact go r.length 0 (by omega)
theorem one_ev {s : List Int} (hs : IsCode s) (p : Nat) (hp : p ≤ 19000000000000000) :
    (pickv s (p + 3) 40 = 1 ∧ Ev (fun k => spec_l91Form.f k s (p : Int) 1) ([], ((p + 4 : Nat) : Int))) ∨ (pickv s (p + 3) 40 ≠ 1 ∧ ∃ (x : Int) (q : Nat), -31 ≤ x ∧ x ≤ 31 ∧ q ≤ p + 5 ∧ Ev (fun k => spec_l91Form.f k s (p : Int) 1) ([x], (q : Int))) := by
  have h1 := pick_ev hs p 1 (by omega) (by omega)
  have z1 := pickv_lt s p (n := 1) (by omega)
  rw [show pickv s p 1 = 0 by omega] at h1
  obtain ⟨a, a0, a1, ha⟩ := pick_ev' hs (p + 1) 16 (by omega) (by omega)
  obtain ⟨b, b0, b1, hb⟩ := pick_ev' hs (p + 1 + 1) 5 (by omega) (by omega)
  have h4 := pick_ev hs (p + 1 + 1 + 1) 40 (by omega) (by omega)
  have z4 := pickv_lt s (p + 1 + 1 + 1) (n := 40) (by omega)
  rw [show p + 3 = p + 1 + 1 + 1 by omega]
  have hm : 1 ≤ rd ([1, 2, 3, 5, 6, 7, 1, 10, 12, 3, 15, 4, 21, 1, 30, 8] : List Int) a ∧ rd ([1, 2, 3, 5, 6, 7, 1, 10, 12, 3, 15, 4, 21, 1, 30, 8] : List Int) a ≤ 30 := by
    obtain ⟨c, rfl⟩ : ∃ c : Nat, a = c := ⟨a.toNat, by omega⟩
    have : ∀ y ∈ ([1, 2, 3, 5, 6, 7, 1, 10, 12, 3, 15, 4, 21, 1, 30, 8] : List Int), 1 ≤ y ∧ y ≤ 30 := by decide
    exact this _ (rd_mem (show c < 16 by omega))
  have go : ∀ (R : List Int × Int), (∀ x : Int, -31 ≤ x → x ≤ 31 → (x = wrap64 (-(rd ([1, 2, 3, 5, 6, 7, 1, 10, 12, 3, 15, 4, 21, 1, 30, 8] : List Int) a)) ∧ b < 2 ∨ x = rd ([1, 2, 3, 5, 6, 7, 1, 10, 12, 3, 15, 4, 21, 1, 30, 8] : List Int) a ∧ ¬ b < 2) → Ev (fun k => spec_l91Form.l0 k [x] 1 1 s ((p + 1 + 1 + 1 : Nat) : Int)) R) → Ev (fun k => spec_l91Form.f k s (p : Int) 1) R := by
    intro R hR
    unfold spec_l91Form.f
    refine Ev.bind h1 ?_
    simp only
    rw [show ((0 : Nat) : Int) = 0 from rfl, w64 (a := 1 + 0) (by omega) (by omega)]
    refine Ev.step (fun k => spec_l91Form.l0.eq_2 _ _ _ _ _ k) (Ev.pos (by omega) (Ev.bind0 rfl (Ev.bind ha (Ev.pos a0 (Ev.pos a1 (Ev.bind hb ?_))))))
    by_cases e : b < 2
    · refine Ev.pos e (Ev.pos (by simp) ?_)
      rw [w64 (a := 0 + 1) (by omega) (by omega)]
      exact hR (wrap64 (-(rd ([1, 2, 3, 5, 6, 7, 1, 10, 12, 3, 15, 4, 21, 1, 30, 8] : List Int) a))) (by rw [w64 (by omega) (by omega)]; omega) (by rw [w64 (by omega) (by omega)]; omega) (.inl ⟨rfl, e⟩)
    · refine Ev.neg e (Ev.pos (by simp) ?_)
      rw [w64 (a := 0 + 1) (by omega) (by omega)]
      exact hR (rd ([1, 2, 3, 5, 6, 7, 1, 10, 12, 3, 15, 4, 21, 1, 30, 8] : List Int) a) (by omega) (by omega) (.inr ⟨rfl, e⟩)
  have ex : ∃ x : Int, -31 ≤ x ∧ x ≤ 31 ∧ ∀ R : List Int × Int, Ev (fun k => spec_l91Form.l0 k [x] 1 1 s ((p + 1 + 1 + 1 : Nat) : Int)) R → Ev (fun k => spec_l91Form.f k s (p : Int) 1) R := by
    by_cases e : b < 2
    · refine ⟨wrap64 (-(rd ([1, 2, 3, 5, 6, 7, 1, 10, 12, 3, 15, 4, 21, 1, 30, 8] : List Int) a)), by rw [w64 (by omega) (by omega)]; omega, by rw [w64 (by omega) (by omega)]; omega, fun R hR => go R (fun x _ _ hx => ?_)⟩
      rcases hx with ⟨rfl, _⟩ | ⟨_, h⟩
      · exact hR
      · exact absurd e h
    · refine ⟨rd ([1, 2, 3, 5, 6, 7, 1, 10, 12, 3, 15, 4, 21, 1, 30, 8] : List Int) a, by omega, by omega, fun R hR => go R (fun x _ _ hx => ?_)⟩
      rcases hx with ⟨_, h⟩ | ⟨rfl, _⟩
      · exact absurd h e
      · exact hR
  obtain ⟨x, x0, x1, hx⟩ := ex
  by_cases e1 : pickv s (p + 1 + 1 + 1) 40 = 1
  · refine .inl ⟨e1, hx _ (Ev.step (fun k => spec_l91Form.l0.eq_2 _ _ _ _ _ k) (Ev.neg (by omega) (Ev.bind h4 (Ev.neg (by simp only; omega) (Ev.pos (by simp only; omega) (Ev.nows ?_))))))⟩
    rw [show p + 4 = p + 1 + 1 + 1 + 1 by omega]
  · refine .inr ⟨e1, ?_⟩
    by_cases e0 : pickv s (p + 1 + 1 + 1) 40 = 0
    · obtain ⟨c, c0, c1, hc⟩ := pick_ev' hs (p + 1 + 1 + 1 + 1) 2 (by omega) (by omega)
      refine ⟨rd ([0, 31] : List Int) c, p + 1 + 1 + 1 + 1 + 1, ?_, ?_, by omega, hx _ (Ev.step (fun k => spec_l91Form.l0.eq_2 _ _ _ _ _ k) (Ev.neg (by omega) (Ev.bind h4 (Ev.pos (by simp only; omega) (Ev.bind0 rfl (Ev.bind hc (Ev.pos c0 (Ev.pos c1 (Ev.pos (by simp) (Ev.now _)))))))))) ⟩
      · rcases (by omega : c = 0 ∨ c = 1) with rfl | rfl <;> decide
      · rcases (by omega : c = 0 ∨ c = 1) with rfl | rfl <;> decide
    · exact ⟨x, p + 1 + 1 + 1 + 1, x0, x1, by omega, hx _ (Ev.step (fun k => spec_l91Form.l0.eq_2 _ _ _ _ _ k) (Ev.neg (by omega) (Ev.bind h4 (Ev.neg (by simp only; omega) (Ev.neg (by simp only; omega) (Ev.now _))))))⟩
theorem form_two {s : List Int} (hs : IsCode s) (out : List Int) (h3 : out.length = 3) (hb : ∀ x ∈ out, -31 ≤ x ∧ x ≤ 31) (t : Bool) (p : Nat) (hp : p ≤ 19500000000000000) :
    ∃ (form : List Int) (q : Nat), form.length = 3 ∧ (∀ x ∈ form, -31 ≤ x ∧ x ≤ 31) ∧ q ≤ p + 1 ∧ Ev (fun k => spec_l92Form.j2 k out t s (p : Int)) (form, (q : Int)) := by
  cases t with
  | false => exact ⟨out, p, h3, hb, by omega, Ev.step (fun k => spec_l92Form.j2.eq_2 _ _ _ _ k) (Ev.neg (by simp) (Ev.now _))⟩
  | true =>
    obtain ⟨b, b0, b1, hp2⟩ := pick_ev' hs p 2 (by omega) (by omega)
    have c0 := hb _ (rd_mem (show 0 < out.length by omega))
    have c1 := hb _ (rd_mem (show 1 < out.length by omega))
    have m := mul2_bd (a := rd out ((0 : Nat) : Int)) (b := 1 + b) (A := 31) (B := 2) c0 (by omega)
    have e : wrap64 ((wrap64 (-(wrap64 ((rd out 0) * (wrap64 (1 + b)))))) - (rd out 1)) = -(rd out ((0 : Nat) : Int) * (1 + b)) - rd out ((1 : Nat) : Int) := by
      show wrap64 ((wrap64 (-(wrap64 ((rd out ((0 : Nat) : Int)) * (wrap64 (1 + b)))))) - (rd out ((1 : Nat) : Int))) = _
      rw [w64 (a := 1 + b) (by omega) (by omega), w64 (a := rd out ((0 : Nat) : Int) * (1 + b)) (by omega) (by omega), w64 (a := -(rd out ((0 : Nat) : Int) * (1 + b))) (by omega) (by omega), w64 (by omega) (by omega)]
    generalize hT : -(rd out ((0 : Nat) : Int) * (1 + b)) - rd out ((1 : Nat) : Int) = T at *
    by_cases t0 : T = 0
    · exact ⟨out, p + 1, h3, hb, by omega, Ev.step (fun k => spec_l92Form.j2.eq_2 _ _ _ _ k) (Ev.pos rfl (Ev.pos (by omega) (Ev.bind hp2 (Ev.pos (by omega) (Ev.pos (by simp only; rw [e]; exact t0) (Ev.now _))))))⟩
    · by_cases t1 : ((T.natAbs : Nat) : Int) ≤ 30
      · refine ⟨out.set 2 T, p + 1, by rw [List.length_set]; exact h3, fun x hx => ?_, by omega, Ev.step (fun k => spec_l92Form.j2.eq_2 _ _ _ _ k) (Ev.pos rfl (Ev.pos (by omega) (Ev.bind hp2 (Ev.pos (by omega) (Ev.neg (by simp only; rw [e]; exact t0) (Ev.bind0 (a := ((T.natAbs : Nat) : Int)) (by simp only; rw [e]; exact l1Size_eq (by omega) (by omega)) (Ev.pos t1 (Ev.pos (by omega) (Ev.nows (by simp only; rw [e]; rfl)))))))))) ⟩
        rcases List.mem_or_eq_of_mem_set hx with h | rfl
        · exact hb x h
        · omega
      · exact ⟨out, p + 1, h3, hb, by omega, Ev.step (fun k => spec_l92Form.j2.eq_2 _ _ _ _ k) (Ev.pos rfl (Ev.pos (by omega) (Ev.bind hp2 (Ev.pos (by omega) (Ev.neg (by simp only; rw [e]; exact t0) (Ev.bind0 (a := ((T.natAbs : Nat) : Int)) (by simp only; rw [e]; exact l1Size_eq (by omega) (by omega)) (Ev.neg t1 (Ev.now _))))))))⟩
theorem form_stepN {s : List Int} (hs : IsCode s) (n : Nat) (out : List Int) (h1 : 1 ≤ out.length) (h3 : out.length < n) (hn : n ≤ 4) : ∀ (i p : Nat), p + 4 * i ≤ 19000000000000000 → pickv s (p + 3 + 4 * i) 40 ≠ 1 →
    ∃ (x : Int) (q : Nat), -31 ≤ x ∧ x ≤ 31 ∧ q ≤ p + 4 * i + 5 ∧ ∀ R : List Int × Int, Ev (fun k => spec_l92Form.l0 k (n : Int) (out ++ [x]) s (q : Int)) R → Ev (fun k => spec_l92Form.l0 k (n : Int) out s (p : Int)) R := by
  intro i
  induction i with
  | zero =>
    intro p hp hk
    rcases one_ev hs p (by omega) with ⟨h, _⟩ | ⟨_, x, q, x0, x1, hq, hx⟩
    · exact absurd h hk
    · exact ⟨x, q, x0, x1, by omega, fun R hR => Ev.step (fun k => spec_l92Form.l0.eq_2 _ _ _ _ k) (Ev.pos (by omega) (Ev.pos (by omega) (Ev.bind hx (Ev.pos (by simp only [List.length_cons, List.length_nil]; omega) hR))))⟩
  | succ i ih =>
    intro p hp hk
    rcases one_ev hs p (by omega) with ⟨_, h⟩ | ⟨_, x, q, x0, x1, hq, hx⟩
    · obtain ⟨x, q, x0, x1, hq, hx⟩ := ih (p + 4) (by omega) (by rw [show p + 4 + 3 + 4 * i = p + 3 + 4 * (i + 1) by omega]; exact hk)
      refine ⟨x, q, x0, x1, by omega, fun R hR => Ev.step (fun k => spec_l92Form.l0.eq_2 _ _ _ _ k) (Ev.pos (by omega) (Ev.pos (by omega) (Ev.bind h (Ev.pos (by simp only [List.length_nil]; omega) ?_))))⟩
      rw [List.append_nil]; exact hx R hR
    · exact ⟨x, q, x0, x1, by omega, fun R hR => Ev.step (fun k => spec_l92Form.l0.eq_2 _ _ _ _ k) (Ev.pos (by omega) (Ev.pos (by omega) (Ev.bind hx (Ev.pos (by simp only [List.length_cons, List.length_nil]; omega) hR))))⟩
def Drawn (form : List Int) : Prop := form.length ≤ 4 ∧ ∀ x ∈ form, -31 ≤ x ∧ x ≤ 31
theorem drawn_tame {form : List Int} (h : Drawn form) : Tame form := ⟨by have := h.1; omega, fun x hx => by have := h.2 x hx; omega⟩
theorem form_upto {s : List Int} (hs : IsCode s) (n : Nat) (hn : n ≤ 4) : ∀ (m : Nat) (out : List Int) (p : Nat), out.length + m = n → 1 ≤ out.length → (∀ x ∈ out, -31 ≤ x ∧ x ≤ 31) → p ≤ 1000000000000 * (5 - m) →
    ∃ (form : List Int) (q : Nat), form.length = n ∧ (∀ x ∈ form, -31 ≤ x ∧ x ≤ 31) ∧ q ≤ 6000000000000 ∧ Ev (fun k => spec_l92Form.l0 k (n : Int) out s (p : Int)) (form, (q : Int)) := by
  intro m
  induction m with
  | zero =>
    intro out p hl h1 hb hp
    have fin : ∃ (form : List Int) (v : Nat), form.length = n ∧ (∀ x ∈ form, -31 ≤ x ∧ x ≤ 31) ∧ v ≤ p + 2 ∧ Ev (fun k => spec_l92Form.j1 k out s (p : Int)) (form, (v : Int)) := by
      by_cases e3 : out.length = 3
      · obtain ⟨a, a0, a1, ha⟩ := pick_ev' hs p 2 (by omega) (by omega)
        by_cases e : a = 0
        · obtain ⟨form, v, f1, f2, f3, f4⟩ := form_two hs out e3 hb (fOk out) (p + 1) (by omega)
          exact ⟨form, v, by omega, f2, by omega, Ev.step (fun k => spec_l92Form.j1.eq_2 _ _ _ k) (Ev.pos (by omega) (Ev.bind ha (Ev.pos e (Ev.bind (sFormValid_ev _ (by omega)) f4))))⟩
        · obtain ⟨form, v, f1, f2, f3, f4⟩ := form_two hs out e3 hb false (p + 1) (by omega)
          exact ⟨form, v, by omega, f2, by omega, Ev.step (fun k => spec_l92Form.j1.eq_2 _ _ _ k) (Ev.pos (by omega) (Ev.bind ha (Ev.neg e f4)))⟩
      · exact ⟨out, p, by omega, hb, by omega, Ev.step (fun k => spec_l92Form.j1.eq_2 _ _ _ k) (Ev.neg (by omega) (Ev.step (fun k => spec_l92Form.j2.eq_2 _ _ _ _ k) (Ev.neg (by simp) (Ev.now _))))⟩
    obtain ⟨form, v, f1, f2, f3, f4⟩ := fin
    exact ⟨form, v, f1, f2, by omega, Ev.step (fun k => spec_l92Form.l0.eq_2 _ _ _ _ k) (Ev.neg (by omega) f4)⟩
  | succ m ih =>
    intro out p hl h1 hb hp
    obtain ⟨i, i0, i1⟩ := far_some hs p
    obtain ⟨x, q, x0, x1, hq, hx⟩ := form_stepN hs n out h1 (by omega) hn i p (by omega) i1
    obtain ⟨form, v, f1, f2, f3, f4⟩ := ih (out ++ [x]) q (by rw [List.length_append]; simp; omega) (by rw [List.length_append]; omega)
      (fun w hw => by rcases List.mem_append.1 hw with hw | hw; exact hb w hw; rw [List.mem_singleton] at hw; rw [hw]; exact ⟨x0, x1⟩) (by omega)
    exact ⟨form, v, f1, f2, f3, hx _ f4⟩
theorem formN_ev {s : List Int} (hs : IsCode s) (n : Nat) (h1 : 1 ≤ n) (hn : n ≤ 4) (p : Nat) (hp : p ≤ 1000) : ∃ (form : List Int) (q : Nat), Drawn form ∧ (form.length = 0 ∨ form.length = n) ∧ q ≤ 6000000000000 ∧ Ev (fun k => spec_l92Form.f k s (p : Int) (n : Int)) (form, (q : Int)) := by
  unfold spec_l92Form.f
  rcases one_ev hs p (by omega) with ⟨_, h⟩ | ⟨_, x, q, x0, x1, hq, hx⟩
  · exact ⟨[], p + 4, ⟨by simp, by simp⟩, .inl rfl, by omega, Ev.bind h (Ev.step (fun k => spec_l92Form.l0.eq_2 _ _ _ _ k) (Ev.pos (by simp; omega) (Ev.neg (by simp) (Ev.step (fun k => spec_l92Form.j1.eq_2 _ _ _ k) (Ev.neg (by simp) (Ev.step (fun k => spec_l92Form.j2.eq_2 _ _ _ _ k) (Ev.neg (by simp) (Ev.now _))))))))⟩
  · obtain ⟨form, v, f1, f2, f3, f4⟩ := form_upto hs n hn (n - 1) [x] q (by simp; omega) (by simp) (by intro w hw; simp at hw; omega) (by omega)
    exact ⟨form, v, ⟨by omega, f2⟩, .inr f1, f3, Ev.bind hx f4⟩
theorem sq_bd {p : Int} {M : Int} (h0 : 0 ≤ p) (h : p * p ≤ 40000) : p ≤ 200 := by
  rcases (by omega : p ≤ 200 ∨ 201 ≤ p) with k | k
  · exact k
  · have := Int.mul_le_mul k k (by omega) h0; omega
theorem sq_le {p M : Int} (h0 : 0 ≤ p) (h : p ≤ M) : 0 ≤ p * p ∧ p * p ≤ M * M := ⟨Int.mul_nonneg h0 h0, Int.mul_le_mul h h h0 (by omega)⟩
theorem tdiv_exact {x q : Int} (hq : 2 ≤ q) (hx : x ≠ 0) (h : Int.tmod x q = 0) : ∃ y, x = q * y ∧ Int.tdiv x q = y ∧ y ≠ 0 ∧ y.natAbs < x.natAbs := by
  obtain ⟨y, rfl⟩ := Int.dvd_of_tmod_eq_zero h
  have hy : y ≠ 0 := fun k => hx (by rw [k, Int.mul_zero])
  refine ⟨y, rfl, Int.mul_tdiv_cancel_left _ (by omega), hy, ?_⟩
  rw [Int.natAbs_mul]
  have : 2 * y.natAbs ≤ q.natAbs * y.natAbs := Nat.mul_le_mul_right _ (by omega)
  omega
theorem dec {M a b k n : Nat} (h : a < b) (h0 : 0 < M) (h1 : b * M + k ≤ n + 1) : a * M + k ≤ n :=
  Nat.le_of_lt_succ (Nat.lt_of_lt_of_le (Nat.add_lt_add_right ((Nat.mul_lt_mul_right h0).2 h) k) h1)
theorem core_l : ∀ (N : Nat) (x r p : Int), x ≠ 0 → x.natAbs ≤ 30000 → 1 ≤ r → 2 ≤ p → p * p ≤ (x.natAbs : Int) → r * (x.natAbs : Int) ≤ 30000 → x.natAbs * 1000 + (300 - p).toNat ≤ N →
    ∃ c s : Int, c ≠ 0 ∧ c.natAbs ≤ x.natAbs ∧ 1 ≤ s ∧ s * (c.natAbs : Int) ≤ r * (x.natAbs : Int) ∧ Ev (fun k => spec_l1Core.l1 k x r p) (c, s) := by
  intro N
  induction N with
  | zero => intro x r p h0 _ _ _ _ _ hN; omega
  | succ N ih =>
    intro x r p h0 h1 h2 h3 h4 h5 hN
    have hp := sq_bd (M := 0) (p := p) (by omega) (by omega)
    have hpp := sq_le (p := p) (M := 200) (by omega) hp
    have hp4 : 4 ≤ p * p := by have := Int.mul_le_mul h3 h3 (by omega) (show (0 : Int) ≤ p by omega); omega
    have hr : r ≤ 30000 := by
      have := Int.mul_le_mul_of_nonneg_left (show (1 : Int) ≤ (x.natAbs : Int) by omega) (show 0 ≤ r by omega); omega
    by_cases e : Int.tmod x (p * p) = 0
    · obtain ⟨y, hy, hd, y0, hlt⟩ := tdiv_exact (by omega) h0 e
      have hrp : r * p * (y.natAbs : Int) ≤ r * (x.natAbs : Int) := by
        rw [hy, Int.natAbs_mul, Int.mul_assoc]
        refine Int.mul_le_mul_of_nonneg_left ?_ (by omega)
        rw [Int.natCast_mul]
        refine Int.mul_le_mul_of_nonneg_right ?_ (by omega)
        have := Int.mul_le_mul_of_nonneg_left (show (1 : Int) ≤ p by omega) (show 0 ≤ p by omega)
        omega
      have hrp2 : r * p ≤ 30000 := by
        have a := Int.mul_nonneg (show 0 ≤ r by omega) (show 0 ≤ p by omega)
        have := Int.mul_le_mul_of_nonneg_left (show (1 : Int) ≤ (y.natAbs : Int) by omega) a; omega
      have hrp1 : 1 ≤ r * p := by have := Int.mul_pos (show 0 < r by omega) (show 0 < p by omega); omega
      have step : ∀ R : Int × Int, Ev (fun k => spec_l1Core.l1 k y (r * p) p) R → Ev (fun k => spec_l1Core.l1 k x r p) R := by
        intro R hR
        refine Ev.step (fun k => spec_l1Core.l1.eq_2 _ _ _ k) ?_
        rw [w64 (a := p * p) (by omega) (by omega)]
        refine Ev.neg (by omega) (Ev.pos e ?_)
        rw [hd, w64 (a := y) (by omega) (by omega), w64 (a := r * p) (by omega) (by omega)]
        exact hR
      by_cases hc : p * p ≤ (y.natAbs : Int)
      · obtain ⟨c, s, c1, c2, c3, c4, c5⟩ := ih y (r * p) p y0 (by omega) hrp1 h3 hc (by omega) (dec hlt (by decide) hN)
        exact ⟨c, s, c1, by omega, c3, by omega, step _ c5⟩
      ·
        refine ⟨y, r * p, y0, by omega, hrp1, hrp, step _ ?_⟩
        refine Ev.step (fun k => spec_l1Core.l1.eq_2 _ _ _ k) ?_
        rw [w64 (a := p * p) (by omega) (by omega)]
        refine Ev.neg (by omega) (Ev.neg ?_ ?_)
        · intro k
          obtain ⟨z, hz, _, z0, _⟩ := tdiv_exact (show 2 ≤ p * p by omega) y0 k
          have : (p * p).natAbs * 1 ≤ (p * p).natAbs * z.natAbs := Nat.mul_le_mul_left _ (by omega)
          rw [← Int.natAbs_mul, ← hz] at this; omega
        · rw [w64 (a := p + 1) (by omega) (by omega)]
          refine Ev.step (fun k => spec_l1Core.l0.eq_2 _ _ _ k) (Ev.bind0 (l1Size_eq (by omega) (by omega)) (Ev.neg ?_ (Ev.now _)))
          have := sq_le (p := p + 1) (M := 201) (by omega) (by omega)
          have m := Int.mul_le_mul (show p ≤ p + 1 by omega) (show p ≤ p + 1 by omega) (by omega) (show 0 ≤ p + 1 by omega)
          rw [w64 (a := (p + 1) * (p + 1)) (by omega) (by omega)]; omega
    · have hp1 := sq_le (p := p + 1) (M := 201) (by omega) (by omega)
      have step : ∀ R : Int × Int, Ev (fun k => spec_l1Core.l0 k x r (p + 1)) R → Ev (fun k => spec_l1Core.l1 k x r p) R := by
        intro R hR
        refine Ev.step (fun k => spec_l1Core.l1.eq_2 _ _ _ k) ?_
        rw [w64 (a := p * p) (by omega) (by omega)]
        refine Ev.neg (by omega) (Ev.neg e ?_)
        rw [w64 (a := p + 1) (by omega) (by omega)]; exact hR
      by_cases hc : (p + 1) * (p + 1) ≤ (x.natAbs : Int)
      · obtain ⟨c, s, c1, c2, c3, c4, c5⟩ := ih x r (p + 1) h0 h1 h2 (by omega) hc h5 (by omega)
        refine ⟨c, s, c1, c2, c3, c4, step _ (Ev.step (fun k => spec_l1Core.l0.eq_2 _ _ _ k) (Ev.bind0 (l1Size_eq (by omega) (by omega)) (Ev.pos ?_ c5)))⟩
        rw [w64 (a := (p + 1) * (p + 1)) (by omega) (by omega)]; exact hc
      · refine ⟨x, r, h0, by omega, h2, by omega, step _ (Ev.step (fun k => spec_l1Core.l0.eq_2 _ _ _ k) (Ev.bind0 (l1Size_eq (by omega) (by omega)) (Ev.neg ?_ (Ev.now _))))⟩
        rw [w64 (a := (p + 1) * (p + 1)) (by omega) (by omega)]; exact hc
theorem core_ev (x : Int) (h0 : x ≠ 0) (h1 : x.natAbs ≤ 30000) : ∃ c s : Int, c ≠ 0 ∧ c.natAbs ≤ x.natAbs ∧ 1 ≤ s ∧ s * (c.natAbs : Int) ≤ (x.natAbs : Int) ∧ Ev (fun k => spec_l1Core.f k x) (c, s) := by
  unfold spec_l1Core.f
  by_cases hc : (4 : Int) ≤ (x.natAbs : Int)
  · obtain ⟨c, s, c1, c2, c3, c4, c5⟩ := core_l (x.natAbs * 1000 + 300) x 1 2 h0 h1 (by omega) (by omega) (by omega) (by omega) (by omega)
    refine ⟨c, s, c1, c2, c3, by omega, Ev.step (fun k => spec_l1Core.l0.eq_2 _ _ _ k) (Ev.bind0 (l1Size_eq (by omega) (by omega)) (Ev.pos ?_ c5))⟩
    rw [w64 (a := (2 : Int) * 2) (by omega) (by omega)]; exact hc
  · refine ⟨x, 1, h0, by omega, by omega, by omega, Ev.step (fun k => spec_l1Core.l0.eq_2 _ _ _ k) (Ev.bind0 (l1Size_eq (by omega) (by omega)) (Ev.neg ?_ (Ev.now _)))⟩
    rw [w64 (a := (2 : Int) * 2) (by omega) (by omega)]; exact hc
def Gathered (g n : Int) (out : List Int) : Prop := (out = [] ∧ n = g) ∨ ∃ q rest, out = q :: rest ∧ 2 ≤ q ∧ q ∣ g
theorem gathered_app {g n : Int} {out : List Int} {p : Int} (h : Gathered g n out) (h2 : 2 ≤ p) (hp : p ∣ n) (m : Int) : Gathered g m (out ++ [p]) := by
  rcases h with ⟨rfl, rfl⟩ | ⟨q, rest, rfl, q0, q1⟩
  · exact .inr ⟨p, [], rfl, h2, hp⟩
  · exact .inr ⟨q, rest ++ [p], rfl, q0, q1⟩
theorem primes_l (g : Int) : ∀ (N : Nat) (n p : Int) (out : List Int), 1 ≤ n → n ≤ 30000 → 2 ≤ p → p ≤ 1000 → out.length ≤ p.toNat → Gathered g n out → (out = [] → Int.tmod n p ≠ 0) → (p * p ≤ n ∨ out ≠ []) → n.toNat * 2000 + (1000 - p).toNat ≤ N → p ≤ 201 →
    (2 ≤ g) → ∃ l : List Int, Gathered g 0 l ∧ l ≠ [] ∧ Ev (fun k => spec_l1Primes.l1 k n out p) l := by
  intro N
  induction N with
  | zero => intro n p out h0 _ _ _ _ _ _ _ hN; omega
  | succ N ih =>
    intro n p out h0 h1 h2 h3 hl hG hne hlast hN hp hg2
    by_cases e : Int.tmod n p = 0
    · have ho : out ≠ [] := fun k => hne k e
      obtain ⟨y, hy, hd, y0, hlt⟩ := tdiv_exact h2 (by omega) e
      have hy0 : 1 ≤ y := by
        rcases (by omega : y ≤ -1 ∨ 1 ≤ y) with k | k
        · have := Int.mul_le_mul_of_nonneg_left (show y ≤ 0 by omega) (show 0 ≤ p by omega); rw [Int.mul_zero] at this; omega
        · exact k
      have hG2 : Gathered g y out := by
        rcases hG with ⟨k, _⟩ | k
        · exact absurd k ho
        · exact .inr k
      obtain ⟨l, l1, l2, l3⟩ := ih y p out hy0 (by omega) h2 h3 hl hG2 (fun k => absurd k ho) (.inr ho) (dec (show y.toNat < n.toNat by omega) (by decide) hN) hp hg2
      refine ⟨l, l1, l2, Ev.step (fun k => spec_l1Primes.l1.eq_2 _ _ _ k) (Ev.neg (by omega) (Ev.pos e ?_))⟩
      rw [hd, w64 (a := y) (by omega) (by omega)]; exact l3
    · have hp1 := sq_le (p := p + 1) (M := 202) (by omega) (by omega)
      have step : ∀ R : List Int, Ev (fun k => spec_l1Primes.l0 k n out (p + 1)) R → Ev (fun k => spec_l1Primes.l1 k n out p) R := by
        intro R hR
        refine Ev.step (fun k => spec_l1Primes.l1.eq_2 _ _ _ k) (Ev.neg (by omega) (Ev.neg e ?_))
        rw [w64 (a := p + 1) (by omega) (by omega)]; exact hR
      by_cases hc : (p + 1) * (p + 1) ≤ n
      · have hps := sq_bd (M := 0) (p := p + 1) (by omega) (by omega)
        by_cases e2 : Int.tmod n (p + 1) = 0
        · obtain ⟨l, l1, l2, l3⟩ := ih n (p + 1) (out ++ [p + 1]) h0 h1 (by omega) (by omega) (by rw [List.length_append]; simp only [List.length_cons, List.length_nil]; omega) (gathered_app hG (by omega) (Int.dvd_of_tmod_eq_zero e2) n) (fun k => by simp at k) (.inr (by simp)) (by omega) (by omega) hg2
          refine ⟨l, l1, l2, step _ (Ev.step (fun k => spec_l1Primes.l0.eq_2 _ _ _ k) (Ev.pos ?_ (Ev.neg (by omega) (Ev.pos e2 (Ev.pos (by omega) (Ev.step (fun k => spec_l1Primes.j1.eq_2 _ _ _ k) l3))))))⟩
          rw [w64 (a := (p + 1) * (p + 1)) (by omega) (by omega)]; exact hc
        · obtain ⟨l, l1, l2, l3⟩ := ih n (p + 1) out h0 h1 (by omega) (by omega) (by omega) hG (fun _ => e2) (.inl hc) (by omega) (by omega) hg2
          refine ⟨l, l1, l2, step _ (Ev.step (fun k => spec_l1Primes.l0.eq_2 _ _ _ k) (Ev.pos ?_ (Ev.neg (by omega) (Ev.neg e2 (Ev.step (fun k => spec_l1Primes.j1.eq_2 _ _ _ k) l3)))))⟩
          rw [w64 (a := (p + 1) * (p + 1)) (by omega) (by omega)]; exact hc
      · by_cases hn1 : n > 1
        · refine ⟨out ++ [n], gathered_app hG (by omega) (Int.dvd_refl _) 0, by simp, step _ (Ev.step (fun k => spec_l1Primes.l0.eq_2 _ _ _ k) (Ev.neg ?_ (Ev.pos hn1 (Ev.pos (by omega) (Ev.now _)))))⟩
          rw [w64 (a := (p + 1) * (p + 1)) (by omega) (by omega)]; exact hc
        · have ho : out ≠ [] := by
            intro k
            rcases hG with ⟨_, hk⟩ | ⟨q, rest, hk, _⟩
            · omega
            · rw [k] at hk; simp at hk
          have hG2 : Gathered g 0 out := by
            rcases hG with ⟨k, _⟩ | k
            · exact absurd k ho
            · exact .inr k
          refine ⟨out, hG2, ho, step _ (Ev.step (fun k => spec_l1Primes.l0.eq_2 _ _ _ k) (Ev.neg ?_ (Ev.neg hn1 (Ev.now _))))⟩
          rw [w64 (a := (p + 1) * (p + 1)) (by omega) (by omega)]; exact hc
theorem gathered_head {g : Int} {l : List Int} (h : Gathered g 0 l) (hl : l ≠ []) : ∃ p rest, l = p :: rest ∧ 2 ≤ p ∧ p ∣ g := by
  rcases h with ⟨k, _⟩ | h
  · exact absurd k hl
  · exact h
theorem primes_ev (g : Int) (h2 : 2 ≤ g) (h3 : g ≤ 30000) : ∃ p rest, 2 ≤ p ∧ p ∣ g ∧ Ev (fun k => spec_l1Primes.f k g) (p :: rest) := by
  have go : ∀ R : List Int, Ev (fun k => spec_l1Primes.l0 k g [] 2) R → Ev (fun k => spec_l1Primes.f k g) R := by
    intro R hR
    unfold spec_l1Primes.f
    refine Ev.bind0 (l1Size_eq (by omega) (by omega)) ?_
    rw [show ((g.natAbs : Nat) : Int) = g by omega]; exact hR
  have e22 : wrap64 ((2 : Int) * 2) = 4 := w64 (by decide) (by decide)
  by_cases hc : 4 ≤ g
  · by_cases e2 : Int.tmod g 2 = 0
    · obtain ⟨l, l1, l2, l3⟩ := primes_l g (g.toNat * 2000 + 1000) g 2 [2] (by omega) h3 (by omega) (by omega) (by simp) (.inr ⟨2, [], rfl, by omega, Int.dvd_of_tmod_eq_zero e2⟩) (fun k => by simp at k) (.inr (by simp)) (by omega) (by omega) h2
      obtain ⟨p, rest, rfl, p0, p1⟩ := gathered_head l1 l2
      exact ⟨p, rest, p0, p1, go _ (Ev.step (fun k => spec_l1Primes.l0.eq_2 _ _ _ k) (Ev.pos (by rw [e22]; exact hc) (Ev.neg (by omega) (Ev.pos e2 (Ev.pos (by simp) (Ev.step (fun k => spec_l1Primes.j1.eq_2 _ _ _ k) l3))))))⟩
    · obtain ⟨l, l1, l2, l3⟩ := primes_l g (g.toNat * 2000 + 1000) g 2 [] (by omega) h3 (by omega) (by omega) (by simp) (.inl ⟨rfl, rfl⟩) (fun _ => e2) (.inl (by omega)) (by omega) (by omega) h2
      obtain ⟨p, rest, rfl, p0, p1⟩ := gathered_head l1 l2
      exact ⟨p, rest, p0, p1, go _ (Ev.step (fun k => spec_l1Primes.l0.eq_2 _ _ _ k) (Ev.pos (by rw [e22]; exact hc) (Ev.neg (by omega) (Ev.neg e2 (Ev.step (fun k => spec_l1Primes.j1.eq_2 _ _ _ k) l3)))))⟩
  · exact ⟨g, [], h2, Int.dvd_refl _, go _ (Ev.step (fun k => spec_l1Primes.l0.eq_2 _ _ _ k) (Ev.neg (by rw [e22]; omega) (Ev.pos (by omega) (Ev.pos (by simp) (Ev.now _)))))⟩
theorem gcd_two {a b : Int} : (((Nat.gcd a.natAbs b.natAbs : Nat) : Int) ∣ a) ∧ (((Nat.gcd a.natAbs b.natAbs : Nat) : Int) ∣ b) :=
  ⟨Int.ofNat_dvd_left.2 (Nat.gcd_dvd_left _ _), Int.ofNat_dvd_left.2 (Nat.gcd_dvd_right _ _)⟩
def TwoOk (a b c p t : Int) : Prop := (p = 1 ∧ t = 0) ∨ (2 ≤ p ∧ ((t = 0 ∧ p ∣ b ∧ p ∣ c) ∨ (t = 1 ∧ p ∣ c ∧ p ∣ a) ∨ (t = 2 ∧ p ∣ a ∧ p ∣ b)))
theorem two_ev (a b c : Int) (a0 : a ≠ 0) (b0 : b ≠ 0) (c0 : c ≠ 0) (ha : a.natAbs ≤ 30000) (hb : b.natAbs ≤ 30000) (hc : c.natAbs ≤ 30000) : ∃ p t : Int, TwoOk a b c p t ∧ Ev (fun k => spec_l5Two.f k [a, b, c]) (p, t) := by
  have one : ∀ (x y : Int) (i t : Int) (f : Nat → Option (Int × Int)), x ≠ 0 → y ≠ 0 → x.natAbs ≤ 30000 → y.natAbs ≤ 30000 → (∃ p : Int, 2 ≤ p ∧ p ∣ x ∧ p ∣ y ∧ Ev (fun k => (spec_l1Gcd.f k x y).bind fun g => (if g > 1 then ((spec_l1Primes.f k g).bind fun l => (if 0 < (l.length : Int) then (some (rd l 0, t)) else (none))) else f k)) (p, t)) ∨
      (∀ R : Int × Int, Ev f R → Ev (fun k => (spec_l1Gcd.f k x y).bind fun g => (if g > 1 then ((spec_l1Primes.f k g).bind fun l => (if 0 < (l.length : Int) then (some (rd l 0, t)) else (none))) else f k)) R) := by
    intro x y i t f hx hy hx1 hy1
    have hg := l1Gcd_ev (a := x) (b := y) (by omega) (by omega) (by omega) (by omega)
    have hle := Nat.gcd_le_left y.natAbs (show 0 < x.natAbs by omega)
    by_cases h : ((Nat.gcd x.natAbs y.natAbs : Nat) : Int) > 1
    · obtain ⟨p, rest, p0, p1, p2⟩ := primes_ev _ (by omega) (show ((Nat.gcd x.natAbs y.natAbs : Nat) : Int) ≤ 30000 by omega)
      exact .inl ⟨p, p0, Int.dvd_trans p1 gcd_two.1, Int.dvd_trans p1 gcd_two.2, Ev.bind hg (Ev.pos h (Ev.bind p2 (Ev.pos (by simp) (Ev.now _))))⟩
    · exact .inr (fun R hR => Ev.bind hg (Ev.neg h hR))
  unfold spec_l5Two.f
  have m2 : Int.tmod (wrap64 (2 + 1)) 3 = 0 ∧ Int.tmod (wrap64 (2 + 2)) 3 = 1 := by rw [w64 (a := (2 : Int) + 1) (by decide) (by decide), w64 (a := (2 : Int) + 2) (by decide) (by decide)]; decide
  have m1 : Int.tmod (wrap64 (1 + 1)) 3 = 2 ∧ Int.tmod (wrap64 (1 + 2)) 3 = 0 := by rw [w64 (a := (1 : Int) + 1) (by decide) (by decide), w64 (a := (1 : Int) + 2) (by decide) (by decide)]; decide
  have m0 : Int.tmod (wrap64 (0 + 1)) 3 = 1 ∧ Int.tmod (wrap64 (0 + 2)) 3 = 2 := by rw [w64 (a := (0 : Int) + 1) (by decide) (by decide), w64 (a := (0 : Int) + 2) (by decide) (by decide)]; decide
  have s2 : ∀ R, Ev (fun k => (spec_l1Gcd.f k a b).bind fun g => (if g > 1 then ((spec_l1Primes.f k g).bind fun l => (if 0 < (l.length : Int) then (some (rd l 0, (2 : Int))) else (none))) else spec_l5Two.l0 k [a, b, c] 1)) R → Ev (fun k => spec_l5Two.l0 k [a, b, c] 2) R := by
    intro R hR
    refine Ev.step (fun k => spec_l5Two.l0.eq_2 _ _ k) ?_
    rw [m2.1, m2.2, w64 (a := (2 : Int) - 1) (by decide) (by decide)]
    exact Ev.pos (by decide) (Ev.pos (by decide) (Ev.pos (by simp) (Ev.pos (by decide) (Ev.pos (by simp) hR))))
  have s1 : ∀ R, Ev (fun k => (spec_l1Gcd.f k c a).bind fun g => (if g > 1 then ((spec_l1Primes.f k g).bind fun l => (if 0 < (l.length : Int) then (some (rd l 0, (1 : Int))) else (none))) else spec_l5Two.l0 k [a, b, c] 0)) R → Ev (fun k => spec_l5Two.l0 k [a, b, c] 1) R := by
    intro R hR
    refine Ev.step (fun k => spec_l5Two.l0.eq_2 _ _ k) ?_
    rw [m1.1, m1.2, w64 (a := (1 : Int) - 1) (by decide) (by decide)]
    exact Ev.pos (by decide) (Ev.pos (by decide) (Ev.pos (by simp) (Ev.pos (by decide) (Ev.pos (by simp) hR))))
  have s0 : ∀ R, Ev (fun k => (spec_l1Gcd.f k b c).bind fun g => (if g > 1 then ((spec_l1Primes.f k g).bind fun l => (if 0 < (l.length : Int) then (some (rd l 0, (0 : Int))) else (none))) else spec_l5Two.l0 k [a, b, c] (-1))) R → Ev (fun k => spec_l5Two.l0 k [a, b, c] 0) R := by
    intro R hR
    refine Ev.step (fun k => spec_l5Two.l0.eq_2 _ _ k) ?_
    rw [m0.1, m0.2, w64 (a := (0 : Int) - 1) (by decide) (by decide)]
    exact Ev.pos (by decide) (Ev.pos (by decide) (Ev.pos (by simp) (Ev.pos (by decide) (Ev.pos (by simp) hR))))
  rcases one a b 0 2 (fun k => spec_l5Two.l0 k [a, b, c] 1) a0 b0 ha hb with ⟨p, p0, p1, p2, p3⟩ | n2
  · exact ⟨p, 2, .inr ⟨p0, .inr (.inr ⟨rfl, p1, p2⟩)⟩, s2 _ p3⟩
  · rcases one c a 0 1 (fun k => spec_l5Two.l0 k [a, b, c] 0) c0 a0 hc ha with ⟨p, p0, p1, p2, p3⟩ | n1
    · exact ⟨p, 1, .inr ⟨p0, .inr (.inl ⟨rfl, p1, p2⟩)⟩, s2 _ (n2 _ (s1 _ p3))⟩
    · rcases one b c 0 0 (fun k => spec_l5Two.l0 k [a, b, c] (-1)) b0 c0 hb hc with ⟨p, p0, p1, p2, p3⟩ | n0
      · exact ⟨p, 0, .inr ⟨p0, .inl ⟨rfl, p1, p2⟩⟩, s2 _ (n2 _ (s1 _ (n1 _ (s0 _ p3))))⟩
      · exact ⟨1, 0, .inl ⟨rfl, rfl⟩, s2 _ (n2 _ (s1 _ (n1 _ (s0 _ (n0 _ (Ev.step (fun k => spec_l5Two.l0.eq_2 _ _ k) (Ev.neg (by decide) (Ev.now _)))))))) ⟩
def Good (x y z t u v : Int) : Prop := x ≠ 0 ∧ y ≠ 0 ∧ z ≠ 0 ∧ 1 ≤ t ∧ 1 ≤ u ∧ 1 ≤ v ∧ t * ((x * (y * z)).natAbs : Int) ≤ 30000 ∧ u * ((x * (y * z)).natAbs : Int) ≤ 30000 ∧ v * ((x * (y * z)).natAbs : Int) ≤ 30000
theorem scaled {q n m : Int} (hq : 2 ≤ q) (hm : m ≠ 0) (h : n = q * m) : m.natAbs < n.natAbs ∧ ((n.natAbs : Nat) : Int) = q * (m.natAbs : Int) := by
  have e : ((n.natAbs : Nat) : Int) = q * (m.natAbs : Int) := by
    rw [h, Int.natAbs_mul, Int.natCast_mul, Int.natAbs_of_nonneg (show 0 ≤ q by omega)]
  refine ⟨?_, e⟩
  have := Int.mul_le_mul_of_nonneg_right hq (show 0 ≤ (m.natAbs : Int) by omega)
  omega
theorem good_time {t t' q : Int} {a b : Nat} (ht : 1 ≤ t) (hq : 2 ≤ q) (h : (a : Int) = q * (b : Int)) (h1 : t * (a : Int) ≤ 30000) (h2 : t' = t ∨ t' = t * q) : 1 ≤ t' ∧ t' * (b : Int) ≤ 30000 := by
  rcases h2 with rfl | rfl
  · refine ⟨ht, ?_⟩
    have := Int.mul_le_mul_of_nonneg_left (show (b : Int) ≤ (a : Int) by
      rw [h]; have := Int.mul_le_mul_of_nonneg_right (show 1 ≤ q by omega) (show 0 ≤ (b : Int) by omega); omega) (show 0 ≤ t' by omega)
    omega
  · refine ⟨?_, ?_⟩
    · have := Int.mul_pos (show 0 < t by omega) (show 0 < q by omega); omega
    · rw [Int.mul_assoc, ← h]; exact h1
theorem good_of {x y z t u v x' y' z' t' u' v' q : Int} (h : Good x y z t u v) (hx : x' ≠ 0) (hy : y' ≠ 0) (hz : z' ≠ 0) (hq : 2 ≤ q) (e : x * (y * z) = q * (x' * (y' * z')))
    (ht : t' = t ∨ t' = t * q) (hu : u' = u ∨ u' = u * q) (hv : v' = v ∨ v' = v * q) : Good x' y' z' t' u' v' ∧ (x' * (y' * z')).natAbs < (x * (y * z)).natAbs := by
  obtain ⟨h1, h2, h3, h4, h5, h6, h7, h8, h9⟩ := h
  have s := scaled hq (Int.mul_ne_zero hx (Int.mul_ne_zero hy hz)) e
  have a := good_time h4 hq s.2 h7 ht
  have b := good_time h5 hq s.2 h8 hu
  have c := good_time h6 hq s.2 h9 hv
  exact ⟨⟨hx, hy, hz, a.1, b.1, c.1, a.2, b.2, c.2⟩, s.1⟩
theorem nat3 {x y z : Int} (hx : x ≠ 0) (hy : y ≠ 0) (hz : z ≠ 0) : x.natAbs ≤ (x * (y * z)).natAbs ∧ y.natAbs ≤ (x * (y * z)).natAbs ∧ z.natAbs ≤ (x * (y * z)).natAbs ∧
    (x * y).natAbs ≤ (x * (y * z)).natAbs ∧ (y * z).natAbs ≤ (x * (y * z)).natAbs ∧ (x * z).natAbs ≤ (x * (y * z)).natAbs := by
  have m : ∀ a b : Nat, b ≠ 0 → a ≤ a * b := fun a b h => Nat.le_mul_of_pos_right a (by omega)
  have a := Int.natAbs_ne_zero.2 hx
  have b := Int.natAbs_ne_zero.2 hy
  have c := Int.natAbs_ne_zero.2 hz
  simp only [Int.natAbs_mul]
  generalize x.natAbs = X at *
  generalize y.natAbs = Y at *
  generalize z.natAbs = Z at *
  refine ⟨m _ _ (Nat.mul_ne_zero b c), ?_, ?_, ?_, ?_, ?_⟩
  · rw [show X * (Y * Z) = Y * (X * Z) by ac_rfl]; exact m _ _ (Nat.mul_ne_zero a c)
  · rw [show X * (Y * Z) = Z * (X * Y) by ac_rfl]; exact m _ _ (Nat.mul_ne_zero a b)
  · rw [show X * (Y * Z) = X * Y * Z by ac_rfl]; exact m _ _ c
  · rw [show X * (Y * Z) = Y * Z * X by ac_rfl]; exact m _ _ a
  · rw [show X * (Y * Z) = X * Z * Y by ac_rfl]; exact m _ _ b
theorem good_bd {x y z t u v : Int} (h : Good x y z t u v) : (x * (y * z)).natAbs ≤ 30000 ∧ 1 ≤ t ∧ t ≤ 30000 ∧ 1 ≤ u ∧ u ≤ 30000 ∧ 1 ≤ v ∧ v ≤ 30000 := by
  obtain ⟨h1, h2, h3, h4, h5, h6, h7, h8, h9⟩ := h
  have p := Int.natAbs_ne_zero.2 (Int.mul_ne_zero h1 (Int.mul_ne_zero h2 h3))
  have one : ∀ (w : Int) (n : Nat), n ≠ 0 → 1 ≤ w → w * (n : Int) ≤ 30000 → n ≤ 30000 ∧ w ≤ 30000 := fun w n hn hw h => by
    have a := Int.mul_le_mul_of_nonneg_left (show (1 : Int) ≤ (n : Int) by omega) (show 0 ≤ w by omega)
    have b := Int.mul_le_mul_of_nonneg_right hw (show 0 ≤ (n : Int) by omega)
    omega
  have a := one t _ p h4 h7
  have b := one u _ p h5 h8
  have c := one v _ p h6 h9
  omega
theorem normal_l : ∀ (N : Nat) (x y z t u v p i : Int), Good x y z t u v → TwoOk x y z p i → (x * (y * z)).natAbs ≤ N →
    ∃ x' y' z' t' u' v' : Int, Good x' y' z' t' u' v' ∧ Ev (fun k => spec_l5Normal.l1 k [x, y, z] [t, u, v] p i) ([x', y', z'], [t', u', v']) := by
  intro N
  induction N with
  | zero => intro x y z t u v p i hG _ hN; exact absurd (Nat.le_zero.1 hN) (Int.natAbs_ne_zero.2 (Int.mul_ne_zero hG.1 (Int.mul_ne_zero hG.2.1 hG.2.2.1)))
  | succ N ih =>
    intro x y z t u v p i hG hT hN
    obtain ⟨x0, y0, z0, t0, u0, v0, _, _, _⟩ := id hG
    have n3 := nat3 x0 y0 z0
    have gb := good_bd hG
    have m2 : Int.tmod (wrap64 (2 + 1)) 3 = 0 ∧ Int.tmod (wrap64 (2 + 2)) 3 = 1 := by rw [w64 (a := (2 : Int) + 1) (by decide) (by decide), w64 (a := (2 : Int) + 2) (by decide) (by decide)]; decide
    have m1 : Int.tmod (wrap64 (1 + 1)) 3 = 2 ∧ Int.tmod (wrap64 (1 + 2)) 3 = 0 := by rw [w64 (a := (1 : Int) + 1) (by decide) (by decide), w64 (a := (1 : Int) + 2) (by decide) (by decide)]; decide
    have m0 : Int.tmod (wrap64 (0 + 1)) 3 = 1 ∧ Int.tmod (wrap64 (0 + 2)) 3 = 2 := by rw [w64 (a := (0 : Int) + 1) (by decide) (by decide), w64 (a := (0 : Int) + 2) (by decide) (by decide)]; decide
    have cut : ∀ {a : Int}, a ≠ 0 → a.natAbs ≤ 30000 → 2 ≤ p → p ∣ a → ∃ b, a = p * b ∧ b ≠ 0 ∧ wrap64 (Int.tdiv a p) = b := by
      intro a a0 ab hp hd
      obtain ⟨b, b1, b2, b3, b4⟩ := tdiv_exact hp a0 (Int.tmod_eq_zero_of_dvd hd)
      exact ⟨b, b1, b3, by rw [b2, w64 (by omega) (by omega)]⟩
    have next : ∀ {x' y' z' t' u' v' : Int}, Good x' y' z' t' u' v' → (x' * (y' * z')).natAbs < (x * (y * z)).natAbs → ∃ a b c d e f : Int, Good a b c d e f ∧
        Ev (fun k => (spec_l5Two.f k [x', y', z']).bind fun bt => spec_l5Normal.l1 k [x', y', z'] [t', u', v'] bt.1 bt.2) ([a, b, c], [d, e, f]) := by
      intro x' y' z' t' u' v' hG' hlt
      have gb' := good_bd hG'
      have n3' := nat3 hG'.1 hG'.2.1 hG'.2.2.1
      obtain ⟨p', i', hT', hE⟩ := two_ev x' y' z' hG'.1 hG'.2.1 hG'.2.2.1 (by omega) (by omega) (by omega)
      obtain ⟨a, b, c, d, e, f, h1, h2⟩ := ih x' y' z' t' u' v' p' i' hG' hT' (by omega)
      exact ⟨a, b, c, d, e, f, h1, Ev.bind hE h2⟩
    have up : ∀ {a b : Int}, a ≠ 0 → a.natAbs ≤ 30000 → b ∣ a → 2 ≤ b → b ≤ 30000 := by
      intro a b a0 ab hd hb
      have := Int.le_of_dvd (b := (a.natAbs : Int)) (by omega) (Int.dvd_natAbs.2 hd); omega
    have p3 : 2 ≤ p → 2 ≤ p * p * p := by
      intro hp
      have a := Int.mul_le_mul hp hp (by omega) (show (0 : Int) ≤ p by omega)
      have b := Int.mul_le_mul a hp (by omega) (show (0 : Int) ≤ p * p by omega)
      omega
    have mw : ∀ {a : Int}, a.natAbs ≤ 30000 → 2 ≤ p → p ≤ 30000 → wrap64 (a * p) = a * p := by
      intro a ha h2 h3
      have := mul2_bd (a := a) (b := p) (A := 30000) (B := 30000) (by omega) (by omega)
      exact w64 (by omega) (by omega)
    rcases hT with ⟨rfl, rfl⟩ | ⟨hp, ⟨rfl, d1, d2⟩ | ⟨rfl, d1, d2⟩ | ⟨rfl, d1, d2⟩⟩
    · exact ⟨x, y, z, t, u, v, hG, Ev.step (fun k => spec_l5Normal.l1.eq_2 _ _ _ _ k) (Ev.neg (by omega) (Ev.now _))⟩
    · obtain ⟨y', ey, y0', ey2⟩ := cut y0 (by omega) hp d1
      obtain ⟨z', ez, z0', ez2⟩ := cut z0 (by omega) hp d2
      have hp3 := up y0 (by omega) d1 hp
      by_cases e : Int.tmod x p = 0
      · obtain ⟨x', ex, x0', ex2⟩ := cut x0 (by omega) hp (Int.dvd_of_tmod_eq_zero e)
        have g := good_of (q := p * p * p) hG x0' y0' z0' (p3 hp) (by rw [ex, ey, ez]; ac_rfl) (.inl rfl) (.inl rfl) (.inl rfl)
        obtain ⟨a, b, c, d, f, h, h1, h2⟩ := next g.1 g.2
        refine ⟨a, b, c, d, f, h, h1, Ev.step (fun k => spec_l5Normal.l1.eq_2 _ _ _ _ k) ?_⟩
        rw [m0.1, m0.2]
        rw [← ex2, ← ey2, ← ez2] at h2
        exact Ev.pos (by omega) (Ev.pos (by decide) (Ev.pos (by simp) (Ev.neg (by omega) (Ev.bind0 rfl (Ev.pos (by decide) (Ev.pos (by simp) (Ev.bind0 rfl (Ev.pos (by decide) (Ev.pos (by simp) (Ev.pos (show Int.tmod x p = 0 from e) (Ev.bind0 rfl h2)))))))))))
      · have g := good_of (x' := x * p) (t' := t * p) (q := p) hG (Int.mul_ne_zero x0 (by omega)) y0' z0' hp (by rw [ey, ez]; ac_rfl) (.inr rfl) (.inl rfl) (.inl rfl)
        obtain ⟨a, b, c, d, f, h, h1, h2⟩ := next g.1 g.2
        refine ⟨a, b, c, d, f, h, h1, Ev.step (fun k => spec_l5Normal.l1.eq_2 _ _ _ _ k) ?_⟩
        rw [m0.1, m0.2]
        rw [← mw (a := x) (by omega) hp hp3, ← mw (a := t) (by omega) hp hp3, ← ey2, ← ez2] at h2
        exact Ev.pos (by omega) (Ev.pos (by decide) (Ev.pos (by simp) (Ev.neg (by omega) (Ev.bind0 rfl (Ev.pos (by decide) (Ev.pos (by simp) (Ev.bind0 rfl (Ev.pos (by decide) (Ev.pos (by simp) (Ev.neg (show ¬ Int.tmod x p = 0 from e) (Ev.bind0 rfl (Ev.pos (by simp) h2))))))))))))
    · obtain ⟨z', ez, z0', ez2⟩ := cut z0 (by omega) hp d1
      obtain ⟨x', ex, x0', ex2⟩ := cut x0 (by omega) hp d2
      have hp3 := up z0 (by omega) d1 hp
      by_cases e : Int.tmod y p = 0
      · obtain ⟨y', ey, y0', ey2⟩ := cut y0 (by omega) hp (Int.dvd_of_tmod_eq_zero e)
        have g := good_of (q := p * p * p) hG x0' y0' z0' (p3 hp) (by rw [ex, ey, ez]; ac_rfl) (.inl rfl) (.inl rfl) (.inl rfl)
        obtain ⟨a, b, c, d, f, h, h1, h2⟩ := next g.1 g.2
        refine ⟨a, b, c, d, f, h, h1, Ev.step (fun k => spec_l5Normal.l1.eq_2 _ _ _ _ k) ?_⟩
        rw [m1.1, m1.2]
        rw [← ex2, ← ey2, ← ez2] at h2
        exact Ev.pos (by omega) (Ev.pos (by decide) (Ev.pos (by simp) (Ev.neg (by omega) (Ev.bind0 rfl (Ev.pos (by decide) (Ev.pos (by simp) (Ev.bind0 rfl (Ev.pos (by decide) (Ev.pos (by simp) (Ev.pos (show Int.tmod y p = 0 from e) (Ev.bind0 rfl h2)))))))))))
      · have g := good_of (y' := y * p) (u' := u * p) (q := p) hG x0' (Int.mul_ne_zero y0 (by omega)) z0' hp (by rw [ex, ez]; ac_rfl) (.inl rfl) (.inr rfl) (.inl rfl)
        obtain ⟨a, b, c, d, f, h, h1, h2⟩ := next g.1 g.2
        refine ⟨a, b, c, d, f, h, h1, Ev.step (fun k => spec_l5Normal.l1.eq_2 _ _ _ _ k) ?_⟩
        rw [m1.1, m1.2]
        rw [← mw (a := y) (by omega) hp hp3, ← mw (a := u) (by omega) hp hp3, ← ex2, ← ez2] at h2
        exact Ev.pos (by omega) (Ev.pos (by decide) (Ev.pos (by simp) (Ev.neg (by omega) (Ev.bind0 rfl (Ev.pos (by decide) (Ev.pos (by simp) (Ev.bind0 rfl (Ev.pos (by decide) (Ev.pos (by simp) (Ev.neg (show ¬ Int.tmod y p = 0 from e) (Ev.bind0 rfl (Ev.pos (by simp) h2))))))))))))
    · obtain ⟨x', ex, x0', ex2⟩ := cut x0 (by omega) hp d1
      obtain ⟨y', ey, y0', ey2⟩ := cut y0 (by omega) hp d2
      have hp3 := up x0 (by omega) d1 hp
      by_cases e : Int.tmod z p = 0
      · obtain ⟨z', ez, z0', ez2⟩ := cut z0 (by omega) hp (Int.dvd_of_tmod_eq_zero e)
        have g := good_of (q := p * p * p) hG x0' y0' z0' (p3 hp) (by rw [ex, ey, ez]; ac_rfl) (.inl rfl) (.inl rfl) (.inl rfl)
        obtain ⟨a, b, c, d, f, h, h1, h2⟩ := next g.1 g.2
        refine ⟨a, b, c, d, f, h, h1, Ev.step (fun k => spec_l5Normal.l1.eq_2 _ _ _ _ k) ?_⟩
        rw [m2.1, m2.2]
        rw [← ex2, ← ey2, ← ez2] at h2
        exact Ev.pos (by omega) (Ev.pos (by decide) (Ev.pos (by simp) (Ev.neg (by omega) (Ev.bind0 rfl (Ev.pos (by decide) (Ev.pos (by simp) (Ev.bind0 rfl (Ev.pos (by decide) (Ev.pos (by simp) (Ev.pos (show Int.tmod z p = 0 from e) (Ev.bind0 rfl h2)))))))))))
      · have g := good_of (z' := z * p) (v' := v * p) (q := p) hG x0' y0' (Int.mul_ne_zero z0 (by omega)) hp (by rw [ex, ey]; ac_rfl) (.inl rfl) (.inl rfl) (.inr rfl)
        obtain ⟨a, b, c, d, f, h, h1, h2⟩ := next g.1 g.2
        refine ⟨a, b, c, d, f, h, h1, Ev.step (fun k => spec_l5Normal.l1.eq_2 _ _ _ _ k) ?_⟩
        rw [m2.1, m2.2]
        rw [← mw (a := z) (by omega) hp hp3, ← mw (a := v) (by omega) hp hp3, ← ex2, ← ey2] at h2
        exact Ev.pos (by omega) (Ev.pos (by decide) (Ev.pos (by simp) (Ev.neg (by omega) (Ev.bind0 rfl (Ev.pos (by decide) (Ev.pos (by simp) (Ev.bind0 rfl (Ev.pos (by decide) (Ev.pos (by simp) (Ev.neg (show ¬ Int.tmod z p = 0 from e) (Ev.bind0 rfl (Ev.pos (by simp) h2))))))))))))
theorem normal_ev (a b c : Int) (a0 : a ≠ 0) (b0 : b ≠ 0) (c0 : c ≠ 0) (ha : a.natAbs ≤ 31) (hb : b.natAbs ≤ 31) (hc : c.natAbs ≤ 31) : ∃ x y z t u v : Int, Good x y z t u v ∧ Ev (fun k => spec_l5Normal.f k [a, b, c]) ([x, y, z], [t, u, v]) := by
  obtain ⟨x, r, x0, x1, r0, r1, hx⟩ := core_ev a a0 (by omega)
  obtain ⟨y, s, y0, y1, s0, s1, hy⟩ := core_ev b b0 (by omega)
  obtain ⟨z, q, z0, z1, q0, q1, hz⟩ := core_ev c c0 (by omega)
  have lim : ∀ {w m : Int} {n : Nat}, m ≠ 0 → 1 ≤ w → n ≤ 31 → w * (m.natAbs : Int) ≤ (n : Int) → w ≤ 31 := by
    intro w m n hm hw hn h
    have := Int.mul_le_mul_of_nonneg_left (show (1 : Int) ≤ (m.natAbs : Int) by omega) (show 0 ≤ w by omega)
    omega
  have rb := lim x0 r0 ha r1
  have sb := lim y0 s0 hb s1
  have qb := lim z0 q0 hc q1
  have m2 : Int.tmod (wrap64 (2 + 1)) 3 = 0 ∧ Int.tmod (wrap64 (2 + 2)) 3 = 1 := by rw [w64 (a := (2 : Int) + 1) (by decide) (by decide), w64 (a := (2 : Int) + 2) (by decide) (by decide)]; decide
  have m1 : Int.tmod (wrap64 (1 + 1)) 3 = 2 ∧ Int.tmod (wrap64 (1 + 2)) 3 = 0 := by rw [w64 (a := (1 : Int) + 1) (by decide) (by decide), w64 (a := (1 : Int) + 2) (by decide) (by decide)]; decide
  have m0 : Int.tmod (wrap64 (0 + 1)) 3 = 1 ∧ Int.tmod (wrap64 (0 + 2)) 3 = 2 := by rw [w64 (a := (0 : Int) + 1) (by decide) (by decide), w64 (a := (0 : Int) + 2) (by decide) (by decide)]; decide
  have p3 : ∀ {A B C : Int}, 0 ≤ A → A ≤ 31 → 0 ≤ B → B ≤ 31 → 0 ≤ C → C ≤ 31 → A * (B * C) ≤ 29791 := by
    intro A B C h1 h2 h3 h4 h5 h6
    have a := Int.mul_le_mul h4 h6 h5 (show (0 : Int) ≤ 31 by omega)
    have b := Int.mul_le_mul h2 a (Int.mul_nonneg h3 h5) (show (0 : Int) ≤ 31 by omega)
    omega
  have nb : ∀ {w m : Int}, 1 ≤ w → 0 ≤ w * (m.natAbs : Int) := fun h => Int.mul_nonneg (by omega) (by omega)
  have p1 : ∀ {w m : Int}, 1 ≤ w → 1 ≤ m → 1 ≤ w * m := fun {w m} h h' => by have := Int.mul_pos (show 0 < w by omega) (show 0 < m by omega); omega
  have p2 : ∀ {w m : Int}, 1 ≤ w → 1 ≤ m → w ≤ 31 → m ≤ 31 → wrap64 (w * m) = w * m := fun {w m} h h' k k' => by
    have := mul2_bd (a := w) (b := m) (A := 31) (B := 31) (by omega) (by omega); exact w64 (by omega) (by omega)
  have hG : Good x y z (s * q) (r * q) (r * s) := by
    refine ⟨x0, y0, z0, p1 s0 q0, p1 r0 q0, p1 r0 s0, ?_, ?_, ?_⟩
    · have := p3 (A := (x.natAbs : Int)) (B := s * (y.natAbs : Int)) (C := q * (z.natAbs : Int)) (by omega) (by omega) (nb s0) (by omega) (nb q0) (by omega)
      rw [Int.natAbs_mul, Int.natAbs_mul, Int.natCast_mul, Int.natCast_mul, show s * q * ((x.natAbs : Int) * ((y.natAbs : Int) * (z.natAbs : Int))) = (x.natAbs : Int) * (s * (y.natAbs : Int) * (q * (z.natAbs : Int))) by ac_rfl]; omega
    · have := p3 (A := (y.natAbs : Int)) (B := r * (x.natAbs : Int)) (C := q * (z.natAbs : Int)) (by omega) (by omega) (nb r0) (by omega) (nb q0) (by omega)
      rw [Int.natAbs_mul, Int.natAbs_mul, Int.natCast_mul, Int.natCast_mul, show r * q * ((x.natAbs : Int) * ((y.natAbs : Int) * (z.natAbs : Int))) = (y.natAbs : Int) * (r * (x.natAbs : Int) * (q * (z.natAbs : Int))) by ac_rfl]; omega
    · have := p3 (A := (z.natAbs : Int)) (B := r * (x.natAbs : Int)) (C := s * (y.natAbs : Int)) (by omega) (by omega) (nb r0) (by omega) (nb s0) (by omega)
      rw [Int.natAbs_mul, Int.natAbs_mul, Int.natCast_mul, Int.natCast_mul, show r * s * ((x.natAbs : Int) * ((y.natAbs : Int) * (z.natAbs : Int))) = (z.natAbs : Int) * (r * (x.natAbs : Int) * (s * (y.natAbs : Int))) by ac_rfl]; omega
  obtain ⟨p, i, hT, h2⟩ := two_ev x y z x0 y0 z0 (by omega) (by omega) (by omega)
  obtain ⟨a', b', c', d', e', f', hG', h3⟩ := normal_l _ x y z _ _ _ p i hG hT (Nat.le_refl _)
  refine ⟨a', b', c', d', e', f', hG', ?_⟩
  unfold spec_l5Normal.f
  refine Ev.step (fun k => spec_l5Normal.l0.eq_2 _ _ _ _ k) ?_
  rw [m0.1, m0.2, w64 (a := (0 : Int) + 1) (by decide) (by decide)]
  refine Ev.pos (by decide) (Ev.pos (by decide) (Ev.pos (by simp) (Ev.bind (show Ev (fun k => spec_l1Core.f k (rd [a, b, c] 0)) (x, r) from hx) (Ev.pos (by simp) (Ev.pos (by decide) (Ev.pos (by simp) (Ev.bind0 rfl (Ev.pos (by decide) (Ev.pos (by simp) ?_)))))))))
  show Ev (fun k => spec_l5Normal.l0 k [a, b, c] [x] [1, wrap64 (1 * r), wrap64 (1 * r)] 1) _
  rw [p2 (by omega) r0 (by omega) rb, Int.one_mul]
  refine Ev.step (fun k => spec_l5Normal.l0.eq_2 _ _ _ _ k) ?_
  rw [m1.1, m1.2, w64 (a := (1 : Int) + 1) (by decide) (by decide)]
  refine Ev.pos (by decide) (Ev.pos (by decide) (Ev.pos (by simp) (Ev.bind (show Ev (fun k => spec_l1Core.f k (rd [a, b, c] 1)) (y, s) from hy) (Ev.pos (by simp) (Ev.pos (by decide) (Ev.pos (by simp) (Ev.bind0 rfl (Ev.pos (by decide) (Ev.pos (by simp) ?_)))))))))
  show Ev (fun k => spec_l5Normal.l0 k [a, b, c] [x, y] [wrap64 (1 * s), r, wrap64 (r * s)] 2) _
  rw [p2 (by omega) s0 (by omega) sb, p2 r0 s0 rb sb, Int.one_mul]
  refine Ev.step (fun k => spec_l5Normal.l0.eq_2 _ _ _ _ k) ?_
  rw [m2.1, m2.2, w64 (a := (2 : Int) + 1) (by decide) (by decide)]
  refine Ev.pos (by decide) (Ev.pos (by decide) (Ev.pos (by simp) (Ev.bind (show Ev (fun k => spec_l1Core.f k (rd [a, b, c] 2)) (z, q) from hz) (Ev.pos (by simp) (Ev.pos (by decide) (Ev.pos (by simp) (Ev.bind0 rfl (Ev.pos (by decide) (Ev.pos (by simp) ?_)))))))))
  show Ev (fun k => spec_l5Normal.l0 k [a, b, c] [x, y, z] [wrap64 (s * q), wrap64 (r * q), r * s] 3) _
  rw [p2 s0 q0 sb qb, p2 r0 q0 rb qb]
  exact Ev.step (fun k => spec_l5Normal.l0.eq_2 _ _ _ _ k) (Ev.neg (by decide) (Ev.bind h2 h3))
theorem l5Root_l (n : Int) : ∀ (d : Nat) (lo hi : Int), 0 ≤ lo → lo ≤ hi → hi ≤ 1048576 → hi - lo ≤ d → (∀ s : Int, 0 ≤ s → s < lo → s * s < n) → n ≤ hi * hi →
    ∃ r : Int, ((0 ≤ r ∧ r ≤ 1048576 ∧ r * r = n) ∨ (r = -1 ∧ ∀ s : Int, 0 ≤ s → s * s ≠ n)) ∧ Ev (fun j => spec_l5Root.l0 j n lo hi) r := by
  intro d
  induction d with
  | zero =>
    intro lo hi h0 h1 h2 h3 h4 h5
    obtain rfl : lo = hi := by omega
    have hb : lo * lo ≤ 1048576 * 1048576 := Int.mul_le_mul h2 h2 h0 (by omega)
    have hb0 := Int.mul_nonneg h0 h0
    by_cases e : lo * lo = n
    · exact ⟨lo, .inl ⟨h0, h2, e⟩, Ev.step (fun j => spec_l5Root.l0.eq_2 _ _ _ j) (Ev.neg (by omega) (Ev.pos (by rw [w64 (by omega) (by omega)]; exact e) (Ev.now _)))⟩
    · refine ⟨-1, .inr ⟨rfl, fun s hs he => ?_⟩, Ev.step (fun j => spec_l5Root.l0.eq_2 _ _ _ j) (Ev.neg (by omega) (Ev.neg (by rw [w64 (by omega) (by omega)]; exact e) (Ev.now _)))⟩
      rcases (by omega : s < lo ∨ lo ≤ s) with h6 | h6
      · have := h4 s hs h6; omega
      · have := Int.mul_le_mul h6 h6 h0 hs
        omega
  | succ d ih =>
    intro lo hi h0 h1 h2 h3 h4 h5
    by_cases hlt : lo < hi
    · have em : wrap64 (Int.tdiv (wrap64 (lo + hi)) 2) = (lo + hi) / 2 := by
        rw [w64 (a := lo + hi) (by omega) (by omega), Int.tdiv_eq_ediv_of_nonneg (by omega)]; exact w64 (by omega) (by omega)
      obtain ⟨m, hm⟩ : ∃ m : Int, m = (lo + hi) / 2 := ⟨_, rfl⟩
      rw [← hm] at em
      have hmb : m * m ≤ 1048576 * 1048576 := Int.mul_le_mul (by omega) (by omega) (by omega) (by omega)
      have hmb0 := Int.mul_nonneg (show 0 ≤ m by omega) (show 0 ≤ m by omega)
      have em2 : wrap64 (m * m) = m * m := w64 (by omega) (by omega)
      by_cases hc : m * m < n
      · obtain ⟨r, r0, r1⟩ := ih (m + 1) hi (by omega) (by omega) h2 (by omega) (fun s hs hs1 => by
          have := Int.mul_le_mul (show s ≤ m by omega) (show s ≤ m by omega) hs (by omega)
          omega) h5
        refine ⟨r, r0, Ev.step (fun j => spec_l5Root.l0.eq_2 _ _ _ j) (Ev.pos hlt (Ev.pos (by rw [em, em2]; exact hc) ?_))⟩
        rw [em, w64 (by omega) (by omega)]; exact r1
      · obtain ⟨r, r0, r1⟩ := ih lo m h0 (by omega) (by omega) (by omega) h4 (by omega)
        refine ⟨r, r0, Ev.step (fun j => spec_l5Root.l0.eq_2 _ _ _ j) (Ev.pos hlt (Ev.neg (by rw [em, em2]; exact hc) ?_))⟩
        rw [em]; exact r1
    · exact ih lo hi h0 h1 h2 (by omega) h4 h5
theorem l5Root_ev (n : Int) (hn : n ≤ 1099511627776) : ∃ r : Int, ((0 ≤ r ∧ r ≤ 1048576 ∧ r * r = n) ∨ (r = -1 ∧ ∀ s : Int, 0 ≤ s → s * s ≠ n)) ∧ Ev (fun j => spec_l5Root.f j n) r := by
  unfold spec_l5Root.f
  exact l5Root_l n 1048576 0 1048576 (by omega) (by omega) (by omega) (by omega) (by omega) (by omega)
theorem l5Plain_1 (v : List Int) (g : Nat) (hg : g ≠ 0) (s : Int) (hs : s = 1 ∨ s = -1) (hn : v.length ≤ 1000000) (ht : ∀ x ∈ v, -9000000000000000000 ≤ x ∧ x ≤ 9000000000000000000) : ∀ (m i : Nat), i + m = v.length →
    Ev (fun k => spec_l5Plain.l1 k v (g : Int) s ((v.take i).map (fun x => Int.tdiv x (s * g))) (i : Int)) (v.map (fun x => Int.tdiv x (s * g))) := by
  intro m
  induction m with
  | zero =>
    intro i h
    exact Ev.step (fun k => spec_l5Plain.l1.eq_2 _ _ _ _ _ k) (Ev.neg (by omega) (Ev.nows (by rw [List.take_of_length_le (by omega)])))
  | succ m ih =>
    intro i h
    have hi : i < v.length := by omega
    have b := ht _ (rd_mem hi)
    have e1 : Int.tdiv (s * rd v (i : Int)) (g : Int) = Int.tdiv (rd v (i : Int)) (s * g) := by
      rcases hs with rfl | rfl
      · rw [Int.one_mul, Int.one_mul]
      · rw [show (-1 : Int) * rd v (i : Int) = -rd v (i : Int) by omega, show (-1 : Int) * (g : Int) = -(g : Int) by omega, Int.neg_tdiv, Int.tdiv_neg]
    have e2 : -9000000000000000000 ≤ s * rd v (i : Int) ∧ s * rd v (i : Int) ≤ 9000000000000000000 := by rcases hs with rfl | rfl <;> omega
    have hq : (Int.tdiv (s * rd v (i : Int)) (g : Int)).natAbs ≤ (s * rd v (i : Int)).natAbs := by rw [Int.natAbs_tdiv]; exact Nat.div_le_self _ _
    have hc : ((v.take i).map (fun x => Int.tdiv x (s * g))).length = i := by rw [List.length_map, List.length_take]; omega
    refine Ev.step (fun k => spec_l5Plain.l1.eq_2 _ _ _ _ _ k) (Ev.pos (by omega) (Ev.pos (by omega) (Ev.neg (by omega) (Ev.pos (by omega) ?_))))
    rw [w64s (by omega), w64 (a := s * rd v (i : Int)) (by omega) (by omega), w64 (a := Int.tdiv _ _) (by omega) (by omega), e1]
    have e : (v.take i).map (fun x => Int.tdiv x (s * g)) ++ [Int.tdiv (rd v (i : Int)) (s * g)] = (v.take (i + 1)).map (fun x => Int.tdiv x (s * g)) := by
      rw [List.take_succ_eq_append_getElem hi, List.map_append, rd_at, List.getD_eq_getElem?_getD, List.getElem?_eq_getElem hi]; rfl
    rw [e]
    exact ih (i + 1) (by omega)
theorem l5Plain_0 (v : List Int) (h0 : some0 v = true) (hn : v.length ≤ 1000000) (ht : ∀ x ∈ v, -9000000000000000000 ≤ x ∧ x ≤ 9000000000000000000) : ∀ (m i : Nat) (g : Nat) (s : Int) (first : Bool), i + m = v.length → g ≤ 9000000000000000000 → gcdL g (v.drop i) = gcdL 0 v →
    (first = true → s = 1 ∧ sgn1 (v.drop i) = sgn1 v) → (first = false → s = sgn1 v) → Ev (fun k => spec_l5Plain.l0 k v (g : Int) s first (i : Int)) (plainL v) := by
  have hg : gcdL 0 v ≠ 0 := fun k => by rw [gcdL_zero, h0] at k; cases k
  intro m
  induction m with
  | zero =>
    intro i g s first h _ he h1 h2
    rw [List.drop_of_length_le (by omega)] at he h1
    refine Ev.step (fun k => spec_l5Plain.l0.eq_2 _ _ _ _ _ k) (Ev.neg (by omega) ?_)
    have es : s = sgn1 v := by
      cases first with
      | true => have := h1 rfl; rw [this.1, ← this.2]; rfl
      | false => exact h2 rfl
    rw [es, show g = gcdL 0 v from he]
    have := l5Plain_1 v (gcdL 0 v) hg (sgn1 v) (sgn1_cases v) hn ht v.length 0 (by omega)
    unfold plainL
    simpa using this
  | succ m ih =>
    intro i g s first h hgb he h1 h2
    have hi : i < v.length := by omega
    have b := ht _ (rd_mem hi)
    rw [drop_rd hi] at he h1
    refine Ev.step (fun k => spec_l5Plain.l0.eq_2 _ _ _ _ _ k) (Ev.pos (by omega) (Ev.pos (by omega) (Ev.bind (l1Gcd_ev (by omega) (by omega) (by omega) (by omega)) ?_)))
    have hb2 : Nat.gcd g (rd v (i : Int)).natAbs ≤ 9000000000000000000 := by
      rcases Nat.eq_zero_or_pos g with rfl | hp
      · rw [Nat.gcd_zero_left]; omega
      · have := Nat.gcd_le_left (rd v (i : Int)).natAbs hp; omega
    rw [show ((g : Int)).natAbs = g from rfl]
    have he2 : gcdL (Nat.gcd g (rd v (i : Int)).natAbs) (v.drop (i + 1)) = gcdL 0 v := by rw [← he]; rfl
    by_cases hz : rd v (i : Int) = 0
    · refine Ev.pos hz (Ev.step (fun k => spec_l5Plain.j1.eq_2 _ _ _ _ _ _ k) (Ev.neg (by simp) ?_))
      rw [w64s (by omega)]
      refine ih (i + 1) _ s first (by omega) hb2 he2 (fun k => ?_) h2
      have := h1 k
      rw [sgn1, if_pos hz] at this; exact this
    · refine Ev.neg hz (Ev.step (fun k => spec_l5Plain.j1.eq_2 _ _ _ _ _ _ k) ?_)
      cases first with
      | true =>
        obtain ⟨s1, s2⟩ := h1 rfl
        rw [sgn1, if_neg hz] at s2
        refine Ev.pos rfl (Ev.pos (by omega) (Ev.pos (by omega) ?_))
        rw [w64s (by omega)]
        by_cases hneg : rd v (i : Int) < 0
        · rw [if_pos hneg] at s2
          exact Ev.pos hneg (ih (i + 1) _ (-1) false (by omega) hb2 he2 (fun k => by cases k) (fun _ => s2))
        · rw [if_neg hneg] at s2
          exact Ev.neg hneg (ih (i + 1) _ s false (by omega) hb2 he2 (fun k => by cases k) (fun _ => by rw [s1]; exact s2))
      | false =>
        refine Ev.neg (by simp) ?_
        rw [w64s (by omega)]
        exact ih (i + 1) _ s false (by omega) hb2 he2 (fun k => by cases k) h2
theorem l5Plain_ev (v : List Int) (h0 : some0 v = true) (hn : v.length ≤ 1000000) (ht : ∀ x ∈ v, -9000000000000000000 ≤ x ∧ x ≤ 9000000000000000000) : Ev (fun k => spec_l5Plain.f k v) (plainL v) := by
  unfold spec_l5Plain.f
  exact l5Plain_0 v h0 hn ht v.length 0 0 1 true (by omega) (by omega) rfl (fun _ => ⟨rfl, rfl⟩) (fun k => by cases k)
def Found (R : List Int × Bool) : Prop := R = ([], false) ∨ ∃ x y r : Int, 0 ≤ x ∧ x ≤ 200 ∧ 0 ≤ y ∧ y ≤ 200 ∧ 0 ≤ r ∧ r ≤ 1048576 ∧ (x ≠ 0 ∨ y ≠ 0) ∧ R = ([x, y, r], true)
theorem abs_mul_bd {a x : Int} {A B : Nat} (h : a.natAbs ≤ A) (h1 : x.natAbs ≤ B) : (a * x).natAbs ≤ A * B := by rw [Int.natAbs_mul]; exact Nat.mul_le_mul h h1
theorem lessen {x y : Int} {N : Nat} (h0 : 0 ≤ x) (h1 : x ≤ 199) (h2 : y ≤ 200) (h : (200 - x).toNat * 1000 + (300 - y).toNat ≤ N + 1) : (200 - (x + 1)).toNat * 1000 + 500 ≤ N := by
  obtain ⟨a, ha⟩ : ∃ a : Nat, (200 - (x + 1)).toNat = a := ⟨_, rfl⟩
  have hb : (200 - x).toNat = a + 1 := by omega
  have hc : 100 ≤ (300 - y).toNat := by omega
  rw [hb, Nat.succ_mul] at h
  rw [ha]
  generalize (300 - y).toNat = c at *
  have : a * 1000 + 1000 + c ≤ N + 1 := h
  exact Nat.le_of_lt_succ (Nat.lt_of_lt_of_le (Nat.lt_of_lt_of_le (Nat.add_lt_add_left (show 500 < 1000 by decide) _) (Nat.le_add_right _ c)) this)
theorem search_l {a b c : Int} (ha : a.natAbs ≤ 30000) (hb : b.natAbs ≤ 30000) (c0 : c ≠ 0) (hbc : (b * c).natAbs ≤ 30000) (hac : (a * c).natAbs ≤ 30000) : ∀ (N : Nat),
    (∀ x : Int, 0 ≤ x → x ≤ 200 → (200 - x).toNat * 1000 + 500 ≤ N → ∃ R, Found R ∧ Ev (fun k => spec_l5Search.l0 k a b c x) R) ∧
    (∀ x y : Int, 0 ≤ x → x ≤ 199 → 0 ≤ y → y ≤ 200 → (200 - x).toNat * 1000 + (300 - y).toNat ≤ N → ∃ R, Found R ∧ Ev (fun k => spec_l5Search.l1 k a b c x y) R) := by
  intro N
  induction N with
  | zero => exact ⟨fun x _ _ h => by omega, fun x y _ _ _ _ h => by omega⟩
  | succ N ih =>
    refine ⟨fun x x0 x1 hN => ?_, fun x y x0 x1 y0 y1 hN => ?_⟩
    · have hx := sq_le x0 x1
      have ez : Ev (fun _ => spec_l1Size.f (wrap64 (b * c))) ((b * c).natAbs : Int) := by rw [w64 (a := b * c) (by omega) (by omega)]; exact Ev.val (l1Size_eq (by omega) (by omega))
      by_cases e : x * x ≤ ((b * c).natAbs : Int)
      · have := sq_bd (M := 0) (p := x) x0 (by omega)
        have hx1 : x ≤ 199 := by
          rcases (by omega : x ≤ 199 ∨ 200 ≤ x) with h | h
          · exact h
          · have := Int.mul_le_mul h h (by omega) x0; omega
        obtain ⟨R, R0, R1⟩ := ih.2 x 0 x0 hx1 (by omega) (by omega) (by omega)
        exact ⟨R, R0, Ev.step (fun k => spec_l5Search.l0.eq_2 _ _ _ _ k) (Ev.bind ez (Ev.pos (by rw [w64 (a := x * x) (by omega) (by omega)]; exact e) R1))⟩
      · exact ⟨([], false), .inl rfl, Ev.step (fun k => spec_l5Search.l0.eq_2 _ _ _ _ k) (Ev.bind ez (Ev.neg (by rw [w64 (a := x * x) (by omega) (by omega)]; exact e) (Ev.now _)))⟩
    · have hy := sq_le y0 y1
      have ez : Ev (fun _ => spec_l1Size.f (wrap64 (a * c))) ((a * c).natAbs : Int) := by rw [w64 (a := a * c) (by omega) (by omega)]; exact Ev.val (l1Size_eq (by omega) (by omega))
      by_cases e : y * y ≤ ((a * c).natAbs : Int)
      · have hy1 : y ≤ 199 := by
          rcases (by omega : y ≤ 199 ∨ 200 ≤ y) with h | h
          · exact h
          · have := Int.mul_le_mul h h (by omega) y0; omega
        have b1 := abs_mul_bd (x := x) (B := 200) ha (by omega)
        have b2 := abs_mul_bd (x := x) (B := 200) b1 (by omega)
        have b3 := abs_mul_bd (x := y) (B := 200) hb (by omega)
        have b4 := abs_mul_bd (x := y) (B := 200) b3 (by omega)
        obtain ⟨n, hn⟩ : ∃ n : Int, n = -(a * x * x) - b * y * y := ⟨_, rfl⟩
        have en : wrap64 ((wrap64 (-(wrap64 ((wrap64 (a * x)) * x)))) - (wrap64 ((wrap64 (b * y)) * y))) = n := by
          rw [w64 (a := a * x) (by omega) (by omega), w64 (a := a * x * x) (by omega) (by omega), w64 (a := -(a * x * x)) (by omega) (by omega), w64 (a := b * y) (by omega) (by omega), w64 (a := b * y * y) (by omega) (by omega), hn]
          exact w64 (by omega) (by omega)
        have hq : (Int.tdiv n c).natAbs ≤ n.natAbs := tdiv_mag n c
        have eq : wrap64 (Int.tdiv n c) = Int.tdiv n c := w64 (by omega) (by omega)
        obtain ⟨R, R0, R1⟩ := ih.2 x (y + 1) x0 x1 (by omega) (by omega) (by omega)
        have again : ∀ (n : Int), Ev (fun k => spec_l5Search.j2 k a b c x y n true) R := fun n => by
          refine Ev.step (fun k => spec_l5Search.j2.eq_2 _ _ _ _ _ _ _ k) (Ev.pos rfl ?_)
          rw [w64 (a := y + 1) (by omega) (by omega)]; exact R1
        have look : ∀ (t : Bool), (t = false → x ≠ 0 ∨ y ≠ 0) → ∃ R, Found R ∧ Ev (fun k => spec_l5Search.j2 k a b c x y n t) R := by
          intro t ht
          cases t with
          | true => exact ⟨R, R0, again n⟩
          | false =>
            obtain ⟨r, r0, r1⟩ := l5Root_ev (Int.tdiv n c) (by omega)
            by_cases hr : r ≥ 0
            · have hr2 : r ≤ 1048576 := by rcases r0 with h | h <;> omega
              refine ⟨([x, y, r], true), .inr ⟨x, y, r, x0, by omega, y0, by omega, hr, hr2, ht rfl, rfl⟩, Ev.step (fun k => spec_l5Search.j2.eq_2 _ _ _ _ _ _ _ k) (Ev.neg (by simp) (Ev.neg c0 ?_))⟩
              rw [eq]; exact Ev.bind r1 (Ev.pos hr (Ev.now _))
            · refine ⟨R, R0, Ev.step (fun k => spec_l5Search.j2.eq_2 _ _ _ _ _ _ _ k) (Ev.neg (by simp) (Ev.neg c0 ?_))⟩
              rw [eq, w64 (a := y + 1) (by omega) (by omega)]; exact Ev.bind r1 (Ev.neg hr R1)
        have fin : ∃ R, Found R ∧ Ev (fun k => (if (Int.tmod n c) = 0 then (if (wrap64 (Int.tdiv n c)) < 0 then (spec_l5Search.j2 k a b c x y n true) else (if x = 0 then (spec_l5Search.j2 k a b c x y n (y == 0)) else (spec_l5Search.j2 k a b c x y n false))) else (spec_l5Search.j2 k a b c x y n true))) R := by
          by_cases h1 : Int.tmod n c = 0
          · by_cases h2 : wrap64 (Int.tdiv n c) < 0
            · exact ⟨R, R0, Ev.pos h1 (Ev.pos h2 (again n))⟩
            · by_cases h3 : x = 0
              · obtain ⟨S, S0, S1⟩ := look (y == 0) (fun h => .inr (by simpa using h))
                exact ⟨S, S0, Ev.pos h1 (Ev.neg h2 (Ev.pos h3 S1))⟩
              · obtain ⟨S, S0, S1⟩ := look false (fun h => .inl h3)
                exact ⟨S, S0, Ev.pos h1 (Ev.neg h2 (Ev.neg h3 S1))⟩
          · exact ⟨R, R0, Ev.neg h1 (again n)⟩
        obtain ⟨S, S0, S1⟩ := fin
        refine ⟨S, S0, Ev.step (fun k => spec_l5Search.l1.eq_2 _ _ _ _ _ k) (Ev.bind ez (Ev.pos (by rw [w64 (a := y * y) (by omega) (by omega)]; exact e) (Ev.neg c0 ?_)))⟩
        rw [en]; exact S1
      · obtain ⟨R, R0, R1⟩ := ih.1 (x + 1) (by omega) (by omega) (lessen x0 x1 y1 hN)
        refine ⟨R, R0, Ev.step (fun k => spec_l5Search.l1.eq_2 _ _ _ _ _ k) (Ev.bind ez (Ev.neg (by rw [w64 (a := y * y) (by omega) (by omega)]; exact e) ?_))⟩
        rw [w64 (a := x + 1) (by omega) (by omega)]; exact R1
theorem plainL_bd {v : List Int} {M : Int} (h : ∀ x ∈ v, -M ≤ x ∧ x ≤ M) : (plainL v).length = v.length ∧ ∀ x ∈ plainL v, -M ≤ x ∧ x ≤ M := by
  unfold plainL
  refine ⟨List.length_map .., fun x hx => ?_⟩
  obtain ⟨y, hy, rfl⟩ := List.mem_map.1 hx
  have := tdiv_mag y (sgn1 v * gcdL 0 v)
  have := h y hy
  omega
theorem some_plain {z : List Int} (h : some0 z = true) : some0 (plainL z) = true := by
  obtain ⟨c, hc, hl, hr⟩ := plain_mul h
  cases e : some0 (plainL z) with
  | true => rfl
  | false =>
    have : some0 z = false := some0_rd.2 (fun i hi => by rw [hr i hi, some0_rd.1 e i (by omega), Int.mul_zero])
    rw [h] at this; cases this
theorem threeS_ev (a b c : Int) (a0 : a ≠ 0) (b0 : b ≠ 0) (c0 : c ≠ 0) (ha : a.natAbs ≤ 31) (hb : b.natAbs ≤ 31) (hc : c.natAbs ≤ 31) : ∃ (v : List Int) (f : Bool), v.length ≤ 3 ∧ (∀ x ∈ v, -1000000000000 ≤ x ∧ x ≤ 1000000000000) ∧ (f = true → v.length = 3 ∧ some0 v = true) ∧ Ev (fun k => spec_l5Three.f k [a, b, c]) (v, f) := by
  obtain ⟨x, y, z, t, u, v, hG, hN⟩ := normal_ev a b c a0 b0 c0 ha hb hc
  have gb := good_bd hG
  have n3 := nat3 hG.1 hG.2.1 hG.2.2.1
  obtain ⟨R, R0, R1⟩ := (search_l (a := x) (b := y) (c := z) (by omega) (by omega) hG.2.2.1 (by omega) (by omega) ((200 - (0 : Int)).toNat * 1000 + 500)).1 0 (by omega) (by omega) (Nat.le_refl _)
  have hS : Ev (fun k => spec_l5Search.f k [x, y, z]) R := by
    unfold spec_l5Search.f
    exact Ev.pos (by simp) (Ev.pos (by simp) (Ev.pos (by simp) R1))
  unfold spec_l5Three.f
  rcases R0 with rfl | ⟨p, q, r, p0, p1, q0, q1, r0, r1, hne, rfl⟩
  · exact ⟨[], false, by simp, by simp, (fun h => by cases h), Ev.bind hN (Ev.bind hS (Ev.neg (by simp) (Ev.now _)))⟩
  · have b1 := mul2_bd (a := t) (b := p) (A := 30000) (B := 1048576) (by omega) (by omega)
    have b2 := mul2_bd (a := u) (b := q) (A := 30000) (B := 1048576) (by omega) (by omega)
    have b3 := mul2_bd (a := v) (b := r) (A := 30000) (B := 1048576) (by omega) (by omega)
    have hb : ∀ w ∈ [t * p, u * q, v * r], -1000000000000 ≤ w ∧ w ≤ 1000000000000 := by
      intro w hw
      simp only [List.mem_cons, List.not_mem_nil, or_false] at hw
      rcases hw with rfl | rfl | rfl <;> omega
    have hs : some0 [t * p, u * q, v * r] = true := by
      unfold some0
      have a1 : p ≠ 0 → t * p ≠ 0 := fun h => Int.mul_ne_zero (by omega) h
      have a2 : q ≠ 0 → u * q ≠ 0 := fun h => Int.mul_ne_zero (by omega) h
      simp only [List.any_cons, List.any_nil, Bool.or_eq_true, bne_iff_ne]
      rcases hne with h | h
      · exact .inl (a1 h)
      · exact .inr (.inl (a2 h))
    have pb := plainL_bd hb
    refine ⟨plainL [t * p, u * q, v * r], true, by rw [pb.1]; simp, pb.2, fun _ => ⟨by rw [pb.1]; simp, some_plain hs⟩, Ev.bind hN (Ev.bind hS (Ev.pos rfl (Ev.pos (by simp) (Ev.pos (by simp) (Ev.pos (by simp) (Ev.pos (by simp) (Ev.pos (by simp) (Ev.pos (by simp) ?_))))))))⟩
    refine Ev.bind (a := plainL [t * p, u * q, v * r]) (show Ev (fun k => spec_l5Plain.f k [wrap64 (t * p), wrap64 (u * q), wrap64 (v * r)]) _ from ?_) (Ev.now _)
    rw [w64 (a := t * p) (by omega) (by omega), w64 (a := u * q) (by omega) (by omega), w64 (a := v * r) (by omega) (by omega)]
    exact l5Plain_ev _ hs (by simp) (fun w hw => by have := hb w hw; omega)
theorem core_bd {x c s : Int} (h0 : c ≠ 0) (h1 : 1 ≤ s) (h : s * (c.natAbs : Int) ≤ (x.natAbs : Int)) : s ≤ (x.natAbs : Int) := by
  have : s * 1 ≤ s * (c.natAbs : Int) := Int.mul_le_mul_of_nonneg_left (by omega) (by omega)
  omega
def Zed (R : List Int × Bool) : Prop := R.1.length ≤ 4 ∧ ∀ x ∈ R.1, -1000000000000000 ≤ x ∧ x ≤ 1000000000000000
theorem zed_none : Zed ([], false) := ⟨by simp, by simp⟩
theorem zed_plain {v : List Int} (hl : v.length ≤ 4) (hb : ∀ x ∈ v, -1000000000000000 ≤ x ∧ x ≤ 1000000000000000) : Zed (plainL v, true) := by
  have := plainL_bd hb
  exact ⟨by show (plainL v).length ≤ 4; rw [this.1]; exact hl, this.2⟩
theorem four_ev {a b c d : Int} (hm : ∀ x ∈ [a, b, c, d], x ≠ 0 ∧ -30 ≤ x ∧ x ≤ 30) : ∃ R, Zed R ∧ Ev (fun k => spec_l5Four.f k [a, b, c, d]) R := by
  have ma := hm a (by simp); have mb := hm b (by simp); have mc := hm c (by simp); have md := hm d (by simp)
  have outer : ∀ (m x : Nat), x + m = 4 → ∃ R, Zed R ∧ Ev (fun k => spec_l5Four.l0 k [a, b, c, d] (x : Int)) R := by
    intro m
    induction m with
    | zero =>
      intro x h
      exact ⟨_, zed_none, Ev.step (fun k => spec_l5Four.l0.eq_2 _ _ k) (Ev.neg (by omega) (Ev.now _))⟩
    | succ m ih =>
      intro x h
      have inner : ∀ (m y : Nat), y + m = 4 → ∃ R, Zed R ∧ Ev (fun k => spec_l5Four.l1 k [a, b, c, d] (x : Int) (y : Int)) R := by
        intro m
        induction m with
        | zero =>
          intro y hy
          obtain ⟨R, R0, R1⟩ := ih (x + 1) (by omega)
          refine ⟨R, R0, Ev.step (fun k => spec_l5Four.l1.eq_2 _ _ _ k) (Ev.neg (by omega) ?_)⟩
          rw [w64s (by omega)]; exact R1
        | succ m ihm =>
          intro y hy
          obtain ⟨R, R0, R1⟩ := ihm (y + 1) (by omega)
          have skip : Ev (fun k => spec_l5Four.l1 k [a, b, c, d] (x : Int) (wrap64 ((y : Int) + 1))) R := by rw [w64s (by omega)]; exact R1
          have body : (x ≠ 0 ∨ y ≠ 0) → ∃ R, Zed R ∧ Ev (fun k => spec_l5Four.j2 k [a, b, c, d] (x : Int) (y : Int) false) R := by
            intro hne
            have b1 := mul2_bd (a := a) (b := (x : Int)) (A := 30) (B := 3) (by omega) (by omega)
            have b2 := mul2_bd (a := a * x) (b := (x : Int)) (A := 90) (B := 3) (by omega) (by omega)
            have b3 := mul2_bd (a := b) (b := (y : Int)) (A := 30) (B := 3) (by omega) (by omega)
            have b4 := mul2_bd (a := b * y) (b := (y : Int)) (A := 90) (B := 3) (by omega) (by omega)
            have et : wrap64 ((wrap64 ((wrap64 (a * (x : Int))) * (x : Int))) + (wrap64 ((wrap64 (b * (y : Int))) * (y : Int)))) = a * x * x + b * y * y := by
              rw [w64 (a := a * (x : Int)) (by omega) (by omega), w64 (a := a * (x : Int) * x) (by omega) (by omega), w64 (a := b * (y : Int)) (by omega) (by omega), w64 (a := b * (y : Int) * y) (by omega) (by omega), w64 (by omega) (by omega)]
            have et0 : wrap64 ((wrap64 ((wrap64 ((rd [a, b, c, d] 0) * (x : Int))) * (x : Int))) + (wrap64 ((wrap64 ((rd [a, b, c, d] 1) * (y : Int))) * (y : Int)))) = a * x * x + b * y * y := et
            generalize ht : a * (x : Int) * x + b * (y : Int) * y = t at *
            by_cases t0 : t = 0
            · have hs : some0 [(x : Int), (y : Int), 0, 0] = true := by
                unfold some0
                simp only [List.any_cons, Bool.or_eq_true, bne_iff_ne]
                rcases hne with h | h
                · exact .inl (by omega)
                · exact .inr (.inl (by omega))
              have hb : ∀ z ∈ [(x : Int), (y : Int), 0, 0], -1000000000000000 ≤ z ∧ z ≤ 1000000000000000 := by intro z hz; simp at hz; omega
              exact ⟨_, zed_plain (by simp) hb, Ev.step (fun k => spec_l5Four.j2.eq_2 _ _ _ _ k) (Ev.neg (by simp) (Ev.pos (by simp) (Ev.pos (by simp) (Ev.pos (by rw [et0]; exact t0) (Ev.bind (l5Plain_ev _ hs (by simp) (fun z hz => by have := hb z hz; omega)) (Ev.now _))))))⟩
            · obtain ⟨cr, s, c0, c1, s1, hcs, hcore⟩ := core_ev t t0 (by omega)
              have sb := core_bd c0 s1 hcs
              by_cases big : (cr.natAbs : Int) > 30
              · exact ⟨R, R0, Ev.step (fun k => spec_l5Four.j2.eq_2 _ _ _ _ k) (Ev.neg (by simp) (Ev.pos (by simp) (Ev.pos (by simp) (Ev.neg (by rw [et0]; exact t0) (Ev.bind (a := (cr, s)) (by rw [et0]; exact hcore) (Ev.bind0 (l1Size_eq (by omega) (by omega)) (Ev.pos big skip)))))))⟩
              · obtain ⟨v, f, v1, v2, v3, v4⟩ := threeS_ev c d cr mc.1 md.1 c0 (by omega) (by omega) (by omega)
                cases f with
                | false => exact ⟨R, R0, Ev.step (fun k => spec_l5Four.j2.eq_2 _ _ _ _ k) (Ev.neg (by simp) (Ev.pos (by simp) (Ev.pos (by simp) (Ev.neg (by rw [et0]; exact t0) (Ev.bind (a := (cr, s)) (by rw [et0]; exact hcore) (Ev.bind0 (l1Size_eq (by omega) (by omega)) (Ev.neg big (Ev.pos (by simp) (Ev.pos (by simp) (Ev.bind v4 (Ev.neg (by simp) skip)))))))))))⟩
                | true =>
                  obtain ⟨l3, vs⟩ := v3 rfl
                  obtain ⟨p, q, r, rfl⟩ := list3 l3
                  have bp := v2 p (by simp); have bq := v2 q (by simp); have br := v2 r (by simp)
                  have m1 := mul2_bd (a := (x : Int)) (b := r) (A := 3) (B := 1000000000000) (by omega) (by omega)
                  have m2 := mul2_bd (a := (y : Int)) (b := r) (A := 3) (B := 1000000000000) (by omega) (by omega)
                  have m3 := mul2_bd (a := s) (b := p) (A := 540) (B := 1000000000000) (by omega) (by omega)
                  have m4 := mul2_bd (a := s) (b := q) (A := 540) (B := 1000000000000) (by omega) (by omega)
                  have hb : ∀ z ∈ [(x : Int) * r, (y : Int) * r, s * p, s * q], -1000000000000000 ≤ z ∧ z ≤ 1000000000000000 := by
                    intro z hz
                    simp only [List.mem_cons, List.not_mem_nil, or_false] at hz
                    rcases hz with rfl | rfl | rfl | rfl <;> omega
                  have hs : some0 [(x : Int) * r, (y : Int) * r, s * p, s * q] = true := by
                    unfold some0 at vs ⊢
                    simp only [List.any_cons, List.any_nil, Bool.or_eq_true, bne_iff_ne] at vs ⊢
                    rcases vs with h | h | h | h
                    · exact .inr (.inr (.inl (Int.mul_ne_zero (by omega) h)))
                    · exact .inr (.inr (.inr (.inl (Int.mul_ne_zero (by omega) h))))
                    · rcases hne with k | k
                      · exact .inl (Int.mul_ne_zero (by omega) h)
                      · exact .inr (.inl (Int.mul_ne_zero (by omega) h))
                    · cases h
                  refine ⟨_, zed_plain (by simp) hb, Ev.step (fun k => spec_l5Four.j2.eq_2 _ _ _ _ k) (Ev.neg (by simp) (Ev.pos (by simp) (Ev.pos (by simp) (Ev.neg (by rw [et0]; exact t0) (Ev.bind (a := (cr, s)) (by rw [et0]; exact hcore) (Ev.bind0 (l1Size_eq (by omega) (by omega)) (Ev.neg big (Ev.pos (by simp) (Ev.pos (by simp) (Ev.bind v4 (Ev.pos rfl (Ev.pos (by simp) (Ev.pos (by simp) (Ev.pos (by simp) (Ev.bind (a := plainL [(x : Int) * r, (y : Int) * r, s * p, s * q]) ?_ (Ev.now _))))))))))))))))⟩
                  show Ev (fun k => spec_l5Plain.f k [wrap64 ((x : Int) * r), wrap64 ((y : Int) * r), wrap64 (s * p), wrap64 (s * q)]) _
                  rw [w64 (a := (x : Int) * r) (by omega) (by omega), w64 (a := (y : Int) * r) (by omega) (by omega), w64 (a := s * p) (by omega) (by omega), w64 (a := s * q) (by omega) (by omega)]
                  exact l5Plain_ev _ hs (by simp) (fun z hz => by have := hb z hz; omega)
          have skipj : Ev (fun k => spec_l5Four.j2 k [a, b, c, d] (x : Int) (y : Int) true) R := Ev.step (fun k => spec_l5Four.j2.eq_2 _ _ _ _ k) (Ev.pos rfl skip)
          by_cases hx : x = 0
          · by_cases hy0 : y = 0
            · exact ⟨R, R0, Ev.step (fun k => spec_l5Four.l1.eq_2 _ _ _ k) (Ev.pos (by omega) (Ev.pos (by omega) (by rw [show ((y : Int) == 0) = true by rw [beq_iff_eq]; omega]; exact skipj)))⟩
            · obtain ⟨S, S0, S1⟩ := body (.inr hy0)
              exact ⟨S, S0, Ev.step (fun k => spec_l5Four.l1.eq_2 _ _ _ k) (Ev.pos (by omega) (Ev.pos (by omega) (by rw [show ((y : Int) == 0) = false by rw [beq_eq_false_iff_ne]; omega]; exact S1)))⟩
          · obtain ⟨S, S0, S1⟩ := body (.inl hx)
            exact ⟨S, S0, Ev.step (fun k => spec_l5Four.l1.eq_2 _ _ _ k) (Ev.pos (by omega) (Ev.neg (by omega) S1))⟩
      obtain ⟨R, R0, R1⟩ := inner 4 0 rfl
      exact ⟨R, R0, Ev.step (fun k => spec_l5Four.l0.eq_2 _ _ k) (Ev.pos (by omega) R1)⟩
  unfold spec_l5Four.f
  exact outer 4 0 rfl
theorem zeroFindN_ev {form : List Int} (hT : Drawn form) : ∃ R, Zed R ∧ Ev (fun k => spec_ZeroFind.f k form) R := by
  unfold spec_ZeroFind.f
  by_cases hf : fOk form = true
  · have hl := fOk_len hf
    have hm := fOk_mem hf
    match form, hl, hm, hf with
    | [a], _, _, hf => exact ⟨_, zed_none, Ev.bind (sFormValid_ev _ (by simp)) (Ev.pos hf (Ev.neg (by simp) (Ev.neg (by simp) (Ev.neg (by simp) (Ev.now _)))))⟩
    | [a, b], _, hm, hf =>
      have ma := hm a (by simp); have mb := hm b (by simp)
      obtain ⟨c, r, c0, c1, r1, hcr, hc⟩ := core_ev a ma.1 (by omega)
      obtain ⟨d, s, d0, d1, s1, hds, hd⟩ := core_ev b mb.1 (by omega)
      have rb := core_bd c0 r1 hcr
      have sb := core_bd d0 s1 hds
      by_cases e : wrap64 (c + d) = 0
      · have hb : ∀ z ∈ [s, r], -1000000000000000 ≤ z ∧ z ≤ 1000000000000000 := by intro z hz; simp at hz; omega
        have hs : some0 [s, r] = true := by unfold some0; simp only [List.any_cons, Bool.or_eq_true, bne_iff_ne]; exact .inl (by omega)
        exact ⟨_, zed_plain (by simp) hb, Ev.bind (sFormValid_ev _ (by simp)) (Ev.pos hf (Ev.pos (by simp) (Ev.pos (by simp) (Ev.bind hc (Ev.pos (by simp) (Ev.bind hd (Ev.pos e (Ev.bind (l5Plain_ev _ hs (by simp) (fun z hz => by have := hb z hz; omega)) (Ev.now _)))))))))⟩
      · exact ⟨_, zed_none, Ev.bind (sFormValid_ev _ (by simp)) (Ev.pos hf (Ev.pos (by simp) (Ev.pos (by simp) (Ev.bind hc (Ev.pos (by simp) (Ev.bind hd (Ev.neg e (Ev.now _))))))))⟩
    | [a, b, c], _, hm, hf =>
      have ma := hm a (by simp); have mb := hm b (by simp); have mc := hm c (by simp)
      obtain ⟨v, f, v1, v2, _, v3⟩ := threeS_ev a b c ma.1 mb.1 mc.1 (by omega) (by omega) (by omega)
      exact ⟨(v, f), ⟨by show v.length ≤ 4; omega, fun z hz => by have := v2 z hz; omega⟩, Ev.bind (sFormValid_ev _ (by simp)) (Ev.pos hf (Ev.neg (by simp) (Ev.pos (by simp) (Ev.bind v3 (Ev.now _)))))⟩
    | [a, b, c, d], _, hm, hf =>
      obtain ⟨R, R0, R1⟩ := four_ev hm
      exact ⟨R, R0, Ev.bind (sFormValid_ev _ (by simp)) (Ev.pos hf (Ev.neg (by simp) (Ev.neg (by simp) (Ev.pos (by simp) (Ev.bind R1 (Ev.now _))))))⟩
  · exact ⟨_, zed_none, Ev.bind (sFormValid_ev _ (by have := hT.1; omega)) (Ev.neg hf (Ev.now _))⟩
theorem modL_tot {f : Nat → Int → Option Bool} : ∀ (c : Nat) (x : Int), (∀ i : Nat, i < c → ∃ b, Ev (fun k => f k (x + (i : Int))) b) → ∃ b, Ev (fun k => modL (f k) c x) b
  | 0, x, _ => ⟨false, Ev.now _⟩
  | c + 1, x, h => by
    obtain ⟨b, hb⟩ := h 0 (by omega)
    rw [show x + ((0 : Nat) : Int) = x by omega] at hb
    cases b with
    | true => exact ⟨true, by unfold modL; exact Ev.bind hb (Ev.pos rfl (Ev.now _))⟩
    | false =>
      obtain ⟨b, h2⟩ := modL_tot c (x + 1) (fun i hi => by have := h (i + 1) (by omega); rwa [show x + ((i + 1 : Nat) : Int) = x + 1 + (i : Int) by omega] at this)
      exact ⟨b, by unfold modL; exact Ev.bind hb (Ev.neg (by simp) h2)⟩
theorem modL_yes {f : Nat → Int → Option Bool} : ∀ (c : Nat) (x : Int), (∀ i : Nat, i < c → ∃ b, Ev (fun k => f k (x + (i : Int))) b) → (∃ i : Nat, i < c ∧ Ev (fun k => f k (x + (i : Int))) true) → Ev (fun k => modL (f k) c x) true
  | 0, x, _, ⟨i, hi, _⟩ => by omega
  | c + 1, x, h, ⟨i, hi, hy⟩ => by
    obtain ⟨b, hb⟩ := h 0 (by omega)
    rw [show x + ((0 : Nat) : Int) = x by omega] at hb
    unfold modL
    cases b with
    | true => exact Ev.bind hb (Ev.pos rfl (Ev.now _))
    | false =>
      refine Ev.bind hb (Ev.neg (by simp) (modL_yes c (x + 1) (fun i hi => by have := h (i + 1) (by omega); rwa [show x + ((i + 1 : Nat) : Int) = x + 1 + (i : Int) by omega] at this) ?_))
      cases i with
      | zero =>
        rw [show x + ((0 : Nat) : Int) = x by omega] at hy
        exact absurd (Ev.uniq hb hy) (by simp)
      | succ i => exact ⟨i, by omega, by rwa [show x + ((i + 1 : Nat) : Int) = x + 1 + (i : Int) by omega] at hy⟩
theorem modR_tot {t : Nat → List Int → Option Bool} {m n : Nat} (ht : ∀ h : List Int, h.length = n → (∀ x ∈ h, 0 ≤ x ∧ x < (m : Int)) → ∃ b, Ev (fun k => t k h) b) : ∀ (r : Nat) (h : List Int), h.length + r = n → (∀ x ∈ h, 0 ≤ x ∧ x < (m : Int)) → ∃ b, Ev (fun k => modR (t k) m r h) b
  | 0, h, hl, hb => ht h (by omega) hb
  | r + 1, h, hl, hb => by
    unfold modR
    exact modL_tot m 0 (fun i hi => modR_tot ht r (h ++ [0 + (i : Int)]) (by rw [List.length_append]; simp; omega) (fun x hx => by rcases List.mem_append.1 hx with hx | hx; exact hb x hx; rw [List.mem_singleton] at hx; omega))
theorem modR_yes {t : Nat → List Int → Option Bool} {m n : Nat} (ht : ∀ h : List Int, h.length = n → (∀ x ∈ h, 0 ≤ x ∧ x < (m : Int)) → ∃ b, Ev (fun k => t k h) b) : ∀ (z h : List Int), h.length + z.length = n → (∀ x ∈ h, 0 ≤ x ∧ x < (m : Int)) → (∀ x ∈ z, 0 ≤ x ∧ x < (m : Int)) → Ev (fun k => t k (h ++ z)) true → Ev (fun k => modR (t k) m z.length h) true
  | [], h, hl, hb, _, hy => by rw [List.append_nil] at hy; exact hy
  | x :: z, h, hl, hb, hz, hy => by
    have hx := hz x (List.mem_cons_self ..)
    have nb : ∀ i : Nat, i < m → ∀ y ∈ h ++ [0 + (i : Int)], 0 ≤ y ∧ y < (m : Int) := fun i hi y hy => by rcases List.mem_append.1 hy with hy | hy; exact hb y hy; rw [List.mem_singleton] at hy; omega
    show Ev (fun k => modR (t k) m (z.length + 1) h) true
    unfold modR
    refine modL_yes m 0 (fun i hi => modR_tot ht z.length _ (by rw [List.length_append]; simp at hl ⊢; omega) (nb i hi)) ⟨x.toNat, by omega, ?_⟩
    have e : (0 : Int) + ((x.toNat : Nat) : Int) = x := by omega
    refine modR_yes ht z _ (by rw [List.length_append]; simp at hl ⊢; omega) (nb x.toNat (by omega)) (fun y hy => hz y (List.mem_cons_of_mem _ hy)) ?_
    rw [e, List.append_assoc]; exact hy
theorem dot_mod (m : Int) : ∀ (f w : List Int), m ∣ dot3 f (w.map (· % m)) (w.map (· % m)) - dot3 f w w
  | [], _ => by simp [dot3]
  | _ :: _, [] => by simp [dot3]
  | a :: f, x :: w => by
    have ih := dot_mod m f w
    show m ∣ a * (x % m) * (x % m) + dot3 f (w.map (· % m)) (w.map (· % m)) - (a * x * x + dot3 f w w)
    have e := Int.mul_ediv_add_emod x m
    generalize x / m = q at e
    generalize x % m = r at *
    have : m ∣ a * r * r - a * x * x := ⟨-(a * q * (r + x)), by rw [← e]; grind⟩
    have := Int.dvd_add this ih
    rwa [show a * r * r - a * x * x + (dot3 f (w.map (· % m)) (w.map (· % m)) - dot3 f w w) = a * r * r + dot3 f (w.map (· % m)) (w.map (· % m)) - (a * x * x + dot3 f w w) by omega] at this
theorem dot_scale (d : Int) : ∀ (f w : List Int), dot3 f (w.map (d * ·)) (w.map (d * ·)) = d * d * dot3 f w w
  | [], _ => by simp [dot3]
  | _ :: _, [] => by simp [dot3]
  | a :: f, x :: w => by
    show a * (d * x) * (d * x) + dot3 f (w.map (d * ·)) (w.map (d * ·)) = d * d * (a * x * x + dot3 f w w)
    rw [dot_scale d f w]; grind
theorem zip_snd : ∀ (f v : List Int), v.length = f.length → (f.zip v).map Prod.snd = v
  | [], v, h => by rw [List.eq_nil_of_length_eq_zero h]; rfl
  | _ :: _, [], h => by simp at h
  | a :: f, x :: v, h => by rw [List.zip_cons_cons, List.map_cons, zip_snd f v (by simpa using h)]
theorem iModulo_ev {f v : List Int} (ht : Tame f) (h : zeroB f v = true) (h3 : f.length ≤ 3) {p m e : Nat} (hp : p = 2 ∨ p = 3) (hm : m ≤ 32) (hm1 : 1 ≤ m) (hpm : p ∣ m) (he : 1 ≤ e ∧ e ≤ 5) (hpr : Ev (fun k => impl_PrimeIs.f k (p : Int)) true) (hpw : Ev (fun k => impl_power.f k (p : Int) (e : Int)) (m : Int)) : Ev (fun k => impl_ZeroModulo.f k f (p : Int) (e : Int)) true := by
  obtain ⟨z1, z2, z3, z4⟩ := zB_of h
  have hl := vOk_len z2
  have hfl := fOk_len z1
  have hb : ∀ x ∈ f, -30 ≤ x ∧ x ≤ 30 := fun x hx => (fOk_mem z1 x hx).2
  have hne : ∃ q ∈ f.zip v, q.2 ≠ 0 := by
    unfold some0 at z3
    rw [List.any_eq_true] at z3
    obtain ⟨x, hx, hx0⟩ := z3
    have : x ∈ (f.zip v).map Prod.snd := by rw [zip_snd f v hl]; exact hx
    obtain ⟨q, hq, rfl⟩ := List.mem_map.1 this
    exact ⟨q, hq, by simpa using hx0⟩
  obtain ⟨d, d0, L, hL, y, hy, hyp⟩ := prim (p := p) (by omega) _ (f.zip v) (Nat.le_refl _) hne
  have ev : v = (L.map Prod.snd).map (d * ·) := by
    rw [← zip_snd f v hl, hL, List.map_map, List.map_map]; rfl
  have ef : f = L.map Prod.fst := by
    rw [← zip_fst f v hl, hL, List.map_map]; rfl
  generalize hW : L.map Prod.snd = W at *
  have lW : W.length = f.length := by rw [← hW, ef, List.length_map, List.length_map]
  have dW : dot3 f W W = 0 := by
    rw [ev, dot_scale] at z4
    rcases Int.mul_eq_zero.1 z4 with k | k
    · exact absurd k (Int.mul_ne_zero d0 d0)
    · exact k
  have yW : y.2 ∈ W := by rw [← hW]; exact List.mem_map.2 ⟨y, hy, rfl⟩
  have m0 : (0 : Int) < m := by omega
  generalize hz : W.map (· % (m : Int)) = z at *
  have lz : z.length = f.length := by rw [← hz, List.length_map, lW]
  have bz : ∀ x ∈ z, 0 ≤ x ∧ x < (m : Int) := by
    intro x hx
    rw [← hz] at hx
    obtain ⟨w, _, rfl⟩ := List.mem_map.1 hx
    exact ⟨Int.emod_nonneg _ (by omega), Int.emod_lt_of_pos _ m0⟩
  have tot : ∀ h : List Int, h.length = f.length → (∀ x ∈ h, 0 ≤ x ∧ x < (m : Int)) → ∃ b, Ev (fun k => impl_ZeroModulo.t k (p : Int) (m : Int) f h) b ∧ (Int.tmod (gcdL 0 h : Int) (p : Int) ≠ 0 → (m : Int) ∣ dot3 f h h → b = true) := by
    intro h lh bh
    have hg := gcd_ev h (by omega) (fun x hx => by have := bh x hx; omega)
    have hd := iPair_ev f h h lh lh hfl.2 (fun x hx => by have := hb x hx; omega) (fun x hx => by have := bh x hx; omega) (fun x hx => by have := bh x hx; omega)
    by_cases c : Int.tmod (gcdL 0 h : Int) (p : Int) = 0
    · exact ⟨false, by unfold impl_ZeroModulo.t; exact Ev.bind hg (Ev.pos c (Ev.now _)), fun k => absurd c k⟩
    · exact ⟨_, by unfold impl_ZeroModulo.t; exact Ev.bind hg (Ev.neg c (Ev.bind hd (Ev.now _))), fun _ k => by rw [beq_iff_eq]; exact Int.tmod_eq_zero_of_dvd k⟩
  have yes : Ev (fun k => impl_ZeroModulo.t k (p : Int) (m : Int) f z) true := by
    obtain ⟨b, h1, h2⟩ := tot z lz bz
    have : b = true := by
      refine h2 (fun k => hyp ?_) ?_
      · have k := Int.dvd_of_tmod_eq_zero k
        have my : y.2 % (m : Int) ∈ z := by rw [← hz]; exact List.mem_map.2 ⟨_, yW, rfl⟩
        have gd : (gcdL 0 z : Int) ∣ y.2 % (m : Int) := Int.ofNat_dvd_left.2 ((gcdL_mono z 0).2 _ my)
        have pd : (p : Int) ∣ (m : Int) := Int.ofNat_dvd.2 hpm
        have := Int.dvd_add (Int.dvd_trans pd (Int.dvd_mul_right (m : Int) (y.2 / (m : Int)))) (Int.dvd_trans k gd)
        rwa [Int.mul_ediv_add_emod] at this
      · have := dot_mod (m : Int) f W
        rw [hz, dW, Int.sub_zero] at this
        exact this
    rwa [this] at h1
  unfold impl_ZeroModulo.f
  refine Ev.bind (iFormValid_ev f ht) (Ev.pos z1 (Ev.pos ⟨by omega, h3⟩ (Ev.bind hpr (Ev.pos rfl (Ev.pos (by omega) (Ev.bind hpw (Ev.pos ⟨by omega, by omega, by omega⟩ ?_)))))))
  rw [Int.toNat_natCast, ← lz]
  exact modR_yes (n := f.length) (fun h lh bh => by obtain ⟨b, h1, _⟩ := tot h lh bh; exact ⟨b, h1⟩) z [] (by simpa using lz) (by simp) bz yes
theorem prime_two : Ev (fun k => impl_PrimeIs.f k 2) true := by
  unfold impl_PrimeIs.f impl_prime.f
  exact Ev.pos (by decide) (Ev.bind (Ev.step (fun k => impl_prime.l0.eq_2 _ _ k) (Ev.neg (by rw [show wrap64 ((2 : Int) * 2) = 4 by decide +kernel]; decide) (Ev.nows (by decide)))) (Ev.now _))
theorem prime_three : Ev (fun k => impl_PrimeIs.f k 3) true := by
  unfold impl_PrimeIs.f impl_prime.f
  exact Ev.pos (by decide) (Ev.bind (Ev.step (fun k => impl_prime.l0.eq_2 _ _ k) (Ev.neg (by rw [show wrap64 ((2 : Int) * 2) = 4 by decide +kernel]; decide) (Ev.nows (by decide)))) (Ev.now _))
theorem power_one {p : Int} (hp : p = 2 ∨ p = 3) : Ev (fun k => impl_power.f k p 1) p := by
  unfold impl_power.f
  refine Ev.step (fun k => impl_power.l0.eq_2 _ _ _ _ k) (Ev.pos (by decide) ?_)
  rw [w64 (a := 1 * p) (by omega) (by omega), w64 (a := (0 : Int) + 1) (by decide) (by decide), Int.one_mul]
  exact Ev.step (fun k => impl_power.l0.eq_2 _ _ _ _ k) (Ev.neg (by decide) (Ev.now _))
theorem power_nine : Ev (fun k => impl_power.f k 3 2) 9 := by
  unfold impl_power.f
  refine Ev.step (fun k => impl_power.l0.eq_2 _ _ _ _ k) (Ev.pos (by decide) ?_)
  rw [w64 (a := (1 : Int) * 3) (by decide) (by decide), w64 (a := (0 : Int) + 1) (by decide) (by decide)]
  refine Ev.step (fun k => impl_power.l0.eq_2 _ _ _ _ k) (Ev.pos (by decide) ?_)
  rw [w64 (a := (1 : Int) * 3 * 3) (by decide) (by decide), w64 (a := (0 : Int) + 1 + 1) (by decide) (by decide)]
  exact Ev.step (fun k => impl_power.l0.eq_2 _ _ _ _ k) (Ev.neg (by decide) (Ev.nows (by decide)))
theorem l91V_l {s : List Int} (hs : IsCode s) (form : List Int) (n : Int) (h0 : 0 ≤ n) (hn : n ≤ 1000) (hf : form.length ≤ 1000) : ∀ (m i : Nat) (x : List Int) (p : Nat), i + m = form.length → x.length = i → (∀ y ∈ x, -n ≤ y ∧ y ≤ n) → p ≤ 19700000000000000 + i →
    ∃ v : List Int, v.length = form.length ∧ (∀ y ∈ v, -n ≤ y ∧ y ≤ n) ∧ Ev (fun k => spec_l91Vector.l0 k form n x (i : Int) s (p : Int)) (v, ((p + m : Nat) : Int)) := by
  intro m
  induction m with
  | zero =>
    intro i x p h hx hb hp
    exact ⟨x, by omega, hb, Ev.step (fun k => spec_l91Vector.l0.eq_2 _ _ _ _ _ _ k) (Ev.neg (by omega) (Ev.now _))⟩
  | succ m ih =>
    intro i x p h hx hb hp
    obtain ⟨a, a0, a1, ha⟩ := pick_ev' hs p (2 * n + 1) (by omega) (by omega)
    obtain ⟨v, h1, h2, h3⟩ := ih (i + 1) (x ++ [a - n]) (p + 1) (by omega) (by rw [List.length_append]; simp only [List.length_cons, List.length_nil]; omega) (fun z hz => by
      rcases List.mem_append.1 hz with hz | hz
      · exact hb z hz
      · rw [List.mem_singleton.1 hz]; omega) (by omega)
    refine ⟨v, h1, h2, Ev.step (fun k => spec_l91Vector.l0.eq_2 _ _ _ _ _ _ k) (Ev.pos (by omega) ?_)⟩
    rw [w64 (a := 2 * n) (by omega) (by omega), w64 (a := 2 * n + 1) (by omega) (by omega)]
    refine Ev.bind ha ?_
    simp only
    rw [w64s (by omega), w64 (a := a - n) (by omega) (by omega)]
    refine Ev.pos (by omega) (Ev.to h3 ?_)
    rw [show p + 1 + m = p + (m + 1) by omega]
theorem l91V_ev {s : List Int} (hs : IsCode s) (p : Nat) (hp : p ≤ 19700000000000000) (form : List Int) (n : Int) (h0 : 0 ≤ n) (hn : n ≤ 1000) (hf : form.length ≤ 1000) :
    ∃ v : List Int, v.length = form.length ∧ (∀ y ∈ v, -n ≤ y ∧ y ≤ n) ∧ Ev (fun k => spec_l91Vector.f k s (p : Int) form n) (v, ((p + form.length : Nat) : Int)) := by
  unfold spec_l91Vector.f
  exact l91V_l hs form n h0 hn hf form.length 0 [] p (by omega) rfl (by simp) (by omega)
theorem l4Vector_l (form v : List Int) (M : Int) (h0 : 0 ≤ M) (hM : M ≤ 1000000000) (hn : form.length ≤ 1000000) (hv : v.length ≤ 1000000) : ∀ (m i : Nat), i + m = v.length → (∀ j, j < i → j < v.length → -M ≤ rd v (j : Int) ∧ rd v (j : Int) ≤ M) →
    Ev (fun k => spec_l4Vector.l0 k form v M (i : Int)) (fOk form && vOk form.length M v) := by
  intro m
  induction m with
  | zero =>
    intro i h hj
    refine Ev.step (fun k => spec_l4Vector.l0.eq_2 _ _ _ _ k) (Ev.neg (by omega) (Ev.bind (sFormValid_ev form hn) ?_))
    have e := vOk_end (n := form.length) (most := M) (v := v) (fun j h1 => hj j (by omega) h1)
    by_cases hf : fOk form = true
    · refine Ev.pos hf (Ev.nows ?_); rw [hf, e]; rfl
    · refine Ev.neg hf (Ev.nows ?_); rw [show fOk form = false by simpa using hf]; rfl
  | succ m ih =>
    intro i h hj
    refine Ev.step (fun k => spec_l4Vector.l0.eq_2 _ _ _ _ k) (Ev.pos (by omega) (Ev.pos (by omega) ?_))
    rw [w64 (a := -M) (by omega) (by omega)]
    refine Ev.bind0 (in_eq _ _ _) ?_
    by_cases h2 : -M ≤ rd v (i : Int) ∧ rd v (i : Int) ≤ M
    · refine Ev.pos (decide_eq_true h2) ?_
      rw [w64s (by omega)]
      refine ih (i + 1) (by omega) (fun j h5 h6 => ?_)
      rcases (by omega : j < i ∨ j = i) with h7 | rfl
      · exact hj j h7 h6
      · exact h2
    · refine Ev.neg (by simpa using h2) (Ev.nows ?_)
      rw [vOk_no (rd_mem (show i < v.length by omega)) h2, Bool.and_false]
theorem l4Vector_ev (form v : List Int) (M : Int) (h0 : 0 ≤ M) (hM : M ≤ 1000000000) (hn : form.length ≤ 1000000) (hv : v.length ≤ 1000000) : Ev (fun k => spec_l4Vector.f k form v M) (fOk form && vOk form.length M v) := by
  unfold spec_l4Vector.f
  exact l4Vector_l form v M h0 hM hn hv v.length 0 (by omega) (by omega)
theorem l4Value_l (f v : List Int) (hv : v.length = f.length) (hn : f.length ≤ 4) (hf : ∀ x ∈ f, -31 ≤ x ∧ x ≤ 31) (bv : ∀ x ∈ v, -1000000 ≤ x ∧ x ≤ 1000000) :
    ∀ (m i : Nat) (s : Int), i + m = f.length → -(31000000000000 * i) ≤ s → s ≤ 31000000000000 * i → Ev (fun k => spec_l4Value.l0 k f v s (i : Int)) (s + dot3 (f.drop i) (v.drop i) (v.drop i)) := by
  intro m
  induction m with
  | zero =>
    intro i s h _ _
    exact Ev.step (fun k => spec_l4Value.l0.eq_2 _ _ _ _ k) (Ev.neg (by omega) (Ev.nows (by rw [dot3_nil (by omega)]; omega)))
  | succ m ih =>
    intro i s h h1 h2
    have b1 := hf _ (rd_mem (show i < f.length by omega))
    have b2 := bv _ (rd_mem (show i < v.length by omega))
    have b := mul3_bd b1 b2 b2 (by omega) (by omega)
    refine Ev.step (fun k => spec_l4Value.l0.eq_2 _ _ _ _ k) (Ev.pos (by omega) (Ev.pos (by omega) (Ev.pos (by omega) ?_)))
    rw [w64s (by omega), w64 (a := rd f (i : Int) * rd v (i : Int)) (by omega) (by omega), w64 (a := rd f (i : Int) * rd v (i : Int) * rd v (i : Int)) (by omega) (by omega), w64 (a := s + _) (by omega) (by omega), dot3_drop (show i < f.length by omega) (by omega) (by omega)]
    refine Ev.to (ih (i + 1) _ (by omega) (by omega) (by omega)) (by omega)
theorem l4Value_ev (f v : List Int) (hv : v.length = f.length) (hn : f.length ≤ 4) (hf : ∀ x ∈ f, -31 ≤ x ∧ x ≤ 31) (bv : ∀ x ∈ v, -1000000 ≤ x ∧ x ≤ 1000000) : Ev (fun k => spec_l4Value.f k f v) (dot3 f v v) := by
  unfold spec_l4Value.f
  have h := l4Value_l f v hv hn hf bv f.length 0 0 (by omega) (by omega) (by omega)
  exact Ev.to h (by simp)
theorem l5Some_ev (v : List Int) (hn : v.length ≤ 1000000) : Ev (fun k => spec_l5Some.f k v) (some0 v) := by
  have go : ∀ (m i : Nat), i + m = v.length → (∀ j, j < i → j < v.length → rd v (j : Int) = 0) → Ev (fun k => spec_l5Some.l0 k v (i : Int)) (some0 v) := by
    intro m
    induction m with
    | zero =>
      intro i h hj
      exact Ev.step (fun k => spec_l5Some.l0.eq_2 _ _ k) (Ev.neg (by omega) (Ev.nows (some0_rd.2 (fun j h1 => hj j (by omega) h1)).symm))
    | succ m ih =>
      intro i h hj
      refine Ev.step (fun k => spec_l5Some.l0.eq_2 _ _ k) (Ev.pos (by omega) (Ev.pos (by omega) ?_))
      by_cases e : rd v (i : Int) = 0
      · refine Ev.pos e ?_
        rw [w64s (by omega)]
        refine ih (i + 1) (by omega) (fun j h5 h6 => ?_)
        rcases (by omega : j < i ∨ j = i) with h7 | rfl
        · exact hj j h7 h6
        · exact e
      · refine Ev.neg e (Ev.nows ?_)
        have : some0 v ≠ false := fun k => e (some0_rd.1 k i (by omega))
        simpa using this
  unfold spec_l5Some.f
  exact go v.length 0 (by omega) (by omega)
theorem sZeroIs_ev (form v : List Int) (hn : form.length ≤ 1000000) (hv : v.length ≤ 1000000) : Ev (fun k => spec_ZeroIs.f k form v) (zeroB form v) := by
  unfold spec_ZeroIs.f zeroB
  refine Ev.bind (l4Vector_ev form v 1000000 (by omega) (by omega) hn hv) ?_
  by_cases h : (fOk form && vOk form.length 1000000 v) = true
  · refine Ev.pos h (Ev.bind (l5Some_ev v hv) ?_)
    simp only [Bool.and_eq_true] at h
    by_cases h3 : some0 v = true
    · refine Ev.pos h3 (Ev.bind (l4Value_ev form v (vOk_len h.2) (fOk_len h.1).2 (fun x hx => by have := fOk_mem h.1 x hx; omega) (vOk_mem h.2)) (Ev.nows ?_))
      rw [h.1, h.2, h3]; simp
    · exact Ev.neg h3 (Ev.nows (by simp [h3]))
  · refine Ev.neg h (Ev.nows ?_)
    rw [← Bool.and_assoc]
    simp [h]
theorem iZeroIs_ev (form v : List Int) (hf : Tame form) (hv : Tame v) : Ev (fun k => impl_ZeroIs.f k form v) (zeroB form v) := by
  unfold impl_ZeroIs.f zeroB
  refine Ev.bind (iFormValid_ev form hf) ?_
  by_cases h1 : fOk form = true
  · refine Ev.pos h1 (Ev.bind (iVectorOk_ev form v 1000000 (by omega) (by omega) (by have := hv.1; omega)) (Ev.step (fun k => impl_ZeroIs.j0.eq_2 _ _ _ k) ?_))
    by_cases h2 : vOk form.length 1000000 v = true
    · refine Ev.neg (by rw [h2]; decide) (Ev.bind (gcd_ev v (by have := hv.1; omega) hv.2) ?_)
      by_cases h3 : some0 v = true
      · have h4 : gcdL 0 v ≠ 0 := fun h => by rw [gcdL_zero, h3] at h; cases h
        refine Ev.neg (by omega) (Ev.bind (iPair_ev form v v (vOk_len h2) (vOk_len h2) (fOk_len h1).2 (fun x hx => by have := fOk_mem h1 x hx; omega) (vOk_mem h2) (vOk_mem h2)) (Ev.nows ?_))
        rw [h1, h2, h3]; simp
      · have h4 : gcdL 0 v = 0 := gcdL_zero.2 (by simpa using h3)
        refine Ev.pos (by rw [h4]; rfl) (Ev.nows ?_)
        simp [h3]
    · exact Ev.pos (by simpa using h2) (Ev.nows (by simp [h2]))
  · exact Ev.neg h1 (Ev.step (fun k => impl_ZeroIs.j0.eq_2 _ _ _ k) (Ev.pos rfl (Ev.nows (by simp [h1]))))
def negL (w : List Int) : List Int := w.map fun x => -x
theorem negL_len (w : List Int) : (negL w).length = w.length := by unfold negL; rw [List.length_map]
theorem minusOf_l (w : List Int) (hl : w.length ≤ 1000) (hb : ∀ x ∈ w, -9000000000000000000 ≤ x ∧ x ≤ 9000000000000000000) : ∀ (m i : Nat), i + m = w.length → Ev (fun k => laws_minusOf.l0 k w (negL (w.take i)) (i : Int)) (negL w) := by
  intro m
  induction m with
  | zero =>
    intro i h
    exact Ev.step (fun k => laws_minusOf.l0.eq_2 _ _ _ k) (Ev.neg (by omega) (Ev.nows (by rw [List.take_of_length_le (by omega)])))
  | succ m ih =>
    intro i h
    have hi : i < w.length := by omega
    have b := hb _ (rd_mem hi)
    have hc : (negL (w.take i)).length = i := by rw [negL_len, List.length_take]; omega
    refine Ev.step (fun k => laws_minusOf.l0.eq_2 _ _ _ k) (Ev.pos (by omega) (Ev.pos (by omega) (Ev.pos (by omega) ?_)))
    rw [w64s (by omega), w64 (a := -rd w (i : Int)) (by omega) (by omega)]
    have e : negL (w.take i) ++ [-rd w (i : Int)] = negL (w.take (i + 1)) := by
      rw [take_s hi]; unfold negL; rw [List.map_append, rd_at]; simp [hi]
    rw [e]
    exact ih (i + 1) (by omega)
theorem minusOf_ev (w : List Int) (hl : w.length ≤ 1000) (hb : ∀ x ∈ w, -9000000000000000000 ≤ x ∧ x ≤ 9000000000000000000) : Ev (fun k => laws_minusOf.f k w) (negL w) := by
  unfold laws_minusOf.f
  exact minusOf_l w hl hb w.length 0 (by omega)
theorem kk_cases {c : Int} (h0 : 0 ≤ c) (h1 : c < 5) : -3 ≤ rd [1, 2, (-1), (-3), 1] c ∧ rd [1, 2, (-1), (-3), 1] c ≤ 2 := by
  rcases (by omega : c = 0 ∨ c = 1 ∨ c = 2 ∨ c = 3 ∨ c = 4) with rfl | rfl | rfl | rfl | rfl <;> decide
theorem mul_l (form v s : List Int) (q : Int) (kk : Int) (hk : -3 ≤ kk ∧ kk ≤ 2) (hl : v.length ≤ 4) (hb : ∀ x ∈ v, -1000000000000000 ≤ x ∧ x ≤ 1000000000000000) : ∀ (m i : Nat) (out : List Int), i + m = v.length → out.length = i → (∀ x ∈ out, -3000000000000000 ≤ x ∧ x ≤ 3000000000000000) →
    ∃ w : List Int, w.length = v.length ∧ (∀ x ∈ w, -3000000000000000 ≤ x ∧ x ≤ 3000000000000000) ∧ Ev (fun k => spec_l92Zero.l0 k form v out kk (i : Int) s q) (form, w, q) := by
  intro m
  induction m with
  | zero =>
    intro i out h ho hw
    exact ⟨out, by omega, hw, Ev.step (fun k => spec_l92Zero.l0.eq_2 _ _ _ _ _ _ _ k) (Ev.neg (by omega) (Ev.now _))⟩
  | succ m ih =>
    intro i out h ho hw
    have hi : i < v.length := by omega
    have hx := hb _ (rd_mem hi)
    have hm := mul2_bd (a := kk) (b := rd v (i : Int)) (A := 3) (B := 1000000000000000) (by omega) hx
    obtain ⟨w, w1, w2, w3⟩ := ih (i + 1) (out ++ [kk * rd v (i : Int)]) (by omega) (by rw [List.length_append]; simp; omega) (fun x hx => by
      rcases List.mem_append.1 hx with hx | hx
      · exact hw x hx
      · rw [List.mem_singleton] at hx; omega)
    refine ⟨w, w1, w2, Ev.step (fun k => spec_l92Zero.l0.eq_2 _ _ _ _ _ _ _ k) (Ev.pos (by omega) (Ev.pos (by omega) (Ev.pos (by omega) ?_)))⟩
    rw [w64 (a := kk * rd v (i : Int)) (by omega) (by omega), w64s (by omega)]
    exact w3
theorem draw_ev {s l : List Int} (hs : IsCode s) (ho : spec_l6Open.f l = some (s, 0)) : ∃ (form v : List Int), Drawn form ∧ v.length ≤ 4 ∧ (∀ x ∈ v, -3000000000000000 ≤ x ∧ x ≤ 3000000000000000) ∧ Ev (fun k => spec_DrawZeroIs.f k l) (form, v) := by
  obtain ⟨a, a0, a1, ha⟩ := pick_ev' hs 0 3 (by omega) (by omega)
  obtain ⟨n, hn⟩ : ∃ n : Nat, 2 + a = (n : Int) := ⟨(2 + a).toNat, by omega⟩
  obtain ⟨form, q, hD, hl, hq, hf⟩ := formN_ev hs n (by omega) (by omega) (0 + 1) (by omega)
  obtain ⟨R, R0, R1⟩ := zeroFindN_ev hD
  obtain ⟨V, f⟩ := R
  obtain ⟨w, w1, w2, w3⟩ := l91V_ev hs q (by omega) form 4 (by omega) (by omega) (by have := hD.1; omega)
  obtain ⟨w', w1', w2', w3'⟩ := l91V_ev hs (q + 1) (by omega) form 4 (by omega) (by omega) (by have := hD.1; omega)
  obtain ⟨b, b0, b1, hb⟩ := pick_ev' hs q 4 (by omega) (by omega)
  obtain ⟨c, c0, c1, hc⟩ := pick_ev' hs (q + 1) 5 (by omega) (by omega)
  have hl4 := hD.1
  have zer : ∃ (v : List Int) (r : Int), v.length ≤ 4 ∧ (∀ x ∈ v, -3000000000000000 ≤ x ∧ x ≤ 3000000000000000) ∧ Ev (fun k => spec_l92Zero.f k s 0) (form, v, r) := by
    unfold spec_l92Zero.f
    have pre : ∀ R, Ev (fun k => if f = true then ((spec_l6Rd_pick.f k s (q : Int) 4).bind fun bt341 => (spec_l92Zero.j0 k form V (decide (bt341.1 > 0)) s bt341.2)) else (spec_l92Zero.j0 k form V false s (q : Int))) R →
        Ev (fun k => (spec_l6Rd_pick.f k s 0 3).bind fun bt331 => ((spec_l92Form.f k s bt331.2 (wrap64 (2 + bt331.1))).bind fun bt333 => ((spec_ZeroFind.f k bt333.1).bind fun bt337 => (if bt337.2 = true then ((spec_l6Rd_pick.f k s bt333.2 4).bind fun bt341 => (spec_l92Zero.j0 k bt333.1 bt337.1 (decide (bt341.1 > 0)) s bt341.2)) else (spec_l92Zero.j0 k bt333.1 bt337.1 false s bt333.2))))) R := by
      intro R hR
      refine Ev.bind ha ?_
      simp only
      rw [w64 (a := 2 + a) (by omega) (by omega), hn]
      exact Ev.bind hf (Ev.bind R1 hR)
    cases f with
    | true =>
      by_cases h : b > 0
      · obtain ⟨u, u1, u2, u3⟩ := mul_l form V s ((q + 1 + 1 : Nat) : Int) _ (kk_cases c0 c1) R0.1 R0.2 V.length 0 [] (by omega) rfl (by simp)
        refine ⟨u, ((q + 1 + 1 : Nat) : Int), by have : V.length ≤ 4 := R0.1; omega, u2, pre _ (Ev.pos rfl (Ev.bind hb ?_))⟩
        simp only
        rw [decide_eq_true h]
        exact Ev.step (fun k => spec_l92Zero.j0.eq_2 _ _ _ _ _ k) (Ev.pos rfl (Ev.bind0 rfl (Ev.bind hc (Ev.pos c0 (Ev.pos c1 u3)))))
      · refine ⟨w', ((q + 1 + form.length : Nat) : Int), by omega, fun x hx => by have := w2' x hx; omega, pre _ (Ev.pos rfl (Ev.bind hb ?_))⟩
        simp only
        rw [decide_eq_false h]
        exact Ev.step (fun k => spec_l92Zero.j0.eq_2 _ _ _ _ _ k) (Ev.neg (by simp) (Ev.bind w3' (Ev.now _)))
    | false =>
      exact ⟨w, ((q + form.length : Nat) : Int), by omega, fun x hx => by have := w2 x hx; omega, pre _ (Ev.neg (by simp) (Ev.step (fun k => spec_l92Zero.j0.eq_2 _ _ _ _ _ k) (Ev.neg (by simp) (Ev.bind w3 (Ev.now _)))))⟩
  obtain ⟨v, r, v1, v2, v3⟩ := zer
  unfold spec_DrawZeroIs.f
  exact ⟨form, v, hD, v1, v2, Ev.bind0 ho (Ev.bind v3 (Ev.now _))⟩
theorem zero_neg {f v : List Int} (h : zeroB f v = true) : zeroB f (negL v) = true := by
  obtain ⟨z1, z2, z3, z4⟩ := zB_of h
  have e : negL v = v.map ((-1 : Int) * ·) := by unfold negL; exact List.map_congr_left (fun x _ => by omega)
  have hl := vOk_len z2
  unfold zeroB
  simp only [Bool.and_eq_true, beq_iff_eq]
  refine ⟨z1, ?_, ?_, ?_⟩
  · unfold vOk
    refine decide_eq_true ⟨by rw [negL_len]; exact hl, fun x hx => ?_⟩
    unfold negL at hx
    obtain ⟨y, hy, rfl⟩ := List.mem_map.1 hx
    have := vOk_mem z2 y hy
    omega
  · unfold some0 at z3 ⊢
    rw [List.any_eq_true] at z3 ⊢
    obtain ⟨x, hx, x0⟩ := z3
    exact ⟨-x, by unfold negL; exact List.mem_map.2 ⟨x, hx, rfl⟩, by simp at x0 ⊢; exact x0⟩
  · rw [e, dot_scale, z4]; rfl
end FnZeroFun
open FnZeroFun
theorem FnZero : laws_FnZero.Pure := by
  intro l _ _ hw
  refine Ev.rounds (r := true) ?_
  unfold laws_FnZero.f
  by_cases hl : (l.length : Int) > 1048576
  · exact Ev.pos hl (Ev.now _)
  · refine Ev.neg hl ?_
    obtain ⟨c, hs, ho⟩ := open_ev hw
    obtain ⟨form, v, hD, hvl, hvb, hdraw⟩ := draw_ev hs ho
    have hf := drawn_tame hD
    have hv : Tame v := ⟨by omega, fun x hx => by have := hvb x hx; omega⟩
    refine Ev.bind hdraw (Ev.bind (iZeroIs_ev form v hf hv) (Ev.bind (sZeroIs_ev form v hf.1 hv.1) (Ev.neg (by simp) (Ev.step (fun k => laws_FnZero.j0.eq_2 _ _ _ _ _ k) ?_))))
    by_cases h : zeroB form v = true
    · have hb := minusOf_ev v (by omega) (fun x hx => by have := hvb x hx; omega)
      have hn : Tame (negL v) := ⟨by rw [negL_len]; omega, fun x hx => by unfold negL at hx; obtain ⟨y, hy, rfl⟩ := List.mem_map.1 hx; have := hvb y hy; omega⟩
      refine Ev.neg (by simp [h]) (Ev.bind (iBad_zero hf h) (Ev.pos (by simp) (Ev.bind hb (Ev.bind (iZeroIs_ev form (negL v) hf hn) (Ev.pos (zero_neg h) ?_)))))
      by_cases h3 : (form.length : Int) > 3
      · exact Ev.pos h3 (Ev.now _)
      · exact Ev.neg h3 (Ev.bind (iModulo_ev (p := 2) (m := 2) (e := 1) hf h (by omega) (by omega) (by omega) (by omega) (by decide) (by omega) prime_two (power_one (.inl rfl)))
          (Ev.pos rfl (Ev.bind (iModulo_ev (p := 3) (m := 3) (e := 1) hf h (by omega) (by omega) (by omega) (by omega) (by decide) (by omega) prime_three (power_one (.inr rfl)))
          (Ev.pos rfl (Ev.bind (iModulo_ev (p := 3) (m := 9) (e := 2) hf h (by omega) (by omega) (by omega) (by omega) (by decide) (by omega) prime_three power_nine) (Ev.now _))))))
    · exact Ev.pos (by simpa using h) (Ev.nows (by simp))
end Go.Proofs.Ytpjgcjkodmkemaa.Pure
