/- The law FnConicMany holds: each heading meets another zero. For every list of bytes; no condition. -/
import Derived.Test.YtpaohkhmhdhibaaPFnConicManyx
import Derived.Test.YtpaohkhmhdhibaaRun
import Derived.Test.YtpaohkhmhdhibaaCon
namespace Go.Proofs.Ytpaohkhmhdhibaa.Pure
open Go.RowKit Go.Proofs.Ytpaohkhmhdhibaa.PFnConicMany Go.Proofs.YtpaohkhmhdhibaaW.PrintWords Go.Proofs.YtpaohkhmhdhibaaW.PrintLast Go.Proofs.YtpaohkhmhdhibaaW.PrintMore Go.Proofs.Ytpaohkhmhdhibaa.Aid
namespace FnConicManyFun
set_option linter.unusedVariables false
theorem in_eq (a b c : Int) : spec_l6In.f a b c = some (decide (b ≤ a ∧ a ≤ c)) := by
  unfold spec_l6In.f
  by_cases h : b ≤ a <;> simp [h]
theorem size_eq {x : Int} (h : -9223372036854775807 ≤ x) (h1 : x ≤ 9223372036854775807) : impl_size.f x = some (x.natAbs : Int) := by
  unfold impl_size.f; rw [mx_abs h h1]
theorem gcd_l1 (xs : List Int) (n i : Int) (r : Int) : ∀ (B b a : Nat), b ≤ B → Ev (fun k => impl_gcd.l0 k (Nat.gcd a b : Int) xs n (wrap64 (i + 1))) r → Ev (fun k => impl_gcd.l1 k (a : Int) (b : Int) xs n i) r := by
  intro B
  induction B with
  | zero =>
    intro b a h hr
    obtain rfl : b = 0 := by omega
    refine Ev.step (fun k => impl_gcd.l1.eq_2 _ _ _ _ _ k) (Ev.pos rfl ?_)
    simpa using hr
  | succ B ih =>
    intro b a h hr
    rcases Nat.eq_zero_or_pos b with rfl | hb
    · refine Ev.step (fun k => impl_gcd.l1.eq_2 _ _ _ _ _ k) (Ev.pos rfl ?_)
      simpa using hr
    · refine Ev.step (fun k => impl_gcd.l1.eq_2 _ _ _ _ _ k) (Ev.neg (by omega) ?_)
      have e : Int.tmod (a : Int) (b : Int) = ((a % b : Nat) : Int) := by rw [Int.tmod_eq_emod_of_nonneg (by omega)]; rfl
      rw [e]
      refine ih (a % b) b (by have := Nat.mod_lt a hb; omega) ?_
      rwa [show Nat.gcd b (a % b) = Nat.gcd a b by rw [Nat.gcd_comm a b, Nat.gcd_rec b a, Nat.gcd_comm]]
theorem gcd_l0 (xs : List Int) (hn : xs.length ≤ 17592186044416) (hb : ∀ x ∈ xs, -9223372036854775807 ≤ x ∧ x ≤ 9223372036854775807) : ∀ (m i g : Nat), i + m = xs.length → Ev (fun k => impl_gcd.l0 k (g : Int) xs (xs.length : Int) (i : Int)) (gcdL g (xs.drop i) : Int) := by
  intro m
  induction m with
  | zero =>
    intro i g h
    refine Ev.step (fun k => impl_gcd.l0.eq_2 _ _ _ _ k) (Ev.neg (by omega) (Ev.nows ?_))
    rw [List.drop_of_length_le (by omega)]; rfl
  | succ m ih =>
    intro i g h
    have hx := hb _ (rd_mem (show i < xs.length by omega))
    refine Ev.step (fun k => impl_gcd.l0.eq_2 _ _ _ _ k) (Ev.pos (by omega) (Ev.pos (by omega) (Ev.pos (by omega) (Ev.bind0 (size_eq hx.1 hx.2) ?_))))
    refine gcd_l1 _ _ _ _ _ _ _ (Nat.le_refl _) ?_
    rw [w64s (by omega), drop_rd (show i < xs.length by omega)]
    exact ih (i + 1) _ (by omega)
theorem gcd_ev (xs : List Int) (hn : xs.length ≤ 17592186044416) (hb : ∀ x ∈ xs, -9223372036854775807 ≤ x ∧ x ≤ 9223372036854775807) : Ev (fun k => impl_gcd.f k xs) (gcdL 0 xs : Int) := by
  unfold impl_gcd.f
  exact gcd_l0 xs hn hb xs.length 0 0 (by omega)
theorem l1Size_eq {x : Int} (h : -9223372036854775807 ≤ x) (h1 : x ≤ 9223372036854775807) : spec_l1Size.f x = some (x.natAbs : Int) := by
  unfold spec_l1Size.f; rw [mx_abs h h1]
theorem l1Gcd_l : ∀ (B b a : Nat), b ≤ B → Ev (fun k => spec_l1Gcd.l0 k (a : Int) (b : Int)) (Nat.gcd a b : Int) := by
  intro B
  induction B with
  | zero =>
    intro b a h
    obtain rfl : b = 0 := by omega
    exact Ev.step (fun k => spec_l1Gcd.l0.eq_2 _ _ k) (Ev.pos rfl (Ev.nows (by simp)))
  | succ B ih =>
    intro b a h
    rcases Nat.eq_zero_or_pos b with rfl | hb
    · exact Ev.step (fun k => spec_l1Gcd.l0.eq_2 _ _ k) (Ev.pos rfl (Ev.nows (by simp)))
    · refine Ev.step (fun k => spec_l1Gcd.l0.eq_2 _ _ k) (Ev.neg (by omega) ?_)
      have e : Int.tmod (a : Int) (b : Int) = ((a % b : Nat) : Int) := by rw [Int.tmod_eq_emod_of_nonneg (by omega)]; rfl
      rw [e]
      refine Ev.to (ih (a % b) b (by have := Nat.mod_lt a hb; omega)) ?_
      rw [show Nat.gcd b (a % b) = Nat.gcd a b by rw [Nat.gcd_comm a b, Nat.gcd_rec b a, Nat.gcd_comm]]
theorem l1Gcd_ev {a b : Int} (ha : -9223372036854775807 ≤ a) (ha1 : a ≤ 9223372036854775807) (hb : -9223372036854775807 ≤ b) (hb1 : b ≤ 9223372036854775807) : Ev (fun k => spec_l1Gcd.f k a b) (Nat.gcd a.natAbs b.natAbs : Int) := by
  unfold spec_l1Gcd.f
  exact Ev.bind0 (l1Size_eq ha ha1) (Ev.bind0 (l1Size_eq hb hb1) (l1Gcd_l _ _ _ (Nat.le_refl _)))
theorem fOk_no {form : List Int} {x : Int} (h : x ∈ form) (hx : ¬ (x ≠ 0 ∧ -30 ≤ x ∧ x ≤ 30)) : fOk form = false := by
  unfold fOk; exact decide_eq_false (fun k => hx (k.2.2 x h))
theorem fOk_end {xs : List Int} (h : ∀ j, j < xs.length → rd xs (j : Int) ≠ 0 ∧ -30 ≤ rd xs (j : Int) ∧ rd xs (j : Int) ≤ 30) : fOk xs = decide (1 ≤ xs.length ∧ xs.length ≤ 4) := by
  have ha : ∀ x ∈ xs, x ≠ 0 ∧ -30 ≤ x ∧ x ≤ 30 := by
    intro x hx
    obtain ⟨j, hj, rfl⟩ := List.getElem_of_mem hx
    have := h j hj
    rwa [rd_at, List.getD_eq_getElem?_getD, List.getElem?_eq_getElem hj] at this
  unfold fOk
  by_cases h4 : 1 ≤ xs.length ∧ xs.length ≤ 4
  · rw [decide_eq_true h4]; exact decide_eq_true ⟨h4.1, h4.2, ha⟩
  · rw [decide_eq_false h4]; exact decide_eq_false (fun k => h4 ⟨k.1, k.2.1⟩)
theorem iFormValid_l (xs : List Int) (ht : Tame xs) : ∀ (m i : Nat), i + m = xs.length → (∀ j, j < i → j < xs.length → rd xs (j : Int) ≠ 0 ∧ -30 ≤ rd xs (j : Int) ∧ rd xs (j : Int) ≤ 30) →
    Ev (fun k => impl_FormValid.l0 k xs xs (xs.length : Int) (i : Int)) (fOk xs) := by
  have hn := ht.1
  intro m
  induction m with
  | zero =>
    intro i h hj
    have e := fOk_end (xs := xs) (fun j hj1 => hj j (by omega) hj1)
    refine Ev.step (fun k => impl_FormValid.l0.eq_2 _ _ _ _ k) (Ev.neg (by omega) ?_)
    by_cases h1 : (xs.length : Int) ≥ 1
    · refine Ev.pos h1 (Ev.nows ?_)
      rw [e, decide_eq_decide]; omega
    · refine Ev.neg h1 (Ev.nows ?_)
      rw [e]; exact (decide_eq_false (by omega)).symm
  | succ m ih =>
    intro i h hj
    have hb := ht.2 _ (rd_mem (show i < xs.length by omega))
    refine Ev.step (fun k => impl_FormValid.l0.eq_2 _ _ _ _ k) (Ev.pos (by omega) (Ev.pos (by omega) (Ev.pos (by omega) ?_)))
    by_cases h1 : rd xs (i : Int) = 0
    · exact Ev.pos h1 (Ev.nows (fOk_no (rd_mem (by omega)) (fun k => k.1 h1)).symm)
    · refine Ev.neg h1 (Ev.bind0 (size_eq hb.1 hb.2) ?_)
      by_cases h2 : (((rd xs (i : Int)).natAbs : Nat) : Int) > 30
      · exact Ev.pos h2 (Ev.nows (fOk_no (rd_mem (show i < xs.length by omega)) (by omega)).symm)
      · refine Ev.neg h2 ?_
        rw [w64s (by omega)]
        refine ih (i + 1) (by omega) (fun j h5 h6 => ?_)
        rcases (by omega : j < i ∨ j = i) with h7 | rfl
        · exact hj j h7 h6
        · exact ⟨h1, by omega, by omega⟩
theorem iFormValid_ev (xs : List Int) (ht : Tame xs) : Ev (fun k => impl_FormValid.f k xs) (fOk xs) := by
  unfold impl_FormValid.f
  exact iFormValid_l xs ht xs.length 0 (by omega) (by omega)
theorem vOk_no {n : Nat} {most : Int} {v : List Int} {x : Int} (h : x ∈ v) (hx : ¬ (-most ≤ x ∧ x ≤ most)) : vOk n most v = false := by
  unfold vOk; exact decide_eq_false (fun k => hx (k.2 x h))
theorem vOk_end {n : Nat} {most : Int} {v : List Int} (h : ∀ j, j < v.length → -most ≤ rd v (j : Int) ∧ rd v (j : Int) ≤ most) : vOk n most v = ((v.length : Int) == (n : Int)) := by
  have ha : ∀ x ∈ v, -most ≤ x ∧ x ≤ most := by
    intro x hx
    obtain ⟨j, hj, rfl⟩ := List.getElem_of_mem hx
    have := h j hj
    rwa [rd_at, List.getD_eq_getElem?_getD, List.getElem?_eq_getElem hj] at this
  unfold vOk
  by_cases h4 : v.length = n
  · rw [decide_eq_true (show _ from ⟨h4, ha⟩), h4]; simp
  · rw [decide_eq_false (fun k => h4 k.1)]; simp; omega
theorem iVectorOk_l (form v : List Int) (most : Int) (hm0 : 0 ≤ most) (hm : most ≤ 1000000000) (hn : v.length ≤ 17592186044416) : ∀ (m i : Nat), i + m = v.length → (∀ j, j < i → j < v.length → -most ≤ rd v (j : Int) ∧ rd v (j : Int) ≤ most) →
    Ev (fun k => impl_vectorOk.l0 k form v most v (v.length : Int) (i : Int)) (vOk form.length most v) := by
  intro m
  induction m with
  | zero =>
    intro i h hj
    exact Ev.step (fun k => impl_vectorOk.l0.eq_2 _ _ _ _ _ _ k) (Ev.neg (by omega) (Ev.nows (vOk_end (fun j h1 => hj j (by omega) h1)).symm))
  | succ m ih =>
    intro i h hj
    refine Ev.step (fun k => impl_vectorOk.l0.eq_2 _ _ _ _ _ _ k) (Ev.pos (by omega) (Ev.pos (by omega) (Ev.pos (by omega) ?_)))
    rw [w64 (a := -most) (by omega) (by omega)]
    by_cases h1 : rd v (i : Int) < -most
    · exact Ev.pos h1 (Ev.nows (vOk_no (rd_mem (show i < v.length by omega)) (by omega)).symm)
    · refine Ev.neg h1 ?_
      by_cases h2 : rd v (i : Int) > most
      · exact Ev.pos h2 (Ev.nows (vOk_no (rd_mem (show i < v.length by omega)) (by omega)).symm)
      · refine Ev.neg h2 ?_
        rw [w64s (by omega)]
        refine ih (i + 1) (by omega) (fun j h5 h6 => ?_)
        rcases (by omega : j < i ∨ j = i) with h7 | rfl
        · exact hj j h7 h6
        · exact ⟨by omega, by omega⟩
theorem iVectorOk_ev (form v : List Int) (most : Int) (hm0 : 0 ≤ most) (hm : most ≤ 1000000000) (hn : v.length ≤ 17592186044416) : Ev (fun k => impl_vectorOk.f k form v most) (vOk form.length most v) := by
  unfold impl_vectorOk.f
  exact iVectorOk_l form v most hm0 hm hn v.length 0 (by omega) (by omega)
theorem dot3_drop {f v w : List Int} {i : Nat} (hf : i < f.length) (hv : i < v.length) (hw : i < w.length) :
    dot3 (f.drop i) (v.drop i) (w.drop i) = rd f (i : Int) * rd v (i : Int) * rd w (i : Int) + dot3 (f.drop (i + 1)) (v.drop (i + 1)) (w.drop (i + 1)) := by
  rw [drop_rd hf, drop_rd hv, drop_rd hw]; rfl
theorem dot3_nil {f v w : List Int} {i : Nat} (hf : f.length ≤ i) : dot3 (f.drop i) (v.drop i) (w.drop i) = 0 := by
  rw [List.drop_of_length_le hf]; rfl
theorem iPair_l (f v w : List Int) (hv : v.length = f.length) (hw : w.length = f.length) (hn : f.length ≤ 4) (hf : ∀ x ∈ f, -31 ≤ x ∧ x ≤ 31) (bv : ∀ x ∈ v, -1000000 ≤ x ∧ x ≤ 1000000) (bw : ∀ x ∈ w, -1000000 ≤ x ∧ x ≤ 1000000) :
    ∀ (m i : Nat) (s : Int), i + m = f.length → -(31000000000000 * i) ≤ s → s ≤ 31000000000000 * i → Ev (fun k => impl_pair.l0 k v w s f (f.length : Int) (i : Int)) (s + dot3 (f.drop i) (v.drop i) (w.drop i)) := by
  intro m
  induction m with
  | zero =>
    intro i s h _ _
    exact Ev.step (fun k => impl_pair.l0.eq_2 _ _ _ _ _ _ k) (Ev.neg (by omega) (Ev.nows (by rw [dot3_nil (by omega)]; omega)))
  | succ m ih =>
    intro i s h h1 h2
    have b1 := hf _ (rd_mem (show i < f.length by omega))
    have b2 := bv _ (rd_mem (show i < v.length by omega))
    have b3 := bw _ (rd_mem (show i < w.length by omega))
    have b := mul3_bd b1 b2 b3 (by omega) (by omega)
    refine Ev.step (fun k => impl_pair.l0.eq_2 _ _ _ _ _ _ k) (Ev.pos (by omega) (Ev.pos (by omega) (Ev.pos (by omega) (Ev.pos (by omega) (Ev.pos (by omega) ?_)))))
    rw [w64s (by omega), w64 (a := rd f (i : Int) * rd v (i : Int)) (by omega) (by omega), w64 (a := rd f (i : Int) * rd v (i : Int) * rd w (i : Int)) (by omega) (by omega), w64 (a := s + _) (by omega) (by omega), dot3_drop (show i < f.length by omega) (by omega) (by omega)]
    refine Ev.to (ih (i + 1) _ (by omega) (by omega) (by omega)) (by omega)
theorem iPair_ev (f v w : List Int) (hv : v.length = f.length) (hw : w.length = f.length) (hn : f.length ≤ 4) (hf : ∀ x ∈ f, -31 ≤ x ∧ x ≤ 31) (bv : ∀ x ∈ v, -1000000 ≤ x ∧ x ≤ 1000000) (bw : ∀ x ∈ w, -1000000 ≤ x ∧ x ≤ 1000000) :
    Ev (fun k => impl_pair.f k f v w) (dot3 f v w) := by
  unfold impl_pair.f
  have h := iPair_l f v w hv hw hn hf bv bw f.length 0 0 (by omega) (by omega) (by omega)
  exact Ev.to h (by simp)
theorem sFormValid_l (xs : List Int) (hn : xs.length ≤ 1000000) : ∀ (m i : Nat), i + m = xs.length → (∀ j, j < i → j < xs.length → rd xs (j : Int) ≠ 0 ∧ -30 ≤ rd xs (j : Int) ∧ rd xs (j : Int) ≤ 30) →
    Ev (fun k => spec_FormValid.l0 k xs (i : Int)) (fOk xs) := by
  intro m
  induction m with
  | zero =>
    intro i h hj
    refine Ev.step (fun k => spec_FormValid.l0.eq_2 _ _ k) (Ev.neg (by omega) (Ev.bind0 (in_eq _ _ _) (Ev.nows ?_)))
    rw [fOk_end (fun j h1 => hj j (by omega) h1)]
    exact decide_eq_decide.2 ⟨fun h => by omega, fun h => by omega⟩
  | succ m ih =>
    intro i h hj
    refine Ev.step (fun k => spec_FormValid.l0.eq_2 _ _ k) (Ev.pos (by omega) (Ev.pos (by omega) ?_))
    by_cases h1 : rd xs (i : Int) = 0
    · exact Ev.pos h1 (Ev.nows (fOk_no (rd_mem (show i < xs.length by omega)) (by omega)).symm)
    · refine Ev.neg h1 (Ev.bind0 (in_eq _ _ _) ?_)
      by_cases h2 : -30 ≤ rd xs (i : Int) ∧ rd xs (i : Int) ≤ 30
      · refine Ev.pos (decide_eq_true h2) ?_
        rw [w64s (by omega)]
        refine ih (i + 1) (by omega) (fun j h5 h6 => ?_)
        rcases (by omega : j < i ∨ j = i) with h7 | rfl
        · exact hj j h7 h6
        · exact ⟨h1, h2⟩
      · refine Ev.neg (by simpa using h2) (Ev.nows ?_)
        exact (fOk_no (rd_mem (show i < xs.length by omega)) (fun k => h2 k.2)).symm
theorem sFormValid_ev (xs : List Int) (hn : xs.length ≤ 1000000) : Ev (fun k => spec_FormValid.f k xs) (fOk xs) := by
  unfold spec_FormValid.f
  exact sFormValid_l xs hn xs.length 0 (by omega) (by omega)
theorem pick_ev {s : List Int} (hs : IsCode s) (p n : Nat) (hp : p ≤ 20000000000000000) (hn : 1 ≤ n) : Ev (fun k => spec_l6Rd_pick.f k s (p : Int) (n : Int)) ((pickv s p n : Int), ((p + 1 : Nat) : Int)) := by
  unfold spec_l6Rd_pick.f
  rw [w64s (by omega)]
  refine Ev.neg (by omega) (Ev.step (fun k => spec_l6Rd_pick.j0.eq_2 _ _ _ _ k) ?_)
  have hl := hs.1
  by_cases h0 : s.length = 0
  · exact Ev.pos (by simp [h0]) (Ev.nows (by unfold pickv; rw [if_pos h0]; rfl))
  · refine Ev.neg (by simp; simpa using h0) ?_
    rw [show ((p + 1 : Nat) : Int) - 1 = (p : Int) by omega, w64 (a := (p : Int)) (by omega) (by omega)]
    by_cases h1 : p < s.length
    · refine Ev.pos (by omega) (Ev.pos (by omega) (Ev.neg (by omega) (Ev.nows ?_)))
      have hb := code_at hs p
      unfold pickv
      rw [if_neg h0, if_pos h1, rd_at, w64 (by omega) (by omega), Int.tmod_eq_emod_of_nonneg hb.1, Int.natCast_emod, Int.toNat_of_nonneg hb.1]
    · refine Ev.neg (by omega) (Ev.neg (by omega) ?_)
      have e1 : Int.tmod (p : Int) (s.length : Int) = ((p % s.length : Nat) : Int) := by rw [Int.tmod_eq_emod_of_nonneg (by omega)]; rfl
      have e2 : Int.tmod (wrap64 (wrap64 ((p : Int) * 7) + 3)) (s.length : Int) = (((p * 7 + 3) % s.length : Nat) : Int) := by
        rw [w64 (a := (p : Int) * 7) (by omega) (by omega), w64 (by omega) (by omega), Int.tmod_eq_emod_of_nonneg (by omega)]; rfl
      have m1 : p % s.length < s.length := Nat.mod_lt _ (by omega)
      have m2 : (p * 7 + 3) % s.length < s.length := Nat.mod_lt _ (by omega)
      rw [e1, e2]
      refine Ev.pos (by omega) (Ev.pos (by omega) (Ev.pos (by omega) (Ev.pos (by omega) (Ev.neg (by omega) (Ev.nows ?_)))))
      have hb1 := code_at hs (p % s.length)
      have hb2 := code_at hs ((p * 7 + 3) % s.length)
      have hd : p / s.length ≤ p := Nat.div_le_self _ _
      have e3 : wrap64 (Int.tdiv (p : Int) (s.length : Int)) = ((p / s.length : Nat) : Int) := by
        rw [Int.tdiv_eq_ediv_of_nonneg (by omega), show (p : Int) / (s.length : Int) = ((p / s.length : Nat) : Int) from rfl]
        generalize p / s.length = q at *
        exact w64 (by omega) (by omega)
      have hm := mixed_le hs p
      have e4 : wrap64 ((wrap64 ((wrap64 ((wrap64 ((wrap64 (rd s ((p % s.length : Nat) : Int))) * 131)) + (wrap64 ((wrap64 (rd s (((p * 7 + 3) % s.length : Nat) : Int))) * 1117)))) + (wrap64 ((p : Int) * 29)))) + (wrap64 ((wrap64 (Int.tdiv (p : Int) (s.length : Int))) * 53))) = ((mixed s p : Nat) : Int) := by
        rw [e3, rd_at, rd_at, mix_wrap (s.getD (p % s.length) 0) (s.getD ((p * 7 + 3) % s.length) 0) (p : Int) ((p / s.length : Nat) : Int) hb1.1 hb1.2 hb2.1 hb2.2 (Int.natCast_nonneg _) (Int.ofNat_le.2 hp) (Int.natCast_nonneg _) (Int.ofNat_le.2 hd)]
        exact (mixed_int hs p).symm
      rw [e4]
      have e5 : wrap64 (Int.tdiv ((mixed s p : Nat) : Int) 64) = ((mixed s p / 64 : Nat) : Int) := by
        generalize mixed s p = M at *
        rw [Int.tdiv_eq_ediv_of_nonneg (by omega)]; exact w64 (by omega) (by omega)
      rw [e5, xor_i64 _ _ (by omega) (by omega), Int.tmod_eq_emod_of_nonneg (by omega)]
      unfold pickv
      rw [if_neg h0, if_neg h1]
      rfl
theorem pick_ev' {s : List Int} (hs : IsCode s) (p : Nat) (n : Int) (hp : p ≤ 20000000000000000) (hn : 1 ≤ n) : ∃ r : Int, 0 ≤ r ∧ r < n ∧ Ev (fun k => spec_l6Rd_pick.f k s (p : Int) n) (r, ((p + 1 : Nat) : Int)) := by
  obtain ⟨m, rfl⟩ : ∃ m : Nat, n = m := ⟨n.toNat, by omega⟩
  have h := pickv_lt s p (n := m) (by omega)
  exact ⟨_, by omega, by omega, pick_ev hs p m hp (by omega)⟩
theorem open_ev {l : List Int} (hw : ∀ x ∈ l, (Lit.int .u8 x).wf = true) : ∃ s, IsCode s ∧ spec_l6Open.f l = some (s, 0) := by
  have hb : ∀ x ∈ l, 0 ≤ x ∧ x ≤ 255 := fun x hx => by
    have := hw x hx
    simp [Lit.wf, IntKind.min, IntKind.max, IntKind.signed, IntKind.bits] at this; omega
  unfold spec_l6Open.f
  by_cases h : (l.length : Int) > 2000
  · rw [if_pos h, if_pos (by omega)]
    exact ⟨l.take 2000, ⟨by rw [List.length_take]; omega, fun x hx => hb x (List.mem_of_mem_take hx)⟩, rfl⟩
  · rw [if_neg h]
    exact ⟨l, ⟨by omega, hb⟩, rfl⟩
theorem one_ev {s : List Int} (hs : IsCode s) (p : Nat) (hp : p ≤ 19000000000000000) :
    (pickv s (p + 3) 40 = 1 ∧ Ev (fun k => spec_l91Form.f k s (p : Int) 1) ([], ((p + 4 : Nat) : Int))) ∨ (pickv s (p + 3) 40 ≠ 1 ∧ ∃ (x : Int) (q : Nat), -31 ≤ x ∧ x ≤ 31 ∧ q ≤ p + 5 ∧ Ev (fun k => spec_l91Form.f k s (p : Int) 1) ([x], (q : Int))) := by
  have h1 := pick_ev hs p 1 (by omega) (by omega)
  have z1 := pickv_lt s p (n := 1) (by omega)
  rw [show pickv s p 1 = 0 by omega] at h1
  obtain ⟨a, a0, a1, ha⟩ := pick_ev' hs (p + 1) 16 (by omega) (by omega)
  obtain ⟨b, b0, b1, hb⟩ := pick_ev' hs (p + 1 + 1) 5 (by omega) (by omega)
  have h4 := pick_ev hs (p + 1 + 1 + 1) 40 (by omega) (by omega)
  have z4 := pickv_lt s (p + 1 + 1 + 1) (n := 40) (by omega)
  rw [show p + 3 = p + 1 + 1 + 1 by omega]
  have hm : 1 ≤ rd ([1, 2, 3, 5, 6, 7, 1, 10, 12, 3, 15, 4, 21, 1, 30, 8] : List Int) a ∧ rd ([1, 2, 3, 5, 6, 7, 1, 10, 12, 3, 15, 4, 21, 1, 30, 8] : List Int) a ≤ 30 := by
    obtain ⟨c, rfl⟩ : ∃ c : Nat, a = c := ⟨a.toNat, by omega⟩
    have : ∀ y ∈ ([1, 2, 3, 5, 6, 7, 1, 10, 12, 3, 15, 4, 21, 1, 30, 8] : List Int), 1 ≤ y ∧ y ≤ 30 := by decide
    exact this _ (rd_mem (show c < 16 by omega))
  have go : ∀ (R : List Int × Int), (∀ x : Int, -31 ≤ x → x ≤ 31 → (x = wrap64 (-(rd ([1, 2, 3, 5, 6, 7, 1, 10, 12, 3, 15, 4, 21, 1, 30, 8] : List Int) a)) ∧ b < 2 ∨ x = rd ([1, 2, 3, 5, 6, 7, 1, 10, 12, 3, 15, 4, 21, 1, 30, 8] : List Int) a ∧ ¬ b < 2) → Ev (fun k => spec_l91Form.l0 k [x] 1 1 s ((p + 1 + 1 + 1 : Nat) : Int)) R) → Ev (fun k => spec_l91Form.f k s (p : Int) 1) R := by
    intro R hR
    unfold spec_l91Form.f
    refine Ev.bind h1 ?_
    simp only
    rw [show ((0 : Nat) : Int) = 0 from rfl, w64 (a := 1 + 0) (by omega) (by omega)]
    refine Ev.step (fun k => spec_l91Form.l0.eq_2 _ _ _ _ _ k) (Ev.pos (by omega) (Ev.bind0 rfl (Ev.bind ha (Ev.pos a0 (Ev.pos a1 (Ev.bind hb ?_))))))
    by_cases e : b < 2
    · refine Ev.pos e (Ev.pos (by simp) ?_)
      rw [w64 (a := 0 + 1) (by omega) (by omega)]
      exact hR (wrap64 (-(rd ([1, 2, 3, 5, 6, 7, 1, 10, 12, 3, 15, 4, 21, 1, 30, 8] : List Int) a))) (by rw [w64 (by omega) (by omega)]; omega) (by rw [w64 (by omega) (by omega)]; omega) (.inl ⟨rfl, e⟩)
    · refine Ev.neg e (Ev.pos (by simp) ?_)
      rw [w64 (a := 0 + 1) (by omega) (by omega)]
      exact hR (rd ([1, 2, 3, 5, 6, 7, 1, 10, 12, 3, 15, 4, 21, 1, 30, 8] : List Int) a) (by omega) (by omega) (.inr ⟨rfl, e⟩)
  have ex : ∃ x : Int, -31 ≤ x ∧ x ≤ 31 ∧ ∀ R : List Int × Int, Ev (fun k => spec_l91Form.l0 k [x] 1 1 s ((p + 1 + 1 + 1 : Nat) : Int)) R → Ev (fun k => spec_l91Form.f k s (p : Int) 1) R := by
    by_cases e : b < 2
    · refine ⟨wrap64 (-(rd ([1, 2, 3, 5, 6, 7, 1, 10, 12, 3, 15, 4, 21, 1, 30, 8] : List Int) a)), by rw [w64 (by omega) (by omega)]; omega, by rw [w64 (by omega) (by omega)]; omega, fun R hR => go R (fun x _ _ hx => ?_)⟩
      rcases hx with ⟨rfl, _⟩ | ⟨_, h⟩
      · exact hR
      · exact absurd e h
    · refine ⟨rd ([1, 2, 3, 5, 6, 7, 1, 10, 12, 3, 15, 4, 21, 1, 30, 8] : List Int) a, by omega, by omega, fun R hR => go R (fun x _ _ hx => ?_)⟩
      rcases hx with ⟨_, h⟩ | ⟨rfl, _⟩
      · exact absurd h e
      · exact hR
  obtain ⟨x, x0, x1, hx⟩ := ex
  by_cases e1 : pickv s (p + 1 + 1 + 1) 40 = 1
  · refine .inl ⟨e1, hx _ (Ev.step (fun k => spec_l91Form.l0.eq_2 _ _ _ _ _ k) (Ev.neg (by omega) (Ev.bind h4 (Ev.neg (by simp only; omega) (Ev.pos (by simp only; omega) (Ev.nows ?_))))))⟩
    rw [show p + 4 = p + 1 + 1 + 1 + 1 by omega]
  · refine .inr ⟨e1, ?_⟩
    by_cases e0 : pickv s (p + 1 + 1 + 1) 40 = 0
    · obtain ⟨c, c0, c1, hc⟩ := pick_ev' hs (p + 1 + 1 + 1 + 1) 2 (by omega) (by omega)
      refine ⟨rd ([0, 31] : List Int) c, p + 1 + 1 + 1 + 1 + 1, ?_, ?_, by omega, hx _ (Ev.step (fun k => spec_l91Form.l0.eq_2 _ _ _ _ _ k) (Ev.neg (by omega) (Ev.bind h4 (Ev.pos (by simp only; omega) (Ev.bind0 rfl (Ev.bind hc (Ev.pos c0 (Ev.pos c1 (Ev.pos (by simp) (Ev.now _)))))))))) ⟩
      · rcases (by omega : c = 0 ∨ c = 1) with rfl | rfl <;> decide
      · rcases (by omega : c = 0 ∨ c = 1) with rfl | rfl <;> decide
    · exact ⟨x, p + 1 + 1 + 1 + 1, x0, x1, by omega, hx _ (Ev.step (fun k => spec_l91Form.l0.eq_2 _ _ _ _ _ k) (Ev.neg (by omega) (Ev.bind h4 (Ev.neg (by simp only; omega) (Ev.neg (by simp only; omega) (Ev.now _))))))⟩
theorem form_step {s : List Int} (hs : IsCode s) (out : List Int) (h1 : 1 ≤ out.length) (h3 : out.length < 3) : ∀ (i p : Nat), p + 4 * i ≤ 19000000000000000 → pickv s (p + 3 + 4 * i) 40 ≠ 1 →
    ∃ (x : Int) (q : Nat), -31 ≤ x ∧ x ≤ 31 ∧ q ≤ p + 4 * i + 5 ∧ ∀ R : List Int × Int, Ev (fun k => spec_l92Form.l0 k 3 (out ++ [x]) s (q : Int)) R → Ev (fun k => spec_l92Form.l0 k 3 out s (p : Int)) R := by
  intro i
  induction i with
  | zero =>
    intro p hp hk
    rcases one_ev hs p (by omega) with ⟨h, _⟩ | ⟨_, x, q, x0, x1, hq, hx⟩
    · exact absurd h hk
    · exact ⟨x, q, x0, x1, by omega, fun R hR => Ev.step (fun k => spec_l92Form.l0.eq_2 _ _ _ _ k) (Ev.pos (by omega) (Ev.pos (by omega) (Ev.bind hx (Ev.pos (by simp only [List.length_cons, List.length_nil]; omega) hR))))⟩
  | succ i ih =>
    intro p hp hk
    rcases one_ev hs p (by omega) with ⟨_, h⟩ | ⟨_, x, q, x0, x1, hq, hx⟩
    · obtain ⟨x, q, x0, x1, hq, hx⟩ := ih (p + 4) (by omega) (by rw [show p + 4 + 3 + 4 * i = p + 3 + 4 * (i + 1) by omega]; exact hk)
      refine ⟨x, q, x0, x1, by omega, fun R hR => Ev.step (fun k => spec_l92Form.l0.eq_2 _ _ _ _ k) (Ev.pos (by omega) (Ev.pos (by omega) (Ev.bind h (Ev.pos (by simp only [List.length_nil]; omega) ?_))))⟩
      rw [List.append_nil]; exact hx R hR
    · exact ⟨x, q, x0, x1, by omega, fun R hR => Ev.step (fun k => spec_l92Form.l0.eq_2 _ _ _ _ k) (Ev.pos (by omega) (Ev.pos (by omega) (Ev.bind hx (Ev.pos (by simp only [List.length_cons, List.length_nil]; omega) hR))))⟩
theorem form_two {s : List Int} (hs : IsCode s) (out : List Int) (h3 : out.length = 3) (hb : ∀ x ∈ out, -31 ≤ x ∧ x ≤ 31) (t : Bool) (p : Nat) (hp : p ≤ 19500000000000000) :
    ∃ (form : List Int) (q : Nat), form.length = 3 ∧ (∀ x ∈ form, -31 ≤ x ∧ x ≤ 31) ∧ q ≤ p + 1 ∧ Ev (fun k => spec_l92Form.j2 k out t s (p : Int)) (form, (q : Int)) := by
  cases t with
  | false => exact ⟨out, p, h3, hb, by omega, Ev.step (fun k => spec_l92Form.j2.eq_2 _ _ _ _ k) (Ev.neg (by simp) (Ev.now _))⟩
  | true =>
    obtain ⟨b, b0, b1, hp2⟩ := pick_ev' hs p 2 (by omega) (by omega)
    have c0 := hb _ (rd_mem (show 0 < out.length by omega))
    have c1 := hb _ (rd_mem (show 1 < out.length by omega))
    have m := mul2_bd (a := rd out ((0 : Nat) : Int)) (b := 1 + b) (A := 31) (B := 2) c0 (by omega)
    have e : wrap64 ((wrap64 (-(wrap64 ((rd out 0) * (wrap64 (1 + b)))))) - (rd out 1)) = -(rd out ((0 : Nat) : Int) * (1 + b)) - rd out ((1 : Nat) : Int) := by
      show wrap64 ((wrap64 (-(wrap64 ((rd out ((0 : Nat) : Int)) * (wrap64 (1 + b)))))) - (rd out ((1 : Nat) : Int))) = _
      rw [w64 (a := 1 + b) (by omega) (by omega), w64 (a := rd out ((0 : Nat) : Int) * (1 + b)) (by omega) (by omega), w64 (a := -(rd out ((0 : Nat) : Int) * (1 + b))) (by omega) (by omega), w64 (by omega) (by omega)]
    generalize hT : -(rd out ((0 : Nat) : Int) * (1 + b)) - rd out ((1 : Nat) : Int) = T at *
    by_cases t0 : T = 0
    · exact ⟨out, p + 1, h3, hb, by omega, Ev.step (fun k => spec_l92Form.j2.eq_2 _ _ _ _ k) (Ev.pos rfl (Ev.pos (by omega) (Ev.bind hp2 (Ev.pos (by omega) (Ev.pos (by simp only; rw [e]; exact t0) (Ev.now _))))))⟩
    · by_cases t1 : ((T.natAbs : Nat) : Int) ≤ 30
      · refine ⟨out.set 2 T, p + 1, by rw [List.length_set]; exact h3, fun x hx => ?_, by omega, Ev.step (fun k => spec_l92Form.j2.eq_2 _ _ _ _ k) (Ev.pos rfl (Ev.pos (by omega) (Ev.bind hp2 (Ev.pos (by omega) (Ev.neg (by simp only; rw [e]; exact t0) (Ev.bind0 (a := ((T.natAbs : Nat) : Int)) (by simp only; rw [e]; exact l1Size_eq (by omega) (by omega)) (Ev.pos t1 (Ev.pos (by omega) (Ev.nows (by simp only; rw [e]; rfl)))))))))) ⟩
        rcases List.mem_or_eq_of_mem_set hx with h | rfl
        · exact hb x h
        · omega
      · exact ⟨out, p + 1, h3, hb, by omega, Ev.step (fun k => spec_l92Form.j2.eq_2 _ _ _ _ k) (Ev.pos rfl (Ev.pos (by omega) (Ev.bind hp2 (Ev.pos (by omega) (Ev.neg (by simp only; rw [e]; exact t0) (Ev.bind0 (a := ((T.natAbs : Nat) : Int)) (by simp only; rw [e]; exact l1Size_eq (by omega) (by omega)) (Ev.neg t1 (Ev.now _))))))))⟩
def Three (form : List Int) : Prop := (form.length = 0 ∨ form.length = 3) ∧ ∀ x ∈ form, -31 ≤ x ∧ x ≤ 31
theorem three_tame {form : List Int} (h : Three form) : Tame form := ⟨by have := h.1; omega, fun x hx => by have := h.2 x hx; omega⟩
theorem form_ev {s : List Int} (hs : IsCode s) : ∃ (form : List Int) (q : Nat), Three form ∧ q ≤ 19500000000000000 ∧ Ev (fun k => spec_l92Form.f k s 0 3) (form, (q : Int)) := by
  unfold spec_l92Form.f
  rcases one_ev hs 0 (by omega) with ⟨_, h⟩ | ⟨_, x, q, x0, x1, hq, hx⟩
  · exact ⟨[], 0 + 4, ⟨.inl rfl, by simp⟩, by omega, Ev.bind h (Ev.step (fun k => spec_l92Form.l0.eq_2 _ _ _ _ k) (Ev.pos (by simp) (Ev.neg (by simp) (Ev.step (fun k => spec_l92Form.j1.eq_2 _ _ _ k) (Ev.neg (by simp) (Ev.step (fun k => spec_l92Form.j2.eq_2 _ _ _ _ k) (Ev.neg (by simp) (Ev.now _))))))))⟩
  · have e19 : (2 : Nat) ^ (13 + 6) = 524288 := by decide
    have e9 : (2 : Nat) ^ (13 - 4) = 512 := by decide
    have e40 : (2 : Nat) ^ (34 + 6) = 1099511627776 := by decide
    have e30 : (2 : Nat) ^ (34 - 4) = 1073741824 := by decide
    obtain ⟨i, i0, i1⟩ := far_some hs 13 q (by omega) (by rw [e19]; omega)
    rw [e9] at i0
    obtain ⟨y, r, y0, y1, hr, hy⟩ := form_step hs [x] (by simp) (by simp) i q (by omega) i1
    obtain ⟨j, j0, j1⟩ := far_some hs 34 r (by omega) (by rw [e40]; omega)
    rw [e30] at j0
    obtain ⟨z, u, z0, z1, hu, hz⟩ := form_step hs ([x] ++ [y]) (by simp) (by simp) j r (by omega) j1
    have hb : ∀ w ∈ ([x] ++ [y] ++ [z]), -31 ≤ w ∧ w ≤ 31 := by
      intro w hw
      simp at hw
      rcases hw with rfl | rfl | rfl <;> omega
    obtain ⟨a, a0, a1, ha⟩ := pick_ev' hs u 2 (by omega) (by omega)
    have fin : ∃ (form : List Int) (v : Nat), form.length = 3 ∧ (∀ x ∈ form, -31 ≤ x ∧ x ≤ 31) ∧ v ≤ u + 2 ∧ Ev (fun k => spec_l92Form.j1 k ([x] ++ [y] ++ [z]) s (u : Int)) (form, (v : Int)) := by
      by_cases e : a = 0
      · obtain ⟨form, v, f1, f2, f3, f4⟩ := form_two hs ([x] ++ [y] ++ [z]) (by simp) hb (fOk ([x] ++ [y] ++ [z])) (u + 1) (by omega)
        exact ⟨form, v, f1, f2, by omega, Ev.step (fun k => spec_l92Form.j1.eq_2 _ _ _ k) (Ev.pos (by simp) (Ev.bind ha (Ev.pos e (Ev.bind (sFormValid_ev _ (by simp)) f4))))⟩
      · obtain ⟨form, v, f1, f2, f3, f4⟩ := form_two hs ([x] ++ [y] ++ [z]) (by simp) hb false (u + 1) (by omega)
        exact ⟨form, v, f1, f2, by omega, Ev.step (fun k => spec_l92Form.j1.eq_2 _ _ _ k) (Ev.pos (by simp) (Ev.bind ha (Ev.neg e f4)))⟩
    obtain ⟨form, v, f1, f2, f3, f4⟩ := fin
    exact ⟨form, v, ⟨.inr f1, f2⟩, by omega, Ev.bind hx (hy _ (hz _ (Ev.step (fun k => spec_l92Form.l0.eq_2 _ _ _ _ k) (Ev.neg (by simp) f4))))⟩
theorem sq_bd {p : Int} {M : Int} (h0 : 0 ≤ p) (h : p * p ≤ 40000) : p ≤ 200 := by
  rcases (by omega : p ≤ 200 ∨ 201 ≤ p) with k | k
  · exact k
  · have := Int.mul_le_mul k k (by omega) h0; omega
theorem sq_le {p M : Int} (h0 : 0 ≤ p) (h : p ≤ M) : 0 ≤ p * p ∧ p * p ≤ M * M := ⟨Int.mul_nonneg h0 h0, Int.mul_le_mul h h h0 (by omega)⟩
theorem tdiv_exact {x q : Int} (hq : 2 ≤ q) (hx : x ≠ 0) (h : Int.tmod x q = 0) : ∃ y, x = q * y ∧ Int.tdiv x q = y ∧ y ≠ 0 ∧ y.natAbs < x.natAbs := by
  obtain ⟨y, rfl⟩ := Int.dvd_of_tmod_eq_zero h
  have hy : y ≠ 0 := fun k => hx (by rw [k, Int.mul_zero])
  refine ⟨y, rfl, Int.mul_tdiv_cancel_left _ (by omega), hy, ?_⟩
  rw [Int.natAbs_mul]
  have : 2 * y.natAbs ≤ q.natAbs * y.natAbs := Nat.mul_le_mul_right _ (by omega)
  omega
theorem dec {M a b k n : Nat} (h : a < b) (h0 : 0 < M) (h1 : b * M + k ≤ n + 1) : a * M + k ≤ n :=
  Nat.le_of_lt_succ (Nat.lt_of_lt_of_le (Nat.add_lt_add_right ((Nat.mul_lt_mul_right h0).2 h) k) h1)
theorem core_l : ∀ (N : Nat) (x r p : Int), x ≠ 0 → x.natAbs ≤ 30000 → 1 ≤ r → 2 ≤ p → p * p ≤ (x.natAbs : Int) → r * (x.natAbs : Int) ≤ 30000 → x.natAbs * 1000 + (300 - p).toNat ≤ N →
    ∃ c s : Int, c ≠ 0 ∧ c.natAbs ≤ x.natAbs ∧ 1 ≤ s ∧ s * (c.natAbs : Int) ≤ r * (x.natAbs : Int) ∧ Ev (fun k => spec_l1Core.l1 k x r p) (c, s) := by
  intro N
  induction N with
  | zero => intro x r p h0 _ _ _ _ _ hN; omega
  | succ N ih =>
    intro x r p h0 h1 h2 h3 h4 h5 hN
    have hp := sq_bd (M := 0) (p := p) (by omega) (by omega)
    have hpp := sq_le (p := p) (M := 200) (by omega) hp
    have hp4 : 4 ≤ p * p := by have := Int.mul_le_mul h3 h3 (by omega) (show (0 : Int) ≤ p by omega); omega
    have hr : r ≤ 30000 := by
      have := Int.mul_le_mul_of_nonneg_left (show (1 : Int) ≤ (x.natAbs : Int) by omega) (show 0 ≤ r by omega); omega
    by_cases e : Int.tmod x (p * p) = 0
    · obtain ⟨y, hy, hd, y0, hlt⟩ := tdiv_exact (by omega) h0 e
      have hrp : r * p * (y.natAbs : Int) ≤ r * (x.natAbs : Int) := by
        rw [hy, Int.natAbs_mul, Int.mul_assoc]
        refine Int.mul_le_mul_of_nonneg_left ?_ (by omega)
        rw [Int.natCast_mul]
        refine Int.mul_le_mul_of_nonneg_right ?_ (by omega)
        have := Int.mul_le_mul_of_nonneg_left (show (1 : Int) ≤ p by omega) (show 0 ≤ p by omega)
        omega
      have hrp2 : r * p ≤ 30000 := by
        have a := Int.mul_nonneg (show 0 ≤ r by omega) (show 0 ≤ p by omega)
        have := Int.mul_le_mul_of_nonneg_left (show (1 : Int) ≤ (y.natAbs : Int) by omega) a; omega
      have hrp1 : 1 ≤ r * p := by have := Int.mul_pos (show 0 < r by omega) (show 0 < p by omega); omega
      have step : ∀ R : Int × Int, Ev (fun k => spec_l1Core.l1 k y (r * p) p) R → Ev (fun k => spec_l1Core.l1 k x r p) R := by
        intro R hR
        refine Ev.step (fun k => spec_l1Core.l1.eq_2 _ _ _ k) ?_
        rw [w64 (a := p * p) (by omega) (by omega)]
        refine Ev.neg (by omega) (Ev.pos e ?_)
        rw [hd, w64 (a := y) (by omega) (by omega), w64 (a := r * p) (by omega) (by omega)]
        exact hR
      by_cases hc : p * p ≤ (y.natAbs : Int)
      · obtain ⟨c, s, c1, c2, c3, c4, c5⟩ := ih y (r * p) p y0 (by omega) hrp1 h3 hc (by omega) (dec hlt (by decide) hN)
        exact ⟨c, s, c1, by omega, c3, by omega, step _ c5⟩
      ·
        refine ⟨y, r * p, y0, by omega, hrp1, hrp, step _ ?_⟩
        refine Ev.step (fun k => spec_l1Core.l1.eq_2 _ _ _ k) ?_
        rw [w64 (a := p * p) (by omega) (by omega)]
        refine Ev.neg (by omega) (Ev.neg ?_ ?_)
        · intro k
          obtain ⟨z, hz, _, z0, _⟩ := tdiv_exact (show 2 ≤ p * p by omega) y0 k
          have : (p * p).natAbs * 1 ≤ (p * p).natAbs * z.natAbs := Nat.mul_le_mul_left _ (by omega)
          rw [← Int.natAbs_mul, ← hz] at this; omega
        · rw [w64 (a := p + 1) (by omega) (by omega)]
          refine Ev.step (fun k => spec_l1Core.l0.eq_2 _ _ _ k) (Ev.bind0 (l1Size_eq (by omega) (by omega)) (Ev.neg ?_ (Ev.now _)))
          have := sq_le (p := p + 1) (M := 201) (by omega) (by omega)
          have m := Int.mul_le_mul (show p ≤ p + 1 by omega) (show p ≤ p + 1 by omega) (by omega) (show 0 ≤ p + 1 by omega)
          rw [w64 (a := (p + 1) * (p + 1)) (by omega) (by omega)]; omega
    · have hp1 := sq_le (p := p + 1) (M := 201) (by omega) (by omega)
      have step : ∀ R : Int × Int, Ev (fun k => spec_l1Core.l0 k x r (p + 1)) R → Ev (fun k => spec_l1Core.l1 k x r p) R := by
        intro R hR
        refine Ev.step (fun k => spec_l1Core.l1.eq_2 _ _ _ k) ?_
        rw [w64 (a := p * p) (by omega) (by omega)]
        refine Ev.neg (by omega) (Ev.neg e ?_)
        rw [w64 (a := p + 1) (by omega) (by omega)]; exact hR
      by_cases hc : (p + 1) * (p + 1) ≤ (x.natAbs : Int)
      · obtain ⟨c, s, c1, c2, c3, c4, c5⟩ := ih x r (p + 1) h0 h1 h2 (by omega) hc h5 (by omega)
        refine ⟨c, s, c1, c2, c3, c4, step _ (Ev.step (fun k => spec_l1Core.l0.eq_2 _ _ _ k) (Ev.bind0 (l1Size_eq (by omega) (by omega)) (Ev.pos ?_ c5)))⟩
        rw [w64 (a := (p + 1) * (p + 1)) (by omega) (by omega)]; exact hc
      · refine ⟨x, r, h0, by omega, h2, by omega, step _ (Ev.step (fun k => spec_l1Core.l0.eq_2 _ _ _ k) (Ev.bind0 (l1Size_eq (by omega) (by omega)) (Ev.neg ?_ (Ev.now _))))⟩
        rw [w64 (a := (p + 1) * (p + 1)) (by omega) (by omega)]; exact hc
theorem core_ev (x : Int) (h0 : x ≠ 0) (h1 : x.natAbs ≤ 30000) : ∃ c s : Int, c ≠ 0 ∧ c.natAbs ≤ x.natAbs ∧ 1 ≤ s ∧ s * (c.natAbs : Int) ≤ (x.natAbs : Int) ∧ Ev (fun k => spec_l1Core.f k x) (c, s) := by
  unfold spec_l1Core.f
  by_cases hc : (4 : Int) ≤ (x.natAbs : Int)
  · obtain ⟨c, s, c1, c2, c3, c4, c5⟩ := core_l (x.natAbs * 1000 + 300) x 1 2 h0 h1 (by omega) (by omega) (by omega) (by omega) (by omega)
    refine ⟨c, s, c1, c2, c3, by omega, Ev.step (fun k => spec_l1Core.l0.eq_2 _ _ _ k) (Ev.bind0 (l1Size_eq (by omega) (by omega)) (Ev.pos ?_ c5))⟩
    rw [w64 (a := (2 : Int) * 2) (by omega) (by omega)]; exact hc
  · refine ⟨x, 1, h0, by omega, by omega, by omega, Ev.step (fun k => spec_l1Core.l0.eq_2 _ _ _ k) (Ev.bind0 (l1Size_eq (by omega) (by omega)) (Ev.neg ?_ (Ev.now _)))⟩
    rw [w64 (a := (2 : Int) * 2) (by omega) (by omega)]; exact hc
def Gathered (g n : Int) (out : List Int) : Prop := (out = [] ∧ n = g) ∨ ∃ q rest, out = q :: rest ∧ 2 ≤ q ∧ q ∣ g
theorem gathered_app {g n : Int} {out : List Int} {p : Int} (h : Gathered g n out) (h2 : 2 ≤ p) (hp : p ∣ n) (m : Int) : Gathered g m (out ++ [p]) := by
  rcases h with ⟨rfl, rfl⟩ | ⟨q, rest, rfl, q0, q1⟩
  · exact .inr ⟨p, [], rfl, h2, hp⟩
  · exact .inr ⟨q, rest ++ [p], rfl, q0, q1⟩
theorem primes_l (g : Int) : ∀ (N : Nat) (n p : Int) (out : List Int), 1 ≤ n → n ≤ 30000 → 2 ≤ p → p ≤ 1000 → out.length ≤ p.toNat → Gathered g n out → (out = [] → Int.tmod n p ≠ 0) → (p * p ≤ n ∨ out ≠ []) → n.toNat * 2000 + (1000 - p).toNat ≤ N → p ≤ 201 →
    (2 ≤ g) → ∃ l : List Int, Gathered g 0 l ∧ l ≠ [] ∧ Ev (fun k => spec_l1Primes.l1 k n out p) l := by
  intro N
  induction N with
  | zero => intro n p out h0 _ _ _ _ _ _ _ hN; omega
  | succ N ih =>
    intro n p out h0 h1 h2 h3 hl hG hne hlast hN hp hg2
    by_cases e : Int.tmod n p = 0
    · have ho : out ≠ [] := fun k => hne k e
      obtain ⟨y, hy, hd, y0, hlt⟩ := tdiv_exact h2 (by omega) e
      have hy0 : 1 ≤ y := by
        rcases (by omega : y ≤ -1 ∨ 1 ≤ y) with k | k
        · have := Int.mul_le_mul_of_nonneg_left (show y ≤ 0 by omega) (show 0 ≤ p by omega); rw [Int.mul_zero] at this; omega
        · exact k
      have hG2 : Gathered g y out := by
        rcases hG with ⟨k, _⟩ | k
        · exact absurd k ho
        · exact .inr k
      obtain ⟨l, l1, l2, l3⟩ := ih y p out hy0 (by omega) h2 h3 hl hG2 (fun k => absurd k ho) (.inr ho) (dec (show y.toNat < n.toNat by omega) (by decide) hN) hp hg2
      refine ⟨l, l1, l2, Ev.step (fun k => spec_l1Primes.l1.eq_2 _ _ _ k) (Ev.neg (by omega) (Ev.pos e ?_))⟩
      rw [hd, w64 (a := y) (by omega) (by omega)]; exact l3
    · have hp1 := sq_le (p := p + 1) (M := 202) (by omega) (by omega)
      have step : ∀ R : List Int, Ev (fun k => spec_l1Primes.l0 k n out (p + 1)) R → Ev (fun k => spec_l1Primes.l1 k n out p) R := by
        intro R hR
        refine Ev.step (fun k => spec_l1Primes.l1.eq_2 _ _ _ k) (Ev.neg (by omega) (Ev.neg e ?_))
        rw [w64 (a := p + 1) (by omega) (by omega)]; exact hR
      by_cases hc : (p + 1) * (p + 1) ≤ n
      · have hps := sq_bd (M := 0) (p := p + 1) (by omega) (by omega)
        by_cases e2 : Int.tmod n (p + 1) = 0
        · obtain ⟨l, l1, l2, l3⟩ := ih n (p + 1) (out ++ [p + 1]) h0 h1 (by omega) (by omega) (by rw [List.length_append]; simp only [List.length_cons, List.length_nil]; omega) (gathered_app hG (by omega) (Int.dvd_of_tmod_eq_zero e2) n) (fun k => by simp at k) (.inr (by simp)) (by omega) (by omega) hg2
          refine ⟨l, l1, l2, step _ (Ev.step (fun k => spec_l1Primes.l0.eq_2 _ _ _ k) (Ev.pos ?_ (Ev.neg (by omega) (Ev.pos e2 (Ev.pos (by omega) (Ev.step (fun k => spec_l1Primes.j1.eq_2 _ _ _ k) l3))))))⟩
          rw [w64 (a := (p + 1) * (p + 1)) (by omega) (by omega)]; exact hc
        · obtain ⟨l, l1, l2, l3⟩ := ih n (p + 1) out h0 h1 (by omega) (by omega) (by omega) hG (fun _ => e2) (.inl hc) (by omega) (by omega) hg2
          refine ⟨l, l1, l2, step _ (Ev.step (fun k => spec_l1Primes.l0.eq_2 _ _ _ k) (Ev.pos ?_ (Ev.neg (by omega) (Ev.neg e2 (Ev.step (fun k => spec_l1Primes.j1.eq_2 _ _ _ k) l3)))))⟩
          rw [w64 (a := (p + 1) * (p + 1)) (by omega) (by omega)]; exact hc
      · by_cases hn1 : n > 1
        · refine ⟨out ++ [n], gathered_app hG (by omega) (Int.dvd_refl _) 0, by simp, step _ (Ev.step (fun k => spec_l1Primes.l0.eq_2 _ _ _ k) (Ev.neg ?_ (Ev.pos hn1 (Ev.pos (by omega) (Ev.now _)))))⟩
          rw [w64 (a := (p + 1) * (p + 1)) (by omega) (by omega)]; exact hc
        · have ho : out ≠ [] := by
            intro k
            rcases hG with ⟨_, hk⟩ | ⟨q, rest, hk, _⟩
            · omega
            · rw [k] at hk; simp at hk
          have hG2 : Gathered g 0 out := by
            rcases hG with ⟨k, _⟩ | k
            · exact absurd k ho
            · exact .inr k
          refine ⟨out, hG2, ho, step _ (Ev.step (fun k => spec_l1Primes.l0.eq_2 _ _ _ k) (Ev.neg ?_ (Ev.neg hn1 (Ev.now _))))⟩
          rw [w64 (a := (p + 1) * (p + 1)) (by omega) (by omega)]; exact hc
theorem gathered_head {g : Int} {l : List Int} (h : Gathered g 0 l) (hl : l ≠ []) : ∃ p rest, l = p :: rest ∧ 2 ≤ p ∧ p ∣ g := by
  rcases h with ⟨k, _⟩ | h
  · exact absurd k hl
  · exact h
theorem primes_ev (g : Int) (h2 : 2 ≤ g) (h3 : g ≤ 30000) : ∃ p rest, 2 ≤ p ∧ p ∣ g ∧ Ev (fun k => spec_l1Primes.f k g) (p :: rest) := by
  have go : ∀ R : List Int, Ev (fun k => spec_l1Primes.l0 k g [] 2) R → Ev (fun k => spec_l1Primes.f k g) R := by
    intro R hR
    unfold spec_l1Primes.f
    refine Ev.bind0 (l1Size_eq (by omega) (by omega)) ?_
    rw [show ((g.natAbs : Nat) : Int) = g by omega]; exact hR
  have e22 : wrap64 ((2 : Int) * 2) = 4 := w64 (by decide) (by decide)
  by_cases hc : 4 ≤ g
  · by_cases e2 : Int.tmod g 2 = 0
    · obtain ⟨l, l1, l2, l3⟩ := primes_l g (g.toNat * 2000 + 1000) g 2 [2] (by omega) h3 (by omega) (by omega) (by simp) (.inr ⟨2, [], rfl, by omega, Int.dvd_of_tmod_eq_zero e2⟩) (fun k => by simp at k) (.inr (by simp)) (by omega) (by omega) h2
      obtain ⟨p, rest, rfl, p0, p1⟩ := gathered_head l1 l2
      exact ⟨p, rest, p0, p1, go _ (Ev.step (fun k => spec_l1Primes.l0.eq_2 _ _ _ k) (Ev.pos (by rw [e22]; exact hc) (Ev.neg (by omega) (Ev.pos e2 (Ev.pos (by simp) (Ev.step (fun k => spec_l1Primes.j1.eq_2 _ _ _ k) l3))))))⟩
    · obtain ⟨l, l1, l2, l3⟩ := primes_l g (g.toNat * 2000 + 1000) g 2 [] (by omega) h3 (by omega) (by omega) (by simp) (.inl ⟨rfl, rfl⟩) (fun _ => e2) (.inl (by omega)) (by omega) (by omega) h2
      obtain ⟨p, rest, rfl, p0, p1⟩ := gathered_head l1 l2
      exact ⟨p, rest, p0, p1, go _ (Ev.step (fun k => spec_l1Primes.l0.eq_2 _ _ _ k) (Ev.pos (by rw [e22]; exact hc) (Ev.neg (by omega) (Ev.neg e2 (Ev.step (fun k => spec_l1Primes.j1.eq_2 _ _ _ k) l3)))))⟩
  · exact ⟨g, [], h2, Int.dvd_refl _, go _ (Ev.step (fun k => spec_l1Primes.l0.eq_2 _ _ _ k) (Ev.neg (by rw [e22]; omega) (Ev.pos (by omega) (Ev.pos (by simp) (Ev.now _)))))⟩
theorem gcd_two {a b : Int} : (((Nat.gcd a.natAbs b.natAbs : Nat) : Int) ∣ a) ∧ (((Nat.gcd a.natAbs b.natAbs : Nat) : Int) ∣ b) :=
  ⟨Int.ofNat_dvd_left.2 (Nat.gcd_dvd_left _ _), Int.ofNat_dvd_left.2 (Nat.gcd_dvd_right _ _)⟩
def TwoOk (a b c p t : Int) : Prop := (p = 1 ∧ t = 0) ∨ (2 ≤ p ∧ ((t = 0 ∧ p ∣ b ∧ p ∣ c) ∨ (t = 1 ∧ p ∣ c ∧ p ∣ a) ∨ (t = 2 ∧ p ∣ a ∧ p ∣ b)))
theorem two_ev (a b c : Int) (a0 : a ≠ 0) (b0 : b ≠ 0) (c0 : c ≠ 0) (ha : a.natAbs ≤ 30000) (hb : b.natAbs ≤ 30000) (hc : c.natAbs ≤ 30000) : ∃ p t : Int, TwoOk a b c p t ∧ Ev (fun k => spec_l5Two.f k [a, b, c]) (p, t) := by
  have one : ∀ (x y : Int) (i t : Int) (f : Nat → Option (Int × Int)), x ≠ 0 → y ≠ 0 → x.natAbs ≤ 30000 → y.natAbs ≤ 30000 → (∃ p : Int, 2 ≤ p ∧ p ∣ x ∧ p ∣ y ∧ Ev (fun k => (spec_l1Gcd.f k x y).bind fun g => (if g > 1 then ((spec_l1Primes.f k g).bind fun l => (if 0 < (l.length : Int) then (some (rd l 0, t)) else (none))) else f k)) (p, t)) ∨
      (∀ R : Int × Int, Ev f R → Ev (fun k => (spec_l1Gcd.f k x y).bind fun g => (if g > 1 then ((spec_l1Primes.f k g).bind fun l => (if 0 < (l.length : Int) then (some (rd l 0, t)) else (none))) else f k)) R) := by
    intro x y i t f hx hy hx1 hy1
    have hg := l1Gcd_ev (a := x) (b := y) (by omega) (by omega) (by omega) (by omega)
    have hle := Nat.gcd_le_left y.natAbs (show 0 < x.natAbs by omega)
    by_cases h : ((Nat.gcd x.natAbs y.natAbs : Nat) : Int) > 1
    · obtain ⟨p, rest, p0, p1, p2⟩ := primes_ev _ (by omega) (show ((Nat.gcd x.natAbs y.natAbs : Nat) : Int) ≤ 30000 by omega)
      exact .inl ⟨p, p0, Int.dvd_trans p1 gcd_two.1, Int.dvd_trans p1 gcd_two.2, Ev.bind hg (Ev.pos h (Ev.bind p2 (Ev.pos (by simp) (Ev.now _))))⟩
    · exact .inr (fun R hR => Ev.bind hg (Ev.neg h hR))
  unfold spec_l5Two.f
  have m2 : Int.tmod (wrap64 (2 + 1)) 3 = 0 ∧ Int.tmod (wrap64 (2 + 2)) 3 = 1 := by rw [w64 (a := (2 : Int) + 1) (by decide) (by decide), w64 (a := (2 : Int) + 2) (by decide) (by decide)]; decide
  have m1 : Int.tmod (wrap64 (1 + 1)) 3 = 2 ∧ Int.tmod (wrap64 (1 + 2)) 3 = 0 := by rw [w64 (a := (1 : Int) + 1) (by decide) (by decide), w64 (a := (1 : Int) + 2) (by decide) (by decide)]; decide
  have m0 : Int.tmod (wrap64 (0 + 1)) 3 = 1 ∧ Int.tmod (wrap64 (0 + 2)) 3 = 2 := by rw [w64 (a := (0 : Int) + 1) (by decide) (by decide), w64 (a := (0 : Int) + 2) (by decide) (by decide)]; decide
  have s2 : ∀ R, Ev (fun k => (spec_l1Gcd.f k a b).bind fun g => (if g > 1 then ((spec_l1Primes.f k g).bind fun l => (if 0 < (l.length : Int) then (some (rd l 0, (2 : Int))) else (none))) else spec_l5Two.l0 k [a, b, c] 1)) R → Ev (fun k => spec_l5Two.l0 k [a, b, c] 2) R := by
    intro R hR
    refine Ev.step (fun k => spec_l5Two.l0.eq_2 _ _ k) ?_
    rw [m2.1, m2.2, w64 (a := (2 : Int) - 1) (by decide) (by decide)]
    exact Ev.pos (by decide) (Ev.pos (by decide) (Ev.pos (by simp) (Ev.pos (by decide) (Ev.pos (by simp) hR))))
  have s1 : ∀ R, Ev (fun k => (spec_l1Gcd.f k c a).bind fun g => (if g > 1 then ((spec_l1Primes.f k g).bind fun l => (if 0 < (l.length : Int) then (some (rd l 0, (1 : Int))) else (none))) else spec_l5Two.l0 k [a, b, c] 0)) R → Ev (fun k => spec_l5Two.l0 k [a, b, c] 1) R := by
    intro R hR
    refine Ev.step (fun k => spec_l5Two.l0.eq_2 _ _ k) ?_
    rw [m1.1, m1.2, w64 (a := (1 : Int) - 1) (by decide) (by decide)]
    exact Ev.pos (by decide) (Ev.pos (by decide) (Ev.pos (by simp) (Ev.pos (by decide) (Ev.pos (by simp) hR))))
  have s0 : ∀ R, Ev (fun k => (spec_l1Gcd.f k b c).bind fun g => (if g > 1 then ((spec_l1Primes.f k g).bind fun l => (if 0 < (l.length : Int) then (some (rd l 0, (0 : Int))) else (none))) else spec_l5Two.l0 k [a, b, c] (-1))) R → Ev (fun k => spec_l5Two.l0 k [a, b, c] 0) R := by
    intro R hR
    refine Ev.step (fun k => spec_l5Two.l0.eq_2 _ _ k) ?_
    rw [m0.1, m0.2, w64 (a := (0 : Int) - 1) (by decide) (by decide)]
    exact Ev.pos (by decide) (Ev.pos (by decide) (Ev.pos (by simp) (Ev.pos (by decide) (Ev.pos (by simp) hR))))
  rcases one a b 0 2 (fun k => spec_l5Two.l0 k [a, b, c] 1) a0 b0 ha hb with ⟨p, p0, p1, p2, p3⟩ | n2
  · exact ⟨p, 2, .inr ⟨p0, .inr (.inr ⟨rfl, p1, p2⟩)⟩, s2 _ p3⟩
  · rcases one c a 0 1 (fun k => spec_l5Two.l0 k [a, b, c] 0) c0 a0 hc ha with ⟨p, p0, p1, p2, p3⟩ | n1
    · exact ⟨p, 1, .inr ⟨p0, .inr (.inl ⟨rfl, p1, p2⟩)⟩, s2 _ (n2 _ (s1 _ p3))⟩
    · rcases one b c 0 0 (fun k => spec_l5Two.l0 k [a, b, c] (-1)) b0 c0 hb hc with ⟨p, p0, p1, p2, p3⟩ | n0
      · exact ⟨p, 0, .inr ⟨p0, .inl ⟨rfl, p1, p2⟩⟩, s2 _ (n2 _ (s1 _ (n1 _ (s0 _ p3))))⟩
      · exact ⟨1, 0, .inl ⟨rfl, rfl⟩, s2 _ (n2 _ (s1 _ (n1 _ (s0 _ (n0 _ (Ev.step (fun k => spec_l5Two.l0.eq_2 _ _ k) (Ev.neg (by decide) (Ev.now _)))))))) ⟩
def Good (x y z t u v : Int) : Prop := x ≠ 0 ∧ y ≠ 0 ∧ z ≠ 0 ∧ 1 ≤ t ∧ 1 ≤ u ∧ 1 ≤ v ∧ t * ((x * (y * z)).natAbs : Int) ≤ 30000 ∧ u * ((x * (y * z)).natAbs : Int) ≤ 30000 ∧ v * ((x * (y * z)).natAbs : Int) ≤ 30000
theorem scaled {q n m : Int} (hq : 2 ≤ q) (hm : m ≠ 0) (h : n = q * m) : m.natAbs < n.natAbs ∧ ((n.natAbs : Nat) : Int) = q * (m.natAbs : Int) := by
  have e : ((n.natAbs : Nat) : Int) = q * (m.natAbs : Int) := by
    rw [h, Int.natAbs_mul, Int.natCast_mul, Int.natAbs_of_nonneg (show 0 ≤ q by omega)]
  refine ⟨?_, e⟩
  have := Int.mul_le_mul_of_nonneg_right hq (show 0 ≤ (m.natAbs : Int) by omega)
  omega
theorem good_time {t t' q : Int} {a b : Nat} (ht : 1 ≤ t) (hq : 2 ≤ q) (h : (a : Int) = q * (b : Int)) (h1 : t * (a : Int) ≤ 30000) (h2 : t' = t ∨ t' = t * q) : 1 ≤ t' ∧ t' * (b : Int) ≤ 30000 := by
  rcases h2 with rfl | rfl
  · refine ⟨ht, ?_⟩
    have := Int.mul_le_mul_of_nonneg_left (show (b : Int) ≤ (a : Int) by
      rw [h]; have := Int.mul_le_mul_of_nonneg_right (show 1 ≤ q by omega) (show 0 ≤ (b : Int) by omega); omega) (show 0 ≤ t' by omega)
    omega
  · refine ⟨?_, ?_⟩
    · have := Int.mul_pos (show 0 < t by omega) (show 0 < q by omega); omega
    · rw [Int.mul_assoc, ← h]; exact h1
theorem good_of {x y z t u v x' y' z' t' u' v' q : Int} (h : Good x y z t u v) (hx : x' ≠ 0) (hy : y' ≠ 0) (hz : z' ≠ 0) (hq : 2 ≤ q) (e : x * (y * z) = q * (x' * (y' * z')))
    (ht : t' = t ∨ t' = t * q) (hu : u' = u ∨ u' = u * q) (hv : v' = v ∨ v' = v * q) : Good x' y' z' t' u' v' ∧ (x' * (y' * z')).natAbs < (x * (y * z)).natAbs := by
  obtain ⟨h1, h2, h3, h4, h5, h6, h7, h8, h9⟩ := h
  have s := scaled hq (Int.mul_ne_zero hx (Int.mul_ne_zero hy hz)) e
  have a := good_time h4 hq s.2 h7 ht
  have b := good_time h5 hq s.2 h8 hu
  have c := good_time h6 hq s.2 h9 hv
  exact ⟨⟨hx, hy, hz, a.1, b.1, c.1, a.2, b.2, c.2⟩, s.1⟩
theorem nat3 {x y z : Int} (hx : x ≠ 0) (hy : y ≠ 0) (hz : z ≠ 0) : x.natAbs ≤ (x * (y * z)).natAbs ∧ y.natAbs ≤ (x * (y * z)).natAbs ∧ z.natAbs ≤ (x * (y * z)).natAbs ∧
    (x * y).natAbs ≤ (x * (y * z)).natAbs ∧ (y * z).natAbs ≤ (x * (y * z)).natAbs ∧ (x * z).natAbs ≤ (x * (y * z)).natAbs := by
  have m : ∀ a b : Nat, b ≠ 0 → a ≤ a * b := fun a b h => Nat.le_mul_of_pos_right a (by omega)
  have a := Int.natAbs_ne_zero.2 hx
  have b := Int.natAbs_ne_zero.2 hy
  have c := Int.natAbs_ne_zero.2 hz
  simp only [Int.natAbs_mul]
  generalize x.natAbs = X at *
  generalize y.natAbs = Y at *
  generalize z.natAbs = Z at *
  refine ⟨m _ _ (Nat.mul_ne_zero b c), ?_, ?_, ?_, ?_, ?_⟩
  · rw [show X * (Y * Z) = Y * (X * Z) by ac_rfl]; exact m _ _ (Nat.mul_ne_zero a c)
  · rw [show X * (Y * Z) = Z * (X * Y) by ac_rfl]; exact m _ _ (Nat.mul_ne_zero a b)
  · rw [show X * (Y * Z) = X * Y * Z by ac_rfl]; exact m _ _ c
  · rw [show X * (Y * Z) = Y * Z * X by ac_rfl]; exact m _ _ a
  · rw [show X * (Y * Z) = X * Z * Y by ac_rfl]; exact m _ _ b
theorem good_bd {x y z t u v : Int} (h : Good x y z t u v) : (x * (y * z)).natAbs ≤ 30000 ∧ 1 ≤ t ∧ t ≤ 30000 ∧ 1 ≤ u ∧ u ≤ 30000 ∧ 1 ≤ v ∧ v ≤ 30000 := by
  obtain ⟨h1, h2, h3, h4, h5, h6, h7, h8, h9⟩ := h
  have p := Int.natAbs_ne_zero.2 (Int.mul_ne_zero h1 (Int.mul_ne_zero h2 h3))
  have one : ∀ (w : Int) (n : Nat), n ≠ 0 → 1 ≤ w → w * (n : Int) ≤ 30000 → n ≤ 30000 ∧ w ≤ 30000 := fun w n hn hw h => by
    have a := Int.mul_le_mul_of_nonneg_left (show (1 : Int) ≤ (n : Int) by omega) (show 0 ≤ w by omega)
    have b := Int.mul_le_mul_of_nonneg_right hw (show 0 ≤ (n : Int) by omega)
    omega
  have a := one t _ p h4 h7
  have b := one u _ p h5 h8
  have c := one v _ p h6 h9
  omega
theorem normal_l : ∀ (N : Nat) (x y z t u v p i : Int), Good x y z t u v → TwoOk x y z p i → (x * (y * z)).natAbs ≤ N →
    ∃ x' y' z' t' u' v' : Int, Good x' y' z' t' u' v' ∧ Ev (fun k => spec_l5Normal.l1 k [x, y, z] [t, u, v] p i) ([x', y', z'], [t', u', v']) := by
  intro N
  induction N with
  | zero => intro x y z t u v p i hG _ hN; exact absurd (Nat.le_zero.1 hN) (Int.natAbs_ne_zero.2 (Int.mul_ne_zero hG.1 (Int.mul_ne_zero hG.2.1 hG.2.2.1)))
  | succ N ih =>
    intro x y z t u v p i hG hT hN
    obtain ⟨x0, y0, z0, t0, u0, v0, _, _, _⟩ := id hG
    have n3 := nat3 x0 y0 z0
    have gb := good_bd hG
    have m2 : Int.tmod (wrap64 (2 + 1)) 3 = 0 ∧ Int.tmod (wrap64 (2 + 2)) 3 = 1 := by rw [w64 (a := (2 : Int) + 1) (by decide) (by decide), w64 (a := (2 : Int) + 2) (by decide) (by decide)]; decide
    have m1 : Int.tmod (wrap64 (1 + 1)) 3 = 2 ∧ Int.tmod (wrap64 (1 + 2)) 3 = 0 := by rw [w64 (a := (1 : Int) + 1) (by decide) (by decide), w64 (a := (1 : Int) + 2) (by decide) (by decide)]; decide
    have m0 : Int.tmod (wrap64 (0 + 1)) 3 = 1 ∧ Int.tmod (wrap64 (0 + 2)) 3 = 2 := by rw [w64 (a := (0 : Int) + 1) (by decide) (by decide), w64 (a := (0 : Int) + 2) (by decide) (by decide)]; decide
    have cut : ∀ {a : Int}, a ≠ 0 → a.natAbs ≤ 30000 → 2 ≤ p → p ∣ a → ∃ b, a = p * b ∧ b ≠ 0 ∧ wrap64 (Int.tdiv a p) = b := by
      intro a a0 ab hp hd
      obtain ⟨b, b1, b2, b3, b4⟩ := tdiv_exact hp a0 (Int.tmod_eq_zero_of_dvd hd)
      exact ⟨b, b1, b3, by rw [b2, w64 (by omega) (by omega)]⟩
    have next : ∀ {x' y' z' t' u' v' : Int}, Good x' y' z' t' u' v' → (x' * (y' * z')).natAbs < (x * (y * z)).natAbs → ∃ a b c d e f : Int, Good a b c d e f ∧
        Ev (fun k => (spec_l5Two.f k [x', y', z']).bind fun bt => spec_l5Normal.l1 k [x', y', z'] [t', u', v'] bt.1 bt.2) ([a, b, c], [d, e, f]) := by
      intro x' y' z' t' u' v' hG' hlt
      have gb' := good_bd hG'
      have n3' := nat3 hG'.1 hG'.2.1 hG'.2.2.1
      obtain ⟨p', i', hT', hE⟩ := two_ev x' y' z' hG'.1 hG'.2.1 hG'.2.2.1 (by omega) (by omega) (by omega)
      obtain ⟨a, b, c, d, e, f, h1, h2⟩ := ih x' y' z' t' u' v' p' i' hG' hT' (by omega)
      exact ⟨a, b, c, d, e, f, h1, Ev.bind hE h2⟩
    have up : ∀ {a b : Int}, a ≠ 0 → a.natAbs ≤ 30000 → b ∣ a → 2 ≤ b → b ≤ 30000 := by
      intro a b a0 ab hd hb
      have := Int.le_of_dvd (b := (a.natAbs : Int)) (by omega) (Int.dvd_natAbs.2 hd); omega
    have p3 : 2 ≤ p → 2 ≤ p * p * p := by
      intro hp
      have a := Int.mul_le_mul hp hp (by omega) (show (0 : Int) ≤ p by omega)
      have b := Int.mul_le_mul a hp (by omega) (show (0 : Int) ≤ p * p by omega)
      omega
    have mw : ∀ {a : Int}, a.natAbs ≤ 30000 → 2 ≤ p → p ≤ 30000 → wrap64 (a * p) = a * p := by
      intro a ha h2 h3
      have := mul2_bd (a := a) (b := p) (A := 30000) (B := 30000) (by omega) (by omega)
      exact w64 (by omega) (by omega)
    rcases hT with ⟨rfl, rfl⟩ | ⟨hp, ⟨rfl, d1, d2⟩ | ⟨rfl, d1, d2⟩ | ⟨rfl, d1, d2⟩⟩
    · exact ⟨x, y, z, t, u, v, hG, Ev.step (fun k => spec_l5Normal.l1.eq_2 _ _ _ _ k) (Ev.neg (by omega) (Ev.now _))⟩
    · obtain ⟨y', ey, y0', ey2⟩ := cut y0 (by omega) hp d1
      obtain ⟨z', ez, z0', ez2⟩ := cut z0 (by omega) hp d2
      have hp3 := up y0 (by omega) d1 hp
      by_cases e : Int.tmod x p = 0
      · obtain ⟨x', ex, x0', ex2⟩ := cut x0 (by omega) hp (Int.dvd_of_tmod_eq_zero e)
        have g := good_of (q := p * p * p) hG x0' y0' z0' (p3 hp) (by rw [ex, ey, ez]; ac_rfl) (.inl rfl) (.inl rfl) (.inl rfl)
        obtain ⟨a, b, c, d, f, h, h1, h2⟩ := next g.1 g.2
        refine ⟨a, b, c, d, f, h, h1, Ev.step (fun k => spec_l5Normal.l1.eq_2 _ _ _ _ k) ?_⟩
        rw [m0.1, m0.2]
        rw [← ex2, ← ey2, ← ez2] at h2
        exact Ev.pos (by omega) (Ev.pos (by decide) (Ev.pos (by simp) (Ev.neg (by omega) (Ev.bind0 rfl (Ev.pos (by decide) (Ev.pos (by simp) (Ev.bind0 rfl (Ev.pos (by decide) (Ev.pos (by simp) (Ev.pos (show Int.tmod x p = 0 from e) (Ev.bind0 rfl h2)))))))))))
      · have g := good_of (x' := x * p) (t' := t * p) (q := p) hG (Int.mul_ne_zero x0 (by omega)) y0' z0' hp (by rw [ey, ez]; ac_rfl) (.inr rfl) (.inl rfl) (.inl rfl)
        obtain ⟨a, b, c, d, f, h, h1, h2⟩ := next g.1 g.2
        refine ⟨a, b, c, d, f, h, h1, Ev.step (fun k => spec_l5Normal.l1.eq_2 _ _ _ _ k) ?_⟩
        rw [m0.1, m0.2]
        rw [← mw (a := x) (by omega) hp hp3, ← mw (a := t) (by omega) hp hp3, ← ey2, ← ez2] at h2
        exact Ev.pos (by omega) (Ev.pos (by decide) (Ev.pos (by simp) (Ev.neg (by omega) (Ev.bind0 rfl (Ev.pos (by decide) (Ev.pos (by simp) (Ev.bind0 rfl (Ev.pos (by decide) (Ev.pos (by simp) (Ev.neg (show ¬ Int.tmod x p = 0 from e) (Ev.bind0 rfl (Ev.pos (by simp) h2))))))))))))
    · obtain ⟨z', ez, z0', ez2⟩ := cut z0 (by omega) hp d1
      obtain ⟨x', ex, x0', ex2⟩ := cut x0 (by omega) hp d2
      have hp3 := up z0 (by omega) d1 hp
      by_cases e : Int.tmod y p = 0
      · obtain ⟨y', ey, y0', ey2⟩ := cut y0 (by omega) hp (Int.dvd_of_tmod_eq_zero e)
        have g := good_of (q := p * p * p) hG x0' y0' z0' (p3 hp) (by rw [ex, ey, ez]; ac_rfl) (.inl rfl) (.inl rfl) (.inl rfl)
        obtain ⟨a, b, c, d, f, h, h1, h2⟩ := next g.1 g.2
        refine ⟨a, b, c, d, f, h, h1, Ev.step (fun k => spec_l5Normal.l1.eq_2 _ _ _ _ k) ?_⟩
        rw [m1.1, m1.2]
        rw [← ex2, ← ey2, ← ez2] at h2
        exact Ev.pos (by omega) (Ev.pos (by decide) (Ev.pos (by simp) (Ev.neg (by omega) (Ev.bind0 rfl (Ev.pos (by decide) (Ev.pos (by simp) (Ev.bind0 rfl (Ev.pos (by decide) (Ev.pos (by simp) (Ev.pos (show Int.tmod y p = 0 from e) (Ev.bind0 rfl h2)))))))))))
      · have g := good_of (y' := y * p) (u' := u * p) (q := p) hG x0' (Int.mul_ne_zero y0 (by omega)) z0' hp (by rw [ex, ez]; ac_rfl) (.inl rfl) (.inr rfl) (.inl rfl)
        obtain ⟨a, b, c, d, f, h, h1, h2⟩ := next g.1 g.2
        refine ⟨a, b, c, d, f, h, h1, Ev.step (fun k => spec_l5Normal.l1.eq_2 _ _ _ _ k) ?_⟩
        rw [m1.1, m1.2]
        rw [← mw (a := y) (by omega) hp hp3, ← mw (a := u) (by omega) hp hp3, ← ex2, ← ez2] at h2
        exact Ev.pos (by omega) (Ev.pos (by decide) (Ev.pos (by simp) (Ev.neg (by omega) (Ev.bind0 rfl (Ev.pos (by decide) (Ev.pos (by simp) (Ev.bind0 rfl (Ev.pos (by decide) (Ev.pos (by simp) (Ev.neg (show ¬ Int.tmod y p = 0 from e) (Ev.bind0 rfl (Ev.pos (by simp) h2))))))))))))
    · obtain ⟨x', ex, x0', ex2⟩ := cut x0 (by omega) hp d1
      obtain ⟨y', ey, y0', ey2⟩ := cut y0 (by omega) hp d2
      have hp3 := up x0 (by omega) d1 hp
      by_cases e : Int.tmod z p = 0
      · obtain ⟨z', ez, z0', ez2⟩ := cut z0 (by omega) hp (Int.dvd_of_tmod_eq_zero e)
        have g := good_of (q := p * p * p) hG x0' y0' z0' (p3 hp) (by rw [ex, ey, ez]; ac_rfl) (.inl rfl) (.inl rfl) (.inl rfl)
        obtain ⟨a, b, c, d, f, h, h1, h2⟩ := next g.1 g.2
        refine ⟨a, b, c, d, f, h, h1, Ev.step (fun k => spec_l5Normal.l1.eq_2 _ _ _ _ k) ?_⟩
        rw [m2.1, m2.2]
        rw [← ex2, ← ey2, ← ez2] at h2
        exact Ev.pos (by omega) (Ev.pos (by decide) (Ev.pos (by simp) (Ev.neg (by omega) (Ev.bind0 rfl (Ev.pos (by decide) (Ev.pos (by simp) (Ev.bind0 rfl (Ev.pos (by decide) (Ev.pos (by simp) (Ev.pos (show Int.tmod z p = 0 from e) (Ev.bind0 rfl h2)))))))))))
      · have g := good_of (z' := z * p) (v' := v * p) (q := p) hG x0' y0' (Int.mul_ne_zero z0 (by omega)) hp (by rw [ex, ey]; ac_rfl) (.inl rfl) (.inl rfl) (.inr rfl)
        obtain ⟨a, b, c, d, f, h, h1, h2⟩ := next g.1 g.2
        refine ⟨a, b, c, d, f, h, h1, Ev.step (fun k => spec_l5Normal.l1.eq_2 _ _ _ _ k) ?_⟩
        rw [m2.1, m2.2]
        rw [← mw (a := z) (by omega) hp hp3, ← mw (a := v) (by omega) hp hp3, ← ex2, ← ey2] at h2
        exact Ev.pos (by omega) (Ev.pos (by decide) (Ev.pos (by simp) (Ev.neg (by omega) (Ev.bind0 rfl (Ev.pos (by decide) (Ev.pos (by simp) (Ev.bind0 rfl (Ev.pos (by decide) (Ev.pos (by simp) (Ev.neg (show ¬ Int.tmod z p = 0 from e) (Ev.bind0 rfl (Ev.pos (by simp) h2))))))))))))
theorem normal_ev (a b c : Int) (a0 : a ≠ 0) (b0 : b ≠ 0) (c0 : c ≠ 0) (ha : a.natAbs ≤ 31) (hb : b.natAbs ≤ 31) (hc : c.natAbs ≤ 31) : ∃ x y z t u v : Int, Good x y z t u v ∧ Ev (fun k => spec_l5Normal.f k [a, b, c]) ([x, y, z], [t, u, v]) := by
  obtain ⟨x, r, x0, x1, r0, r1, hx⟩ := core_ev a a0 (by omega)
  obtain ⟨y, s, y0, y1, s0, s1, hy⟩ := core_ev b b0 (by omega)
  obtain ⟨z, q, z0, z1, q0, q1, hz⟩ := core_ev c c0 (by omega)
  have lim : ∀ {w m : Int} {n : Nat}, m ≠ 0 → 1 ≤ w → n ≤ 31 → w * (m.natAbs : Int) ≤ (n : Int) → w ≤ 31 := by
    intro w m n hm hw hn h
    have := Int.mul_le_mul_of_nonneg_left (show (1 : Int) ≤ (m.natAbs : Int) by omega) (show 0 ≤ w by omega)
    omega
  have rb := lim x0 r0 ha r1
  have sb := lim y0 s0 hb s1
  have qb := lim z0 q0 hc q1
  have m2 : Int.tmod (wrap64 (2 + 1)) 3 = 0 ∧ Int.tmod (wrap64 (2 + 2)) 3 = 1 := by rw [w64 (a := (2 : Int) + 1) (by decide) (by decide), w64 (a := (2 : Int) + 2) (by decide) (by decide)]; decide
  have m1 : Int.tmod (wrap64 (1 + 1)) 3 = 2 ∧ Int.tmod (wrap64 (1 + 2)) 3 = 0 := by rw [w64 (a := (1 : Int) + 1) (by decide) (by decide), w64 (a := (1 : Int) + 2) (by decide) (by decide)]; decide
  have m0 : Int.tmod (wrap64 (0 + 1)) 3 = 1 ∧ Int.tmod (wrap64 (0 + 2)) 3 = 2 := by rw [w64 (a := (0 : Int) + 1) (by decide) (by decide), w64 (a := (0 : Int) + 2) (by decide) (by decide)]; decide
  have p3 : ∀ {A B C : Int}, 0 ≤ A → A ≤ 31 → 0 ≤ B → B ≤ 31 → 0 ≤ C → C ≤ 31 → A * (B * C) ≤ 29791 := by
    intro A B C h1 h2 h3 h4 h5 h6
    have a := Int.mul_le_mul h4 h6 h5 (show (0 : Int) ≤ 31 by omega)
    have b := Int.mul_le_mul h2 a (Int.mul_nonneg h3 h5) (show (0 : Int) ≤ 31 by omega)
    omega
  have nb : ∀ {w m : Int}, 1 ≤ w → 0 ≤ w * (m.natAbs : Int) := fun h => Int.mul_nonneg (by omega) (by omega)
  have p1 : ∀ {w m : Int}, 1 ≤ w → 1 ≤ m → 1 ≤ w * m := fun {w m} h h' => by have := Int.mul_pos (show 0 < w by omega) (show 0 < m by omega); omega
  have p2 : ∀ {w m : Int}, 1 ≤ w → 1 ≤ m → w ≤ 31 → m ≤ 31 → wrap64 (w * m) = w * m := fun {w m} h h' k k' => by
    have := mul2_bd (a := w) (b := m) (A := 31) (B := 31) (by omega) (by omega); exact w64 (by omega) (by omega)
  have hG : Good x y z (s * q) (r * q) (r * s) := by
    refine ⟨x0, y0, z0, p1 s0 q0, p1 r0 q0, p1 r0 s0, ?_, ?_, ?_⟩
    · have := p3 (A := (x.natAbs : Int)) (B := s * (y.natAbs : Int)) (C := q * (z.natAbs : Int)) (by omega) (by omega) (nb s0) (by omega) (nb q0) (by omega)
      rw [Int.natAbs_mul, Int.natAbs_mul, Int.natCast_mul, Int.natCast_mul, show s * q * ((x.natAbs : Int) * ((y.natAbs : Int) * (z.natAbs : Int))) = (x.natAbs : Int) * (s * (y.natAbs : Int) * (q * (z.natAbs : Int))) by ac_rfl]; omega
    · have := p3 (A := (y.natAbs : Int)) (B := r * (x.natAbs : Int)) (C := q * (z.natAbs : Int)) (by omega) (by omega) (nb r0) (by omega) (nb q0) (by omega)
      rw [Int.natAbs_mul, Int.natAbs_mul, Int.natCast_mul, Int.natCast_mul, show r * q * ((x.natAbs : Int) * ((y.natAbs : Int) * (z.natAbs : Int))) = (y.natAbs : Int) * (r * (x.natAbs : Int) * (q * (z.natAbs : Int))) by ac_rfl]; omega
    · have := p3 (A := (z.natAbs : Int)) (B := r * (x.natAbs : Int)) (C := s * (y.natAbs : Int)) (by omega) (by omega) (nb r0) (by omega) (nb s0) (by omega)
      rw [Int.natAbs_mul, Int.natAbs_mul, Int.natCast_mul, Int.natCast_mul, show r * s * ((x.natAbs : Int) * ((y.natAbs : Int) * (z.natAbs : Int))) = (z.natAbs : Int) * (r * (x.natAbs : Int) * (s * (y.natAbs : Int))) by ac_rfl]; omega
  obtain ⟨p, i, hT, h2⟩ := two_ev x y z x0 y0 z0 (by omega) (by omega) (by omega)
  obtain ⟨a', b', c', d', e', f', hG', h3⟩ := normal_l _ x y z _ _ _ p i hG hT (Nat.le_refl _)
  refine ⟨a', b', c', d', e', f', hG', ?_⟩
  unfold spec_l5Normal.f
  refine Ev.step (fun k => spec_l5Normal.l0.eq_2 _ _ _ _ k) ?_
  rw [m0.1, m0.2, w64 (a := (0 : Int) + 1) (by decide) (by decide)]
  refine Ev.pos (by decide) (Ev.pos (by decide) (Ev.pos (by simp) (Ev.bind (show Ev (fun k => spec_l1Core.f k (rd [a, b, c] 0)) (x, r) from hx) (Ev.pos (by simp) (Ev.pos (by decide) (Ev.pos (by simp) (Ev.bind0 rfl (Ev.pos (by decide) (Ev.pos (by simp) ?_)))))))))
  show Ev (fun k => spec_l5Normal.l0 k [a, b, c] [x] [1, wrap64 (1 * r), wrap64 (1 * r)] 1) _
  rw [p2 (by omega) r0 (by omega) rb, Int.one_mul]
  refine Ev.step (fun k => spec_l5Normal.l0.eq_2 _ _ _ _ k) ?_
  rw [m1.1, m1.2, w64 (a := (1 : Int) + 1) (by decide) (by decide)]
  refine Ev.pos (by decide) (Ev.pos (by decide) (Ev.pos (by simp) (Ev.bind (show Ev (fun k => spec_l1Core.f k (rd [a, b, c] 1)) (y, s) from hy) (Ev.pos (by simp) (Ev.pos (by decide) (Ev.pos (by simp) (Ev.bind0 rfl (Ev.pos (by decide) (Ev.pos (by simp) ?_)))))))))
  show Ev (fun k => spec_l5Normal.l0 k [a, b, c] [x, y] [wrap64 (1 * s), r, wrap64 (r * s)] 2) _
  rw [p2 (by omega) s0 (by omega) sb, p2 r0 s0 rb sb, Int.one_mul]
  refine Ev.step (fun k => spec_l5Normal.l0.eq_2 _ _ _ _ k) ?_
  rw [m2.1, m2.2, w64 (a := (2 : Int) + 1) (by decide) (by decide)]
  refine Ev.pos (by decide) (Ev.pos (by decide) (Ev.pos (by simp) (Ev.bind (show Ev (fun k => spec_l1Core.f k (rd [a, b, c] 2)) (z, q) from hz) (Ev.pos (by simp) (Ev.pos (by decide) (Ev.pos (by simp) (Ev.bind0 rfl (Ev.pos (by decide) (Ev.pos (by simp) ?_)))))))))
  show Ev (fun k => spec_l5Normal.l0 k [a, b, c] [x, y, z] [wrap64 (s * q), wrap64 (r * q), r * s] 3) _
  rw [p2 s0 q0 sb qb, p2 r0 q0 rb qb]
  exact Ev.step (fun k => spec_l5Normal.l0.eq_2 _ _ _ _ k) (Ev.neg (by decide) (Ev.bind h2 h3))
theorem l5Root_l (n : Int) : ∀ (d : Nat) (lo hi : Int), 0 ≤ lo → lo ≤ hi → hi ≤ 1048576 → hi - lo ≤ d → (∀ s : Int, 0 ≤ s → s < lo → s * s < n) → n ≤ hi * hi →
    ∃ r : Int, ((0 ≤ r ∧ r ≤ 1048576 ∧ r * r = n) ∨ (r = -1 ∧ ∀ s : Int, 0 ≤ s → s * s ≠ n)) ∧ Ev (fun j => spec_l5Root.l0 j n lo hi) r := by
  intro d
  induction d with
  | zero =>
    intro lo hi h0 h1 h2 h3 h4 h5
    obtain rfl : lo = hi := by omega
    have hb : lo * lo ≤ 1048576 * 1048576 := Int.mul_le_mul h2 h2 h0 (by omega)
    have hb0 := Int.mul_nonneg h0 h0
    by_cases e : lo * lo = n
    · exact ⟨lo, .inl ⟨h0, h2, e⟩, Ev.step (fun j => spec_l5Root.l0.eq_2 _ _ _ j) (Ev.neg (by omega) (Ev.pos (by rw [w64 (by omega) (by omega)]; exact e) (Ev.now _)))⟩
    · refine ⟨-1, .inr ⟨rfl, fun s hs he => ?_⟩, Ev.step (fun j => spec_l5Root.l0.eq_2 _ _ _ j) (Ev.neg (by omega) (Ev.neg (by rw [w64 (by omega) (by omega)]; exact e) (Ev.now _)))⟩
      rcases (by omega : s < lo ∨ lo ≤ s) with h6 | h6
      · have := h4 s hs h6; omega
      · have := Int.mul_le_mul h6 h6 h0 hs
        omega
  | succ d ih =>
    intro lo hi h0 h1 h2 h3 h4 h5
    by_cases hlt : lo < hi
    · have em : wrap64 (Int.tdiv (wrap64 (lo + hi)) 2) = (lo + hi) / 2 := by
        rw [w64 (a := lo + hi) (by omega) (by omega), Int.tdiv_eq_ediv_of_nonneg (by omega)]; exact w64 (by omega) (by omega)
      obtain ⟨m, hm⟩ : ∃ m : Int, m = (lo + hi) / 2 := ⟨_, rfl⟩
      rw [← hm] at em
      have hmb : m * m ≤ 1048576 * 1048576 := Int.mul_le_mul (by omega) (by omega) (by omega) (by omega)
      have hmb0 := Int.mul_nonneg (show 0 ≤ m by omega) (show 0 ≤ m by omega)
      have em2 : wrap64 (m * m) = m * m := w64 (by omega) (by omega)
      by_cases hc : m * m < n
      · obtain ⟨r, r0, r1⟩ := ih (m + 1) hi (by omega) (by omega) h2 (by omega) (fun s hs hs1 => by
          have := Int.mul_le_mul (show s ≤ m by omega) (show s ≤ m by omega) hs (by omega)
          omega) h5
        refine ⟨r, r0, Ev.step (fun j => spec_l5Root.l0.eq_2 _ _ _ j) (Ev.pos hlt (Ev.pos (by rw [em, em2]; exact hc) ?_))⟩
        rw [em, w64 (by omega) (by omega)]; exact r1
      · obtain ⟨r, r0, r1⟩ := ih lo m h0 (by omega) (by omega) (by omega) h4 (by omega)
        refine ⟨r, r0, Ev.step (fun j => spec_l5Root.l0.eq_2 _ _ _ j) (Ev.pos hlt (Ev.neg (by rw [em, em2]; exact hc) ?_))⟩
        rw [em]; exact r1
    · exact ih lo hi h0 h1 h2 (by omega) h4 h5
theorem l5Root_ev (n : Int) (hn : n ≤ 1099511627776) : ∃ r : Int, ((0 ≤ r ∧ r ≤ 1048576 ∧ r * r = n) ∨ (r = -1 ∧ ∀ s : Int, 0 ≤ s → s * s ≠ n)) ∧ Ev (fun j => spec_l5Root.f j n) r := by
  unfold spec_l5Root.f
  exact l5Root_l n 1048576 0 1048576 (by omega) (by omega) (by omega) (by omega) (by omega) (by omega)
theorem l5Plain_1 (v : List Int) (g : Nat) (hg : g ≠ 0) (s : Int) (hs : s = 1 ∨ s = -1) (hn : v.length ≤ 1000000) (ht : ∀ x ∈ v, -9000000000000000000 ≤ x ∧ x ≤ 9000000000000000000) : ∀ (m i : Nat), i + m = v.length →
    Ev (fun k => spec_l5Plain.l1 k v (g : Int) s ((v.take i).map (fun x => Int.tdiv x (s * g))) (i : Int)) (v.map (fun x => Int.tdiv x (s * g))) := by
  intro m
  induction m with
  | zero =>
    intro i h
    exact Ev.step (fun k => spec_l5Plain.l1.eq_2 _ _ _ _ _ k) (Ev.neg (by omega) (Ev.nows (by rw [List.take_of_length_le (by omega)])))
  | succ m ih =>
    intro i h
    have hi : i < v.length := by omega
    have b := ht _ (rd_mem hi)
    have e1 : Int.tdiv (s * rd v (i : Int)) (g : Int) = Int.tdiv (rd v (i : Int)) (s * g) := by
      rcases hs with rfl | rfl
      · rw [Int.one_mul, Int.one_mul]
      · rw [show (-1 : Int) * rd v (i : Int) = -rd v (i : Int) by omega, show (-1 : Int) * (g : Int) = -(g : Int) by omega, Int.neg_tdiv, Int.tdiv_neg]
    have e2 : -9000000000000000000 ≤ s * rd v (i : Int) ∧ s * rd v (i : Int) ≤ 9000000000000000000 := by rcases hs with rfl | rfl <;> omega
    have hq : (Int.tdiv (s * rd v (i : Int)) (g : Int)).natAbs ≤ (s * rd v (i : Int)).natAbs := by rw [Int.natAbs_tdiv]; exact Nat.div_le_self _ _
    have hc : ((v.take i).map (fun x => Int.tdiv x (s * g))).length = i := by rw [List.length_map, List.length_take]; omega
    refine Ev.step (fun k => spec_l5Plain.l1.eq_2 _ _ _ _ _ k) (Ev.pos (by omega) (Ev.pos (by omega) (Ev.neg (by omega) (Ev.pos (by omega) ?_))))
    rw [w64s (by omega), w64 (a := s * rd v (i : Int)) (by omega) (by omega), w64 (a := Int.tdiv _ _) (by omega) (by omega), e1]
    have e : (v.take i).map (fun x => Int.tdiv x (s * g)) ++ [Int.tdiv (rd v (i : Int)) (s * g)] = (v.take (i + 1)).map (fun x => Int.tdiv x (s * g)) := by
      rw [List.take_succ_eq_append_getElem hi, List.map_append, rd_at, List.getD_eq_getElem?_getD, List.getElem?_eq_getElem hi]; rfl
    rw [e]
    exact ih (i + 1) (by omega)
theorem l5Plain_0 (v : List Int) (h0 : some0 v = true) (hn : v.length ≤ 1000000) (ht : ∀ x ∈ v, -9000000000000000000 ≤ x ∧ x ≤ 9000000000000000000) : ∀ (m i : Nat) (g : Nat) (s : Int) (first : Bool), i + m = v.length → g ≤ 9000000000000000000 → gcdL g (v.drop i) = gcdL 0 v →
    (first = true → s = 1 ∧ sgn1 (v.drop i) = sgn1 v) → (first = false → s = sgn1 v) → Ev (fun k => spec_l5Plain.l0 k v (g : Int) s first (i : Int)) (plainL v) := by
  have hg : gcdL 0 v ≠ 0 := fun k => by rw [gcdL_zero, h0] at k; cases k
  intro m
  induction m with
  | zero =>
    intro i g s first h _ he h1 h2
    rw [List.drop_of_length_le (by omega)] at he h1
    refine Ev.step (fun k => spec_l5Plain.l0.eq_2 _ _ _ _ _ k) (Ev.neg (by omega) ?_)
    have es : s = sgn1 v := by
      cases first with
      | true => have := h1 rfl; rw [this.1, ← this.2]; rfl
      | false => exact h2 rfl
    rw [es, show g = gcdL 0 v from he]
    have := l5Plain_1 v (gcdL 0 v) hg (sgn1 v) (sgn1_cases v) hn ht v.length 0 (by omega)
    unfold plainL
    simpa using this
  | succ m ih =>
    intro i g s first h hgb he h1 h2
    have hi : i < v.length := by omega
    have b := ht _ (rd_mem hi)
    rw [drop_rd hi] at he h1
    refine Ev.step (fun k => spec_l5Plain.l0.eq_2 _ _ _ _ _ k) (Ev.pos (by omega) (Ev.pos (by omega) (Ev.bind (l1Gcd_ev (by omega) (by omega) (by omega) (by omega)) ?_)))
    have hb2 : Nat.gcd g (rd v (i : Int)).natAbs ≤ 9000000000000000000 := by
      rcases Nat.eq_zero_or_pos g with rfl | hp
      · rw [Nat.gcd_zero_left]; omega
      · have := Nat.gcd_le_left (rd v (i : Int)).natAbs hp; omega
    rw [show ((g : Int)).natAbs = g from rfl]
    have he2 : gcdL (Nat.gcd g (rd v (i : Int)).natAbs) (v.drop (i + 1)) = gcdL 0 v := by rw [← he]; rfl
    by_cases hz : rd v (i : Int) = 0
    · refine Ev.pos hz (Ev.step (fun k => spec_l5Plain.j1.eq_2 _ _ _ _ _ _ k) (Ev.neg (by simp) ?_))
      rw [w64s (by omega)]
      refine ih (i + 1) _ s first (by omega) hb2 he2 (fun k => ?_) h2
      have := h1 k
      rw [sgn1, if_pos hz] at this; exact this
    · refine Ev.neg hz (Ev.step (fun k => spec_l5Plain.j1.eq_2 _ _ _ _ _ _ k) ?_)
      cases first with
      | true =>
        obtain ⟨s1, s2⟩ := h1 rfl
        rw [sgn1, if_neg hz] at s2
        refine Ev.pos rfl (Ev.pos (by omega) (Ev.pos (by omega) ?_))
        rw [w64s (by omega)]
        by_cases hneg : rd v (i : Int) < 0
        · rw [if_pos hneg] at s2
          exact Ev.pos hneg (ih (i + 1) _ (-1) false (by omega) hb2 he2 (fun k => by cases k) (fun _ => s2))
        · rw [if_neg hneg] at s2
          exact Ev.neg hneg (ih (i + 1) _ s false (by omega) hb2 he2 (fun k => by cases k) (fun _ => by rw [s1]; exact s2))
      | false =>
        refine Ev.neg (by simp) ?_
        rw [w64s (by omega)]
        exact ih (i + 1) _ s false (by omega) hb2 he2 (fun k => by cases k) h2
theorem l5Plain_ev (v : List Int) (h0 : some0 v = true) (hn : v.length ≤ 1000000) (ht : ∀ x ∈ v, -9000000000000000000 ≤ x ∧ x ≤ 9000000000000000000) : Ev (fun k => spec_l5Plain.f k v) (plainL v) := by
  unfold spec_l5Plain.f
  exact l5Plain_0 v h0 hn ht v.length 0 0 1 true (by omega) (by omega) rfl (fun _ => ⟨rfl, rfl⟩) (fun k => by cases k)
theorem l91V_l {s : List Int} (hs : IsCode s) (form : List Int) (n : Int) (h0 : 0 ≤ n) (hn : n ≤ 1000) (hf : form.length ≤ 1000) : ∀ (m i : Nat) (x : List Int) (p : Nat), i + m = form.length → x.length = i → (∀ y ∈ x, -n ≤ y ∧ y ≤ n) → p ≤ 19700000000000000 + i →
    ∃ v : List Int, v.length = form.length ∧ (∀ y ∈ v, -n ≤ y ∧ y ≤ n) ∧ Ev (fun k => spec_l91Vector.l0 k form n x (i : Int) s (p : Int)) (v, ((p + m : Nat) : Int)) := by
  intro m
  induction m with
  | zero =>
    intro i x p h hx hb hp
    exact ⟨x, by omega, hb, Ev.step (fun k => spec_l91Vector.l0.eq_2 _ _ _ _ _ _ k) (Ev.neg (by omega) (Ev.now _))⟩
  | succ m ih =>
    intro i x p h hx hb hp
    obtain ⟨a, a0, a1, ha⟩ := pick_ev' hs p (2 * n + 1) (by omega) (by omega)
    obtain ⟨v, h1, h2, h3⟩ := ih (i + 1) (x ++ [a - n]) (p + 1) (by omega) (by rw [List.length_append]; simp only [List.length_cons, List.length_nil]; omega) (fun z hz => by
      rcases List.mem_append.1 hz with hz | hz
      · exact hb z hz
      · rw [List.mem_singleton.1 hz]; omega) (by omega)
    refine ⟨v, h1, h2, Ev.step (fun k => spec_l91Vector.l0.eq_2 _ _ _ _ _ _ k) (Ev.pos (by omega) ?_)⟩
    rw [w64 (a := 2 * n) (by omega) (by omega), w64 (a := 2 * n + 1) (by omega) (by omega)]
    refine Ev.bind ha ?_
    simp only
    rw [w64s (by omega), w64 (a := a - n) (by omega) (by omega)]
    refine Ev.pos (by omega) (Ev.to h3 ?_)
    rw [show p + 1 + m = p + (m + 1) by omega]
theorem l91V_ev {s : List Int} (hs : IsCode s) (p : Nat) (hp : p ≤ 19700000000000000) (form : List Int) (n : Int) (h0 : 0 ≤ n) (hn : n ≤ 1000) (hf : form.length ≤ 1000) :
    ∃ v : List Int, v.length = form.length ∧ (∀ y ∈ v, -n ≤ y ∧ y ≤ n) ∧ Ev (fun k => spec_l91Vector.f k s (p : Int) form n) (v, ((p + form.length : Nat) : Int)) := by
  unfold spec_l91Vector.f
  exact l91V_l hs form n h0 hn hf form.length 0 [] p (by omega) rfl (by simp) (by omega)
def Found (R : List Int × Bool) : Prop := R = ([], false) ∨ ∃ x y r : Int, 0 ≤ x ∧ x ≤ 200 ∧ 0 ≤ y ∧ y ≤ 200 ∧ 0 ≤ r ∧ r ≤ 1048576 ∧ (x ≠ 0 ∨ y ≠ 0) ∧ R = ([x, y, r], true)
theorem abs_mul_bd {a x : Int} {A B : Nat} (h : a.natAbs ≤ A) (h1 : x.natAbs ≤ B) : (a * x).natAbs ≤ A * B := by rw [Int.natAbs_mul]; exact Nat.mul_le_mul h h1
theorem lessen {x y : Int} {N : Nat} (h0 : 0 ≤ x) (h1 : x ≤ 199) (h2 : y ≤ 200) (h : (200 - x).toNat * 1000 + (300 - y).toNat ≤ N + 1) : (200 - (x + 1)).toNat * 1000 + 500 ≤ N := by
  obtain ⟨a, ha⟩ : ∃ a : Nat, (200 - (x + 1)).toNat = a := ⟨_, rfl⟩
  have hb : (200 - x).toNat = a + 1 := by omega
  have hc : 100 ≤ (300 - y).toNat := by omega
  rw [hb, Nat.succ_mul] at h
  rw [ha]
  generalize (300 - y).toNat = c at *
  have : a * 1000 + 1000 + c ≤ N + 1 := h
  exact Nat.le_of_lt_succ (Nat.lt_of_lt_of_le (Nat.lt_of_lt_of_le (Nat.add_lt_add_left (show 500 < 1000 by decide) _) (Nat.le_add_right _ c)) this)
theorem search_l {a b c : Int} (ha : a.natAbs ≤ 30000) (hb : b.natAbs ≤ 30000) (c0 : c ≠ 0) (hbc : (b * c).natAbs ≤ 30000) (hac : (a * c).natAbs ≤ 30000) : ∀ (N : Nat),
    (∀ x : Int, 0 ≤ x → x ≤ 200 → (200 - x).toNat * 1000 + 500 ≤ N → ∃ R, Found R ∧ Ev (fun k => spec_l5Search.l0 k a b c x) R) ∧
    (∀ x y : Int, 0 ≤ x → x ≤ 199 → 0 ≤ y → y ≤ 200 → (200 - x).toNat * 1000 + (300 - y).toNat ≤ N → ∃ R, Found R ∧ Ev (fun k => spec_l5Search.l1 k a b c x y) R) := by
  intro N
  induction N with
  | zero => exact ⟨fun x _ _ h => by omega, fun x y _ _ _ _ h => by omega⟩
  | succ N ih =>
    refine ⟨fun x x0 x1 hN => ?_, fun x y x0 x1 y0 y1 hN => ?_⟩
    · have hx := sq_le x0 x1
      have ez : Ev (fun _ => spec_l1Size.f (wrap64 (b * c))) ((b * c).natAbs : Int) := by rw [w64 (a := b * c) (by omega) (by omega)]; exact Ev.val (l1Size_eq (by omega) (by omega))
      by_cases e : x * x ≤ ((b * c).natAbs : Int)
      · have := sq_bd (M := 0) (p := x) x0 (by omega)
        have hx1 : x ≤ 199 := by
          rcases (by omega : x ≤ 199 ∨ 200 ≤ x) with h | h
          · exact h
          · have := Int.mul_le_mul h h (by omega) x0; omega
        obtain ⟨R, R0, R1⟩ := ih.2 x 0 x0 hx1 (by omega) (by omega) (by omega)
        exact ⟨R, R0, Ev.step (fun k => spec_l5Search.l0.eq_2 _ _ _ _ k) (Ev.bind ez (Ev.pos (by rw [w64 (a := x * x) (by omega) (by omega)]; exact e) R1))⟩
      · exact ⟨([], false), .inl rfl, Ev.step (fun k => spec_l5Search.l0.eq_2 _ _ _ _ k) (Ev.bind ez (Ev.neg (by rw [w64 (a := x * x) (by omega) (by omega)]; exact e) (Ev.now _)))⟩
    · have hy := sq_le y0 y1
      have ez : Ev (fun _ => spec_l1Size.f (wrap64 (a * c))) ((a * c).natAbs : Int) := by rw [w64 (a := a * c) (by omega) (by omega)]; exact Ev.val (l1Size_eq (by omega) (by omega))
      by_cases e : y * y ≤ ((a * c).natAbs : Int)
      · have hy1 : y ≤ 199 := by
          rcases (by omega : y ≤ 199 ∨ 200 ≤ y) with h | h
          · exact h
          · have := Int.mul_le_mul h h (by omega) y0; omega
        have b1 := abs_mul_bd (x := x) (B := 200) ha (by omega)
        have b2 := abs_mul_bd (x := x) (B := 200) b1 (by omega)
        have b3 := abs_mul_bd (x := y) (B := 200) hb (by omega)
        have b4 := abs_mul_bd (x := y) (B := 200) b3 (by omega)
        obtain ⟨n, hn⟩ : ∃ n : Int, n = -(a * x * x) - b * y * y := ⟨_, rfl⟩
        have en : wrap64 ((wrap64 (-(wrap64 ((wrap64 (a * x)) * x)))) - (wrap64 ((wrap64 (b * y)) * y))) = n := by
          rw [w64 (a := a * x) (by omega) (by omega), w64 (a := a * x * x) (by omega) (by omega), w64 (a := -(a * x * x)) (by omega) (by omega), w64 (a := b * y) (by omega) (by omega), w64 (a := b * y * y) (by omega) (by omega), hn]
          exact w64 (by omega) (by omega)
        have hq : (Int.tdiv n c).natAbs ≤ n.natAbs := tdiv_mag n c
        have eq : wrap64 (Int.tdiv n c) = Int.tdiv n c := w64 (by omega) (by omega)
        obtain ⟨R, R0, R1⟩ := ih.2 x (y + 1) x0 x1 (by omega) (by omega) (by omega)
        have again : ∀ (n : Int), Ev (fun k => spec_l5Search.j2 k a b c x y n true) R := fun n => by
          refine Ev.step (fun k => spec_l5Search.j2.eq_2 _ _ _ _ _ _ _ k) (Ev.pos rfl ?_)
          rw [w64 (a := y + 1) (by omega) (by omega)]; exact R1
        have look : ∀ (t : Bool), (t = false → x ≠ 0 ∨ y ≠ 0) → ∃ R, Found R ∧ Ev (fun k => spec_l5Search.j2 k a b c x y n t) R := by
          intro t ht
          cases t with
          | true => exact ⟨R, R0, again n⟩
          | false =>
            obtain ⟨r, r0, r1⟩ := l5Root_ev (Int.tdiv n c) (by omega)
            by_cases hr : r ≥ 0
            · have hr2 : r ≤ 1048576 := by rcases r0 with h | h <;> omega
              refine ⟨([x, y, r], true), .inr ⟨x, y, r, x0, by omega, y0, by omega, hr, hr2, ht rfl, rfl⟩, Ev.step (fun k => spec_l5Search.j2.eq_2 _ _ _ _ _ _ _ k) (Ev.neg (by simp) (Ev.neg c0 ?_))⟩
              rw [eq]; exact Ev.bind r1 (Ev.pos hr (Ev.now _))
            · refine ⟨R, R0, Ev.step (fun k => spec_l5Search.j2.eq_2 _ _ _ _ _ _ _ k) (Ev.neg (by simp) (Ev.neg c0 ?_))⟩
              rw [eq, w64 (a := y + 1) (by omega) (by omega)]; exact Ev.bind r1 (Ev.neg hr R1)
        have fin : ∃ R, Found R ∧ Ev (fun k => (if (Int.tmod n c) = 0 then (if (wrap64 (Int.tdiv n c)) < 0 then (spec_l5Search.j2 k a b c x y n true) else (if x = 0 then (spec_l5Search.j2 k a b c x y n (y == 0)) else (spec_l5Search.j2 k a b c x y n false))) else (spec_l5Search.j2 k a b c x y n true))) R := by
          by_cases h1 : Int.tmod n c = 0
          · by_cases h2 : wrap64 (Int.tdiv n c) < 0
            · exact ⟨R, R0, Ev.pos h1 (Ev.pos h2 (again n))⟩
            · by_cases h3 : x = 0
              · obtain ⟨S, S0, S1⟩ := look (y == 0) (fun h => .inr (by simpa using h))
                exact ⟨S, S0, Ev.pos h1 (Ev.neg h2 (Ev.pos h3 S1))⟩
              · obtain ⟨S, S0, S1⟩ := look false (fun h => .inl h3)
                exact ⟨S, S0, Ev.pos h1 (Ev.neg h2 (Ev.neg h3 S1))⟩
          · exact ⟨R, R0, Ev.neg h1 (again n)⟩
        obtain ⟨S, S0, S1⟩ := fin
        refine ⟨S, S0, Ev.step (fun k => spec_l5Search.l1.eq_2 _ _ _ _ _ k) (Ev.bind ez (Ev.pos (by rw [w64 (a := y * y) (by omega) (by omega)]; exact e) (Ev.neg c0 ?_)))⟩
        rw [en]; exact S1
      · obtain ⟨R, R0, R1⟩ := ih.1 (x + 1) (by omega) (by omega) (lessen x0 x1 y1 hN)
        refine ⟨R, R0, Ev.step (fun k => spec_l5Search.l1.eq_2 _ _ _ _ _ k) (Ev.bind ez (Ev.neg (by rw [w64 (a := y * y) (by omega) (by omega)]; exact e) ?_))⟩
        rw [w64 (a := x + 1) (by omega) (by omega)]; exact R1
theorem plainL_bd {v : List Int} {M : Int} (h : ∀ x ∈ v, -M ≤ x ∧ x ≤ M) : (plainL v).length = v.length ∧ ∀ x ∈ plainL v, -M ≤ x ∧ x ≤ M := by
  unfold plainL
  refine ⟨List.length_map .., fun x hx => ?_⟩
  obtain ⟨y, hy, rfl⟩ := List.mem_map.1 hx
  have := tdiv_mag y (sgn1 v * gcdL 0 v)
  have := h y hy
  omega
theorem three_ev (a b c : Int) (a0 : a ≠ 0) (b0 : b ≠ 0) (c0 : c ≠ 0) (ha : a.natAbs ≤ 31) (hb : b.natAbs ≤ 31) (hc : c.natAbs ≤ 31) : ∃ (v : List Int) (f : Bool), v.length ≤ 3 ∧ (∀ x ∈ v, -1000000000000 ≤ x ∧ x ≤ 1000000000000) ∧ Ev (fun k => spec_l5Three.f k [a, b, c]) (v, f) := by
  obtain ⟨x, y, z, t, u, v, hG, hN⟩ := normal_ev a b c a0 b0 c0 ha hb hc
  have gb := good_bd hG
  have n3 := nat3 hG.1 hG.2.1 hG.2.2.1
  obtain ⟨R, R0, R1⟩ := (search_l (a := x) (b := y) (c := z) (by omega) (by omega) hG.2.2.1 (by omega) (by omega) ((200 - (0 : Int)).toNat * 1000 + 500)).1 0 (by omega) (by omega) (Nat.le_refl _)
  have hS : Ev (fun k => spec_l5Search.f k [x, y, z]) R := by
    unfold spec_l5Search.f
    exact Ev.pos (by simp) (Ev.pos (by simp) (Ev.pos (by simp) R1))
  unfold spec_l5Three.f
  rcases R0 with rfl | ⟨p, q, r, p0, p1, q0, q1, r0, r1, hne, rfl⟩
  · exact ⟨[], false, by simp, by simp, Ev.bind hN (Ev.bind hS (Ev.neg (by simp) (Ev.now _)))⟩
  · have b1 := mul2_bd (a := t) (b := p) (A := 30000) (B := 1048576) (by omega) (by omega)
    have b2 := mul2_bd (a := u) (b := q) (A := 30000) (B := 1048576) (by omega) (by omega)
    have b3 := mul2_bd (a := v) (b := r) (A := 30000) (B := 1048576) (by omega) (by omega)
    have hb : ∀ w ∈ [t * p, u * q, v * r], -1000000000000 ≤ w ∧ w ≤ 1000000000000 := by
      intro w hw
      simp only [List.mem_cons, List.not_mem_nil, or_false] at hw
      rcases hw with rfl | rfl | rfl <;> omega
    have hs : some0 [t * p, u * q, v * r] = true := by
      unfold some0
      have a1 : p ≠ 0 → t * p ≠ 0 := fun h => Int.mul_ne_zero (by omega) h
      have a2 : q ≠ 0 → u * q ≠ 0 := fun h => Int.mul_ne_zero (by omega) h
      simp only [List.any_cons, List.any_nil, Bool.or_eq_true, bne_iff_ne]
      rcases hne with h | h
      · exact .inl (a1 h)
      · exact .inr (.inl (a2 h))
    have pb := plainL_bd hb
    refine ⟨plainL [t * p, u * q, v * r], true, by rw [pb.1]; simp, pb.2, Ev.bind hN (Ev.bind hS (Ev.pos rfl (Ev.pos (by simp) (Ev.pos (by simp) (Ev.pos (by simp) (Ev.pos (by simp) (Ev.pos (by simp) (Ev.pos (by simp) ?_))))))))⟩
    refine Ev.bind (a := plainL [t * p, u * q, v * r]) (show Ev (fun k => spec_l5Plain.f k [wrap64 (t * p), wrap64 (u * q), wrap64 (v * r)]) _ from ?_) (Ev.now _)
    rw [w64 (a := t * p) (by omega) (by omega), w64 (a := u * q) (by omega) (by omega), w64 (a := v * r) (by omega) (by omega)]
    exact l5Plain_ev _ hs (by simp) (fun w hw => by have := hb w hw; omega)
theorem zeroFind_ev {form : List Int} (hT : Three form) : ∃ (v : List Int) (f : Bool), v.length ≤ 3 ∧ (∀ x ∈ v, -1000000000000 ≤ x ∧ x ≤ 1000000000000) ∧ Ev (fun k => spec_ZeroFind.f k form) (v, f) := by
  unfold spec_ZeroFind.f
  by_cases hf : fOk form = true
  · have h3 : form.length = 3 := by
      rcases hT.1 with h | h
      · have := fOk_len hf; omega
      · exact h
    obtain ⟨a, b, c, rfl⟩ := list3 h3
    have ma := fOk_mem hf a (by simp)
    have mb := fOk_mem hf b (by simp)
    have mc := fOk_mem hf c (by simp)
    obtain ⟨v, f, v1, v2, v3⟩ := three_ev a b c ma.1 mb.1 mc.1 (by omega) (by omega) (by omega)
    exact ⟨v, f, v1, v2, Ev.bind (sFormValid_ev _ (by simp)) (Ev.pos hf (Ev.neg (by simp) (Ev.pos (by simp) (Ev.bind v3 (Ev.now _)))))⟩
  · exact ⟨[], false, by simp, by simp, Ev.bind (sFormValid_ev _ (by have := hT.1; omega)) (Ev.neg hf (Ev.now _))⟩
theorem point_ev {s : List Int} (hs : IsCode s) : ∃ (form v : List Int) (q : Nat), Three form ∧ v.length ≤ 3 ∧ (∀ x ∈ v, -1000000000000 ≤ x ∧ x ≤ 1000000000000) ∧ q ≤ 19600000000000000 ∧ Ev (fun k => spec_l92Point.f k s 0) (form, v, (q : Int)) := by
  obtain ⟨form, q, hT, hq, hf⟩ := form_ev hs
  obtain ⟨a, a0, a1, ha⟩ := pick_ev' hs q 4 (by omega) (by omega)
  have go : ∀ form : List Int, Three form → ∃ (v : List Int) (r : Nat), v.length ≤ 3 ∧ (∀ x ∈ v, -1000000000000 ≤ x ∧ x ≤ 1000000000000) ∧ r ≤ 19600000000000000 ∧ Ev (fun k => spec_l92Point.j0 k form s ((q + 1 : Nat) : Int)) (form, v, (r : Int)) := by
    intro form hT
    have hl := hT.1
    obtain ⟨v, f, v1, v2, v3⟩ := zeroFind_ev hT
    obtain ⟨b, b0, b1, hb⟩ := pick_ev' hs (q + 1) 16 (by omega) (by omega)
    obtain ⟨w, w1, w2, w3⟩ := l91V_ev hs (q + 1) (by omega) form 3 (by omega) (by omega) (by omega)
    obtain ⟨u, u1, u2, u3⟩ := l91V_ev hs (q + 1 + 1) (by omega) form 3 (by omega) (by omega) (by omega)
    cases f with
    | true =>
      by_cases h : b > 0
      · exact ⟨v, q + 1 + 1, v1, v2, by omega, Ev.step (fun k => spec_l92Point.j0.eq_2 _ _ _ k) (Ev.bind v3 (Ev.pos rfl (Ev.bind hb (Ev.pos h (Ev.now _)))))⟩
      · exact ⟨u, q + 1 + 1 + form.length, by omega, fun x hx => by have := u2 x hx; omega, by omega, Ev.step (fun k => spec_l92Point.j0.eq_2 _ _ _ k) (Ev.bind v3 (Ev.pos rfl (Ev.bind hb (Ev.neg h (Ev.bind u3 (Ev.now _))))))⟩
    | false => exact ⟨w, q + 1 + form.length, by omega, fun x hx => by have := w2 x hx; omega, by omega, Ev.step (fun k => spec_l92Point.j0.eq_2 _ _ _ k) (Ev.bind v3 (Ev.neg (by simp) (Ev.bind w3 (Ev.now _))))⟩
  unfold spec_l92Point.f
  by_cases e : a = 0
  · have h1 : Three [1, 1, (-1)] := ⟨.inr rfl, by decide⟩
    obtain ⟨v, r, v1, v2, v3, v4⟩ := go _ h1
    exact ⟨_, v, r, h1, v1, v2, v3, Ev.bind hf (Ev.bind ha (Ev.pos e v4))⟩
  · obtain ⟨v, r, v1, v2, v3, v4⟩ := go _ hT
    exact ⟨_, v, r, hT, v1, v2, v3, Ev.bind hf (Ev.bind ha (Ev.neg e v4))⟩
theorem iZeroIs_ev (form v : List Int) (hf : Tame form) (hv : Tame v) : Ev (fun k => impl_ZeroIs.f k form v) (zeroB form v) := by
  unfold impl_ZeroIs.f zeroB
  refine Ev.bind (iFormValid_ev form hf) ?_
  by_cases h1 : fOk form = true
  · refine Ev.pos h1 (Ev.bind (iVectorOk_ev form v 1000000 (by omega) (by omega) (by have := hv.1; omega)) (Ev.step (fun k => impl_ZeroIs.j0.eq_2 _ _ _ k) ?_))
    by_cases h2 : vOk form.length 1000000 v = true
    · refine Ev.neg (by rw [h2]; decide) (Ev.bind (gcd_ev v (by have := hv.1; omega) hv.2) ?_)
      by_cases h3 : some0 v = true
      · have h4 : gcdL 0 v ≠ 0 := fun h => by rw [gcdL_zero, h3] at h; cases h
        refine Ev.neg (by omega) (Ev.bind (iPair_ev form v v (vOk_len h2) (vOk_len h2) (fOk_len h1).2 (fun x hx => by have := fOk_mem h1 x hx; omega) (vOk_mem h2) (vOk_mem h2)) (Ev.nows ?_))
        rw [h1, h2, h3]; simp
      · have h4 : gcdL 0 v = 0 := gcdL_zero.2 (by simpa using h3)
        refine Ev.pos (by rw [h4]; rfl) (Ev.nows ?_)
        simp [h3]
    · exact Ev.pos (by simpa using h2) (Ev.nows (by simp [h2]))
  · exact Ev.neg h1 (Ev.step (fun k => impl_ZeroIs.j0.eq_2 _ _ _ k) (Ev.pos rfl (Ev.nows (by simp [h1]))))
theorem plain_l1 (v : List Int) (d : Int) (hd : d ≠ 0) (hn : v.length ≤ 1000000) (ht : ∀ x ∈ v, -9223372036854775807 ≤ x ∧ x ≤ 9223372036854775807) : ∀ (m i : Nat), i + m = v.length →
    Ev (fun k => impl_plain.l1 k d ((v.take i).map (fun x => Int.tdiv x d)) v (v.length : Int) (i : Int)) (v.map (fun x => Int.tdiv x d)) := by
  intro m
  induction m with
  | zero =>
    intro i h
    exact Ev.step (fun k => impl_plain.l1.eq_2 _ _ _ _ _ k) (Ev.neg (by omega) (Ev.nows (by rw [List.take_of_length_le (by omega)])))
  | succ m ih =>
    intro i h
    have hb := ht _ (rd_mem (show i < v.length by omega))
    have hq : (Int.tdiv (rd v (i : Int)) d).natAbs ≤ (rd v (i : Int)).natAbs := by rw [Int.natAbs_tdiv]; exact Nat.div_le_self _ _
    refine Ev.step (fun k => impl_plain.l1.eq_2 _ _ _ _ _ k) (Ev.pos (by omega) (Ev.pos (by omega) (Ev.pos (by omega) (Ev.neg hd (Ev.pos (by rw [List.length_map, List.length_take]; omega) ?_)))))
    rw [w64s (by omega), w64 (a := Int.tdiv (rd v (i : Int)) d) (by omega) (by omega)]
    have e : (v.take i).map (fun x => Int.tdiv x d) ++ [Int.tdiv (rd v (i : Int)) d] = (v.take (i + 1)).map (fun x => Int.tdiv x d) := by
      rw [List.take_succ_eq_append_getElem (show i < v.length by omega), List.map_append, rd_at, List.getD_eq_getElem?_getD, List.getElem?_eq_getElem (show i < v.length by omega)]; rfl
    rw [e]
    exact ih (i + 1) (by omega)
theorem plain_j1 (v : List Int) (d : Int) (hd : d ≠ 0) (ht : Tame v) : Ev (fun k => impl_plain.j1 k v d) (v.map (fun x => Int.tdiv x d)) := by
  refine Ev.step (fun k => impl_plain.j1.eq_2 _ _ k) ?_
  have h := plain_l1 v d hd (by have := ht.1; omega) ht.2 v.length 0 (by omega)
  simpa using h
theorem plain_l0 (v : List Int) (g : Nat) (hg : g ≠ 0) (hg1 : (g : Int) ≤ 9223372036854775807) (ht : Tame v) : ∀ (m i : Nat), i + m = v.length → (m = 0 → sgn1 v = 1) → sgn1 (v.drop i) = sgn1 v →
    Ev (fun k => impl_plain.l0 k v (g : Int) v (v.length : Int) (i : Int)) (v.map (fun x => Int.tdiv x (sgn1 v * g))) := by
  intro m
  have hn := ht.1
  induction m with
  | zero =>
    intro i h h1 _
    refine Ev.step (fun k => impl_plain.l0.eq_2 _ _ _ _ _ k) (Ev.neg (by omega) ?_)
    rw [h1 rfl, Int.one_mul]
    exact plain_j1 v g (by omega) ht
  | succ m ih =>
    intro i h _ h2
    refine Ev.step (fun k => impl_plain.l0.eq_2 _ _ _ _ _ k) (Ev.pos (by omega) (Ev.pos (by omega) (Ev.pos (by omega) ?_)))
    rw [drop_rd (show i < v.length by omega)] at h2
    by_cases hz : rd v (i : Int) = 0
    · refine Ev.pos hz ?_
      rw [w64s (by omega)]
      rw [sgn1, if_pos hz] at h2
      refine ih (i + 1) (by omega) (fun hm => ?_) h2
      rw [← h2, List.drop_of_length_le (by omega)]; rfl
    · refine Ev.neg hz ?_
      rw [sgn1, if_neg hz] at h2
      by_cases hneg : rd v (i : Int) < 0
      · rw [if_pos hneg] at h2
        refine Ev.pos hneg ?_
        rw [← h2, w64 (a := -(g : Int)) (by omega) (by omega), show (-1 : Int) * g = -g by omega]
        exact plain_j1 v (-g) (by omega) ht
      · rw [if_neg hneg] at h2
        refine Ev.neg hneg ?_
        rw [← h2, Int.one_mul]
        exact plain_j1 v g (by omega) ht
theorem gcdL_le {v : List Int} (ht : Tame v) (h : some0 v = true) : (gcdL 0 v : Int) ≤ 9223372036854775807 := by
  unfold some0 at h
  rw [List.any_eq_true] at h
  obtain ⟨x, hx, h0⟩ := h
  have h1 := Nat.le_of_dvd (by simp at h0; omega) ((gcdL_mono v 0).2 x hx)
  have := ht.2 x hx
  omega
theorem iPlain_ev (v : List Int) (ht : Tame v) (h : some0 v = true) : Ev (fun k => impl_plain.f k v) (plainL v) := by
  unfold impl_plain.f plainL
  refine Ev.bind (gcd_ev v (by have := ht.1; omega) ht.2) ?_
  refine plain_l0 v (gcdL 0 v) (fun h0 => by rw [gcdL_zero, h] at h0; cases h0) (gcdL_le ht h) ht v.length 0 (by omega) (fun h0 => ?_) rfl
  rw [List.eq_nil_of_length_eq_zero h0]; rfl
theorem zeroB_some {form v : List Int} (h : zeroB form v = true) : some0 v = true := by
  unfold zeroB at h; simp only [Bool.and_eq_true] at h; exact h.2.2.1
theorem iEqual_l (u v : List Int) (hl : v.length = u.length) (hn : u.length ≤ 1000000) : ∀ (m i : Nat), i + m = u.length → (∀ j, j < i → j < u.length → rd u (j : Int) = rd v (j : Int)) →
    Ev (fun k => slices_Equal_int_int.l0 k u v (u.length : Int) (i : Int)) (decide (u = v)) := by
  intro m
  induction m with
  | zero =>
    intro i h hj
    exact Ev.step (fun k => slices_Equal_int_int.l0.eq_2 _ _ _ _ k) (Ev.neg (by omega) (Ev.nows (decide_eq_true (ext_rd hl.symm (fun j h1 => hj j (by omega) h1))).symm))
  | succ m ih =>
    intro i h hj
    refine Ev.step (fun k => slices_Equal_int_int.l0.eq_2 _ _ _ _ k) (Ev.pos (by omega) (Ev.pos (by omega) (Ev.pos (by omega) (Ev.pos (by omega) ?_))))
    by_cases e : rd u (i : Int) = rd v (i : Int)
    · refine Ev.pos e ?_
      rw [w64s (by omega)]
      refine ih (i + 1) (by omega) (fun j h5 h6 => ?_)
      rcases (by omega : j < i ∨ j = i) with h7 | rfl
      · exact hj j h7 h6
      · exact e
    · exact Ev.neg e (Ev.nows (decide_eq_false (fun k => e (by rw [k]))).symm)
theorem iEqual_ev (u v : List Int) (hl : v.length = u.length) (hn : u.length ≤ 1000000) : Ev (fun k => slices_Equal_int_int.f k u v) (decide (u = v)) := by
  unfold slices_Equal_int_int.f
  exact Ev.pos (by omega) (iEqual_l u v hl hn u.length 0 (by omega) (by omega))
theorem l4Vector_l (form v : List Int) (M : Int) (h0 : 0 ≤ M) (hM : M ≤ 1000000000) (hn : form.length ≤ 1000000) (hv : v.length ≤ 1000000) : ∀ (m i : Nat), i + m = v.length → (∀ j, j < i → j < v.length → -M ≤ rd v (j : Int) ∧ rd v (j : Int) ≤ M) →
    Ev (fun k => spec_l4Vector.l0 k form v M (i : Int)) (fOk form && vOk form.length M v) := by
  intro m
  induction m with
  | zero =>
    intro i h hj
    refine Ev.step (fun k => spec_l4Vector.l0.eq_2 _ _ _ _ k) (Ev.neg (by omega) (Ev.bind (sFormValid_ev form hn) ?_))
    have e := vOk_end (n := form.length) (most := M) (v := v) (fun j h1 => hj j (by omega) h1)
    by_cases hf : fOk form = true
    · refine Ev.pos hf (Ev.nows ?_); rw [hf, e]; rfl
    · refine Ev.neg hf (Ev.nows ?_); rw [show fOk form = false by simpa using hf]; rfl
  | succ m ih =>
    intro i h hj
    refine Ev.step (fun k => spec_l4Vector.l0.eq_2 _ _ _ _ k) (Ev.pos (by omega) (Ev.pos (by omega) ?_))
    rw [w64 (a := -M) (by omega) (by omega)]
    refine Ev.bind0 (in_eq _ _ _) ?_
    by_cases h2 : -M ≤ rd v (i : Int) ∧ rd v (i : Int) ≤ M
    · refine Ev.pos (decide_eq_true h2) ?_
      rw [w64s (by omega)]
      refine ih (i + 1) (by omega) (fun j h5 h6 => ?_)
      rcases (by omega : j < i ∨ j = i) with h7 | rfl
      · exact hj j h7 h6
      · exact h2
    · refine Ev.neg (by simpa using h2) (Ev.nows ?_)
      rw [vOk_no (rd_mem (show i < v.length by omega)) h2, Bool.and_false]
theorem l4Vector_ev (form v : List Int) (M : Int) (h0 : 0 ≤ M) (hM : M ≤ 1000000000) (hn : form.length ≤ 1000000) (hv : v.length ≤ 1000000) : Ev (fun k => spec_l4Vector.f k form v M) (fOk form && vOk form.length M v) := by
  unfold spec_l4Vector.f
  exact l4Vector_l form v M h0 hM hn hv v.length 0 (by omega) (by omega)
theorem l4Value_l (f v : List Int) (hv : v.length = f.length) (hn : f.length ≤ 4) (hf : ∀ x ∈ f, -31 ≤ x ∧ x ≤ 31) (bv : ∀ x ∈ v, -1000000 ≤ x ∧ x ≤ 1000000) :
    ∀ (m i : Nat) (s : Int), i + m = f.length → -(31000000000000 * i) ≤ s → s ≤ 31000000000000 * i → Ev (fun k => spec_l4Value.l0 k f v s (i : Int)) (s + dot3 (f.drop i) (v.drop i) (v.drop i)) := by
  intro m
  induction m with
  | zero =>
    intro i s h _ _
    exact Ev.step (fun k => spec_l4Value.l0.eq_2 _ _ _ _ k) (Ev.neg (by omega) (Ev.nows (by rw [dot3_nil (by omega)]; omega)))
  | succ m ih =>
    intro i s h h1 h2
    have b1 := hf _ (rd_mem (show i < f.length by omega))
    have b2 := bv _ (rd_mem (show i < v.length by omega))
    have b := mul3_bd b1 b2 b2 (by omega) (by omega)
    refine Ev.step (fun k => spec_l4Value.l0.eq_2 _ _ _ _ k) (Ev.pos (by omega) (Ev.pos (by omega) (Ev.pos (by omega) ?_)))
    rw [w64s (by omega), w64 (a := rd f (i : Int) * rd v (i : Int)) (by omega) (by omega), w64 (a := rd f (i : Int) * rd v (i : Int) * rd v (i : Int)) (by omega) (by omega), w64 (a := s + _) (by omega) (by omega), dot3_drop (show i < f.length by omega) (by omega) (by omega)]
    refine Ev.to (ih (i + 1) _ (by omega) (by omega) (by omega)) (by omega)
theorem l4Value_ev (f v : List Int) (hv : v.length = f.length) (hn : f.length ≤ 4) (hf : ∀ x ∈ f, -31 ≤ x ∧ x ≤ 31) (bv : ∀ x ∈ v, -1000000 ≤ x ∧ x ≤ 1000000) : Ev (fun k => spec_l4Value.f k f v) (dot3 f v v) := by
  unfold spec_l4Value.f
  have h := l4Value_l f v hv hn hf bv f.length 0 0 (by omega) (by omega) (by omega)
  exact Ev.to h (by simp)
theorem l5Some_ev (v : List Int) (hn : v.length ≤ 1000000) : Ev (fun k => spec_l5Some.f k v) (some0 v) := by
  have go : ∀ (m i : Nat), i + m = v.length → (∀ j, j < i → j < v.length → rd v (j : Int) = 0) → Ev (fun k => spec_l5Some.l0 k v (i : Int)) (some0 v) := by
    intro m
    induction m with
    | zero =>
      intro i h hj
      exact Ev.step (fun k => spec_l5Some.l0.eq_2 _ _ k) (Ev.neg (by omega) (Ev.nows (some0_rd.2 (fun j h1 => hj j (by omega) h1)).symm))
    | succ m ih =>
      intro i h hj
      refine Ev.step (fun k => spec_l5Some.l0.eq_2 _ _ k) (Ev.pos (by omega) (Ev.pos (by omega) ?_))
      by_cases e : rd v (i : Int) = 0
      · refine Ev.pos e ?_
        rw [w64s (by omega)]
        refine ih (i + 1) (by omega) (fun j h5 h6 => ?_)
        rcases (by omega : j < i ∨ j = i) with h7 | rfl
        · exact hj j h7 h6
        · exact e
      · refine Ev.neg e (Ev.nows ?_)
        have : some0 v ≠ false := fun k => e (some0_rd.1 k i (by omega))
        simpa using this
  unfold spec_l5Some.f
  exact go v.length 0 (by omega) (by omega)
theorem iPoint_ev (form v : List Int) (hf : Tame form) (hv : Tame v) : Ev (fun k => impl_ConicPoint.f k form v) (pointB form v) := by
  unfold impl_ConicPoint.f pointB
  have hl := hv.1
  by_cases h3 : form.length = 3
  · refine Ev.pos (by omega) (Ev.bind (iVectorOk_ev form v 1000 (by omega) (by omega) (by omega)) ?_)
    rw [h3]
    by_cases h4 : vOk 3 1000 v = true
    · refine Ev.pos h4 (Ev.bind (iZeroIs_ev form v hf hv) ?_)
      by_cases h5 : zeroB form v = true
      · refine Ev.pos h5 (Ev.bind (iPlain_ev v hv (zeroB_some h5)) (Ev.bind (iEqual_ev _ _ (by unfold plainL; rw [List.length_map]) (by unfold plainL; rw [List.length_map]; omega)) (Ev.nows ?_)))
        simp [h4, h5]
      · exact Ev.neg h5 (Ev.nows (by simp [h5]))
    · exact Ev.neg h4 (Ev.nows (by simp [h4]))
  · exact Ev.neg (by omega) (Ev.nows (by simp [h3]))
theorem sZeroIs_ev (form v : List Int) (hn : form.length ≤ 1000000) (hv : v.length ≤ 1000000) : Ev (fun k => spec_ZeroIs.f k form v) (zeroB form v) := by
  unfold spec_ZeroIs.f zeroB
  refine Ev.bind (l4Vector_ev form v 1000000 (by omega) (by omega) hn hv) ?_
  by_cases h : (fOk form && vOk form.length 1000000 v) = true
  · refine Ev.pos h (Ev.bind (l5Some_ev v hv) ?_)
    simp only [Bool.and_eq_true] at h
    by_cases h3 : some0 v = true
    · refine Ev.pos h3 (Ev.bind (l4Value_ev form v (vOk_len h.2) (fOk_len h.1).2 (fun x hx => by have := fOk_mem h.1 x hx; omega) (vOk_mem h.2)) (Ev.nows ?_))
      rw [h.1, h.2, h3]; simp
    · exact Ev.neg h3 (Ev.nows (by simp [h3]))
  · refine Ev.neg h (Ev.nows ?_)
    rw [← Bool.and_assoc]
    simp [h]
theorem sPlain_l (u v : List Int) (hl : v.length = u.length) (hn : u.length ≤ 1000000) : ∀ (m i : Nat), i + m = u.length → (∀ j, j < i → j < u.length → rd v (j : Int) = rd u (j : Int)) →
    Ev (fun k => spec_l6kPlain.l0 k u v (i : Int)) (decide (v = u)) := by
  intro m
  induction m with
  | zero =>
    intro i h hj
    exact Ev.step (fun k => spec_l6kPlain.l0.eq_2 _ _ _ k) (Ev.neg (by omega) (Ev.nows (decide_eq_true (ext_rd hl (fun j h1 => hj j (by omega) (by omega)))).symm))
  | succ m ih =>
    intro i h hj
    refine Ev.step (fun k => spec_l6kPlain.l0.eq_2 _ _ _ k) (Ev.pos (by omega) (Ev.pos (by omega) (Ev.pos (by omega) ?_)))
    by_cases e : rd v (i : Int) = rd u (i : Int)
    · refine Ev.pos e ?_
      rw [w64s (by omega)]
      refine ih (i + 1) (by omega) (fun j h5 h6 => ?_)
      rcases (by omega : j < i ∨ j = i) with h7 | rfl
      · exact hj j h7 h6
      · exact e
    · exact Ev.neg e (Ev.nows (decide_eq_false (fun k => e (by rw [k]))).symm)
theorem sPlain_ev (v : List Int) (hn : v.length ≤ 1000000) (ht : ∀ x ∈ v, -9000000000000000000 ≤ x ∧ x ≤ 9000000000000000000) (h : some0 v = true) : Ev (fun k => spec_l6kPlain.f k v) (decide (plainL v = v)) := by
  unfold spec_l6kPlain.f
  exact Ev.bind (l5Plain_ev v h hn ht) (sPlain_l v (plainL v) (by unfold plainL; rw [List.length_map]) hn v.length 0 (by omega) (by omega))
theorem height_l (form v : List Int) (hn : v.length ≤ 1000000) (ht : ∀ x ∈ v, -9000000000000000000 ≤ x ∧ x ≤ 9000000000000000000) : ∀ (m i : Nat) (s : Int), i + m = v.length →
    ∃ h : Int, (h ≤ 1000 ↔ s ≤ 1000 ∧ ∀ j, i ≤ j → j < v.length → -1000 ≤ rd v (j : Int) ∧ rd v (j : Int) ≤ 1000) ∧ Ev (fun k => spec_ZeroHeight.l0 k v s (i : Int)) h := by
  intro m
  induction m with
  | zero =>
    intro i s h
    refine ⟨s, ⟨fun h0 => ⟨h0, fun j h1 h2 => by omega⟩, fun h0 => h0.1⟩, Ev.step (fun k => spec_ZeroHeight.l0.eq_2 _ _ _ k) (Ev.neg (by omega) (Ev.now _))⟩
  | succ m ih =>
    intro i s h
    have b := ht _ (rd_mem (show i < v.length by omega))
    obtain ⟨r, r1, r2⟩ := ih (i + 1) (mx s ((rd v (i : Int)).natAbs : Int)) (by omega)
    refine ⟨r, ?_, Ev.step (fun k => spec_ZeroHeight.l0.eq_2 _ _ _ k) (Ev.pos (by omega) (Ev.pos (by omega) (Ev.bind0 (l1Size_eq (by omega) (by omega)) ?_)))⟩
    · rw [r1]
      have hm : mx s ((rd v (i : Int)).natAbs : Int) ≤ 1000 ↔ s ≤ 1000 ∧ -1000 ≤ rd v (i : Int) ∧ rd v (i : Int) ≤ 1000 := by unfold mx; split <;> omega
      rw [hm]
      constructor
      · rintro ⟨⟨h1, h2⟩, h3⟩
        refine ⟨h1, fun j h4 h5 => ?_⟩
        rcases (by omega : j = i ∨ i + 1 ≤ j) with rfl | h6
        · exact h2
        · exact h3 j h6 h5
      · rintro ⟨h1, h2⟩
        exact ⟨⟨h1, h2 i (by omega) (by omega)⟩, fun j h3 h4 => h2 j (by omega) h4⟩
    · rw [w64s (by omega)]; exact r2
theorem sPoint_ev (form v : List Int) (hn : form.length ≤ 1000000) (hv : v.length ≤ 1000000) (ht : ∀ x ∈ v, -9000000000000000000 ≤ x ∧ x ≤ 9000000000000000000) : Ev (fun k => spec_ConicPoint.f k form v) (pointB form v) := by
  unfold spec_ConicPoint.f pointB
  by_cases h3 : form.length = 3
  · refine Ev.pos (by omega) (Ev.bind (sZeroIs_ev form v hn hv) ?_)
    by_cases h5 : zeroB form v = true
    · have hl : v.length = 3 := by rw [vOk_len (zeroB_of h5).2.1, h3]
      refine Ev.pos h5 (Ev.bind (sPlain_ev v hv ht (zeroB_some h5)) ?_)
      by_cases h6 : plainL v = v
      · obtain ⟨h, h7, h8⟩ := height_l form v hv ht v.length 0 0 (by omega)
        have hH : Ev (fun k => spec_ZeroHeight.f k form v) h := by
          unfold spec_ZeroHeight.f
          exact Ev.bind (sZeroIs_ev form v hn hv) (Ev.pos h5 h8)
        refine Ev.pos (by simp [h6]) (Ev.bind hH (Ev.nows ?_))
        have e : vOk 3 1000 v = decide (h ≤ 1000) := by
          unfold vOk
          refine decide_eq_decide.2 ?_
          rw [h7]
          constructor
          · rintro ⟨_, h1⟩
            exact ⟨by omega, fun j _ h2 => h1 _ (rd_mem h2)⟩
          · rintro ⟨_, h1⟩
            refine ⟨hl, fun x hx => ?_⟩
            obtain ⟨j, hj, rfl⟩ := List.getElem_of_mem hx
            have := h1 j (by omega) hj
            rwa [rd_at, List.getD_eq_getElem?_getD, List.getElem?_eq_getElem hj] at this
        rw [e, h5]; simp [h3, h6]
      · exact Ev.neg (by simp [h6]) (Ev.nows (by simp [h6]))
    · exact Ev.neg h5 (Ev.nows (by simp [h5]))
  · exact Ev.neg (by omega) (Ev.nows (by simp [h3]))
theorem coll_eq {x y z a b c : Int} (hx : -1000 ≤ x ∧ x ≤ 1000 ∧ -1000 ≤ y ∧ y ≤ 1000 ∧ -1000 ≤ z ∧ z ≤ 1000) (ha : -1000000 ≤ a ∧ a ≤ 1000000 ∧ -1000000 ≤ b ∧ b ≤ 1000000 ∧ -1000000 ≤ c ∧ c ≤ 1000000) :
    impl_collinear.f [x, y, z] [a, b, c] = some (collB [x, y, z] [a, b, c]) := by
  have m : ∀ u v : Int, -1000 ≤ u ∧ u ≤ 1000 → -1000000 ≤ v ∧ v ≤ 1000000 → wrap64 (u * v) = u * v := fun u v hu hv => by
    have := mul2_bd hu hv; exact w64 (by omega) (by omega)
  unfold impl_collinear.f
  rw [if_pos (by simp), if_pos (by simp), if_pos (by simp), if_pos (by simp)]
  have e : collB [x, y, z] [a, b, c] = (decide (x * b = y * a) && (decide (x * c = z * a) && decide (y * c = z * b))) := rfl
  rw [e]
  show (if wrap64 (x * b) = wrap64 (y * a) then _ else _) = _
  rw [m x b (by omega) (by omega), m y a (by omega) (by omega)]
  by_cases h1 : x * b = y * a
  · rw [if_pos h1, if_pos (by simp), if_pos (by simp)]
    show (if wrap64 (x * c) = wrap64 (z * a) then some (wrap64 (y * c) == wrap64 (z * b)) else _) = _
    rw [m x c (by omega) (by omega), m z a (by omega) (by omega), m y c (by omega) (by omega), m z b (by omega) (by omega)]
    by_cases h2 : x * c = z * a
    · rw [if_pos h2]; simp only [h1, h2, decide_true, Bool.true_and]
      by_cases h3 : y * c = z * b <;> simp [h3]
    · rw [if_neg h2]; simp [h1, h2]
  · rw [if_neg h1]; simp [h1]
theorem other_bd {f g h a b c A : Int} (hf : -30 ≤ f ∧ f ≤ 30 ∧ -30 ≤ g ∧ g ≤ 30 ∧ -30 ≤ h ∧ h ≤ 30) (ha : -20 ≤ a ∧ a ≤ 20 ∧ -20 ≤ b ∧ b ≤ 20 ∧ -20 ≤ c ∧ c ≤ 20) {x y z : Int} (hx : -1000 ≤ x ∧ x ≤ 1000 ∧ -1000 ≤ y ∧ y ≤ 1000 ∧ -1000 ≤ z ∧ z ≤ 1000) :
    (-36000 ≤ f * a * a + g * b * b + h * c * c ∧ f * a * a + g * b * b + h * c * c ≤ 36000) ∧ (-1800000 ≤ f * x * a + g * y * b + h * z * c ∧ f * x * a + g * y * b + h * z * c ≤ 1800000) := by
  have t : ∀ {f x a F X A : Int}, -F ≤ f ∧ f ≤ F → -X ≤ x ∧ x ≤ X → -A ≤ a ∧ a ≤ A → -(F * X * A) ≤ f * x * a ∧ f * x * a ≤ F * X * A := fun h1 h2 h3 => mul2_bd (mul2_bd h1 h2) h3
  have a1 := t (f := f) (x := a) (a := a) (F := 30) (X := 20) (A := 20) (by omega) (by omega) (by omega)
  have a2 := t (f := g) (x := b) (a := b) (F := 30) (X := 20) (A := 20) (by omega) (by omega) (by omega)
  have a3 := t (f := h) (x := c) (a := c) (F := 30) (X := 20) (A := 20) (by omega) (by omega) (by omega)
  have b1 := t (f := f) (x := x) (a := a) (F := 30) (X := 1000) (A := 20) (by omega) (by omega) (by omega)
  have b2 := t (f := g) (x := y) (a := b) (F := 30) (X := 1000) (A := 20) (by omega) (by omega) (by omega)
  have b3 := t (f := h) (x := z) (a := c) (F := 30) (X := 1000) (A := 20) (by omega) (by omega) (by omega)
  omega
theorem iOther_ev (form v w : List Int) (hf : Tame form) (hv : Tame v) (hw : w.length ≤ 1000000) : Ev (fun k => impl_ConicOther.f k form v w) (otherB form v w) := by
  have no : ∀ w, Ev (fun k => impl_ConicOther.j0 k form v w true) ([], false) := fun w => Ev.step (fun k => impl_ConicOther.j0.eq_2 _ _ _ _ k) (Ev.pos rfl (Ev.now _))
  unfold impl_ConicOther.f
  refine Ev.bind (iPoint_ev form v hf hv) ?_
  by_cases hp : pointB form v = true
  · obtain ⟨F, G, H, x, y, z, rfl, rfl, hF, hFb, hxb, hne, h0, hpl⟩ := point_at hp
    refine Ev.pos hp (Ev.bind (iVectorOk_ev [F, G, H] w 20 (by omega) (by omega) (by omega)) ?_)
    by_cases h2 : vOk 3 20 w = true
    · obtain ⟨a, b, c, rfl⟩ := list3 (vOk_len h2)
      have m1 := vOk_mem h2 a (by simp)
      have m2 := vOk_mem h2 b (by simp)
      have m3 := vOk_mem h2 c (by simp)
      refine Ev.pos h2 (Ev.bind0 (coll_eq hxb (by omega)) ?_)
      by_cases h3 : collB [x, y, z] [a, b, c] = true
      · rw [h3]
        refine Ev.to (no _) ?_
        unfold otherB; rw [if_neg (fun k => by rw [h3] at k; cases k.2.2)]
      · have h3' : collB [x, y, z] [a, b, c] = false := by simpa using h3
        rw [h3']
        have bd := other_bd (A := 0) hFb (a := a) (b := b) (c := c) (by omega) hxb
        have hs := out_some hF h0 h3'
        have e1 : Ev (fun k => impl_pair.f k [F, G, H] [a, b, c] [a, b, c]) (F * a * a + G * b * b + H * c * c) := Ev.to (iPair_ev [F, G, H] [a, b, c] [a, b, c] rfl rfl (by simp) (by simp; omega) (by simp; omega) (by simp; omega)) (dot3_at ..)
        have e2 : Ev (fun k => impl_pair.f k [F, G, H] [x, y, z] [a, b, c]) (F * x * a + G * y * b + H * z * c) := Ev.to (iPair_ev [F, G, H] [x, y, z] [a, b, c] rfl rfl (by simp) (by simp; omega) (by simp; omega) (by simp; omega)) (dot3_at ..)
        rw [outL_at] at hs
        have hB : otherB [F, G, H] [x, y, z] [a, b, c] = (if vOk 3 1000000 (plainL (outL [F, G, H] [x, y, z] [a, b, c])) = true then (plainL (outL [F, G, H] [x, y, z] [a, b, c]), true) else ([], false)) := by unfold otherB; rw [if_pos ⟨hp, h2, h3'⟩]
        rw [hB, outL_at]
        obtain ⟨q, hq⟩ : ∃ q : Int, F * a * a + G * b * b + H * c * c = q := ⟨_, rfl⟩
        obtain ⟨p, hp'⟩ : ∃ p : Int, F * x * a + G * y * b + H * z * c = p := ⟨_, rfl⟩
        rw [hq] at e1 bd hs ⊢
        rw [hp'] at e2 bd hs ⊢
        have one : ∀ u d : Int, -1000 ≤ u ∧ u ≤ 1000 → -20 ≤ d ∧ d ≤ 20 → wrap64 ((wrap64 (q * u)) - (wrap64 ((wrap64 (2 * p)) * d))) = q * u - 2 * p * d ∧ -108000000 ≤ q * u - 2 * p * d ∧ q * u - 2 * p * d ≤ 108000000 := by
          intro u d hu hd
          have t1 := mul2_bd (a := q) (A := 36000) (by omega) hu
          have t2 := mul2_bd (a := 2 * p) (A := 3600000) (by omega) hd
          rw [w64 (a := q * u) (by omega) (by omega), w64 (a := 2 * p) (by omega) (by omega), w64 (a := 2 * p * d) (by omega) (by omega)]
          exact ⟨w64 (by omega) (by omega), by omega, by omega⟩
        have o1 := one x a (by omega) m1
        have o2 := one y b (by omega) m2
        have o3 := one z c (by omega) m3
        refine Ev.step (fun k => impl_ConicOther.j0.eq_2 _ _ _ _ k) (Ev.neg (by simp) (Ev.bind e1 (Ev.bind e2 ?_)))
        refine Ev.step (fun k => impl_ConicOther.l0.eq_2 _ _ _ _ _ _ _ _ k) (Ev.pos (by simp) (Ev.pos (by decide) (Ev.pos (by simp) (Ev.pos (by simp) (Ev.pos (by simp) ?_)))))
        show Ev (fun k => impl_ConicOther.l0 k [F, G, H] [x, y, z] [a, b, c] q p [wrap64 ((wrap64 (q * x)) - (wrap64 ((wrap64 (2 * p)) * a)))] 3 (wrap64 (0 + 1))) _
        rw [o1.1, w64 (a := (0 : Int) + 1) (by decide) (by decide)]
        refine Ev.step (fun k => impl_ConicOther.l0.eq_2 _ _ _ _ _ _ _ _ k) (Ev.pos (by decide) (Ev.pos (by decide) (Ev.pos (by simp) (Ev.pos (by simp) (Ev.pos (by simp) ?_)))))
        show Ev (fun k => impl_ConicOther.l0 k [F, G, H] [x, y, z] [a, b, c] q p [q * x - 2 * p * a, wrap64 ((wrap64 (q * y)) - (wrap64 ((wrap64 (2 * p)) * b)))] 3 (wrap64 ((0 + 1) + 1))) _
        rw [o2.1, w64 (a := (0 : Int) + 1 + 1) (by decide) (by decide)]
        refine Ev.step (fun k => impl_ConicOther.l0.eq_2 _ _ _ _ _ _ _ _ k) (Ev.pos (by decide) (Ev.pos (by decide) (Ev.pos (by simp) (Ev.pos (by simp) (Ev.pos (by simp) ?_)))))
        show Ev (fun k => impl_ConicOther.l0 k [F, G, H] [x, y, z] [a, b, c] q p [q * x - 2 * p * a, q * y - 2 * p * b, wrap64 ((wrap64 (q * z)) - (wrap64 ((wrap64 (2 * p)) * c)))] 3 (wrap64 ((0 + 1 + 1) + 1))) _
        rw [o3.1, w64 (a := (0 : Int) + 1 + 1 + 1) (by decide) (by decide)]
        refine Ev.step (fun k => impl_ConicOther.l0.eq_2 _ _ _ _ _ _ _ _ k) (Ev.neg (by decide) (Ev.bind (iPlain_ev _ ⟨by simp, by simp; omega⟩ hs) (Ev.bind (iVectorOk_ev [F, G, H] _ 1000000 (by omega) (by omega) (by unfold plainL; simp)) ?_)))
        by_cases h5 : vOk 3 1000000 (plainL [q * x - 2 * p * a, q * y - 2 * p * b, q * z - 2 * p * c]) = true
        · rw [if_pos h5]; exact Ev.pos h5 (Ev.now _)
        · rw [if_neg h5]; exact Ev.neg h5 (Ev.now _)
    · refine Ev.neg h2 (Ev.to (no _) ?_)
      unfold otherB; rw [if_neg (fun k => h2 k.2.1)]
  · refine Ev.neg hp (Ev.to (no _) ?_)
    unfold otherB; rw [if_neg (fun k => hp k.1)]
theorem axes_ev {x y z : Int} (h : x ≠ 0 ∨ y ≠ 0 ∨ z ≠ 0) : Ev (fun k => impl_axes.f k [x, y, z]) (axB [x, y, z]) := by
  unfold impl_axes.f
  have e : axB [x, y, z] = if x ≠ 0 then (0, 1, 2) else if y ≠ 0 then (1, 0, 2) else (2, 0, 1) := rfl
  rw [e]
  refine Ev.step (fun k => impl_axes.l0.eq_2 _ _ k) (Ev.pos (by decide) (Ev.pos (by simp) ?_))
  by_cases hx : x = 0
  · refine Ev.pos (show rd [x, y, z] 0 = 0 from hx) ?_
    rw [w64 (a := (0 : Int) + 1) (by decide) (by decide), if_neg (by simpa using hx)]
    refine Ev.step (fun k => impl_axes.l0.eq_2 _ _ k) (Ev.pos (by decide) (Ev.pos (by simp) ?_))
    by_cases hy : y = 0
    · refine Ev.pos (show rd [x, y, z] (0 + 1) = 0 from hy) ?_
      rw [w64 (a := (0 : Int) + 1 + 1) (by decide) (by decide), if_neg (by simpa using hy)]
      refine Ev.step (fun k => impl_axes.l0.eq_2 _ _ k) (Ev.pos (by decide) (Ev.pos (by simp) ?_))
      exact Ev.neg (show ¬ rd [x, y, z] (0 + 1 + 1) = 0 from (by rcases h with h | h | h; exact absurd hx h; exact absurd hy h; exact h)) (Ev.neg (by decide) (Ev.neg (by decide) (Ev.now _)))
    · rw [if_pos hy]
      exact Ev.neg (show ¬ rd [x, y, z] (0 + 1) = 0 from hy) (Ev.neg (by decide) (Ev.pos (by decide) (Ev.now _)))
  · rw [if_pos hx]
    exact Ev.neg (show ¬ rd [x, y, z] 0 = 0 from hx) (Ev.pos (by decide) (Ev.now _))
theorem axB_cases {x y z : Int} (h : x ≠ 0 ∨ y ≠ 0 ∨ z ≠ 0) : (x ≠ 0 ∧ axB [x, y, z] = (0, 1, 2) ∧ ∀ s t, headL [x, y, z] s t = [0, s, t]) ∨ (x = 0 ∧ y ≠ 0 ∧ axB [x, y, z] = (1, 0, 2) ∧ ∀ s t, headL [x, y, z] s t = [s, 0, t]) ∨ (x = 0 ∧ y = 0 ∧ z ≠ 0 ∧ axB [x, y, z] = (2, 0, 1) ∧ ∀ s t, headL [x, y, z] s t = [s, t, 0]) := by
  have e : axB [x, y, z] = if x ≠ 0 then (0, 1, 2) else if y ≠ 0 then (1, 0, 2) else (2, 0, 1) := rfl
  have e2 : ∀ s t, headL [x, y, z] s t = if x ≠ 0 then [0, s, t] else if y ≠ 0 then [s, 0, t] else [s, t, 0] := fun _ _ => rfl
  by_cases hx : x = 0
  · by_cases hy : y = 0
    · refine .inr (.inr ⟨hx, hy, by rcases h with h | h | h; exact absurd hx h; exact absurd hy h; exact h, by rw [e, if_neg (by simpa using hx), if_neg (by simpa using hy)], fun s t => by rw [e2, if_neg (by simpa using hx), if_neg (by simpa using hy)]⟩)
    · exact .inr (.inl ⟨hx, hy, by rw [e, if_neg (by simpa using hx), if_pos hy], fun s t => by rw [e2, if_neg (by simpa using hx), if_pos hy]⟩)
  · exact .inl ⟨hx, by rw [e, if_pos hx], fun s t => by rw [e2, if_pos hx]⟩
theorem headed_ev {x y z : Int} (h : x ≠ 0 ∨ y ≠ 0 ∨ z ≠ 0) (s t : Int) : Ev (fun k => impl_headed.f k [x, y, z] s t) (headL [x, y, z] s t) := by
  unfold impl_headed.f
  refine Ev.bind (axes_ev h) (Ev.pos (by omega) (Ev.bind0 rfl ?_))
  rcases axB_cases h with ⟨_, e, e2⟩ | ⟨_, _, e, e2⟩ | ⟨_, _, _, e, e2⟩ <;> rw [e, e2]
  · exact Ev.pos (by decide) (Ev.pos (by decide) (Ev.pos (by decide) (Ev.pos (by decide) (Ev.now _))))
  · exact Ev.pos (by decide) (Ev.pos (by decide) (Ev.pos (by decide) (Ev.pos (by decide) (Ev.now _))))
  · exact Ev.pos (by decide) (Ev.pos (by decide) (Ev.pos (by decide) (Ev.pos (by decide) (Ev.now _))))
theorem iAt_ev (form v : List Int) (s t : Int) (hf : Tame form) (hv : Tame v) (hs : -9223372036854775807 ≤ s ∧ s ≤ 9223372036854775807) (ht : -9223372036854775807 ≤ t ∧ t ≤ 9223372036854775807) : Ev (fun k => impl_ConicAt.f k form v s t) (atB form v s t) := by
  have no : Ev (fun k => impl_ConicAt.j0 k form v s t true) ([], false) := Ev.step (fun k => impl_ConicAt.j0.eq_2 _ _ _ _ _ k) (Ev.pos rfl (Ev.now _))
  unfold impl_ConicAt.f
  refine Ev.bind (iPoint_ev form v hf hv) ?_
  by_cases hp : pointB form v = true
  · refine Ev.pos hp ?_
    have size : Ev (fun k => (impl_size.f s).bind fun a => (if a > 20 then (impl_ConicAt.j0 k form v s t true) else ((impl_size.f t).bind fun b => (impl_ConicAt.j0 k form v s t (decide (b > 20)))))) (if s.natAbs ≤ 20 ∧ t.natAbs ≤ 20 then otherB form v (headL v s t) else ([], false)) := by
      refine Ev.bind0 (size_eq hs.1 hs.2) ?_
      by_cases h1 : ((s.natAbs : Nat) : Int) > 20
      · rw [if_neg (by omega)]; exact Ev.pos h1 no
      · refine Ev.neg h1 (Ev.bind0 (size_eq ht.1 ht.2) ?_)
        by_cases h2 : ((t.natAbs : Nat) : Int) > 20
        · rw [if_neg (by omega), decide_eq_true h2]; exact no
        · rw [if_pos (by omega), decide_eq_false h2]
          obtain ⟨F, G, H, x, y, z, rfl, rfl, hF, hFb, hxb, hne, h0, hpl⟩ := point_at hp
          have hl : (headL [x, y, z] s t).length ≤ 1000000 := by rcases axB_cases hne with ⟨_, e, e2⟩ | ⟨_, _, e, e2⟩ | ⟨_, _, _, e, e2⟩ <;> rw [e2] <;> simp
          exact Ev.step (fun k => impl_ConicAt.j0.eq_2 _ _ _ _ _ k) (Ev.neg (by simp) (Ev.bind (headed_ev hne s t) (Ev.bind (iOther_ev _ _ _ hf hv hl) (Ev.now _))))
    by_cases h1 : s = 0
    · refine Ev.pos h1 ?_
      by_cases h2 : t = 0
      · refine Ev.pos h2 (Ev.to no ?_)
        unfold atB; rw [if_neg (by omega)]
      · refine Ev.neg h2 (Ev.to size ?_)
        unfold atB
        by_cases h3 : s.natAbs ≤ 20 ∧ t.natAbs ≤ 20
        · rw [if_pos h3, if_pos ⟨hp, .inr h2, h3⟩]
        · rw [if_neg h3, if_neg (fun k => h3 k.2.2)]
    · refine Ev.neg h1 (Ev.to size ?_)
      unfold atB
      by_cases h3 : s.natAbs ≤ 20 ∧ t.natAbs ≤ 20
      · rw [if_pos h3, if_pos ⟨hp, .inl h1, h3⟩]
      · rw [if_neg h3, if_neg (fun k => h3 k.2.2)]
  · refine Ev.neg hp (Ev.to no ?_)
    unfold atB; rw [if_neg (fun k => hp k.1)]
theorem some_plain {z : List Int} (h : some0 z = true) : some0 (plainL z) = true := by
  obtain ⟨c, hc, hl, hr⟩ := plain_mul h
  cases e : some0 (plainL z) with
  | true => rfl
  | false =>
    have : some0 z = false := some0_rd.2 (fun i hi => by rw [hr i hi, some0_rd.1 e i (by omega), Int.mul_zero])
    rw [h] at this; cases this
theorem map_rd {c : Int} {u z : List Int} (hl : u.length = z.length) (hr : ∀ i, i < z.length → rd z (i : Int) = c * rd u (i : Int)) : z = u.map (c * ·) := by
  refine ext_rd (by simp [hl]) (fun i hi => ?_)
  rw [hr i hi, rd_at, rd_at]
  simp [List.getD_eq_getElem?_getD, show i < u.length by omega]
theorem plain_idem {z : List Int} (h : some0 z = true) : plainL (plainL z) = plainL z := by
  obtain ⟨c, hc, hl, hr⟩ := plain_mul h
  have e := map_rd hl hr
  have := plainL_scale hc (some_plain h)
  rw [← e] at this
  exact this.symm
theorem dot3_plain {form z : List Int} (h : some0 z = true) (h0 : dot3 form z z = 0) : dot3 form (plainL z) (plainL z) = 0 := by
  obtain ⟨c, hc, hl, hr⟩ := plain_mul h
  have e := map_rd hl hr
  have k := dot3_scale form c (plainL z) (plainL z)
  rw [← e, h0] at k
  rcases Int.mul_eq_zero.1 k.symm with h | h
  · exact absurd h (Int.mul_ne_zero hc hc)
  · exact h
theorem out_value {F G H x y z a b c : Int} (h0 : F * x * x + G * y * y + H * z * z = 0) : dot3 [F, G, H] (outL [F, G, H] [x, y, z] [a, b, c]) (outL [F, G, H] [x, y, z] [a, b, c]) = 0 := by
  rw [outL_at, dot3_at]
  obtain ⟨q, hq⟩ : ∃ q : Int, F * a * a + G * b * b + H * c * c = q := ⟨_, rfl⟩
  obtain ⟨p, hp⟩ : ∃ p : Int, F * x * a + G * y * b + H * z * c = p := ⟨_, rfl⟩
  rw [hq, hp]
  have id : F * (q * x - 2 * p * a) * (q * x - 2 * p * a) + G * (q * y - 2 * p * b) * (q * y - 2 * p * b) + H * (q * z - 2 * p * c) * (q * z - 2 * p * c) =
      q * q * (F * x * x + G * y * y + H * z * z) - 4 * q * p * (F * x * a + G * y * b + H * z * c) + 4 * p * p * (F * a * a + G * b * b + H * c * c) := by grind
  rw [id, h0, hq, hp]; grind
theorem out_zero {form v w : List Int} (hp : pointB form v = true) (hw : w.length = 3) (hc : collB v w = false) : some0 (outL form v w) = true ∧ zeroB form (plainL (outL form v w)) = vOk 3 1000000 (plainL (outL form v w)) := by
  have hf := (zeroB_of (pointB_of hp).2.2.1).1
  obtain ⟨F, G, H, x, y, z, rfl, rfl, hF, hFb, hxb, hne, h0, hpl⟩ := point_at hp
  obtain ⟨a, b, c, rfl⟩ := list3 hw
  have hs := out_some hF h0 hc
  refine ⟨hs, ?_⟩
  unfold zeroB
  rw [hf, some_plain hs, dot3_plain hs (out_value h0)]
  show (true && (vOk 3 1000000 _ && (true && (0 == (0 : Int))))) = _
  simp
theorem multiple_ev {x y z a b c : Int} (hx : -1000 ≤ x ∧ x ≤ 1000 ∧ -1000 ≤ y ∧ y ≤ 1000 ∧ -1000 ≤ z ∧ z ≤ 1000) (ha : -1000000 ≤ a ∧ a ≤ 1000000 ∧ -1000000 ≤ b ∧ b ≤ 1000000 ∧ -1000000 ≤ c ∧ c ≤ 1000000) :
    Ev (fun k => spec_l6kMultiple.f k [x, y, z] [a, b, c]) (collB [x, y, z] [a, b, c]) := by
  have m : ∀ u v : Int, -1000 ≤ u ∧ u ≤ 1000 → -1000000 ≤ v ∧ v ≤ 1000000 → wrap64 (u * v) = u * v := fun u v hu hv => by
    have := mul2_bd hu hv; exact w64 (by omega) (by omega)
  have e : collB [x, y, z] [a, b, c] = (decide (x * b = y * a) && (decide (x * c = z * a) && decide (y * c = z * b))) := rfl
  have i1 : wrap64 ((0 : Int) + 1) = 1 := w64 (by decide) (by decide)
  have i2 : wrap64 ((1 : Int) + 1) = 2 := w64 (by decide) (by decide)
  have i3 : wrap64 ((2 : Int) + 1) = 3 := w64 (by decide) (by decide)
  unfold spec_l6kMultiple.f
  rw [e]
  refine Ev.step (fun k => spec_l6kMultiple.l0.eq_2 _ _ _ k) (Ev.pos (by simp) (Ev.step (fun k => spec_l6kMultiple.l1.eq_2 _ _ _ _ k) (Ev.neg (by decide) ?_)))
  rw [i1]
  refine Ev.step (fun k => spec_l6kMultiple.l0.eq_2 _ _ _ k) (Ev.pos (by simp) (Ev.step (fun k => spec_l6kMultiple.l1.eq_2 _ _ _ _ k) (Ev.pos (by decide) (Ev.pos (by decide) (Ev.pos (by simp) (Ev.pos (by decide) (Ev.pos (by simp) (Ev.pos (by simp) (Ev.pos (by simp) ?_)))))))))
  show Ev (fun k => if wrap64 (y * a) = wrap64 (x * b) then _ else _) _
  rw [m x b (by omega) (by omega), m y a (by omega) (by omega), i1]
  by_cases h1 : x * b = y * a
  · refine Ev.pos h1.symm (Ev.step (fun k => spec_l6kMultiple.l1.eq_2 _ _ _ _ k) (Ev.neg (by decide) ?_))
    rw [i2]
    refine Ev.step (fun k => spec_l6kMultiple.l0.eq_2 _ _ _ k) (Ev.pos (by simp) (Ev.step (fun k => spec_l6kMultiple.l1.eq_2 _ _ _ _ k) (Ev.pos (by decide) (Ev.pos (by decide) (Ev.pos (by simp) (Ev.pos (by decide) (Ev.pos (by simp) (Ev.pos (by simp) (Ev.pos (by simp) ?_)))))))))
    show Ev (fun k => if wrap64 (z * a) = wrap64 (x * c) then _ else _) _
    rw [m x c (by omega) (by omega), m z a (by omega) (by omega), i1]
    by_cases h2 : x * c = z * a
    · refine Ev.pos h2.symm (Ev.step (fun k => spec_l6kMultiple.l1.eq_2 _ _ _ _ k) (Ev.pos (by decide) (Ev.pos (by decide) (Ev.pos (by simp) (Ev.pos (by decide) (Ev.pos (by simp) (Ev.pos (by simp) (Ev.pos (by simp) ?_))))))))
      show Ev (fun k => if wrap64 (z * b) = wrap64 (y * c) then _ else _) _
      rw [m y c (by omega) (by omega), m z b (by omega) (by omega), i2]
      by_cases h3 : y * c = z * b
      · refine Ev.pos h3.symm (Ev.step (fun k => spec_l6kMultiple.l1.eq_2 _ _ _ _ k) (Ev.neg (by decide) ?_))
        rw [i3]
        exact Ev.step (fun k => spec_l6kMultiple.l0.eq_2 _ _ _ k) (Ev.neg (by simp) (Ev.nows (by simp [h1, h2, h3])))
      · exact Ev.neg (fun k => h3 k.symm) (Ev.nows (by simp [h3]))
    · exact Ev.neg (fun k => h2 k.symm) (Ev.nows (by simp [h2]))
  · exact Ev.neg (fun k => h1 k.symm) (Ev.nows (by simp [h1]))
theorem l5Pair_l (f v w : List Int) (hv : v.length = f.length) (hw : w.length = f.length) (hn : f.length ≤ 4) (hf : ∀ x ∈ f, -31 ≤ x ∧ x ≤ 31) (bv : ∀ x ∈ v, -1000000 ≤ x ∧ x ≤ 1000000) (bw : ∀ x ∈ w, -1000000 ≤ x ∧ x ≤ 1000000) :
    ∀ (m i : Nat) (s : Int), i + m = f.length → -(31000000000000 * i) ≤ s → s ≤ 31000000000000 * i → Ev (fun k => spec_l5Pair.l0 k f v w s (i : Int)) (s + dot3 (f.drop i) (v.drop i) (w.drop i)) := by
  intro m
  induction m with
  | zero =>
    intro i s h _ _
    exact Ev.step (fun k => spec_l5Pair.l0.eq_2 _ _ _ _ _ k) (Ev.neg (by omega) (Ev.nows (by rw [dot3_nil (by omega)]; omega)))
  | succ m ih =>
    intro i s h h1 h2
    have b1 := hf _ (rd_mem (show i < f.length by omega))
    have b2 := bv _ (rd_mem (show i < v.length by omega))
    have b3 := bw _ (rd_mem (show i < w.length by omega))
    have b := mul3_bd b1 b2 b3 (by omega) (by omega)
    refine Ev.step (fun k => spec_l5Pair.l0.eq_2 _ _ _ _ _ k) (Ev.pos (by omega) (Ev.pos (by omega) (Ev.pos (by omega) (Ev.pos (by omega) ?_))))
    rw [w64s (by omega), w64 (a := rd f (i : Int) * rd v (i : Int)) (by omega) (by omega), w64 (a := rd f (i : Int) * rd v (i : Int) * rd w (i : Int)) (by omega) (by omega), w64 (a := s + _) (by omega) (by omega), dot3_drop (show i < f.length by omega) (by omega) (by omega)]
    refine Ev.to (ih (i + 1) _ (by omega) (by omega) (by omega)) (by omega)
theorem l5Pair_ev (f v w : List Int) (hv : v.length = f.length) (hw : w.length = f.length) (hn : f.length ≤ 4) (hf : ∀ x ∈ f, -31 ≤ x ∧ x ≤ 31) (bv : ∀ x ∈ v, -1000000 ≤ x ∧ x ≤ 1000000) (bw : ∀ x ∈ w, -1000000 ≤ x ∧ x ≤ 1000000) :
    Ev (fun k => spec_l5Pair.f k f v w) (dot3 f v w) := by
  unfold spec_l5Pair.f
  have h := l5Pair_l f v w hv hw hn hf bv bw f.length 0 0 (by omega) (by omega) (by omega)
  exact Ev.to h (by simp)
theorem sOther_ev (form v w : List Int) (hn : form.length ≤ 1000000) (hv : v.length ≤ 1000000) (ht : ∀ x ∈ v, -9000000000000000000 ≤ x ∧ x ≤ 9000000000000000000) (hw : w.length ≤ 1000000) : Ev (fun k => spec_ConicOther.f k form v w) (otherB form v w) := by
  have no : Ev (fun k => spec_ConicOther.j0 k form v w true) ([], false) := Ev.step (fun k => spec_ConicOther.j0.eq_2 _ _ _ _ k) (Ev.pos rfl (Ev.now _))
  unfold spec_ConicOther.f
  refine Ev.bind (sPoint_ev form v hn hv ht) ?_
  by_cases hp : pointB form v = true
  · have hf := (zeroB_of (pointB_of hp).2.2.1).1
    refine Ev.pos hp (Ev.bind (l4Vector_ev form w 20 (by omega) (by omega) hn hw) ?_)
    have h33 := (pointB_of hp).1
    rw [hf, h33, Bool.true_and]
    by_cases h2 : vOk 3 20 w = true
    · obtain ⟨F, G, H, x, y, z, rfl, rfl, hF, hFb, hxb, hne, h0, hpl⟩ := point_at hp
      obtain ⟨a, b, c, rfl⟩ := list3 (vOk_len h2)
      have m1 := vOk_mem h2 a (by simp)
      have m2 := vOk_mem h2 b (by simp)
      have m3 := vOk_mem h2 c (by simp)
      refine Ev.pos h2 (Ev.bind (multiple_ev hxb (by omega)) ?_)
      by_cases h3 : collB [x, y, z] [a, b, c] = true
      · rw [h3]
        refine Ev.to no ?_
        unfold otherB; rw [if_neg (fun k => by rw [h3] at k; cases k.2.2)]
      · have h3' : collB [x, y, z] [a, b, c] = false := by simpa using h3
        rw [h3']
        have bd := other_bd (A := 0) hFb (a := a) (b := b) (c := c) (by omega) hxb
        obtain ⟨hs, hzz⟩ := out_zero hp (w := [a, b, c]) rfl h3'
        have e1 : Ev (fun k => spec_l4Value.f k [F, G, H] [a, b, c]) (F * a * a + G * b * b + H * c * c) := Ev.to (l4Value_ev [F, G, H] [a, b, c] rfl (by simp) (by simp; omega) (by simp; omega)) (dot3_at ..)
        have e2 : Ev (fun k => spec_l5Pair.f k [F, G, H] [x, y, z] [a, b, c]) (F * x * a + G * y * b + H * z * c) := Ev.to (l5Pair_ev [F, G, H] [x, y, z] [a, b, c] rfl rfl (by simp) (by simp; omega) (by simp; omega) (by simp; omega)) (dot3_at ..)
        have hB : otherB [F, G, H] [x, y, z] [a, b, c] = (if vOk 3 1000000 (plainL (outL [F, G, H] [x, y, z] [a, b, c])) = true then (plainL (outL [F, G, H] [x, y, z] [a, b, c]), true) else ([], false)) := by unfold otherB; rw [if_pos ⟨hp, h2, h3'⟩]
        rw [hB]
        rw [outL_at] at hs hzz ⊢
        obtain ⟨q, hq⟩ : ∃ q : Int, F * a * a + G * b * b + H * c * c = q := ⟨_, rfl⟩
        obtain ⟨p, hp'⟩ : ∃ p : Int, F * x * a + G * y * b + H * z * c = p := ⟨_, rfl⟩
        rw [hq] at e1 bd hs hzz ⊢
        rw [hp'] at e2 bd hs hzz ⊢
        have one : ∀ u d : Int, -1000 ≤ u ∧ u ≤ 1000 → -20 ≤ d ∧ d ≤ 20 → wrap64 ((wrap64 (q * u)) - (wrap64 ((wrap64 (2 * p)) * d))) = q * u - 2 * p * d ∧ -108000000 ≤ q * u - 2 * p * d ∧ q * u - 2 * p * d ≤ 108000000 := by
          intro u d hu hd
          have t1 := mul2_bd (a := q) (A := 36000) (by omega) hu
          have t2 := mul2_bd (a := 2 * p) (A := 3600000) (by omega) hd
          rw [w64 (a := q * u) (by omega) (by omega), w64 (a := 2 * p) (by omega) (by omega), w64 (a := 2 * p * d) (by omega) (by omega)]
          exact ⟨w64 (by omega) (by omega), by omega, by omega⟩
        have o1 := one x a (by omega) m1
        have o2 := one y b (by omega) m2
        have o3 := one z c (by omega) m3
        refine Ev.step (fun k => spec_ConicOther.j0.eq_2 _ _ _ _ k) (Ev.neg (by simp) (Ev.bind e1 (Ev.bind e2 ?_)))
        refine Ev.step (fun k => spec_ConicOther.l0.eq_2 _ _ _ _ _ _ _ k) (Ev.pos (by decide) (Ev.pos (by decide) (Ev.pos (by simp) (Ev.pos (by simp) (Ev.pos (by simp) ?_)))))
        show Ev (fun k => spec_ConicOther.l0 k [F, G, H] [x, y, z] [a, b, c] q p [wrap64 ((wrap64 (q * x)) - (wrap64 ((wrap64 (2 * p)) * a)))] (wrap64 (0 + 1))) _
        rw [o1.1, w64 (a := (0 : Int) + 1) (by decide) (by decide)]
        refine Ev.step (fun k => spec_ConicOther.l0.eq_2 _ _ _ _ _ _ _ k) (Ev.pos (by decide) (Ev.pos (by decide) (Ev.pos (by simp) (Ev.pos (by simp) (Ev.pos (by simp) ?_)))))
        show Ev (fun k => spec_ConicOther.l0 k [F, G, H] [x, y, z] [a, b, c] q p [q * x - 2 * p * a, wrap64 ((wrap64 (q * y)) - (wrap64 ((wrap64 (2 * p)) * b)))] (wrap64 ((0 + 1) + 1))) _
        rw [o2.1, w64 (a := (0 : Int) + 1 + 1) (by decide) (by decide)]
        refine Ev.step (fun k => spec_ConicOther.l0.eq_2 _ _ _ _ _ _ _ k) (Ev.pos (by decide) (Ev.pos (by decide) (Ev.pos (by simp) (Ev.pos (by simp) (Ev.pos (by simp) ?_)))))
        show Ev (fun k => spec_ConicOther.l0 k [F, G, H] [x, y, z] [a, b, c] q p [q * x - 2 * p * a, q * y - 2 * p * b, wrap64 ((wrap64 (q * z)) - (wrap64 ((wrap64 (2 * p)) * c)))] (wrap64 ((0 + 1 + 1) + 1))) _
        rw [o3.1, w64 (a := (0 : Int) + 1 + 1 + 1) (by decide) (by decide)]
        refine Ev.step (fun k => spec_ConicOther.l0.eq_2 _ _ _ _ _ _ _ k) (Ev.neg (by decide) (Ev.bind (l5Plain_ev _ hs (by simp) (by simp; omega)) (Ev.bind (sZeroIs_ev [F, G, H] _ (by simp) (by unfold plainL; simp)) ?_)))
        rw [hzz]
        by_cases h5 : vOk 3 1000000 (plainL [q * x - 2 * p * a, q * y - 2 * p * b, q * z - 2 * p * c]) = true
        · exact Ev.to (Ev.pos h5 (Ev.now _)) (if_pos h5).symm
        · exact Ev.to (Ev.neg h5 (Ev.now _)) (if_neg h5).symm
    · refine Ev.neg h2 (Ev.to no ?_)
      unfold otherB; rw [if_neg (fun k => h2 k.2.1)]
  · refine Ev.neg hp (Ev.to no ?_)
    unfold otherB; rw [if_neg (fun k => hp k.1)]
theorem other_ok {form v w : List Int} (h : (otherB form v w).2 = true) : pointB form v = true ∧ vOk 3 20 w = true ∧ collB v w = false ∧ vOk 3 1000000 (plainL (outL form v w)) = true ∧ (otherB form v w).1 = plainL (outL form v w) := by
  unfold otherB at h ⊢
  by_cases h1 : pointB form v = true ∧ vOk 3 20 w = true ∧ collB v w = false
  · rw [if_pos h1] at h ⊢
    by_cases h2 : vOk 3 1000000 (plainL (outL form v w)) = true
    · rw [if_pos h2]; exact ⟨h1.1, h1.2.1, h1.2.2, h2, rfl⟩
    · rw [if_neg h2] at h; cases h
  · rw [if_neg h1] at h; cases h
theorem other_len (form v w : List Int) : (otherB form v w).1.length ≤ 3 ∧ ∀ x ∈ (otherB form v w).1, -1000000 ≤ x ∧ x ≤ 1000000 := by
  unfold otherB
  by_cases h1 : pointB form v = true ∧ vOk 3 20 w = true ∧ collB v w = false
  · rw [if_pos h1]
    by_cases h2 : vOk 3 1000000 (plainL (outL form v w)) = true
    · rw [if_pos h2]; exact ⟨by rw [vOk_len h2]; omega, vOk_mem h2⟩
    · rw [if_neg h2]; simp
  · rw [if_neg h1]; simp
theorem l6kAxis_ev {x y z : Int} (h : x ≠ 0 ∨ y ≠ 0 ∨ z ≠ 0) : Ev (fun k => spec_l6kAxis.f k [x, y, z]) (axB [x, y, z]).1 := by
  unfold spec_l6kAxis.f
  refine Ev.step (fun k => spec_l6kAxis.l0.eq_2 _ _ k) (Ev.pos (by decide) (Ev.pos (by simp) ?_))
  rcases axB_cases h with ⟨hx, e, _⟩ | ⟨hx, hy, e, _⟩ | ⟨hx, hy, hz, e, _⟩ <;> rw [e]
  · exact Ev.neg (show ¬ rd [x, y, z] 0 = 0 from hx) (Ev.now _)
  · refine Ev.pos (show rd [x, y, z] 0 = 0 from hx) ?_
    rw [w64 (a := (0 : Int) + 1) (by decide) (by decide)]
    exact Ev.step (fun k => spec_l6kAxis.l0.eq_2 _ _ k) (Ev.pos (by decide) (Ev.pos (by simp) (Ev.neg (show ¬ rd [x, y, z] (0 + 1) = 0 from hy) (Ev.now _))))
  · refine Ev.pos (show rd [x, y, z] 0 = 0 from hx) ?_
    rw [w64 (a := (0 : Int) + 1) (by decide) (by decide)]
    refine Ev.step (fun k => spec_l6kAxis.l0.eq_2 _ _ k) (Ev.pos (by decide) (Ev.pos (by simp) (Ev.pos (show rd [x, y, z] (0 + 1) = 0 from hy) ?_)))
    rw [w64 (a := (0 : Int) + 1 + 1) (by decide) (by decide)]
    exact Ev.step (fun k => spec_l6kAxis.l0.eq_2 _ _ k) (Ev.pos (by decide) (Ev.pos (by simp) (Ev.neg (show ¬ rd [x, y, z] (0 + 1 + 1) = 0 from hz) (Ev.now _))))
theorem away_eq {x y z : Int} (h : x ≠ 0 ∨ y ≠ 0 ∨ z ≠ 0) (s t : Int) : spec_l6kAway.f (axB [x, y, z]).1 s t = some (headL [x, y, z] s t) := by
  unfold spec_l6kAway.f
  rcases axB_cases h with ⟨hx, e, e2⟩ | ⟨hx, hy, e, e2⟩ | ⟨hx, hy, hz, e, e2⟩ <;> rw [e, e2] <;> rfl
theorem head_len {x y z : Int} (h : x ≠ 0 ∨ y ≠ 0 ∨ z ≠ 0) (s t : Int) : (headL [x, y, z] s t).length = 3 ∧ (vOk 3 20 (headL [x, y, z] s t) = true → s.natAbs ≤ 20 ∧ t.natAbs ≤ 20) := by
  rcases axB_cases h with ⟨hx, e, e2⟩ | ⟨hx, hy, e, e2⟩ | ⟨hx, hy, hz, e, e2⟩ <;> rw [e2] <;> refine ⟨rfl, fun k => ?_⟩ <;> have a := vOk_mem k s (by simp) <;> have b := vOk_mem k t (by simp) <;> omega
theorem sAt_ev (form v : List Int) (s t : Int) (hn : form.length ≤ 1000000) (hv : v.length ≤ 1000000) (ht : ∀ x ∈ v, -9000000000000000000 ≤ x ∧ x ≤ 9000000000000000000) : Ev (fun k => spec_ConicAt.f k form v s t) (atB form v s t) := by
  have no : Ev (fun k => spec_ConicAt.j0 k form v s t true) ([], false) := Ev.step (fun k => spec_ConicAt.j0.eq_2 _ _ _ _ _ k) (Ev.pos rfl (Ev.now _))
  unfold spec_ConicAt.f
  refine Ev.bind (sPoint_ev form v hn hv ht) ?_
  by_cases hp : pointB form v = true
  · refine Ev.pos hp ?_
    have yes : (s ≠ 0 ∨ t ≠ 0) → Ev (fun k => spec_ConicAt.j0 k form v s t false) (atB form v s t) := by
      intro hst
      obtain ⟨F, G, H, x, y, z, rfl, rfl, hF, hFb, hxb, hne, h0, hpl⟩ := point_at hp
      have hl := head_len hne s t
      have e : otherB [F, G, H] [x, y, z] (headL [x, y, z] s t) = atB [F, G, H] [x, y, z] s t := by
        unfold atB
        by_cases h3 : s.natAbs ≤ 20 ∧ t.natAbs ≤ 20
        · rw [if_pos ⟨hp, hst, h3⟩]
        · rw [if_neg (fun k => h3 k.2.2)]
          unfold otherB; rw [if_neg (fun k => h3 (hl.2 k.2.1))]
      rw [← e]
      exact Ev.step (fun k => spec_ConicAt.j0.eq_2 _ _ _ _ _ k) (Ev.neg (by simp) (Ev.bind (l6kAxis_ev hne) (Ev.bind0 (away_eq hne s t) (Ev.bind (sOther_ev _ _ _ hn hv ht (by omega)) (Ev.now _)))))
    by_cases h1 : s = 0
    · refine Ev.pos h1 ?_
      by_cases h2 : t = 0
      · rw [show (t == 0) = true by simpa using h2]
        refine Ev.to no ?_
        unfold atB; rw [if_neg (fun k => by rcases k.2.1 with h | h; exact h h1; exact h h2)]
      · rw [show (t == 0) = false by simpa using h2]
        exact yes (.inr h2)
    · exact Ev.neg h1 (yes (.inl h1))
  · refine Ev.neg hp (Ev.to no ?_)
    unfold atB; rw [if_neg (fun k => hp k.1)]
def View (form v : List Int) (i a b : Nat) : Prop :=
  (i < 3 ∧ a < 3 ∧ b < 3) ∧ rd v (i : Int) ≠ 0 ∧ axB v = ((i : Int), (a : Int), (b : Int)) ∧ (∀ j, j < 3 → j = i ∨ j = a ∨ j = b) ∧
  (∀ u w : List Int, u.length = 3 → w.length = 3 → dot3 form u w = rd form (i : Int) * rd u (i : Int) * rd w (i : Int) + rd form (a : Int) * rd u (a : Int) * rd w (a : Int) + rd form (b : Int) * rd u (b : Int) * rd w (b : Int)) ∧
  (∀ u w : List Int, u.length = 3 → w.length = 3 → (collB u w = true ↔ rd u (i : Int) * rd w (a : Int) = rd u (a : Int) * rd w (i : Int) ∧ rd u (i : Int) * rd w (b : Int) = rd u (b : Int) * rd w (i : Int) ∧ rd u (a : Int) * rd w (b : Int) = rd u (b : Int) * rd w (a : Int))) ∧
  (∀ s t : Int, (headL v s t).length = 3 ∧ rd (headL v s t) (i : Int) = 0 ∧ rd (headL v s t) (a : Int) = s ∧ rd (headL v s t) (b : Int) = t)
theorem view {form v : List Int} (h : pointB form v = true) : ∃ i a b : Nat, View form v i a b := by
  obtain ⟨F, G, H, x, y, z, rfl, rfl, hF, hFb, hxb, hne, h0, hpl⟩ := point_at h
  rcases axB_cases hne with ⟨hx, e, e2⟩ | ⟨hx, hy, e, e2⟩ | ⟨hx, hy, hz, e, e2⟩
  · refine ⟨0, 1, 2, by omega, hx, e, by omega, fun u w hu hw => ?_, fun u w hu hw => ?_, fun s t => by rw [e2]; exact ⟨rfl, rfl, rfl, rfl⟩⟩
    · obtain ⟨a, b, c, rfl⟩ := list3 hu
      obtain ⟨d, f, g, rfl⟩ := list3 hw
      exact dot3_at ..
    · obtain ⟨a, b, c, rfl⟩ := list3 hu
      obtain ⟨d, f, g, rfl⟩ := list3 hw
      exact collB_at ..
  · refine ⟨1, 0, 2, by omega, hy, e, by omega, fun u w hu hw => ?_, fun u w hu hw => ?_, fun s t => by rw [e2]; exact ⟨rfl, rfl, rfl, rfl⟩⟩
    · obtain ⟨a, b, c, rfl⟩ := list3 hu
      obtain ⟨d, f, g, rfl⟩ := list3 hw
      rw [dot3_at]; show F * a * d + G * b * f + H * c * g = G * b * f + F * a * d + H * c * g; omega
    · obtain ⟨a, b, c, rfl⟩ := list3 hu
      obtain ⟨d, f, g, rfl⟩ := list3 hw
      rw [collB_at]; show _ ↔ b * d = a * f ∧ b * g = c * f ∧ a * g = c * d; omega
  · refine ⟨2, 0, 1, by omega, hz, e, by omega, fun u w hu hw => ?_, fun u w hu hw => ?_, fun s t => by rw [e2]; exact ⟨rfl, rfl, rfl, rfl⟩⟩
    · obtain ⟨a, b, c, rfl⟩ := list3 hu
      obtain ⟨d, f, g, rfl⟩ := list3 hw
      rw [dot3_at]; show F * a * d + G * b * f + H * c * g = H * c * g + F * a * d + G * b * f; omega
    · obtain ⟨a, b, c, rfl⟩ := list3 hu
      obtain ⟨d, f, g, rfl⟩ := list3 hw
      rw [collB_at]; show _ ↔ c * d = a * g ∧ c * f = b * g ∧ a * f = b * d; omega
theorem prop2 {A B s t : Int} (h : A * t = B * s) (h1 : A ≠ 0 ∨ B ≠ 0) (h2 : s ≠ 0 ∨ t ≠ 0) : plainL [A, B] = plainL [s, t] := by
  have sm : ∀ {a b : Int}, (a ≠ 0 ∨ b ≠ 0) → some0 [a, b] = true := fun h => by unfold some0; simp [Bool.or_eq_true]; exact h
  have go : ∀ {k l : Int}, k ≠ 0 → l ≠ 0 → k * A = l * s → k * B = l * t → plainL [A, B] = plainL [s, t] := by
    intro k l hk hl e1 e2
    rw [← plainL_scale hk (sm h1), ← plainL_scale hl (sm h2)]
    show plainL [k * A, k * B] = plainL [l * s, l * t]
    rw [e1, e2]
  by_cases hs : s = 0
  · have ht : t ≠ 0 := by rcases h2 with h | h; exact absurd hs h; exact h
    rw [hs, Int.mul_zero] at h
    have hA : A = 0 := by rcases Int.mul_eq_zero.1 h with k | k; exact k; exact absurd k ht
    have hB : B ≠ 0 := by rcases h1 with k | k; exact absurd hA k; exact k
    exact go ht hB (by rw [hA, hs]; simp) (Int.mul_comm ..)
  · have hA : A ≠ 0 := fun k => by
      rw [k, Int.zero_mul] at h
      rcases Int.mul_eq_zero.1 h.symm with j | j
      · rcases h1 with l | l; exact l k; exact l j
      · exact hs j
    exact go hs hA (Int.mul_comm ..) (by rw [h]; exact Int.mul_comm ..)
theorem view_facts {form v : List Int} (h : pointB form v = true) {i a b : Nat} (V : View form v i a b) : form.length = 3 ∧ v.length = 3 ∧ rd form (i : Int) ≠ 0 ∧ rd form (a : Int) ≠ 0 ∧ rd form (b : Int) ≠ 0 ∧
    rd form (i : Int) * rd v (i : Int) * rd v (i : Int) + rd form (a : Int) * rd v (a : Int) * rd v (a : Int) + rd form (b : Int) * rd v (b : Int) * rd v (b : Int) = 0 := by
  obtain ⟨h1, h2, h3, h4⟩ := pointB_of h
  obtain ⟨z1, z2, z3, z4⟩ := zeroB_of h3
  obtain ⟨⟨vi, va, vb⟩, _, _, _, hd, _, _⟩ := V
  have hl := vOk_len h2
  refine ⟨h1, hl, (fOk_mem z1 _ (rd_mem (by omega))).1, (fOk_mem z1 _ (rd_mem (by omega))).1, (fOk_mem z1 _ (rd_mem (by omega))).1, ?_⟩
  rw [← hd v v hl hl]; exact z4
theorem raw_some {form v z : List Int} (h : pointB form v = true) (hz : zeroB form z = true) : some0 (rawL form v z) = true := by
  obtain ⟨i, a, b, V⟩ := view h
  obtain ⟨f1, f2, fi, fa, fb, f0⟩ := view_facts h V
  obtain ⟨_, vi, hax, _, _, hc, _⟩ := V
  have hzl : z.length = 3 := by rw [vOk_len (zeroB_of hz).2.1, f1]
  have sm : ∀ {a b : Int}, (a ≠ 0 ∨ b ≠ 0) → some0 [a, b] = true := fun h => by unfold some0; simp [Bool.or_eq_true]; exact h
  unfold rawL
  rw [hax]
  by_cases hC : collB v z = true
  · rw [if_pos hC]
    refine sm ?_
    by_cases hb : rd v (a : Int) = 0
    · refine .inl (fun k => ?_)
      have k : rd form (b : Int) * rd v (b : Int) = 0 := k
      have n : rd form (i : Int) * rd v (i : Int) * rd v (i : Int) ≠ 0 := Int.mul_ne_zero (Int.mul_ne_zero fi vi) vi
      rw [hb, k] at f0
      simp only [Int.mul_zero, Int.zero_mul, Int.add_zero] at f0
      exact n f0
    · exact .inr (Int.mul_ne_zero (show -(rd form (a : Int)) ≠ 0 by omega) hb)
  · rw [if_neg hC]
    refine sm ?_
    rcases Decidable.em (rd z (a : Int) * rd v (i : Int) - rd v (a : Int) * rd z (i : Int) = 0) with k1 | k1
    · rcases Decidable.em (rd z (b : Int) * rd v (i : Int) - rd v (b : Int) * rd z (i : Int) = 0) with k2 | k2
      · exfalso
        refine hC ((hc v z f2 hzl).2 ⟨by rw [Int.mul_comm]; omega, by rw [Int.mul_comm]; omega, ?_⟩)
        have e1 : rd z (a : Int) * rd v (i : Int) = rd v (a : Int) * rd z (i : Int) := by omega
        have e2 : rd z (b : Int) * rd v (i : Int) = rd v (b : Int) * rd z (i : Int) := by omega
        refine Int.eq_of_mul_eq_mul_left vi ?_
        rw [show rd v (i : Int) * (rd v (a : Int) * rd z (b : Int)) = rd v (a : Int) * (rd z (b : Int) * rd v (i : Int)) by grind, e2, show rd v (i : Int) * (rd v (b : Int) * rd z (a : Int)) = rd v (b : Int) * (rd z (a : Int) * rd v (i : Int)) by grind, e1]; grind
      · exact .inr k2
    · exact .inl k1
theorem at_ok {form v : List Int} {s t : Int} (h : (atB form v s t).2 = true) : pointB form v = true ∧ (s ≠ 0 ∨ t ≠ 0) ∧ (s.natAbs ≤ 20 ∧ t.natAbs ≤ 20) ∧ atB form v s t = otherB form v (headL v s t) ∧ (otherB form v (headL v s t)).2 = true := by
  unfold atB at h ⊢
  by_cases h1 : pointB form v = true ∧ (s ≠ 0 ∨ t ≠ 0) ∧ s.natAbs ≤ 20 ∧ t.natAbs ≤ 20
  · rw [if_pos h1] at h ⊢; exact ⟨h1.1, h1.2.1, h1.2.2, rfl, h⟩
  · rw [if_neg h1] at h; cases h
theorem out_rd (form v w : List Int) (j : Nat) (h : j < 3) : rd (outL form v w) (j : Int) = dot3 form w w * rd v (j : Int) - 2 * dot3 form v w * rd w (j : Int) := by
  rcases (by omega : j = 0 ∨ j = 1 ∨ j = 2) with rfl | rfl | rfl <;> rfl
theorem at_back {form v : List Int} {s t : Int} (h : (atB form v s t).2 = true) : zeroB form (atB form v s t).1 = true ∧ backC form v (atB form v s t).1 = (rd (plainL [s, t]) 0, rd (plainL [s, t]) 1, true) := by
  obtain ⟨hp, hst, hb, e, h2⟩ := at_ok h
  obtain ⟨_, o2, o3, o4, o5⟩ := other_ok h2
  obtain ⟨hs, hz⟩ := out_zero hp (vOk_len o2) o3
  rw [o4] at hz
  rw [e, o5]
  refine ⟨hz, ?_⟩
  obtain ⟨i, a, b, V⟩ := view hp
  obtain ⟨f1, f2, fi, fa, fb, f0⟩ := view_facts hp V
  have hr := raw_some hp hz
  obtain ⟨⟨li, la, lb⟩, vi, hax, _, hd, hc, hh⟩ := V
  obtain ⟨l3, w1, w2, w3⟩ := hh s t
  generalize headL v s t = w at *
  unfold backC
  rw [if_pos ⟨hp, hz⟩]
  obtain ⟨g, hg, hl, hgr⟩ := plain_mul hs
  have hul : (plainL (outL form v w)).length = 3 := by rw [hl]; rfl
  have c1 := hgr i li
  have c2 := hgr a la
  have c3 := hgr b lb
  rw [out_rd _ _ _ _ li, w1] at c1
  rw [out_rd _ _ _ _ la, w2] at c2
  rw [out_rd _ _ _ _ lb, w3] at c3
  have hp1 := hd v w f2 l3
  rw [w1, w2, w3] at hp1
  generalize plainL (outL form v w) = u at *
  generalize dot3 form w w = q at *
  have key : plainL (rawL form v u) = plainL [s, t] := by
    unfold rawL at hr ⊢
    rw [hax] at hr ⊢
    by_cases hC : collB v u = true
    · rw [if_pos hC] at hr ⊢
      have k := (hc v u f2 hul).1 hC
      obtain ⟨k1, k2, _⟩ := k
      have e1 : dot3 form v w * rd v (i : Int) * s = 0 := by
        have : g * (rd v (i : Int) * rd u (a : Int)) = g * (rd v (a : Int) * rd u (i : Int)) := by rw [k1]
        have x1 : rd v (i : Int) * (g * rd u (a : Int)) = rd v (a : Int) * (g * rd u (i : Int)) := by grind
        rw [← c2, ← c1] at x1; grind
      have e2 : dot3 form v w * rd v (i : Int) * t = 0 := by
        have x1 : rd v (i : Int) * (g * rd u (b : Int)) = rd v (b : Int) * (g * rd u (i : Int)) := by
          have : g * (rd v (i : Int) * rd u (b : Int)) = g * (rd v (b : Int) * rd u (i : Int)) := by rw [k2]
          grind
        rw [← c3, ← c1] at x1; grind
      have p0 : dot3 form v w = 0 := by
        rcases hst with hs | ht
        · rcases Int.mul_eq_zero.1 e1 with k | k
          · rcases Int.mul_eq_zero.1 k with k | k
            · exact k
            · exact absurd k vi
          · exact absurd k hs
        · rcases Int.mul_eq_zero.1 e2 with k | k
          · rcases Int.mul_eq_zero.1 k with k | k
            · exact k
            · exact absurd k vi
          · exact absurd k ht
      rw [p0] at hp1
      refine prop2 ?_ ?_ hst
      · show rd form (b : Int) * rd v (b : Int) * t = -(rd form (a : Int)) * rd v (a : Int) * s
        rw [Int.neg_mul, Int.neg_mul]; simp at hp1; omega
      · unfold some0 at hr; simp only [List.any_cons, List.any_nil, Bool.or_eq_true, bne_iff_ne] at hr
        rcases hr with h | h | h
        · exact .inl h
        · exact .inr h
        · cases h
    · rw [if_neg hC] at hr ⊢
      refine prop2 ?_ ?_ hst
      · refine Int.eq_of_mul_eq_mul_left hg ?_
        show g * ((rd u (a : Int) * rd v (i : Int) - rd v (a : Int) * rd u (i : Int)) * t) = g * ((rd u (b : Int) * rd v (i : Int) - rd v (b : Int) * rd u (i : Int)) * s)
        rw [show g * ((rd u (a : Int) * rd v (i : Int) - rd v (a : Int) * rd u (i : Int)) * t) = ((g * rd u (a : Int)) * rd v (i : Int) - rd v (a : Int) * (g * rd u (i : Int))) * t by grind,
          show g * ((rd u (b : Int) * rd v (i : Int) - rd v (b : Int) * rd u (i : Int)) * s) = ((g * rd u (b : Int)) * rd v (i : Int) - rd v (b : Int) * (g * rd u (i : Int))) * s by grind, ← c1, ← c2, ← c3]
        grind
      · unfold some0 at hr; simp only [List.any_cons, List.any_nil, Bool.or_eq_true, bne_iff_ne] at hr
        rcases hr with h | h | h
        · exact .inl h
        · exact .inr h
        · cases h
  rw [key]
theorem plain2_mul {s t : Int} (h : s ≠ 0 ∨ t ≠ 0) : rd (plainL [s, t]) 0 * (sgn1 [s, t] * (Nat.gcd s.natAbs t.natAbs : Int)) = s ∧ rd (plainL [s, t]) 1 * (sgn1 [s, t] * (Nat.gcd s.natAbs t.natAbs : Int)) = t := by
  have hs : some0 [s, t] = true := by unfold some0; simp [Bool.or_eq_true]; exact h
  have hg : gcdL 0 [s, t] ≠ 0 := fun k => by rw [gcdL_zero, hs] at k; cases k
  have e : gcdL 0 [s, t] = Nat.gcd s.natAbs t.natAbs := by simp [gcdL]
  have dv : ∀ x ∈ [s, t], (sgn1 [s, t] * (gcdL 0 [s, t] : Int)) ∣ x := by
    intro x hx
    have h1 : (gcdL 0 [s, t] : Int) ∣ x := Int.ofNat_dvd_left.2 ((gcdL_mono [s, t] 0).2 _ hx)
    rcases sgn1_cases [s, t] with e | e <;> rw [e]
    · rw [Int.one_mul]; exact h1
    · rw [show (-1 : Int) * (gcdL 0 [s, t] : Int) = -(gcdL 0 [s, t] : Int) by omega]; exact Int.neg_dvd.2 h1
  rw [← e]
  exact ⟨Int.tdiv_mul_cancel (dv s (by simp)), Int.tdiv_mul_cancel (dv t (by simp))⟩
theorem plain_prop {x y : List Int} {k l : Int} (hl : x.length = y.length) (h : ∀ j, j < x.length → k * rd x (j : Int) = l * rd y (j : Int)) (hk : k ≠ 0) (hx : some0 x = true) (hy : some0 y = true) : plainL x = plainL y := by
  have hll : l ≠ 0 := fun e => by
    have : some0 x = false := some0_rd.2 (fun j hj => by
      have := h j hj
      rw [e, Int.zero_mul] at this
      rcases Int.mul_eq_zero.1 this with a | a
      · exact absurd a hk
      · exact a)
    rw [hx] at this; cases this
  rw [← plainL_scale hk hx, ← plainL_scale hll hy]
  congr 1
  refine ext_rd (by simp [hl]) (fun j hj => ?_)
  rw [List.length_map] at hj
  have := h j hj
  rw [rd_at, rd_at] at this ⊢
  simp only [List.getD_eq_getElem?_getD, List.getElem?_map, List.getElem?_eq_getElem hj, List.getElem?_eq_getElem (show j < y.length by omega), Option.map_some, Option.getD_some] at this ⊢
  exact this
theorem raw_bd {form v z : List Int} (h : pointB form v = true) (hz : zeroB form z = true) : (rawL form v z).length = 2 ∧ ∀ x ∈ rawL form v z, -3000000000 ≤ x ∧ x ≤ 3000000000 := by
  obtain ⟨i, a, b, V⟩ := view h
  obtain ⟨f1, f2, _, _, _, _⟩ := view_facts h V
  obtain ⟨⟨li, la, lb⟩, vi, hax, _⟩ := V
  have hzv := (zeroB_of hz).2.1
  have hf := fOk_mem (zeroB_of hz).1
  have hzl : z.length = 3 := by rw [vOk_len hzv, f1]
  have bv := vOk_mem (pointB_of h).2.1
  have bz := vOk_mem hzv
  have c := fun (j : Nat) (hj : j < 3) => bv _ (rd_mem (show j < v.length by omega))
  have d := fun (j : Nat) (hj : j < 3) => bz _ (rd_mem (show j < z.length by omega))
  have e := fun (j : Nat) (hj : j < 3) => hf _ (rd_mem (show j < form.length by omega))
  unfold rawL
  rw [hax]
  split
  · refine ⟨rfl, fun x hx => ?_⟩
    simp only [List.mem_cons, List.not_mem_nil, or_false] at hx
    rcases hx with rfl | rfl
    · have := mul2_bd (A := 30) (B := 1000) (e b lb).2 (c b lb); omega
    · have := mul2_bd (a := -(rd form (a : Int))) (A := 30) (B := 1000) (by have := e a la; omega) (c a la); omega
  · refine ⟨rfl, fun x hx => ?_⟩
    simp only [List.mem_cons, List.not_mem_nil, or_false] at hx
    rcases hx with rfl | rfl
    · have t1 := mul2_bd (d a la) (c i li)
      have t2 := mul2_bd (c a la) (d i li)
      omega
    · have t1 := mul2_bd (d b lb) (c i li)
      have t2 := mul2_bd (c b lb) (d i li)
      omega
theorem coll_iff {form v z : List Int} {i a b : Nat} (V : View form v i a b) (hv : v.length = 3) (hz : z.length = 3) : collB v z = true ↔ (rd z (a : Int) * rd v (i : Int) - rd v (a : Int) * rd z (i : Int) = 0 ∧ rd z (b : Int) * rd v (i : Int) - rd v (b : Int) * rd z (i : Int) = 0) := by
  obtain ⟨_, vi, hax, _, _, hc, _⟩ := V
  rw [hc v z hv hz]
  constructor
  · rintro ⟨k1, k2, _⟩
    exact ⟨by rw [Int.mul_comm (rd z (a : Int)), k1]; omega, by rw [Int.mul_comm (rd z (b : Int)), k2]; omega⟩
  · rintro ⟨k1, k2⟩
    have e1 : rd z (a : Int) * rd v (i : Int) = rd v (a : Int) * rd z (i : Int) := by omega
    have e2 : rd z (b : Int) * rd v (i : Int) = rd v (b : Int) * rd z (i : Int) := by omega
    refine ⟨by rw [Int.mul_comm]; exact e1, by rw [Int.mul_comm]; exact e2, ?_⟩
    refine Int.eq_of_mul_eq_mul_left vi ?_
    rw [show rd v (i : Int) * (rd v (a : Int) * rd z (b : Int)) = rd v (a : Int) * (rd z (b : Int) * rd v (i : Int)) by grind, e2, show rd v (i : Int) * (rd v (b : Int) * rd z (a : Int)) = rd v (b : Int) * (rd z (a : Int) * rd v (i : Int)) by grind, e1]; grind
theorem meets {form v z : List Int} (hz : zeroB form z = true) (h : (atB form v (rd (plainL (rawL form v z)) 0) (rd (plainL (rawL form v z)) 1)).2 = true) :
    (atB form v (rd (plainL (rawL form v z)) 0) (rd (plainL (rawL form v z)) 1)).1 = plainL z := by
  obtain ⟨hp, hst, hb, e, h2⟩ := at_ok h
  obtain ⟨_, o2, o3, o4, o5⟩ := other_ok h2
  rw [e, o5]
  obtain ⟨hs, _⟩ := out_zero hp (vOk_len o2) o3
  obtain ⟨i, a, b, V⟩ := view hp
  obtain ⟨f1, f2, fi, fa, fb, f0⟩ := view_facts hp V
  have hr := raw_some hp hz
  have hrl := (raw_bd hp hz).1
  have hzl : z.length = 3 := by rw [vOk_len (zeroB_of hz).2.1, f1]
  have hci := coll_iff V f2 hzl
  have hz0 := (zeroB_of hz).2.2.2
  have hzs := (zeroB_of hz).2.2.1
  have hpl := (pointB_of hp).2.2.2
  have hvs := zeroB_some (pointB_of hp).2.2.1
  obtain ⟨⟨li, la, lb⟩, vi, hax, hall, hd, hc, hh⟩ := V
  obtain ⟨g, hg, hl, hgr⟩ := plain_mul hr
  have g0 : rd (rawL form v z) 0 = g * rd (plainL (rawL form v z)) 0 := hgr 0 (by omega)
  have g1 : rd (rawL form v z) 1 = g * rd (plainL (rawL form v z)) 1 := hgr 1 (by omega)
  generalize rd (plainL (rawL form v z)) 0 = s at *
  generalize rd (plainL (rawL form v z)) 1 = t at *
  obtain ⟨l3, w1, w2, w3⟩ := hh s t
  have p1 := hd v (headL v s t) f2 l3
  have p2 := hd (headL v s t) (headL v s t) l3 l3
  rw [w1, w2, w3] at p1 p2
  have hout := fun j hj => out_rd form v (headL v s t) j hj
  have hol : (outL form v (headL v s t)).length = 3 := rfl
  by_cases hC : collB v z = true
  · unfold rawL at g0 g1
    rw [if_pos hC, hax] at g0 g1
    have g0 : rd form (b : Int) * rd v (b : Int) = g * s := g0
    have g1 : -(rd form (a : Int)) * rd v (a : Int) = g * t := g1
    have pz : dot3 form v (headL v s t) = 0 := by
      refine Int.eq_of_mul_eq_mul_left hg ?_
      rw [p1, show g * (rd form (i : Int) * rd v (i : Int) * 0 + rd form (a : Int) * rd v (a : Int) * s + rd form (b : Int) * rd v (b : Int) * t) = rd form (a : Int) * rd v (a : Int) * (g * s) + rd form (b : Int) * rd v (b : Int) * (g * t) by grind, ← g0, ← g1]
      grind
    have e1 : plainL (outL form v (headL v s t)) = plainL v := by
      refine plain_prop (k := 1) (l := dot3 form (headL v s t) (headL v s t)) (by rw [hol, f2]) (fun j hj => ?_) (by omega) hs hvs
      rw [hout j (by omega), pz]; simp
    have e2 : plainL z = plainL v := by
      obtain ⟨k1, k2, k3⟩ := (hc v z f2 hzl).1 hC
      refine plain_prop (k := rd v (i : Int)) (l := rd z (i : Int)) (by omega) (fun j hj => ?_) vi hzs hvs
      rcases hall j (by omega) with rfl | rfl | rfl
      · exact Int.mul_comm ..
      · rw [k1]; exact Int.mul_comm ..
      · rw [k2]; exact Int.mul_comm ..
    rw [e1, e2]
  · unfold rawL at g0 g1
    rw [if_neg hC, hax] at g0 g1
    have g0 : rd z (a : Int) * rd v (i : Int) - rd v (a : Int) * rd z (i : Int) = g * s := g0
    have g1 : rd z (b : Int) * rd v (i : Int) - rd v (b : Int) * rd z (i : Int) = g * t := g1
    have z0 := hd z z hzl hzl
    rw [hz0] at z0
    have zv := hd v z f2 hzl
    have hB : g * dot3 form v (headL v s t) = rd v (i : Int) * dot3 form v z := by
      rw [p1, zv, show g * (rd form (i : Int) * rd v (i : Int) * 0 + rd form (a : Int) * rd v (a : Int) * s + rd form (b : Int) * rd v (b : Int) * t) = rd form (a : Int) * rd v (a : Int) * (g * s) + rd form (b : Int) * rd v (b : Int) * (g * t) by grind, ← g0, ← g1]
      have k : rd form (a : Int) * rd v (a : Int) * (rd z (a : Int) * rd v (i : Int) - rd v (a : Int) * rd z (i : Int)) + rd form (b : Int) * rd v (b : Int) * (rd z (b : Int) * rd v (i : Int) - rd v (b : Int) * rd z (i : Int)) =
          rd v (i : Int) * (rd form (i : Int) * rd v (i : Int) * rd z (i : Int) + rd form (a : Int) * rd v (a : Int) * rd z (a : Int) + rd form (b : Int) * rd v (b : Int) * rd z (b : Int)) - rd z (i : Int) * (rd form (i : Int) * rd v (i : Int) * rd v (i : Int) + rd form (a : Int) * rd v (a : Int) * rd v (a : Int) + rd form (b : Int) * rd v (b : Int) * rd v (b : Int)) := by grind
      rw [k, f0]; simp
    have hQ : g * g * dot3 form (headL v s t) (headL v s t) = -2 * rd v (i : Int) * rd z (i : Int) * dot3 form v z := by
      rw [p2, zv, show g * g * (rd form (i : Int) * 0 * 0 + rd form (a : Int) * s * s + rd form (b : Int) * t * t) = rd form (a : Int) * (g * s) * (g * s) + rd form (b : Int) * (g * t) * (g * t) by grind, ← g0, ← g1]
      have k : rd form (a : Int) * (rd z (a : Int) * rd v (i : Int) - rd v (a : Int) * rd z (i : Int)) * (rd z (a : Int) * rd v (i : Int) - rd v (a : Int) * rd z (i : Int)) + rd form (b : Int) * (rd z (b : Int) * rd v (i : Int) - rd v (b : Int) * rd z (i : Int)) * (rd z (b : Int) * rd v (i : Int) - rd v (b : Int) * rd z (i : Int)) =
          rd v (i : Int) * rd v (i : Int) * (rd form (i : Int) * rd z (i : Int) * rd z (i : Int) + rd form (a : Int) * rd z (a : Int) * rd z (a : Int) + rd form (b : Int) * rd z (b : Int) * rd z (b : Int)) - 2 * rd v (i : Int) * rd z (i : Int) * (rd form (i : Int) * rd v (i : Int) * rd z (i : Int) + rd form (a : Int) * rd v (a : Int) * rd z (a : Int) + rd form (b : Int) * rd v (b : Int) * rd z (b : Int)) + rd z (i : Int) * rd z (i : Int) * (rd form (i : Int) * rd v (i : Int) * rd v (i : Int) + rd form (a : Int) * rd v (a : Int) * rd v (a : Int) + rd form (b : Int) * rd v (b : Int) * rd v (b : Int)) := by grind
      rw [k, f0, ← z0]; grind
    refine plain_prop (k := g * g) (l := -2 * rd v (i : Int) * rd v (i : Int) * dot3 form v z) (by rw [hol, hzl]) (fun j hj => ?_) (Int.mul_ne_zero hg hg) hs hzs
    rw [hout j (by omega)]
    have gw : g * rd (headL v s t) (j : Int) = rd v (i : Int) * rd z (j : Int) - rd z (i : Int) * rd v (j : Int) := by
      rcases hall j (by omega) with rfl | rfl | rfl
      · rw [w1]; grind
      · rw [w2, ← g0]; grind
      · rw [w3, ← g1]; grind
    rw [show g * g * (dot3 form (headL v s t) (headL v s t) * rd v (j : Int) - 2 * dot3 form v (headL v s t) * rd (headL v s t) (j : Int)) = (g * g * dot3 form (headL v s t) (headL v s t)) * rd v (j : Int) - 2 * (g * dot3 form v (headL v s t)) * (g * rd (headL v s t) (j : Int)) by grind, hQ, hB, gw]
    grind
theorem plain_unit {z : List Int} {a b : Int} (hs : some0 z = true) (hz : plainL z = [a, b]) : (a > 0 ∨ (a = 0 ∧ b > 0)) ∧ Nat.gcd a.natAbs b.natAbs = 1 := by
  have h1 := some_plain hs
  have h2 := plain_idem hs
  rw [hz] at h1 h2
  have hne : a ≠ 0 ∨ b ≠ 0 := by
    unfold some0 at h1; simp only [List.any_cons, List.any_nil, Bool.or_eq_true, bne_iff_ne] at h1
    rcases h1 with h | h | h
    · exact .inl h
    · exact .inr h
    · cases h
  obtain ⟨m1, m2⟩ := plain2_mul hne
  rw [h2] at m1 m2
  have e : sgn1 [a, b] * (Nat.gcd a.natAbs b.natAbs : Int) = 1 := by
    rcases hne with h | h
    · exact Int.eq_of_mul_eq_mul_left h (by rw [Int.mul_one]; exact m1)
    · exact Int.eq_of_mul_eq_mul_left h (by rw [Int.mul_one]; exact m2)
  have sg : sgn1 [a, b] = 1 ∧ Nat.gcd a.natAbs b.natAbs = 1 := by
    rcases sgn1_cases [a, b] with k | k
    · rw [k] at e; exact ⟨k, by omega⟩
    · rw [k] at e; omega
  refine ⟨?_, sg.2⟩
  have k := sg.1
  unfold sgn1 at k
  by_cases h1 : a = 0
  · rw [if_pos h1] at k
    unfold sgn1 at k
    by_cases h2 : b = 0
    · rcases hne with h | h
      · exact absurd h1 h
      · exact absurd h2 h
    · rw [if_neg h2] at k
      by_cases h3 : b < 0
      · rw [if_pos h3] at k; omega
      · exact .inr ⟨h1, by omega⟩
  · rw [if_neg h1] at k
    by_cases h3 : a < 0
    · rw [if_pos h3] at k; omega
    · exact .inl (by omega)
theorem isNumber_eq (n : Int) : impl_isNumber.f n = some (decide (-5000 ≤ n ∧ n ≤ 5000)) := by
  unfold impl_isNumber.f
  by_cases h : -5000 ≤ n <;> simp [h]
theorem GcdOf_ev (a b : Int) (ha : -5000 ≤ a) (ha1 : a ≤ 5000) (hb : -5000 ≤ b) (hb1 : b ≤ 5000) : Ev (fun k => impl_GcdOf.f k a b) (Nat.gcd a.natAbs b.natAbs : Int) := by
  unfold impl_GcdOf.f
  refine Ev.bind0 (isNumber_eq a) (Ev.pos (by simp; omega) (Ev.bind0 (isNumber_eq b) (Ev.pos (by simp; omega) (Ev.bind (gcd_ev [a, b] (by simp) (by intro x hx; simp at hx; omega)) (Ev.nows ?_)))))
  simp [gcdL]
theorem at_len (form v : List Int) (s t : Int) : (atB form v s t).1.length ≤ 3 ∧ ∀ x ∈ (atB form v s t).1, -1000000 ≤ x ∧ x ≤ 1000000 := by
  unfold atB
  split
  · exact other_len ..
  · simp
theorem at_three {form v : List Int} {s t : Int} (h : (atB form v s t).2 = true) : (atB form v s t).1.length = 3 := by
  obtain ⟨hp, _, _, e, h2⟩ := at_ok h
  obtain ⟨_, _, _, o4, o5⟩ := other_ok h2
  rw [e, o5]; exact vOk_len o4
def plB (s t : Int) : Bool := decide ((s ≠ 0 ∨ t ≠ 0) ∧ plainL [s, t] = [s, t])
def hB (form v : List Int) (p : Int × Int) : Bool := plB p.1 p.2 && (atB form v p.1 p.2).2
theorem hB_of {form v : List Int} {p : Int × Int} (h : hB form v p = true) : (p.1 ≠ 0 ∨ p.2 ≠ 0) ∧ plainL [p.1, p.2] = [p.1, p.2] ∧ (atB form v p.1 p.2).2 = true := by
  unfold hB plB at h
  rw [Bool.and_eq_true, decide_eq_true_eq] at h
  exact ⟨h.1.1, h.1.2, h.2⟩
theorem some2 {s t : Int} (h : s ≠ 0 ∨ t ≠ 0) : some0 [s, t] = true := by unfold some0; simp [Bool.or_eq_true]; exact h
theorem plB_iff (s t : Int) : plB s t = true ↔ (s > 0 ∨ (s = 0 ∧ t > 0)) ∧ Nat.gcd s.natAbs t.natAbs = 1 := by
  unfold plB
  rw [decide_eq_true_eq]
  constructor
  · rintro ⟨h, e⟩
    exact plain_unit (some2 h) e
  · rintro ⟨h, e⟩
    refine ⟨by omega, ?_⟩
    have g : gcdL 0 [s, t] = 1 := by simp [gcdL]; exact e
    have sg : sgn1 [s, t] = 1 := by
      unfold sgn1
      by_cases h1 : s = 0
      · rw [if_pos h1]; unfold sgn1; rw [if_neg (by omega), if_neg (by omega)]
      · rw [if_neg h1, if_neg (by omega)]
    unfold plainL
    rw [g, sg]
    simp
theorem pl_neg {s t : Int} (h : s < 0) : plB s t = false := by
  refine Bool.eq_false_iff.2 (fun k => ?_)
  have := (plB_iff s t).1 k
  omega
theorem inj {form v : List Int} {p q : Int × Int} (hp : hB form v p = true) (hq : hB form v q = true) (e : (atB form v p.1 p.2).1 = (atB form v q.1 q.2).1) : p = q := by
  obtain ⟨_, p2, p3⟩ := hB_of hp
  obtain ⟨_, q2, q3⟩ := hB_of hq
  have a := (at_back p3).2
  have b := (at_back q3).2
  rw [p2] at a
  rw [q2] at b
  rw [e, b] at a
  have a1 : q.1 = p.1 := congrArg (fun z : Int × Int × Bool => z.1) a
  have a2 : q.2 = p.2 := congrArg (fun z : Int × Int × Bool => z.2.1) a
  exact Prod.ext a1.symm a2.symm
def rowL (n : Nat) (s : Int) : Nat → List (Int × Int)
  | 0 => []
  | j + 1 => rowL n s j ++ [(s, (j : Int) - n)]
def preL (n : Nat) : Nat → List (Int × Int)
  | 0 => []
  | s + 1 => preL n s ++ rowL n s (2 * n + 1)
theorem mem_row {n : Nat} {s : Int} {p : Int × Int} : ∀ j, p ∈ rowL n s j → p.1 = s ∧ p.2 < (j : Int) - n
  | 0, h => by cases h
  | j + 1, h => by
    unfold rowL at h
    rw [List.mem_append] at h
    rcases h with h | h
    · have := mem_row j h; exact ⟨this.1, by omega⟩
    · rw [List.mem_singleton] at h; subst h; exact ⟨rfl, by show (j : Int) - n < _; omega⟩
theorem mem_pre {n : Nat} {p : Int × Int} : ∀ s, p ∈ preL n s → p.1 < (s : Int)
  | 0, h => by cases h
  | s + 1, h => by
    unfold preL at h
    rw [List.mem_append] at h
    rcases h with h | h
    · have := mem_pre s h; omega
    · have := (mem_row _ h).1; omega
theorem new {n : Nat} (s j : Nat) : ((s : Int), (j : Int) - n) ∉ preL n s ++ rowL n s j := by
  intro h
  rw [List.mem_append] at h
  rcases h with h | h
  · have := mem_pre s h; simp at this
  · have := (mem_row _ h).2; simp at this
def met (form v : List Int) (P : List (Int × Int)) : List (List Int) := (P.filter (hB form v)).map (fun p => (atB form v p.1 p.2).1)
theorem met_len (form v : List Int) (P : List (Int × Int)) : (met form v P).length = P.countP (hB form v) := by
  unfold met; rw [List.length_map, List.countP_eq_length_filter]
theorem met_three {form v : List Int} {P : List (Int × Int)} : ∀ z ∈ met form v P, z.length = 3 := by
  intro z hz
  unfold met at hz
  obtain ⟨p, hp, rfl⟩ := List.mem_map.1 hz
  exact at_three (hB_of (List.mem_filter.1 hp).2).2.2
theorem met_no {form v : List Int} {P : List (Int × Int)} {p : Int × Int} (h : hB form v p = false) : met form v (P ++ [p]) = met form v P := by
  unfold met; rw [List.filter_append]; simp [h]
theorem met_yes {form v : List Int} {P : List (Int × Int)} {p : Int × Int} (h : hB form v p = true) : met form v (P ++ [p]) = met form v P ++ [(atB form v p.1 p.2).1] := by
  unfold met; rw [List.filter_append]; simp [h]
theorem met_new {form v : List Int} {P : List (Int × Int)} {p : Int × Int} (h : hB form v p = true) (hn : p ∉ P) : (atB form v p.1 p.2).1 ∉ met form v P := by
  intro hz
  unfold met at hz
  obtain ⟨q, hq, e⟩ := List.mem_map.1 hz
  obtain ⟨h1, h2⟩ := List.mem_filter.1 hq
  exact hn (inj h2 h e ▸ h1)
theorem row_len (n : Nat) (s : Int) : ∀ j, (rowL n s j).length = j
  | 0 => rfl
  | j + 1 => by unfold rowL; rw [List.length_append, row_len n s j]; rfl
theorem pre_len (n : Nat) : ∀ s, (preL n s).length = s * (2 * n + 1)
  | 0 => by simp [preL]
  | s + 1 => by unfold preL; rw [List.length_append, pre_len n s, row_len]; exact (Nat.succ_mul _ _).symm
theorem row_sub (n : Nat) (s : Int) : ∀ j, (rowL n s j).Sublist (rowL (n + 1) s (j + 1))
  | 0 => List.nil_sublist _
  | j + 1 => by
    rw [rowL, rowL]
    refine (row_sub n s j).append ?_
    rw [show ((j + 1 : Nat) : Int) - ((n + 1 : Nat) : Int) = (j : Int) - n by omega]
    exact List.Sublist.refl _
theorem pre_sub (n : Nat) : ∀ s, (preL n s).Sublist (preL (n + 1) s)
  | 0 => List.nil_sublist _
  | s + 1 => by
    unfold preL
    refine (pre_sub n s).append ((row_sub n s (2 * n + 1)).trans ?_)
    rw [show 2 * (n + 1) + 1 = (2 * n + 1 + 1) + 1 by omega, rowL.eq_2 _ _ (2 * n + 1 + 1)]
    exact List.sublist_append_left _ _
def cnt (form v : List Int) (n : Nat) : Nat := (preL n (n + 1)).countP (hB form v)
theorem cnt_mono (form v : List Int) (n : Nat) : cnt form v n ≤ cnt form v (n + 1) := by
  unfold cnt
  refine Nat.le_trans (pre_sub n (n + 1)).countP_le ?_
  rw [show preL (n + 1) (n + 1 + 1) = preL (n + 1) (n + 1) ++ rowL (n + 1) ((n + 1 : Nat) : Int) (2 * (n + 1) + 1) from rfl]
  exact (List.sublist_append_left _ _).countP_le
theorem vecL_ev {σ : Type} {f : Nat → Int → σ → Option σ} : ∀ (c : Nat) (x : Int) (S : Nat → σ), (∀ i, i < c → Ev (fun k => f k (x + (i : Int)) (S i)) (S (i + 1))) → Ev (fun k => vecL (f k) c x (S 0)) (S c)
  | 0, x, S, _ => Ev.now _
  | c + 1, x, S, h => by
    unfold vecL
    have h0 := h 0 (by omega)
    rw [show x + ((0 : Nat) : Int) = x by omega] at h0
    refine Ev.bind h0 ?_
    refine vecL_ev c (x + 1) (fun i => S (i + 1)) (fun i hi => ?_)
    have := h (i + 1) (by omega)
    rw [show x + ((i + 1 : Nat) : Int) = x + 1 + (i : Int) by omega] at this
    exact this
theorem tell_ev (form v : List Int) (hf : Tame form) (hv : Tame v) (acc : List (List Int)) (ha : acc.length < 1000000) (x y : Int) (hx : x.natAbs ≤ 20) (hy : y.natAbs ≤ 20) :
    Ev (fun k => impl_ConicMany.t k form v [x, y] acc) (if hB form v (x, y) = true then (if (atB form v x y).1 ∈ acc then acc else acc ++ [(atB form v x y).1]) else acc) := by
  have tm : Tame [x, y] := ⟨by simp, by intro z hz; simp at hz; omega⟩
  unfold impl_ConicMany.t
  refine Ev.bind (gcd_ev [x, y] (by simp) tm.2) ?_
  by_cases h0 : some0 [x, y] = true
  · have hg : gcdL 0 [x, y] ≠ 0 := fun k => by rw [gcdL_zero, h0] at k; cases k
    have h01 : x ≠ 0 ∨ y ≠ 0 := by unfold some0 at h0; simpa [Bool.or_eq_true] using h0
    refine Ev.neg (by omega) (Ev.bind (iPlain_ev _ tm h0) (Ev.bind (iEqual_ev _ _ (by unfold plainL; rw [List.length_map]) (by unfold plainL; rw [List.length_map]; simp)) ?_))
    by_cases h1 : plainL [x, y] = [x, y]
    · refine Ev.pos (by simpa using h1) ?_
      show Ev (fun k => (impl_ConicAt.f k form v x y).bind fun z => _) _
      refine Ev.bind (iAt_ev form v x y hf hv (by omega) (by omega)) ?_
      have pl : plB x y = true := by unfold plB; exact decide_eq_true ⟨h01, h1⟩
      by_cases h2 : (atB form v x y).2 = true
      · have hl := at_len form v x y
        rw [if_pos (show hB form v (x, y) = true by unfold hB; rw [Bool.and_eq_true]; exact ⟨pl, h2⟩)]
        exact Ev.pos h2 (Ev.pos ⟨at_three h2, fun z hz => by have := hl.2 z hz; omega⟩ (Ev.pos ha (Ev.now _)))
      · rw [if_neg (show ¬ hB form v (x, y) = true from fun k => h2 (hB_of k).2.2)]
        exact Ev.neg h2 (Ev.now _)
    · rw [if_neg (show ¬ hB form v (x, y) = true from fun k => h1 (hB_of k).2.1)]
      exact Ev.neg (by simpa using h1) (Ev.now _)
  · have e : gcdL 0 [x, y] = 0 := by rw [gcdL_zero]; simpa using h0
    rw [if_neg (show ¬ hB form v (x, y) = true from fun k => h0 (some2 (hB_of k).1))]
    exact Ev.pos (by omega) (Ev.now _)
theorem met_size (form v : List Int) (P : List (Int × Int)) (m : Nat) (h : P.length ≤ m) : (met form v P).length ≤ m := by
  rw [met_len]; exact Nat.le_trans List.countP_le_length h
theorem step_ev (form v : List Int) (hf : Tame form) (hv : Tame v) (n : Nat) (hn : n ≤ 6) (s j : Nat) (hs : s ≤ n) (hj : j < 2 * n + 1) :
    Ev (fun k => impl_ConicMany.t k form v [(s : Int), (j : Int) - n] (met form v (preL n s ++ rowL n s j))) (met form v (preL n s ++ rowL n s (j + 1))) := by
  have hm := Nat.mul_le_mul hs (show 2 * n + 1 ≤ 13 by omega)
  have hl := met_size form v (preL n s ++ rowL n s j) 200 (by rw [List.length_append, pre_len, row_len]; omega)
  refine Ev.to (tell_ev form v hf hv _ (by omega) _ _ (by omega) (by omega)) ?_
  rw [rowL, ← List.append_assoc]
  by_cases h : hB form v ((s : Int), (j : Int) - n) = true
  · rw [if_pos h, met_yes h, if_neg (met_new h (new s j))]
  · rw [if_neg h, met_no (by simpa using h)]
theorem vec_ev (form v : List Int) (hf : Tame form) (hv : Tame v) (n : Nat) (hn : n ≤ 6) : Ev (fun k => vecR (impl_ConicMany.t k form v) n 2 [] []) (met form v (preL n (n + 1))) := by
  unfold vecR
  have go := vecL_ev (f := fun k x s => vecR (impl_ConicMany.t k form v) n 1 ([] ++ [x]) s) (2 * n + 1) (-(n : Int)) (fun i => met form v (preL n (i - n))) ?_
  · rw [show 0 - n = 0 by omega, show 2 * n + 1 - n = n + 1 by omega] at go
    exact go
  · intro i hi
    show Ev (fun k => vecR (impl_ConicMany.t k form v) n 1 ([] ++ [-(n : Int) + (i : Int)]) (met form v (preL n (i - n)))) (met form v (preL n (i + 1 - n)))
    unfold vecR
    by_cases h : i < n
    · rw [show i - n = 0 by omega, show i + 1 - n = 0 by omega]
      have go := vecL_ev (f := fun k y s => impl_ConicMany.t k form v [-(n : Int) + (i : Int), y] s) (2 * n + 1) (-(n : Int)) (fun j => met form v (preL n 0)) ?_
      · exact go
      · intro j hj
        refine Ev.to (tell_ev form v hf hv _ (by show (0 : Nat) < _; omega) _ _ (by omega) (by omega)) ?_
        rw [if_neg]
        intro k
        have := hB_of k
        have h1 := pl_neg (s := -(n : Int) + (i : Int)) (t := -(n : Int) + (j : Int)) (by omega)
        unfold hB at k; rw [h1] at k; cases k
    · obtain ⟨s, rfl⟩ : ∃ s, i = n + s := ⟨i - n, by omega⟩
      rw [show n + s - n = s by omega, show n + s + 1 - n = s + 1 by omega, show -(n : Int) + ((n + s : Nat) : Int) = (s : Int) by omega]
      have go := vecL_ev (f := fun k y s' => impl_ConicMany.t k form v [(s : Int), y] s') (2 * n + 1) (-(n : Int)) (fun j => met form v (preL n s ++ rowL n s j)) ?_
      · simp only [rowL, List.append_nil] at go
        exact go
      · intro j hj
        have := step_ev form v hf hv n hn s j (by omega) hj
        rw [show -(n : Int) + (j : Int) = (j : Int) - n by omega]
        exact this
theorem impl_ev (form v : List Int) (hf : Tame form) (hv : Tame v) (n : Int) : Ev (fun k => impl_ConicMany.f k form v n) (if pointB form v = true ∧ 1 ≤ n ∧ n ≤ 5 then (cnt form v n.toNat : Int) else -1) := by
  unfold impl_ConicMany.f
  refine Ev.bind (iPoint_ev form v hf hv) ?_
  by_cases hp : pointB form v = true
  · refine Ev.pos hp ?_
    by_cases h1 : n < 1
    · rw [if_neg (by omega)]; exact Ev.pos h1 (Ev.now _)
    · refine Ev.neg h1 ?_
      by_cases h5 : n > 5
      · rw [if_neg (by omega)]; exact Ev.pos h5 (Ev.now _)
      · rw [if_pos ⟨hp, by omega, by omega⟩]
        exact Ev.neg h5 (Ev.bind (vec_ev form v hf hv n.toNat (by omega)) (Ev.nows (by rw [met_len]; rfl)))
  · rw [if_neg (fun k => hp k.1)]; exact Ev.neg hp (Ev.now _)
theorem kIn_l1 (acc : List (List Int)) (z : List Int) (i : Nat) (hi : i < acc.length) (hz : z.length = 3) (h3 : acc[i].length = 3) (r : Bool)
    (yes : acc[i] = z → r = true) (no : acc[i] ≠ z → Ev (fun k => spec_l6kIn.l0 k acc z ((i + 1 : Nat) : Int)) r) (hs : acc.length ≤ 1000000) : ∀ (m j : Nat) (b : Bool), j + m = 3 → (b = true ↔ ∀ a, a < j → rd acc[i] (a : Int) = rd z (a : Int)) →
    Ev (fun k => spec_l6kIn.l1 k acc z (i : Int) b (j : Int)) r := by
  have e2 : rd_L2 acc (i : Int) = acc[i] := by unfold rd_L2; simp [hi]
  intro m
  induction m with
  | zero =>
    intro j b h hb
    refine Ev.step (fun k => spec_l6kIn.l1.eq_2 _ _ _ _ _ k) (Ev.neg (by omega) ?_)
    have e : b = true ↔ acc[i] = z := by
      rw [hb]
      constructor
      · intro h1; exact ext_rd (by omega) (fun a ha => h1 a (by omega))
      · rintro h1 a _; rw [h1]
    by_cases hbt : b = true
    · exact Ev.pos hbt (Ev.nows (yes (e.1 hbt)).symm)
    · refine Ev.neg hbt ?_
      rw [w64s (by omega)]
      exact no (fun k => hbt (e.2 k))
  | succ m ih =>
    intro j b h hb
    refine Ev.step (fun k => spec_l6kIn.l1.eq_2 _ _ _ _ _ k) (Ev.pos (by omega) ?_)
    rw [w64s (by omega)]
    by_cases hbt : b = true
    · refine Ev.pos hbt (Ev.pos (by omega) (Ev.pos (by omega) (Ev.pos (by omega) (Ev.pos (by rw [e2]; omega) ?_))))
      rw [e2]
      refine ih (j + 1) _ (by omega) ?_
      rw [beq_iff_eq]
      constructor
      · intro h1 a ha
        rcases (by omega : a < j ∨ a = j) with h2 | rfl
        · exact hb.1 hbt a h2
        · exact h1
      · intro h1; exact h1 j (by omega)
    · refine Ev.neg hbt (ih (j + 1) false (by omega) ?_)
      constructor
      · intro k; cases k
      · intro k; exact absurd (hb.2 (fun a ha => k a (by omega))) hbt
theorem kIn_l0 (acc : List (List Int)) (z : List Int) (hz : z.length = 3) (h3 : ∀ y ∈ acc, y.length = 3) (hs : acc.length ≤ 1000000) : ∀ (m i : Nat), i + m = acc.length → z ∉ acc.take i → Ev (fun k => spec_l6kIn.l0 k acc z (i : Int)) (decide (z ∈ acc)) := by
  intro m
  induction m with
  | zero =>
    intro i h hn
    refine Ev.step (fun k => spec_l6kIn.l0.eq_2 _ _ _ k) (Ev.neg (by omega) (Ev.nows ?_))
    rw [List.take_of_length_le (by omega)] at hn
    exact (decide_eq_false hn).symm
  | succ m ih =>
    intro i h hn
    have hi : i < acc.length := by omega
    refine Ev.step (fun k => spec_l6kIn.l0.eq_2 _ _ _ k) (Ev.pos (by omega) ?_)
    refine kIn_l1 acc z i hi hz (h3 _ (List.getElem_mem hi)) _ (fun e => decide_eq_true (by rw [← e]; exact List.getElem_mem hi)) (fun e => ih (i + 1) (by omega) ?_) hs 3 0 true rfl ⟨fun _ a ha => by omega, fun _ => rfl⟩
    rw [List.take_succ_eq_append_getElem hi, List.mem_append, List.mem_singleton]
    rintro (k | k)
    · exact hn k
    · exact e k.symm
theorem kIn_ev (acc : List (List Int)) (z : List Int) (hz : z.length = 3) (h3 : ∀ y ∈ acc, y.length = 3) (hs : acc.length ≤ 1000000) : Ev (fun k => spec_l6kIn.f k acc z) (decide (z ∈ acc)) := by
  unfold spec_l6kIn.f
  exact kIn_l0 acc z hz h3 hs acc.length 0 (by omega) (by simp)
theorem many_l1 (form v : List Int) (hf : form.length ≤ 1000000) (hv : v.length ≤ 1000000) (ht : ∀ x ∈ v, -9000000000000000000 ≤ x ∧ x ≤ 9000000000000000000) (n : Nat) (hn : n ≤ 6) (s : Nat) (hs : s ≤ n) (r : Int)
    (hr : Ev (fun k => spec_ConicMany.l0 k form v (n : Int) (met form v (preL n (s + 1))) ((s + 1 : Nat) : Int)) r) : ∀ (m j : Nat), j + m = 2 * n + 1 →
    Ev (fun k => spec_ConicMany.l1 k form v (n : Int) (met form v (preL n s ++ rowL n s j)) (s : Int) ((j : Int) - n)) r := by
  intro m
  induction m with
  | zero =>
    intro j h
    obtain rfl : j = 2 * n + 1 := by omega
    refine Ev.step (fun k => spec_ConicMany.l1.eq_2 _ _ _ _ _ _ k) (Ev.neg (by omega) ?_)
    rw [w64s (by omega)]
    exact hr
  | succ m ih =>
    intro j h
    have hm := Nat.mul_le_mul hs (show 2 * n + 1 ≤ 13 by omega)
    have hl := met_size form v (preL n s ++ rowL n s j) 200 (by rw [List.length_append, pre_len, row_len]; omega)
    have nx := ih (j + 1) (by omega)
    rw [rowL, ← List.append_assoc, show ((j + 1 : Nat) : Int) - n = (j : Int) - n + 1 by omega] at nx
    have w : wrap64 ((j : Int) - n + 1) = (j : Int) - n + 1 := w64 (by omega) (by omega)
    refine Ev.step (fun k => spec_ConicMany.l1.eq_2 _ _ _ _ _ _ k) (Ev.pos (by omega) ?_)
    have skip : hB form v ((s : Int), (j : Int) - n) = false → Ev (fun k => spec_ConicMany.j3 k form v (n : Int) (met form v (preL n s ++ rowL n s j)) (s : Int) ((j : Int) - n) true) r := by
      intro h0
      refine Ev.step (fun k => spec_ConicMany.j3.eq_2 _ _ _ _ _ _ _ k) (Ev.pos rfl ?_)
      rw [w]; rw [met_no h0] at nx; exact nx
    have body : ((s : Int) ≠ 0 ∨ (j : Int) - n ≠ 0) → Ev (fun k => (spec_l6kPlain.f k [(s : Int), (j : Int) - n]).bind fun q => (spec_ConicMany.j3 k form v (n : Int) (met form v (preL n s ++ rowL n s j)) (s : Int) ((j : Int) - n) (!q))) r := by
      intro h0
      refine Ev.bind (sPlain_ev _ (by simp) (by intro x hx; simp at hx; omega) (some2 h0)) ?_
      by_cases h1 : plainL [(s : Int), (j : Int) - n] = [(s : Int), (j : Int) - n]
      · rw [decide_eq_true h1]
        refine Ev.step (fun k => spec_ConicMany.j3.eq_2 _ _ _ _ _ _ _ k) (Ev.neg (by simp) (Ev.bind (sAt_ev form v _ _ hf hv ht) ?_))
        have pl : plB (s : Int) ((j : Int) - n) = true := by unfold plB; exact decide_eq_true ⟨h0, h1⟩
        by_cases h2 : (atB form v (s : Int) ((j : Int) - n)).2 = true
        · have hh : hB form v ((s : Int), (j : Int) - n) = true := by unfold hB; rw [Bool.and_eq_true]; exact ⟨pl, h2⟩
          have nw := met_new hh (new (n := n) s j)
          refine Ev.pos h2 (Ev.bind (kIn_ev _ _ (at_three h2) met_three (by omega)) (Ev.neg (by simpa using nw) (Ev.pos (by omega) ?_)))
          rw [w]; rw [met_yes hh] at nx; exact nx
        · have hh : hB form v ((s : Int), (j : Int) - n) = false := Bool.eq_false_iff.2 (fun k => h2 (hB_of k).2.2)
          refine Ev.neg h2 ?_
          rw [w]; rw [met_no hh] at nx; exact nx
      · rw [decide_eq_false h1]
        exact skip (Bool.eq_false_iff.2 (fun k => h1 (hB_of k).2.1))
    by_cases h1 : (s : Int) = 0
    · refine Ev.pos h1 ?_
      by_cases h2 : (j : Int) - n = 0
      · exact Ev.pos h2 (skip (Bool.eq_false_iff.2 (fun k => by have := (hB_of k).1; simp only at this; omega)))
      · exact Ev.neg h2 (body (.inr h2))
    · exact Ev.neg h1 (body (.inl h1))
theorem many_l0 (form v : List Int) (hf : form.length ≤ 1000000) (hv : v.length ≤ 1000000) (ht : ∀ x ∈ v, -9000000000000000000 ≤ x ∧ x ≤ 9000000000000000000) (n : Nat) (hn : n ≤ 6) : ∀ (m s : Nat), s + m = n + 1 →
    Ev (fun k => spec_ConicMany.l0 k form v (n : Int) (met form v (preL n s)) (s : Int)) (cnt form v n : Int) := by
  intro m
  induction m with
  | zero =>
    intro s h
    obtain rfl : s = n + 1 := by omega
    exact Ev.step (fun k => spec_ConicMany.l0.eq_2 _ _ _ _ _ k) (Ev.neg (by omega) (Ev.nows (by rw [met_len]; rfl)))
  | succ m ih =>
    intro s h
    refine Ev.step (fun k => spec_ConicMany.l0.eq_2 _ _ _ _ _ k) (Ev.pos (by omega) ?_)
    have go := many_l1 form v hf hv ht n hn s (by omega) _ (ih (s + 1) (by omega)) (2 * n + 1) 0 (by omega)
    rw [rowL, List.append_nil, show ((0 : Nat) : Int) - n = -(n : Int) by omega] at go
    rw [w64 (a := -(n : Int)) (by omega) (by omega)]
    exact go
theorem spec_ev (form v : List Int) (hf : form.length ≤ 1000000) (hv : v.length ≤ 1000000) (ht : ∀ x ∈ v, -9000000000000000000 ≤ x ∧ x ≤ 9000000000000000000) (n : Int) : Ev (fun k => spec_ConicMany.f k form v n) (if pointB form v = true ∧ 1 ≤ n ∧ n ≤ 5 then (cnt form v n.toNat : Int) else -1) := by
  unfold spec_ConicMany.f
  refine Ev.bind (sPoint_ev form v hf hv ht) ?_
  by_cases hp : pointB form v = true
  · refine Ev.pos hp (Ev.bind0 (in_eq _ _ _) (Ev.step (fun k => spec_ConicMany.j0.eq_2 _ _ _ _ k) ?_))
    by_cases h : 1 ≤ n ∧ n ≤ 5
    · rw [if_pos ⟨hp, h⟩]
      have go := many_l0 form v hf hv ht n.toNat (by omega) (n.toNat + 1) 0 (by omega)
      rw [show ((n.toNat : Nat) : Int) = n by omega] at go
      exact Ev.neg (by simpa using h) go
    · rw [if_neg (fun k => h k.2)]
      exact Ev.pos (by rw [decide_eq_false h]; rfl) (Ev.now _)
  · rw [if_neg (fun k => hp k.1)]
    exact Ev.neg hp (Ev.step (fun k => spec_ConicMany.j0.eq_2 _ _ _ _ k) (Ev.pos rfl (Ev.now _)))
theorem draw_ev {s l : List Int} (hs : IsCode s) (ho : spec_l6Open.f l = some (s, 0)) : ∃ (form v : List Int) (n : Int), Three form ∧ v.length ≤ 3 ∧ (∀ x ∈ v, -1000000000000 ≤ x ∧ x ≤ 1000000000000) ∧ -2 ≤ n ∧ n ≤ 8 ∧ Ev (fun k => spec_DrawConicMany.f k l) (form, v, n) := by
  obtain ⟨form, v, q, hT, hvl, hvb, hq, hd⟩ := point_ev hs
  obtain ⟨a, a0, a1, ha⟩ := pick_ev' hs q 3 (by omega) (by omega)
  obtain ⟨b, b0, b1, hb⟩ := pick_ev' hs (q + 1) 20 (by omega) (by omega)
  obtain ⟨c, c0, c1, hc⟩ := pick_ev' hs (q + 1 + 1) 20 (by omega) (by omega)
  unfold spec_DrawConicMany.f
  have tb : 0 ≤ Int.tdiv b 19 ∧ Int.tdiv b 19 ≤ 1 := by rw [Int.tdiv_eq_ediv_of_nonneg b0]; omega
  have tc : 0 ≤ Int.tdiv c 19 ∧ Int.tdiv c 19 ≤ 1 := by rw [Int.tdiv_eq_ediv_of_nonneg c0]; omega
  refine ⟨form, v, _, hT, hvl, hvb, ?_, ?_, Ev.bind0 ho (Ev.bind hd (Ev.bind ha (Ev.bind hb (Ev.bind hc (Ev.nows rfl)))))⟩ <;> simp only <;>
  rw [w64 (a := Int.tdiv b 19) (by omega) (by omega), w64 (a := Int.tdiv c 19) (by omega) (by omega), w64 (a := 1 + a) (by omega) (by omega), w64 (a := Int.tdiv b 19 * 3) (by omega) (by omega), w64 (a := Int.tdiv c 19 * 5) (by omega) (by omega),
    w64 (a := 1 + a - Int.tdiv b 19 * 3) (by omega) (by omega), w64 (by omega) (by omega)] <;> omega
def pl2 (p : Int × Int) : Bool := plB p.1 p.2
theorem law_l1 (form v : List Int) (hf : Tame form) (hv : Tame v) (n : Nat) (hn : n ≤ 6) (o : Int) (s : Nat) (hs : s ≤ n) (r : Bool)
    (hr : Ev (fun k => laws_FnConicMany.l0 k form v (n : Int) o (((preL n (s + 1)).countP pl2 : Nat) : Int) (((preL n (s + 1)).countP (hB form v) : Nat) : Int) ((s + 1 : Nat) : Int)) r) : ∀ (m j : Nat), j + m = 2 * n + 1 →
    Ev (fun k => laws_FnConicMany.l1 k form v (n : Int) o (((preL n s ++ rowL n s j).countP pl2 : Nat) : Int) (((preL n s ++ rowL n s j).countP (hB form v) : Nat) : Int) (s : Int) ((j : Int) - n)) r := by
  intro m
  induction m with
  | zero =>
    intro j h
    obtain rfl : j = 2 * n + 1 := by omega
    refine Ev.step (fun k => laws_FnConicMany.l1.eq_2 _ _ _ _ _ _ _ _ k) (Ev.neg (by omega) ?_)
    rw [w64s (by omega)]
    exact hr
  | succ m ih =>
    intro j h
    have hm := Nat.mul_le_mul hs (show 2 * n + 1 ≤ 13 by omega)
    have hl : (preL n s ++ rowL n s j).length ≤ 200 := by rw [List.length_append, pre_len, row_len]; omega
    have c1 := Nat.le_trans (List.countP_le_length (p := pl2) (l := preL n s ++ rowL n s j)) hl
    have c2 := Nat.le_trans (List.countP_le_length (p := hB form v) (l := preL n s ++ rowL n s j)) hl
    have nx := ih (j + 1) (by omega)
    rw [rowL, ← List.append_assoc, show ((j + 1 : Nat) : Int) - n = (j : Int) - n + 1 by omega, List.countP_append, List.countP_append (p := hB form v) (l₁ := preL n s ++ rowL n s j), List.countP_singleton, List.countP_singleton] at nx
    have w : wrap64 ((j : Int) - n + 1) = (j : Int) - n + 1 := w64 (by omega) (by omega)
    have skip : plB (s : Int) ((j : Int) - n) = false → Ev (fun k => laws_FnConicMany.j3 k form v (n : Int) o (((preL n s ++ rowL n s j).countP pl2 : Nat) : Int) (((preL n s ++ rowL n s j).countP (hB form v) : Nat) : Int) (s : Int) ((j : Int) - n) true) r := by
      intro h0
      refine Ev.step (fun k => laws_FnConicMany.j3.eq_2 _ _ _ _ _ _ _ _ _ k) (Ev.pos rfl ?_)
      rw [w]
      rw [if_neg (show ¬ pl2 ((s : Int), (j : Int) - n) = true by unfold pl2; simp [h0]), if_neg (show ¬ hB form v ((s : Int), (j : Int) - n) = true by unfold hB; simp [h0])] at nx
      exact nx
    have body : plB (s : Int) ((j : Int) - n) = true → Ev (fun k => laws_FnConicMany.j3 k form v (n : Int) o (((preL n s ++ rowL n s j).countP pl2 : Nat) : Int) (((preL n s ++ rowL n s j).countP (hB form v) : Nat) : Int) (s : Int) ((j : Int) - n) false) r := by
      intro h0
      refine Ev.step (fun k => laws_FnConicMany.j3.eq_2 _ _ _ _ _ _ _ _ _ k) (Ev.neg (by simp) (Ev.bind (iAt_ev form v _ _ hf hv (by omega) (by omega)) ?_))
      rw [if_pos (show pl2 ((s : Int), (j : Int) - n) = true from h0)] at nx
      rw [w64s (by omega), w]
      by_cases h2 : (atB form v (s : Int) ((j : Int) - n)).2 = true
      · rw [if_pos (show hB form v ((s : Int), (j : Int) - n) = true by unfold hB; rw [Bool.and_eq_true]; exact ⟨h0, h2⟩)] at nx
        refine Ev.pos h2 ?_
        rw [w64s (by omega)]; exact nx
      · rw [if_neg (show ¬ hB form v ((s : Int), (j : Int) - n) = true from fun k => h2 (hB_of k).2.2)] at nx
        exact Ev.neg h2 nx
    refine Ev.step (fun k => laws_FnConicMany.l1.eq_2 _ _ _ _ _ _ _ _ k) (Ev.pos (by omega) (Ev.bind (GcdOf_ev _ _ (by omega) (by omega) (by omega) (by omega)) ?_))
    have key := plB_iff (s : Int) ((j : Int) - n)
    have no : ¬ ((((s : Int) > 0 ∨ ((s : Int) = 0 ∧ (j : Int) - n > 0)) ∧ Nat.gcd ((s : Int)).natAbs ((j : Int) - n).natAbs = 1)) → plB (s : Int) ((j : Int) - n) = false := fun k => Bool.eq_false_iff.2 (fun h => k (key.1 h))
    by_cases hg : Nat.gcd ((s : Int)).natAbs ((j : Int) - n).natAbs = 1
    · refine Ev.pos (by omega) ?_
      by_cases h0 : (s : Int) = 0
      · refine Ev.pos h0 ?_
        by_cases h1 : (j : Int) - n < 0
        · rw [decide_eq_true h1]; exact skip (no (by omega))
        · rw [decide_eq_false h1]
          have h2 : (j : Int) - n ≠ 0 := by
            intro h2; rw [h0, h2] at hg; simp at hg
          exact body (key.2 ⟨by omega, hg⟩)
      · exact Ev.neg h0 (body (key.2 ⟨by omega, hg⟩))
    · exact Ev.neg (by omega) (skip (no (fun k => hg k.2)))
theorem law_l0 (form v : List Int) (hf : Tame form) (hv : Tame v) (n : Nat) (hn : n ≤ 6) (o : Int) (r : Bool)
    (hr : Ev (fun k => laws_FnConicMany.l0 k form v (n : Int) o (((preL n (n + 1)).countP pl2 : Nat) : Int) ((cnt form v n : Nat) : Int) ((n + 1 : Nat) : Int)) r) : ∀ (m s : Nat), s + m = n + 1 →
    Ev (fun k => laws_FnConicMany.l0 k form v (n : Int) o (((preL n s).countP pl2 : Nat) : Int) (((preL n s).countP (hB form v) : Nat) : Int) (s : Int)) r := by
  intro m
  induction m with
  | zero =>
    intro s h
    obtain rfl : s = n + 1 := by omega
    exact hr
  | succ m ih =>
    intro s h
    refine Ev.step (fun k => laws_FnConicMany.l0.eq_2 _ _ _ _ _ _ _ k) (Ev.pos (by omega) ?_)
    have go := law_l1 form v hf hv n hn o s (by omega) _ (ih (s + 1) (by omega)) (2 * n + 1) 0 (by omega)
    rw [rowL, List.append_nil, show ((0 : Nat) : Int) - n = -(n : Int) by omega] at go
    rw [w64 (a := -(n : Int)) (by omega) (by omega)]
    exact go
end FnConicManyFun
open FnConicManyFun
theorem FnConicMany : laws_FnConicMany.Pure := by
  intro l _ _ hw
  refine Ev.rounds (r := true) ?_
  unfold laws_FnConicMany.f
  by_cases hl : (l.length : Int) > 1048576
  · exact Ev.pos hl (Ev.now _)
  · refine Ev.neg hl ?_
    obtain ⟨c, hs, ho⟩ := open_ev hw
    obtain ⟨form, v, n, hT, hvl, hvb, n0, n1, hdraw⟩ := draw_ev hs ho
    have hf := three_tame hT
    have hv : Tame v := ⟨by omega, fun x hx => by have := hvb x hx; omega⟩
    refine Ev.bind hdraw (Ev.bind (impl_ev form v hf hv n) (Ev.bind (spec_ev form v hf.1 hv.1 (fun x hx => by have := hvb x hx; omega) n) (Ev.pos rfl ?_)))
    simp only
    refine Ev.step (fun k => laws_FnConicMany.j0.eq_2 _ _ _ _ _ _ k) ?_
    by_cases h : pointB form v = true ∧ 1 ≤ n ∧ n ≤ 5
    · rw [if_pos h]
      refine Ev.neg (by simp) ?_
      obtain ⟨m, rfl⟩ : ∃ m : Nat, n = (m : Int) := ⟨n.toNat, by omega⟩
      rw [show ((m : Nat) : Int).toNat = m by omega]
      have fin : Ev (fun k => laws_FnConicMany.l0 k form v (m : Int) ((cnt form v m : Nat) : Int) (((preL m (m + 1)).countP pl2 : Nat) : Int) ((cnt form v m : Nat) : Int) ((m + 1 : Nat) : Int)) true := by
        refine Ev.step (fun k => laws_FnConicMany.l0.eq_2 _ _ _ _ _ _ _ k) (Ev.neg (by omega) ?_)
        rw [w64s (by omega)]
        refine Ev.bind (impl_ev form v hf hv _) (Ev.pos rfl (Ev.pos ?_ ?_))
        · have : cnt form v m ≤ (preL m (m + 1)).countP pl2 := by
            unfold cnt
            refine List.countP_mono_left (fun p _ hp => ?_)
            unfold hB at hp; rw [Bool.and_eq_true] at hp
            exact hp.1
          omega
        · by_cases h5 : (m : Int) = 5
          · exact Ev.pos h5 (Ev.now _)
          · refine Ev.neg h5 (Ev.nows ?_)
            rw [if_pos ⟨h.1, by omega, by omega⟩, show ((m + 1 : Nat) : Int).toNat = m + 1 by omega]
            have := cnt_mono form v m
            simp; omega
      exact law_l0 form v hf hv m (by omega) _ _ fin (m + 1) 0 (by omega)
    · rw [if_neg h]
      exact Ev.pos (by simp) (Ev.nows (by simp))
end Go.Proofs.Ytpaohkhmhdhibaa.Pure
