/- The law FnExactQuatConj holds: QuatConj of the program answers as the reference does, for every list of ints, leaves it alone and answers in new memory. No condition. -/
import Derived.Test.YtpmhninmblgjoaaPFnExactQuatConjx3
import Derived.Test.YtpmhninmblgjoaaAid
namespace Go.Proofs.Ytpmhninmblgjoaa.Pure
open Go.RowKit Go.Proofs.Ytpmhninmblgjoaa.PFnExactQuatConj Go.Proofs.YtpmhninmblgjoaaW.PrintWords Go.Proofs.YtpmhninmblgjoaaW.PrintLast Go.Proofs.YtpmhninmblgjoaaW.PrintMore Go.Proofs.Ytpmhninmblgjoaa.Aid
namespace FnExactQuatConjFun
theorem in_eq (a b c : Int) : spec_l6In.f a b c = some (decide (b ≤ a ∧ a ≤ c)) := by
  unfold spec_l6In.f
  by_cases h : b ≤ a <;> simp [h]
theorem toIntS_l (xs : List Int) (hn : xs.length ≤ 17592186044416) : ∀ (m i : Nat), i + m = xs.length → Ev (fun k => laws_toIntS.l0 k xs (xs.take i ++ List.replicate m 0) (i : Int)) xs := by
  intro m
  induction m with
  | zero =>
    intro i h
    refine Ev.step (fun k => laws_toIntS.l0.eq_2 _ _ _ k) (Ev.neg (by omega) (Ev.nows ?_))
    simp [show i = xs.length by omega]
  | succ m ih =>
    intro i h
    refine Ev.step (fun k => laws_toIntS.l0.eq_2 _ _ _ k) (Ev.pos (by omega) (Ev.pos (by omega) (Ev.pos (by simp; omega) ?_)))
    rw [w64s (by omega)]
    have e : (xs.take i ++ List.replicate (m + 1) 0).set (i : Int).toNat (rd xs (i : Int)) = xs.take (i + 1) ++ List.replicate m 0 := by
      have hl : (xs.take i).length = i := by rw [List.length_take]; omega
      rw [Int.toNat_natCast, List.set_append_right _ _ (by omega), hl, Nat.sub_self, List.replicate_succ, List.set_cons_zero, rd_at, List.getD_eq_getElem?_getD, List.getElem?_eq_getElem (show i < xs.length by omega), List.take_succ_eq_append_getElem (show i < xs.length by omega), List.append_assoc]
      rfl
    rw [e]
    exact ih (i + 1) (by omega)
theorem toIntS_ev (xs : List Int) (hn : xs.length ≤ 17592186044416) : Ev (fun k => laws_toIntS.f k xs) xs := by
  unfold laws_toIntS.f
  refine Ev.pos (by omega) (Ev.pos (by omega) ?_)
  have h := toIntS_l xs hn xs.length 0 (by omega)
  simpa using h
theorem eqIntS_l (xs : List Int) (hn : xs.length ≤ 17592186044416) : ∀ (m i : Nat), i + m = xs.length → Ev (fun k => laws_eqIntS.l0 k xs xs (i : Int)) true := by
  intro m
  induction m with
  | zero =>
    intro i h
    exact Ev.step (fun k => laws_eqIntS.l0.eq_2 _ _ _ k) (Ev.neg (by omega) (Ev.now _))
  | succ m ih =>
    intro i h
    refine Ev.step (fun k => laws_eqIntS.l0.eq_2 _ _ _ k) (Ev.pos (by omega) (Ev.pos (by omega) (Ev.pos (by omega) (Ev.pos rfl ?_))))
    rw [w64s (by omega)]
    exact ih (i + 1) (by omega)
theorem eqIntS_ev (xs : List Int) (hn : xs.length ≤ 17592186044416) : Ev (fun k => laws_eqIntS.f k xs xs) true := by
  unfold laws_eqIntS.f
  exact Ev.pos rfl (eqIntS_l xs hn xs.length 0 (by omega))
/-- k numbers from a on. -/
def upTo : Nat → Int → List Int
  | 0, _ => []
  | n + 1, a => a :: upTo n (a + 1)
theorem upTo_len : ∀ (n : Nat) (a : Int), (upTo n a).length = n
  | 0, _ => rfl
  | n + 1, a => by simp [upTo, upTo_len n]
theorem upTo_get : ∀ (n : Nat) (a : Int) (i : Nat), i < n → (upTo n a).getD i 0 = a + i
  | 0, _, _, h => by omega
  | n + 1, a, 0, _ => by simp [upTo]
  | n + 1, a, i + 1, h => by
    have := upTo_get n (a + 1) i (by omega)
    simp only [List.getD_eq_getElem?_getD] at this
    simp only [upTo, List.getD_eq_getElem?_getD, List.getElem?_cons_succ, this]; omega
theorem markIntS_l (a : Int) (n : Nat) (hn : n ≤ 17592186044416) (h0 : 0 ≤ a) (h1 : a ≤ 17592186044416) : ∀ (m i : Nat) (xs : List Int), xs.length = n → i + m = n → xs.take i = upTo i a →
    Ev (fun k => laws_markIntS.l0 k xs (a + i) (i : Int)) (a + n, upTo n a) := by
  intro m
  induction m with
  | zero =>
    intro i xs hl h ht
    refine Ev.step (fun k => laws_markIntS.l0.eq_2 _ _ _ k) (Ev.neg (by omega) (Ev.nows ?_))
    obtain rfl : i = n := by omega
    rw [← ht, List.take_of_length_le (by omega)]
  | succ m ih =>
    intro i xs hl h ht
    refine Ev.step (fun k => laws_markIntS.l0.eq_2 _ _ _ k) (Ev.pos (by omega) (Ev.pos (by omega) ?_))
    rw [w64s (by omega), w64 (a := a + i + 1) (by omega) (by omega), show a + (i : Int) + 1 = a + ((i + 1 : Nat) : Int) by omega, Int.toNat_natCast]
    refine ih (i + 1) _ (by rw [List.length_set]; exact hl) (by omega) ?_
    have hx : ∀ (n : Nat) (a : Int), upTo (n + 1) a = upTo n a ++ [a + n] := by
      intro n
      induction n with
      | zero => intro a; simp [upTo]
      | succ n ih => intro a; rw [upTo, ih (a + 1), upTo, List.cons_append, show a + 1 + (n : Int) = a + ((n + 1 : Nat) : Int) by omega]
    rw [hx, ← ht, List.take_succ_eq_append_getElem (by rw [List.length_set]; omega), List.getElem_set_self, List.take_set_of_le (Nat.le_refl i)]
theorem markIntS_ev (xs : List Int) (a : Int) (hn : xs.length ≤ 17592186044416) (h0 : 0 ≤ a) (h1 : a ≤ 17592186044416) : Ev (fun k => laws_markIntS.f k xs a) (a + xs.length, upTo xs.length a) := by
  unfold laws_markIntS.f
  have h := markIntS_l a xs.length hn h0 h1 xs.length 0 xs rfl (by omega) rfl
  simpa using h
theorem heldIntS_l (a : Int) (n : Nat) (hn : n ≤ 17592186044416) (h0 : 0 ≤ a) (h1 : a ≤ 17592186044416) : ∀ (m i : Nat), i + m = n →
    Ev (fun k => laws_heldIntS.l0 k (upTo n a) (a + i) (i : Int)) (a + n) := by
  intro m
  induction m with
  | zero =>
    intro i h
    refine Ev.step (fun k => laws_heldIntS.l0.eq_2 _ _ _ k) (Ev.neg (by rw [upTo_len]; omega) (Ev.nows ?_))
    omega
  | succ m ih =>
    intro i h
    refine Ev.step (fun k => laws_heldIntS.l0.eq_2 _ _ _ k) (Ev.pos (by rw [upTo_len]; omega) (Ev.pos (by omega) (Ev.pos ?_ ?_)))
    · rw [rd_at, upTo_get n a i (by omega)]
    · rw [w64s (by omega), w64 (a := a + i + 1) (by omega) (by omega), show a + (i : Int) + 1 = a + ((i + 1 : Nat) : Int) by omega]
      exact ih (i + 1) (by omega)
theorem heldIntS_ev (n : Nat) (a : Int) (hn : n ≤ 17592186044416) (h0 : 0 ≤ a) (h1 : a ≤ 17592186044416) : Ev (fun k => laws_heldIntS.f k (upTo n a) a) (a + n) := by
  unfold laws_heldIntS.f
  have h := heldIntS_l a n hn h0 h1 n 0 (by omega)
  simpa using h
/-- What both functions tell. -/
def quat (xs : List Int) : Bool := decide (xs.length = 4 ∧ ∀ x ∈ xs, -10000 ≤ x ∧ x ≤ 10000)
theorem quat_no {xs : List Int} {x : Int} (h : x ∈ xs) (hx : ¬ (-10000 ≤ x ∧ x ≤ 10000)) : quat xs = false := by
  unfold quat; exact decide_eq_false (fun k => hx (k.2 x h))
theorem quat_end {xs : List Int} {i : Nat} (hi : xs.length ≤ i) (h : ∀ j, j < i → j < xs.length → -10000 ≤ rd xs (j : Int) ∧ rd xs (j : Int) ≤ 10000) : ((xs.length : Int) == 4) = quat xs := by
  have ha : ∀ x ∈ xs, -10000 ≤ x ∧ x ≤ 10000 := by
    intro x hx
    obtain ⟨j, hj, rfl⟩ := List.getElem_of_mem hx
    have := h j (by omega) hj
    rwa [rd_at, List.getD_eq_getElem?_getD, List.getElem?_eq_getElem hj] at this
  unfold quat
  by_cases h4 : xs.length = 4
  · rw [decide_eq_true (show _ from ⟨h4, ha⟩), h4]; rfl
  · rw [decide_eq_false (fun k => h4 k.1)]; simp; omega
theorem sQuatValid_l (xs : List Int) (hn : xs.length ≤ 17592186044416) : ∀ (m i : Nat), i + m = xs.length → (∀ j, j < i → j < xs.length → -10000 ≤ rd xs (j : Int) ∧ rd xs (j : Int) ≤ 10000) →
    Ev (fun k => spec_QuatValid.l0 k xs (i : Int)) (quat xs) := by
  intro m
  induction m with
  | zero =>
    intro i h hj
    exact Ev.step (fun k => spec_QuatValid.l0.eq_2 _ _ k) (Ev.neg (by omega) (Ev.nows (quat_end (by omega) hj)))
  | succ m ih =>
    intro i h hj
    refine Ev.step (fun k => spec_QuatValid.l0.eq_2 _ _ k) (Ev.pos (by omega) (Ev.pos (by omega) (Ev.bind0 (in_eq _ _ _) ?_)))
    by_cases hx : -10000 ≤ rd xs (i : Int) ∧ rd xs (i : Int) ≤ 10000
    · refine Ev.pos (by simpa using hx) ?_
      rw [w64s (by omega)]
      refine ih (i + 1) (by omega) (fun j h1 h2 => ?_)
      rcases (by omega : j < i ∨ j = i) with h3 | rfl
      · exact hj j h3 h2
      · exact hx
    · exact Ev.neg (by simpa using hx) (Ev.nows (quat_no (rd_mem (by omega)) hx).symm)
theorem sQuatValid_ev (xs : List Int) (hn : xs.length ≤ 17592186044416) : Ev (fun k => spec_QuatValid.f k xs) (quat xs) := by
  unfold spec_QuatValid.f
  exact sQuatValid_l xs hn xs.length 0 (by omega) (by omega)
theorem iQuatValid_l (xs : List Int) (hn : xs.length ≤ 17592186044416) (hw : ∀ x ∈ xs, (Lit.int .i64 x).wf = true) : ∀ (m i : Nat), i + m = xs.length → (∀ j, j < i → j < xs.length → -10000 ≤ rd xs (j : Int) ∧ rd xs (j : Int) ≤ 10000) →
    Ev (fun k => impl_QuatValid.l0 k xs xs (xs.length : Int) (i : Int)) (quat xs) := by
  intro m
  induction m with
  | zero =>
    intro i h hj
    exact Ev.step (fun k => impl_QuatValid.l0.eq_2 _ _ _ _ k) (Ev.neg (by omega) (Ev.nows (quat_end (by omega) hj)))
  | succ m ih =>
    intro i h hj
    have h0 := wf_lo (hw _ (rd_mem (show i < xs.length by omega)))
    have h1 := wf_hi (hw _ (rd_mem (show i < xs.length by omega)))
    refine Ev.step (fun k => impl_QuatValid.l0.eq_2 _ _ _ _ k) (Ev.pos (by omega) (Ev.pos (by omega) (Ev.pos (by omega) (Ev.bind0 (show impl_size.f _ = _ from rfl) ?_))))
    have e : mx (rd xs (i : Int)) (wrap64 (-rd xs (i : Int))) > 10000 ∨ rd xs (i : Int) < -10000 ↔ ¬ (-10000 ≤ rd xs (i : Int) ∧ rd xs (i : Int) ≤ 10000) := by
      generalize rd xs (i : Int) = x at *
      unfold mx wrap64
      split <;> omega
    by_cases h2 : mx (rd xs (i : Int)) (wrap64 (-rd xs (i : Int))) > 10000
    · exact Ev.pos h2 (Ev.nows (quat_no (rd_mem (by omega)) (e.1 (.inl h2))).symm)
    · refine Ev.neg h2 ?_
      by_cases h3 : rd xs (i : Int) < -10000
      · exact Ev.pos h3 (Ev.nows (quat_no (rd_mem (by omega)) (e.1 (.inr h3))).symm)
      · refine Ev.neg h3 ?_
        rw [w64s (by omega)]
        refine ih (i + 1) (by omega) (fun j h5 h6 => ?_)
        rcases (by omega : j < i ∨ j = i) with h7 | rfl
        · exact hj j h7 h6
        · exact Decidable.byContradiction fun h8 => by rcases e.2 h8 with h9 | h9 <;> omega
theorem iQuatValid_ev (xs : List Int) (hn : xs.length ≤ 17592186044416) (hw : ∀ x ∈ xs, (Lit.int .i64 x).wf = true) : Ev (fun k => impl_QuatValid.f k xs) (quat xs) := by
  unfold impl_QuatValid.f
  exact iQuatValid_l xs hn hw xs.length 0 (by omega) (by omega)
/-- What both functions tell. -/
def conj (xs : List Int) : List Int × Bool := if quat xs = true then ([rd xs 0, wrap64 (-(rd xs 1)), wrap64 (-(rd xs 2)), wrap64 (-(rd xs 3))], true) else ([], false)
theorem quat_len {xs : List Int} (h : quat xs = true) : xs.length = 4 := by
  unfold quat at h; exact (of_decide_eq_true h).1
theorem sQuatConj_ev (xs : List Int) (hn : xs.length ≤ 17592186044416) : Ev (fun k => spec_QuatConj.f k xs) (conj xs) := by
  unfold spec_QuatConj.f
  refine Ev.bind (sQuatValid_ev xs hn) ?_
  by_cases h : quat xs = true
  · have := quat_len h
    exact Ev.pos h (Ev.pos (by omega) (Ev.pos (by omega) (Ev.pos (by omega) (Ev.pos (by omega) (Ev.nows (by unfold conj; rw [if_pos h]))))))
  · exact Ev.neg h (Ev.nows (by unfold conj; rw [if_neg h]))
theorem iQuatConj_ev (xs : List Int) (hn : xs.length ≤ 17592186044416) (hw : ∀ x ∈ xs, (Lit.int .i64 x).wf = true) : Ev (fun k => impl_QuatConj.f k xs) (conj xs) := by
  unfold impl_QuatConj.f
  refine Ev.bind (iQuatValid_ev xs hn hw) ?_
  by_cases h : quat xs = true
  · have := quat_len h
    exact Ev.pos h (Ev.pos (by omega) (Ev.pos (by omega) (Ev.pos (by omega) (Ev.pos (by omega) (Ev.nows (by unfold conj; rw [if_pos h]))))))
  · exact Ev.neg h (Ev.nows (by unfold conj; rw [if_neg h]))
theorem conj_len (xs : List Int) : (conj xs).1.length ≤ 4 := by
  unfold conj; split <;> simp
end FnExactQuatConjFun
open FnExactQuatConjFun
theorem FnExactQuatConj : laws_FnExactQuatConj.Pure := by
  intro xs _ hn hw
  refine Ev.rounds (r := true) ?_
  unfold laws_FnExactQuatConj.f
  by_cases h : (xs.length : Int) > 1048576
  · exact Ev.pos h (Ev.now _)
  · have hl := conj_len xs
    have eq := eqIntS_ev (conj xs).1 (by omega)
    have hto := toIntS_ev xs (by omega)
    refine Ev.neg h (Ev.bind hto (Ev.bind (sQuatConj_ev xs (by omega)) (Ev.bind hto (Ev.bind (iQuatConj_ev xs (by omega) hw) (Ev.bind eq (Ev.pos rfl ?_))))))
    refine Ev.step (fun k => laws_FnExactQuatConj.j0.eq_2 _ _ _ _ _ _ _ k) (Ev.neg (by simp) (Ev.bind hto (Ev.bind (eqIntS_ev xs (by omega)) (Ev.pos rfl (Ev.bind (markIntS_ev xs 1 (by omega) (by omega) (by omega)) (Ev.neg (by simp only []; omega) (Ev.bind eq (Ev.pos rfl ?_))))))))
    refine Ev.step (fun k => laws_FnExactQuatConj.j1.eq_2 _ _ _ _ _ k) (Ev.neg (by simp) (Ev.bind (markIntS_ev _ 1 (by omega) (by omega) (by omega)) (Ev.bind (heldIntS_ev _ 1 (by omega) (by omega) (by omega)) (Ev.neg (by omega) (Ev.pos rfl (Ev.bind hto (Ev.bind (iQuatConj_ev xs (by omega) hw) (Ev.bind eq (Ev.pos rfl ?_)))))))))
    exact Ev.step (fun k => laws_FnExactQuatConj.j2.eq_2 _ _ _ k) (Ev.neg (by simp) (Ev.bind (heldIntS_ev _ 1 (by omega) (by omega) (by omega)) (Ev.neg (by omega) (Ev.pos rfl (Ev.now _)))))
end Go.Proofs.Ytpmhninmblgjoaa.Pure
