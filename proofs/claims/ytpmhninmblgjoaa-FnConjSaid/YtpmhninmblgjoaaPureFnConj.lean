/- The law FnConj holds: conjugates lead back. For every list of bytes; no condition. -/
import Derived.Test.YtpmhninmblgjoaaPFnConjx4
import Derived.Test.YtpmhninmblgjoaaAid
namespace Go.Proofs.Ytpmhninmblgjoaa.Pure
open Go.RowKit Go.Proofs.Ytpmhninmblgjoaa.PFnConj Go.Proofs.YtpmhninmblgjoaaW.PrintWords Go.Proofs.YtpmhninmblgjoaaW.PrintLast Go.Proofs.YtpmhninmblgjoaaW.PrintMore Go.Proofs.Ytpmhninmblgjoaa.Aid
namespace FnConjFun
theorem in_eq (a b c : Int) : spec_l6In.f a b c = some (decide (b ≤ a ∧ a ≤ c)) := by
  unfold spec_l6In.f
  by_cases h : b ≤ a <;> simp [h]
theorem pick_ev {s : List Int} (hs : IsCode s) (p n : Nat) (hp : p ≤ 10000000000000) (hn : 1 ≤ n) : Ev (fun k => spec_l6Rd_pick.f k s (p : Int) (n : Int)) ((pickv s p n : Int), ((p + 1 : Nat) : Int)) := by
  unfold spec_l6Rd_pick.f
  rw [w64s (by omega)]
  refine Ev.neg (by omega) (Ev.step (fun k => spec_l6Rd_pick.j0.eq_2 _ _ _ _ k) ?_)
  have hl := hs.1
  by_cases h0 : s.length = 0
  · exact Ev.pos (by simp [h0]) (Ev.nows (by unfold pickv; rw [if_pos h0]; rfl))
  · refine Ev.neg (by simp; simpa using h0) ?_
    rw [show ((p + 1 : Nat) : Int) - 1 = (p : Int) by omega, w64 (a := (p : Int)) (by omega) (by omega)]
    by_cases h1 : p < s.length
    · refine Ev.pos (by omega) (Ev.pos (by omega) (Ev.neg (by omega) (Ev.nows ?_)))
      have hb := code_at hs p
      unfold pickv
      rw [if_neg h0, if_pos h1, rd_at, w64 (by omega) (by omega), Int.tmod_eq_emod_of_nonneg hb.1, Int.natCast_emod, Int.toNat_of_nonneg hb.1]
    · refine Ev.neg (by omega) (Ev.neg (by omega) ?_)
      have e1 : Int.tmod (p : Int) (s.length : Int) = ((p % s.length : Nat) : Int) := by rw [Int.tmod_eq_emod_of_nonneg (by omega)]; rfl
      have e2 : Int.tmod (wrap64 (wrap64 ((p : Int) * 7) + 3)) (s.length : Int) = (((p * 7 + 3) % s.length : Nat) : Int) := by
        rw [w64 (a := (p : Int) * 7) (by omega) (by omega), w64 (by omega) (by omega), Int.tmod_eq_emod_of_nonneg (by omega)]; rfl
      have m1 : p % s.length < s.length := Nat.mod_lt _ (by omega)
      have m2 : (p * 7 + 3) % s.length < s.length := Nat.mod_lt _ (by omega)
      rw [e1, e2]
      refine Ev.pos (by omega) (Ev.pos (by omega) (Ev.pos (by omega) (Ev.pos (by omega) (Ev.neg (by omega) (Ev.nows ?_)))))
      have hb1 := code_at hs (p % s.length)
      have hb2 := code_at hs ((p * 7 + 3) % s.length)
      have hd : p / s.length ≤ p := Nat.div_le_self _ _
      have e3 : wrap64 (Int.tdiv (p : Int) (s.length : Int)) = ((p / s.length : Nat) : Int) := by
        rw [Int.tdiv_eq_ediv_of_nonneg (by omega), show (p : Int) / (s.length : Int) = ((p / s.length : Nat) : Int) from rfl]
        generalize p / s.length = q at *
        exact w64 (by omega) (by omega)
      have hm := mixed_le hs p
      have e4 : wrap64 ((wrap64 ((wrap64 ((wrap64 ((wrap64 (rd s ((p % s.length : Nat) : Int))) * 131)) + (wrap64 ((wrap64 (rd s (((p * 7 + 3) % s.length : Nat) : Int))) * 1117)))) + (wrap64 ((p : Int) * 29)))) + (wrap64 ((wrap64 (Int.tdiv (p : Int) (s.length : Int))) * 53))) = ((mixed s p : Nat) : Int) := by
        rw [e3, rd_at, rd_at, mix_wrap (s.getD (p % s.length) 0) (s.getD ((p * 7 + 3) % s.length) 0) (p : Int) ((p / s.length : Nat) : Int) hb1.1 hb1.2 hb2.1 hb2.2 (Int.natCast_nonneg _) (Int.ofNat_le.2 hp) (Int.natCast_nonneg _) (Int.ofNat_le.2 hd)]
        exact (mixed_int hs p).symm
      rw [e4]
      have e5 : wrap64 (Int.tdiv ((mixed s p : Nat) : Int) 64) = ((mixed s p / 64 : Nat) : Int) := by
        generalize mixed s p = M at *
        rw [Int.tdiv_eq_ediv_of_nonneg (by omega)]; exact w64 (by omega) (by omega)
      rw [e5, xor_i64 _ _ (by omega) (by omega), Int.tmod_eq_emod_of_nonneg (by omega)]
      unfold pickv
      rw [if_neg h0, if_neg h1]
      rfl
/-- The same where the bound is told as an Int. -/
theorem pick_ev' {s : List Int} (hs : IsCode s) (p : Nat) (n : Int) (hp : p ≤ 10000000000000) (hn : 1 ≤ n) : ∃ r : Int, 0 ≤ r ∧ r < n ∧ Ev (fun k => spec_l6Rd_pick.f k s (p : Int) n) (r, ((p + 1 : Nat) : Int)) := by
  obtain ⟨m, rfl⟩ : ∃ m : Nat, n = m := ⟨n.toNat, by omega⟩
  have h := pickv_lt s p (n := m) (by omega)
  exact ⟨_, by omega, by omega, pick_ev hs p m hp (by omega)⟩
theorem open_ev {l : List Int} (hw : ∀ x ∈ l, (Lit.int .u8 x).wf = true) : ∃ s, IsCode s ∧ spec_l6Open.f l = some (s, 0) := by
  have hb : ∀ x ∈ l, 0 ≤ x ∧ x ≤ 255 := fun x hx => by
    have := hw x hx
    simp [Lit.wf, IntKind.min, IntKind.max, IntKind.signed, IntKind.bits] at this; omega
  unfold spec_l6Open.f
  by_cases h : (l.length : Int) > 2000
  · rw [if_pos h, if_pos (by omega)]
    exact ⟨l.take 2000, ⟨by rw [List.length_take]; omega, fun x hx => hb x (List.mem_of_mem_take hx)⟩, rfl⟩
  · rw [if_neg h]
    exact ⟨l, ⟨by omega, hb⟩, rfl⟩
/-- What both functions tell. -/
def quat (xs : List Int) : Bool := decide (xs.length = 4 ∧ ∀ x ∈ xs, -10000 ≤ x ∧ x ≤ 10000)
theorem quat_no {xs : List Int} {x : Int} (h : x ∈ xs) (hx : ¬ (-10000 ≤ x ∧ x ≤ 10000)) : quat xs = false := by
  unfold quat; exact decide_eq_false (fun k => hx (k.2 x h))
theorem quat_end {xs : List Int} {i : Nat} (hi : xs.length ≤ i) (h : ∀ j, j < i → j < xs.length → -10000 ≤ rd xs (j : Int) ∧ rd xs (j : Int) ≤ 10000) : ((xs.length : Int) == 4) = quat xs := by
  have ha : ∀ x ∈ xs, -10000 ≤ x ∧ x ≤ 10000 := by
    intro x hx
    obtain ⟨j, hj, rfl⟩ := List.getElem_of_mem hx
    have := h j (by omega) hj
    rwa [rd_at, List.getD_eq_getElem?_getD, List.getElem?_eq_getElem hj] at this
  unfold quat
  by_cases h4 : xs.length = 4
  · rw [decide_eq_true (show _ from ⟨h4, ha⟩), h4]; rfl
  · rw [decide_eq_false (fun k => h4 k.1)]; simp; omega
theorem sQuatValid_l (xs : List Int) (hn : xs.length ≤ 17592186044416) : ∀ (m i : Nat), i + m = xs.length → (∀ j, j < i → j < xs.length → -10000 ≤ rd xs (j : Int) ∧ rd xs (j : Int) ≤ 10000) →
    Ev (fun k => spec_QuatValid.l0 k xs (i : Int)) (quat xs) := by
  intro m
  induction m with
  | zero =>
    intro i h hj
    exact Ev.step (fun k => spec_QuatValid.l0.eq_2 _ _ k) (Ev.neg (by omega) (Ev.nows (quat_end (by omega) hj)))
  | succ m ih =>
    intro i h hj
    refine Ev.step (fun k => spec_QuatValid.l0.eq_2 _ _ k) (Ev.pos (by omega) (Ev.pos (by omega) (Ev.bind0 (in_eq _ _ _) ?_)))
    by_cases hx : -10000 ≤ rd xs (i : Int) ∧ rd xs (i : Int) ≤ 10000
    · refine Ev.pos (by simpa using hx) ?_
      rw [w64s (by omega)]
      refine ih (i + 1) (by omega) (fun j h1 h2 => ?_)
      rcases (by omega : j < i ∨ j = i) with h3 | rfl
      · exact hj j h3 h2
      · exact hx
    · exact Ev.neg (by simpa using hx) (Ev.nows (quat_no (rd_mem (by omega)) hx).symm)
theorem sQuatValid_ev (xs : List Int) (hn : xs.length ≤ 17592186044416) : Ev (fun k => spec_QuatValid.f k xs) (quat xs) := by
  unfold spec_QuatValid.f
  exact sQuatValid_l xs hn xs.length 0 (by omega) (by omega)
theorem iQuatValid_l (xs : List Int) (hn : xs.length ≤ 17592186044416) (hw : ∀ x ∈ xs, (Lit.int .i64 x).wf = true) : ∀ (m i : Nat), i + m = xs.length → (∀ j, j < i → j < xs.length → -10000 ≤ rd xs (j : Int) ∧ rd xs (j : Int) ≤ 10000) →
    Ev (fun k => impl_QuatValid.l0 k xs xs (xs.length : Int) (i : Int)) (quat xs) := by
  intro m
  induction m with
  | zero =>
    intro i h hj
    exact Ev.step (fun k => impl_QuatValid.l0.eq_2 _ _ _ _ k) (Ev.neg (by omega) (Ev.nows (quat_end (by omega) hj)))
  | succ m ih =>
    intro i h hj
    have h0 := wf_lo (hw _ (rd_mem (show i < xs.length by omega)))
    have h1 := wf_hi (hw _ (rd_mem (show i < xs.length by omega)))
    refine Ev.step (fun k => impl_QuatValid.l0.eq_2 _ _ _ _ k) (Ev.pos (by omega) (Ev.pos (by omega) (Ev.pos (by omega) (Ev.bind0 (show impl_size.f _ = _ from rfl) ?_))))
    have e : mx (rd xs (i : Int)) (wrap64 (-rd xs (i : Int))) > 10000 ∨ rd xs (i : Int) < -10000 ↔ ¬ (-10000 ≤ rd xs (i : Int) ∧ rd xs (i : Int) ≤ 10000) := by
      generalize rd xs (i : Int) = x at *
      unfold mx wrap64
      split <;> omega
    by_cases h2 : mx (rd xs (i : Int)) (wrap64 (-rd xs (i : Int))) > 10000
    · exact Ev.pos h2 (Ev.nows (quat_no (rd_mem (by omega)) (e.1 (.inl h2))).symm)
    · refine Ev.neg h2 ?_
      by_cases h3 : rd xs (i : Int) < -10000
      · exact Ev.pos h3 (Ev.nows (quat_no (rd_mem (by omega)) (e.1 (.inr h3))).symm)
      · refine Ev.neg h3 ?_
        rw [w64s (by omega)]
        refine ih (i + 1) (by omega) (fun j h5 h6 => ?_)
        rcases (by omega : j < i ∨ j = i) with h7 | rfl
        · exact hj j h7 h6
        · exact Decidable.byContradiction fun h8 => by rcases e.2 h8 with h9 | h9 <;> omega
theorem iQuatValid_ev (xs : List Int) (hn : xs.length ≤ 17592186044416) (hw : ∀ x ∈ xs, (Lit.int .i64 x).wf = true) : Ev (fun k => impl_QuatValid.f k xs) (quat xs) := by
  unfold impl_QuatValid.f
  exact iQuatValid_l xs hn hw xs.length 0 (by omega) (by omega)
/-- What both functions tell. -/
def conj (xs : List Int) : List Int × Bool := if quat xs = true then ([rd xs 0, wrap64 (-(rd xs 1)), wrap64 (-(rd xs 2)), wrap64 (-(rd xs 3))], true) else ([], false)
theorem quat_len {xs : List Int} (h : quat xs = true) : xs.length = 4 := by
  unfold quat at h; exact (of_decide_eq_true h).1
theorem sQuatConj_ev (xs : List Int) (hn : xs.length ≤ 17592186044416) : Ev (fun k => spec_QuatConj.f k xs) (conj xs) := by
  unfold spec_QuatConj.f
  refine Ev.bind (sQuatValid_ev xs hn) ?_
  by_cases h : quat xs = true
  · have := quat_len h
    exact Ev.pos h (Ev.pos (by omega) (Ev.pos (by omega) (Ev.pos (by omega) (Ev.pos (by omega) (Ev.nows (by unfold conj; rw [if_pos h]))))))
  · exact Ev.neg h (Ev.nows (by unfold conj; rw [if_neg h]))
theorem iQuatConj_ev (xs : List Int) (hn : xs.length ≤ 17592186044416) (hw : ∀ x ∈ xs, (Lit.int .i64 x).wf = true) : Ev (fun k => impl_QuatConj.f k xs) (conj xs) := by
  unfold impl_QuatConj.f
  refine Ev.bind (iQuatValid_ev xs hn hw) ?_
  by_cases h : quat xs = true
  · have := quat_len h
    exact Ev.pos h (Ev.pos (by omega) (Ev.pos (by omega) (Ev.pos (by omega) (Ev.pos (by omega) (Ev.nows (by unfold conj; rw [if_pos h]))))))
  · exact Ev.neg h (Ev.nows (by unfold conj; rw [if_neg h]))
theorem conj_len (xs : List Int) : (conj xs).1.length ≤ 4 := by
  unfold conj; split <;> simp
theorem sameInts_l (xs : List Int) (hn : xs.length ≤ 17592186044416) : ∀ (m i : Nat), i + m = xs.length → Ev (fun k => laws_sameInts.l0 k xs xs (i : Int)) true := by
  intro m
  induction m with
  | zero =>
    intro i h
    exact Ev.step (fun k => laws_sameInts.l0.eq_2 _ _ _ k) (Ev.neg (by omega) (Ev.now _))
  | succ m ih =>
    intro i h
    refine Ev.step (fun k => laws_sameInts.l0.eq_2 _ _ _ k) (Ev.pos (by omega) (Ev.pos (by omega) (Ev.pos (by omega) (Ev.pos rfl ?_))))
    rw [w64s (by omega)]
    exact ih (i + 1) (by omega)
theorem sameInts_ev (xs : List Int) (hn : xs.length ≤ 17592186044416) : Ev (fun k => laws_sameInts.f k xs xs) true := by
  unfold laws_sameInts.f
  exact Ev.pos rfl (sameInts_l xs hn xs.length 0 (by omega))
/-- What is drawn: at most four integers of a size up to 10001. -/
theorem l92Quat_l {s : List Int} (hs : IsCode s) : ∀ (m i : Nat) (q : List Int) (p : Nat), i + m = 4 → q.length = i → (∀ x ∈ q, -10001 ≤ x ∧ x ≤ 10001) → p ≤ 100 + i →
    ∃ q' : List Int, ∃ p' : Nat, q'.length ≤ 4 ∧ (∀ x ∈ q', -10001 ≤ x ∧ x ≤ 10001) ∧ Ev (fun k => spec_l92Quat.l0 k q (i : Int) s (p : Int)) (q', (p' : Int)) := by
  intro m
  induction m with
  | zero =>
    intro i q p h hl hq hp
    obtain ⟨a, a0, a1, ha⟩ := pick_ev' hs p 30 (by omega) (by omega)
    by_cases h0 : a = 0
    · obtain ⟨b, b0, b1, hb⟩ := pick_ev' hs (p + 1) 3 (by omega) (by omega)
      refine ⟨_, p + 2, ?_, ?_, Ev.step (fun k => spec_l92Quat.l0.eq_2 _ _ _ _ k) (Ev.neg (by omega) (Ev.bind ha (Ev.pos h0 (Ev.bind0 rfl (Ev.bind hb (Ev.pos b0 (Ev.pos b1 (Ev.pos (by omega) (Ev.now _)))))))))⟩
      · rw [List.length_set]; omega
      · intro x hx
        rcases List.mem_or_eq_of_mem_set hx with hx | rfl
        · exact hq x hx
        · rcases (by omega : b = 0 ∨ b = 1 ∨ b = 2) with rfl | rfl | rfl <;> simp [rd]
    · by_cases h1 : a = 1
      · exact ⟨q.drop 1, p + 1, by rw [List.length_drop]; omega, fun x hx => hq x (List.mem_of_mem_drop hx), Ev.step (fun k => spec_l92Quat.l0.eq_2 _ _ _ _ k) (Ev.neg (by omega) (Ev.bind ha (Ev.neg h0 (Ev.pos h1 (Ev.pos (by omega) (Ev.now _))))))⟩
      · exact ⟨q, p + 1, by omega, hq, Ev.step (fun k => spec_l92Quat.l0.eq_2 _ _ _ _ k) (Ev.neg (by omega) (Ev.bind ha (Ev.neg h0 (Ev.neg h1 (Ev.now _)))))⟩
  | succ m ih =>
    intro i q p h hl hq hp
    obtain ⟨a, a0, a1, ha⟩ := pick_ev' hs p 13 (by omega) (by omega)
    obtain ⟨q', p', h1, h2, h3⟩ := ih (i + 1) (q ++ [a - 6]) (p + 1) (by omega) (by simp [hl]) (by
      intro x hx
      rcases List.mem_append.1 hx with hx | hx
      · exact hq x hx
      · simp at hx; omega) (by omega)
    refine ⟨q', p', h1, h2, Ev.step (fun k => spec_l92Quat.l0.eq_2 _ _ _ _ k) (Ev.pos (by omega) (Ev.bind ha (Ev.pos (by omega) ?_)))⟩
    dsimp only
    rw [w64s (by omega), w64 (a := a - 6) (by omega) (by omega)]
    exact h3
theorem draw_ev {l : List Int} (hw : ∀ x ∈ l, (Lit.int .u8 x).wf = true) : ∃ q : List Int, q.length ≤ 4 ∧ (∀ x ∈ q, -10001 ≤ x ∧ x ≤ 10001) ∧ Ev (fun k => spec_DrawQuatConj.f k l) q := by
  obtain ⟨s, hs, ho⟩ := open_ev hw
  obtain ⟨q, p, h1, h2, h3⟩ := l92Quat_l hs 4 0 [] 0 (by omega) rfl (by simp) (by omega)
  refine ⟨q, h1, h2, ?_⟩
  unfold spec_DrawQuatConj.f spec_l92Quat.f
  exact Ev.bind0 ho (Ev.bind h3 (Ev.now _))
end FnConjFun
open FnConjFun
theorem FnConj : laws_FnConj.Pure := by
  intro l _ _ hw
  refine Ev.rounds (r := true) ?_
  unfold laws_FnConj.f
  by_cases hl : (l.length : Int) > 1048576
  · exact Ev.pos hl (Ev.now _)
  · obtain ⟨q, hq, hb, hd⟩ := draw_ev hw
    have hwf : ∀ (v : List Int), (∀ x ∈ v, -10001 ≤ x ∧ x ≤ 10001) → ∀ x ∈ v, (Lit.int .i64 x).wf = true := fun v hv x hx => by
      have := hv x hx
      simp [Lit.wf, IntKind.min, IntKind.max, IntKind.signed, IntKind.bits]; omega
    have hc := conj_len q
    refine Ev.neg hl (Ev.bind hd (Ev.bind (iQuatConj_ev q (by omega) (hwf q hb)) (Ev.bind (sQuatConj_ev q (by omega)) (Ev.neg (by simp) (Ev.bind (sameInts_ev _ (by omega)) (Ev.pos rfl ?_))))))
    refine Ev.step (fun k => laws_FnConj.j0.eq_2 _ _ _ _ _ _ k) ?_
    by_cases h : quat q = true
    · have h4 := quat_len h
      obtain ⟨a, b, c, d, rfl⟩ : ∃ a b c d, q = [a, b, c, d] := by
        match q, h4 with
        | [a, b, c, d], _ => exact ⟨a, b, c, d, rfl⟩
      have ha := hb a (by simp)
      have hb' := hb b (by simp)
      have hc' := hb c (by simp)
      have hd' := hb d (by simp)
      have e1 : conj [a, b, c, d] = ([a, -b, -c, -d], true) := by
        unfold conj
        rw [if_pos h]
        simp only [rd, List.getD]
        simp
        rw [w64 (a := -b) (by omega) (by omega), w64 (a := -c) (by omega) (by omega), w64 (a := -d) (by omega) (by omega)]
        simp
      have h' : quat [a, -b, -c, -d] = true := by
        have h5 := (of_decide_eq_true (show decide _ = true from h)).2
        have i1 := h5 a (by simp)
        have i2 := h5 b (by simp)
        have i3 := h5 c (by simp)
        have i4 := h5 d (by simp)
        unfold quat
        exact decide_eq_true ⟨rfl, by intro x hx; simp at hx; omega⟩
      have e2 : conj [a, -b, -c, -d] = ([a, b, c, d], true) := by
        unfold conj
        rw [if_pos h']
        simp only [rd, List.getD]
        simp
        rw [w64 (a := b) (by omega) (by omega), w64 (a := c) (by omega) (by omega), w64 (a := d) (by omega) (by omega)]
        simp
      have hx := iQuatConj_ev [a, -b, -c, -d] (by simp) (hwf _ (by intro x hx; simp at hx; omega))
      rw [e1]
      rw [e2] at hx
      have z : ∀ x : Int, wrap64 (-x + x) = 0 := fun x => by rw [show -x + x = 0 by omega]; exact w64 (by omega) (by omega)
      refine Ev.neg (by simp) (Ev.bind hx (Ev.pos rfl (Ev.bind (sameInts_ev _ (by simp)) (Ev.pos rfl (Ev.pos (by simp) (Ev.pos (by simp) (Ev.pos rfl (Ev.pos (by simp) (Ev.pos (by simp) (Ev.pos (z b) (Ev.pos (by simp) (Ev.pos (by simp) (Ev.pos (z c) (Ev.pos (by simp) (Ev.pos (by simp) (Ev.nows ?_))))))))))))))))
      exact beq_iff_eq.2 (z d)
    · have e : conj q = ([], false) := by unfold conj; rw [if_neg h]
      rw [e]
      exact Ev.pos rfl (Ev.pos rfl (Ev.bind (sameInts_ev [] (by simp)) (Ev.now _)))
end Go.Proofs.Ytpmhninmblgjoaa.Pure
