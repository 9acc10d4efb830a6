/- The law FnFindZero holds: a form of at most three terms has a zero exactly if it vanishes everywhere. For every list of bytes; no condition. -/
import Derived.Test.YtpjgcjkodmkemaaPFnFindZerox
import Derived.Test.YtpjgcjkodmkemaaFou
import Derived.Test.YtpjgcjkodmkemaaRun2
namespace Go.Proofs.Ytpjgcjkodmkemaa.Pure
open Go.RowKit Go.Proofs.Ytpjgcjkodmkemaa.PFnFindZero Go.Proofs.YtpjgcjkodmkemaaW.PrintWords Go.Proofs.YtpjgcjkodmkemaaW.PrintLast Go.Proofs.YtpjgcjkodmkemaaW.PrintMore Go.Proofs.Ytpjgcjkodmkemaa.Aid
namespace FnFindZeroFun
set_option linter.unusedVariables false
theorem in_eq (a b c : Int) : spec_l6In.f a b c = some (decide (b ≤ a ∧ a ≤ c)) := by
  unfold spec_l6In.f
  by_cases h : b ≤ a <;> simp [h]
theorem size_eq {x : Int} (h : -9223372036854775807 ≤ x) (h1 : x ≤ 9223372036854775807) : impl_size.f x = some (x.natAbs : Int) := by
  unfold impl_size.f; rw [mx_abs h h1]
theorem gcd_l1 (xs : List Int) (n i : Int) (r : Int) : ∀ (B b a : Nat), b ≤ B → Ev (fun k => impl_gcd.l0 k (Nat.gcd a b : Int) xs n (wrap64 (i + 1))) r → Ev (fun k => impl_gcd.l1 k (a : Int) (b : Int) xs n i) r := by
  intro B
  induction B with
  | zero =>
    intro b a h hr
    obtain rfl : b = 0 := by omega
    refine Ev.step (fun k => impl_gcd.l1.eq_2 _ _ _ _ _ k) (Ev.pos rfl ?_)
    simpa using hr
  | succ B ih =>
    intro b a h hr
    rcases Nat.eq_zero_or_pos b with rfl | hb
    · refine Ev.step (fun k => impl_gcd.l1.eq_2 _ _ _ _ _ k) (Ev.pos rfl ?_)
      simpa using hr
    · refine Ev.step (fun k => impl_gcd.l1.eq_2 _ _ _ _ _ k) (Ev.neg (by omega) ?_)
      have e : Int.tmod (a : Int) (b : Int) = ((a % b : Nat) : Int) := by rw [Int.tmod_eq_emod_of_nonneg (by omega)]; rfl
      rw [e]
      refine ih (a % b) b (by have := Nat.mod_lt a hb; omega) ?_
      rwa [show Nat.gcd b (a % b) = Nat.gcd a b by rw [Nat.gcd_comm a b, Nat.gcd_rec b a, Nat.gcd_comm]]
theorem gcd_l0 (xs : List Int) (hn : xs.length ≤ 17592186044416) (hb : ∀ x ∈ xs, -9223372036854775807 ≤ x ∧ x ≤ 9223372036854775807) : ∀ (m i g : Nat), i + m = xs.length → Ev (fun k => impl_gcd.l0 k (g : Int) xs (xs.length : Int) (i : Int)) (gcdL g (xs.drop i) : Int) := by
  intro m
  induction m with
  | zero =>
    intro i g h
    refine Ev.step (fun k => impl_gcd.l0.eq_2 _ _ _ _ k) (Ev.neg (by omega) (Ev.nows ?_))
    rw [List.drop_of_length_le (by omega)]; rfl
  | succ m ih =>
    intro i g h
    have hx := hb _ (rd_mem (show i < xs.length by omega))
    refine Ev.step (fun k => impl_gcd.l0.eq_2 _ _ _ _ k) (Ev.pos (by omega) (Ev.pos (by omega) (Ev.pos (by omega) (Ev.bind0 (size_eq hx.1 hx.2) ?_))))
    refine gcd_l1 _ _ _ _ _ _ _ (Nat.le_refl _) ?_
    rw [w64s (by omega), drop_rd (show i < xs.length by omega)]
    exact ih (i + 1) _ (by omega)
theorem gcd_ev (xs : List Int) (hn : xs.length ≤ 17592186044416) (hb : ∀ x ∈ xs, -9223372036854775807 ≤ x ∧ x ≤ 9223372036854775807) : Ev (fun k => impl_gcd.f k xs) (gcdL 0 xs : Int) := by
  unfold impl_gcd.f
  exact gcd_l0 xs hn hb xs.length 0 0 (by omega)
theorem fOk_no {form : List Int} {x : Int} (h : x ∈ form) (hx : ¬ (x ≠ 0 ∧ -30 ≤ x ∧ x ≤ 30)) : fOk form = false := by
  unfold fOk; exact decide_eq_false (fun k => hx (k.2.2 x h))
theorem fOk_end {xs : List Int} (h : ∀ j, j < xs.length → rd xs (j : Int) ≠ 0 ∧ -30 ≤ rd xs (j : Int) ∧ rd xs (j : Int) ≤ 30) : fOk xs = decide (1 ≤ xs.length ∧ xs.length ≤ 4) := by
  have ha : ∀ x ∈ xs, x ≠ 0 ∧ -30 ≤ x ∧ x ≤ 30 := by
    intro x hx
    obtain ⟨j, hj, rfl⟩ := List.getElem_of_mem hx
    have := h j hj
    rwa [rd_at, List.getD_eq_getElem?_getD, List.getElem?_eq_getElem hj] at this
  unfold fOk
  by_cases h4 : 1 ≤ xs.length ∧ xs.length ≤ 4
  · rw [decide_eq_true h4]; exact decide_eq_true ⟨h4.1, h4.2, ha⟩
  · rw [decide_eq_false h4]; exact decide_eq_false (fun k => h4 ⟨k.1, k.2.1⟩)
theorem iFormValid_l (xs : List Int) (ht : Tame xs) : ∀ (m i : Nat), i + m = xs.length → (∀ j, j < i → j < xs.length → rd xs (j : Int) ≠ 0 ∧ -30 ≤ rd xs (j : Int) ∧ rd xs (j : Int) ≤ 30) →
    Ev (fun k => impl_FormValid.l0 k xs xs (xs.length : Int) (i : Int)) (fOk xs) := by
  have hn := ht.1
  intro m
  induction m with
  | zero =>
    intro i h hj
    have e := fOk_end (xs := xs) (fun j hj1 => hj j (by omega) hj1)
    refine Ev.step (fun k => impl_FormValid.l0.eq_2 _ _ _ _ k) (Ev.neg (by omega) ?_)
    by_cases h1 : (xs.length : Int) ≥ 1
    · refine Ev.pos h1 (Ev.nows ?_)
      rw [e, decide_eq_decide]; omega
    · refine Ev.neg h1 (Ev.nows ?_)
      rw [e]; exact (decide_eq_false (by omega)).symm
  | succ m ih =>
    intro i h hj
    have hb := ht.2 _ (rd_mem (show i < xs.length by omega))
    refine Ev.step (fun k => impl_FormValid.l0.eq_2 _ _ _ _ k) (Ev.pos (by omega) (Ev.pos (by omega) (Ev.pos (by omega) ?_)))
    by_cases h1 : rd xs (i : Int) = 0
    · exact Ev.pos h1 (Ev.nows (fOk_no (rd_mem (by omega)) (fun k => k.1 h1)).symm)
    · refine Ev.neg h1 (Ev.bind0 (size_eq hb.1 hb.2) ?_)
      by_cases h2 : (((rd xs (i : Int)).natAbs : Nat) : Int) > 30
      · exact Ev.pos h2 (Ev.nows (fOk_no (rd_mem (show i < xs.length by omega)) (by omega)).symm)
      · refine Ev.neg h2 ?_
        rw [w64s (by omega)]
        refine ih (i + 1) (by omega) (fun j h5 h6 => ?_)
        rcases (by omega : j < i ∨ j = i) with h7 | rfl
        · exact hj j h7 h6
        · exact ⟨h1, by omega, by omega⟩
theorem iFormValid_ev (xs : List Int) (ht : Tame xs) : Ev (fun k => impl_FormValid.f k xs) (fOk xs) := by
  unfold impl_FormValid.f
  exact iFormValid_l xs ht xs.length 0 (by omega) (by omega)
theorem plain_l1 (v : List Int) (d : Int) (hd : d ≠ 0) (hn : v.length ≤ 1000000) (ht : ∀ x ∈ v, -9223372036854775807 ≤ x ∧ x ≤ 9223372036854775807) : ∀ (m i : Nat), i + m = v.length →
    Ev (fun k => impl_plain.l1 k d ((v.take i).map (fun x => Int.tdiv x d)) v (v.length : Int) (i : Int)) (v.map (fun x => Int.tdiv x d)) := by
  intro m
  induction m with
  | zero =>
    intro i h
    exact Ev.step (fun k => impl_plain.l1.eq_2 _ _ _ _ _ k) (Ev.neg (by omega) (Ev.nows (by rw [List.take_of_length_le (by omega)])))
  | succ m ih =>
    intro i h
    have hb := ht _ (rd_mem (show i < v.length by omega))
    have hq : (Int.tdiv (rd v (i : Int)) d).natAbs ≤ (rd v (i : Int)).natAbs := by rw [Int.natAbs_tdiv]; exact Nat.div_le_self _ _
    refine Ev.step (fun k => impl_plain.l1.eq_2 _ _ _ _ _ k) (Ev.pos (by omega) (Ev.pos (by omega) (Ev.pos (by omega) (Ev.neg hd (Ev.pos (by rw [List.length_map, List.length_take]; omega) ?_)))))
    rw [w64s (by omega), w64 (a := Int.tdiv (rd v (i : Int)) d) (by omega) (by omega)]
    have e : (v.take i).map (fun x => Int.tdiv x d) ++ [Int.tdiv (rd v (i : Int)) d] = (v.take (i + 1)).map (fun x => Int.tdiv x d) := by
      rw [List.take_succ_eq_append_getElem (show i < v.length by omega), List.map_append, rd_at, List.getD_eq_getElem?_getD, List.getElem?_eq_getElem (show i < v.length by omega)]; rfl
    rw [e]
    exact ih (i + 1) (by omega)
theorem plain_j1 (v : List Int) (d : Int) (hd : d ≠ 0) (ht : Tame v) : Ev (fun k => impl_plain.j1 k v d) (v.map (fun x => Int.tdiv x d)) := by
  refine Ev.step (fun k => impl_plain.j1.eq_2 _ _ k) ?_
  have h := plain_l1 v d hd (by have := ht.1; omega) ht.2 v.length 0 (by omega)
  simpa using h
theorem plain_l0 (v : List Int) (g : Nat) (hg : g ≠ 0) (hg1 : (g : Int) ≤ 9223372036854775807) (ht : Tame v) : ∀ (m i : Nat), i + m = v.length → (m = 0 → sgn1 v = 1) → sgn1 (v.drop i) = sgn1 v →
    Ev (fun k => impl_plain.l0 k v (g : Int) v (v.length : Int) (i : Int)) (v.map (fun x => Int.tdiv x (sgn1 v * g))) := by
  intro m
  have hn := ht.1
  induction m with
  | zero =>
    intro i h h1 _
    refine Ev.step (fun k => impl_plain.l0.eq_2 _ _ _ _ _ k) (Ev.neg (by omega) ?_)
    rw [h1 rfl, Int.one_mul]
    exact plain_j1 v g (by omega) ht
  | succ m ih =>
    intro i h _ h2
    refine Ev.step (fun k => impl_plain.l0.eq_2 _ _ _ _ _ k) (Ev.pos (by omega) (Ev.pos (by omega) (Ev.pos (by omega) ?_)))
    rw [drop_rd (show i < v.length by omega)] at h2
    by_cases hz : rd v (i : Int) = 0
    · refine Ev.pos hz ?_
      rw [w64s (by omega)]
      rw [sgn1, if_pos hz] at h2
      refine ih (i + 1) (by omega) (fun hm => ?_) h2
      rw [← h2, List.drop_of_length_le (by omega)]; rfl
    · refine Ev.neg hz ?_
      rw [sgn1, if_neg hz] at h2
      by_cases hneg : rd v (i : Int) < 0
      · rw [if_pos hneg] at h2
        refine Ev.pos hneg ?_
        rw [← h2, w64 (a := -(g : Int)) (by omega) (by omega), show (-1 : Int) * g = -g by omega]
        exact plain_j1 v (-g) (by omega) ht
      · rw [if_neg hneg] at h2
        refine Ev.neg hneg ?_
        rw [← h2, Int.one_mul]
        exact plain_j1 v g (by omega) ht
theorem gcdL_le {v : List Int} (ht : Tame v) (h : some0 v = true) : (gcdL 0 v : Int) ≤ 9223372036854775807 := by
  unfold some0 at h
  rw [List.any_eq_true] at h
  obtain ⟨x, hx, h0⟩ := h
  have h1 := Nat.le_of_dvd (by simp at h0; omega) ((gcdL_mono v 0).2 x hx)
  have := ht.2 x hx
  omega
theorem iPlain_ev (v : List Int) (ht : Tame v) (h : some0 v = true) : Ev (fun k => impl_plain.f k v) (plainL v) := by
  unfold impl_plain.f plainL
  refine Ev.bind (gcd_ev v (by have := ht.1; omega) ht.2) ?_
  refine plain_l0 v (gcdL 0 v) (fun h0 => by rw [gcdL_zero, h] at h0; cases h0) (gcdL_le ht h) ht v.length 0 (by omega) (fun h0 => ?_) rfl
  rw [List.eq_nil_of_length_eq_zero h0]; rfl
def chkCoreI : Bool := (List.range 900).all fun i => (Nat.ble 540 i || (decide (impl_coreOf.f 60 ((i + 1 : Nat) : Int) = some (coreT ((i + 1 : Nat) : Int))) && decide (impl_coreOf.f 60 (-((i + 1 : Nat) : Int)) = some (coreT (-((i + 1 : Nat) : Int)))))) &&
  (!(Nat.beq (rootN (i + 1) 29) 1) || (decide (impl_coreOf.f 60 ((i + 1 : Nat) : Int) = some (((i + 1 : Nat) : Int), 1)) && decide (impl_coreOf.f 60 (-((i + 1 : Nat) : Int)) = some (-((i + 1 : Nat) : Int), 1))))
theorem chkCoreI_true : chkCoreI = true := by decide +kernel
theorem iCoreT_ev {t : Int} (h0 : t ≠ 0) (h : -540 ≤ t ∧ t ≤ 540) : Ev (fun k => impl_coreOf.f k t) (coreT t) := by
  obtain ⟨n, hn⟩ : ∃ n, t.natAbs = n + 1 := ⟨t.natAbs - 1, by omega⟩
  have k := List.all_eq_true.1 chkCoreI_true n (List.mem_range.2 (by omega))
  simp only [Bool.and_eq_true, Bool.or_eq_true, Nat.ble_eq, decide_eq_true_eq] at k
  have k1 := k.1.resolve_left (by omega)
  refine Ev.of (k := 60) (fun k => impl_coreOf.mono t k) ?_
  rcases (by omega : t = ((n + 1 : Nat) : Int) ∨ t = -((n + 1 : Nat) : Int)) with rfl | rfl
  · exact k1.1
  · exact k1.2
theorem iCoreS_ev {s : Bool} {n : Nat} (h0 : 1 ≤ n) (h : n ≤ 900) (hr : rootN n 29 = 1) : Ev (fun k => impl_coreOf.f k (sx s n)) (sx s n, 1) := by
  obtain ⟨m, rfl⟩ : ∃ m, n = m + 1 := ⟨n - 1, by omega⟩
  have k := List.all_eq_true.1 chkCoreI_true m (List.mem_range.2 (by omega))
  simp only [Bool.and_eq_true, Bool.or_eq_true, Bool.not_eq_true', decide_eq_true_eq] at k
  have k1 := k.2.resolve_left (by rw [hr]; decide)
  refine Ev.of (k := 60) (fun k => impl_coreOf.mono _ k) ?_
  unfold sx; split
  · exact k1.2
  · exact k1.1
def chkPrimeI : Bool := (List.range 199).all fun i => match impl_primesOf.f 60 ((i + 2 : Nat) : Int) with
  | none => false
  | some ps => decide (0 < (ps.length : Int)) && decide (rd ps 0 = (lpf 200 2 (i + 2) : Int))
theorem chkPrimeI_true : chkPrimeI = true := by decide +kernel
theorem iPrimeHead_ev {d : Nat} (h : 2 ≤ d) (h1 : d ≤ 200) : ∃ ps : List Int, 0 < (ps.length : Int) ∧ rd ps 0 = (lpf 200 2 d : Int) ∧ Ev (fun k => impl_primesOf.f k (d : Int)) ps := by
  obtain ⟨m, rfl⟩ : ∃ m, d = m + 2 := ⟨d - 2, by omega⟩
  have k := List.all_eq_true.1 chkPrimeI_true m (List.mem_range.2 (by omega))
  cases e : impl_primesOf.f 60 ((m + 2 : Nat) : Int) with
  | none => rw [e] at k; cases k
  | some ps =>
    rw [e] at k
    simp only [Bool.and_eq_true, decide_eq_true_eq] at k
    exact ⟨ps, k.1, k.2, Ev.of (k := 60) (fun k => impl_primesOf.mono _ k) e⟩
def chkCoreS : Bool := (List.range 540).all fun i => decide (spec_l1Core.f 60 ((i + 1 : Nat) : Int) = some (coreT ((i + 1 : Nat) : Int))) && decide (spec_l1Core.f 60 (-((i + 1 : Nat) : Int)) = some (coreT (-((i + 1 : Nat) : Int))))
theorem chkCoreS_true : chkCoreS = true := by decide +kernel
theorem sCoreT_ev {t : Int} (h0 : t ≠ 0) (h : -540 ≤ t ∧ t ≤ 540) : Ev (fun k => spec_l1Core.f k t) (coreT t) := by
  obtain ⟨n, hn⟩ : ∃ n, t.natAbs = n + 1 := ⟨t.natAbs - 1, by omega⟩
  have k := List.all_eq_true.1 chkCoreS_true n (List.mem_range.2 (by omega))
  simp only [Bool.and_eq_true, decide_eq_true_eq] at k
  refine Ev.of (k := 60) (fun k => spec_l1Core.mono t k) ?_
  rcases (by omega : t = ((n + 1 : Nat) : Int) ∨ t = -((n + 1 : Nat) : Int)) with rfl | rfl
  · exact k.1
  · exact k.2
def chkPrimeS : Bool := (List.range 199).all fun i => match spec_l1Primes.f 60 ((i + 2 : Nat) : Int) with
  | none => false
  | some ps => decide (0 < (ps.length : Int)) && decide (rd ps 0 = (lpf 200 2 (i + 2) : Int))
theorem chkPrimeS_true : chkPrimeS = true := by decide +kernel
theorem sPrimeHead_ev {d : Nat} (h : 2 ≤ d) (h1 : d ≤ 200) : ∃ ps : List Int, 0 < (ps.length : Int) ∧ rd ps 0 = (lpf 200 2 d : Int) ∧ Ev (fun k => spec_l1Primes.f k (d : Int)) ps := by
  obtain ⟨m, rfl⟩ : ∃ m, d = m + 2 := ⟨d - 2, by omega⟩
  have k := List.all_eq_true.1 chkPrimeS_true m (List.mem_range.2 (by omega))
  cases e : spec_l1Primes.f 60 ((m + 2 : Nat) : Int) with
  | none => rw [e] at k; cases k
  | some ps =>
    rw [e] at k
    simp only [Bool.and_eq_true, decide_eq_true_eq] at k
    exact ⟨ps, k.1, k.2, Ev.of (k := 60) (fun k => spec_l1Primes.mono _ k) e⟩
theorem gcd2_ev {x y : Int} (hx : x.natAbs ≤ 30000) (hy : y.natAbs ≤ 30000) : Ev (fun k => impl_gcd.f k [x, y]) (Nat.gcd x.natAbs y.natAbs : Int) := by
  have h := gcd_ev [x, y] (by simp) (by intro z hz; simp at hz; omega)
  have e : gcdL 0 [x, y] = Nat.gcd x.natAbs y.natAbs := by unfold gcdL; simp
  rw [e] at h; exact h
theorem spG_hit {l : List Int} {i j : Int} {rest : Nat → Option (Int × Int × Int)} {a b : Nat} (h : Ev (fun k => impl_gcd.f k [rd l i, rd l j]) (Nat.gcd a b : Int)) (h1 : 1 < Nat.gcd a b) (h2 : Nat.gcd a b ≤ 200) :
    Ev (fun k => spG k l i j (rest k)) (i, j, (lpf 200 2 (Nat.gcd a b) : Int)) := by
  obtain ⟨ps, p1, p2, p3⟩ := iPrimeHead_ev (show 2 ≤ Nat.gcd a b by omega) h2
  unfold spG
  exact Ev.bind h (Ev.pos (by omega) (Ev.bind p3 (Ev.pos p1 (Ev.nows (by rw [p2])))))
theorem spG_miss {l : List Int} {i j : Int} {rest : Nat → Option (Int × Int × Int)} {r : Int × Int × Int} {a b : Nat} (h : Ev (fun k => impl_gcd.f k [rd l i, rd l j]) (Nat.gcd a b : Int)) (h1 : ¬ 1 < Nat.gcd a b) (h2 : Ev rest r) :
    Ev (fun k => spG k l i j (rest k)) r := by
  unfold spG
  exact Ev.bind h (Ev.neg (by omega) h2)
theorem iShared_ev {s t u : Bool} {X Y Z : Nat} (hX : X ≤ 30000) (hY : Y ≤ 30000) (hZ : Z ≤ 30000) :
    (1 < Nat.gcd X Y → Nat.gcd X Y ≤ 200 → Ev (fun k => impl_sharedPrime.f k [sx s X, sx t Y, sx u Z]) (0, 1, (lpf 200 2 (Nat.gcd X Y) : Int))) ∧
    (¬ 1 < Nat.gcd X Y → 1 < Nat.gcd X Z → Nat.gcd X Z ≤ 200 → Ev (fun k => impl_sharedPrime.f k [sx s X, sx t Y, sx u Z]) (0, 2, (lpf 200 2 (Nat.gcd X Z) : Int))) ∧
    (¬ 1 < Nat.gcd X Y → ¬ 1 < Nat.gcd X Z → 1 < Nat.gcd Y Z → Nat.gcd Y Z ≤ 200 → Ev (fun k => impl_sharedPrime.f k [sx s X, sx t Y, sx u Z]) (1, 2, (lpf 200 2 (Nat.gcd Y Z) : Int))) ∧
    (¬ 1 < Nat.gcd X Y → ¬ 1 < Nat.gcd X Z → ¬ 1 < Nat.gcd Y Z → Ev (fun k => impl_sharedPrime.f k [sx s X, sx t Y, sx u Z]) (0, 0, 0)) := by
  have g1 := gcd2_ev (x := sx s X) (y := sx t Y) (by rw [sx_abs]; exact hX) (by rw [sx_abs]; exact hY)
  have g2 := gcd2_ev (x := sx s X) (y := sx u Z) (by rw [sx_abs]; exact hX) (by rw [sx_abs]; exact hZ)
  have g3 := gcd2_ev (x := sx t Y) (y := sx u Z) (by rw [sx_abs]; exact hY) (by rw [sx_abs]; exact hZ)
  rw [sx_abs, sx_abs] at g1 g2 g3
  unfold impl_sharedPrime.f
  refine ⟨fun h h' => Ev.pos rfl ?_, fun h h' h'' => Ev.pos rfl ?_, fun h h' h'' h3 => Ev.pos rfl ?_, fun h h' h'' => Ev.pos rfl ?_⟩
  · exact spG_hit (rest := fun k => spC k [sx s X, sx t Y, sx u Z] 2) (i := 0) (j := 1) g1 h h'
  · exact spG_miss (rest := fun k => spC k [sx s X, sx t Y, sx u Z] 2) (i := 0) (j := 1) g1 h (spG_hit (rest := fun k => spC k [sx s X, sx t Y, sx u Z] 1) (i := 0) (j := 2) g2 h' h'')
  · exact spG_miss (rest := fun k => spC k [sx s X, sx t Y, sx u Z] 2) (i := 0) (j := 1) g1 h (spG_miss (rest := fun k => spC k [sx s X, sx t Y, sx u Z] 1) (i := 0) (j := 2) g2 h' (spG_hit (rest := fun k => spC k [sx s X, sx t Y, sx u Z] 0) (i := 1) (j := 2) g3 h'' h3))
  · exact spG_miss (rest := fun k => spC k [sx s X, sx t Y, sx u Z] 2) (i := 0) (j := 1) g1 h (spG_miss (rest := fun k => spC k [sx s X, sx t Y, sx u Z] 1) (i := 0) (j := 2) g2 h' (spG_miss (rest := fun k => spC k [sx s X, sx t Y, sx u Z] 0) (i := 1) (j := 2) g3 h'' (Ev.now _)))
theorem nat3le {X Y Z : Nat} (hX : X ≠ 0) (hY : Y ≠ 0) (hZ : Z ≠ 0) (h : X * (Y * Z) ≤ 30000) : X ≤ 30000 ∧ Y ≤ 30000 ∧ Z ≤ 30000 := by
  have m : ∀ a b : Nat, b ≠ 0 → a ≤ a * b := fun a b h => Nat.le_mul_of_pos_right a (by omega)
  have a := m X (Y * Z) (Nat.mul_ne_zero hY hZ)
  have b := m Y (X * Z) (Nat.mul_ne_zero hX hZ)
  have c := m Z (X * Y) (Nat.mul_ne_zero hX hY)
  have e1 : Y * (X * Z) = X * (Y * Z) := by ac_rfl
  have e2 : Z * (X * Y) = X * (Y * Z) := by ac_rfl
  omega
theorem iNormal_l {s t u : Bool} {m n o : Nat} (hm : m ≤ 1000) (hn : n ≤ 1000) (ho : o ≤ 1000) {X' Y' Z' a' b' c' : Nat} : ∀ (f X Y Z a b c : Nat), nrmN f X Y Z a b c = some (X', Y', Z', a', b', c') →
    Ev (fun k => impl_ZeroNormal.l1 k [sx s X, sx t Y, sx u Z] [((m * a : Nat) : Int), ((n * b : Nat) : Int), ((o * c : Nat) : Int)]) ([sx s X', sx t Y', sx u Z'], [((m * a' : Nat) : Int), ((n * b' : Nat) : Int), ((o * c' : Nat) : Int)], true)
  | 0, _, _, _, _, _, _, h => by cases h
  | f + 1, X, Y, Z, a, b, c, h => by
    unfold nrmN at h
    split at h
    · cases h
    rename_i hc
    simp only [not_or, Nat.not_lt] at hc
    obtain ⟨X0, Y0, Z0, hP, ha, hb, hcc⟩ := hc
    obtain ⟨bX, bY, bZ⟩ := nat3le X0 Y0 Z0 hP
    obtain ⟨S1, S2, S3, S4⟩ := iShared_ev (s := s) (t := t) (u := u) bX bY bZ
    refine Ev.step (fun k => impl_ZeroNormal.l1.eq_2 _ _ k) ?_
    have w3 : wrap64 (wrap64 (3 - 0) - 1) = 2 ∧ wrap64 (wrap64 (3 - 0) - 2) = 1 ∧ wrap64 (wrap64 (3 - 1) - 2) = 0 := by decide +kernel
    have bd : ∀ {s : Bool} {n : Nat}, n ≤ 30000 → -30000 ≤ sx s n ∧ sx s n ≤ 30000 := fun {s n} h => by unfold sx; split <;> omega
    have qd : ∀ {s : Bool} {n p : Nat}, n ≤ 30000 → wrap64 (Int.tdiv (sx s n) (p : Int)) = sx s (n / p) := by
      intro s n p h
      have := bd (s := s) (n := n / p) (Nat.le_trans (Nat.div_le_self _ _) h)
      rw [sx_tdiv]; exact w64 (by omega) (by omega)
    have md : ∀ {s : Bool} {n p : Nat}, n ≤ 30000 → p ≤ 30000 → wrap64 (sx s n * (p : Int)) = sx s (n * p) := by
      intro s n p h h1
      have := Nat.mul_le_mul h h1
      rw [sx_mul]; unfold sx; split <;> exact w64 (by omega) (by omega)
    have td : ∀ {n a p : Nat}, n ≤ 1000 → a ≤ 30 → p ≤ 30000 → wrap64 (((n * a : Nat) : Int) * (p : Int)) = ((n * (a * p) : Nat) : Int) := by
      intro n a p h h1 h2
      have k := Nat.mul_le_mul (Nat.mul_le_mul h h1) h2
      rw [show ((n * a : Nat) : Int) * (p : Int) = ((n * a * p : Nat) : Int) by push_cast; rfl, ← Nat.mul_assoc]
      exact w64 (by omega) (by omega)
    have ple : ∀ {n p : Nat}, n ≠ 0 → n ≤ 30000 → n % p = 0 → p ≤ 30000 := fun h h1 h2 => Nat.le_trans (Nat.le_of_dvd (by omega) (Nat.dvd_of_mod_eq_zero h2)) h1
    split at h
    · rename_i hg
      obtain ⟨p, hpe⟩ : ∃ p, lpf 200 2 (Nat.gcd X Y) = p := ⟨_, rfl⟩
      rw [hpe] at h S1
      simp only at h
      split at h
      rotate_left
      · cases h
      rename_i hp
      obtain ⟨d1, d2, p2, g2⟩ := hp
      have p3 := ple X0 bX d1
      refine Ev.bind (S1 hg g2) ?_
      dsimp only
      rw [w3.1]
      refine Ev.neg (by omega) (Ev.pos (by decide) (Ev.pos (by simp) (Ev.bind0 rfl (Ev.pos (by decide) (Ev.pos (by simp) (Ev.bind0 rfl (Ev.pos (by decide) (Ev.pos (by simp) ?_))))))))
      split at h
      · rename_i d3
        have k := iNormal_l hm hn ho (s := s) (t := t) (u := u) f _ _ _ _ _ _ h
        rw [← qd (s := s) (p := p) bX, ← qd (s := t) (p := p) bY, ← qd (s := u) (p := p) bZ] at k
        exact Ev.pos (show Int.tmod (sx u Z) (p : Int) = 0 from sx_tmod.2 d3) k
      · rename_i d3
        have k := iNormal_l hm hn ho (s := s) (t := t) (u := u) f _ _ _ _ _ _ h
        rw [← qd (s := s) (p := p) bX, ← qd (s := t) (p := p) bY, ← md (s := u) bZ p3, ← td ho hcc p3] at k
        exact Ev.neg (show ¬ Int.tmod (sx u Z) (p : Int) = 0 from fun e => d3 (sx_tmod.1 e)) (Ev.pos (by simp) k)
    rename_i n1
    split at h
    · rename_i hg
      obtain ⟨p, hpe⟩ : ∃ p, lpf 200 2 (Nat.gcd X Z) = p := ⟨_, rfl⟩
      rw [hpe] at h S2
      simp only at h
      split at h
      rotate_left
      · cases h
      rename_i hp
      obtain ⟨d1, d2, p2, g2⟩ := hp
      have p3 := ple X0 bX d1
      refine Ev.bind (S2 n1 hg g2) ?_
      dsimp only
      rw [w3.2.1]
      refine Ev.neg (by omega) (Ev.pos (by decide) (Ev.pos (by simp) (Ev.bind0 rfl (Ev.pos (by decide) (Ev.pos (by simp) (Ev.bind0 rfl (Ev.pos (by decide) (Ev.pos (by simp) ?_))))))))
      split at h
      · rename_i d3
        have k := iNormal_l hm hn ho (s := s) (t := t) (u := u) f _ _ _ _ _ _ h
        rw [← qd (s := s) (p := p) bX, ← qd (s := t) (p := p) bY, ← qd (s := u) (p := p) bZ] at k
        exact Ev.pos (show Int.tmod (sx t Y) (p : Int) = 0 from sx_tmod.2 d3) k
      · rename_i d3
        have k := iNormal_l hm hn ho (s := s) (t := t) (u := u) f _ _ _ _ _ _ h
        rw [← qd (s := s) (p := p) bX, ← qd (s := u) (p := p) bZ, ← md (s := t) bY p3, ← td hn hb p3] at k
        exact Ev.neg (show ¬ Int.tmod (sx t Y) (p : Int) = 0 from fun e => d3 (sx_tmod.1 e)) (Ev.pos (by simp) k)
    rename_i n2
    split at h
    · rename_i hg
      obtain ⟨p, hpe⟩ : ∃ p, lpf 200 2 (Nat.gcd Y Z) = p := ⟨_, rfl⟩
      rw [hpe] at h S3
      simp only at h
      split at h
      rotate_left
      · cases h
      rename_i hp
      obtain ⟨d1, d2, p2, g2⟩ := hp
      have p3 := ple Y0 bY d1
      refine Ev.bind (S3 n1 n2 hg g2) ?_
      dsimp only
      rw [w3.2.2]
      refine Ev.neg (by omega) (Ev.pos (by decide) (Ev.pos (by simp) (Ev.bind0 rfl (Ev.pos (by decide) (Ev.pos (by simp) (Ev.bind0 rfl (Ev.pos (by decide) (Ev.pos (by simp) ?_))))))))
      split at h
      · rename_i d3
        have k := iNormal_l hm hn ho (s := s) (t := t) (u := u) f _ _ _ _ _ _ h
        rw [← qd (s := s) (p := p) bX, ← qd (s := t) (p := p) bY, ← qd (s := u) (p := p) bZ] at k
        exact Ev.pos (show Int.tmod (sx s X) (p : Int) = 0 from sx_tmod.2 d3) k
      · rename_i d3
        have k := iNormal_l hm hn ho (s := s) (t := t) (u := u) f _ _ _ _ _ _ h
        rw [← qd (s := t) (p := p) bY, ← qd (s := u) (p := p) bZ, ← md (s := s) bX p3, ← td hm ha p3] at k
        exact Ev.neg (show ¬ Int.tmod (sx s X) (p : Int) = 0 from fun e => d3 (sx_tmod.1 e)) (Ev.pos (by simp) k)
    rename_i n3
    obtain ⟨rfl, rfl, rfl, rfl, rfl, rfl⟩ : X = X' ∧ Y = Y' ∧ Z = Z' ∧ a = a' ∧ b = b' ∧ c = c' := by simpa using h
    exact Ev.bind (S4 n1 n2 n3) (Ev.pos rfl (Ev.now _))
theorem l1Size_eq {x : Int} (h : -9223372036854775807 ≤ x) (h1 : x ≤ 9223372036854775807) : spec_l1Size.f x = some (x.natAbs : Int) := by
  unfold spec_l1Size.f; rw [mx_abs h h1]
theorem l1Gcd_l : ∀ (B b a : Nat), b ≤ B → Ev (fun k => spec_l1Gcd.l0 k (a : Int) (b : Int)) (Nat.gcd a b : Int) := by
  intro B
  induction B with
  | zero =>
    intro b a h
    obtain rfl : b = 0 := by omega
    exact Ev.step (fun k => spec_l1Gcd.l0.eq_2 _ _ k) (Ev.pos rfl (Ev.nows (by simp)))
  | succ B ih =>
    intro b a h
    rcases Nat.eq_zero_or_pos b with rfl | hb
    · exact Ev.step (fun k => spec_l1Gcd.l0.eq_2 _ _ k) (Ev.pos rfl (Ev.nows (by simp)))
    · refine Ev.step (fun k => spec_l1Gcd.l0.eq_2 _ _ k) (Ev.neg (by omega) ?_)
      have e : Int.tmod (a : Int) (b : Int) = ((a % b : Nat) : Int) := by rw [Int.tmod_eq_emod_of_nonneg (by omega)]; rfl
      rw [e]
      refine Ev.to (ih (a % b) b (by have := Nat.mod_lt a hb; omega)) ?_
      rw [show Nat.gcd b (a % b) = Nat.gcd a b by rw [Nat.gcd_comm a b, Nat.gcd_rec b a, Nat.gcd_comm]]
theorem l1Gcd_ev {a b : Int} (ha : -9223372036854775807 ≤ a) (ha1 : a ≤ 9223372036854775807) (hb : -9223372036854775807 ≤ b) (hb1 : b ≤ 9223372036854775807) : Ev (fun k => spec_l1Gcd.f k a b) (Nat.gcd a.natAbs b.natAbs : Int) := by
  unfold spec_l1Gcd.f
  exact Ev.bind0 (l1Size_eq ha ha1) (Ev.bind0 (l1Size_eq hb hb1) (l1Gcd_l _ _ _ (Nat.le_refl _)))
theorem sTwo_ev {s t u : Bool} {X Y Z : Nat} (hX : X ≤ 30000) (hY : Y ≤ 30000) (hZ : Z ≤ 30000) :
    (1 < Nat.gcd X Y → Nat.gcd X Y ≤ 200 → Ev (fun k => spec_l5Two.f k [sx s X, sx t Y, sx u Z]) ((lpf 200 2 (Nat.gcd X Y) : Int), 2)) ∧
    (¬ 1 < Nat.gcd X Y → 1 < Nat.gcd X Z → Nat.gcd X Z ≤ 200 → Ev (fun k => spec_l5Two.f k [sx s X, sx t Y, sx u Z]) ((lpf 200 2 (Nat.gcd X Z) : Int), 1)) ∧
    (¬ 1 < Nat.gcd X Y → ¬ 1 < Nat.gcd X Z → 1 < Nat.gcd Y Z → Nat.gcd Y Z ≤ 200 → Ev (fun k => spec_l5Two.f k [sx s X, sx t Y, sx u Z]) ((lpf 200 2 (Nat.gcd Y Z) : Int), 0)) ∧
    (¬ 1 < Nat.gcd X Y → ¬ 1 < Nat.gcd X Z → ¬ 1 < Nat.gcd Y Z → Ev (fun k => spec_l5Two.f k [sx s X, sx t Y, sx u Z]) (1, 0)) := by
  have bd : ∀ {s : Bool} {n : Nat}, n ≤ 30000 → -30000 ≤ sx s n ∧ sx s n ≤ 30000 := fun {s n} h => by unfold sx; split <;> omega
  have b1 := bd (s := s) hX; have b2 := bd (s := t) hY; have b3 := bd (s := u) hZ
  have g1 := l1Gcd_ev (a := sx s X) (b := sx t Y) (by omega) (by omega) (by omega) (by omega)
  have g2 := l1Gcd_ev (a := sx u Z) (b := sx s X) (by omega) (by omega) (by omega) (by omega)
  have g3 := l1Gcd_ev (a := sx t Y) (b := sx u Z) (by omega) (by omega) (by omega) (by omega)
  rw [sx_abs, sx_abs] at g1 g2 g3
  rw [Nat.gcd_comm Z X] at g2
  have m2 : Int.tmod (wrap64 (2 + 1)) 3 = 0 ∧ Int.tmod (wrap64 (2 + 2)) 3 = 1 ∧ wrap64 (2 - 1) = 1 := by decide +kernel
  have m1 : Int.tmod (wrap64 (1 + 1)) 3 = 2 ∧ Int.tmod (wrap64 (1 + 2)) 3 = 0 ∧ wrap64 (1 - 1) = 0 := by decide +kernel
  have m0 : Int.tmod (wrap64 (0 + 1)) 3 = 1 ∧ Int.tmod (wrap64 (0 + 2)) 3 = 2 ∧ wrap64 (0 - 1) = -1 := by decide +kernel
  have s2 : ∀ {R : Int × Int}, Ev (fun k => (spec_l1Gcd.f k (rd [sx s X, sx t Y, sx u Z] 0) (rd [sx s X, sx t Y, sx u Z] 1)).bind fun t394 => (if t394 > 1 then ((spec_l1Primes.f k t394).bind fun t395 => (if 0 < (t395.length : Int) then (some (rd t395 0, 2)) else (none))) else (spec_l5Two.l0 k [sx s X, sx t Y, sx u Z] 1))) R → Ev (fun k => spec_l5Two.f k [sx s X, sx t Y, sx u Z]) R := by
    intro R h
    unfold spec_l5Two.f
    refine Ev.step (fun k => spec_l5Two.l0.eq_2 _ _ k) ?_
    rw [m2.1, m2.2.1, m2.2.2]
    exact Ev.pos (by omega) (Ev.pos (by decide) (Ev.pos (by simp) (Ev.pos (by decide) (Ev.pos (by simp) h))))
  have s1 : ∀ {R : Int × Int}, Ev (fun k => (spec_l1Gcd.f k (rd [sx s X, sx t Y, sx u Z] 2) (rd [sx s X, sx t Y, sx u Z] 0)).bind fun t394 => (if t394 > 1 then ((spec_l1Primes.f k t394).bind fun t395 => (if 0 < (t395.length : Int) then (some (rd t395 0, 1)) else (none))) else (spec_l5Two.l0 k [sx s X, sx t Y, sx u Z] 0))) R → Ev (fun k => spec_l5Two.l0 k [sx s X, sx t Y, sx u Z] 1) R := by
    intro R h
    refine Ev.step (fun k => spec_l5Two.l0.eq_2 _ _ k) ?_
    rw [m1.1, m1.2.1, m1.2.2]
    exact Ev.pos (by omega) (Ev.pos (by decide) (Ev.pos (by simp) (Ev.pos (by decide) (Ev.pos (by simp) h))))
  have s0 : ∀ {R : Int × Int}, Ev (fun k => (spec_l1Gcd.f k (rd [sx s X, sx t Y, sx u Z] 1) (rd [sx s X, sx t Y, sx u Z] 2)).bind fun t394 => (if t394 > 1 then ((spec_l1Primes.f k t394).bind fun t395 => (if 0 < (t395.length : Int) then (some (rd t395 0, 0)) else (none))) else (spec_l5Two.l0 k [sx s X, sx t Y, sx u Z] (-1)))) R → Ev (fun k => spec_l5Two.l0 k [sx s X, sx t Y, sx u Z] 0) R := by
    intro R h
    refine Ev.step (fun k => spec_l5Two.l0.eq_2 _ _ k) ?_
    rw [m0.1, m0.2.1, m0.2.2]
    exact Ev.pos (by omega) (Ev.pos (by decide) (Ev.pos (by simp) (Ev.pos (by decide) (Ev.pos (by simp) h))))
  have hit : ∀ {a b : Nat} {i : Int} {f : Nat → Option Int} {g : Nat → Option (Int × Int)}, Ev f (Nat.gcd a b : Int) → 1 < Nat.gcd a b → Nat.gcd a b ≤ 200 →
      Ev (fun k => (f k).bind fun t394 => (if t394 > 1 then ((spec_l1Primes.f k t394).bind fun t395 => (if 0 < (t395.length : Int) then (some (rd t395 0, i)) else (none))) else (g k))) ((lpf 200 2 (Nat.gcd a b) : Int), i) := by
    intro a b i f g h h1 h2
    obtain ⟨ps, p1, p2, p3⟩ := sPrimeHead_ev (show 2 ≤ Nat.gcd a b by omega) h2
    exact Ev.bind h (Ev.pos (by omega) (Ev.bind p3 (Ev.pos p1 (Ev.nows (by rw [p2])))))
  have miss : ∀ {a b : Nat} {i : Int} {f : Nat → Option Int} {g : Nat → Option (Int × Int)} {R : Int × Int}, Ev f (Nat.gcd a b : Int) → ¬ 1 < Nat.gcd a b → Ev g R →
      Ev (fun k => (f k).bind fun t394 => (if t394 > 1 then ((spec_l1Primes.f k t394).bind fun t395 => (if 0 < (t395.length : Int) then (some (rd t395 0, i)) else (none))) else (g k))) R := by
    intro a b i f g R h h1 h2
    exact Ev.bind h (Ev.neg (by omega) h2)
  refine ⟨fun h h' => s2 (hit g1 h h'), fun h h' h'' => s2 (miss g1 h (s1 (hit g2 h' h''))), fun h h' h'' h3 => s2 (miss g1 h (s1 (miss g2 h' (s0 (hit g3 h'' h3))))), fun h h' h'' => s2 (miss g1 h (s1 (miss g2 h' (s0 (miss g3 h'' ?_)))))⟩
  exact Ev.step (fun k => spec_l5Two.l0.eq_2 _ _ k) (Ev.neg (by omega) (Ev.now _))
theorem sNormal_l {s t u : Bool} {m n o : Nat} (hm : m ≤ 1000) (hn : n ≤ 1000) (ho : o ≤ 1000) {X' Y' Z' a' b' c' : Nat} : ∀ (f X Y Z a b c : Nat), nrmN f X Y Z a b c = some (X', Y', Z', a', b', c') →
    Ev (fun k => (spec_l5Two.f k [sx s X, sx t Y, sx u Z]).bind fun bt => spec_l5Normal.l1 k [sx s X, sx t Y, sx u Z] [((m * a : Nat) : Int), ((n * b : Nat) : Int), ((o * c : Nat) : Int)] bt.1 bt.2) ([sx s X', sx t Y', sx u Z'], [((m * a' : Nat) : Int), ((n * b' : Nat) : Int), ((o * c' : Nat) : Int)])
  | 0, _, _, _, _, _, _, h => by cases h
  | f + 1, X, Y, Z, a, b, c, h => by
    unfold nrmN at h
    split at h
    · cases h
    rename_i hc
    simp only [not_or, Nat.not_lt] at hc
    obtain ⟨X0, Y0, Z0, hP, ha, hb, hcc⟩ := hc
    obtain ⟨bX, bY, bZ⟩ := nat3le X0 Y0 Z0 hP
    obtain ⟨S1, S2, S3, S4⟩ := sTwo_ev (s := s) (t := t) (u := u) bX bY bZ
    have m2 : Int.tmod (wrap64 (2 + 1)) 3 = 0 ∧ Int.tmod (wrap64 (2 + 2)) 3 = 1 := by decide +kernel
    have m1 : Int.tmod (wrap64 (1 + 1)) 3 = 2 ∧ Int.tmod (wrap64 (1 + 2)) 3 = 0 := by decide +kernel
    have m0 : Int.tmod (wrap64 (0 + 1)) 3 = 1 ∧ Int.tmod (wrap64 (0 + 2)) 3 = 2 := by decide +kernel
    have bd : ∀ {s : Bool} {n : Nat}, n ≤ 30000 → -30000 ≤ sx s n ∧ sx s n ≤ 30000 := fun {s n} h => by unfold sx; split <;> omega
    have qd : ∀ {s : Bool} {n p : Nat}, n ≤ 30000 → wrap64 (Int.tdiv (sx s n) (p : Int)) = sx s (n / p) := by
      intro s n p h
      have := bd (s := s) (n := n / p) (Nat.le_trans (Nat.div_le_self _ _) h)
      rw [sx_tdiv]; exact w64 (by omega) (by omega)
    have md : ∀ {s : Bool} {n p : Nat}, n ≤ 30000 → p ≤ 30000 → wrap64 (sx s n * (p : Int)) = sx s (n * p) := by
      intro s n p h h1
      have := Nat.mul_le_mul h h1
      rw [sx_mul]; unfold sx; split <;> exact w64 (by omega) (by omega)
    have td : ∀ {n a p : Nat}, n ≤ 1000 → a ≤ 30 → p ≤ 30000 → wrap64 (((n * a : Nat) : Int) * (p : Int)) = ((n * (a * p) : Nat) : Int) := by
      intro n a p h h1 h2
      have k := Nat.mul_le_mul (Nat.mul_le_mul h h1) h2
      rw [show ((n * a : Nat) : Int) * (p : Int) = ((n * a * p : Nat) : Int) by push_cast; rfl, ← Nat.mul_assoc]
      exact w64 (by omega) (by omega)
    have ple : ∀ {n p : Nat}, n ≠ 0 → n ≤ 30000 → n % p = 0 → p ≤ 30000 := fun h h1 h2 => Nat.le_trans (Nat.le_of_dvd (by omega) (Nat.dvd_of_mod_eq_zero h2)) h1
    split at h
    · rename_i hg
      obtain ⟨p, hpe⟩ : ∃ p, lpf 200 2 (Nat.gcd X Y) = p := ⟨_, rfl⟩
      rw [hpe] at h S1
      simp only at h
      split at h
      rotate_left
      · cases h
      rename_i hp
      obtain ⟨d1, d2, p2, g2⟩ := hp
      have p3 := ple X0 bX d1
      refine Ev.bind (S1 hg g2) ?_
      dsimp only
      refine Ev.step (fun k => spec_l5Normal.l1.eq_2 _ _ _ _ k) ?_
      rw [m2.1, m2.2]
      refine Ev.pos (by omega) (Ev.pos (by decide) (Ev.pos (by simp) (Ev.neg (by omega) (Ev.bind0 rfl (Ev.pos (by decide) (Ev.pos (by simp) (Ev.bind0 rfl (Ev.pos (by decide) (Ev.pos (by simp) ?_)))))))))
      split at h
      · rename_i d3
        have k := sNormal_l hm hn ho (s := s) (t := t) (u := u) f _ _ _ _ _ _ h
        rw [← qd (s := s) (p := p) bX, ← qd (s := t) (p := p) bY, ← qd (s := u) (p := p) bZ] at k
        exact Ev.pos (show Int.tmod (sx u Z) (p : Int) = 0 from sx_tmod.2 d3) (Ev.bind0 rfl k)
      · rename_i d3
        have k := sNormal_l hm hn ho (s := s) (t := t) (u := u) f _ _ _ _ _ _ h
        rw [← qd (s := s) (p := p) bX, ← qd (s := t) (p := p) bY, ← md (s := u) bZ p3, ← td ho hcc p3] at k
        exact Ev.neg (show ¬ Int.tmod (sx u Z) (p : Int) = 0 from fun e => d3 (sx_tmod.1 e)) (Ev.bind0 rfl (Ev.pos (by simp) k))
    rename_i n1
    split at h
    · rename_i hg
      obtain ⟨p, hpe⟩ : ∃ p, lpf 200 2 (Nat.gcd X Z) = p := ⟨_, rfl⟩
      rw [hpe] at h S2
      simp only at h
      split at h
      rotate_left
      · cases h
      rename_i hp
      obtain ⟨d1, d2, p2, g2⟩ := hp
      have p3 := ple X0 bX d1
      refine Ev.bind (S2 n1 hg g2) ?_
      dsimp only
      refine Ev.step (fun k => spec_l5Normal.l1.eq_2 _ _ _ _ k) ?_
      rw [m1.1, m1.2]
      refine Ev.pos (by omega) (Ev.pos (by decide) (Ev.pos (by simp) (Ev.neg (by omega) (Ev.bind0 rfl (Ev.pos (by decide) (Ev.pos (by simp) (Ev.bind0 rfl (Ev.pos (by decide) (Ev.pos (by simp) ?_)))))))))
      split at h
      · rename_i d3
        have k := sNormal_l hm hn ho (s := s) (t := t) (u := u) f _ _ _ _ _ _ h
        rw [← qd (s := s) (p := p) bX, ← qd (s := t) (p := p) bY, ← qd (s := u) (p := p) bZ] at k
        exact Ev.pos (show Int.tmod (sx t Y) (p : Int) = 0 from sx_tmod.2 d3) (Ev.bind0 rfl k)
      · rename_i d3
        have k := sNormal_l hm hn ho (s := s) (t := t) (u := u) f _ _ _ _ _ _ h
        rw [← qd (s := s) (p := p) bX, ← qd (s := u) (p := p) bZ, ← md (s := t) bY p3, ← td hn hb p3] at k
        exact Ev.neg (show ¬ Int.tmod (sx t Y) (p : Int) = 0 from fun e => d3 (sx_tmod.1 e)) (Ev.bind0 rfl (Ev.pos (by simp) k))
    rename_i n2
    split at h
    · rename_i hg
      obtain ⟨p, hpe⟩ : ∃ p, lpf 200 2 (Nat.gcd Y Z) = p := ⟨_, rfl⟩
      rw [hpe] at h S3
      simp only at h
      split at h
      rotate_left
      · cases h
      rename_i hp
      obtain ⟨d1, d2, p2, g2⟩ := hp
      have p3 := ple Y0 bY d1
      refine Ev.bind (S3 n1 n2 hg g2) ?_
      dsimp only
      refine Ev.step (fun k => spec_l5Normal.l1.eq_2 _ _ _ _ k) ?_
      rw [m0.1, m0.2]
      refine Ev.pos (by omega) (Ev.pos (by decide) (Ev.pos (by simp) (Ev.neg (by omega) (Ev.bind0 rfl (Ev.pos (by decide) (Ev.pos (by simp) (Ev.bind0 rfl (Ev.pos (by decide) (Ev.pos (by simp) ?_)))))))))
      split at h
      · rename_i d3
        have k := sNormal_l hm hn ho (s := s) (t := t) (u := u) f _ _ _ _ _ _ h
        rw [← qd (s := s) (p := p) bX, ← qd (s := t) (p := p) bY, ← qd (s := u) (p := p) bZ] at k
        exact Ev.pos (show Int.tmod (sx s X) (p : Int) = 0 from sx_tmod.2 d3) (Ev.bind0 rfl k)
      · rename_i d3
        have k := sNormal_l hm hn ho (s := s) (t := t) (u := u) f _ _ _ _ _ _ h
        rw [← qd (s := t) (p := p) bY, ← qd (s := u) (p := p) bZ, ← md (s := s) bX p3, ← td hm ha p3] at k
        exact Ev.neg (show ¬ Int.tmod (sx s X) (p : Int) = 0 from fun e => d3 (sx_tmod.1 e)) (Ev.bind0 rfl (Ev.pos (by simp) k))
    rename_i n3
    obtain ⟨rfl, rfl, rfl, rfl, rfl, rfl⟩ : X = X' ∧ Y = Y' ∧ Z = Z' ∧ a = a' ∧ b = b' ∧ c = c' := by simpa using h
    exact Ev.bind (S4 n1 n2 n3) (Ev.step (fun k => spec_l5Normal.l1.eq_2 _ _ _ _ k) (Ev.neg (by omega) (Ev.now _)))
theorem sNormal_ev {t0 t1 t2 : Int} (h : ∀ t ∈ [t0, t1, t2], t ≠ 0 ∧ -30 ≤ t ∧ t ≤ 30) {X Y Z x y z : Nat} (N : Nrm (coreN t0) (coreN t1) (coreN t2) X Y Z x y z) :
    Ev (fun k => spec_l5Normal.f k [t0, t1, t2]) ([sx (decide (t0 < 0)) X, sx (decide (t1 < 0)) Y, sx (decide (t2 < 0)) Z], [((rootT t1 * rootT t2 * x : Nat) : Int), ((rootT t0 * rootT t2 * y : Nat) : Int), ((rootT t0 * rootT t1 * z : Nat) : Int)]) := by
  have b0 := h t0 (by simp); have b1 := h t1 (by simp); have b2 := h t2 (by simp)
  have rb : ∀ {t : Int}, t ≠ 0 → -30 ≤ t ∧ t ≤ 30 → rootT t ≤ 30 := by
    intro t h0 h1
    obtain ⟨c1, c2, c3, c4, _⟩ := core_is h0 (by omega)
    have a := Nat.mul_le_mul_right (rootT t * rootT t) c3
    have b := Nat.mul_le_mul_left (rootT t) c2
    omega
  have r0 := rb b0.1 b0.2; have r1 := rb b1.1 b1.2; have r2 := rb b2.1 b2.2
  unfold spec_l5Normal.f
  have m0 : Int.tmod (wrap64 (0 + 1)) 3 = 1 ∧ Int.tmod (wrap64 (0 + 2)) 3 = 2 ∧ wrap64 (0 + 1) = 1 := by decide +kernel
  have m1 : Int.tmod (wrap64 (1 + 1)) 3 = 2 ∧ Int.tmod (wrap64 (1 + 2)) 3 = 0 ∧ wrap64 (1 + 1) = 2 := by decide +kernel
  have m2 : Int.tmod (wrap64 (2 + 1)) 3 = 0 ∧ Int.tmod (wrap64 (2 + 2)) 3 = 1 ∧ wrap64 (2 + 1) = 3 := by decide +kernel
  have p1 : ∀ {a : Nat}, a ≤ 30 → wrap64 (1 * (a : Int)) = (a : Int) := fun h => by rw [Int.one_mul]; exact w64 (by omega) (by omega)
  have p2 : ∀ {a b : Nat}, a ≤ 30 → b ≤ 30 → wrap64 ((a : Int) * (b : Int)) = ((a * b : Nat) : Int) := fun {a b} h h' => by
    have := Nat.mul_le_mul h h'
    rw [← Int.natCast_mul]; exact w64 (by omega) (by omega)
  have fin := sNormal_l (s := decide (t0 < 0)) (t := decide (t1 < 0)) (u := decide (t2 < 0)) (m := rootT t1 * rootT t2) (n := rootT t0 * rootT t2) (o := rootT t0 * rootT t1)
    (Nat.le_trans (Nat.mul_le_mul r1 r2) (by decide)) (Nat.le_trans (Nat.mul_le_mul r0 r2) (by decide)) (Nat.le_trans (Nat.mul_le_mul r0 r1) (by decide)) 6 _ _ _ _ _ _ N.at_
  simp only [Nat.mul_one] at fin
  rw [← p2 r1 r2, ← p2 r0 r2, ← p2 r0 r1] at fin
  refine Ev.step (fun k => spec_l5Normal.l0.eq_2 _ _ _ _ k) ?_
  rw [m0.1, m0.2.1, m0.2.2]
  refine Ev.pos (by decide) (Ev.pos (by decide) (Ev.pos (by simp) (Ev.bind (show Ev (fun k => spec_l1Core.f k (rd [t0, t1, t2] 0)) (coreT t0) from sCoreT_ev (t := t0) b0.1 (by omega)) (Ev.pos (by simp) (Ev.pos (by decide) (Ev.pos (by simp) (Ev.bind0 rfl (Ev.pos (by decide) (Ev.pos (by simp) ?_)))))))))
  show Ev (fun k => spec_l5Normal.l0 k [t0, t1, t2] [(coreT t0).1] [1, wrap64 (1 * (rootT t0 : Int)), wrap64 (1 * (rootT t0 : Int))] 1) _
  rw [p1 r0]
  refine Ev.step (fun k => spec_l5Normal.l0.eq_2 _ _ _ _ k) ?_
  rw [m1.1, m1.2.1, m1.2.2]
  refine Ev.pos (by decide) (Ev.pos (by decide) (Ev.pos (by simp) (Ev.bind (show Ev (fun k => spec_l1Core.f k (rd [t0, t1, t2] 1)) (coreT t1) from sCoreT_ev (t := t1) b1.1 (by omega)) (Ev.pos (by simp) (Ev.pos (by decide) (Ev.pos (by simp) (Ev.bind0 rfl (Ev.pos (by decide) (Ev.pos (by simp) ?_)))))))))
  show Ev (fun k => spec_l5Normal.l0 k [t0, t1, t2] [(coreT t0).1, (coreT t1).1] [wrap64 (1 * (rootT t1 : Int)), (rootT t0 : Int), wrap64 ((rootT t0 : Int) * (rootT t1 : Int))] 2) _
  rw [p1 r1]
  refine Ev.step (fun k => spec_l5Normal.l0.eq_2 _ _ _ _ k) ?_
  rw [m2.1, m2.2.1, m2.2.2]
  refine Ev.pos (by decide) (Ev.pos (by decide) (Ev.pos (by simp) (Ev.bind (show Ev (fun k => spec_l1Core.f k (rd [t0, t1, t2] 2)) (coreT t2) from sCoreT_ev (t := t2) b2.1 (by omega)) (Ev.pos (by simp) (Ev.pos (by decide) (Ev.pos (by simp) (Ev.bind0 rfl (Ev.pos (by decide) (Ev.pos (by simp) ?_)))))))))
  show Ev (fun k => spec_l5Normal.l0 k [t0, t1, t2] [(coreT t0).1, (coreT t1).1, (coreT t2).1] [wrap64 ((rootT t1 : Int) * (rootT t2 : Int)), wrap64 ((rootT t0 : Int) * (rootT t2 : Int)), wrap64 ((rootT t0 : Int) * (rootT t1 : Int))] 3) _
  exact Ev.step (fun k => spec_l5Normal.l0.eq_2 _ _ _ _ k) (Ev.neg (by decide) fin)
theorem iNormal_ev {t0 t1 t2 : Int} (h : ∀ t ∈ [t0, t1, t2], t ≠ 0 ∧ -30 ≤ t ∧ t ≤ 30) {X Y Z x y z : Nat} (N : Nrm (coreN t0) (coreN t1) (coreN t2) X Y Z x y z) :
    Ev (fun k => impl_ZeroNormal.f k [t0, t1, t2]) ([sx (decide (t0 < 0)) X, sx (decide (t1 < 0)) Y, sx (decide (t2 < 0)) Z], [((rootT t1 * rootT t2 * x : Nat) : Int), ((rootT t0 * rootT t2 * y : Nat) : Int), ((rootT t0 * rootT t1 * z : Nat) : Int)], true) := by
  have b0 := h t0 (by simp); have b1 := h t1 (by simp); have b2 := h t2 (by simp)
  have rb : ∀ {t : Int}, t ≠ 0 → -30 ≤ t ∧ t ≤ 30 → rootT t ≤ 30 := by
    intro t h0 h1
    obtain ⟨c1, c2, c3, c4, _⟩ := core_is h0 (by omega)
    have a := Nat.mul_le_mul_right (rootT t * rootT t) c3
    have b := Nat.mul_le_mul_left (rootT t) c2
    omega
  have r0 := rb b0.1 b0.2; have r1 := rb b1.1 b1.2; have r2 := rb b2.1 b2.2
  have fk : fOk [t0, t1, t2] = true := by unfold fOk; exact decide_eq_true ⟨by simp, by simp, h⟩
  have ht : Tame [t0, t1, t2] := ⟨by simp, fun x hx => by have := h x hx; omega⟩
  unfold impl_ZeroNormal.f
  refine Ev.bind (iFormValid_ev _ ht) (Ev.pos fk (Ev.step (fun k => impl_ZeroNormal.j0.eq_2 _ _ k) (Ev.neg (by simp) (Ev.bind0 (show slices_Clone_int_int.f [t0, t1, t2] = some [t0, t1, t2] from if_pos (by simp)) ?_))))
  have m0 : Int.tmod (wrap64 (0 + 1)) 3 = 1 ∧ Int.tmod (wrap64 (0 + 2)) 3 = 2 ∧ wrap64 (0 + 1) = 1 := by decide +kernel
  have m1 : Int.tmod (wrap64 (1 + 1)) 3 = 2 ∧ Int.tmod (wrap64 (1 + 2)) 3 = 0 ∧ wrap64 (1 + 1) = 2 := by decide +kernel
  have m2 : Int.tmod (wrap64 (2 + 1)) 3 = 0 ∧ Int.tmod (wrap64 (2 + 2)) 3 = 1 ∧ wrap64 (2 + 1) = 3 := by decide +kernel
  have p1 : ∀ {a : Nat}, a ≤ 30 → wrap64 (1 * (a : Int)) = (a : Int) := fun h => by rw [Int.one_mul]; exact w64 (by omega) (by omega)
  have p2 : ∀ {a b : Nat}, a ≤ 30 → b ≤ 30 → wrap64 ((a : Int) * (b : Int)) = ((a * b : Nat) : Int) := fun {a b} h h' => by
    have := Nat.mul_le_mul h h'
    rw [← Int.natCast_mul]; exact w64 (by omega) (by omega)
  have fin := iNormal_l (s := decide (t0 < 0)) (t := decide (t1 < 0)) (u := decide (t2 < 0)) (m := rootT t1 * rootT t2) (n := rootT t0 * rootT t2) (o := rootT t0 * rootT t1)
    (Nat.le_trans (Nat.mul_le_mul r1 r2) (by decide)) (Nat.le_trans (Nat.mul_le_mul r0 r2) (by decide)) (Nat.le_trans (Nat.mul_le_mul r0 r1) (by decide)) 6 _ _ _ _ _ _ N.at_
  simp only [Nat.mul_one] at fin
  rw [← p2 r1 r2, ← p2 r0 r2, ← p2 r0 r1] at fin
  refine Ev.step (fun k => impl_ZeroNormal.l0.eq_2 _ _ _ _ _ k) ?_
  rw [m0.1, m0.2.1, m0.2.2]
  refine Ev.pos (by simp) (Ev.pos (by decide) (Ev.pos (by simp) (Ev.bind (show Ev (fun k => impl_coreOf.f k (rd [t0, t1, t2] 0)) (coreT t0) from iCoreT_ev (t := t0) b0.1 (by omega)) (Ev.pos (by simp) (Ev.pos (by decide) (Ev.pos (by simp) (Ev.bind0 rfl (Ev.pos (by decide) (Ev.pos (by simp) ?_)))))))))
  show Ev (fun k => impl_ZeroNormal.l0 k [(coreT t0).1, t1, t2] [1, wrap64 (1 * (rootT t0 : Int)), wrap64 (1 * (rootT t0 : Int))] [t0, t1, t2] (([t0, t1, t2] : List Int).length : Int) 1) _
  rw [p1 r0]
  refine Ev.step (fun k => impl_ZeroNormal.l0.eq_2 _ _ _ _ _ k) ?_
  rw [m1.1, m1.2.1, m1.2.2]
  refine Ev.pos (by simp) (Ev.pos (by decide) (Ev.pos (by simp) (Ev.bind (show Ev (fun k => impl_coreOf.f k (rd [t0, t1, t2] 1)) (coreT t1) from iCoreT_ev (t := t1) b1.1 (by omega)) (Ev.pos (by simp) (Ev.pos (by decide) (Ev.pos (by simp) (Ev.bind0 rfl (Ev.pos (by decide) (Ev.pos (by simp) ?_)))))))))
  show Ev (fun k => impl_ZeroNormal.l0 k [(coreT t0).1, (coreT t1).1, t2] [wrap64 (1 * (rootT t1 : Int)), (rootT t0 : Int), wrap64 ((rootT t0 : Int) * (rootT t1 : Int))] [t0, t1, t2] (([t0, t1, t2] : List Int).length : Int) 2) _
  rw [p1 r1]
  refine Ev.step (fun k => impl_ZeroNormal.l0.eq_2 _ _ _ _ _ k) ?_
  rw [m2.1, m2.2.1, m2.2.2]
  refine Ev.pos (by simp) (Ev.pos (by decide) (Ev.pos (by simp) (Ev.bind (show Ev (fun k => impl_coreOf.f k (rd [t0, t1, t2] 2)) (coreT t2) from iCoreT_ev (t := t2) b2.1 (by omega)) (Ev.pos (by simp) (Ev.pos (by decide) (Ev.pos (by simp) (Ev.bind0 rfl (Ev.pos (by decide) (Ev.pos (by simp) ?_)))))))))
  show Ev (fun k => impl_ZeroNormal.l0 k [(coreT t0).1, (coreT t1).1, (coreT t2).1] [wrap64 ((rootT t1 : Int) * (rootT t2 : Int)), wrap64 ((rootT t0 : Int) * (rootT t2 : Int)), wrap64 ((rootT t0 : Int) * (rootT t1 : Int))] [t0, t1, t2] (([t0, t1, t2] : List Int).length : Int) 3) _
  exact Ev.step (fun k => impl_ZeroNormal.l0.eq_2 _ _ _ _ _ k) (Ev.neg (by simp) fin)
theorem iRoot_l (n : Int) (hn : n ≤ 89999) : ∀ (j : Nat) (k : Int), j ≤ 30 → 0 ≤ k → k * k ≤ n → n < (k + 2 * 2 ^ j) * (k + 2 * 2 ^ j) →
    ∃ r : Int, 0 ≤ r ∧ r * r ≤ n ∧ n < (r + 1) * (r + 1) ∧ Ev (fun f => impl_squareRoot.l0 f n k (2 ^ j)) (r, r * r == n) := by
  have lim : ∀ {k : Int}, 0 ≤ k → k * k ≤ n → k ≤ 299 := by
    intro k h0 h1
    rcases (by omega : k ≤ 299 ∨ 300 ≤ k) with h | h
    · exact h
    · have := Int.mul_le_mul h h (by omega) h0; omega
  have fin : ∀ {k : Int}, 0 ≤ k → k * k ≤ n → n < (k + 1) * (k + 1) → ∃ r : Int, 0 ≤ r ∧ r * r ≤ n ∧ n < (r + 1) * (r + 1) ∧ Ev (fun f => impl_squareRoot.l0 f n k 0) (r, r * r == n) := by
    intro k h0 h1 h2
    have := lim h0 h1
    refine ⟨k, h0, h1, h2, Ev.step (fun f => impl_squareRoot.l0.eq_2 _ _ _ f) (Ev.neg (by omega) (Ev.nows ?_))⟩
    have b := Int.mul_le_mul this this h0 (show (0 : Int) ≤ 299 by omega)
    have b0 := Int.mul_nonneg h0 h0
    rw [w64 (a := k * k) (by omega) (by omega)]
  have pw : ∀ {j : Nat}, j ≤ 30 → (1 : Int) ≤ 2 ^ j ∧ (2 : Int) ^ j ≤ 1073741824 := by
    intro j h
    have a : (2 : Nat) ^ j ≤ 2 ^ 30 := Nat.pow_le_pow_right (by decide) h
    have b : 1 ≤ (2 : Nat) ^ j := Nat.one_le_two_pow
    have e : ((2 ^ j : Nat) : Int) = (2 : Int) ^ j := by push_cast; rfl
    have : (2 : Nat) ^ 30 = 1073741824 := by decide
    omega
  have sqb : ∀ {a : Int}, 0 ≤ a → a ≤ 1073742123 → wrap64 (a * a) = a * a := by
    intro a h0 h1
    have b := Int.mul_le_mul h1 h1 h0 (show (0 : Int) ≤ 1073742123 by omega)
    have b0 := Int.mul_nonneg h0 h0
    exact w64 (by omega) (by omega)
  intro j
  induction j with
  | zero =>
    intro k _ h0 h1 h2
    have hk := lim h0 h1
    have e0 : wrap64 (Int.tdiv ((2 : Int) ^ 0) 2) = 0 := by decide +kernel
    refine (?_ : ∃ r : Int, _ ∧ _ ∧ _ ∧ _)
    have e1 : wrap64 (k + 2 ^ 0) = k + 1 := by rw [w64 (by omega) (by omega)]; omega
    by_cases c : (k + 1) * (k + 1) ≤ n
    · obtain ⟨r, r0, r1, r2, r3⟩ := fin (k := k + 1) (by omega) c (by
        have : k + 2 * 2 ^ 0 = k + 1 + 1 := by omega
        rw [this] at h2; exact h2)
      refine ⟨r, r0, r1, r2, Ev.step (fun f => impl_squareRoot.l0.eq_2 _ _ _ f) (Ev.pos (by decide) (Ev.pos ?_ ?_))⟩
      · rw [e1, sqb (by omega) (by omega)]; exact c
      · rw [e1, e0]; exact r3
    · obtain ⟨r, r0, r1, r2, r3⟩ := fin h0 h1 (by omega)
      refine ⟨r, r0, r1, r2, Ev.step (fun f => impl_squareRoot.l0.eq_2 _ _ _ f) (Ev.pos (by decide) (Ev.neg ?_ ?_))⟩
      · rw [e1, sqb (by omega) (by omega)]; exact c
      · rw [e0]; exact r3
  | succ j ih =>
    intro k hj h0 h1 h2
    have hk := lim h0 h1
    obtain ⟨p1, p2⟩ := pw hj
    have ep : (2 : Int) ^ (j + 1) = 2 * 2 ^ j := by rw [Int.pow_succ]; omega
    obtain ⟨q1, q2⟩ := pw (show j ≤ 30 by omega)
    have e0 : wrap64 (Int.tdiv ((2 : Int) ^ (j + 1)) 2) = 2 ^ j := by
      rw [ep, Int.mul_tdiv_cancel_left _ (by decide)]; exact w64 (by omega) (by omega)
    have e1 : wrap64 (k + 2 ^ (j + 1)) = k + 2 ^ (j + 1) := w64 (by omega) (by omega)
    by_cases c : (k + 2 ^ (j + 1)) * (k + 2 ^ (j + 1)) ≤ n
    · obtain ⟨r, r0, r1, r2, r3⟩ := ih (k + 2 ^ (j + 1)) (by omega) (by omega) c (by
        have : k + 2 * 2 ^ (j + 1) = k + 2 ^ (j + 1) + 2 * 2 ^ j := by omega
        rw [this] at h2; exact h2)
      refine ⟨r, r0, r1, r2, Ev.step (fun f => impl_squareRoot.l0.eq_2 _ _ _ f) (Ev.pos (by omega) (Ev.pos ?_ ?_))⟩
      · rw [e1, sqb (by omega) (by omega)]; exact c
      · rw [e1, e0]; exact r3
    · obtain ⟨r, r0, r1, r2, r3⟩ := ih k (by omega) h0 h1 (by rw [← ep]; omega)
      refine ⟨r, r0, r1, r2, Ev.step (fun f => impl_squareRoot.l0.eq_2 _ _ _ f) (Ev.pos (by omega) (Ev.neg ?_ ?_))⟩
      · rw [e1, sqb (by omega) (by omega)]; exact c
      · rw [e0]; exact r3
theorem iRoot_ev (n : Int) (hn : n ≤ 89999) : (∃ r : Nat, sq n = some r ∧ Ev (fun f => impl_squareRoot.f f n) ((r : Int), true)) ∨ (sq n = none ∧ ∃ r : Int, Ev (fun f => impl_squareRoot.f f n) (r, false)) := by
  unfold impl_squareRoot.f
  by_cases h : n < 0
  · refine .inr ⟨?_, 0, Ev.pos h (Ev.now _)⟩
    cases e : sq n with
    | none => rfl
    | some r => have := (sq_some e).1; have := Int.mul_nonneg (show (0 : Int) ≤ r by omega) (show (0 : Int) ≤ r by omega); omega
  · obtain ⟨r, r0, r1, r2, r3⟩ := iRoot_l n hn 30 0 (by omega) (by omega) (by omega) (by
      have : ((0 : Int) + 2 * 2 ^ 30) * (0 + 2 * 2 ^ 30) = 4611686018427387904 := by decide
      omega)
    have r3 : Ev (fun f => impl_squareRoot.l0 f n 0 1073741824) (r, r * r == n) := r3
    have rl : r < 300 := by
      rcases (by omega : r < 300 ∨ 300 ≤ r) with h | h
      · exact h
      · have := Int.mul_le_mul h h (by omega) r0; omega
    by_cases e : r * r = n
    · refine .inl ⟨r.toNat, ?_, Ev.neg h ?_⟩
      · have := sq_mul (r := r.toNat) (by omega)
        rw [Int.toNat_of_nonneg r0, e] at this; exact this
      · rw [Int.toNat_of_nonneg r0]
        rw [show (r * r == n) = true from beq_iff_eq.2 e] at r3; exact r3
    · refine .inr ⟨?_, r, Ev.neg h (by rw [show (r * r == n) = false from beq_eq_false_iff_ne.2 e] at r3; exact r3)⟩
      cases e' : sq n with
      | none => rfl
      | some s =>
        have h1 := (sq_some e').1
        rcases (by omega : (s : Int) < r ∨ (s : Int) = r ∨ r + 1 ≤ s) with k | k | k
        · have k1 := Int.mul_le_mul (show (s : Int) + 1 ≤ r by omega) (show (s : Int) + 1 ≤ r by omega) (by omega) r0
          have k2 : ((s : Int) + 1) * (s + 1) = s * s + 2 * s + 1 := by grind
          omega
        · rw [k] at h1; exact absurd h1 e
        · have := Int.mul_le_mul k k (by omega) (by omega); omega
def foundL : Option (Int × Int × Int) → List Int × Bool
  | some (x, y, z) => ([x, y, z], true)
  | none => ([], false)
theorem sq_bd3 {x M : Int} (h0 : 0 ≤ x) (h1 : x ≤ M) : 0 ≤ x * x ∧ x * x ≤ M * M := ⟨Int.mul_nonneg h0 h0, Int.mul_le_mul h1 h1 h0 (by omega)⟩
theorem iSearch_l {a b c : Int} (a0 : a ≠ 0) (b0 : b ≠ 0) (c0 : c ≠ 0) (hP : a.natAbs * (b.natAbs * c.natAbs) ≤ 30000) : ∀ (m : Nat) (x : Int), 0 ≤ x → x + m = 180 →
    Ev (fun k => impl_ZeroSearch.l1 k a b c x) (foundL (searchX a b c m x)) := by
  have A := Nat.pos_of_ne_zero (Int.natAbs_ne_zero.2 a0)
  have B := Nat.pos_of_ne_zero (Int.natAbs_ne_zero.2 b0)
  have C := Nat.pos_of_ne_zero (Int.natAbs_ne_zero.2 c0)
  have n3 := nat3le (X := a.natAbs) (Y := b.natAbs) (Z := c.natAbs) (by omega) (by omega) (by omega) hP
  obtain ⟨hbc, hac⟩ := prod_ab hP a0 b0
  have ebc : wrap64 (b * c) = b * c := w64 (by omega) (by omega)
  have eac : wrap64 (a * c) = a * c := w64 (by omega) (by omega)
  have zbc : impl_size.f (b * c) = some ((b * c).natAbs : Int) := size_eq (by omega) (by omega)
  have zac : impl_size.f (a * c) = some ((a * c).natAbs : Int) := size_eq (by omega) (by omega)
  intro m
  induction m with
  | zero =>
    intro x x0 hx
    obtain rfl : x = 180 := by omega
    refine Ev.step (fun k => impl_ZeroSearch.l1.eq_2 _ _ _ _ k) (Ev.bind0 (by rw [ebc]; exact zbc) (Ev.neg ?_ (Ev.now _)))
    rw [show wrap64 ((180 : Int) * 180) = 32400 by decide +kernel]; omega
  | succ m ih =>
    intro x x0 hx
    have hxx := sq_bd3 x0 (show x ≤ 180 by omega)
    refine Ev.step (fun k => impl_ZeroSearch.l1.eq_2 _ _ _ _ k) (Ev.bind0 (by rw [ebc]; exact zbc) ?_)
    rw [w64 (a := x * x) (by omega) (by omega)]
    unfold searchX
    by_cases hb : x * x ≤ ((b * c).natAbs : Int)
    rotate_left
    · rw [if_neg hb]; exact Ev.neg hb (Ev.now _)
    rw [if_pos hb]
    refine Ev.pos hb ?_
    have next := ih (x + 1) (by omega) (by omega)
    have inner : ∀ (m' : Nat) (y : Int), 0 ≤ y → y + m' = 180 → Ev (fun k => impl_ZeroSearch.l2 k a b c x y) (foundL (match searchY a b c x m' y with | some r => some r | none => searchX a b c m (x + 1))) := by
      intro m'
      induction m' with
      | zero =>
        intro y y0 hy
        obtain rfl : y = 180 := by omega
        refine Ev.step (fun k => impl_ZeroSearch.l2.eq_2 _ _ _ _ _ k) (Ev.bind0 (by rw [eac]; exact zac) (Ev.neg ?_ ?_))
        · rw [show wrap64 ((180 : Int) * 180) = 32400 by decide +kernel]; omega
        · rw [w64 (a := x + 1) (by omega) (by omega)]; exact next
      | succ m' ihy =>
        intro y y0 hy
        have hyy := sq_bd3 y0 (show y ≤ 180 by omega)
        have again := ihy (y + 1) (by omega) (by omega)
        refine Ev.step (fun k => impl_ZeroSearch.l2.eq_2 _ _ _ _ _ k) (Ev.bind0 (by rw [eac]; exact zac) ?_)
        rw [w64 (a := y * y) (by omega) (by omega)]
        unfold searchY
        by_cases hc : y * y ≤ ((a * c).natAbs : Int)
        rotate_left
        · rw [if_neg hc]
          refine Ev.neg hc ?_
          rw [w64 (a := x + 1) (by omega) (by omega)]; exact next
        rw [if_pos hc]
        refine Ev.pos hc (Ev.neg c0 ?_)
        rw [w64 (a := y + 1) (by omega) (by omega)]
        have bx := mul2_bd (a := a) (b := x) (A := 30000) (B := 180) (by omega) (by omega)
        have bxx := mul2_bd (a := a) (b := x * x) (A := 30000) (B := 32400) (by omega) (by omega)
        have by_ := mul2_bd (a := b) (b := y) (A := 30000) (B := 180) (by omega) (by omega)
        have byy := mul2_bd (a := b) (b := y * y) (A := 30000) (B := 32400) (by omega) (by omega)
        have e1 : -a * x = -(a * x) := Int.neg_mul ..
        have e2 : -a * x * x = -(a * (x * x)) := by rw [e1, Int.neg_mul, Int.mul_assoc]
        have e3 : b * y * y = b * (y * y) := Int.mul_assoc ..
        have en : wrap64 ((wrap64 ((wrap64 ((wrap64 (-a)) * x)) * x)) - (wrap64 ((wrap64 (b * y)) * y))) = -a * x * x - b * y * y := by
          rw [w64 (a := -a) (by omega) (by omega), w64 (a := -a * x) (by omega) (by omega), w64 (a := -a * x * x) (by omega) (by omega), w64 (a := b * y) (by omega) (by omega), w64 (a := b * y * y) (by omega) (by omega)]
          exact w64 (by omega) (by omega)
        rw [en]
        have nb : (Int.tdiv (-a * x * x - b * y * y) c).natAbs ≤ 60000 := by
          have k1 : (a * (x * x)).natAbs ≤ 30000 := by
            have h1 : a.natAbs * (x * x).natAbs ≤ a.natAbs * (b * c).natAbs := Nat.mul_le_mul_left _ (by omega)
            rw [Int.natAbs_mul, Int.natAbs_mul] at *
            omega
          have k2 : (b * (y * y)).natAbs ≤ 30000 := by
            have h1 : b.natAbs * (y * y).natAbs ≤ b.natAbs * (a * c).natAbs := Nat.mul_le_mul_left _ (by omega)
            have h2 : b.natAbs * (a * c).natAbs = a.natAbs * (b.natAbs * c.natAbs) := by rw [Int.natAbs_mul]; ac_rfl
            rw [Int.natAbs_mul]; omega
          have := tdiv_mag (-a * x * x - b * y * y) c
          omega
        have ed : wrap64 (Int.tdiv (-a * x * x - b * y * y) c) = Int.tdiv (-a * x * x - b * y * y) c := w64 (by omega) (by omega)
        rw [ed]
        unfold hitF
        by_cases hm : Int.tmod (-a * x * x - b * y * y) c = 0
        · refine Ev.pos hm ?_
          by_cases hz : x = 0 ∧ y = 0
          · rw [if_pos hz]
            obtain ⟨rfl, rfl⟩ := hz
            have e0 : Int.tdiv (-a * 0 * 0 - b * 0 * 0) c = 0 := by simp
            rw [e0]
            rcases iRoot_ev 0 (by omega) with ⟨r, r1, r2⟩ | ⟨r1, _⟩
            · obtain rfl : r = 0 := by have := sq_mul (r := 0) (by omega); rw [show ((0 : Nat) : Int) * ((0 : Nat) : Int) = 0 by rfl] at this; rw [r1] at this; exact Option.some.inj this
              exact Ev.bind r2 (Ev.pos rfl (Ev.pos rfl (Ev.pos rfl (Ev.pos rfl again))))
            · have := sq_mul (r := 0) (by omega); rw [show ((0 : Nat) : Int) * ((0 : Nat) : Int) = 0 by rfl] at this; rw [this] at r1; cases r1
          · rw [if_neg hz, if_pos hm]
            rcases iRoot_ev (Int.tdiv (-a * x * x - b * y * y) c) (by omega) with ⟨r, r1, r2⟩ | ⟨r1, r, r2⟩
            · rw [r1]
              refine Ev.bind r2 (Ev.pos rfl ?_)
              by_cases hx : x = 0
              · exact Ev.pos hx (Ev.neg (fun h => hz ⟨hx, h⟩) (Ev.now _))
              · exact Ev.neg hx (Ev.now _)
            · rw [r1]
              exact Ev.bind r2 (Ev.neg (by simp) again)
        · refine Ev.neg hm ?_
          rw [if_neg hm]
          rw [ite_self]
          exact again
    have := inner 180 0 (by omega) (by omega)
    exact this
theorem iSearch_ev {s t u : Bool} {X Y Z : Nat} (h1 : 1 ≤ X ∧ 1 ≤ Y ∧ 1 ≤ Z) (hP : X * (Y * Z) ≤ 30000) (hb : X ≤ 900 ∧ Y ≤ 900 ∧ Z ≤ 900) (hg : Nat.gcd X Y = 1 ∧ Nat.gcd X Z = 1 ∧ Nat.gcd Y Z = 1) (hr : rootN X 29 = 1 ∧ rootN Y 29 = 1 ∧ rootN Z 29 = 1) :
    Ev (fun k => impl_ZeroSearch.f k [sx s X, sx t Y, sx u Z]) (foundL (searchF (sx s X) (sx t Y) (sx u Z))) := by
  obtain ⟨X1, Y1, Z1⟩ := h1
  have bd : ∀ {s : Bool} {n : Nat}, n ≤ 30000 → -30000 ≤ sx s n ∧ sx s n ≤ 30000 := fun {s n} h => by unfold sx; split <;> omega
  have sz : ∀ {s : Bool} {n : Nat}, n ≤ 30000 → impl_size.f (sx s n) = some (n : Int) := fun {s n} h => by
    have b := bd (s := s) h
    rw [size_eq (by omega) (by omega), sx_abs]
  have S := iShared_ev (s := s) (t := t) (u := u) (X := X) (Y := Y) (Z := Z) (by omega) (by omega) (by omega)
  have SL := iSearch_l (a := sx s X) (b := sx t Y) (c := sx u Z) (sx_ne X1) (sx_ne Y1) (sx_ne Z1) (by rw [sx_abs, sx_abs, sx_abs]; exact hP) 180 0 (by omega) (by omega)
  have one : ∀ {s' : Bool} {n : Nat} {i : Nat} {R : List Int × Bool}, 1 ≤ n → n ≤ 900 → rootN n 29 = 1 → i < 3 → rd [sx s X, sx t Y, sx u Z] (i : Int) = sx s' n → Ev (fun k => impl_ZeroSearch.l0 k [sx s X, sx t Y, sx u Z] [sx s X, sx t Y, sx u Z] 3 ((i + 1 : Nat) : Int)) R →
      Ev (fun k => impl_ZeroSearch.l0 k [sx s X, sx t Y, sx u Z] [sx s X, sx t Y, sx u Z] 3 (i : Int)) R := by
    intro s' n i R hn1 hn hr hi e h
    refine Ev.step (fun k => impl_ZeroSearch.l0.eq_2 _ _ _ _ k) ?_
    rw [e]
    refine Ev.pos (by omega) (Ev.pos (by omega) (Ev.pos (by simp; omega) (Ev.neg (sx_ne hn1) (Ev.bind0 (sz (by omega)) (Ev.step (fun k => impl_ZeroSearch.j1.eq_2 _ _ _ _ _ _ k) (Ev.neg (by simp; omega) (Ev.bind (iCoreS_ev hn1 hn hr) (Ev.pos rfl ?_))))))))
    rw [w64s (by omega)]; exact h
  unfold impl_ZeroSearch.f
  refine Ev.pos (by simp) ?_
  refine one (i := 0) X1 hb.1 hr.1 (by omega) rfl (one (i := 1) Y1 hb.2.1 hr.2.1 (by omega) rfl (one (i := 2) Z1 hb.2.2 hr.2.2 (by omega) rfl ?_))
  have pe : Ev (fun k => impl_product.f k [sx s X, sx t Y, sx u Z]) (sx s X * sx t Y * sx u Z) := by
    have pb : (sx s X * sx t Y).natAbs = X * Y ∧ (sx s X * sx t Y * sx u Z).natAbs = X * (Y * Z) := by
      have e1 : (sx s X * sx t Y).natAbs = X * Y := by rw [Int.natAbs_mul, sx_abs, sx_abs]
      exact ⟨e1, by rw [Int.natAbs_mul, e1, sx_abs, Nat.mul_assoc]⟩
    have p2 : X * (Y * 1) ≤ X * (Y * Z) := Nat.mul_le_mul_left _ (Nat.mul_le_mul_left _ Z1)
    rw [Nat.mul_one] at p2
    have bX := bd (s := s) (n := X) (by omega)
    unfold impl_product.f
    refine Ev.step (fun k => impl_product.l0.eq_2 _ _ _ _ k) (Ev.pos (by simp) (Ev.pos (by decide) (Ev.pos (by simp) ?_)))
    rw [show wrap64 (1 * rd [sx s X, sx t Y, sx u Z] 0) = sx s X by show wrap64 (1 * sx s X) = _; rw [Int.one_mul]; exact w64 (by omega) (by omega), show wrap64 ((0 : Int) + 1) = 1 by decide +kernel]
    refine Ev.step (fun k => impl_product.l0.eq_2 _ _ _ _ k) (Ev.pos (by simp) (Ev.pos (by decide) (Ev.pos (by simp) ?_)))
    rw [show wrap64 (sx s X * rd [sx s X, sx t Y, sx u Z] 1) = sx s X * sx t Y from w64 (a := sx s X * sx t Y) (by omega) (by omega), show wrap64 ((1 : Int) + 1) = 2 by decide +kernel]
    refine Ev.step (fun k => impl_product.l0.eq_2 _ _ _ _ k) (Ev.pos (by simp) (Ev.pos (by decide) (Ev.pos (by simp) ?_)))
    rw [show wrap64 (sx s X * sx t Y * rd [sx s X, sx t Y, sx u Z] 2) = sx s X * sx t Y * sx u Z from w64 (a := sx s X * sx t Y * sx u Z) (by omega) (by omega), show wrap64 ((2 : Int) + 1) = 3 by decide +kernel]
    exact Ev.step (fun k => impl_product.l0.eq_2 _ _ _ _ k) (Ev.neg (by simp) (Ev.now _))
  have pn : (sx s X * sx t Y * sx u Z).natAbs = X * (Y * Z) := by
    have e1 : (sx s X * sx t Y).natAbs = X * Y := by rw [Int.natAbs_mul, sx_abs, sx_abs]
    rw [Int.natAbs_mul, e1, sx_abs, Nat.mul_assoc]
  have j2 : Ev (fun k => impl_ZeroSearch.j2 k [sx s X, sx t Y, sx u Z] false) (foundL (searchF (sx s X) (sx t Y) (sx u Z))) :=
    Ev.step (fun k => impl_ZeroSearch.j2.eq_2 _ _ k) (Ev.neg (by simp) (Ev.pos (by simp) (Ev.pos (by simp) (Ev.pos (by simp) SL))))
  have hd : decide (((sx s X * sx t Y * sx u Z).natAbs : Int) > 30000) = false := decide_eq_false (by omega)
  rw [← hd] at j2
  exact Ev.step (fun k => impl_ZeroSearch.l0.eq_2 _ _ _ _ k) (Ev.neg (by omega) (Ev.bind (S.2.2.2 (by omega) (by omega) (by omega)) (Ev.pos rfl (Ev.bind pe (Ev.bind0 (size_eq (by omega) (by omega)) j2)))))
theorem iFind3_ev {f : List Int} (ht : Tame f) (hf : fOk f = true) (h3 : f.length ≤ 3) : Ev (fun k => impl_ZeroFind3.f k f) (findF f) := by
  have hm := fOk_mem hf
  have hl := fOk_len hf
  unfold impl_ZeroFind3.f
  refine Ev.bind (iFormValid_ev f ht) (Ev.pos hf ?_)
  have cb : ∀ {t : Int}, t ≠ 0 → -30 ≤ t ∧ t ≤ 30 → 1 ≤ rootT t ∧ rootT t ≤ 30 ∧ coreN t ≤ 30 := by
    intro t h0 h1
    obtain ⟨c1, c2, c3, c4, _⟩ := core_is h0 (by omega)
    have a := Nat.mul_le_mul_right (rootT t * rootT t) c3
    have b := Nat.mul_le_mul_left (rootT t) c2
    omega
  match f, hm, hl, h3 with
  | [a], _, _, _ => exact Ev.neg (by simp) (Ev.neg (by simp) (Ev.neg (by simp) (Ev.now _)))
  | [a, b], hm, _, _ =>
    have b0 := hm a (by simp); have b1 := hm b (by simp)
    obtain ⟨ra, ra1, ca⟩ := cb b0.1 b0.2
    obtain ⟨rb, rb1, cb⟩ := cb b1.1 b1.2
    have eb : wrap64 (-(coreT b).1) = -(coreT b).1 := by
      have h_ : (coreT b).1.natAbs = coreN b := sx_abs _ _
      exact w64 (by omega) (by omega)
    refine Ev.pos (by simp) (Ev.pos (by simp) (Ev.bind (show Ev (fun k => impl_coreOf.f k (rd [a, b] 0)) (coreT a) from iCoreT_ev (t := a) b0.1 (by omega)) (Ev.pos (by simp) (Ev.bind (show Ev (fun k => impl_coreOf.f k (rd [a, b] 1)) (coreT b) from iCoreT_ev (t := b) b1.1 (by omega)) ?_))))
    rw [eb]
    show Ev _ (find2 a b)
    unfold find2
    by_cases c : (coreT a).1 = -(coreT b).1
    · rw [if_pos c]
      refine Ev.pos c (Ev.bind (iPlain_ev _ ⟨by simp, fun x hx => ?_⟩ ?_) (Ev.now _))
      · unfold coreT at hx; simp only [List.mem_cons, List.not_mem_nil, or_false] at hx; omega
      · unfold some0 coreT; simp only [List.any_cons, Bool.or_eq_true, bne_iff_ne]; exact .inl (by omega)
    · rw [if_neg c]
      exact Ev.neg c (Ev.now _)
  | [a, b, c], hm, _, _ =>
    obtain ⟨X, Y, Z, x, y, z, N, m0, m1, m2⟩ := nrm_at hm
    show Ev _ (findT a b c)
    unfold findT
    rw [N.at_]
    simp only
    refine Ev.neg (by simp) (Ev.pos (by simp) (Ev.bind (iNormal_ev hm N) (Ev.bind (iSearch_ev N.pos N.prod N.le N.cop N.sqf) ?_)))
    cases e : searchF (sx (decide (a < 0)) X) (sx (decide (b < 0)) Y) (sx (decide (c < 0)) Z) with
    | none => exact Ev.neg (by simp [foundL]) (Ev.now _)
    | some q =>
      obtain ⟨p, q, r⟩ := q
      obtain ⟨X1, Y1, Z1⟩ := N.pos
      have ab := prod_ab (x := sx (decide (a < 0)) X) (y := sx (decide (b < 0)) Y) (z := sx (decide (c < 0)) Z) (N := 30000) (by rw [sx_abs, sx_abs, sx_abs]; exact N.prod) (sx_ne X1) (sx_ne Y1)
      obtain ⟨p0, p1, q0, q1, _, hne, r0, r1⟩ := searchX_zero ab.1 ab.2 180 0 (by omega) e
      have k : ∀ {n : Nat} {a : Int}, n ≤ 30 → 0 ≤ a → a < 300 → wrap64 (a * (n : Int)) = (n : Int) * a := by
        intro n a hn h0 h1
        have := mul2_bd (a := (n : Int)) (b := a) (A := 30) (B := 300) (by omega) (by omega)
        rw [Int.mul_comm]; exact w64 (by omega) (by omega)
      refine Ev.pos rfl (Ev.step (fun k => impl_ZeroFind3.l0.eq_2 _ _ _ _ k) (Ev.pos (by simp [foundL]) (Ev.pos (by decide) (Ev.pos (by simp [foundL]) (Ev.pos (by simp) ?_)))))
      show Ev (fun k' => impl_ZeroFind3.l0 k' [((rootT b * rootT c * x : Nat) : Int), ((rootT a * rootT c * y : Nat) : Int), ((rootT a * rootT b * z : Nat) : Int)] [wrap64 (p * ((rootT b * rootT c * x : Nat) : Int)), q, r] 3 (wrap64 (0 + 1))) _
      rw [k m0 p0 (by omega), show wrap64 ((0 : Int) + 1) = 1 by decide +kernel]
      refine Ev.step (fun k => impl_ZeroFind3.l0.eq_2 _ _ _ _ k) (Ev.pos (by decide) (Ev.pos (by decide) (Ev.pos (by simp) (Ev.pos (by simp) ?_))))
      show Ev (fun k' => impl_ZeroFind3.l0 k' [((rootT b * rootT c * x : Nat) : Int), ((rootT a * rootT c * y : Nat) : Int), ((rootT a * rootT b * z : Nat) : Int)] [((rootT b * rootT c * x : Nat) : Int) * p, wrap64 (q * ((rootT a * rootT c * y : Nat) : Int)), r] 3 (wrap64 (1 + 1))) _
      rw [k m1 q0 (by omega), show wrap64 ((1 : Int) + 1) = 2 by decide +kernel]
      refine Ev.step (fun k => impl_ZeroFind3.l0.eq_2 _ _ _ _ k) (Ev.pos (by decide) (Ev.pos (by decide) (Ev.pos (by simp) (Ev.pos (by simp) ?_))))
      show Ev (fun k' => impl_ZeroFind3.l0 k' [((rootT b * rootT c * x : Nat) : Int), ((rootT a * rootT c * y : Nat) : Int), ((rootT a * rootT b * z : Nat) : Int)] [((rootT b * rootT c * x : Nat) : Int) * p, ((rootT a * rootT c * y : Nat) : Int) * q, wrap64 (r * ((rootT a * rootT b * z : Nat) : Int))] 3 (wrap64 (2 + 1))) _
      rw [k m2 r0 r1, show wrap64 ((2 : Int) + 1) = 3 by decide +kernel]
      have tk := trip_ok ⟨(times_pos hm N.tpos.1 N.tpos.2.1).1, m0⟩ ⟨(times_pos hm N.tpos.1 N.tpos.2.1).2, m1⟩ m2 ⟨p0, by omega⟩ ⟨q0, by omega⟩ ⟨r0, r1⟩ hne
      exact Ev.step (fun k => impl_ZeroFind3.l0.eq_2 _ _ _ _ k) (Ev.neg (by decide) (Ev.bind (iPlain_ev _ ⟨by simp, fun x hx => by have := tk.2 x hx; omega⟩ tk.1) (Ev.now _)))
theorem iFind_ev {f : List Int} (ht : Tame f) (hf : fOk f = true) (h3 : f.length ≤ 3) : Ev (fun k => impl_ZeroFind.f k f) (findF f) := by
  have hm := fOk_mem hf
  have hl := fOk_len hf
  unfold impl_ZeroFind.f
  refine Ev.bind (iFormValid_ev f ht) (Ev.pos hf ?_)
  have cb : ∀ {t : Int}, t ≠ 0 → -30 ≤ t ∧ t ≤ 30 → 1 ≤ rootT t ∧ rootT t ≤ 30 ∧ coreN t ≤ 30 := by
    intro t h0 h1
    obtain ⟨c1, c2, c3, c4, _⟩ := core_is h0 (by omega)
    have a := Nat.mul_le_mul_right (rootT t * rootT t) c3
    have b := Nat.mul_le_mul_left (rootT t) c2
    omega
  match f, hm, hl, h3 with
  | [a], _, _, _ => exact Ev.neg (by simp) (Ev.neg (by simp) (Ev.neg (by simp) (Ev.now _)))
  | [a, b], hm, _, _ =>
    have b0 := hm a (by simp); have b1 := hm b (by simp)
    obtain ⟨ra, ra1, ca⟩ := cb b0.1 b0.2
    obtain ⟨rb, rb1, cb⟩ := cb b1.1 b1.2
    have eb : wrap64 (-(coreT b).1) = -(coreT b).1 := by
      have h_ : (coreT b).1.natAbs = coreN b := sx_abs _ _
      exact w64 (by omega) (by omega)
    refine Ev.pos (by simp) (Ev.pos (by simp) (Ev.bind (show Ev (fun k => impl_coreOf.f k (rd [a, b] 0)) (coreT a) from iCoreT_ev (t := a) b0.1 (by omega)) (Ev.pos (by simp) (Ev.bind (show Ev (fun k => impl_coreOf.f k (rd [a, b] 1)) (coreT b) from iCoreT_ev (t := b) b1.1 (by omega)) ?_))))
    rw [eb]
    show Ev _ (find2 a b)
    unfold find2
    by_cases c : (coreT a).1 = -(coreT b).1
    · rw [if_pos c]
      refine Ev.pos c (Ev.bind (iPlain_ev _ ⟨by simp, fun x hx => ?_⟩ ?_) (Ev.now _))
      · unfold coreT at hx; simp only [List.mem_cons, List.not_mem_nil, or_false] at hx; omega
      · unfold some0 coreT; simp only [List.any_cons, Bool.or_eq_true, bne_iff_ne]; exact .inl (by omega)
    · rw [if_neg c]
      exact Ev.neg c (Ev.now _)
  | [a, b, c], hm, _, _ =>
    obtain ⟨X, Y, Z, x, y, z, N, m0, m1, m2⟩ := nrm_at hm
    show Ev _ (findT a b c)
    unfold findT
    rw [N.at_]
    simp only
    refine Ev.neg (by simp) (Ev.pos (by simp) (Ev.bind (iNormal_ev hm N) (Ev.bind (iSearch_ev N.pos N.prod N.le N.cop N.sqf) ?_)))
    cases e : searchF (sx (decide (a < 0)) X) (sx (decide (b < 0)) Y) (sx (decide (c < 0)) Z) with
    | none => exact Ev.neg (by simp [foundL]) (Ev.now _)
    | some q =>
      obtain ⟨p, q, r⟩ := q
      obtain ⟨X1, Y1, Z1⟩ := N.pos
      have ab := prod_ab (x := sx (decide (a < 0)) X) (y := sx (decide (b < 0)) Y) (z := sx (decide (c < 0)) Z) (N := 30000) (by rw [sx_abs, sx_abs, sx_abs]; exact N.prod) (sx_ne X1) (sx_ne Y1)
      obtain ⟨p0, p1, q0, q1, _, hne, r0, r1⟩ := searchX_zero ab.1 ab.2 180 0 (by omega) e
      have k : ∀ {n : Nat} {a : Int}, n ≤ 30 → 0 ≤ a → a < 300 → wrap64 (a * (n : Int)) = (n : Int) * a := by
        intro n a hn h0 h1
        have := mul2_bd (a := (n : Int)) (b := a) (A := 30) (B := 300) (by omega) (by omega)
        rw [Int.mul_comm]; exact w64 (by omega) (by omega)
      refine Ev.pos rfl (Ev.step (fun k => impl_ZeroFind.l0.eq_2 _ _ _ _ k) (Ev.pos (by simp [foundL]) (Ev.pos (by decide) (Ev.pos (by simp [foundL]) (Ev.pos (by simp) ?_)))))
      show Ev (fun k' => impl_ZeroFind.l0 k' [((rootT b * rootT c * x : Nat) : Int), ((rootT a * rootT c * y : Nat) : Int), ((rootT a * rootT b * z : Nat) : Int)] [wrap64 (p * ((rootT b * rootT c * x : Nat) : Int)), q, r] 3 (wrap64 (0 + 1))) _
      rw [k m0 p0 (by omega), show wrap64 ((0 : Int) + 1) = 1 by decide +kernel]
      refine Ev.step (fun k => impl_ZeroFind.l0.eq_2 _ _ _ _ k) (Ev.pos (by decide) (Ev.pos (by decide) (Ev.pos (by simp) (Ev.pos (by simp) ?_))))
      show Ev (fun k' => impl_ZeroFind.l0 k' [((rootT b * rootT c * x : Nat) : Int), ((rootT a * rootT c * y : Nat) : Int), ((rootT a * rootT b * z : Nat) : Int)] [((rootT b * rootT c * x : Nat) : Int) * p, wrap64 (q * ((rootT a * rootT c * y : Nat) : Int)), r] 3 (wrap64 (1 + 1))) _
      rw [k m1 q0 (by omega), show wrap64 ((1 : Int) + 1) = 2 by decide +kernel]
      refine Ev.step (fun k => impl_ZeroFind.l0.eq_2 _ _ _ _ k) (Ev.pos (by decide) (Ev.pos (by decide) (Ev.pos (by simp) (Ev.pos (by simp) ?_))))
      show Ev (fun k' => impl_ZeroFind.l0 k' [((rootT b * rootT c * x : Nat) : Int), ((rootT a * rootT c * y : Nat) : Int), ((rootT a * rootT b * z : Nat) : Int)] [((rootT b * rootT c * x : Nat) : Int) * p, ((rootT a * rootT c * y : Nat) : Int) * q, wrap64 (r * ((rootT a * rootT b * z : Nat) : Int))] 3 (wrap64 (2 + 1))) _
      rw [k m2 r0 r1, show wrap64 ((2 : Int) + 1) = 3 by decide +kernel]
      have tk := trip_ok ⟨(times_pos hm N.tpos.1 N.tpos.2.1).1, m0⟩ ⟨(times_pos hm N.tpos.1 N.tpos.2.1).2, m1⟩ m2 ⟨p0, by omega⟩ ⟨q0, by omega⟩ ⟨r0, r1⟩ hne
      exact Ev.step (fun k => impl_ZeroFind.l0.eq_2 _ _ _ _ k) (Ev.neg (by decide) (Ev.bind (iPlain_ev _ ⟨by simp, fun x hx => by have := tk.2 x hx; omega⟩ tk.1) (Ev.now _)))
theorem l5Root_l (n : Int) : ∀ (d : Nat) (lo hi : Int), 0 ≤ lo → lo ≤ hi → hi ≤ 1048576 → hi - lo ≤ d → (∀ s : Int, 0 ≤ s → s < lo → s * s < n) → n ≤ hi * hi →
    ∃ r : Int, ((0 ≤ r ∧ r ≤ 1048576 ∧ r * r = n) ∨ (r = -1 ∧ ∀ s : Int, 0 ≤ s → s * s ≠ n)) ∧ Ev (fun j => spec_l5Root.l0 j n lo hi) r := by
  intro d
  induction d with
  | zero =>
    intro lo hi h0 h1 h2 h3 h4 h5
    obtain rfl : lo = hi := by omega
    have hb : lo * lo ≤ 1048576 * 1048576 := Int.mul_le_mul h2 h2 h0 (by omega)
    have hb0 := Int.mul_nonneg h0 h0
    by_cases e : lo * lo = n
    · exact ⟨lo, .inl ⟨h0, h2, e⟩, Ev.step (fun j => spec_l5Root.l0.eq_2 _ _ _ j) (Ev.neg (by omega) (Ev.pos (by rw [w64 (by omega) (by omega)]; exact e) (Ev.now _)))⟩
    · refine ⟨-1, .inr ⟨rfl, fun s hs he => ?_⟩, Ev.step (fun j => spec_l5Root.l0.eq_2 _ _ _ j) (Ev.neg (by omega) (Ev.neg (by rw [w64 (by omega) (by omega)]; exact e) (Ev.now _)))⟩
      rcases (by omega : s < lo ∨ lo ≤ s) with h6 | h6
      · have := h4 s hs h6; omega
      · have := Int.mul_le_mul h6 h6 h0 hs
        omega
  | succ d ih =>
    intro lo hi h0 h1 h2 h3 h4 h5
    by_cases hlt : lo < hi
    · have em : wrap64 (Int.tdiv (wrap64 (lo + hi)) 2) = (lo + hi) / 2 := by
        rw [w64 (a := lo + hi) (by omega) (by omega), Int.tdiv_eq_ediv_of_nonneg (by omega)]; exact w64 (by omega) (by omega)
      obtain ⟨m, hm⟩ : ∃ m : Int, m = (lo + hi) / 2 := ⟨_, rfl⟩
      rw [← hm] at em
      have hmb : m * m ≤ 1048576 * 1048576 := Int.mul_le_mul (by omega) (by omega) (by omega) (by omega)
      have hmb0 := Int.mul_nonneg (show 0 ≤ m by omega) (show 0 ≤ m by omega)
      have em2 : wrap64 (m * m) = m * m := w64 (by omega) (by omega)
      by_cases hc : m * m < n
      · obtain ⟨r, r0, r1⟩ := ih (m + 1) hi (by omega) (by omega) h2 (by omega) (fun s hs hs1 => by
          have := Int.mul_le_mul (show s ≤ m by omega) (show s ≤ m by omega) hs (by omega)
          omega) h5
        refine ⟨r, r0, Ev.step (fun j => spec_l5Root.l0.eq_2 _ _ _ j) (Ev.pos hlt (Ev.pos (by rw [em, em2]; exact hc) ?_))⟩
        rw [em, w64 (by omega) (by omega)]; exact r1
      · obtain ⟨r, r0, r1⟩ := ih lo m h0 (by omega) (by omega) (by omega) h4 (by omega)
        refine ⟨r, r0, Ev.step (fun j => spec_l5Root.l0.eq_2 _ _ _ j) (Ev.pos hlt (Ev.neg (by rw [em, em2]; exact hc) ?_))⟩
        rw [em]; exact r1
    · exact ih lo hi h0 h1 h2 (by omega) h4 h5
theorem l5Root_ev (n : Int) (hn : n ≤ 1099511627776) : ∃ r : Int, ((0 ≤ r ∧ r ≤ 1048576 ∧ r * r = n) ∨ (r = -1 ∧ ∀ s : Int, 0 ≤ s → s * s ≠ n)) ∧ Ev (fun j => spec_l5Root.f j n) r := by
  unfold spec_l5Root.f
  exact l5Root_l n 1048576 0 1048576 (by omega) (by omega) (by omega) (by omega) (by omega) (by omega)
theorem l5Plain_1 (v : List Int) (g : Nat) (hg : g ≠ 0) (s : Int) (hs : s = 1 ∨ s = -1) (hn : v.length ≤ 1000000) (ht : ∀ x ∈ v, -9000000000000000000 ≤ x ∧ x ≤ 9000000000000000000) : ∀ (m i : Nat), i + m = v.length →
    Ev (fun k => spec_l5Plain.l1 k v (g : Int) s ((v.take i).map (fun x => Int.tdiv x (s * g))) (i : Int)) (v.map (fun x => Int.tdiv x (s * g))) := by
  intro m
  induction m with
  | zero =>
    intro i h
    exact Ev.step (fun k => spec_l5Plain.l1.eq_2 _ _ _ _ _ k) (Ev.neg (by omega) (Ev.nows (by rw [List.take_of_length_le (by omega)])))
  | succ m ih =>
    intro i h
    have hi : i < v.length := by omega
    have b := ht _ (rd_mem hi)
    have e1 : Int.tdiv (s * rd v (i : Int)) (g : Int) = Int.tdiv (rd v (i : Int)) (s * g) := by
      rcases hs with rfl | rfl
      · rw [Int.one_mul, Int.one_mul]
      · rw [show (-1 : Int) * rd v (i : Int) = -rd v (i : Int) by omega, show (-1 : Int) * (g : Int) = -(g : Int) by omega, Int.neg_tdiv, Int.tdiv_neg]
    have e2 : -9000000000000000000 ≤ s * rd v (i : Int) ∧ s * rd v (i : Int) ≤ 9000000000000000000 := by rcases hs with rfl | rfl <;> omega
    have hq : (Int.tdiv (s * rd v (i : Int)) (g : Int)).natAbs ≤ (s * rd v (i : Int)).natAbs := by rw [Int.natAbs_tdiv]; exact Nat.div_le_self _ _
    have hc : ((v.take i).map (fun x => Int.tdiv x (s * g))).length = i := by rw [List.length_map, List.length_take]; omega
    refine Ev.step (fun k => spec_l5Plain.l1.eq_2 _ _ _ _ _ k) (Ev.pos (by omega) (Ev.pos (by omega) (Ev.neg (by omega) (Ev.pos (by omega) ?_))))
    rw [w64s (by omega), w64 (a := s * rd v (i : Int)) (by omega) (by omega), w64 (a := Int.tdiv _ _) (by omega) (by omega), e1]
    have e : (v.take i).map (fun x => Int.tdiv x (s * g)) ++ [Int.tdiv (rd v (i : Int)) (s * g)] = (v.take (i + 1)).map (fun x => Int.tdiv x (s * g)) := by
      rw [List.take_succ_eq_append_getElem hi, List.map_append, rd_at, List.getD_eq_getElem?_getD, List.getElem?_eq_getElem hi]; rfl
    rw [e]
    exact ih (i + 1) (by omega)
theorem l5Plain_0 (v : List Int) (h0 : some0 v = true) (hn : v.length ≤ 1000000) (ht : ∀ x ∈ v, -9000000000000000000 ≤ x ∧ x ≤ 9000000000000000000) : ∀ (m i : Nat) (g : Nat) (s : Int) (first : Bool), i + m = v.length → g ≤ 9000000000000000000 → gcdL g (v.drop i) = gcdL 0 v →
    (first = true → s = 1 ∧ sgn1 (v.drop i) = sgn1 v) → (first = false → s = sgn1 v) → Ev (fun k => spec_l5Plain.l0 k v (g : Int) s first (i : Int)) (plainL v) := by
  have hg : gcdL 0 v ≠ 0 := fun k => by rw [gcdL_zero, h0] at k; cases k
  intro m
  induction m with
  | zero =>
    intro i g s first h _ he h1 h2
    rw [List.drop_of_length_le (by omega)] at he h1
    refine Ev.step (fun k => spec_l5Plain.l0.eq_2 _ _ _ _ _ k) (Ev.neg (by omega) ?_)
    have es : s = sgn1 v := by
      cases first with
      | true => have := h1 rfl; rw [this.1, ← this.2]; rfl
      | false => exact h2 rfl
    rw [es, show g = gcdL 0 v from he]
    have := l5Plain_1 v (gcdL 0 v) hg (sgn1 v) (sgn1_cases v) hn ht v.length 0 (by omega)
    unfold plainL
    simpa using this
  | succ m ih =>
    intro i g s first h hgb he h1 h2
    have hi : i < v.length := by omega
    have b := ht _ (rd_mem hi)
    rw [drop_rd hi] at he h1
    refine Ev.step (fun k => spec_l5Plain.l0.eq_2 _ _ _ _ _ k) (Ev.pos (by omega) (Ev.pos (by omega) (Ev.bind (l1Gcd_ev (by omega) (by omega) (by omega) (by omega)) ?_)))
    have hb2 : Nat.gcd g (rd v (i : Int)).natAbs ≤ 9000000000000000000 := by
      rcases Nat.eq_zero_or_pos g with rfl | hp
      · rw [Nat.gcd_zero_left]; omega
      · have := Nat.gcd_le_left (rd v (i : Int)).natAbs hp; omega
    rw [show ((g : Int)).natAbs = g from rfl]
    have he2 : gcdL (Nat.gcd g (rd v (i : Int)).natAbs) (v.drop (i + 1)) = gcdL 0 v := by rw [← he]; rfl
    by_cases hz : rd v (i : Int) = 0
    · refine Ev.pos hz (Ev.step (fun k => spec_l5Plain.j1.eq_2 _ _ _ _ _ _ k) (Ev.neg (by simp) ?_))
      rw [w64s (by omega)]
      refine ih (i + 1) _ s first (by omega) hb2 he2 (fun k => ?_) h2
      have := h1 k
      rw [sgn1, if_pos hz] at this; exact this
    · refine Ev.neg hz (Ev.step (fun k => spec_l5Plain.j1.eq_2 _ _ _ _ _ _ k) ?_)
      cases first with
      | true =>
        obtain ⟨s1, s2⟩ := h1 rfl
        rw [sgn1, if_neg hz] at s2
        refine Ev.pos rfl (Ev.pos (by omega) (Ev.pos (by omega) ?_))
        rw [w64s (by omega)]
        by_cases hneg : rd v (i : Int) < 0
        · rw [if_pos hneg] at s2
          exact Ev.pos hneg (ih (i + 1) _ (-1) false (by omega) hb2 he2 (fun k => by cases k) (fun _ => s2))
        · rw [if_neg hneg] at s2
          exact Ev.neg hneg (ih (i + 1) _ s false (by omega) hb2 he2 (fun k => by cases k) (fun _ => by rw [s1]; exact s2))
      | false =>
        refine Ev.neg (by simp) ?_
        rw [w64s (by omega)]
        exact ih (i + 1) _ s false (by omega) hb2 he2 (fun k => by cases k) h2
theorem l5Plain_ev (v : List Int) (h0 : some0 v = true) (hn : v.length ≤ 1000000) (ht : ∀ x ∈ v, -9000000000000000000 ≤ x ∧ x ≤ 9000000000000000000) : Ev (fun k => spec_l5Plain.f k v) (plainL v) := by
  unfold spec_l5Plain.f
  exact l5Plain_0 v h0 hn ht v.length 0 0 1 true (by omega) (by omega) rfl (fun _ => ⟨rfl, rfl⟩) (fun k => by cases k)
theorem sRoot_ev (n : Int) (hn : n ≤ 89999) : (∃ r : Nat, sq n = some r ∧ Ev (fun f => spec_l5Root.f f n) (r : Int)) ∨ (sq n = none ∧ Ev (fun f => spec_l5Root.f f n) (-1)) := by
  obtain ⟨r, h, hr⟩ := l5Root_ev n (by omega)
  rcases h with ⟨r0, r1, e⟩ | ⟨rfl, h⟩
  · have rl : r < 300 := by
      rcases (by omega : r < 300 ∨ 300 ≤ r) with h | h
      · exact h
      · have := Int.mul_le_mul h h (by omega) r0; omega
    refine .inl ⟨r.toNat, ?_, by rw [Int.toNat_of_nonneg r0]; exact hr⟩
    have := sq_mul (r := r.toNat) (by omega)
    rw [Int.toNat_of_nonneg r0, e] at this; exact this
  · refine .inr ⟨?_, hr⟩
    cases e' : sq n with
    | none => rfl
    | some s => exact absurd (sq_some e').1 (h _ (by omega))
theorem sSearch_l {a b c : Int} (a0 : a ≠ 0) (b0 : b ≠ 0) (c0 : c ≠ 0) (hP : a.natAbs * (b.natAbs * c.natAbs) ≤ 30000) : ∀ (m : Nat) (x : Int), 0 ≤ x → x + m = 180 →
    Ev (fun k => spec_l5Search.l0 k a b c x) (foundL (searchX a b c m x)) := by
  have A := Nat.pos_of_ne_zero (Int.natAbs_ne_zero.2 a0)
  have B := Nat.pos_of_ne_zero (Int.natAbs_ne_zero.2 b0)
  have C := Nat.pos_of_ne_zero (Int.natAbs_ne_zero.2 c0)
  have n3 := nat3le (X := a.natAbs) (Y := b.natAbs) (Z := c.natAbs) (by omega) (by omega) (by omega) hP
  obtain ⟨hbc, hac⟩ := prod_ab hP a0 b0
  have ebc : wrap64 (b * c) = b * c := w64 (by omega) (by omega)
  have eac : wrap64 (a * c) = a * c := w64 (by omega) (by omega)
  have zbc : spec_l1Size.f (b * c) = some ((b * c).natAbs : Int) := l1Size_eq (by omega) (by omega)
  have zac : spec_l1Size.f (a * c) = some ((a * c).natAbs : Int) := l1Size_eq (by omega) (by omega)
  intro m
  induction m with
  | zero =>
    intro x x0 hx
    obtain rfl : x = 180 := by omega
    refine Ev.step (fun k => spec_l5Search.l0.eq_2 _ _ _ _ k) (Ev.bind0 (by rw [ebc]; exact zbc) (Ev.neg ?_ (Ev.now _)))
    rw [show wrap64 ((180 : Int) * 180) = 32400 by decide +kernel]; omega
  | succ m ih =>
    intro x x0 hx
    have hxx := sq_bd3 x0 (show x ≤ 180 by omega)
    refine Ev.step (fun k => spec_l5Search.l0.eq_2 _ _ _ _ k) (Ev.bind0 (by rw [ebc]; exact zbc) ?_)
    rw [w64 (a := x * x) (by omega) (by omega)]
    unfold searchX
    by_cases hb : x * x ≤ ((b * c).natAbs : Int)
    rotate_left
    · rw [if_neg hb]; exact Ev.neg hb (Ev.now _)
    rw [if_pos hb]
    refine Ev.pos hb ?_
    have next := ih (x + 1) (by omega) (by omega)
    have inner : ∀ (m' : Nat) (y : Int), 0 ≤ y → y + m' = 180 → Ev (fun k => spec_l5Search.l1 k a b c x y) (foundL (match searchY a b c x m' y with | some r => some r | none => searchX a b c m (x + 1))) := by
      intro m'
      induction m' with
      | zero =>
        intro y y0 hy
        obtain rfl : y = 180 := by omega
        refine Ev.step (fun k => spec_l5Search.l1.eq_2 _ _ _ _ _ k) (Ev.bind0 (by rw [eac]; exact zac) (Ev.neg ?_ ?_))
        · rw [show wrap64 ((180 : Int) * 180) = 32400 by decide +kernel]; omega
        · rw [w64 (a := x + 1) (by omega) (by omega)]; exact next
      | succ m' ihy =>
        intro y y0 hy
        have hyy := sq_bd3 y0 (show y ≤ 180 by omega)
        have again0 := ihy (y + 1) (by omega) (by omega)
        have again : ∀ (n : Int), Ev (fun k => spec_l5Search.j2 k a b c x y n true) (foundL (match searchY a b c x m' (y + 1) with | some r => some r | none => searchX a b c m (x + 1))) := by
          intro n
          refine Ev.step (fun k => spec_l5Search.j2.eq_2 _ _ _ _ _ _ _ k) (Ev.pos rfl ?_)
          rw [w64 (a := y + 1) (by omega) (by omega)]; exact again0
        refine Ev.step (fun k => spec_l5Search.l1.eq_2 _ _ _ _ _ k) (Ev.bind0 (by rw [eac]; exact zac) ?_)
        rw [w64 (a := y * y) (by omega) (by omega)]
        unfold searchY
        by_cases hc : y * y ≤ ((a * c).natAbs : Int)
        rotate_left
        · rw [if_neg hc]
          refine Ev.neg hc ?_
          rw [w64 (a := x + 1) (by omega) (by omega)]; exact next
        rw [if_pos hc]
        refine Ev.pos hc (Ev.neg c0 ?_)
        have bx := mul2_bd (a := a) (b := x) (A := 30000) (B := 180) (by omega) (by omega)
        have bxx := mul2_bd (a := a) (b := x * x) (A := 30000) (B := 32400) (by omega) (by omega)
        have by_ := mul2_bd (a := b) (b := y) (A := 30000) (B := 180) (by omega) (by omega)
        have byy := mul2_bd (a := b) (b := y * y) (A := 30000) (B := 32400) (by omega) (by omega)
        have e2 : -a * x * x = -(a * (x * x)) := by rw [Int.neg_mul, Int.neg_mul, Int.mul_assoc]
        have e4 : a * x * x = a * (x * x) := Int.mul_assoc ..
        have e3 : b * y * y = b * (y * y) := Int.mul_assoc ..
        have en : wrap64 ((wrap64 (-(wrap64 ((wrap64 (a * x)) * x)))) - (wrap64 ((wrap64 (b * y)) * y))) = -a * x * x - b * y * y := by
          rw [w64 (a := a * x) (by omega) (by omega), w64 (a := a * x * x) (by omega) (by omega), w64 (a := -(a * x * x)) (by omega) (by omega), w64 (a := b * y) (by omega) (by omega), w64 (a := b * y * y) (by omega) (by omega)]
          rw [w64 (by omega) (by omega)]; omega
        rw [en]
        have nb : (Int.tdiv (-a * x * x - b * y * y) c).natAbs ≤ 60000 := by
          have k1 : (a * (x * x)).natAbs ≤ 30000 := by
            have h1 : a.natAbs * (x * x).natAbs ≤ a.natAbs * (b * c).natAbs := Nat.mul_le_mul_left _ (by omega)
            rw [Int.natAbs_mul, Int.natAbs_mul] at *
            omega
          have k2 : (b * (y * y)).natAbs ≤ 30000 := by
            have h1 : b.natAbs * (y * y).natAbs ≤ b.natAbs * (a * c).natAbs := Nat.mul_le_mul_left _ (by omega)
            have h2 : b.natAbs * (a * c).natAbs = a.natAbs * (b.natAbs * c.natAbs) := by rw [Int.natAbs_mul]; ac_rfl
            rw [Int.natAbs_mul]; omega
          have := tdiv_mag (-a * x * x - b * y * y) c
          omega
        have ed : wrap64 (Int.tdiv (-a * x * x - b * y * y) c) = Int.tdiv (-a * x * x - b * y * y) c := w64 (by omega) (by omega)
        rw [ed]
        have look : ¬ (x = 0 ∧ y = 0) → Int.tmod (-a * x * x - b * y * y) c = 0 → Ev (fun k => spec_l5Search.j2 k a b c x y (-a * x * x - b * y * y) false) (foundL (match (match hitF a b c x y with | some z => some (x, y, z) | none => searchY a b c x m' (y + 1)) with | some r => some r | none => searchX a b c m (x + 1))) := by
          intro hz hm
          unfold hitF
          rw [if_neg hz, if_pos hm]
          refine Ev.step (fun k => spec_l5Search.j2.eq_2 _ _ _ _ _ _ _ k) (Ev.neg (by simp) (Ev.neg c0 ?_))
          rw [ed]
          rcases sRoot_ev (Int.tdiv (-a * x * x - b * y * y) c) (by omega) with ⟨r, r1, r2⟩ | ⟨r1, r2⟩
          · rw [r1]
            exact Ev.bind r2 (Ev.pos (by omega) (Ev.now _))
          · rw [r1]
            refine Ev.bind r2 (Ev.neg (by omega) ?_)
            rw [w64 (a := y + 1) (by omega) (by omega)]; exact again0
        have none_ : hitF a b c x y = none → Ev (fun k => spec_l5Search.j2 k a b c x y (-a * x * x - b * y * y) true) (foundL (match (match hitF a b c x y with | some z => some (x, y, z) | none => searchY a b c x m' (y + 1)) with | some r => some r | none => searchX a b c m (x + 1))) := by
          intro h; rw [h]; exact again _
        by_cases hm : Int.tmod (-a * x * x - b * y * y) c = 0
        · refine Ev.pos hm ?_
          by_cases hneg : Int.tdiv (-a * x * x - b * y * y) c < 0
          · refine Ev.pos hneg (none_ ?_)
            unfold hitF
            split
            · rfl
            · try rw [if_pos hm]
              cases e : sq (Int.tdiv (-a * x * x - b * y * y) c) with
              | none => rfl
              | some r => have := (sq_some e).1; have := Int.mul_nonneg (show (0 : Int) ≤ r by omega) (show (0 : Int) ≤ r by omega); omega
          · refine Ev.neg hneg ?_
            by_cases hx : x = 0
            · refine Ev.pos hx ?_
              by_cases hy : y = 0
              · rw [show (y == 0) = true from beq_iff_eq.2 hy]
                exact none_ (by unfold hitF; rw [if_pos ⟨hx, hy⟩])
              · rw [show (y == 0) = false from beq_eq_false_iff_ne.2 hy]
                exact look (fun h => hy h.2) hm
            · exact Ev.neg hx (look (fun h => hx h.1) hm)
        · refine Ev.neg hm (none_ ?_)
          unfold hitF
          rw [if_neg hm, ite_self]
    exact inner 180 0 (by omega) (by omega)
theorem sThree_ev {a b c : Int} (hm : ∀ t ∈ [a, b, c], t ≠ 0 ∧ -30 ≤ t ∧ t ≤ 30) : Ev (fun k => spec_l5Three.f k [a, b, c]) (findT a b c) := by
  obtain ⟨X, Y, Z, x, y, z, N, m0, m1, m2⟩ := nrm_at hm
  unfold findT
  rw [N.at_]
  simp only
  obtain ⟨X1, Y1, Z1⟩ := N.pos
  have SL := sSearch_l (a := sx (decide (a < 0)) X) (b := sx (decide (b < 0)) Y) (c := sx (decide (c < 0)) Z) (sx_ne X1) (sx_ne Y1) (sx_ne Z1) (by rw [sx_abs, sx_abs, sx_abs]; exact N.prod) 180 0 (by omega) (by omega)
  have S : Ev (fun k => spec_l5Search.f k [sx (decide (a < 0)) X, sx (decide (b < 0)) Y, sx (decide (c < 0)) Z]) (foundL (searchF (sx (decide (a < 0)) X) (sx (decide (b < 0)) Y) (sx (decide (c < 0)) Z))) := by
    unfold spec_l5Search.f
    exact Ev.pos (by simp) (Ev.pos (by simp) (Ev.pos (by simp) SL))
  unfold spec_l5Three.f
  refine Ev.bind (sNormal_ev hm N) (Ev.bind S ?_)
  cases e : searchF (sx (decide (a < 0)) X) (sx (decide (b < 0)) Y) (sx (decide (c < 0)) Z) with
  | none => exact Ev.neg (by simp [foundL]) (Ev.now _)
  | some q =>
    obtain ⟨p, q, r⟩ := q
    have ab := prod_ab (x := sx (decide (a < 0)) X) (y := sx (decide (b < 0)) Y) (z := sx (decide (c < 0)) Z) (N := 30000) (by rw [sx_abs, sx_abs, sx_abs]; exact N.prod) (sx_ne X1) (sx_ne Y1)
    obtain ⟨p0, p1, q0, q1, _, hne, r0, r1⟩ := searchX_zero ab.1 ab.2 180 0 (by omega) e
    have k : ∀ {n : Nat} {a : Int}, n ≤ 30 → 0 ≤ a → a < 300 → wrap64 ((n : Int) * a) = (n : Int) * a := by
      intro n a hn h0 h1
      have := mul2_bd (a := (n : Int)) (b := a) (A := 30) (B := 300) (by omega) (by omega)
      exact w64 (by omega) (by omega)
    have tk := trip_ok ⟨(times_pos hm N.tpos.1 N.tpos.2.1).1, m0⟩ ⟨(times_pos hm N.tpos.1 N.tpos.2.1).2, m1⟩ m2 ⟨p0, by omega⟩ ⟨q0, by omega⟩ ⟨r0, r1⟩ hne
    refine Ev.pos rfl (Ev.pos (by simp) (Ev.pos (by simp [foundL]) (Ev.pos (by simp) (Ev.pos (by simp [foundL]) (Ev.pos (by simp) (Ev.pos (by simp [foundL]) ?_))))))
    refine Ev.bind (a := plainL [((rootT b * rootT c * x : Nat) : Int) * p, ((rootT a * rootT c * y : Nat) : Int) * q, ((rootT a * rootT b * z : Nat) : Int) * r]) ?_ (Ev.now _)
    show Ev (fun k => spec_l5Plain.f k [wrap64 (((rootT b * rootT c * x : Nat) : Int) * p), wrap64 (((rootT a * rootT c * y : Nat) : Int) * q), wrap64 (((rootT a * rootT b * z : Nat) : Int) * r)]) _
    rw [k m0 p0 (by omega), k m1 q0 (by omega), k m2 r0 r1]
    exact l5Plain_ev _ tk.1 (by simp) (fun x hx => by have := tk.2 x hx; omega)
theorem sFormValid_l (xs : List Int) (hn : xs.length ≤ 1000000) : ∀ (m i : Nat), i + m = xs.length → (∀ j, j < i → j < xs.length → rd xs (j : Int) ≠ 0 ∧ -30 ≤ rd xs (j : Int) ∧ rd xs (j : Int) ≤ 30) →
    Ev (fun k => spec_FormValid.l0 k xs (i : Int)) (fOk xs) := by
  intro m
  induction m with
  | zero =>
    intro i h hj
    refine Ev.step (fun k => spec_FormValid.l0.eq_2 _ _ k) (Ev.neg (by omega) (Ev.bind0 (in_eq _ _ _) (Ev.nows ?_)))
    rw [fOk_end (fun j h1 => hj j (by omega) h1)]
    exact decide_eq_decide.2 ⟨fun h => by omega, fun h => by omega⟩
  | succ m ih =>
    intro i h hj
    refine Ev.step (fun k => spec_FormValid.l0.eq_2 _ _ k) (Ev.pos (by omega) (Ev.pos (by omega) ?_))
    by_cases h1 : rd xs (i : Int) = 0
    · exact Ev.pos h1 (Ev.nows (fOk_no (rd_mem (show i < xs.length by omega)) (by omega)).symm)
    · refine Ev.neg h1 (Ev.bind0 (in_eq _ _ _) ?_)
      by_cases h2 : -30 ≤ rd xs (i : Int) ∧ rd xs (i : Int) ≤ 30
      · refine Ev.pos (decide_eq_true h2) ?_
        rw [w64s (by omega)]
        refine ih (i + 1) (by omega) (fun j h5 h6 => ?_)
        rcases (by omega : j < i ∨ j = i) with h7 | rfl
        · exact hj j h7 h6
        · exact ⟨h1, h2⟩
      · refine Ev.neg (by simpa using h2) (Ev.nows ?_)
        exact (fOk_no (rd_mem (show i < xs.length by omega)) (fun k => h2 k.2)).symm
theorem sFormValid_ev (xs : List Int) (hn : xs.length ≤ 1000000) : Ev (fun k => spec_FormValid.f k xs) (fOk xs) := by
  unfold spec_FormValid.f
  exact sFormValid_l xs hn xs.length 0 (by omega) (by omega)
theorem iFour_ev {a b c d : Int} (hm : ∀ t ∈ [a, b, c, d], t ≠ 0 ∧ -30 ≤ t ∧ t ≤ 30) : Ev (fun k => impl_zeroOfFour.f k [a, b, c, d]) (fourF a b c d) := by
  have ha := hm a (by simp); have hb := hm b (by simp); have hc := hm c (by simp); have hd := hm d (by simp)
  have outer : ∀ (m x : Nat), x + m = 4 → Ev (fun k => impl_zeroOfFour.l0 k a b c d (x : Int)) (foundV (fourX a b c d m x)) := by
    intro m
    induction m with
    | zero => intro x h; exact Ev.step (fun k => impl_zeroOfFour.l0.eq_2 _ _ _ _ _ k) (Ev.neg (by omega) (Ev.now _))
    | succ m ih =>
      intro x h
      have next := ih (x + 1) (by omega)
      have inner : ∀ (m' y : Nat), y + m' = 4 → Ev (fun k => impl_zeroOfFour.l1 k a b c d (x : Int) (y : Int)) (foundV (match fourY a b c d x m' y with | some v => some v | none => fourX a b c d m (x + 1))) := by
        intro m'
        induction m' with
        | zero =>
          intro y hy
          refine Ev.step (fun k => impl_zeroOfFour.l1.eq_2 _ _ _ _ _ _ k) (Ev.neg (by omega) ?_)
          rw [w64s (by omega)]; exact next
        | succ m' ihm =>
          intro y hy
          have again := ihm (y + 1) (by omega)
          have T := four_t (a := a) (b := b) (x := x) (y := y) ha.2 hb.2 (by omega) (by omega)
          have et : wrap64 ((wrap64 ((wrap64 (a * (x : Int))) * (x : Int))) + (wrap64 ((wrap64 (b * (y : Int))) * (y : Int)))) = a * x * x + b * y * y := by
            rw [w64 (a := a * (x : Int)) (by omega) (by omega), w64 (a := a * (x : Int) * x) (by omega) (by omega), w64 (a := b * (y : Int)) (by omega) (by omega), w64 (a := b * (y : Int) * y) (by omega) (by omega), w64 (by omega) (by omega)]
          refine Ev.step (fun k => impl_zeroOfFour.l1.eq_2 _ _ _ _ _ _ k) (Ev.pos (by omega) ?_)
          unfold fourY
          by_cases h0 : x = 0 ∧ y = 0
          · obtain ⟨rfl, rfl⟩ := h0
            rw [if_pos ⟨rfl, rfl⟩]
            refine Ev.pos rfl (Ev.step (fun k => impl_zeroOfFour.j2.eq_2 _ _ _ _ _ _ _ k) (Ev.pos rfl ?_))
            rw [w64s (by omega)]; exact again
          · rw [if_neg h0]
            have body : Ev (fun k => impl_zeroOfFour.j2 k a b c d (x : Int) (y : Int) false) (foundV (match (match stepF a b c d (x : Int) (y : Int) with | some v => some v | none => fourY a b c d x m' (y + 1)) with | some v => some v | none => fourX a b c d m (x + 1))) := by
              refine Ev.step (fun k => impl_zeroOfFour.j2.eq_2 _ _ _ _ _ _ _ k) (Ev.neg (by simp) ?_)
              rw [et]
              unfold stepF
              obtain ⟨t, ht⟩ : ∃ t, a * (x : Int) * x + b * (y : Int) * y = t := ⟨_, rfl⟩
              rw [ht]
              by_cases t0 : t = 0
              · rw [if_pos t0]
                refine Ev.pos t0 (Ev.bind (iPlain_ev _ ⟨by simp, fun z hz => ?_⟩ ?_) (Ev.now _))
                · simp only [List.mem_cons, List.not_mem_nil, or_false] at hz; omega
                · unfold some0; simp only [List.any_cons, Bool.or_eq_true, bne_iff_ne]
                  rcases (by omega : x ≠ 0 ∨ y ≠ 0) with k | k
                  · exact .inl (by omega)
                  · exact .inr (.inl (by omega))
              · rw [if_neg t0]
                have tb : -540 ≤ t ∧ t ≤ 540 := by omega
                have rb := root_bd t0 tb
                have ci := core_is t0 tb
                have e : (coreT t).1.natAbs = coreN t := sx_abs _ _
                refine Ev.neg t0 (Ev.bind (iCoreT_ev t0 tb) ?_)
                have tm : Tame [c, d, (coreT t).1] := ⟨by simp, fun z hz => by simp only [List.mem_cons, List.not_mem_nil, or_false] at hz; omega⟩
                by_cases h30 : 30 < coreN t
                · rw [if_pos h30]
                  have no : Ev (fun k => impl_ZeroFind3.f k [c, d, (coreT t).1]) ([], false) := by
                    unfold impl_ZeroFind3.f
                    refine Ev.bind (iFormValid_ev _ tm) (Ev.neg ?_ (Ev.now _))
                    rw [fOk_no (x := (coreT t).1) (by simp) (by omega)]; decide
                  refine Ev.bind no (Ev.neg (by simp) ?_)
                  rw [w64s (by omega)]; exact again
                · rw [if_neg h30]
                  have hm3 : ∀ z ∈ [c, d, (coreT t).1], z ≠ 0 ∧ -30 ≤ z ∧ z ≤ 30 := by
                    intro z hz; simp only [List.mem_cons, List.not_mem_nil, or_false] at hz
                    rcases hz with rfl | rfl | rfl
                    · exact hc
                    · exact hd
                    · omega
                  have hf3 : fOk [c, d, (coreT t).1] = true := by unfold fOk; exact decide_eq_true ⟨by simp, by simp, hm3⟩
                  refine Ev.bind (iFind3_ev tm hf3 (by simp)) ?_
                  rcases findF_zero (f := [c, d, (coreT t).1]) hf3 with e3 | ⟨w, e3, hz, _, hb9⟩
                  · rw [e3]
                    have e3 : findT c d (coreT t).1 = ([], false) := e3
                    rw [e3]
                    refine Ev.neg (by simp) ?_
                    rw [w64s (by omega)]; exact again
                  · rw [e3]
                    have e3 : findT c d (coreT t).1 = (w, true) := e3
                    rw [e3]
                    obtain ⟨z1, z2, z3, z4⟩ := zB_of hz
                    obtain ⟨p, q, r, rfl⟩ := list3 (vOk_len z2)
                    have bp := hb9 p (by simp); have bq := hb9 q (by simp); have br := hb9 r (by simp)
                    have m1 := mul2_bd (a := (x : Int)) (b := r) (A := 3) (B := 9000) (by omega) (by omega)
                    have m2 := mul2_bd (a := (y : Int)) (b := r) (A := 3) (B := 9000) (by omega) (by omega)
                    have m3 := mul2_bd (a := (rootT t : Int)) (b := p) (A := 23) (B := 9000) (by omega) (by omega)
                    have m4 := mul2_bd (a := (rootT t : Int)) (b := q) (A := 23) (B := 9000) (by omega) (by omega)
                    refine Ev.pos rfl (Ev.pos (by simp) (Ev.pos (by simp) (Ev.pos (by simp) ?_)))
                    refine Ev.bind (a := plainL [(x : Int) * r, (y : Int) * r, (rootT t : Int) * p, (rootT t : Int) * q]) ?_ (Ev.now _)
                    show Ev (fun k => impl_plain.f k [wrap64 ((x : Int) * r), wrap64 ((y : Int) * r), wrap64 ((rootT t : Int) * p), wrap64 ((rootT t : Int) * q)]) _
                    rw [w64 (a := (x : Int) * r) (by omega) (by omega), w64 (a := (y : Int) * r) (by omega) (by omega), w64 (a := (rootT t : Int) * p) (by omega) (by omega), w64 (a := (rootT t : Int) * q) (by omega) (by omega)]
                    refine iPlain_ev _ ⟨by simp, fun z hz => ?_⟩ ?_
                    · simp only [List.mem_cons, List.not_mem_nil, or_false] at hz
                      rcases hz with rfl | rfl | rfl | rfl <;> omega
                    · unfold some0 at z3 ⊢
                      simp only [List.any_cons, List.any_nil, Bool.or_eq_true, bne_iff_ne] at z3 ⊢
                      rcases z3 with k | k | k | k
                      · exact .inr (.inr (.inl (Int.mul_ne_zero (by omega) k)))
                      · exact .inr (.inr (.inr (.inl (Int.mul_ne_zero (by omega) k))))
                      · rcases (by omega : x ≠ 0 ∨ y ≠ 0) with j | j
                        · exact .inl (Int.mul_ne_zero (by omega) k)
                        · exact .inr (.inl (Int.mul_ne_zero (by omega) k))
                      · cases k
            by_cases hx : (x : Int) = 0
            · refine Ev.pos hx ?_
              rw [show ((y : Int) == 0) = false from beq_eq_false_iff_ne.2 (by omega)]
              exact body
            · exact Ev.neg hx body
      exact Ev.step (fun k => impl_zeroOfFour.l0.eq_2 _ _ _ _ _ k) (Ev.pos (by omega) (inner 4 0 rfl))
  unfold impl_zeroOfFour.f
  exact Ev.pos (by simp) (Ev.pos (by simp) (Ev.pos (by simp) (Ev.pos (by simp) (outer 4 0 rfl))))
theorem iFindA_ev {f : List Int} (ht : Tame f) (hf : fOk f = true) : Ev (fun k => impl_ZeroFind.f k f) (findA f) := by
  have hm := fOk_mem hf
  have hl := fOk_len hf
  match f, hm, hl, hf, ht with
  | [a], _, _, hf, ht => exact iFind_ev ht hf (by simp)
  | [a, b], _, _, hf, ht => exact iFind_ev ht hf (by simp)
  | [a, b, c], _, _, hf, ht => exact iFind_ev ht hf (by simp)
  | [a, b, c, d], hm, _, hf, ht =>
    unfold impl_ZeroFind.f
    exact Ev.bind (iFormValid_ev _ ht) (Ev.pos hf (Ev.neg (by simp) (Ev.neg (by simp) (Ev.pos (by simp) (Ev.bind (iFour_ev hm) (Ev.now _))))))
theorem sFour_ev {a b c d : Int} (hm : ∀ t ∈ [a, b, c, d], t ≠ 0 ∧ -30 ≤ t ∧ t ≤ 30) : Ev (fun k => spec_l5Four.f k [a, b, c, d]) (fourF a b c d) := by
  have ha := hm a (by simp); have hb := hm b (by simp); have hc := hm c (by simp); have hd := hm d (by simp)
  have outer : ∀ (m x : Nat), x + m = 4 → Ev (fun k => spec_l5Four.l0 k [a, b, c, d] (x : Int)) (foundV (fourX a b c d m x)) := by
    intro m
    induction m with
    | zero => intro x h; exact Ev.step (fun k => spec_l5Four.l0.eq_2 _ _ k) (Ev.neg (by omega) (Ev.now _))
    | succ m ih =>
      intro x h
      have next := ih (x + 1) (by omega)
      have inner : ∀ (m' y : Nat), y + m' = 4 → Ev (fun k => spec_l5Four.l1 k [a, b, c, d] (x : Int) (y : Int)) (foundV (match fourY a b c d x m' y with | some v => some v | none => fourX a b c d m (x + 1))) := by
        intro m'
        induction m' with
        | zero =>
          intro y hy
          refine Ev.step (fun k => spec_l5Four.l1.eq_2 _ _ _ k) (Ev.neg (by omega) ?_)
          rw [w64s (by omega)]; exact next
        | succ m' ihm =>
          intro y hy
          have again := ihm (y + 1) (by omega)
          have T := four_t (a := a) (b := b) (x := x) (y := y) ha.2 hb.2 (by omega) (by omega)
          have et : wrap64 ((wrap64 ((wrap64 (a * (x : Int))) * (x : Int))) + (wrap64 ((wrap64 (b * (y : Int))) * (y : Int)))) = a * x * x + b * y * y := by
            rw [w64 (a := a * (x : Int)) (by omega) (by omega), w64 (a := a * (x : Int) * x) (by omega) (by omega), w64 (a := b * (y : Int)) (by omega) (by omega), w64 (a := b * (y : Int) * y) (by omega) (by omega), w64 (by omega) (by omega)]
          have et0 : wrap64 ((wrap64 ((wrap64 ((rd [a, b, c, d] 0) * (x : Int))) * (x : Int))) + (wrap64 ((wrap64 ((rd [a, b, c, d] 1) * (y : Int))) * (y : Int)))) = a * x * x + b * y * y := et
          refine Ev.step (fun k => spec_l5Four.l1.eq_2 _ _ _ k) (Ev.pos (by omega) ?_)
          unfold fourY
          by_cases h0 : x = 0 ∧ y = 0
          · obtain ⟨rfl, rfl⟩ := h0
            rw [if_pos ⟨rfl, rfl⟩]
            refine Ev.pos rfl (Ev.step (fun k => spec_l5Four.j2.eq_2 _ _ _ _ k) (Ev.pos rfl ?_))
            rw [w64s (by omega)]; exact again
          · rw [if_neg h0]
            have body : Ev (fun k => spec_l5Four.j2 k [a, b, c, d] (x : Int) (y : Int) false) (foundV (match (match stepF a b c d (x : Int) (y : Int) with | some v => some v | none => fourY a b c d x m' (y + 1)) with | some v => some v | none => fourX a b c d m (x + 1))) := by
              refine Ev.step (fun k => spec_l5Four.j2.eq_2 _ _ _ _ k) (Ev.neg (by simp) (Ev.pos (by simp) (Ev.pos (by simp) ?_)))
              rw [et0]
              unfold stepF
              obtain ⟨t, ht⟩ : ∃ t, a * (x : Int) * x + b * (y : Int) * y = t := ⟨_, rfl⟩
              rw [ht]
              by_cases t0 : t = 0
              · rw [if_pos t0]
                refine Ev.pos t0 (Ev.bind (l5Plain_ev _ ?_ (by simp) (fun z hz => ?_)) (Ev.now _))
                · unfold some0; simp only [List.any_cons, Bool.or_eq_true, bne_iff_ne]
                  rcases (by omega : x ≠ 0 ∨ y ≠ 0) with k | k
                  · exact .inl (by omega)
                  · exact .inr (.inl (by omega))
                · simp only [List.mem_cons, List.not_mem_nil, or_false] at hz; omega
              · rw [if_neg t0]
                have tb : -540 ≤ t ∧ t ≤ 540 := by omega
                have rb := root_bd t0 tb
                have ci := core_is t0 tb
                have e : (coreT t).1.natAbs = coreN t := sx_abs _ _
                refine Ev.neg t0 (Ev.bind (sCoreT_ev t0 tb) (Ev.bind0 (l1Size_eq (by omega) (by omega)) ?_))
                by_cases h30 : 30 < coreN t
                · rw [if_pos h30]
                  refine Ev.pos (by omega) ?_
                  rw [w64s (by omega)]; exact again
                · rw [if_neg h30]
                  have hm3 : ∀ z ∈ [c, d, (coreT t).1], z ≠ 0 ∧ -30 ≤ z ∧ z ≤ 30 := by
                    intro z hz; simp only [List.mem_cons, List.not_mem_nil, or_false] at hz
                    rcases hz with rfl | rfl | rfl
                    · exact hc
                    · exact hd
                    · omega
                  have hf3 : fOk [c, d, (coreT t).1] = true := by unfold fOk; exact decide_eq_true ⟨by simp, by simp, hm3⟩
                  refine Ev.neg (by omega) (Ev.pos (by simp) (Ev.pos (by simp) (Ev.bind (a := findT c d (coreT t).1) (sThree_ev hm3) ?_)))
                  rcases findF_zero (f := [c, d, (coreT t).1]) hf3 with e3 | ⟨w, e3, hz, _, hb9⟩
                  · have e3 : findT c d (coreT t).1 = ([], false) := e3
                    rw [e3]
                    refine Ev.neg (by simp) ?_
                    rw [w64s (by omega)]; exact again
                  · have e3 : findT c d (coreT t).1 = (w, true) := e3
                    rw [e3]
                    obtain ⟨z1, z2, z3, z4⟩ := zB_of hz
                    obtain ⟨p, q, r, rfl⟩ := list3 (vOk_len z2)
                    have bp := hb9 p (by simp); have bq := hb9 q (by simp); have br := hb9 r (by simp)
                    have m1 := mul2_bd (a := (x : Int)) (b := r) (A := 3) (B := 9000) (by omega) (by omega)
                    have m2 := mul2_bd (a := (y : Int)) (b := r) (A := 3) (B := 9000) (by omega) (by omega)
                    have m3 := mul2_bd (a := (rootT t : Int)) (b := p) (A := 23) (B := 9000) (by omega) (by omega)
                    have m4 := mul2_bd (a := (rootT t : Int)) (b := q) (A := 23) (B := 9000) (by omega) (by omega)
                    refine Ev.pos rfl (Ev.pos (by simp) (Ev.pos (by simp) (Ev.pos (by simp) ?_)))
                    refine Ev.bind (a := plainL [(x : Int) * r, (y : Int) * r, (rootT t : Int) * p, (rootT t : Int) * q]) ?_ (Ev.now _)
                    show Ev (fun k => spec_l5Plain.f k [wrap64 ((x : Int) * r), wrap64 ((y : Int) * r), wrap64 ((rootT t : Int) * p), wrap64 ((rootT t : Int) * q)]) _
                    rw [w64 (a := (x : Int) * r) (by omega) (by omega), w64 (a := (y : Int) * r) (by omega) (by omega), w64 (a := (rootT t : Int) * p) (by omega) (by omega), w64 (a := (rootT t : Int) * q) (by omega) (by omega)]
                    refine l5Plain_ev _ ?_ (by simp) (fun z hz => ?_)
                    · unfold some0 at z3 ⊢
                      simp only [List.any_cons, List.any_nil, Bool.or_eq_true, bne_iff_ne] at z3 ⊢
                      rcases z3 with k | k | k | k
                      · exact .inr (.inr (.inl (Int.mul_ne_zero (by omega) k)))
                      · exact .inr (.inr (.inr (.inl (Int.mul_ne_zero (by omega) k))))
                      · rcases (by omega : x ≠ 0 ∨ y ≠ 0) with j | j
                        · exact .inl (Int.mul_ne_zero (by omega) k)
                        · exact .inr (.inl (Int.mul_ne_zero (by omega) k))
                      · cases k
                    · simp only [List.mem_cons, List.not_mem_nil, or_false] at hz
                      rcases hz with rfl | rfl | rfl | rfl <;> omega
            by_cases hx : (x : Int) = 0
            · refine Ev.pos hx ?_
              rw [show ((y : Int) == 0) = false from beq_eq_false_iff_ne.2 (by omega)]
              exact body
            · exact Ev.neg hx body
      exact Ev.step (fun k => spec_l5Four.l0.eq_2 _ _ k) (Ev.pos (by omega) (inner 4 0 rfl))
  unfold spec_l5Four.f
  exact outer 4 0 rfl
theorem sFind_ev {f : List Int} (hf : fOk f = true) : Ev (fun k => spec_ZeroFind.f k f) (findA f) := by
  have hm := fOk_mem hf
  have hl := fOk_len hf
  unfold spec_ZeroFind.f
  refine Ev.bind (sFormValid_ev f (by omega)) (Ev.pos hf ?_)
  match f, hm, hl with
  | [a], _, _ => exact Ev.neg (by simp) (Ev.neg (by simp) (Ev.neg (by simp) (Ev.now _)))
  | [a, b], hm, _ =>
    have b0 := hm a (by simp); have b1 := hm b (by simp)
    have ra := root_bd b0.1 (by omega); have rb := root_bd b1.1 (by omega)
    have ea : (coreT a).1.natAbs = coreN a := sx_abs _ _
    have eb : (coreT b).1.natAbs = coreN b := sx_abs _ _
    have ca := core_is b0.1 (by omega); have cb := core_is b1.1 (by omega)
    refine Ev.pos (by simp) (Ev.pos (by simp) (Ev.bind (show Ev (fun k => spec_l1Core.f k (rd [a, b] 0)) (coreT a) from sCoreT_ev (t := a) b0.1 (by omega)) (Ev.pos (by simp) (Ev.bind (show Ev (fun k => spec_l1Core.f k (rd [a, b] 1)) (coreT b) from sCoreT_ev (t := b) b1.1 (by omega)) ?_))))
    rw [w64 (a := (coreT a).1 + (coreT b).1) (by omega) (by omega)]
    show Ev _ (find2 a b)
    unfold find2
    by_cases c : (coreT a).1 = -(coreT b).1
    · rw [if_pos c]
      refine Ev.pos (by omega) (Ev.bind (l5Plain_ev _ ?_ (by simp) (fun x hx => ?_)) (Ev.now _))
      · unfold some0 coreT; simp only [List.any_cons, Bool.or_eq_true, bne_iff_ne]; exact .inl (by omega)
      · unfold coreT at hx; simp only [List.mem_cons, List.not_mem_nil, or_false] at hx; omega
    · rw [if_neg c]
      exact Ev.neg (by omega) (Ev.now _)
  | [a, b, c], hm, _ => exact Ev.neg (by simp) (Ev.pos (by simp) (Ev.bind (sThree_ev hm) (Ev.now _)))
  | [a, b, c, d], hm, _ => exact Ev.neg (by simp) (Ev.neg (by simp) (Ev.pos (by simp) (Ev.bind (sFour_ev hm) (Ev.now _))))
theorem iRest_eq {a m : Int} (hm : 0 < m) (hm1 : m ≤ 1000) (h : -1000000000000000 ≤ a) (h1 : a ≤ 1000000000000000) : impl_rest.f a m = some (a % m) := by
  unfold impl_rest.f
  rw [if_neg (by omega)]
  have h2 := Int.tmod_add_mul_tdiv a m
  have h3 := Int.natAbs_tmod a m
  have h4 := Nat.mod_lt a.natAbs (show 0 < m.natAbs by omega)
  have h5 : -m < Int.tmod a m ∧ Int.tmod a m < m := by omega
  rw [w64 (a := Int.tmod a m + m) (by omega) (by omega), Int.tmod_eq_emod_of_nonneg (by omega)]
  conv => rhs; rw [← h2]
  rw [Int.add_mul_emod_self_left, Int.add_emod_right]
theorem iSplit_l {p : Nat} (hp : 2 ≤ p) (hp1 : p ≤ 1000) : ∀ (k c : Nat) (n u : Int), IsVU p n k u → -1000000000000000 ≤ n → n ≤ 1000000000000000 → c + k ≤ 2000000000000000 → Ev (fun K => impl_split.l0 K n (p : Int) (c : Int)) (((c + k : Nat) : Int), u) := by
  intro k
  induction k with
  | zero =>
    intro c n u h _ _ _
    have e : n = u := by rw [h.1]; simp
    subst e
    refine Ev.step (fun K => impl_split.l0.eq_2 _ _ _ K) (Ev.neg (by omega) (Ev.neg (fun k => h.2 (Int.dvd_of_tmod_eq_zero k)) (Ev.nows rfl)))
  | succ k ih =>
    intro c n u h h1 h2 h3
    have e : n = (p : Int) * ((p : Int) ^ k * u) := by rw [h.1, Int.pow_succ, Int.mul_comm ((p : Int) ^ k) (p : Int), Int.mul_assoc]
    have ab : ((p : Int) ^ k * u).natAbs ≤ n.natAbs := by
      have e3 : n.natAbs = ((p : Int)).natAbs * ((p : Int) ^ k * u).natAbs := (congrArg Int.natAbs e).trans (Int.natAbs_mul _ _)
      rw [e3]
      exact Nat.le_mul_of_pos_left _ (show 0 < ((p : Int)).natAbs by rw [Int.natAbs_natCast]; omega)
    have hv : IsVU p ((p : Int) ^ k * u) k u := ⟨rfl, h.2⟩
    generalize (p : Int) ^ k * u = y at *
    refine Ev.step (fun K => impl_split.l0.eq_2 _ _ _ K) (Ev.neg (by omega) (Ev.pos (by rw [e]; exact Int.mul_tmod_right _ _) ?_))
    rw [show Int.tdiv n (p : Int) = y by rw [e]; exact Int.mul_tdiv_cancel_left _ (show (p : Int) ≠ 0 by omega), w64 (a := y) (by omega) (by omega), w64s (by omega), show c + (k + 1) = c + 1 + k by omega]
    exact ih (c + 1) _ u hv (by omega) (by omega) (by omega)
theorem iSplit_ex {p : Nat} (hp : 2 ≤ p) (hp1 : p ≤ 1000) {n : Int} (h0 : n ≠ 0) (h : -1000000 ≤ n ∧ n ≤ 1000000) : ∃ (k : Nat) (u : Int), IsVU p n k u ∧ k ≤ 1000000 ∧ (-1000000 ≤ u ∧ u ≤ 1000000) ∧ Ev (fun K => impl_split.f K n (p : Int)) ((k : Int), u) := by
  obtain ⟨k, u, h1, h2, h3⟩ := vu_ex hp n.natAbs n (Nat.le_refl _) h0
  refine ⟨k, u, h1, by omega, by omega, ?_⟩
  unfold impl_split.f
  have := iSplit_l hp hp1 k 0 n u h1 (by omega) (by omega) (by omega)
  rw [Nat.zero_add] at this
  exact this
theorem iPower_ev {a : Int} (ha : a = 1 ∨ a = -1) {e : Int} (he : e = 0 ∨ e = 1) : Ev (fun k => impl_power.f k a e) (if e = 1 then a else 1) := by
  unfold impl_power.f
  rcases he with rfl | rfl
  · exact Ev.step (fun k => impl_power.l0.eq_2 _ _ _ _ k) (Ev.neg (by decide) (Ev.nows rfl))
  · refine Ev.step (fun k => impl_power.l0.eq_2 _ _ _ _ k) (Ev.pos (by decide) ?_)
    rw [w64 (a := 1 * a) (by omega) (by omega), w64 (a := (0 : Int) + 1) (by decide) (by decide), Int.one_mul]
    exact Ev.step (fun k => impl_power.l0.eq_2 _ _ _ _ k) (Ev.neg (by decide) (Ev.nows rfl))
theorem iResidue_l {p r : Nat} (hp : 2 ≤ p) (hp1 : p ≤ 1000) : ∀ (m x : Nat), x + m = p / 2 + 1 → 1 ≤ x → (∀ y, 1 ≤ y → y < x → y * y % p ≠ r) → Ev (fun k => impl_residue.l0 k (p : Int) (r : Int) (x : Int)) (if chi p r then -1 else 1) := by
  have hd : Int.tdiv (p : Int) 2 = ((p / 2 : Nat) : Int) := by rw [Int.tdiv_eq_ediv_of_nonneg (by omega)]; omega
  intro m
  induction m with
  | zero =>
    intro x h _ hy
    refine Ev.step (fun k => impl_residue.l0.eq_2 _ _ _ k) ?_
    rw [hd, w64 (by omega) (by omega)]
    refine Ev.neg (by omega) (Ev.nows ?_)
    rw [if_pos]
    unfold chi
    rw [Bool.not_eq_true', List.any_eq_false]
    intro y hy1
    rw [List.mem_range] at hy1
    have := hy (y + 1) (by omega) (by omega)
    simpa using this
  | succ m ih =>
    intro x h h1 hy
    refine Ev.step (fun k => impl_residue.l0.eq_2 _ _ _ k) ?_
    rw [hd, w64 (a := ((p / 2 : Nat) : Int)) (by omega) (by omega)]
    have hx : x * x ≤ 1000 * 1000 := Nat.mul_le_mul (by omega) (by omega)
    have e : Int.tmod (wrap64 ((x : Int) * (x : Int))) (p : Int) = ((x * x % p : Nat) : Int) := by
      rw [show (x : Int) * (x : Int) = ((x * x : Nat) : Int) by push_cast; rfl, w64 (by omega) (by omega), Int.tmod_eq_emod_of_nonneg (by omega)]; rfl
    refine Ev.pos (by omega) (Ev.neg (by omega) ?_)
    rw [e]
    by_cases hr : x * x % p = r
    · refine Ev.pos (by omega) (Ev.nows ?_)
      rw [if_neg]
      unfold chi
      rw [Bool.not_eq_true, Bool.not_eq_false', List.any_eq_true]
      exact ⟨x - 1, List.mem_range.2 (by omega), by rw [show x - 1 + 1 = x by omega, beq_iff_eq]; exact hr⟩
    · refine Ev.neg (by omega) ?_
      rw [w64s (by omega)]
      refine ih (x + 1) (by omega) (by omega) (fun y h2 h3 => ?_)
      rcases (by omega : y < x ∨ y = x) with h4 | rfl
      · exact hy y h2 h4
      · exact hr
theorem iResidue_ev {p : Nat} (hp : 2 ≤ p) (hp1 : p ≤ 1000) {u : Int} (hu : ¬ (p : Int) ∣ u) (h : -1000000 ≤ u ∧ u ≤ 1000000) : Ev (fun k => impl_residue.f k u (p : Int)) (if chi p (rOf p u) then -1 else 1) := by
  unfold impl_residue.f
  have hr := r_lt hp u
  have h0 : rOf p u ≠ 0 := fun k => hu ((r_zero hp u).1 k)
  refine Ev.bind0 (iRest_eq (by omega) (by omega) (by omega) (by omega)) ?_
  rw [← hr.2]
  exact Ev.neg (by omega) (iResidue_l hp hp1 (p / 2) 1 (by omega) (by omega) (fun y h1 h2 => by omega))
def sg (b : Bool) : Int := if b then -1 else 1
theorem sg_mul (a b : Bool) : sg a * sg b = sg (xor a b) := by cases a <;> cases b <;> rfl
theorem sg_pow (b : Bool) (k : Nat) : (if Int.tmod (k : Int) 2 = 1 then sg b else 1) = sg (b && (k % 2 == 1)) := by
  rw [Int.tmod_eq_emod_of_nonneg (by omega)]
  rcases Nat.mod_two_eq_zero_or_one k with h | h
  · rw [if_neg (by omega), h]; cases b <;> rfl
  · rw [if_pos (by omega), h]; cases b <;> rfl
theorem par (k : Nat) : Int.tmod (k : Int) 2 = 0 ∨ Int.tmod (k : Int) 2 = 1 := by
  rw [Int.tmod_eq_emod_of_nonneg (by omega)]; omega
theorem sg_cases (b : Bool) : sg b = 1 ∨ sg b = -1 := by cases b <;> simp [sg]
theorem mul_odd (i j h : Nat) : (i * j * h % 2 == 1) = ((h % 2 == 1) && ((i % 2 == 1) && (j % 2 == 1))) := by
  rcases Nat.mod_two_eq_zero_or_one i with a | a <;> rcases Nat.mod_two_eq_zero_or_one j with b | b <;> rcases Nat.mod_two_eq_zero_or_one h with c | c <;> simp [Nat.mul_mod, a, b, c]
theorem iSymbol_odd {p : Nat} (hp : p ∈ OP) {a b : Int} (a0 : a ≠ 0) (b0 : b ≠ 0) (ha : -1000000 ≤ a ∧ a ≤ 1000000) (hb : -1000000 ≤ b ∧ b ≤ 1000000) {c d : Bool × Bool} (hc : CL p a c) (hd : CL p b d) :
    Ev (fun k => impl_symbol.f k a b (p : Int)) (sg (symB ((p - 1) / 2 % 2 == 1) c d)) := by
  have hp2 := op_two hp
  obtain ⟨i, u, h1, h2, h3, h4⟩ := iSplit_ex hp2.1 (by omega) a0 ha
  obtain ⟨j, v, h5, h6, h7, h8⟩ := iSplit_ex hp2.1 (by omega) b0 hb
  obtain rfl := cl_one hp2.1 hc ⟨i, u, h1, rfl⟩
  obtain rfl := cl_one hp2.1 hd ⟨j, v, h5, rfl⟩
  unfold impl_symbol.f
  refine Ev.neg (by omega) (Ev.bind h4 (Ev.bind h8 (Ev.neg (by omega) ?_)))
  have odd : (p - 1) % 2 = 0 := by unfold OP at hp; simp at hp; omega
  obtain ⟨g, hg⟩ : ∃ g, p - 1 = 2 * g := ⟨(p - 1) / 2, by omega⟩
  have hij : i * j ≤ 1000000 * 1000000 := Nat.mul_le_mul h2 h6
  have hijg : i * j * g ≤ 1000000 * 1000000 * 1000 := Nat.mul_le_mul hij (by omega)
  have e1 : Int.tmod (wrap64 (Int.tdiv (wrap64 (wrap64 ((i : Int) * (j : Int)) * wrap64 ((p : Int) - 1))) 2)) 2 = Int.tmod ((i * j * g : Nat) : Int) 2 := by
    rw [show (i : Int) * (j : Int) = ((i * j : Nat) : Int) by push_cast; rfl, w64 (a := ((i * j : Nat) : Int)) (by omega) (by omega), w64 (a := (p : Int) - 1) (by omega) (by omega),
      show ((i * j : Nat) : Int) * ((p : Int) - 1) = 2 * ((i * j * g : Nat) : Int) by rw [show (p : Int) - 1 = 2 * (g : Int) by omega]; push_cast; grind,
      w64 (a := 2 * ((i * j * g : Nat) : Int)) (by omega) (by omega), Int.mul_tdiv_cancel_left _ (by decide), w64 (by omega) (by omega)]
  have e2 := sg_pow true (i * j * g)
  have p1 : Ev (fun k => impl_power.f k (-1) (Int.tmod ((i * j * g : Nat) : Int) 2)) (sg (true && (i * j * g % 2 == 1))) := by
    rw [← e2]; exact iPower_ev (.inr rfl) (par _)
  have r1 := iResidue_ev hp2.1 (by omega) h1.2 h3
  have r2 := iResidue_ev hp2.1 (by omega) h5.2 h7
  have p2 : Ev (fun k => impl_power.f k (sg (chi p (rOf p u))) (Int.tmod (j : Int) 2)) (sg (chi p (rOf p u) && (j % 2 == 1))) := by
    rw [← sg_pow]; exact iPower_ev (sg_cases _) (par _)
  have p3 : Ev (fun k => impl_power.f k (sg (chi p (rOf p v))) (Int.tmod (i : Int) 2)) (sg (chi p (rOf p v) && (i % 2 == 1))) := by
    rw [← sg_pow]; exact iPower_ev (sg_cases _) (par _)
  simp only
  rw [e1]
  refine Ev.bind p1 (Ev.bind r1 (Ev.bind p2 (Ev.bind r2 (Ev.bind p3 (Ev.nows ?_)))))
  have s1 := sg_cases (true && (i * j * g % 2 == 1))
  rw [sg_mul]
  have s2 := sg_cases (xor (true && (i * j * g % 2 == 1)) (chi p (rOf p u) && (j % 2 == 1)))
  rw [w64 (a := sg _) (by omega) (by omega), sg_mul]
  have s3 := sg_cases (xor (xor (true && (i * j * g % 2 == 1)) (chi p (rOf p u) && (j % 2 == 1))) (chi p (rOf p v) && (i % 2 == 1)))
  rw [w64 (by omega) (by omega)]
  unfold symB
  rw [mul_odd, show (p - 1) / 2 = g by omega]
  congr 1
  cases (i % 2 == 1) <;> cases (j % 2 == 1) <;> cases (g % 2 == 1) <;> cases chi p (rOf p u) <;> cases chi p (rOf p v) <;> rfl
theorem iSquare_odd {p : Nat} (hp : p ∈ OP) {n : Int} (n0 : n ≠ 0) (hn : -1000000 ≤ n ∧ n ≤ 1000000) {c : Bool × Bool} (hc : CL p n c) : Ev (fun k => impl_localSquare.f k n (p : Int)) (!c.1 && !c.2) := by
  have hp2 := op_two hp
  obtain ⟨i, u, h1, h2, h3, h4⟩ := iSplit_ex hp2.1 (by omega) n0 hn
  obtain rfl := cl_one hp2.1 hc ⟨i, u, h1, rfl⟩
  unfold impl_localSquare.f
  refine Ev.neg (by omega) (Ev.bind h4 ?_)
  simp only
  rcases Nat.mod_two_eq_zero_or_one i with h | h
  · refine Ev.pos (by rw [Int.tmod_eq_emod_of_nonneg (by omega)]; omega) (Ev.neg (by omega) (Ev.bind (iResidue_ev hp2.1 (by omega) h1.2 h3) (Ev.nows ?_)))
    rw [h]
    cases chi p (rOf p u) <;> rfl
  · refine Ev.neg (by rw [Int.tmod_eq_emod_of_nonneg (by omega)]; omega) (Ev.nows ?_)
    rw [h]; rfl
theorem iSymbol_two {a b : Int} (a0 : a ≠ 0) (b0 : b ≠ 0) (ha : -1000000 ≤ a ∧ a ≤ 1000000) (hb : -1000000 ≤ b ∧ b ≤ 1000000) {T S : Nat} (hc : CT a T) (hd : CT b S) : Ev (fun k => impl_symbol.f k a b 2) (sg (sym2 T S)) := by
  obtain ⟨i, u, h1, h2, h3, h4⟩ := iSplit_ex (p := 2) (by omega) (by omega) a0 ha
  obtain ⟨j, v, h5, h6, h7, h8⟩ := iSplit_ex (p := 2) (by omega) (by omega) b0 hb
  obtain rfl := ct_one hc ⟨i, u, h1, rfl⟩
  obtain rfl := ct_one hd ⟨j, v, h5, rfl⟩
  have c1 := ct_parts (k := i) h1.2
  have c2 := ct_parts (k := j) h5.2
  have ru := rOf8 h1.2
  have rv := rOf8 h5.2
  unfold impl_symbol.f
  refine Ev.neg (by decide) (Ev.bind h4 (Ev.bind h8 (Ev.pos rfl (Ev.bind0 (iRest_eq (by decide) (by decide) (by show _ ≤ u; omega) (by show u ≤ _; omega)) (Ev.bind0 (iRest_eq (by decide) (by decide) (by show _ ≤ v; omega) (by show v ≤ _; omega)) ?_)))))
  simp only
  rw [← ru.1, ← rv.1]
  unfold sym2
  rw [c1.1, c1.2, c2.1, c2.2]
  generalize rOf 8 u = x at *
  generalize rOf 8 v = y at *
  have key : ∃ m : Nat, Int.tmod (wrap64 ((wrap64 ((wrap64 ((wrap64 (Int.tdiv (wrap64 ((x : Int) - 1)) 2)) * (wrap64 (Int.tdiv (wrap64 ((y : Int) - 1)) 2)))) + (wrap64 (Int.tdiv (wrap64 ((i : Int) * (wrap64 ((wrap64 ((y : Int) * y)) - 1)))) 8)))) + (wrap64 (Int.tdiv (wrap64 ((j : Int) * (wrap64 ((wrap64 ((x : Int) * x)) - 1)))) 8)))) 2 = Int.tmod (m : Int) 2 ∧ (m % 2 == 1) = (((x - 1) / 2 * ((y - 1) / 2) + i % 2 * ((y * y - 1) / 8) + j % 2 * ((x * x - 1) / 8)) % 2 == 1) := by
    have red : ∀ z : Int, (z = 1 ∨ z = 3 ∨ z = 5 ∨ z = 7) → ∃ q t : Int, wrap64 (Int.tdiv (wrap64 (z - 1)) 2) = q ∧ wrap64 (wrap64 (z * z) - 1) = 8 * t ∧ (z = 1 ∧ q = 0 ∧ t = 0 ∨ z = 3 ∧ q = 1 ∧ t = 1 ∨ z = 5 ∧ q = 2 ∧ t = 3 ∨ z = 7 ∧ q = 3 ∧ t = 6) := by
      intro z hz
      rcases hz with rfl | rfl | rfl | rfl
      · exact ⟨0, 0, by decide +kernel, by decide +kernel, by omega⟩
      · exact ⟨1, 1, by decide +kernel, by decide +kernel, by omega⟩
      · exact ⟨2, 3, by decide +kernel, by decide +kernel, by omega⟩
      · exact ⟨3, 6, by decide +kernel, by decide +kernel, by omega⟩
    obtain ⟨qx, tx, hx1, hx2, hx3⟩ := red (x : Int) (by omega)
    obtain ⟨qy, ty, hy1, hy2, hy3⟩ := red (y : Int) (by omega)
    rw [hx1, hy1, hx2, hy2]
    have td : ∀ (n : Nat) (t : Int), n ≤ 1000000 → 0 ≤ t → t ≤ 6 → wrap64 (Int.tdiv (wrap64 ((n : Int) * (8 * t))) 8) = (n : Int) * t := by
      intro n t hn h0 h1
      have hb : (n : Int) * t ≤ 1000000 * 6 := Int.mul_le_mul (by omega) h1 h0 (by omega)
      have hb0 : 0 ≤ (n : Int) * t := Int.mul_nonneg (by omega) h0
      rw [show (n : Int) * (8 * t) = 8 * ((n : Int) * t) by grind, w64 (a := 8 * ((n : Int) * t)) (by omega) (by omega), Int.mul_tdiv_cancel_left _ (by decide), w64 (by omega) (by omega)]
    rw [td i ty h2 (by omega) (by omega), td j tx h6 (by omega) (by omega)]
    obtain ⟨Qx, rfl⟩ : ∃ n : Nat, qx = n := ⟨qx.toNat, by omega⟩
    obtain ⟨Qy, rfl⟩ : ∃ n : Nat, qy = n := ⟨qy.toNat, by omega⟩
    obtain ⟨Tx, rfl⟩ : ∃ n : Nat, tx = n := ⟨tx.toNat, by omega⟩
    obtain ⟨Ty, rfl⟩ : ∃ n : Nat, ty = n := ⟨ty.toNat, by omega⟩
    have hq : Qx * Qy ≤ 3 * 3 := Nat.mul_le_mul (by omega) (by omega)
    have hi : i * Ty ≤ 1000000 * 6 := Nat.mul_le_mul h2 (by omega)
    have hj : j * Tx ≤ 1000000 * 6 := Nat.mul_le_mul h6 (by omega)
    refine ⟨Qx * Qy + i * Ty + j * Tx, ?_, ?_⟩
    · rw [show (Qx : Int) * (Qy : Int) = ((Qx * Qy : Nat) : Int) by push_cast; rfl, show (i : Int) * (Ty : Int) = ((i * Ty : Nat) : Int) by push_cast; rfl, show (j : Int) * (Tx : Int) = ((j * Tx : Nat) : Int) by push_cast; rfl,
        w64 (a := ((Qx * Qy : Nat) : Int)) (by omega) (by omega), w64 (a := ((Qx * Qy : Nat) : Int) + ((i * Ty : Nat) : Int)) (by omega) (by omega), w64 (by omega) (by omega)]
      push_cast; rfl
    · have ex : (x - 1) / 2 = Qx ∧ (x * x - 1) / 8 = Tx := by
        rcases hx3 with ⟨a, b, c⟩ | ⟨a, b, c⟩ | ⟨a, b, c⟩ | ⟨a, b, c⟩
        · obtain rfl : x = 1 := by omega
          omega
        · obtain rfl : x = 3 := by omega
          omega
        · obtain rfl : x = 5 := by omega
          omega
        · obtain rfl : x = 7 := by omega
          omega
      have ey : (y - 1) / 2 = Qy ∧ (y * y - 1) / 8 = Ty := by
        rcases hy3 with ⟨a, b, c⟩ | ⟨a, b, c⟩ | ⟨a, b, c⟩ | ⟨a, b, c⟩
        · obtain rfl : y = 1 := by omega
          omega
        · obtain rfl : y = 3 := by omega
          omega
        · obtain rfl : y = 5 := by omega
          omega
        · obtain rfl : y = 7 := by omega
          omega
      rw [ex.1, ex.2, ey.1, ey.2]
      congr 1
      rw [Nat.add_mod, Nat.add_mod (Qx * Qy) (i * Ty), Nat.mul_mod i, Nat.mul_mod j, Nat.add_mod _ (j % 2 * Tx), Nat.add_mod (Qx * Qy) (i % 2 * Ty), Nat.mul_mod (i % 2), Nat.mul_mod (j % 2)]
      simp
  obtain ⟨m, k1, k2⟩ := key
  rw [k1, ← k2]
  have := sg_pow true m
  refine Ev.bind (a := sg (true && (m % 2 == 1))) ?_ (Ev.nows (by simp))
  rw [← this]
  exact iPower_ev (.inr rfl) (par _)
theorem iSquare_two {n : Int} (n0 : n ≠ 0) (hn : -1000000 ≤ n ∧ n ≤ 1000000) {T : Nat} (hc : CT n T) : Ev (fun k => impl_localSquare.f k n 2) (T == 1) := by
  obtain ⟨i, u, h1, h2, h3, h4⟩ := iSplit_ex (p := 2) (by omega) (by omega) n0 hn
  obtain rfl := ct_one hc ⟨i, u, h1, rfl⟩
  have ru := rOf8 h1.2
  unfold impl_localSquare.f
  refine Ev.neg (by decide) (Ev.bind h4 ?_)
  simp only
  rcases Nat.mod_two_eq_zero_or_one i with h | h
  · refine Ev.pos (by rw [Int.tmod_eq_emod_of_nonneg (by omega)]; omega) (Ev.pos trivial (Ev.bind0 (iRest_eq (by decide) (by decide) (by omega) (by omega)) (Ev.nows ?_)))
    rw [← ru.1, if_neg (by omega), Nat.one_mul]
    rcases ru.2 with e | e | e | e <;> rw [e] <;> rfl
  · refine Ev.neg (by rw [Int.tmod_eq_emod_of_nonneg (by omega)]; omega) (Ev.nows ?_)
    rw [if_pos h]
    rcases ru.2 with e | e | e | e <;> rw [e] <;> rfl
theorem iLess_ev (f : List Int) (hn : f.length ≤ 1000000) : Ev (fun k => impl_lessTerms.f k f) (lessN f : Int) := by
  have go : ∀ (m i c : Nat), i + m = f.length → c ≤ i → c + lessN (f.drop i) = lessN f → Ev (fun k => impl_lessTerms.l0 k (c : Int) f (f.length : Int) (i : Int)) (lessN f : Int) := by
    intro m
    induction m with
    | zero =>
      intro i c h _ he
      rw [List.drop_of_length_le (by omega)] at he
      refine Ev.step (fun k => impl_lessTerms.l0.eq_2 _ _ _ _ k) (Ev.neg (by omega) (Ev.nows ?_))
      rw [← he]; rfl
    | succ m ih =>
      intro i c h hc he
      have hi : i < f.length := by omega
      rw [drop_rd hi] at he
      unfold lessN at he
      rw [List.countP_cons] at he
      refine Ev.step (fun k => impl_lessTerms.l0.eq_2 _ _ _ _ k) (Ev.pos (by omega) (Ev.pos (by omega) (Ev.pos (by omega) ?_)))
      rw [w64s (i := i) (by omega)]
      by_cases e : rd f (i : Int) < 0
      · rw [if_pos (by simpa using e)] at he
        refine Ev.pos e ?_
        rw [w64s (i := c) (by omega)]
        exact ih (i + 1) (c + 1) (by omega) (by omega) (by unfold lessN; omega)
      · rw [if_neg (by simpa using e)] at he
        exact Ev.neg e (ih (i + 1) c (by omega) (by omega) (by unfold lessN; omega))
  unfold impl_lessTerms.f
  exact go f.length 0 0 (by omega) (by omega) (by simp)
theorem iProduct_l (xs : List Int) (hn : xs.length ≤ 4) (hb : ∀ x ∈ xs, -30 ≤ x ∧ x ≤ 30) : ∀ (m i : Nat) (acc : Int), i + m = xs.length → acc.natAbs ≤ 30 ^ i → Ev (fun k => impl_product.l0 k acc xs (xs.length : Int) (i : Int)) ((xs.drop i).foldl (· * ·) acc) := by
  intro m
  induction m with
  | zero =>
    intro i acc h _
    exact Ev.step (fun k => impl_product.l0.eq_2 _ _ _ _ k) (Ev.neg (by omega) (Ev.nows (by rw [List.drop_of_length_le (by omega)]; rfl)))
  | succ m ih =>
    intro i acc h ha
    have hi : i < xs.length := by omega
    have hx := hb _ (rd_mem hi)
    have h1 : (acc * rd xs (i : Int)).natAbs ≤ 30 ^ (i + 1) := by
      rw [Int.natAbs_mul, Nat.pow_succ]
      exact Nat.mul_le_mul ha (by omega)
    have h2 : (30 : Nat) ^ (i + 1) ≤ 30 ^ 4 := Nat.pow_le_pow_right (by decide) (by omega)
    have h3 : (30 : Nat) ^ 4 = 810000 := by decide
    refine Ev.step (fun k => impl_product.l0.eq_2 _ _ _ _ k) (Ev.pos (by omega) (Ev.pos (by omega) (Ev.pos (by omega) ?_)))
    rw [w64 (a := acc * rd xs (i : Int)) (by omega) (by omega), w64s (by omega), drop_rd hi]
    exact ih (i + 1) _ (by omega) h1
theorem iProduct_ev (xs : List Int) (hn : xs.length ≤ 4) (hb : ∀ x ∈ xs, -30 ≤ x ∧ x ≤ 30) : Ev (fun k => impl_product.f k xs) (xs.foldl (· * ·) 1) := by
  unfold impl_product.f
  exact iProduct_l xs hn hb xs.length 0 1 (by omega) (by decide)
theorem inv_end (xs : List Int) (P acc : Int) : Ev (fun k => impl_invariant.l0 k xs P acc xs (xs.length : Int) (xs.length : Int)) acc :=
  Ev.step (fun k => impl_invariant.l0.eq_2 _ _ _ _ _ _ k) (Ev.neg (by omega) (Ev.now _))
theorem inv_out {xs : List Int} {P acc r : Int} {i : Nat} (hi : i < xs.length) (h : Ev (fun k => impl_invariant.l1 k xs P acc (rd xs (i : Int)) xs (xs.length : Int) (i : Int) (xs.take i) (i : Int) 0) r) : Ev (fun k => impl_invariant.l0 k xs P acc xs (xs.length : Int) (i : Int)) r := by
  refine Ev.step (fun k => impl_invariant.l0.eq_2 _ _ _ _ _ _ k) (Ev.pos (by omega) (Ev.pos (by omega) (Ev.pos (by omega) (Ev.pos (by omega) ?_))))
  rw [Int.toNat_natCast, show ((xs.take i).length : Int) = (i : Int) by rw [List.length_take]; omega]
  exact h
theorem inv_in {xs : List Int} {P r : Int} {i j : Nat} {c b : Bool} (hi : i < xs.length) (hn : xs.length ≤ 1000) (hj : j < i) (hs : Ev (fun k => impl_symbol.f k (rd xs (i : Int)) (rd xs (j : Int)) P) (sg b))
    (h : Ev (fun k => impl_invariant.l1 k xs P (sg (xor c b)) (rd xs (i : Int)) xs (xs.length : Int) (i : Int) (xs.take i) (i : Int) ((j + 1 : Nat) : Int)) r) : Ev (fun k => impl_invariant.l1 k xs P (sg c) (rd xs (i : Int)) xs (xs.length : Int) (i : Int) (xs.take i) (i : Int) (j : Int)) r := by
  have e : rd (xs.take i) (j : Int) = rd xs (j : Int) := by
    rw [rd_at, rd_at, List.getD_eq_getElem?_getD, List.getD_eq_getElem?_getD, List.getElem?_take, if_pos hj]
  refine Ev.step (fun k => impl_invariant.l1.eq_2 _ _ _ _ _ _ _ _ _ _ k) (Ev.pos (by omega) (Ev.pos (by omega) (Ev.pos (by rw [List.length_take]; omega) ?_)))
  rw [e]
  refine Ev.bind hs ?_
  have := sg_cases (xor c b)
  rw [sg_mul, w64 (a := sg (xor c b)) (by omega) (by omega), w64s (by omega)]
  exact h
theorem inv_next {xs : List Int} {P acc r : Int} {i : Nat} (hi : i < xs.length) (hn : xs.length ≤ 1000) (h : Ev (fun k => impl_invariant.l0 k xs P acc xs (xs.length : Int) ((i + 1 : Nat) : Int)) r) : Ev (fun k => impl_invariant.l1 k xs P acc (rd xs (i : Int)) xs (xs.length : Int) (i : Int) (xs.take i) (i : Int) (i : Int)) r := by
  refine Ev.step (fun k => impl_invariant.l1.eq_2 _ _ _ _ _ _ _ _ _ _ k) (Ev.neg (by omega) ?_)
  rw [w64s (by omega)]
  exact h
theorem iInv_three {a b c P : Int} {s1 s2 s3 : Bool} (h1 : Ev (fun k => impl_symbol.f k b a P) (sg s1)) (h2 : Ev (fun k => impl_symbol.f k c a P) (sg s2)) (h3 : Ev (fun k => impl_symbol.f k c b P) (sg s3)) :
    Ev (fun k => impl_invariant.f k [a, b, c] P) (sg (xor (xor s1 s2) s3)) := by
  unfold impl_invariant.f
  have e : xor (xor (xor false s1) s2) s3 = xor (xor s1 s2) s3 := by rw [Bool.false_xor]
  rw [← e]
  refine inv_out (i := 0) (by simp) (inv_next (i := 0) (by simp) (by simp) ?_)
  refine inv_out (i := 1) (by simp) (inv_in (i := 1) (j := 0) (c := false) (b := s1) (by simp) (by simp) (by omega) h1 (inv_next (i := 1) (by simp) (by simp) ?_))
  refine inv_out (i := 2) (by simp) (inv_in (i := 2) (j := 0) (b := s2) (by simp) (by simp) (by omega) h2 (inv_in (i := 2) (j := 1) (b := s3) (by simp) (by simp) (by omega) h3 (inv_next (i := 2) (by simp) (by simp) ?_)))
  exact inv_end [a, b, c] P _
theorem iInv_four {a b c d P : Int} {s1 s2 s3 s4 s5 s6 : Bool} (h1 : Ev (fun k => impl_symbol.f k b a P) (sg s1)) (h2 : Ev (fun k => impl_symbol.f k c a P) (sg s2)) (h3 : Ev (fun k => impl_symbol.f k c b P) (sg s3)) (h4 : Ev (fun k => impl_symbol.f k d a P) (sg s4)) (h5 : Ev (fun k => impl_symbol.f k d b P) (sg s5)) (h6 : Ev (fun k => impl_symbol.f k d c P) (sg s6)) :
    Ev (fun k => impl_invariant.f k [a, b, c, d] P) (sg (xor (xor (xor (xor (xor s1 s2) s3) s4) s5) s6)) := by
  unfold impl_invariant.f
  have e : xor (xor (xor (xor (xor (xor false s1) s2) s3) s4) s5) s6 = xor (xor (xor (xor (xor s1 s2) s3) s4) s5) s6 := by rw [Bool.false_xor]
  rw [← e]
  refine inv_out (i := 0) (by simp) (inv_next (i := 0) (by simp) (by simp) ?_)
  refine inv_out (i := 1) (by simp) (inv_in (i := 1) (j := 0) (c := false) (b := s1) (by simp) (by simp) (by omega) h1 (inv_next (i := 1) (by simp) (by simp) ?_))
  refine inv_out (i := 2) (by simp) (inv_in (i := 2) (j := 0) (b := s2) (by simp) (by simp) (by omega) h2 (inv_in (i := 2) (j := 1) (b := s3) (by simp) (by simp) (by omega) h3 (inv_next (i := 2) (by simp) (by simp) ?_)))
  refine inv_out (i := 3) (by simp) (inv_in (i := 3) (j := 0) (b := s4) (by simp) (by simp) (by omega) h4 (inv_in (i := 3) (j := 1) (b := s5) (by simp) (by simp) (by omega) h5 (inv_in (i := 3) (j := 2) (b := s6) (by simp) (by simp) (by omega) h6 (inv_next (i := 3) (by simp) (by simp) ?_))))
  exact inv_end [a, b, c, d] P _
theorem sg_eq (a b : Bool) : (sg a == sg b) = (a == b) := by cases a <;> cases b <;> rfl
theorem prod_bd : ∀ {a b : Int} {A B : Nat}, a.natAbs ≤ A → b.natAbs ≤ B → (a * b).natAbs ≤ A * B := fun h1 h2 => by rw [Int.natAbs_mul]; exact Nat.mul_le_mul h1 h2
theorem iVan_two {a b P : Int} (hP : P ≠ 0) (hb : ∀ x ∈ [a, b], -30 ≤ x ∧ x ≤ 30) {q : Bool} (h : Ev (fun k => impl_localSquare.f k (-(a * b)) P) q) : Ev (fun k => impl_vanishes.f k [a, b] P) q := by
  unfold impl_vanishes.f
  have ha := hb a (by simp); have hb1 := hb b (by simp)
  have bd := prod_bd (a := a) (b := b) (A := 30) (B := 30) (by omega) (by omega)
  refine Ev.bind (iProduct_ev [a, b] (by simp) hb) (Ev.neg hP (Ev.pos (by simp) ?_))
  rw [show [a, b].foldl (· * ·) 1 = a * b by simp, w64 (a := -(a * b)) (by omega) (by omega)]
  exact Ev.bind h (Ev.now _)
theorem iVan_three {a b c P : Int} (hP : P ≠ 0) (hb : ∀ x ∈ [a, b, c], -30 ≤ x ∧ x ≤ 30) {s1 s2 s3 N : Bool} (h1 : Ev (fun k => impl_symbol.f k b a P) (sg s1)) (h2 : Ev (fun k => impl_symbol.f k c a P) (sg s2)) (h3 : Ev (fun k => impl_symbol.f k c b P) (sg s3)) (hN : Ev (fun k => impl_symbol.f k (-1) (-(a * b * c)) P) (sg N)) :
    Ev (fun k => impl_vanishes.f k [a, b, c] P) (xor (xor s1 s2) s3 == N) := by
  unfold impl_vanishes.f
  have ha := hb a (by simp); have hb1 := hb b (by simp); have hc := hb c (by simp)
  have bd := prod_bd (a := a * b) (b := c) (A := 900) (B := 30) (prod_bd (a := a) (b := b) (A := 30) (B := 30) (by omega) (by omega)) (by omega)
  refine Ev.bind (iProduct_ev [a, b, c] (by simp) hb) (Ev.neg hP (Ev.neg (by simp) (Ev.pos (by simp) ?_)))
  rw [show [a, b, c].foldl (· * ·) 1 = a * b * c by simp, w64 (a := -(a * b * c)) (by omega) (by omega)]
  exact Ev.bind (iInv_three h1 h2 h3) (Ev.bind hN (Ev.nows (sg_eq _ _)))
theorem iVan_four {a b c d P : Int} (hP : P ≠ 0) (hb : ∀ x ∈ [a, b, c, d], -30 ≤ x ∧ x ≤ 30) {s1 s2 s3 s4 s5 s6 Q N : Bool} (h1 : Ev (fun k => impl_symbol.f k b a P) (sg s1)) (h2 : Ev (fun k => impl_symbol.f k c a P) (sg s2)) (h3 : Ev (fun k => impl_symbol.f k c b P) (sg s3)) (h4 : Ev (fun k => impl_symbol.f k d a P) (sg s4)) (h5 : Ev (fun k => impl_symbol.f k d b P) (sg s5)) (h6 : Ev (fun k => impl_symbol.f k d c P) (sg s6))
    (hQ : Ev (fun k => impl_localSquare.f k (a * b * c * d) P) Q) (hN : Ev (fun k => impl_symbol.f k (-1) (-1) P) (sg N)) :
    Ev (fun k => impl_vanishes.f k [a, b, c, d] P) (!Q || (xor (xor (xor (xor (xor s1 s2) s3) s4) s5) s6 == N)) := by
  unfold impl_vanishes.f
  refine Ev.bind (iProduct_ev [a, b, c, d] (by simp) hb) (Ev.neg hP (Ev.neg (by simp) (Ev.neg (by simp) (Ev.pos (by simp) ?_))))
  rw [show [a, b, c, d].foldl (· * ·) 1 = a * b * c * d by simp]
  refine Ev.bind hQ ?_
  cases Q with
  | true => exact Ev.pos rfl (Ev.bind (iInv_four h1 h2 h3 h4 h5 h6) (Ev.bind hN (Ev.nows (by rw [sg_eq]; rfl))))
  | false => exact Ev.neg (by simp) (Ev.nows rfl)
theorem ct_minus : CT (-1) 7 := ⟨0, -1, ⟨by simp, by decide⟩, by decide⟩
theorem iVan_zero {f v : List Int} (h : zeroB f v = true) {P : Nat} (hP : P = 0 ∨ P = 2 ∨ P ∈ OP) : Ev (fun k => impl_vanishes.f k f (P : Int)) true := by
  obtain ⟨z1, z2, z3, z4⟩ := zB_of h
  have hl := vOk_len z2
  have hfl := fOk_len z1
  have hf : ∀ x ∈ f, x ≠ 0 := fun x hx => (fOk_mem z1 x hx).1
  have hb : ∀ x ∈ f, -30 ≤ x ∧ x ≤ 30 := fun x hx => (fOk_mem z1 x hx).2
  have hv : ∃ x ∈ v, x ≠ 0 := by
    unfold some0 at z3
    rw [List.any_eq_true] at z3
    obtain ⟨x, hx, h⟩ := z3
    exact ⟨x, hx, by simpa using h⟩
  rcases hP with rfl | hP
  · unfold impl_vanishes.f
    obtain ⟨⟨a, ha, ha0⟩, b, hb', hb0⟩ := zero_sign hl hf z4 hv
    have l1 : 0 < lessN f := by unfold lessN; exact List.countP_pos_iff.2 ⟨a, ha, by simpa using ha0⟩
    have l2 : lessN f < f.length := by
      unfold lessN
      refine Nat.lt_of_le_of_ne List.countP_le_length (fun k => ?_)
      have := List.countP_eq_length.1 k b hb'
      simp at this; omega
    exact Ev.bind (iProduct_ev f hfl.2 hb) (Ev.pos rfl (Ev.bind (iLess_ev f (by omega)) (Ev.pos (by omega) (Ev.nows (decide_eq_true (by omega))))))
  · have P0 : (P : Int) ≠ 0 := by
      rcases hP with rfl | hP
      · decide
      · have := op_two hP; omega
    match f, hfl, hf, hb, hl, z4, z1 with
    | [a], _, hf, _, hl, z4, _ =>
      exfalso
      match v, hl with
      | [x], _ =>
        obtain ⟨y, hy, y0⟩ := hv
        obtain rfl : y = x := by simpa using hy
        have e : dot3 [a] [y] [y] = a * y * y + 0 := rfl
        rw [e, Int.add_zero] at z4
        exact Int.mul_ne_zero (Int.mul_ne_zero (hf a (by simp)) y0) y0 z4
    | [a, b], _, hf, hb, hl, z4, _ =>
      have a0 := hf a (by simp); have b0 := hf b (by simp)
      have ha := hb a (by simp); have hb1 := hb b (by simp)
      have bd := prod_bd (a := a) (b := b) (A := 30) (B := 30) (by omega) (by omega)
      have ne : -(a * b) ≠ 0 := by have := Int.mul_ne_zero a0 b0; omega
      refine Ev.to (iVan_two (q := true) P0 hb ?_) rfl
      rcases hP with rfl | hP
      · obtain ⟨A, hA⟩ := ct_ex a0; obtain ⟨B, hB⟩ := ct_ex b0
        have t := two_two hl hf z4 hv hA hB
        unfold van2 at t
        have hc := ct_mul ct_minus (ct_mul hA hB)
        rw [show (-1 : Int) * (a * b) = -(a * b) by omega] at hc
        exact Ev.to (iSquare_two ne (by omega) hc) t
      · obtain ⟨A, hA⟩ := cl_ex hP a0; obtain ⟨B, hB⟩ := cl_ex hP b0
        have t := odd_two hP hl hf z4 hv hA hB
        unfold vanB at t
        have hc := cl_mul hP (cl_minus hP) (cl_mul hP hA hB)
        rw [show (-1 : Int) * (a * b) = -(a * b) by omega] at hc
        exact Ev.to (iSquare_odd hP ne (by omega) hc) t
    | [a, b, c], _, hf, hb, hl, z4, _ =>
      have a0 := hf a (by simp); have b0 := hf b (by simp); have c0 := hf c (by simp)
      have ha := hb a (by simp); have hb1 := hb b (by simp); have hc1 := hb c (by simp)
      have bd := prod_bd (a := a * b) (b := c) (A := 900) (B := 30) (prod_bd (a := a) (b := b) (A := 30) (B := 30) (by omega) (by omega)) (by omega)
      have ne : -(a * b * c) ≠ 0 := by have := Int.mul_ne_zero (Int.mul_ne_zero a0 b0) c0; omega
      rcases hP with rfl | hP
      · obtain ⟨A, hA⟩ := ct_ex a0; obtain ⟨B, hB⟩ := ct_ex b0; obtain ⟨C, hC⟩ := ct_ex c0
        have t := two_three hl hf z4 hv hA hB hC
        unfold van2 at t
        have hm := ct_mul ct_minus (ct_mul (ct_mul hA hB) hC)
        rw [show (-1 : Int) * (a * b * c) = -(a * b * c) by omega] at hm
        exact Ev.to (iVan_three P0 hb (iSymbol_two b0 a0 (by omega) (by omega) hB hA) (iSymbol_two c0 a0 (by omega) (by omega) hC hA) (iSymbol_two c0 b0 (by omega) (by omega) hC hB) (iSymbol_two (by decide) ne (by decide) (by omega) ct_minus hm)) t
      · obtain ⟨A, hA⟩ := cl_ex hP a0; obtain ⟨B, hB⟩ := cl_ex hP b0; obtain ⟨C, hC⟩ := cl_ex hP c0
        have t := odd_three hP hl hf z4 hv hA hB hC
        unfold vanB at t
        have hm := cl_mul hP (cl_minus hP) (cl_mul hP (cl_mul hP hA hB) hC)
        rw [show (-1 : Int) * (a * b * c) = -(a * b * c) by omega] at hm
        exact Ev.to (iVan_three P0 hb (iSymbol_odd hP b0 a0 (by omega) (by omega) hB hA) (iSymbol_odd hP c0 a0 (by omega) (by omega) hC hA) (iSymbol_odd hP c0 b0 (by omega) (by omega) hC hB) (iSymbol_odd hP (by decide) ne (by decide) (by omega) (cl_minus hP) hm)) t
    | [a, b, c, d], _, hf, hb, hl, z4, _ =>
      have a0 := hf a (by simp); have b0 := hf b (by simp); have c0 := hf c (by simp); have d0 := hf d (by simp)
      have ha := hb a (by simp); have hb1 := hb b (by simp); have hc1 := hb c (by simp); have hd1 := hb d (by simp)
      have bd := prod_bd (a := a * b * c) (b := d) (A := 27000) (B := 30) (prod_bd (a := a * b) (b := c) (A := 900) (B := 30) (prod_bd (a := a) (b := b) (A := 30) (B := 30) (by omega) (by omega)) (by omega)) (by omega)
      have ne : a * b * c * d ≠ 0 := Int.mul_ne_zero (Int.mul_ne_zero (Int.mul_ne_zero a0 b0) c0) d0
      rcases hP with rfl | hP
      · obtain ⟨A, hA⟩ := ct_ex a0; obtain ⟨B, hB⟩ := ct_ex b0; obtain ⟨C, hC⟩ := ct_ex c0; obtain ⟨D, hD⟩ := ct_ex d0
        have t := two_four hl hf z4 hv hA hB hC hD
        unfold van2 at t
        have hm := ct_mul (ct_mul (ct_mul hA hB) hC) hD
        exact Ev.to (iVan_four P0 hb (iSymbol_two b0 a0 (by omega) (by omega) hB hA) (iSymbol_two c0 a0 (by omega) (by omega) hC hA) (iSymbol_two c0 b0 (by omega) (by omega) hC hB) (iSymbol_two d0 a0 (by omega) (by omega) hD hA) (iSymbol_two d0 b0 (by omega) (by omega) hD hB) (iSymbol_two d0 c0 (by omega) (by omega) hD hC) (iSquare_two ne (by omega) hm) (iSymbol_two (by decide) (by decide) (by decide) (by decide) ct_minus ct_minus)) t
      · obtain ⟨A, hA⟩ := cl_ex hP a0; obtain ⟨B, hB⟩ := cl_ex hP b0; obtain ⟨C, hC⟩ := cl_ex hP c0; obtain ⟨D, hD⟩ := cl_ex hP d0
        have t := odd_four hP hl hf z4 hv hA hB hC hD
        unfold vanB at t
        have hm := cl_mul hP (cl_mul hP (cl_mul hP hA hB) hC) hD
        exact Ev.to (iVan_four P0 hb (iSymbol_odd hP b0 a0 (by omega) (by omega) hB hA) (iSymbol_odd hP c0 a0 (by omega) (by omega) hC hA) (iSymbol_odd hP c0 b0 (by omega) (by omega) hC hB) (iSymbol_odd hP d0 a0 (by omega) (by omega) hD hA) (iSymbol_odd hP d0 b0 (by omega) (by omega) hD hB) (iSymbol_odd hP d0 c0 (by omega) (by omega) hD hC) (iSquare_odd hP ne (by omega) hm) (iSymbol_odd hP (by decide) (by decide) (by decide) (by decide) (cl_minus hP) (cl_minus hP))) t
theorem iVan_any {f : List Int} (z1 : fOk f = true) {P : Nat} (hP : P = 0 ∨ P = 2 ∨ P ∈ OP) : ∃ b, Ev (fun k => impl_vanishes.f k f (P : Int)) b ∧ (b = true → VanT f P) := by
  have hfl := fOk_len z1
  have hf : ∀ x ∈ f, x ≠ 0 := fun x hx => (fOk_mem z1 x hx).1
  have hb : ∀ x ∈ f, -30 ≤ x ∧ x ≤ 30 := fun x hx => (fOk_mem z1 x hx).2
  rcases hP with rfl | hP
  · unfold impl_vanishes.f
    have ho : ¬ (0 : Nat) ∈ OP := by decide
    by_cases l1 : 0 < lessN f
    · refine ⟨decide ((lessN f : Int) < (f.length : Int)), Ev.bind (iProduct_ev f hfl.2 hb) (Ev.pos rfl (Ev.bind (iLess_ev f (by omega)) (Ev.pos (by omega) (Ev.now _)))), fun hd => ⟨fun _ => ⟨?_, ?_⟩, fun h => absurd h ho, fun h => by omega⟩⟩
      · unfold lessN at l1
        obtain ⟨a, ha, ha0⟩ := List.countP_pos_iff.1 l1
        exact ⟨a, ha, by simpa using ha0⟩
      · have l2 := of_decide_eq_true hd
        refine Classical.byContradiction (fun k => ?_)
        have : lessN f = f.length := by
          unfold lessN
          refine List.countP_eq_length.2 (fun a ha => ?_)
          have h0 := hf a ha
          have h1 : ¬ 0 < a := fun h => k ⟨a, ha, h⟩
          simp; omega
        omega
    · exact ⟨false, Ev.bind (iProduct_ev f hfl.2 hb) (Ev.pos rfl (Ev.bind (iLess_ev f (by omega)) (Ev.neg (by omega) (Ev.now _)))), fun h => by cases h⟩
  · have P0 : (P : Int) ≠ 0 := by
      rcases hP with rfl | hP
      · decide
      · have := op_two hP; omega
    have P0' : P ≠ 0 := by omega
    match f, hfl, hf, hb with
    | [a], hfl, hf, hb =>
      refine ⟨false, ?_, fun h => by cases h⟩
      unfold impl_vanishes.f
      exact Ev.bind (iProduct_ev [a] hfl.2 hb) (Ev.neg P0 (Ev.neg (by simp) (Ev.neg (by simp) (Ev.neg (by simp) (Ev.now _)))))
    | [a, b], _, hf, hb =>
      have a0 := hf a (by simp); have b0 := hf b (by simp)
      have ha := hb a (by simp); have hb1 := hb b (by simp)
      have bd := prod_bd (a := a) (b := b) (A := 30) (B := 30) (by omega) (by omega)
      have ne : -(a * b) ≠ 0 := by have := Int.mul_ne_zero a0 b0; omega
      rcases hP with rfl | hP
      · obtain ⟨A, hA⟩ := ct_ex a0; obtain ⟨B, hB⟩ := ct_ex b0
        have hc := ct_mul ct_minus (ct_mul hA hB)
        rw [show (-1 : Int) * (a * b) = -(a * b) by omega] at hc
        refine ⟨_, iVan_two P0 hb (iSquare_two ne (by omega) hc), fun h => ⟨fun h => absurd h (by decide), fun h => absurd h (by decide), fun _ a' b' e => ?_⟩⟩
        obtain ⟨rfl, rfl⟩ : a = a' ∧ b = b' := by simpa using e
        rw [beq_iff_eq] at h
        rw [h] at hc; exact hc
      · have hA := cl_term hP a0 ha; have hB := cl_term hP b0 hb1
        have hc := cl_mul hP (cl_minus hP) (cl_mul hP hA hB)
        rw [show (-1 : Int) * (a * b) = -(a * b) by omega] at hc
        exact ⟨vanB ((P - 1) / 2 % 2 == 1) [clT P a, clT P b], Ev.to (iVan_two P0 hb (iSquare_odd hP ne (by omega) hc)) rfl, fun h => ⟨fun h => absurd h P0', fun _ => h, fun h2 => absurd hP (by rw [h2]; decide)⟩⟩
    | [a, b, c], _, hf, hb =>
      have a0 := hf a (by simp); have b0 := hf b (by simp); have c0 := hf c (by simp)
      have ha := hb a (by simp); have hb1 := hb b (by simp); have hc1 := hb c (by simp)
      have bd := prod_bd (a := a * b) (b := c) (A := 900) (B := 30) (prod_bd (a := a) (b := b) (A := 30) (B := 30) (by omega) (by omega)) (by omega)
      have ne : -(a * b * c) ≠ 0 := by have := Int.mul_ne_zero (Int.mul_ne_zero a0 b0) c0; omega
      rcases hP with rfl | hP
      · obtain ⟨A, hA⟩ := ct_ex a0; obtain ⟨B, hB⟩ := ct_ex b0; obtain ⟨C, hC⟩ := ct_ex c0
        have hm := ct_mul ct_minus (ct_mul (ct_mul hA hB) hC)
        rw [show (-1 : Int) * (a * b * c) = -(a * b * c) by omega] at hm
        exact ⟨_, iVan_three P0 hb (iSymbol_two b0 a0 (by omega) (by omega) hB hA) (iSymbol_two c0 a0 (by omega) (by omega) hC hA) (iSymbol_two c0 b0 (by omega) (by omega) hC hB) (iSymbol_two (by decide) ne (by decide) (by omega) ct_minus hm), fun _ => ⟨fun h => absurd h (by decide), fun h => absurd h (by decide), fun _ a' b' e => by simp at e⟩⟩
      · have hA := cl_term hP a0 ha; have hB := cl_term hP b0 hb1; have hC := cl_term hP c0 hc1
        have hm := cl_mul hP (cl_minus hP) (cl_mul hP (cl_mul hP hA hB) hC)
        rw [show (-1 : Int) * (a * b * c) = -(a * b * c) by omega] at hm
        exact ⟨vanB ((P - 1) / 2 % 2 == 1) [clT P a, clT P b, clT P c], Ev.to (iVan_three P0 hb (iSymbol_odd hP b0 a0 (by omega) (by omega) hB hA) (iSymbol_odd hP c0 a0 (by omega) (by omega) hC hA) (iSymbol_odd hP c0 b0 (by omega) (by omega) hC hB) (iSymbol_odd hP (by decide) ne (by decide) (by omega) (cl_minus hP) hm)) rfl, fun h => ⟨fun h => absurd h P0', fun _ => h, fun h2 => absurd hP (by rw [h2]; decide)⟩⟩
    | [a, b, c, d], _, hf, hb =>
      have a0 := hf a (by simp); have b0 := hf b (by simp); have c0 := hf c (by simp); have d0 := hf d (by simp)
      have ha := hb a (by simp); have hb1 := hb b (by simp); have hc1 := hb c (by simp); have hd1 := hb d (by simp)
      have bd := prod_bd (a := a * b * c) (b := d) (A := 27000) (B := 30) (prod_bd (a := a * b) (b := c) (A := 900) (B := 30) (prod_bd (a := a) (b := b) (A := 30) (B := 30) (by omega) (by omega)) (by omega)) (by omega)
      have ne : a * b * c * d ≠ 0 := Int.mul_ne_zero (Int.mul_ne_zero (Int.mul_ne_zero a0 b0) c0) d0
      rcases hP with rfl | hP
      · obtain ⟨A, hA⟩ := ct_ex a0; obtain ⟨B, hB⟩ := ct_ex b0; obtain ⟨C, hC⟩ := ct_ex c0; obtain ⟨D, hD⟩ := ct_ex d0
        have hm := ct_mul (ct_mul (ct_mul hA hB) hC) hD
        exact ⟨_, iVan_four P0 hb (iSymbol_two b0 a0 (by omega) (by omega) hB hA) (iSymbol_two c0 a0 (by omega) (by omega) hC hA) (iSymbol_two c0 b0 (by omega) (by omega) hC hB) (iSymbol_two d0 a0 (by omega) (by omega) hD hA) (iSymbol_two d0 b0 (by omega) (by omega) hD hB) (iSymbol_two d0 c0 (by omega) (by omega) hD hC) (iSquare_two ne (by omega) hm) (iSymbol_two (by decide) (by decide) (by decide) (by decide) ct_minus ct_minus), fun _ => ⟨fun h => absurd h (by decide), fun h => absurd h (by decide), fun _ a' b' e => by simp at e⟩⟩
      · have hA := cl_term hP a0 ha; have hB := cl_term hP b0 hb1; have hC := cl_term hP c0 hc1; have hD := cl_term hP d0 hd1
        have hm := cl_mul hP (cl_mul hP (cl_mul hP hA hB) hC) hD
        exact ⟨vanB ((P - 1) / 2 % 2 == 1) [clT P a, clT P b, clT P c, clT P d], Ev.to (iVan_four P0 hb (iSymbol_odd hP b0 a0 (by omega) (by omega) hB hA) (iSymbol_odd hP c0 a0 (by omega) (by omega) hC hA) (iSymbol_odd hP c0 b0 (by omega) (by omega) hC hB) (iSymbol_odd hP d0 a0 (by omega) (by omega) hD hA) (iSymbol_odd hP d0 b0 (by omega) (by omega) hD hB) (iSymbol_odd hP d0 c0 (by omega) (by omega) hD hC) (iSquare_odd hP ne (by omega) hm) (iSymbol_odd hP (by decide) (by decide) (by decide) (by decide) (cl_minus hP) (cl_minus hP))) rfl, fun h => ⟨fun h => absurd h P0', fun _ => h, fun h2 => absurd hP (by rw [h2]; decide)⟩⟩
def PR : List Int := [2, 3, 5, 7, 11, 13, 17, 19, 23, 29]
def PL : List Int := 0 :: PR
theorem pl_place {x : Int} (h : x ∈ PL) : ∃ P : Nat, x = (P : Int) ∧ (P = 0 ∨ P = 2 ∨ P ∈ OP) := by
  unfold PL PR at h
  simp only [List.mem_cons, List.not_mem_nil, or_false] at h
  rcases h with rfl | rfl | rfl | rfl | rfl | rfl | rfl | rfl | rfl | rfl | rfl
  · exact ⟨0, rfl, .inl rfl⟩
  · exact ⟨2, rfl, .inr (.inl rfl)⟩
  · exact ⟨3, rfl, .inr (.inr (by decide))⟩
  · exact ⟨5, rfl, .inr (.inr (by decide))⟩
  · exact ⟨7, rfl, .inr (.inr (by decide))⟩
  · exact ⟨11, rfl, .inr (.inr (by decide))⟩
  · exact ⟨13, rfl, .inr (.inr (by decide))⟩
  · exact ⟨17, rfl, .inr (.inr (by decide))⟩
  · exact ⟨19, rfl, .inr (.inr (by decide))⟩
  · exact ⟨23, rfl, .inr (.inr (by decide))⟩
  · exact ⟨29, rfl, .inr (.inr (by decide))⟩
def primesT (t : Int) : List Int := PR.filter (fun p => t % p == 0)
def chkPrimesT : Bool := (List.range 30).all fun i => decide (impl_primesOf.f 60 ((i + 1 : Nat) : Int) = some (primesT ((i + 1 : Nat) : Int))) && decide (impl_primesOf.f 60 (-((i + 1 : Nat) : Int)) = some (primesT (-((i + 1 : Nat) : Int))))
theorem chkPrimesT_true : chkPrimesT = true := by decide +kernel
theorem iPrimesT_ev {t : Int} (h0 : t ≠ 0) (h : -30 ≤ t ∧ t ≤ 30) : Ev (fun k => impl_primesOf.f k t) (primesT t) := by
  obtain ⟨n, hn⟩ : ∃ n, t.natAbs = n + 1 := ⟨t.natAbs - 1, by omega⟩
  have k := List.all_eq_true.1 chkPrimesT_true n (List.mem_range.2 (by omega))
  simp only [Bool.and_eq_true, decide_eq_true_eq] at k
  refine Ev.of (k := 60) (fun k => impl_primesOf.mono t k) ?_
  rcases (by omega : t = ((n + 1 : Nat) : Int) ∨ t = -((n + 1 : Nat) : Int)) with rfl | rfl
  · exact k.1
  · exact k.2
theorem primesT_len (t : Int) : (primesT t).length ≤ 10 := by unfold primesT; exact Nat.le_trans (List.length_filter_le _ _) (by decide)
theorem primesT_mem {t p : Int} : p ∈ primesT t ↔ p ∈ PR ∧ t % p = 0 := by unfold primesT; rw [List.mem_filter]; simp
theorem iIndex_l (l : List Int) (x : Int) (hn : l.length ≤ 1000) : ∀ (m i : Nat), i + m = l.length → ∃ r : Int, (0 ≤ r ↔ x ∈ l.drop i) ∧ Ev (fun k => slices_Index_int_int.l0 k l x (l.length : Int) (i : Int)) r := by
  intro m
  induction m with
  | zero =>
    intro i h
    refine ⟨-1, ?_, Ev.step (fun k => slices_Index_int_int.l0.eq_2 _ _ _ _ k) (Ev.neg (by omega) (Ev.now _))⟩
    rw [List.drop_of_length_le (by omega)]; simp
  | succ m ih =>
    intro i h
    have hi : i < l.length := by omega
    by_cases e : x = rd l (i : Int)
    · refine ⟨(i : Int), ?_, Ev.step (fun k => slices_Index_int_int.l0.eq_2 _ _ _ _ k) (Ev.pos (by omega) (Ev.pos (by omega) (Ev.pos (by omega) (Ev.pos e (Ev.now _)))))⟩
      rw [drop_rd hi]; simp [e]
    · obtain ⟨r, r1, r2⟩ := ih (i + 1) (by omega)
      refine ⟨r, ?_, Ev.step (fun k => slices_Index_int_int.l0.eq_2 _ _ _ _ k) (Ev.pos (by omega) (Ev.pos (by omega) (Ev.pos (by omega) (Ev.neg e ?_))))⟩
      · rw [r1, drop_rd hi, List.mem_cons]; simp [e]
      · rw [w64s (by omega)]; exact r2
theorem iContains_ev (l : List Int) (x : Int) (hn : l.length ≤ 1000) : Ev (fun k => slices_Contains_int_int.f k l x) (decide (x ∈ l)) := by
  unfold slices_Contains_int_int.f slices_Index_int_int.f
  obtain ⟨r, r1, r2⟩ := iIndex_l l x hn l.length 0 (by omega)
  refine Ev.bind r2 (Ev.nows ?_)
  rw [List.drop_zero] at r1
  exact decide_eq_decide.2 r1
theorem less_eq (a b : Int) : cmp_Less_int.f a b = some (decide (a < b)) := by
  unfold cmp_Less_int.f cmp_isNaN_int.f; simp
theorem swap_perm {l : List Int} {j : Nat} (h : j + 1 < l.length) : ((l.set (j + 1) (rd l (j : Int))).set j (rd l ((j + 1 : Nat) : Int))).Perm l := by
  have e1 : rd l (j : Int) = l[j] := by rw [rd_at]; simp [show j < l.length by omega]
  have e2 : rd l ((j + 1 : Nat) : Int) = l[j + 1] := by rw [rd_at]; simp [h]
  rw [e1, e2]
  exact List.set_set_perm h (by omega)
theorem iIsort_l (l0 : List Int) (n : Nat) (hn : n ≤ 1000) : ∀ (m i : Nat) (l : List Int), i + m = n → l.length = n → l.Perm l0 → ∃ r : List Int, r.Perm l0 ∧ Ev (fun k => slices_insertionSortOrdered_int.l0 k l 0 (n : Int) (i : Int)) r := by
  intro m
  induction m with
  | zero =>
    intro i l h hl hq
    exact ⟨l, hq, Ev.step (fun k => slices_insertionSortOrdered_int.l0.eq_2 _ _ _ _ k) (Ev.neg (by omega) (Ev.now _))⟩
  | succ m ih =>
    intro i l h hl hq
    have inner : ∀ (j : Nat) (l : List Int), j ≤ i → l.length = n → l.Perm l0 → ∃ r : List Int, r.Perm l0 ∧ Ev (fun k => slices_insertionSortOrdered_int.l1 k l 0 (n : Int) (i : Int) (j : Int)) r := by
      intro j
      induction j with
      | zero =>
        intro l _ hl hq
        obtain ⟨r, r1, r3⟩ := ih (i + 1) l (by omega) hl hq
        refine ⟨r, r1, Ev.step (fun k => slices_insertionSortOrdered_int.l1.eq_2 _ _ _ _ _ k) (Ev.neg (by omega) ?_)⟩
        rw [w64s (by omega)]; exact r3
      | succ j ihj =>
        intro l hj hl hq
        have w : wrap64 (((j + 1 : Nat) : Int) - 1) = (j : Int) := by rw [w64 (by omega) (by omega)]; omega
        by_cases c : rd l ((j + 1 : Nat) : Int) < rd l (j : Int)
        · obtain ⟨r, r1, r3⟩ := ihj _ (by omega) (by rw [List.length_set, List.length_set]; exact hl) ((swap_perm (show j + 1 < l.length by omega)).trans hq)
          refine ⟨r, r1, Ev.step (fun k => slices_insertionSortOrdered_int.l1.eq_2 _ _ _ _ _ k) (Ev.pos (by omega) (Ev.pos (by omega) (Ev.pos (by omega) ?_)))⟩
          rw [w]
          refine Ev.pos (by omega) (Ev.pos (by omega) (Ev.bind0 (less_eq _ _) (Ev.pos (decide_eq_true c) ?_)))
          rw [Int.toNat_natCast, Int.toNat_natCast]
          exact r3
        · obtain ⟨r, r1, r3⟩ := ih (i + 1) l (by omega) hl hq
          refine ⟨r, r1, Ev.step (fun k => slices_insertionSortOrdered_int.l1.eq_2 _ _ _ _ _ k) (Ev.pos (by omega) (Ev.pos (by omega) (Ev.pos (by omega) ?_)))⟩
          rw [w]
          refine Ev.pos (by omega) (Ev.pos (by omega) (Ev.bind0 (less_eq _ _) (Ev.neg (by simpa using c) ?_)))
          rw [w64s (by omega)]; exact r3
    obtain ⟨r, r1, r3⟩ := inner i l (Nat.le_refl _) hl hq
    exact ⟨r, r1, Ev.step (fun k => slices_insertionSortOrdered_int.l0.eq_2 _ _ _ _ k) (Ev.pos (by omega) r3)⟩
theorem iSort_ev (l : List Int) (hn : l.length ≤ 12) : ∃ r : List Int, r.Perm l ∧ Ev (fun k => slices_Sort_int_int.f k l) r := by
  obtain ⟨r, r1, r3⟩ : ∃ r : List Int, r.Perm l ∧ Ev (fun k => slices_insertionSortOrdered_int.l0 k l 0 (l.length : Int) ((1 : Nat) : Int)) r := by
    by_cases h : l.length = 0
    · exact ⟨l, List.Perm.refl _, Ev.step (fun k => slices_insertionSortOrdered_int.l0.eq_2 _ _ _ _ k) (Ev.neg (by omega) (Ev.now _))⟩
    · exact iIsort_l l l.length (by omega) (l.length - 1) 1 l (by omega) rfl (List.Perm.refl _)
  refine ⟨r, r1, ?_⟩
  unfold slices_Sort_int_int.f bits_Len.f slices_pdqsortOrdered_int.f slices_insertionSortOrdered_int.f
  have e : IntKind.u64.wrap (l.length : Int) = (l.length : Int) := by simp [IntKind.wrap, IntKind.bits, IntKind.signed]; omega
  rw [e, if_pos (by omega)]
  refine Ev.bind0 rfl (Ev.bind (Ev.pos ?_ ?_) (Ev.now _))
  · rw [w64 (by omega) (by omega)]; omega
  · rw [show wrap64 ((0 : Int) + 1) = ((1 : Nat) : Int) by decide +kernel]
    exact r3
theorem nodup_len : ∀ (l m : List Int), l.Nodup → (∀ x ∈ l, x ∈ m) → l.length ≤ m.length
  | [], m, _, _ => Nat.zero_le _
  | a :: l, m, h, hs => by
    obtain ⟨s, t, rfl⟩ := List.append_of_mem (hs a (List.mem_cons_self ..))
    rw [List.nodup_cons] at h
    have := nodup_len l (s ++ t) h.2 (fun x hx => by
      have h1 := hs x (List.mem_cons_of_mem _ hx)
      rw [List.mem_append, List.mem_cons] at h1
      rw [List.mem_append]
      rcases h1 with h1 | rfl | h1
      · exact .inl h1
      · exact absurd hx h.1
      · exact .inr h1)
    rw [List.length_append] at this ⊢
    rw [List.length_cons, List.length_cons]; omega
theorem iPlaces_l (f : List Int) (hf : ∀ t ∈ f, t ≠ 0 ∧ -30 ≤ t ∧ t ≤ 30) (hn : f.length ≤ 4) : ∀ (m i : Nat) (acc : List Int), i + m = f.length → acc.Nodup → (∀ x ∈ acc, x ∈ PL) →
    ∃ r : List Int, r.length ≤ 11 ∧ (∀ x ∈ r, x ∈ PL) ∧ (∀ x ∈ acc, x ∈ r) ∧ (∀ t ∈ f.drop i, ∀ p ∈ primesT t, p ∈ r) ∧ Ev (fun k => impl_placesOf.l0 k acc f (f.length : Int) (i : Int)) r := by
  intro m
  induction m with
  | zero =>
    intro i acc h hd hs
    have hl : acc.length ≤ 11 := nodup_len acc PL hd hs
    obtain ⟨r, r1, r3⟩ := iSort_ev acc (by omega)
    refine ⟨r, by rw [r1.length_eq]; exact hl, fun x hx => hs x (r1.mem_iff.1 hx), fun x hx => r1.mem_iff.2 hx, fun t ht => ?_, Ev.step (fun k => impl_placesOf.l0.eq_2 _ _ _ _ k) (Ev.neg (by omega) (Ev.bind r3 (Ev.now _)))⟩
    rw [List.drop_of_length_le (by omega)] at ht; cases ht
  | succ m ih =>
    intro i acc h hd hs
    have hi : i < f.length := by omega
    obtain ⟨t0, tb⟩ := hf _ (rd_mem hi)
    have p3 := iPrimesT_ev t0 tb
    have pl := primesT_len (rd f (i : Int))
    have inner : ∀ (m j : Nat) (acc : List Int), j + m = (primesT (rd f (i : Int))).length → acc.Nodup → (∀ x ∈ acc, x ∈ PL) →
        ∃ r : List Int, r.length ≤ 11 ∧ (∀ x ∈ r, x ∈ PL) ∧ (∀ x ∈ acc, x ∈ r) ∧ (∀ x ∈ (primesT (rd f (i : Int))).drop j, x ∈ r) ∧ (∀ t ∈ f.drop (i + 1), ∀ p ∈ primesT t, p ∈ r) ∧
        Ev (fun k => impl_placesOf.l1 k acc f (f.length : Int) (i : Int) (primesT (rd f (i : Int))) ((primesT (rd f (i : Int))).length : Int) (j : Int)) r := by
      intro m
      induction m with
      | zero =>
        intro j acc h hd hs
        obtain ⟨r, r1, r2, r4, r5, r3⟩ := ih (i + 1) acc (by omega) hd hs
        refine ⟨r, r1, r2, r4, fun x hx => ?_, r5, Ev.step (fun k => impl_placesOf.l1.eq_2 _ _ _ _ _ _ _ k) (Ev.neg (by omega) ?_)⟩
        · rw [List.drop_of_length_le (by omega)] at hx; cases hx
        · rw [w64s (by omega)]; exact r3
      | succ m ihm =>
        intro j acc h hd hs
        have hj : j < (primesT (rd f (i : Int))).length := by omega
        have hl : acc.length ≤ 11 := nodup_len acc PL hd hs
        by_cases c : rd (primesT (rd f (i : Int))) (j : Int) ∈ acc
        · obtain ⟨r, r1, r2, r4, r5, r6, r3⟩ := ihm (j + 1) acc (by omega) hd hs
          refine ⟨r, r1, r2, r4, fun x hx => ?_, r6, Ev.step (fun k => impl_placesOf.l1.eq_2 _ _ _ _ _ _ _ k) (Ev.pos (by omega) (Ev.pos (by omega) (Ev.pos (by omega) (Ev.bind (iContains_ev acc _ (by omega)) (Ev.pos (decide_eq_true c) ?_)))))⟩
          · rw [drop_rd hj] at hx
            rcases List.mem_cons.1 hx with rfl | hx
            · exact r4 _ c
            · exact r5 x hx
          · rw [w64s (by omega)]; exact r3
        · have pm := (primesT_mem.1 (rd_mem hj)).1
          obtain ⟨r, r1, r2, r4, r5, r6, r3⟩ := ihm (j + 1) (acc ++ [rd (primesT (rd f (i : Int))) (j : Int)]) (by omega)
            (List.nodup_append.2 ⟨hd, by simp, fun a ha b hb => by rw [List.mem_singleton] at hb; rw [hb]; exact fun k => c (k ▸ ha)⟩)
            (fun x hx => by rcases List.mem_append.1 hx with hx | hx; exact hs x hx; rw [List.mem_singleton] at hx; rw [hx]; exact List.mem_cons_of_mem _ pm)
          refine ⟨r, r1, r2, fun x hx => r4 x (List.mem_append_left _ hx), fun x hx => ?_, r6, Ev.step (fun k => impl_placesOf.l1.eq_2 _ _ _ _ _ _ _ k) (Ev.pos (by omega) (Ev.pos (by omega) (Ev.pos (by omega) (Ev.bind (iContains_ev acc _ (by omega)) (Ev.neg (by simpa using c) (Ev.pos (by omega) ?_))))))⟩
          · rw [drop_rd hj] at hx
            rcases List.mem_cons.1 hx with rfl | hx
            · exact r4 _ (List.mem_append_right _ (by simp))
            · exact r5 x hx
          · rw [w64s (by omega)]; exact r3
    obtain ⟨r, r1, r2, r4, r5, r6, r3⟩ := inner _ 0 acc (Nat.zero_add _) hd hs
    refine ⟨r, r1, r2, r4, fun t ht => ?_, Ev.step (fun k => impl_placesOf.l0.eq_2 _ _ _ _ k) (Ev.pos (by omega) (Ev.pos (by omega) (Ev.pos (by omega) (Ev.bind p3 r3))))⟩
    rw [drop_rd hi] at ht
    rcases List.mem_cons.1 ht with rfl | ht
    · exact r5
    · exact r6 t ht
theorem iPlaces_ev (f : List Int) (ht : Tame f) (hf : fOk f = true) : ∃ r : List Int, r.length ≤ 11 ∧ (∀ x ∈ r, x ∈ PL) ∧ (0 : Int) ∈ r ∧ (2 : Int) ∈ r ∧ (∀ t ∈ f, ∀ p ∈ primesT t, p ∈ r) ∧ Ev (fun k => impl_FormPlaces.f k f) r := by
  obtain ⟨r, r1, r2, r4, r5, r3⟩ := iPlaces_l f (fOk_mem hf) (fOk_len hf).2 f.length 0 [0, 2] (by omega) (by decide) (by decide)
  refine ⟨r, r1, r2, r4 0 (by simp), r4 2 (by simp), r5, ?_⟩
  unfold impl_FormPlaces.f impl_placesOf.f
  exact Ev.bind (iFormValid_ev f ht) (Ev.pos hf (Ev.bind r3 (Ev.now _)))
theorem iBad_any {f : List Int} (ht : Tame f) (hf : fOk f = true) : ∃ r : List Int, r.length ≤ 11 ∧ Ev (fun k => impl_FormBad.f k f) r ∧ (r = [] → VanT f 0 ∧ VanT f 2 ∧ ∀ P ∈ OP, (∃ t ∈ f, t % (P : Int) = 0) → VanT f P) := by
  obtain ⟨r, r1, r2, r4, r42, r5, r3⟩ := iPlaces_ev f ht hf
  unfold impl_FormBad.f
  have go : ∀ (m i : Nat) (acc : List Int), i + m = r.length → acc.length ≤ i → ∃ s : List Int, s.length ≤ r.length ∧ Ev (fun k => impl_FormBad.l0 k f acc r (r.length : Int) (i : Int)) s ∧ (s = [] → acc = [] ∧ ∀ x ∈ r.drop i, ∀ P : Nat, x = (P : Int) → VanT f P) := by
    intro m
    induction m with
    | zero =>
      intro i acc h ha
      refine ⟨acc, by omega, Ev.step (fun k => impl_FormBad.l0.eq_2 _ _ _ _ _ k) (Ev.neg (by omega) (Ev.now _)), fun h => ⟨h, fun x hx => ?_⟩⟩
      rw [List.drop_of_length_le (by omega)] at hx; cases hx
    | succ m ih =>
      intro i acc hi ha
      have hir : i < r.length := by omega
      obtain ⟨P, e, hP⟩ := pl_place (r2 _ (rd_mem hir))
      obtain ⟨b, hv, hb⟩ := iVan_any hf hP
      rw [← e] at hv
      cases b with
      | true =>
        obtain ⟨s, s1, s2, s3⟩ := ih (i + 1) acc (by omega) (by omega)
        refine ⟨s, s1, Ev.step (fun k => impl_FormBad.l0.eq_2 _ _ _ _ _ k) (Ev.pos (by omega) (Ev.pos (by omega) (Ev.pos (by omega) (Ev.bind hv (Ev.pos rfl ?_))))), fun h => ⟨(s3 h).1, fun x hx Q hQ => ?_⟩⟩
        · rw [w64s (by omega)]; exact s2
        · rw [drop_rd hir] at hx
          rcases List.mem_cons.1 hx with rfl | hx
          · obtain rfl : P = Q := by omega
            exact hb rfl
          · exact (s3 h).2 x hx Q hQ
      | false =>
        obtain ⟨s, s1, s2, s3⟩ := ih (i + 1) (acc ++ [rd r (i : Int)]) (by omega) (by rw [List.length_append]; simp; omega)
        refine ⟨s, s1, Ev.step (fun k => impl_FormBad.l0.eq_2 _ _ _ _ _ k) (Ev.pos (by omega) (Ev.pos (by omega) (Ev.pos (by omega) (Ev.bind hv (Ev.neg (by simp) (Ev.pos (by omega) ?_)))))), fun h => ?_⟩
        · rw [w64s (by omega)]; exact s2
        · have := (s3 h).1
          simp at this
  obtain ⟨s, s1, s2, s3⟩ := go r.length 0 [] (by omega) (by simp)
  refine ⟨s, by omega, Ev.bind r3 s2, fun h => ?_⟩
  have k := (s3 h).2
  rw [List.drop_zero] at k
  refine ⟨k 0 r4 0 rfl, k 2 r42 2 rfl, fun P hP ⟨t, ht, htP⟩ => k (P : Int) (r5 t ht _ (primesT_mem.2 ⟨?_, htP⟩)) P rfl⟩
  unfold OP at hP; unfold PR
  simp only [List.mem_cons, List.not_mem_nil, or_false] at hP ⊢
  omega
theorem iBad_zero {f v : List Int} (ht : Tame f) (h : zeroB f v = true) : Ev (fun k => impl_FormBad.f k f) [] := by
  obtain ⟨r, r1, r2, _, _, _, r3⟩ := iPlaces_ev f ht (zB_of h).1
  unfold impl_FormBad.f
  refine Ev.bind r3 ?_
  have go : ∀ (m i : Nat), i + m = r.length → Ev (fun k => impl_FormBad.l0 k f [] r (r.length : Int) (i : Int)) [] := by
    intro m
    induction m with
    | zero =>
      intro i h
      exact Ev.step (fun k => impl_FormBad.l0.eq_2 _ _ _ _ _ k) (Ev.neg (by omega) (Ev.now _))
    | succ m ih =>
      intro i hi
      obtain ⟨P, e, hP⟩ := pl_place (r2 _ (rd_mem (show i < r.length by omega)))
      have hv := iVan_zero h hP
      rw [← e] at hv
      refine Ev.step (fun k => impl_FormBad.l0.eq_2 _ _ _ _ _ k) (Ev.pos (by omega) (Ev.pos (by omega) (Ev.pos (by omega) (Ev.bind hv (Ev.pos rfl ?_)))))
      rw [w64s (by omega)]
      exact ih (i + 1) (by omega)
  exact go r.length 0 (by omega)
theorem vOk_no {n : Nat} {most : Int} {v : List Int} {x : Int} (h : x ∈ v) (hx : ¬ (-most ≤ x ∧ x ≤ most)) : vOk n most v = false := by
  unfold vOk; exact decide_eq_false (fun k => hx (k.2 x h))
theorem vOk_end {n : Nat} {most : Int} {v : List Int} (h : ∀ j, j < v.length → -most ≤ rd v (j : Int) ∧ rd v (j : Int) ≤ most) : vOk n most v = ((v.length : Int) == (n : Int)) := by
  have ha : ∀ x ∈ v, -most ≤ x ∧ x ≤ most := by
    intro x hx
    obtain ⟨j, hj, rfl⟩ := List.getElem_of_mem hx
    have := h j hj
    rwa [rd_at, List.getD_eq_getElem?_getD, List.getElem?_eq_getElem hj] at this
  unfold vOk
  by_cases h4 : v.length = n
  · rw [decide_eq_true (show _ from ⟨h4, ha⟩), h4]; simp
  · rw [decide_eq_false (fun k => h4 k.1)]; simp; omega
theorem iVectorOk_l (form v : List Int) (most : Int) (hm0 : 0 ≤ most) (hm : most ≤ 1000000000) (hn : v.length ≤ 17592186044416) : ∀ (m i : Nat), i + m = v.length → (∀ j, j < i → j < v.length → -most ≤ rd v (j : Int) ∧ rd v (j : Int) ≤ most) →
    Ev (fun k => impl_vectorOk.l0 k form v most v (v.length : Int) (i : Int)) (vOk form.length most v) := by
  intro m
  induction m with
  | zero =>
    intro i h hj
    exact Ev.step (fun k => impl_vectorOk.l0.eq_2 _ _ _ _ _ _ k) (Ev.neg (by omega) (Ev.nows (vOk_end (fun j h1 => hj j (by omega) h1)).symm))
  | succ m ih =>
    intro i h hj
    refine Ev.step (fun k => impl_vectorOk.l0.eq_2 _ _ _ _ _ _ k) (Ev.pos (by omega) (Ev.pos (by omega) (Ev.pos (by omega) ?_)))
    rw [w64 (a := -most) (by omega) (by omega)]
    by_cases h1 : rd v (i : Int) < -most
    · exact Ev.pos h1 (Ev.nows (vOk_no (rd_mem (show i < v.length by omega)) (by omega)).symm)
    · refine Ev.neg h1 ?_
      by_cases h2 : rd v (i : Int) > most
      · exact Ev.pos h2 (Ev.nows (vOk_no (rd_mem (show i < v.length by omega)) (by omega)).symm)
      · refine Ev.neg h2 ?_
        rw [w64s (by omega)]
        refine ih (i + 1) (by omega) (fun j h5 h6 => ?_)
        rcases (by omega : j < i ∨ j = i) with h7 | rfl
        · exact hj j h7 h6
        · exact ⟨by omega, by omega⟩
theorem iVectorOk_ev (form v : List Int) (most : Int) (hm0 : 0 ≤ most) (hm : most ≤ 1000000000) (hn : v.length ≤ 17592186044416) : Ev (fun k => impl_vectorOk.f k form v most) (vOk form.length most v) := by
  unfold impl_vectorOk.f
  exact iVectorOk_l form v most hm0 hm hn v.length 0 (by omega) (by omega)
theorem dot3_drop {f v w : List Int} {i : Nat} (hf : i < f.length) (hv : i < v.length) (hw : i < w.length) :
    dot3 (f.drop i) (v.drop i) (w.drop i) = rd f (i : Int) * rd v (i : Int) * rd w (i : Int) + dot3 (f.drop (i + 1)) (v.drop (i + 1)) (w.drop (i + 1)) := by
  rw [drop_rd hf, drop_rd hv, drop_rd hw]; rfl
theorem dot3_nil {f v w : List Int} {i : Nat} (hf : f.length ≤ i) : dot3 (f.drop i) (v.drop i) (w.drop i) = 0 := by
  rw [List.drop_of_length_le hf]; rfl
theorem iPair_l (f v w : List Int) (hv : v.length = f.length) (hw : w.length = f.length) (hn : f.length ≤ 4) (hf : ∀ x ∈ f, -31 ≤ x ∧ x ≤ 31) (bv : ∀ x ∈ v, -1000000 ≤ x ∧ x ≤ 1000000) (bw : ∀ x ∈ w, -1000000 ≤ x ∧ x ≤ 1000000) :
    ∀ (m i : Nat) (s : Int), i + m = f.length → -(31000000000000 * i) ≤ s → s ≤ 31000000000000 * i → Ev (fun k => impl_pair.l0 k v w s f (f.length : Int) (i : Int)) (s + dot3 (f.drop i) (v.drop i) (w.drop i)) := by
  intro m
  induction m with
  | zero =>
    intro i s h _ _
    exact Ev.step (fun k => impl_pair.l0.eq_2 _ _ _ _ _ _ k) (Ev.neg (by omega) (Ev.nows (by rw [dot3_nil (by omega)]; omega)))
  | succ m ih =>
    intro i s h h1 h2
    have b1 := hf _ (rd_mem (show i < f.length by omega))
    have b2 := bv _ (rd_mem (show i < v.length by omega))
    have b3 := bw _ (rd_mem (show i < w.length by omega))
    have b := mul3_bd b1 b2 b3 (by omega) (by omega)
    refine Ev.step (fun k => impl_pair.l0.eq_2 _ _ _ _ _ _ k) (Ev.pos (by omega) (Ev.pos (by omega) (Ev.pos (by omega) (Ev.pos (by omega) (Ev.pos (by omega) ?_)))))
    rw [w64s (by omega), w64 (a := rd f (i : Int) * rd v (i : Int)) (by omega) (by omega), w64 (a := rd f (i : Int) * rd v (i : Int) * rd w (i : Int)) (by omega) (by omega), w64 (a := s + _) (by omega) (by omega), dot3_drop (show i < f.length by omega) (by omega) (by omega)]
    refine Ev.to (ih (i + 1) _ (by omega) (by omega) (by omega)) (by omega)
theorem iPair_ev (f v w : List Int) (hv : v.length = f.length) (hw : w.length = f.length) (hn : f.length ≤ 4) (hf : ∀ x ∈ f, -31 ≤ x ∧ x ≤ 31) (bv : ∀ x ∈ v, -1000000 ≤ x ∧ x ≤ 1000000) (bw : ∀ x ∈ w, -1000000 ≤ x ∧ x ≤ 1000000) :
    Ev (fun k => impl_pair.f k f v w) (dot3 f v w) := by
  unfold impl_pair.f
  have h := iPair_l f v w hv hw hn hf bv bw f.length 0 0 (by omega) (by omega) (by omega)
  exact Ev.to h (by simp)
theorem iZeroIs_ev (form v : List Int) (hf : Tame form) (hv : Tame v) : Ev (fun k => impl_ZeroIs.f k form v) (zeroB form v) := by
  unfold impl_ZeroIs.f zeroB
  refine Ev.bind (iFormValid_ev form hf) ?_
  by_cases h1 : fOk form = true
  · refine Ev.pos h1 (Ev.bind (iVectorOk_ev form v 1000000 (by omega) (by omega) (by have := hv.1; omega)) (Ev.step (fun k => impl_ZeroIs.j0.eq_2 _ _ _ k) ?_))
    by_cases h2 : vOk form.length 1000000 v = true
    · refine Ev.neg (by rw [h2]; decide) (Ev.bind (gcd_ev v (by have := hv.1; omega) hv.2) ?_)
      by_cases h3 : some0 v = true
      · have h4 : gcdL 0 v ≠ 0 := fun h => by rw [gcdL_zero, h3] at h; cases h
        refine Ev.neg (by omega) (Ev.bind (iPair_ev form v v (vOk_len h2) (vOk_len h2) (fOk_len h1).2 (fun x hx => by have := fOk_mem h1 x hx; omega) (vOk_mem h2) (vOk_mem h2)) (Ev.nows ?_))
        rw [h1, h2, h3]; simp
      · have h4 : gcdL 0 v = 0 := gcdL_zero.2 (by simpa using h3)
        refine Ev.pos (by rw [h4]; rfl) (Ev.nows ?_)
        simp [h3]
    · exact Ev.pos (by simpa using h2) (Ev.nows (by simp [h2]))
  · exact Ev.neg h1 (Ev.step (fun k => impl_ZeroIs.j0.eq_2 _ _ _ k) (Ev.pos rfl (Ev.nows (by simp [h1]))))
theorem zeroB_some {form v : List Int} (h : zeroB form v = true) : some0 v = true := by
  unfold zeroB at h; simp only [Bool.and_eq_true] at h; exact h.2.2.1
theorem iZeroPlain_ev (form v : List Int) (hf : Tame form) (hv : Tame v) (h : zeroB form v = true) : Ev (fun k => impl_ZeroPlain.f k form v) (plainL v, true) := by
  unfold impl_ZeroPlain.f
  exact Ev.bind (iZeroIs_ev form v hf hv) (Ev.pos h (Ev.bind (iPlain_ev v hv (zeroB_some h)) (Ev.now _)))
theorem sameInts_l (xs : List Int) (hn : xs.length ≤ 17592186044416) : ∀ (m i : Nat), i + m = xs.length → Ev (fun k => laws_sameInts.l0 k xs xs (i : Int)) true := by
  intro m
  induction m with
  | zero =>
    intro i h
    exact Ev.step (fun k => laws_sameInts.l0.eq_2 _ _ _ k) (Ev.neg (by omega) (Ev.now _))
  | succ m ih =>
    intro i h
    refine Ev.step (fun k => laws_sameInts.l0.eq_2 _ _ _ k) (Ev.pos (by omega) (Ev.pos (by omega) (Ev.pos (by omega) (Ev.pos rfl ?_))))
    rw [w64s (by omega)]
    exact ih (i + 1) (by omega)
theorem sameInts_ev (xs : List Int) (hn : xs.length ≤ 17592186044416) : Ev (fun k => laws_sameInts.f k xs xs) true := by
  unfold laws_sameInts.f
  exact Ev.pos rfl (sameInts_l xs hn xs.length 0 (by omega))
theorem pick_ev {s : List Int} (hs : IsCode s) (p n : Nat) (hp : p ≤ 20000000000000000) (hn : 1 ≤ n) : Ev (fun k => spec_l6Rd_pick.f k s (p : Int) (n : Int)) ((pickv s p n : Int), ((p + 1 : Nat) : Int)) := by
  unfold spec_l6Rd_pick.f
  rw [w64s (by omega)]
  refine Ev.neg (by omega) (Ev.step (fun k => spec_l6Rd_pick.j0.eq_2 _ _ _ _ k) ?_)
  have hl := hs.1
  by_cases h0 : s.length = 0
  · exact Ev.pos (by simp [h0]) (Ev.nows (by unfold pickv; rw [if_pos h0]; rfl))
  · refine Ev.neg (by simp; simpa using h0) ?_
    rw [show ((p + 1 : Nat) : Int) - 1 = (p : Int) by omega, w64 (a := (p : Int)) (by omega) (by omega)]
    by_cases h1 : p < s.length
    · refine Ev.pos (by omega) (Ev.pos (by omega) (Ev.neg (by omega) (Ev.nows ?_)))
      have hb := code_at hs p
      unfold pickv
      rw [if_neg h0, if_pos h1, rd_at, w64 (by omega) (by omega), Int.tmod_eq_emod_of_nonneg hb.1, Int.natCast_emod, Int.toNat_of_nonneg hb.1]
    · refine Ev.neg (by omega) (Ev.neg (by omega) ?_)
      have e1 : Int.tmod (p : Int) (s.length : Int) = ((p % s.length : Nat) : Int) := by rw [Int.tmod_eq_emod_of_nonneg (by omega)]; rfl
      have e2 : Int.tmod (wrap64 (wrap64 ((p : Int) * 7) + 3)) (s.length : Int) = (((p * 7 + 3) % s.length : Nat) : Int) := by
        rw [w64 (a := (p : Int) * 7) (by omega) (by omega), w64 (by omega) (by omega), Int.tmod_eq_emod_of_nonneg (by omega)]; rfl
      have m1 : p % s.length < s.length := Nat.mod_lt _ (by omega)
      have m2 : (p * 7 + 3) % s.length < s.length := Nat.mod_lt _ (by omega)
      rw [e1, e2]
      refine Ev.pos (by omega) (Ev.pos (by omega) (Ev.pos (by omega) (Ev.pos (by omega) (Ev.neg (by omega) (Ev.nows ?_)))))
      have hb1 := code_at hs (p % s.length)
      have hb2 := code_at hs ((p * 7 + 3) % s.length)
      have hd : p / s.length ≤ p := Nat.div_le_self _ _
      have e3 : wrap64 (Int.tdiv (p : Int) (s.length : Int)) = ((p / s.length : Nat) : Int) := by
        rw [Int.tdiv_eq_ediv_of_nonneg (by omega), show (p : Int) / (s.length : Int) = ((p / s.length : Nat) : Int) from rfl]
        generalize p / s.length = q at *
        exact w64 (by omega) (by omega)
      have hm := mixed_le hs p
      have e4 : wrap64 ((wrap64 ((wrap64 ((wrap64 ((wrap64 (rd s ((p % s.length : Nat) : Int))) * 131)) + (wrap64 ((wrap64 (rd s (((p * 7 + 3) % s.length : Nat) : Int))) * 1117)))) + (wrap64 ((p : Int) * 29)))) + (wrap64 ((wrap64 (Int.tdiv (p : Int) (s.length : Int))) * 53))) = ((mixed s p : Nat) : Int) := by
        rw [e3, rd_at, rd_at, mix_wrap (s.getD (p % s.length) 0) (s.getD ((p * 7 + 3) % s.length) 0) (p : Int) ((p / s.length : Nat) : Int) hb1.1 hb1.2 hb2.1 hb2.2 (Int.natCast_nonneg _) (Int.ofNat_le.2 hp) (Int.natCast_nonneg _) (Int.ofNat_le.2 hd)]
        exact (mixed_int hs p).symm
      rw [e4]
      have e5 : wrap64 (Int.tdiv ((mixed s p : Nat) : Int) 64) = ((mixed s p / 64 : Nat) : Int) := by
        generalize mixed s p = M at *
        rw [Int.tdiv_eq_ediv_of_nonneg (by omega)]; exact w64 (by omega) (by omega)
      rw [e5, xor_i64 _ _ (by omega) (by omega), Int.tmod_eq_emod_of_nonneg (by omega)]
      unfold pickv
      rw [if_neg h0, if_neg h1]
      rfl
theorem pick_ev' {s : List Int} (hs : IsCode s) (p : Nat) (n : Int) (hp : p ≤ 20000000000000000) (hn : 1 ≤ n) : ∃ r : Int, 0 ≤ r ∧ r < n ∧ Ev (fun k => spec_l6Rd_pick.f k s (p : Int) n) (r, ((p + 1 : Nat) : Int)) := by
  obtain ⟨m, rfl⟩ : ∃ m : Nat, n = m := ⟨n.toNat, by omega⟩
  have h := pickv_lt s p (n := m) (by omega)
  exact ⟨_, by omega, by omega, pick_ev hs p m hp (by omega)⟩
theorem open_ev {l : List Int} (hw : ∀ x ∈ l, (Lit.int .u8 x).wf = true) : ∃ s, IsCode s ∧ spec_l6Open.f l = some (s, 0) := by
  have hb : ∀ x ∈ l, 0 ≤ x ∧ x ≤ 255 := fun x hx => by
    have := hw x hx
    simp [Lit.wf, IntKind.min, IntKind.max, IntKind.signed, IntKind.bits] at this; omega
  unfold spec_l6Open.f
  by_cases h : (l.length : Int) > 2000
  · rw [if_pos h, if_pos (by omega)]
    exact ⟨l.take 2000, ⟨by rw [List.length_take]; omega, fun x hx => hb x (List.mem_of_mem_take hx)⟩, rfl⟩
  · rw [if_neg h]
    exact ⟨l, ⟨by omega, hb⟩, rfl⟩
theorem one_ev {s : List Int} (hs : IsCode s) (p : Nat) (hp : p ≤ 19000000000000000) :
    (pickv s (p + 3) 40 = 1 ∧ Ev (fun k => spec_l91Form.f k s (p : Int) 1) ([], ((p + 4 : Nat) : Int))) ∨ (pickv s (p + 3) 40 ≠ 1 ∧ ∃ (x : Int) (q : Nat), -31 ≤ x ∧ x ≤ 31 ∧ q ≤ p + 5 ∧ Ev (fun k => spec_l91Form.f k s (p : Int) 1) ([x], (q : Int))) := by
  have h1 := pick_ev hs p 1 (by omega) (by omega)
  have z1 := pickv_lt s p (n := 1) (by omega)
  rw [show pickv s p 1 = 0 by omega] at h1
  obtain ⟨a, a0, a1, ha⟩ := pick_ev' hs (p + 1) 16 (by omega) (by omega)
  obtain ⟨b, b0, b1, hb⟩ := pick_ev' hs (p + 1 + 1) 5 (by omega) (by omega)
  have h4 := pick_ev hs (p + 1 + 1 + 1) 40 (by omega) (by omega)
  have z4 := pickv_lt s (p + 1 + 1 + 1) (n := 40) (by omega)
  rw [show p + 3 = p + 1 + 1 + 1 by omega]
  have hm : 1 ≤ rd ([1, 2, 3, 5, 6, 7, 1, 10, 12, 3, 15, 4, 21, 1, 30, 8] : List Int) a ∧ rd ([1, 2, 3, 5, 6, 7, 1, 10, 12, 3, 15, 4, 21, 1, 30, 8] : List Int) a ≤ 30 := by
    obtain ⟨c, rfl⟩ : ∃ c : Nat, a = c := ⟨a.toNat, by omega⟩
    have : ∀ y ∈ ([1, 2, 3, 5, 6, 7, 1, 10, 12, 3, 15, 4, 21, 1, 30, 8] : List Int), 1 ≤ y ∧ y ≤ 30 := by decide
    exact this _ (rd_mem (show c < 16 by omega))
  have go : ∀ (R : List Int × Int), (∀ x : Int, -31 ≤ x → x ≤ 31 → (x = wrap64 (-(rd ([1, 2, 3, 5, 6, 7, 1, 10, 12, 3, 15, 4, 21, 1, 30, 8] : List Int) a)) ∧ b < 2 ∨ x = rd ([1, 2, 3, 5, 6, 7, 1, 10, 12, 3, 15, 4, 21, 1, 30, 8] : List Int) a ∧ ¬ b < 2) → Ev (fun k => spec_l91Form.l0 k [x] 1 1 s ((p + 1 + 1 + 1 : Nat) : Int)) R) → Ev (fun k => spec_l91Form.f k s (p : Int) 1) R := by
    intro R hR
    unfold spec_l91Form.f
    refine Ev.bind h1 ?_
    simp only
    rw [show ((0 : Nat) : Int) = 0 from rfl, w64 (a := 1 + 0) (by omega) (by omega)]
    refine Ev.step (fun k => spec_l91Form.l0.eq_2 _ _ _ _ _ k) (Ev.pos (by omega) (Ev.bind0 rfl (Ev.bind ha (Ev.pos a0 (Ev.pos a1 (Ev.bind hb ?_))))))
    by_cases e : b < 2
    · refine Ev.pos e (Ev.pos (by simp) ?_)
      rw [w64 (a := 0 + 1) (by omega) (by omega)]
      exact hR (wrap64 (-(rd ([1, 2, 3, 5, 6, 7, 1, 10, 12, 3, 15, 4, 21, 1, 30, 8] : List Int) a))) (by rw [w64 (by omega) (by omega)]; omega) (by rw [w64 (by omega) (by omega)]; omega) (.inl ⟨rfl, e⟩)
    · refine Ev.neg e (Ev.pos (by simp) ?_)
      rw [w64 (a := 0 + 1) (by omega) (by omega)]
      exact hR (rd ([1, 2, 3, 5, 6, 7, 1, 10, 12, 3, 15, 4, 21, 1, 30, 8] : List Int) a) (by omega) (by omega) (.inr ⟨rfl, e⟩)
  have ex : ∃ x : Int, -31 ≤ x ∧ x ≤ 31 ∧ ∀ R : List Int × Int, Ev (fun k => spec_l91Form.l0 k [x] 1 1 s ((p + 1 + 1 + 1 : Nat) : Int)) R → Ev (fun k => spec_l91Form.f k s (p : Int) 1) R := by
    by_cases e : b < 2
    · refine ⟨wrap64 (-(rd ([1, 2, 3, 5, 6, 7, 1, 10, 12, 3, 15, 4, 21, 1, 30, 8] : List Int) a)), by rw [w64 (by omega) (by omega)]; omega, by rw [w64 (by omega) (by omega)]; omega, fun R hR => go R (fun x _ _ hx => ?_)⟩
      rcases hx with ⟨rfl, _⟩ | ⟨_, h⟩
      · exact hR
      · exact absurd e h
    · refine ⟨rd ([1, 2, 3, 5, 6, 7, 1, 10, 12, 3, 15, 4, 21, 1, 30, 8] : List Int) a, by omega, by omega, fun R hR => go R (fun x _ _ hx => ?_)⟩
      rcases hx with ⟨_, h⟩ | ⟨rfl, _⟩
      · exact absurd h e
      · exact hR
  obtain ⟨x, x0, x1, hx⟩ := ex
  by_cases e1 : pickv s (p + 1 + 1 + 1) 40 = 1
  · refine .inl ⟨e1, hx _ (Ev.step (fun k => spec_l91Form.l0.eq_2 _ _ _ _ _ k) (Ev.neg (by omega) (Ev.bind h4 (Ev.neg (by simp only; omega) (Ev.pos (by simp only; omega) (Ev.nows ?_))))))⟩
    rw [show p + 4 = p + 1 + 1 + 1 + 1 by omega]
  · refine .inr ⟨e1, ?_⟩
    by_cases e0 : pickv s (p + 1 + 1 + 1) 40 = 0
    · obtain ⟨c, c0, c1, hc⟩ := pick_ev' hs (p + 1 + 1 + 1 + 1) 2 (by omega) (by omega)
      refine ⟨rd ([0, 31] : List Int) c, p + 1 + 1 + 1 + 1 + 1, ?_, ?_, by omega, hx _ (Ev.step (fun k => spec_l91Form.l0.eq_2 _ _ _ _ _ k) (Ev.neg (by omega) (Ev.bind h4 (Ev.pos (by simp only; omega) (Ev.bind0 rfl (Ev.bind hc (Ev.pos c0 (Ev.pos c1 (Ev.pos (by simp) (Ev.now _)))))))))) ⟩
      · rcases (by omega : c = 0 ∨ c = 1) with rfl | rfl <;> decide
      · rcases (by omega : c = 0 ∨ c = 1) with rfl | rfl <;> decide
    · exact ⟨x, p + 1 + 1 + 1 + 1, x0, x1, by omega, hx _ (Ev.step (fun k => spec_l91Form.l0.eq_2 _ _ _ _ _ k) (Ev.neg (by omega) (Ev.bind h4 (Ev.neg (by simp only; omega) (Ev.neg (by simp only; omega) (Ev.now _))))))⟩
theorem form_two {s : List Int} (hs : IsCode s) (out : List Int) (h3 : out.length = 3) (hb : ∀ x ∈ out, -31 ≤ x ∧ x ≤ 31) (t : Bool) (p : Nat) (hp : p ≤ 19500000000000000) :
    ∃ (form : List Int) (q : Nat), form.length = 3 ∧ (∀ x ∈ form, -31 ≤ x ∧ x ≤ 31) ∧ q ≤ p + 1 ∧ Ev (fun k => spec_l92Form.j2 k out t s (p : Int)) (form, (q : Int)) := by
  cases t with
  | false => exact ⟨out, p, h3, hb, by omega, Ev.step (fun k => spec_l92Form.j2.eq_2 _ _ _ _ k) (Ev.neg (by simp) (Ev.now _))⟩
  | true =>
    obtain ⟨b, b0, b1, hp2⟩ := pick_ev' hs p 2 (by omega) (by omega)
    have c0 := hb _ (rd_mem (show 0 < out.length by omega))
    have c1 := hb _ (rd_mem (show 1 < out.length by omega))
    have m := mul2_bd (a := rd out ((0 : Nat) : Int)) (b := 1 + b) (A := 31) (B := 2) c0 (by omega)
    have e : wrap64 ((wrap64 (-(wrap64 ((rd out 0) * (wrap64 (1 + b)))))) - (rd out 1)) = -(rd out ((0 : Nat) : Int) * (1 + b)) - rd out ((1 : Nat) : Int) := by
      show wrap64 ((wrap64 (-(wrap64 ((rd out ((0 : Nat) : Int)) * (wrap64 (1 + b)))))) - (rd out ((1 : Nat) : Int))) = _
      rw [w64 (a := 1 + b) (by omega) (by omega), w64 (a := rd out ((0 : Nat) : Int) * (1 + b)) (by omega) (by omega), w64 (a := -(rd out ((0 : Nat) : Int) * (1 + b))) (by omega) (by omega), w64 (by omega) (by omega)]
    generalize hT : -(rd out ((0 : Nat) : Int) * (1 + b)) - rd out ((1 : Nat) : Int) = T at *
    by_cases t0 : T = 0
    · exact ⟨out, p + 1, h3, hb, by omega, Ev.step (fun k => spec_l92Form.j2.eq_2 _ _ _ _ k) (Ev.pos rfl (Ev.pos (by omega) (Ev.bind hp2 (Ev.pos (by omega) (Ev.pos (by simp only; rw [e]; exact t0) (Ev.now _))))))⟩
    · by_cases t1 : ((T.natAbs : Nat) : Int) ≤ 30
      · refine ⟨out.set 2 T, p + 1, by rw [List.length_set]; exact h3, fun x hx => ?_, by omega, Ev.step (fun k => spec_l92Form.j2.eq_2 _ _ _ _ k) (Ev.pos rfl (Ev.pos (by omega) (Ev.bind hp2 (Ev.pos (by omega) (Ev.neg (by simp only; rw [e]; exact t0) (Ev.bind0 (a := ((T.natAbs : Nat) : Int)) (by simp only; rw [e]; exact l1Size_eq (by omega) (by omega)) (Ev.pos t1 (Ev.pos (by omega) (Ev.nows (by simp only; rw [e]; rfl)))))))))) ⟩
        rcases List.mem_or_eq_of_mem_set hx with h | rfl
        · exact hb x h
        · omega
      · exact ⟨out, p + 1, h3, hb, by omega, Ev.step (fun k => spec_l92Form.j2.eq_2 _ _ _ _ k) (Ev.pos rfl (Ev.pos (by omega) (Ev.bind hp2 (Ev.pos (by omega) (Ev.neg (by simp only; rw [e]; exact t0) (Ev.bind0 (a := ((T.natAbs : Nat) : Int)) (by simp only; rw [e]; exact l1Size_eq (by omega) (by omega)) (Ev.neg t1 (Ev.now _))))))))⟩
theorem form_stepN {s : List Int} (hs : IsCode s) (n : Nat) (out : List Int) (h1 : 1 ≤ out.length) (h3 : out.length < n) (hn : n ≤ 4) : ∀ (i p : Nat), p + 4 * i ≤ 19000000000000000 → pickv s (p + 3 + 4 * i) 40 ≠ 1 →
    ∃ (x : Int) (q : Nat), -31 ≤ x ∧ x ≤ 31 ∧ q ≤ p + 4 * i + 5 ∧ ∀ R : List Int × Int, Ev (fun k => spec_l92Form.l0 k (n : Int) (out ++ [x]) s (q : Int)) R → Ev (fun k => spec_l92Form.l0 k (n : Int) out s (p : Int)) R := by
  intro i
  induction i with
  | zero =>
    intro p hp hk
    rcases one_ev hs p (by omega) with ⟨h, _⟩ | ⟨_, x, q, x0, x1, hq, hx⟩
    · exact absurd h hk
    · exact ⟨x, q, x0, x1, by omega, fun R hR => Ev.step (fun k => spec_l92Form.l0.eq_2 _ _ _ _ k) (Ev.pos (by omega) (Ev.pos (by omega) (Ev.bind hx (Ev.pos (by simp only [List.length_cons, List.length_nil]; omega) hR))))⟩
  | succ i ih =>
    intro p hp hk
    rcases one_ev hs p (by omega) with ⟨_, h⟩ | ⟨_, x, q, x0, x1, hq, hx⟩
    · obtain ⟨x, q, x0, x1, hq, hx⟩ := ih (p + 4) (by omega) (by rw [show p + 4 + 3 + 4 * i = p + 3 + 4 * (i + 1) by omega]; exact hk)
      refine ⟨x, q, x0, x1, by omega, fun R hR => Ev.step (fun k => spec_l92Form.l0.eq_2 _ _ _ _ k) (Ev.pos (by omega) (Ev.pos (by omega) (Ev.bind h (Ev.pos (by simp only [List.length_nil]; omega) ?_))))⟩
      rw [List.append_nil]; exact hx R hR
    · exact ⟨x, q, x0, x1, by omega, fun R hR => Ev.step (fun k => spec_l92Form.l0.eq_2 _ _ _ _ k) (Ev.pos (by omega) (Ev.pos (by omega) (Ev.bind hx (Ev.pos (by simp only [List.length_cons, List.length_nil]; omega) hR))))⟩
def Drawn (form : List Int) : Prop := form.length ≤ 4 ∧ ∀ x ∈ form, -31 ≤ x ∧ x ≤ 31
theorem drawn_tame {form : List Int} (h : Drawn form) : Tame form := ⟨by have := h.1; omega, fun x hx => by have := h.2 x hx; omega⟩
theorem form_upto {s : List Int} (hs : IsCode s) (n : Nat) (hn : n ≤ 4) : ∀ (m : Nat) (out : List Int) (p : Nat), out.length + m = n → 1 ≤ out.length → (∀ x ∈ out, -31 ≤ x ∧ x ≤ 31) → p ≤ 1000000000000 * (5 - m) →
    ∃ (form : List Int) (q : Nat), form.length = n ∧ (∀ x ∈ form, -31 ≤ x ∧ x ≤ 31) ∧ q ≤ 6000000000000 ∧ Ev (fun k => spec_l92Form.l0 k (n : Int) out s (p : Int)) (form, (q : Int)) := by
  intro m
  induction m with
  | zero =>
    intro out p hl h1 hb hp
    have fin : ∃ (form : List Int) (v : Nat), form.length = n ∧ (∀ x ∈ form, -31 ≤ x ∧ x ≤ 31) ∧ v ≤ p + 2 ∧ Ev (fun k => spec_l92Form.j1 k out s (p : Int)) (form, (v : Int)) := by
      by_cases e3 : out.length = 3
      · obtain ⟨a, a0, a1, ha⟩ := pick_ev' hs p 2 (by omega) (by omega)
        by_cases e : a = 0
        · obtain ⟨form, v, f1, f2, f3, f4⟩ := form_two hs out e3 hb (fOk out) (p + 1) (by omega)
          exact ⟨form, v, by omega, f2, by omega, Ev.step (fun k => spec_l92Form.j1.eq_2 _ _ _ k) (Ev.pos (by omega) (Ev.bind ha (Ev.pos e (Ev.bind (sFormValid_ev _ (by omega)) f4))))⟩
        · obtain ⟨form, v, f1, f2, f3, f4⟩ := form_two hs out e3 hb false (p + 1) (by omega)
          exact ⟨form, v, by omega, f2, by omega, Ev.step (fun k => spec_l92Form.j1.eq_2 _ _ _ k) (Ev.pos (by omega) (Ev.bind ha (Ev.neg e f4)))⟩
      · exact ⟨out, p, by omega, hb, by omega, Ev.step (fun k => spec_l92Form.j1.eq_2 _ _ _ k) (Ev.neg (by omega) (Ev.step (fun k => spec_l92Form.j2.eq_2 _ _ _ _ k) (Ev.neg (by simp) (Ev.now _))))⟩
    obtain ⟨form, v, f1, f2, f3, f4⟩ := fin
    exact ⟨form, v, f1, f2, by omega, Ev.step (fun k => spec_l92Form.l0.eq_2 _ _ _ _ k) (Ev.neg (by omega) f4)⟩
  | succ m ih =>
    intro out p hl h1 hb hp
    obtain ⟨i, i0, i1⟩ := far_some hs p
    obtain ⟨x, q, x0, x1, hq, hx⟩ := form_stepN hs n out h1 (by omega) hn i p (by omega) i1
    obtain ⟨form, v, f1, f2, f3, f4⟩ := ih (out ++ [x]) q (by rw [List.length_append]; simp; omega) (by rw [List.length_append]; omega)
      (fun w hw => by rcases List.mem_append.1 hw with hw | hw; exact hb w hw; rw [List.mem_singleton] at hw; rw [hw]; exact ⟨x0, x1⟩) (by omega)
    exact ⟨form, v, f1, f2, f3, hx _ f4⟩
theorem formN_ev {s : List Int} (hs : IsCode s) (n : Nat) (h1 : 1 ≤ n) (hn : n ≤ 4) (p : Nat) (hp : p ≤ 1000) : ∃ (form : List Int) (q : Nat), Drawn form ∧ (form.length = 0 ∨ form.length = n) ∧ q ≤ 6000000000000 ∧ Ev (fun k => spec_l92Form.f k s (p : Int) (n : Int)) (form, (q : Int)) := by
  unfold spec_l92Form.f
  rcases one_ev hs p (by omega) with ⟨_, h⟩ | ⟨_, x, q, x0, x1, hq, hx⟩
  · exact ⟨[], p + 4, ⟨by simp, by simp⟩, .inl rfl, by omega, Ev.bind h (Ev.step (fun k => spec_l92Form.l0.eq_2 _ _ _ _ k) (Ev.pos (by simp; omega) (Ev.neg (by simp) (Ev.step (fun k => spec_l92Form.j1.eq_2 _ _ _ k) (Ev.neg (by simp) (Ev.step (fun k => spec_l92Form.j2.eq_2 _ _ _ _ k) (Ev.neg (by simp) (Ev.now _))))))))⟩
  · obtain ⟨form, v, f1, f2, f3, f4⟩ := form_upto hs n hn (n - 1) [x] q (by simp; omega) (by simp) (by intro w hw; simp at hw; omega) (by omega)
    exact ⟨form, v, ⟨by omega, f2⟩, .inr f1, f3, Ev.bind hx f4⟩
theorem draw_ev {s l : List Int} (hs : IsCode s) (ho : spec_l6Open.f l = some (s, 0)) : ∃ form : List Int, Drawn form ∧ Ev (fun k => spec_DrawZeroFind.f k l) form := by
  obtain ⟨a, a0, a1, ha⟩ := pick_ev' hs 0 4 (by omega) (by omega)
  obtain ⟨m, hm⟩ : ∃ m : Nat, 1 + a = (m : Int) := ⟨(1 + a).toNat, by omega⟩
  obtain ⟨form, q, hD, _, _, hf⟩ := formN_ev hs m (by omega) (by omega) (0 + 1) (by omega)
  refine ⟨form, hD, ?_⟩
  unfold spec_DrawZeroFind.f
  refine Ev.bind0 ho (Ev.bind ha ?_)
  simp only
  rw [w64 (a := 1 + a) (by omega) (by omega), hm]
  exact Ev.bind hf (Ev.now _)
theorem bad_iff {f r : List Int} (ht : Tame f) (hf : fOk f = true) (h3 : f.length < 4) (hr : Ev (fun k => impl_FormBad.f k f) r) (hb : r = [] → VanT f 0 ∧ VanT f 2 ∧ ∀ P ∈ OP, (∃ t ∈ f, t % (P : Int) = 0) → VanT f P) : (findA f).2 = decide (r = []) := by
  have hm := fOk_mem hf
  by_cases h : r = []
  · rw [decide_eq_true h]
    obtain ⟨v0, v2, vp⟩ := hb h
    match f, hm, h3, v0, v2, vp, hf with
    | [], _, _, _, _, _, hf => exact absurd (fOk_len hf).1 (by simp)
    | [a], _, _, v0, _, _, _ =>
      obtain ⟨⟨x, hx, x0⟩, y, hy, y0⟩ := v0.1 rfl
      rw [List.mem_singleton] at hx hy
      omega
    | [a, b], hm, _, v0, v2, vp, _ => exact found_two hm v0 v2 vp
    | [a, b, c], hm, _, v0, _, vp, _ => exact found_three hm v0 vp
  · rw [decide_eq_false h]
    rcases findA_zero hf with e | ⟨v, e, hz, _⟩
    · rw [e]
    · exact absurd (Ev.uniq hr (iBad_zero ht hz)) h
end FnFindZeroFun
open FnFindZeroFun
theorem FnFindZero : laws_FnFindZero.Pure := by
  intro l _ _ hw
  refine Ev.rounds (r := true) ?_
  unfold laws_FnFindZero.f
  by_cases hl : (l.length : Int) > 1048576
  · exact Ev.pos hl (Ev.now _)
  · refine Ev.neg hl ?_
    obtain ⟨c, hs, ho⟩ := open_ev hw
    obtain ⟨form, hD, hdraw⟩ := draw_ev hs ho
    have ht := drawn_tame hD
    by_cases hf : fOk form = true
    · obtain ⟨r, rl, hr, hb⟩ := iBad_any ht hf
      have fl := fOk_len hf
      have zs : findA form = ([], false) ∨ ∃ v, findA form = (v, true) ∧ zeroB form v = true ∧ plainL v = v := findA_zero hf
      have sl : (findA form).1.length ≤ 17592186044416 := by
        rcases zs with e | ⟨v, e, hz, _⟩
        · rw [e]; simp
        · rw [e]; have := vOk_len (zB_of hz).2.1; show v.length ≤ _; omega
      refine Ev.bind hdraw (Ev.bind (iFindA_ev ht hf) (Ev.bind (sFind_ev hf) (Ev.neg (by simp) (Ev.bind (sameInts_ev _ sl) (Ev.step (fun k => laws_FnFindZero.j0.eq_2 _ _ _ _ k) (Ev.neg (by simp) (Ev.bind (iFormValid_ev form ht) (Ev.pos hf (Ev.bind hr ?_)))))))))
      have tail : Ev (fun k => laws_FnFindZero.j1 k form (findA form).1 (findA form).2 (r.length : Int) false) true := by
        refine Ev.step (fun k => laws_FnFindZero.j1.eq_2 _ _ _ _ _ k) (Ev.neg (by simp) ?_)
        rcases zs with e | ⟨v, e, hz, hp⟩
        · rw [e]; exact Ev.neg (by simp) (Ev.now _)
        · rw [e]
          have hv : Tame v := by
            obtain ⟨_, z2, _, _⟩ := zB_of hz
            exact ⟨by rw [vOk_len z2]; omega, fun x hx => by have := vOk_mem z2 x hx; omega⟩
          have hp2 := iZeroPlain_ev form v ht hv hz
          rw [hp] at hp2
          refine Ev.pos rfl (Ev.bind hp2 (Ev.pos rfl (Ev.bind (sameInts_ev v (by have := hv.1; omega)) (Ev.pos rfl (Ev.bind (iZeroIs_ev form v ht hv) (Ev.pos hz (Ev.nows ?_)))))))
          rw [Ev.uniq hr (iBad_zero ht hz)]; rfl
      by_cases h4 : (form.length : Int) < 4
      · refine Ev.pos h4 ?_
        have e := bad_iff ht hf (by omega) hr hb
        have e2 : ((findA form).2 != ((r.length : Int) == 0)) = false := by
          rw [e]
          cases r with
          | nil => rfl
          | cons a r =>
            rw [decide_eq_false (by simp), show (((a :: r).length : Int) == 0) = false from beq_eq_false_iff_ne.2 (by simp; omega)]; rfl
        rw [e2]; exact tail
      · exact Ev.neg h4 tail
    · have i0 : Ev (fun k => impl_ZeroFind.f k form) ([], false) := by
        unfold impl_ZeroFind.f
        exact Ev.bind (iFormValid_ev form ht) (Ev.neg hf (Ev.now _))
      have s0 : Ev (fun k => spec_ZeroFind.f k form) ([], false) := by
        unfold spec_ZeroFind.f
        exact Ev.bind (sFormValid_ev form (by have := hD.1; omega)) (Ev.neg hf (Ev.now _))
      exact Ev.bind hdraw (Ev.bind i0 (Ev.bind s0 (Ev.neg (by simp) (Ev.bind (sameInts_ev [] (by simp)) (Ev.step (fun k => laws_FnFindZero.j0.eq_2 _ _ _ _ k) (Ev.neg (by simp) (Ev.bind (iFormValid_ev form ht) (Ev.neg hf (Ev.now _)))))))))
end Go.Proofs.Ytpjgcjkodmkemaa.Pure
