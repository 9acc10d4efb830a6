/- Plain mathematics: a move is taken apart into mirrors. No program in sight. -/
import Derived.Test.YtnbeeogmaamgdaaOfm
import Derived.Test.YtnbeeogmaamgdaaCar
namespace Go.Proofs.Ytnbeeogmaamgdaa.Aid
open Go.RowKit Go.Proofs.YtnbeeogmaamgdaaW.PrintWords Go.Proofs.YtnbeeogmaamgdaaW.PrintLast Go.Proofs.YtnbeeogmaamgdaaW.PrintMore
def eL (n i : Nat) (d : Int) : List Int := (List.replicate n 0).set i d
def noteB (form : List Int) (ls A : List (List Int)) (d : Int) (u : List Int) : Bool × List (List Int) × List (List Int) × Int :=
  if (mirB form (plainL u)).2.2 = true then ((mulB form (mirB form (plainL u)).1 (mirB form (plainL u)).2.1 A d).2.2, ls ++ [plainL u], (mulB form (mirB form (plainL u)).1 (mirB form (plainL u)).2.1 A d).1, (mulB form (mirB form (plainL u)).1 (mirB form (plainL u)).2.1 A d).2.1)
  else (false, [], [], 0)
def splitGo (form : List Int) : Nat → Nat → List (List Int) → List (List Int) → Int → List (List Int) × Bool
  | 0, _, ls, _, _ => (ls, true)
  | m + 1, i, ls, A, d =>
    if colL A i = eL form.length i d then splitGo form m (i + 1) ls A d
    else if dot3 form (combL (colL A i) (-1) (eL form.length i d)) (combL (colL A i) (-1) (eL form.length i d)) = 0 then
      (if (noteB form ls A d (combL (colL A i) 1 (eL form.length i d))).1 = true then
        (if (noteB form (noteB form ls A d (combL (colL A i) 1 (eL form.length i d))).2.1 (noteB form ls A d (combL (colL A i) 1 (eL form.length i d))).2.2.1 (noteB form ls A d (combL (colL A i) 1 (eL form.length i d))).2.2.2 (eL form.length i d)).1 = true then
          splitGo form m (i + 1) (noteB form (noteB form ls A d (combL (colL A i) 1 (eL form.length i d))).2.1 (noteB form ls A d (combL (colL A i) 1 (eL form.length i d))).2.2.1 (noteB form ls A d (combL (colL A i) 1 (eL form.length i d))).2.2.2 (eL form.length i d)).2.1
            (noteB form (noteB form ls A d (combL (colL A i) 1 (eL form.length i d))).2.1 (noteB form ls A d (combL (colL A i) 1 (eL form.length i d))).2.2.1 (noteB form ls A d (combL (colL A i) 1 (eL form.length i d))).2.2.2 (eL form.length i d)).2.2.1
            (noteB form (noteB form ls A d (combL (colL A i) 1 (eL form.length i d))).2.1 (noteB form ls A d (combL (colL A i) 1 (eL form.length i d))).2.2.1 (noteB form ls A d (combL (colL A i) 1 (eL form.length i d))).2.2.2 (eL form.length i d)).2.2.2
        else ([], false)) else ([], false))
    else (if (noteB form ls A d (combL (colL A i) (-1) (eL form.length i d))).1 = true then
      splitGo form m (i + 1) (noteB form ls A d (combL (colL A i) (-1) (eL form.length i d))).2.1 (noteB form ls A d (combL (colL A i) (-1) (eL form.length i d))).2.2.1 (noteB form ls A d (combL (colL A i) (-1) (eL form.length i d))).2.2.2
      else ([], false))
def splitB (form : List Int) (A : List (List Int)) (d : Int) : List (List Int) × Bool := if mvB form A d = true then splitGo form form.length 0 [] A d else ([], false)
theorem eL_len (n i : Nat) (d : Int) : (eL n i d).length = n := by unfold eL; simp
theorem eL_rd {n i k : Nat} {d : Int} (hk : k < n) : rd (eL n i d) (k : Int) = if i = k then d else 0 := by
  unfold eL; rw [rd_at]
  rw [List.getD_eq_getElem?_getD, List.getElem?_set]
  by_cases h : i = k
  · subst h; simp [hk]
  · simp [h, hk]
theorem eL_bd {n i : Nat} {d M : Int} (hM : 0 ≤ M) (h : -M ≤ d ∧ d ≤ M) : ∀ x ∈ eL n i d, -M ≤ x ∧ x ≤ M := by
  intro x hx
  unfold eL at hx
  rcases List.mem_or_eq_of_mem_set hx with h1 | h1
  · rw [List.eq_of_mem_replicate h1]; omega
  · rw [h1]; exact h
theorem eL_some {n i : Nat} {d : Int} (hi : i < n) (hd : d ≠ 0) : some0 (eL n i d) = true := by
  rcases hs : some0 (eL n i d) with _ | _
  · have := some0_rd.1 hs i (by rw [eL_len]; exact hi)
    rw [eL_rd hi, if_pos rfl] at this; exact absurd this hd
  · rfl
theorem col_rd {A : List (List Int)} {r j : Nat} (hr : r < A.length) : rd (colL A j) (r : Int) = ent A r j := by
  unfold ent colL; rw [rd_at, List.getD_eq_getElem?_getD, List.getElem?_map, List.getElem?_eq_getElem hr, getD_at hr]; simp
theorem eL_dot {form : List Int} {i : Nat} {d : Int} {x : List Int} (hi : i < form.length) (hx : x.length = form.length) : dot3 form x (eL form.length i d) = rd form (i : Int) * rd x (i : Int) * d := by
  rw [dot3_sum form.length _ _ _ rfl hx (eL_len _ _ _), sumN_one form.length i hi _ (fun k hk hne => by rw [eL_rd hk, if_neg (fun e => hne e.symm), Int.mul_zero]), eL_rd hi, if_pos rfl]
theorem mv_pair {form : List Int} {A : List (List Int)} {d : Int} (h : mvB form A d = true) {a b : Nat} (ha : a < form.length) (hb : b < form.length) : dot3 form (colL A a) (colL A b) = if a = b then rd form (a : Int) * d * d else 0 := (mvB_of h).2.2.2.2.2.2 a ha b hb
theorem note_ok {form : List Int} {ls A : List (List Int)} {d : Int} {u : List Int} (h : (noteB form ls A d u).1 = true) :
    (mirB form (plainL u)).2.2 = true ∧ mvB form A d = true ∧ (noteB form ls A d u).2.1 = ls ++ [plainL u] ∧ mvB form (noteB form ls A d u).2.2.1 (noteB form ls A d u).2.2.2 = true ∧
      ∃ G : Int, G ≠ 0 ∧ dot3 form (plainL u) (plainL u) * d = G * (noteB form ls A d u).2.2.2 ∧ ∀ i k, i < form.length → k < form.length → mm form.length (mirF form (plainL u)) (ent A) i k = G * ent (noteB form ls A d u).2.2.1 i k := by
  unfold noteB at h ⊢
  by_cases hm : (mirB form (plainL u)).2.2 = true
  · rw [if_pos hm] at h ⊢
    obtain ⟨_, _, _, _, hM, g, g0, gq, ge⟩ := mirB_ok hm
    obtain ⟨_, hA, hN, k0, kp, kd, ke⟩ := mulB_ok h
    refine ⟨hm, hA, rfl, hN, g * k0, Int.mul_ne_zero g0 (by omega), ?_, fun i k hi hk => ?_⟩
    · simp only; rw [gq, Int.mul_assoc, kd, Int.mul_assoc]
    · simp only
      rw [mm_congr ge (fun _ _ _ _ => rfl) i k hi hk, Int.mul_assoc, ← ke i k hi hk]
      unfold mm
      rw [← sumN_mul]
      exact sumN_congr _ _ _ (fun j _ => by grind)
  · rw [if_neg hm] at h; simp at h
theorem mm_mv (n : Nat) (f g : Nat → Nat → Int) (i k : Nat) : mm n f g i k = mv n f (fun j => g j k) i := rfl
theorem note_col {form : List Int} {ls A : List (List Int)} {d : Int} {u : List Int} (h : (noteB form ls A d u).1 = true) {j : Nat} (hj : j < form.length) {y : List Int}
    (e : ∀ i, i < form.length → 2 * rd (plainL u) (i : Int) * dot3 form (plainL u) (colL A j) = dot3 form (plainL u) (plainL u) * (rd (colL A j) (i : Int) - rd y (i : Int))) {s : Int} (hy : ∀ i, i < form.length → rd y (i : Int) = if j = i then s * d else 0) :
    ∀ i, i < form.length → ent (noteB form ls A d u).2.2.1 i j = if j = i then s * (noteB form ls A d u).2.2.2 else 0 := by
  obtain ⟨hm, hA, _, hN, G, G0, Gq, Ge⟩ := note_ok h
  intro i hi
  have hw := vOk_len (mirB_ok hm).2.2.1
  have la := (mvB_of hA).2.2.1
  have e1 := Ge i j hi hj
  have e2 := mirF_mv (form := form) (w := plainL u) (fun k => ent A k j) i hi
  rw [mm_mv, e2] at e1
  have e3 : bF form.length (fun k => rd form (k : Int)) (fun k => rd (plainL u) (k : Int)) (fun k => ent A k j) = dot3 form (plainL u) (colL A j) := by
    rw [dot3_bF hw (by rw [colL_len, la])]
    exact bF_congr (fun _ _ => rfl) (fun k hk => (col_rd (by omega)).symm)
  rw [e3, e i hi, col_rd (by omega), hy i hi] at e1
  refine Int.eq_of_mul_eq_mul_left G0 ?_
  rw [← e1]
  by_cases hji : j = i
  · rw [if_pos hji, if_pos hji]
    have : G * (s * (noteB form ls A d u).2.2.2) = s * (G * (noteB form ls A d u).2.2.2) := by grind
    rw [this, ← Gq]; grind
  · rw [if_neg hji, if_neg hji]; grind
theorem plain_orth {form u x : List Int} (hu : u.length = form.length) (hx : x.length = form.length) (hs : some0 u = true) (h : dot3 form u x = 0) : dot3 form (plainL u) x = 0 := by
  obtain ⟨c, c0, pl, pe⟩ := plain_mul hs
  rw [dot3_bF hu hx] at h
  rw [dot3_bF (by omega) hx]
  rw [bF_congr (u' := fun k => c * rd (plainL u) (k : Int) + 0 * rd (plainL u) (k : Int)) (v' := fun k => rd x (k : Int)) (fun k hk => by rw [pe k (by omega)]; omega) (fun _ _ => rfl), bF_comb] at h
  have h2 : c * bF form.length (fun k => rd form (k : Int)) (fun k => rd (plainL u) (k : Int)) (fun k => rd x (k : Int)) = c * 0 := by omega
  exact Int.eq_of_mul_eq_mul_left c0 h2
theorem comb_dot {form u v x : List Int} {t : Int} (hu : u.length = form.length) (hv : v.length = form.length) (hx : x.length = form.length) : dot3 form (combL u t v) x = dot3 form u x + t * dot3 form v x := by
  rw [dot3_bF (by rw [combL_len]; exact hu) hx, dot3_bF hu hx, dot3_bF hv hx, bF_congr (u' := fun k => 1 * rd u (k : Int) + t * rd v (k : Int)) (v' := fun k => rd x (k : Int)) (fun k hk => by rw [combL_rd (by omega)]; omega) (fun _ _ => rfl), bF_comb, Int.one_mul]
def Fix (n : Nat) (A : List (List Int)) (d : Int) (i : Nat) : Prop := ∀ j, j < i → ∀ r, r < n → ent A r j = if j = r then 1 * d else 0
theorem note_fix {form : List Int} {ls A : List (List Int)} {d : Int} {u : List Int} (h : (noteB form ls A d u).1 = true) (hu : u.length = form.length) (hs : some0 u = true) {i : Nat} (hi : i ≤ form.length) (hF : Fix form.length A d i) (ho : ∀ j, j < i → dot3 form u (colL A j) = 0) : Fix form.length (noteB form ls A d u).2.2.1 (noteB form ls A d u).2.2.2 i := by
  obtain ⟨_, hA, _⟩ := note_ok h
  have la := (mvB_of hA).2.2.1
  intro j hj
  refine note_col h (show j < form.length by omega) (y := colL A j) (s := 1) (fun r hr => ?_) (fun r hr => ?_)
  · rw [plain_orth hu (by rw [colL_len, la]) hs (ho j hj)]; simp
  · rw [col_rd (by omega)]; exact hF j hj r hr
theorem col_val {form : List Int} {A : List (List Int)} {d : Int} (h : mvB form A d = true) {i : Nat} (hi : i < form.length) : dot3 form (colL A i) (colL A i) = dot3 form (eL form.length i d) (eL form.length i d) ∧ dot3 form (eL form.length i d) (eL form.length i d) ≠ 0 := by
  have hd := (mvB_of h).2.2.2.1
  have hf := fOk_mem (mvB_of h).1 _ (rd_mem hi)
  rw [mv_pair h hi hi, if_pos rfl, eL_dot hi (eL_len _ _ _), eL_rd hi, if_pos rfl]
  exact ⟨rfl, Int.mul_ne_zero (Int.mul_ne_zero hf.1 (by omega)) (by omega)⟩
theorem sum_some' {form u v : List Int} (hl : v.length = u.length) (hlf : u.length = form.length) (h0 : dot3 form u u ≠ 0) (hz : dot3 form (combL u (-1) v) (combL u (-1) v) = 0) : some0 (combL u 1 v) = true := by
  rcases hs : some0 (combL u 1 v) with _ | _
  · exfalso
    have e : v = negL u := by
      refine ext_rd (by rw [negL_len]; exact hl) (fun i hi => ?_)
      have := some0_rd.1 hs i (by rw [combL_len]; omega)
      rw [combL_rd (by omega)] at this
      rw [negL_rd]; omega
    have e2 : combL u (-1) v = combL u 1 u := by
      refine ext_rd (by rw [combL_len, combL_len]) (fun i hi => ?_)
      rw [combL_len] at hi
      rw [combL_rd hi, combL_rd hi, e, negL_rd]; omega
    have cl : (combL u 1 u).length = form.length := by rw [combL_len]; exact hlf
    rw [e2, comb_dot hlf hlf cl, dot3_comm form u, comb_dot hlf hlf hlf] at hz
    omega
  · rfl
theorem place_some {form : List Int} {A : List (List Int)} {d : Int} (h : mvB form A d = true) {i : Nat} (hi : i < form.length) (hne : colL A i ≠ eL form.length i d) :
    some0 (combL (colL A i) (-1) (eL form.length i d)) = true ∧ (dot3 form (combL (colL A i) (-1) (eL form.length i d)) (combL (colL A i) (-1) (eL form.length i d)) = 0 → some0 (combL (colL A i) 1 (eL form.length i d)) = true) := by
  have la := (mvB_of h).2.2.1
  have cl : (colL A i).length = form.length := by rw [colL_len, la]
  have el := eL_len form.length i d
  obtain ⟨v1, v2⟩ := col_val h hi
  constructor
  · rcases hs : some0 (combL (colL A i) (-1) (eL form.length i d)) with _ | _
    · exact absurd ((comb_some (by omega)).1 hs) hne
    · rfl
  · intro hz
    exact sum_some' (by omega) cl (by rw [v1]; exact v2) hz
theorem orth_comb {form : List Int} {A : List (List Int)} {d : Int} (h : mvB form A d = true) {i : Nat} (hi : i < form.length) (hF : Fix form.length A d i) (t : Int) : ∀ j, j < i → dot3 form (combL (colL A i) t (eL form.length i d)) (colL A j) = 0 := by
  intro j hj
  have la := (mvB_of h).2.2.1
  have cl : ∀ j, (colL A j).length = form.length := fun j => by rw [colL_len, la]
  rw [comb_dot (cl i) (eL_len _ _ _) (cl j), mv_pair h hi (by omega), if_neg (by omega), dot3_comm, eL_dot hi (cl j), col_rd (by omega), hF j hj i hi, if_neg (by omega)]
  simp
theorem orth_e {form : List Int} {A : List (List Int)} {d c : Int} (h : mvB form A d = true) {i : Nat} (hi : i < form.length) (hF : Fix form.length A d i) : ∀ j, j < i → dot3 form (eL form.length i c) (colL A j) = 0 := by
  intro j hj
  have la := (mvB_of h).2.2.1
  have cl : ∀ j, (colL A j).length = form.length := fun j => by rw [colL_len, la]
  rw [dot3_comm, eL_dot hi (cl j), col_rd (by omega), hF j hj i hi, if_neg (by omega)]
  simp
theorem Fix.next {n : Nat} {A : List (List Int)} {d : Int} {i : Nat} (h : Fix n A d i) (k : ∀ r, r < n → ent A r i = if i = r then 1 * d else 0) : Fix n A d (i + 1) := by
  intro j hj
  rcases (by omega : j < i ∨ j = i) with q | rfl
  · exact h j q
  · exact k
def Left (form : List Int) (A0 : List (List Int)) (d0 : Int) (ls A : List (List Int)) (d : Int) : Prop :=
  (∀ w ∈ ls, (mirB form w).2.2 = true) ∧ ∀ i k, i < form.length → k < form.length → d * mm form.length (prodM form ls.reverse) (ent A0) i k = prodQ form ls * d0 * ent A i k
theorem Left.note {form : List Int} {A0 : List (List Int)} {d0 : Int} {ls A : List (List Int)} {d : Int} {u : List Int} (hL : Left form A0 d0 ls A d) (h : (noteB form ls A d u).1 = true) :
    Left form A0 d0 (noteB form ls A d u).2.1 (noteB form ls A d u).2.2.1 (noteB form ls A d u).2.2.2 := by
  obtain ⟨hm, hA, hl, hN, G, G0, Gq, Ge⟩ := note_ok h
  have hd := (mvB_of hA).2.2.2.1
  rw [hl]
  refine ⟨fun w hw => ?_, fun i k hi hk => ?_⟩
  · rcases List.mem_append.1 hw with hw | hw
    · exact hL.1 w hw
    · rw [List.mem_singleton.1 hw]; exact hm
  · have e0 := hL.2
    rw [List.reverse_append, prodQ_app]
    show _ * mm form.length (mm form.length (mirF form (plainL u)) (prodM form ls.reverse)) (ent A0) i k = prodQ form ls * (dot3 form (plainL u) (plainL u) * 1) * d0 * ent (noteB form ls A d u).2.2.1 i k
    rw [mm_assoc]
    have e1 : d * mm form.length (mirF form (plainL u)) (mm form.length (prodM form ls.reverse) (ent A0)) i k = prodQ form ls * d0 * mm form.length (mirF form (plainL u)) (ent A) i k := by
      unfold mm at e0 ⊢
      rw [← sumN_mul, ← sumN_mul]
      refine sumN_congr _ _ _ (fun j hj => ?_)
      have := e0 j k hj hk
      have e2 : ∀ x y z : Int, x * (y * z) = y * (x * z) := fun x y z => by grind
      rw [e2, this, e2]
    rw [Ge i k hi hk] at e1
    refine Int.eq_of_mul_eq_mul_left (show d ≠ 0 by omega) ?_
    have e3 : ∀ x y z : Int, x * (y * z) = y * (x * z) := fun x y z => by grind
    rw [e3, e1, Int.mul_one]
    have : d * (prodQ form ls * dot3 form (plainL u) (plainL u) * d0 * ent (noteB form ls A d u).2.2.1 i k) = prodQ form ls * d0 * ent (noteB form ls A d u).2.2.1 i k * (dot3 form (plainL u) (plainL u) * d) := by grind
    rw [this, Gq]; grind
structure AtPlace (form : List Int) (A0 : List (List Int)) (d0 : Int) (i : Nat) (ls A : List (List Int)) (d : Int) : Prop where
  mv : mvB form A d = true
  left : Left form A0 d0 ls A d
  fix : Fix form.length A d i
  most : ls.length ≤ 2 * i
  def_ : (lessN form = 0 ∨ lessN form = form.length) → ls.length ≤ i
theorem eL_plain {n i : Nat} {c : Int} (hi : i < n) (hc : 1 ≤ c) : plainL (eL n i c) = eL n i 1 := by
  have hs := eL_some (d := c) hi (by omega)
  have hg : gcdL 0 (eL n i c) = c.toNat := by
    refine Nat.dvd_antisymm ?_ (gcdL_great _ _ _ (Nat.dvd_zero _) (fun x hx => ?_))
    · have h1 : rd (eL n i c) (i : Int) = c := by rw [eL_rd hi, if_pos rfl]
      have := (gcdL_mono (eL n i c) 0).2 _ (rd_mem (show i < (eL n i c).length by rw [eL_len]; exact hi))
      rw [h1] at this
      rw [show c.toNat = c.natAbs by omega]; exact this
    · unfold eL at hx
      rcases List.mem_or_eq_of_mem_set hx with h1 | h1
      · rw [List.eq_of_mem_replicate h1]; exact Nat.dvd_zero _
      · rw [h1, show c.toNat = c.natAbs by omega]; exact Nat.dvd_refl _
  have hsg : sgn1 (eL n i c) = 1 := by
    have go : ∀ (n i : Nat), i < n → sgn1 ((List.replicate n 0).set i c) = 1 := by
      intro n
      induction n with
      | zero => intro i h; omega
      | succ n ih =>
        intro i h
        rw [List.replicate_succ]
        cases i with
        | zero => rw [List.set_cons_zero, sgn1, if_neg (by omega), if_neg (by omega)]
        | succ i => rw [List.set_cons_succ, sgn1, if_pos rfl]; exact ih i (by omega)
    exact go n i hi
  unfold plainL
  rw [hg, hsg]
  refine ext_rd (by rw [List.length_map, eL_len, eL_len]) (fun k hk => ?_)
  rw [List.length_map, eL_len] at hk
  have e : rd ((eL n i c).map fun x => Int.tdiv x (1 * (c.toNat : Int))) (k : Int) = Int.tdiv (rd (eL n i c) (k : Int)) (1 * (c.toNat : Int)) := by
    rw [rd_at, rd_at, List.getD_eq_getElem?_getD, List.getElem?_map, List.getElem?_eq_getElem (by rw [eL_len]; exact hk), List.getD_eq_getElem?_getD, List.getElem?_eq_getElem (by rw [eL_len]; exact hk)]; rfl
  rw [e, eL_rd hk, eL_rd hk]
  split
  · rw [show (1 * (c.toNat : Int)) = c by omega]; exact Int.tdiv_self (by omega)
  · exact Int.zero_tdiv _
theorem AtPlace.less {form : List Int} {A0 : List (List Int)} {d0 : Int} {i : Nat} {ls A : List (List Int)} {d : Int} (P : AtPlace form A0 d0 i ls A d) (hi : i < form.length) (hne : colL A i ≠ eL form.length i d)
    (h : (noteB form ls A d (combL (colL A i) (-1) (eL form.length i d))).1 = true) :
    AtPlace form A0 d0 (i + 1) (noteB form ls A d (combL (colL A i) (-1) (eL form.length i d))).2.1 (noteB form ls A d (combL (colL A i) (-1) (eL form.length i d))).2.2.1 (noteB form ls A d (combL (colL A i) (-1) (eL form.length i d))).2.2.2 := by
  have la := (mvB_of P.mv).2.2.1
  have cl : (colL A i).length = form.length := by rw [colL_len, la]
  have el := eL_len form.length i d
  obtain ⟨s1, _⟩ := place_some P.mv hi hne
  obtain ⟨v1, _⟩ := col_val P.mv hi
  obtain ⟨hm, hA, hl, hN, _⟩ := note_ok h
  refine ⟨hN, P.left.note h, ?_, ?_, ?_⟩
  · refine (note_fix h (by rw [combL_len]; exact cl) s1 (by omega) P.fix (orth_comb P.mv hi P.fix _)).next ?_
    refine note_col h hi (y := eL form.length i d) (s := 1) (fun r hr => ?_) (fun r hr => ?_)
    · have := carry_eq (t := -1) rfl cl el v1 s1 r hr
      rw [this]; simp
    · rw [eL_rd hr]; simp
  · rw [hl, List.length_append]; have := P.most; simp; omega
  · intro hd; rw [hl, List.length_append]; have := P.def_ hd; simp; omega
theorem AtPlace.both {form : List Int} {A0 : List (List Int)} {d0 : Int} {i : Nat} {ls A : List (List Int)} {d : Int} (P : AtPlace form A0 d0 i ls A d) (hi : i < form.length) (hne : colL A i ≠ eL form.length i d)
    (hz : dot3 form (combL (colL A i) (-1) (eL form.length i d)) (combL (colL A i) (-1) (eL form.length i d)) = 0)
    {a : Bool × List (List Int) × List (List Int) × Int} (ea : noteB form ls A d (combL (colL A i) 1 (eL form.length i d)) = a) (h : a.1 = true)
    (h2 : (noteB form a.2.1 a.2.2.1 a.2.2.2 (eL form.length i d)).1 = true) :
    AtPlace form A0 d0 (i + 1) (noteB form a.2.1 a.2.2.1 a.2.2.2 (eL form.length i d)).2.1 (noteB form a.2.1 a.2.2.1 a.2.2.2 (eL form.length i d)).2.2.1 (noteB form a.2.1 a.2.2.1 a.2.2.2 (eL form.length i d)).2.2.2 := by
  subst ea
  have la := (mvB_of P.mv).2.2.1
  have dd := (mvB_of P.mv).2.2.2.1
  have cl : (colL A i).length = form.length := by rw [colL_len, la]
  have el := eL_len form.length i d
  obtain ⟨s1, s2⟩ := place_some P.mv hi hne
  have s2 := s2 hz
  obtain ⟨v1, _⟩ := col_val P.mv hi
  obtain ⟨hm, hA, hl, hN, _⟩ := note_ok h
  have f1 := note_fix h (by rw [combL_len]; exact cl) s2 (by omega) P.fix (orth_comb P.mv hi P.fix _)
  have c1 : ∀ r, r < form.length → ent (noteB form ls A d (combL (colL A i) 1 (eL form.length i d))).2.2.1 r i = if i = r then -1 * (noteB form ls A d (combL (colL A i) 1 (eL form.length i d))).2.2.2 else 0 := by
    refine note_col h hi (y := negL (eL form.length i d)) (s := -1) (fun r hr => ?_) (fun r hr => ?_)
    · have := carry_eq (t := 1) rfl cl el v1 s2 r hr
      rw [this, negL_rd]; congr 1; omega
    · rw [negL_rd, eL_rd hr]; split <;> omega
  have L1 := P.left.note h
  generalize ha : noteB form ls A d (combL (colL A i) 1 (eL form.length i d)) = a at *
  obtain ⟨hm2, hA2, hl2, hN2, _⟩ := note_ok h2
  have da := (mvB_of hA2).2.2.2.1
  have laa := (mvB_of hA2).2.2.1
  refine ⟨hN2, L1.note h2, ?_, ?_, ?_⟩
  · refine (note_fix h2 (eL_len _ _ _) (eL_some hi (by omega)) (by omega) f1 (orth_e hA2 hi f1)).next ?_
    refine note_col h2 hi (y := eL form.length i a.2.2.2) (s := 1) (fun r hr => ?_) (fun r hr => ?_)
    · have q := carry_own (form := form) (v := eL form.length i a.2.2.2) (eL_len _ _ _) (eL_some hi (by omega)) r hr
      rw [eL_plain hi (by omega)] at q ⊢
      have : colL a.2.2.1 i = negL (eL form.length i a.2.2.2) := by
        refine ext_rd (by rw [colL_len, laa, negL_len, eL_len]) (fun k hk => ?_)
        rw [colL_len, laa] at hk
        rw [col_rd (by omega), c1 k hk, negL_rd, eL_rd hk]; split <;> omega
      rw [this]; exact q
    · rw [eL_rd hr]; simp
  · rw [hl2, List.length_append, hl, List.length_append]; have := P.most; simp; omega
  · intro hd
    exfalso
    have := definite (z := combL (colL A i) (-1) (eL form.length i d)) (mvB_of P.mv).1 (by rw [combL_len]; exact cl) hd hz
    rw [s1] at this; cases this
theorem split_go {form : List Int} {A0 : List (List Int)} {d0 : Int} : ∀ (m i : Nat) (ls A : List (List Int)) (d : Int), i + m = form.length → AtPlace form A0 d0 i ls A d → (splitGo form m i ls A d).2 = true →
    ∃ (B : List (List Int)) (e : Int), AtPlace form A0 d0 form.length (splitGo form m i ls A d).1 B e
  | 0, i, ls, A, d, hi, P, _ => ⟨A, d, by obtain rfl : i = form.length := by omega
                                          exact P⟩
  | m + 1, i, ls, A, d, hi, P, h => by
    unfold splitGo at h ⊢
    by_cases h1 : colL A i = eL form.length i d
    · rw [if_pos h1] at h ⊢
      refine split_go m (i + 1) ls A d (by omega) ⟨P.mv, P.left, P.fix.next (fun r hr => ?_), by have := P.most; omega, fun hd => by have := P.def_ hd; omega⟩ h
      have la := (mvB_of P.mv).2.2.1
      rw [← col_rd (by omega), h1, eL_rd hr]; simp
    · rw [if_neg h1] at h ⊢
      by_cases hz : dot3 form (combL (colL A i) (-1) (eL form.length i d)) (combL (colL A i) (-1) (eL form.length i d)) = 0
      · rw [if_pos hz] at h ⊢
        generalize ha : noteB form ls A d (combL (colL A i) 1 (eL form.length i d)) = a at h ⊢
        by_cases h2 : a.1 = true
        · rw [if_pos h2] at h ⊢
          have Q := P.both (by omega) h1 hz ha h2
          generalize hb : noteB form a.2.1 a.2.2.1 a.2.2.2 (eL form.length i d) = b at h Q ⊢
          by_cases h3 : b.1 = true
          · rw [if_pos h3] at h ⊢
            exact split_go m (i + 1) _ _ _ (by omega) (Q h3) h
          · rw [if_neg h3] at h; simp at h
        · rw [if_neg h2] at h; simp at h
      · rw [if_neg hz] at h ⊢
        have Q := P.less (by omega) h1
        generalize hb : noteB form ls A d (combL (colL A i) (-1) (eL form.length i d)) = b at h Q ⊢
        by_cases h3 : b.1 = true
        · rw [if_pos h3] at h ⊢
          exact split_go m (i + 1) _ _ _ (by omega) (Q h3) h
        · rw [if_neg h3] at h; simp at h
theorem split_ok {form : List Int} {A : List (List Int)} {d : Int} (h : (splitB form A d).2 = true) :
    mvB form A d = true ∧ (∀ w ∈ (splitB form A d).1, (mirB form w).2.2 = true) ∧ (splitB form A d).1.length ≤ 2 * form.length ∧ ((lessN form = 0 ∨ lessN form = form.length) → (splitB form A d).1.length ≤ form.length) ∧
      ∀ i k, i < form.length → k < form.length → mm form.length (prodM form (splitB form A d).1.reverse) (ent A) i k = unit (prodQ form (splitB form A d).1 * d) i k := by
  unfold splitB at h ⊢
  by_cases hv : mvB form A d = true
  · rw [if_pos hv] at h ⊢
    have hd := (mvB_of hv).2.2.2.1
    obtain ⟨B, e, Q⟩ := split_go (A0 := A) (d0 := d) form.length 0 [] A d (by omega) ⟨hv, ⟨by simp, fun i k hi hk => by
      show d * mm form.length (unit 1) (ent A) i k = 1 * d * ent A i k
      rw [unit_mm _ _ hi]; grind⟩, fun j hj => by omega, by simp, fun _ => by simp⟩ h
    have he := (mvB_of Q.mv).2.2.2.1
    refine ⟨hv, Q.left.1, Q.most, Q.def_, fun i k hi hk => ?_⟩
    have a := Q.left.2 i k hi hk
    rw [Q.fix k hk i hi] at a
    refine Int.eq_of_mul_eq_mul_left (show e ≠ 0 by omega) ?_
    rw [a]; unfold unit
    by_cases hik : i = k
    · rw [if_pos hik, if_pos hik.symm]; grind
    · rw [if_neg hik, if_neg (fun q => hik q.symm)]; simp
  · rw [if_neg hv] at h; simp at h
theorem split_of {form : List Int} {A : List (List Int)} {d : Int} (h : (splitB form A d).2 = true) (ho : (ofB form (splitB form A d).1).2.2 = true) : (ofB form (splitB form A d).1).1 = A ∧ (ofB form (splitB form A d).1).2.1 = d := by
  obtain ⟨hv, hw, _, _, he⟩ := split_ok h
  obtain ⟨_, _, hC, _, eC⟩ := ofB_ok ho
  obtain ⟨hf, h3, _, hd, _⟩ := mvB_of hv
  have h1 := (fOk_len hf).1
  obtain ⟨w1, w2⟩ := mir_vec hw
  generalize (splitB form A d).1 = l at *
  have hQ := prodQ_ne form l w2
  have dC := (mvB_of hC).2.2.2.1
  have hrev := inv_comm h1 h3 (Int.mul_ne_zero hQ hQ) (rev_mm h1 h3 l w1)
  refine move_uniq hC hv (fun i k hi hk => ?_)
  have e1 : prodQ form l * prodQ form l * ent A i k = prodM form l i k * (prodQ form l * d) := by
    rw [← mm_unit (prodM form l) _ hk, ← mm_congr (fun _ _ _ _ => rfl) he i k hi hk, ← mm_assoc, mm_congr hrev (fun _ _ _ _ => rfl) i k hi hk, unit_mm _ _ hi]
  have e2 : prodQ form l * ent A i k = d * prodM form l i k := by
    refine Int.eq_of_mul_eq_mul_left hQ ?_
    rw [← Int.mul_assoc, e1]; grind
  refine Int.eq_of_mul_eq_mul_left hQ ?_
  have e3 := eC i k hi hk
  have : prodQ form l * (d * ent (ofB form l).1 i k) = d * (prodQ form l * ent (ofB form l).1 i k) := by grind
  rw [this, ← e3]
  have : prodQ form l * ((ofB form l).2.1 * ent A i k) = (ofB form l).2.1 * (prodQ form l * ent A i k) := by grind
  rw [this, e2]; grind
end Go.Proofs.Ytnbeeogmaamgdaa.Aid
