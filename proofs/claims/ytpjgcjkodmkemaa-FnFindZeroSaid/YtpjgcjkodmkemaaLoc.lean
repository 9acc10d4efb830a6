/- Plain words on numbers at a prime: classes, residues, sums that vanish. No program in sight. -/
import Derived.Test.YtpjgcjkodmkemaaVec
namespace Go.Proofs.Ytpjgcjkodmkemaa.Aid
open Go.RowKit Go.Proofs.YtpjgcjkodmkemaaW.PrintWords Go.Proofs.YtpjgcjkodmkemaaW.PrintLast Go.Proofs.YtpjgcjkodmkemaaW.PrintMore
def IsVU (p : Nat) (n : Int) (k : Nat) (u : Int) : Prop := n = (p : Int) ^ k * u ∧ ¬ (p : Int) ∣ u
theorem vu_ex {p : Nat} (hp : 2 ≤ p) : ∀ (m : Nat) (n : Int), n.natAbs ≤ m → n ≠ 0 → ∃ k u, IsVU p n k u ∧ u.natAbs ≤ n.natAbs ∧ k ≤ n.natAbs
  | 0, n, h, h0 => by omega
  | m + 1, n, h, h0 => by
    by_cases hd : (p : Int) ∣ n
    · obtain ⟨q, rfl⟩ := hd
      have q0 : q ≠ 0 := fun k => h0 (by rw [k, Int.mul_zero])
      have e : ((p : Int) * q).natAbs = p * q.natAbs := by rw [Int.natAbs_mul]; rfl
      have h2 := Nat.mul_le_mul_right q.natAbs hp
      obtain ⟨k, u, ⟨h3, h4⟩, h5, h6⟩ := vu_ex hp m q (by omega) q0
      have e2 : (p : Int) * q = (p : Int) ^ (k + 1) * u := by
        rw [Int.pow_succ, Int.mul_comm ((p : Int) ^ k) (p : Int), Int.mul_assoc, ← h3]
      have q1 : q.natAbs ≥ 1 := by omega
      exact ⟨k + 1, u, ⟨e2, h4⟩, by omega, by omega⟩
    · exact ⟨0, n, ⟨by simp, hd⟩, Nat.le_refl _, Nat.zero_le _⟩
theorem vu_lt {p : Nat} (hp : 2 ≤ p) {k l : Nat} {u v : Int} (h : (p : Int) ^ k * u = (p : Int) ^ l * v) (hu : ¬ (p : Int) ∣ u) : l ≤ k := by
  refine Nat.le_of_not_lt (fun hl => hu ?_)
  obtain ⟨d, rfl⟩ : ∃ d, l = k + (d + 1) := ⟨l - k - 1, by omega⟩
  have h0 : (p : Int) ^ k ≠ 0 := Int.pow_ne_zero (by omega)
  rw [Int.pow_add, Int.mul_assoc] at h
  rw [Int.eq_of_mul_eq_mul_left h0 h, Int.pow_succ, Int.mul_comm ((p : Int) ^ d) (p : Int), Int.mul_assoc]
  exact Int.dvd_mul_right _ _
theorem vu_one {p : Nat} (hp : 2 ≤ p) {n : Int} {k l : Nat} {u v : Int} (h : IsVU p n k u) (h' : IsVU p n l v) : k = l ∧ u = v := by
  have e := h.1.symm.trans h'.1
  have a := vu_lt hp e h.2
  have b := vu_lt hp e.symm h'.2
  obtain rfl : k = l := by omega
  exact ⟨rfl, Int.eq_of_mul_eq_mul_left (Int.pow_ne_zero (by omega)) e⟩
def rOf (p : Nat) (u : Int) : Nat := (u % (p : Int)).toNat
def chi (p r : Nat) : Bool := !((List.range (p / 2)).any (fun x => (x + 1) * (x + 1) % p == r))
def OP : List Nat := [3, 5, 7, 11, 13, 17, 19, 23, 29]
def tabB (p : Nat) : Bool := (List.range p).all (fun r => (List.range p).all (fun s => r == 0 || s == 0 || (r * s % p != 0 && chi p (r * s % p) == xor (chi p r) (chi p s)))) && (chi p (p - 1) == ((p - 1) / 2 % 2 == 1))
theorem tab_all : OP.all tabB = true := by decide +kernel
theorem op_two {p : Nat} (h : p ∈ OP) : 2 ≤ p ∧ p ≤ 29 ∧ p ≠ 2 := by
  unfold OP at h; simp at h; omega
theorem r_lt {p : Nat} (hp : 2 ≤ p) (u : Int) : rOf p u < p ∧ (rOf p u : Int) = u % (p : Int) := by
  have a := Int.emod_nonneg u (show (p : Int) ≠ 0 by omega)
  have b := Int.emod_lt_of_pos u (show (0 : Int) < p by omega)
  unfold rOf; omega
theorem r_zero {p : Nat} (hp : 2 ≤ p) (u : Int) : rOf p u = 0 ↔ (p : Int) ∣ u := by
  have := (r_lt hp u).2
  rw [Int.dvd_iff_emod_eq_zero]; omega
theorem r_mul {p : Nat} (hp : 2 ≤ p) (u v : Int) : rOf p (u * v) = rOf p u * rOf p v % p := by
  have h1 := (r_lt hp (u * v)).2
  have h2 := (r_lt hp u).2
  have h3 := (r_lt hp v).2
  rw [Int.mul_emod, ← h2, ← h3] at h1
  exact_mod_cast h1
theorem tab_mul {p : Nat} (h : p ∈ OP) {r s : Nat} (hr : r < p) (hs : s < p) (r0 : r ≠ 0) (s0 : s ≠ 0) : r * s % p ≠ 0 ∧ chi p (r * s % p) = xor (chi p r) (chi p s) := by
  have t := List.all_eq_true.1 tab_all p h
  unfold tabB at t
  rw [Bool.and_eq_true] at t
  have t2 := List.all_eq_true.1 (List.all_eq_true.1 t.1 r (List.mem_range.2 hr)) s (List.mem_range.2 hs)
  simp only [Bool.or_eq_true, Bool.and_eq_true, beq_iff_eq, bne_iff_ne] at t2
  rcases t2 with (h1 | h1) | h1
  · exact absurd h1 r0
  · exact absurd h1 s0
  · exact h1
theorem op_mul {p : Nat} (h : p ∈ OP) {u v : Int} (hu : ¬ (p : Int) ∣ u) (hv : ¬ (p : Int) ∣ v) : ¬ (p : Int) ∣ u * v ∧ chi p (rOf p (u * v)) = xor (chi p (rOf p u)) (chi p (rOf p v)) := by
  have hp := (op_two h).1
  have t := tab_mul h (r_lt hp u).1 (r_lt hp v).1 (fun k => hu ((r_zero hp u).1 k)) (fun k => hv ((r_zero hp v).1 k))
  rw [← r_zero hp, r_mul hp]
  exact t
def CL (p : Nat) (n : Int) (c : Bool × Bool) : Prop := ∃ k u, IsVU p n k u ∧ c = (k % 2 == 1, chi p (rOf p u))
theorem cl_one {p : Nat} (hp : 2 ≤ p) {n : Int} {c d : Bool × Bool} (h : CL p n c) (h' : CL p n d) : c = d := by
  obtain ⟨k, u, h1, rfl⟩ := h
  obtain ⟨l, v, h2, rfl⟩ := h'
  obtain ⟨rfl, rfl⟩ := vu_one hp h1 h2
  rfl
theorem odd_add (k l : Nat) : ((k + l) % 2 == 1) = xor (k % 2 == 1) (l % 2 == 1) := by
  rcases Nat.mod_two_eq_zero_or_one k with a | a <;> rcases Nat.mod_two_eq_zero_or_one l with b | b <;> simp [Nat.add_mod, a, b]
theorem cl_mul {p : Nat} (hp : p ∈ OP) {a b : Int} {c d : Bool × Bool} (h : CL p a c) (h' : CL p b d) : CL p (a * b) (xor c.1 d.1, xor c.2 d.2) := by
  obtain ⟨k, u, ⟨h1, h2⟩, rfl⟩ := h
  obtain ⟨l, v, ⟨h3, h4⟩, rfl⟩ := h'
  have t := op_mul hp h2 h4
  refine ⟨k + l, u * v, ⟨?_, t.1⟩, ?_⟩
  · rw [h1, h3, Int.pow_add]; grind
  · rw [odd_add, t.2]
theorem cl_ex {p : Nat} (hp : p ∈ OP) {n : Int} (h : n ≠ 0) : ∃ c, CL p n c := by
  obtain ⟨k, u, h1, _⟩ := vu_ex (op_two hp).1 n.natAbs n (Nat.le_refl _) h
  exact ⟨_, k, u, h1, rfl⟩
theorem cl_minus {p : Nat} (hp : p ∈ OP) : CL p (-1) (false, (p - 1) / 2 % 2 == 1) := by
  have h2 := op_two hp
  have r : rOf p (-1) = p - 1 := by
    have := (r_lt h2.1 (-1)).2
    have e : (-1 : Int) % (p : Int) = (p : Int) - 1 := by
      rw [show (-1 : Int) = ((p : Int) - 1) + (p : Int) * (-1) by omega, Int.add_mul_emod_self_left, Int.emod_eq_of_lt (by omega) (by omega)]
    omega
  refine ⟨0, -1, ⟨by simp, fun k => ?_⟩, ?_⟩
  · have := (r_zero h2.1 (-1)).2 k; omega
  · have t := List.all_eq_true.1 tab_all p hp
    unfold tabB at t
    rw [Bool.and_eq_true, beq_iff_eq] at t
    rw [r, t.2]; rfl
theorem sum_filter (p : Nat) : ∀ X : List Int, (p : Int) ∣ X.sum - (X.filter (fun x => decide (¬ (p : Int) ∣ x))).sum
  | [] => by simp
  | x :: X => by
    have ih := sum_filter p X
    by_cases h : (p : Int) ∣ x
    · rw [List.filter_cons_of_neg (by simpa using h), List.sum_cons]
      have : x + X.sum - (X.filter (fun x => decide (¬ (p : Int) ∣ x))).sum = x + (X.sum - (X.filter (fun x => decide (¬ (p : Int) ∣ x))).sum) := by omega
      rw [this]; exact Int.dvd_add h ih
    · rw [List.filter_cons_of_pos (by simpa using h), List.sum_cons, List.sum_cons]
      have : x + X.sum - (x + (X.filter (fun x => decide (¬ (p : Int) ∣ x))).sum) = X.sum - (X.filter (fun x => decide (¬ (p : Int) ∣ x))).sum := by omega
      rw [this]; exact ih
theorem sum_scale (p : Int) : ∀ Y : List Int, (Y.map (p * ·)).sum = p * Y.sum
  | [] => by simp
  | y :: Y => by rw [List.map_cons, List.sum_cons, List.sum_cons, sum_scale p Y, Int.mul_add]
theorem vu_scale {p : Nat} {x : Int} {k : Nat} {u : Int} (h : IsVU p x k u) : IsVU p ((p : Int) * x) (k + 1) u :=
  ⟨by rw [Int.pow_succ, Int.mul_comm ((p : Int) ^ k) (p : Int), Int.mul_assoc, ← h.1], h.2⟩
def Two (p : Nat) (X : List Int) : Prop := ∃ x y, [x, y].Sublist X ∧ x ≠ 0 ∧ y ≠ 0 ∧ ∃ k u v, IsVU p x k u ∧ IsVU p y k v ∧ (p : Int) ∣ u + v
def Thr (p : Nat) (X : List Int) : Prop := ∃ x y z, [x, y, z].Sublist X ∧ x ≠ 0 ∧ y ≠ 0 ∧ z ≠ 0 ∧ ∃ k u v t, IsVU p x k u ∧ IsVU p y k v ∧ IsVU p z k t
theorem sum_cond {p : Nat} (hp : 2 ≤ p) : ∀ (m : Nat) (X : List Int), (X.map Int.natAbs).sum ≤ m → X.sum = 0 → (∃ x ∈ X, x ≠ 0) → Two p X ∨ Thr p X := by
  intro m
  induction m with
  | zero =>
    intro X h _ ⟨x, hx, h0⟩
    exfalso
    have : ∀ (L : List Int), x ∈ L → x.natAbs ≤ (L.map Int.natAbs).sum := by
      intro L
      induction L with
      | nil => intro h; cases h
      | cons y L ih =>
        intro h
        rw [List.map_cons, List.sum_cons]
        rcases List.mem_cons.1 h with rfl | h
        · omega
        · have := ih h; omega
    have := this X hx
    omega
  | succ m ih =>
    intro X h hs hne
    have hf := sum_filter p X
    rw [hs] at hf
    have hsub : (X.filter (fun x => decide (¬ (p : Int) ∣ x))).Sublist X := List.filter_sublist
    have hmem : ∀ x ∈ X.filter (fun x => decide (¬ (p : Int) ∣ x)), ¬ (p : Int) ∣ x := fun x hx => by simpa using (List.mem_filter.1 hx).2
    have unit : ∀ {x : Int}, ¬ (p : Int) ∣ x → IsVU p x 0 x ∧ x ≠ 0 := fun {x} hx => ⟨⟨by simp, hx⟩, fun k => hx (by rw [k]; exact Int.dvd_zero _)⟩
    match hS : X.filter (fun x => decide (¬ (p : Int) ∣ x)) with
    | [] =>
      have hall : ∀ x ∈ X, (p : Int) ∣ x := by
        intro x hx
        refine Classical.byContradiction (fun k => ?_)
        have : x ∈ X.filter (fun x => decide (¬ (p : Int) ∣ x)) := List.mem_filter.2 ⟨hx, by simpa using k⟩
        rw [hS] at this; cases this
      have key : ∀ (L : List Int), (∀ x ∈ L, (p : Int) ∣ x) → ∃ Y : List Int, L = Y.map ((p : Int) * ·) ∧ ((∃ x ∈ L, x ≠ 0) → (Y.map Int.natAbs).sum < (L.map Int.natAbs).sum) ∧ (Y.map Int.natAbs).sum ≤ (L.map Int.natAbs).sum := by
        intro L
        induction L with
        | nil => intro _; exact ⟨[], rfl, ⟨fun h => absurd h (by simp), Nat.le_refl _⟩⟩
        | cons x L ihL =>
          intro hL
          obtain ⟨Y, rfl, h1, h2⟩ := ihL (fun z hz => hL z (List.mem_cons_of_mem _ hz))
          obtain ⟨q, rfl⟩ := hL x (List.mem_cons_self ..)
          have e : ((p : Int) * q).natAbs = p * q.natAbs := by rw [Int.natAbs_mul]; rfl
          have h3 := Nat.mul_le_mul_right q.natAbs hp
          refine ⟨q :: Y, rfl, fun ⟨z, hz, z0⟩ => ?_, ?_⟩
          · rw [List.map_cons, List.map_cons, List.sum_cons, List.sum_cons, e]
            rcases List.mem_cons.1 hz with rfl | hz
            · have : q ≠ 0 := fun k => z0 (by rw [k, Int.mul_zero])
              omega
            · have := h1 ⟨z, hz, z0⟩
              omega
          · rw [List.map_cons, List.map_cons, List.sum_cons, List.sum_cons, e]; omega
      obtain ⟨Y, rfl, h1, _⟩ := key X hall
      have hlt := h1 hne
      rw [sum_scale] at hs
      have hp0 : (p : Int) ≠ 0 := by omega
      have hy0 : Y.sum = 0 := by rcases Int.mul_eq_zero.1 hs with k | k; exact absurd k hp0; exact k
      have hy1 : ∃ y ∈ Y, y ≠ 0 := by
        obtain ⟨x, hx, x0⟩ := hne
        obtain ⟨y, hy, rfl⟩ := List.mem_map.1 hx
        exact ⟨y, hy, fun k => x0 (by rw [k, Int.mul_zero])⟩
      rcases ih Y (by omega) hy0 hy1 with ⟨x, y, h2, h3, h4, k, u, v, h5, h6, h7⟩ | ⟨x, y, z, h2, h3, h4, h4', k, u, v, t, h5, h6, h7⟩
      · exact .inl ⟨_, _, h2.map ((p : Int) * ·), Int.mul_ne_zero hp0 h3, Int.mul_ne_zero hp0 h4, k + 1, u, v, vu_scale h5, vu_scale h6, h7⟩
      · exact .inr ⟨_, _, _, h2.map ((p : Int) * ·), Int.mul_ne_zero hp0 h3, Int.mul_ne_zero hp0 h4, Int.mul_ne_zero hp0 h4', k + 1, u, v, t, vu_scale h5, vu_scale h6, vu_scale h7⟩
    | [x] =>
      rw [hS] at hf hmem
      exfalso
      refine hmem x (by simp) ?_
      simp only [List.sum_cons, List.sum_nil, Int.add_zero, Int.zero_sub] at hf
      exact Int.dvd_neg.1 hf
    | [x, y] =>
      rw [hS] at hf hmem hsub
      have hx := unit (hmem x (by simp))
      have hy := unit (hmem y (by simp))
      refine .inl ⟨x, y, hsub, hx.2, hy.2, 0, x, y, hx.1, hy.1, ?_⟩
      simp only [List.sum_cons, List.sum_nil, Int.add_zero, Int.zero_sub] at hf
      exact Int.dvd_neg.1 hf
    | x :: y :: z :: L =>
      rw [hS] at hmem hsub
      have hx := unit (hmem x (by simp))
      have hy := unit (hmem y (by simp))
      have hz := unit (hmem z (by simp))
      refine .inr ⟨x, y, z, List.Sublist.trans ?_ hsub, hx.2, hy.2, hz.2, 0, x, y, z, hx.1, hy.1, hz.1⟩
      exact (List.nil_sublist L).cons_cons z |>.cons_cons y |>.cons_cons x
theorem dot_sum : ∀ (f v : List Int), dot3 f v v = ((f.zip v).map (fun q => q.1 * q.2 * q.2)).sum
  | [], _ => by simp [dot3]
  | _ :: _, [] => by simp [dot3]
  | a :: f, x :: v => by
    rw [List.zip_cons_cons, List.map_cons, List.sum_cons, ← dot_sum f v]; rfl
theorem zip_fst : ∀ (f v : List Int), v.length = f.length → (f.zip v).map Prod.fst = f
  | [], v, _ => by simp
  | _ :: _, [], h => by simp at h
  | a :: f, x :: v, h => by rw [List.zip_cons_cons, List.map_cons, zip_fst f v (by simpa using h)]
theorem zero_odd {p : Nat} (hp : p ∈ OP) {f v : List Int} (hl : v.length = f.length) (hf : ∀ a ∈ f, a ≠ 0) (h0 : dot3 f v v = 0) (hv : ∃ x ∈ v, x ≠ 0) :
    (∃ a b, [a, b].Sublist f ∧ ∀ c d, CL p a c → CL p b d → c.1 = d.1 ∧ d.2 = xor ((p - 1) / 2 % 2 == 1) c.2) ∨ (∃ a b t, [a, b, t].Sublist f ∧ ∀ c d e, CL p a c → CL p b d → CL p t e → c.1 = d.1 ∧ d.1 = e.1) := by
  have hp2 := (op_two hp).1
  rw [dot_sum] at h0
  have sq : ∀ {a x : Int} {k : Nat} {u : Int}, a * x * x ≠ 0 → IsVU p (a * x * x) k u → ∀ c, CL p a c → c = (k % 2 == 1, chi p (rOf p u)) := by
    intro a x k u hne hk c hc
    obtain ⟨d, hd⟩ := cl_ex hp (n := x) (fun k => hne (by rw [k, Int.mul_zero]))
    have e := cl_one hp2 (cl_mul hp (cl_mul hp hc hd) hd) ⟨k, u, hk, rfl⟩
    rw [← e]
    obtain ⟨c1, c2⟩ := c
    obtain ⟨d1, d2⟩ := d
    cases c1 <;> cases c2 <;> cases d1 <;> cases d2 <;> rfl
  have hne : ∃ x ∈ (f.zip v).map (fun q => q.1 * q.2 * q.2), x ≠ 0 := by
    obtain ⟨x, hx, x0⟩ := hv
    obtain ⟨i, hi, rfl⟩ := List.getElem_of_mem hx
    refine ⟨f[i]'(by omega) * v[i] * v[i], List.mem_map.2 ⟨(f[i]'(by omega), v[i]), ?_, rfl⟩, ?_⟩
    · rw [List.mem_iff_getElem]
      exact ⟨i, by rw [List.length_zip]; omega, by rw [List.getElem_zip]⟩
    · exact Int.mul_ne_zero (Int.mul_ne_zero (hf _ (List.getElem_mem _)) x0) x0
  have hz := zip_fst f v hl
  rcases sum_cond hp2 _ _ (Nat.le_refl _) h0 hne with ⟨x, y, h1, h2, h3, k, u, w, h4, h5, h6⟩ | ⟨x, y, z, h1, h2, h3, h3', k, u, w, t, h4, h5, h6⟩
  · obtain ⟨l, hl1, hl2⟩ := List.sublist_map_iff.1 h1
    obtain ⟨q, r, rfl⟩ : ∃ q r, l = [q, r] := by
      have : l.length = 2 := by have := congrArg List.length hl2; simpa using this.symm
      match l, this with | [q, r], _ => exact ⟨q, r, rfl⟩
    simp only [List.map_cons, List.map_nil, List.cons.injEq, and_true] at hl2
    obtain ⟨rfl, rfl⟩ := hl2
    refine .inl ⟨q.1, r.1, by have := hl1.map Prod.fst; rwa [hz] at this, fun c d hc hd => ?_⟩
    rw [sq h2 h4 c hc, sq h3 h5 d hd]
    refine ⟨rfl, ?_⟩
    have n1 : ¬ (p : Int) ∣ -1 := by obtain ⟨_, _, ⟨_, _⟩, _⟩ := cl_minus hp; intro k; have := Int.eq_one_of_dvd_one (by omega) (Int.dvd_neg.1 k); omega
    have e : rOf p w = rOf p (-1 * u) := by
      unfold rOf
      congr 1
      rw [Int.emod_eq_emod_iff_emod_sub_eq_zero, ← Int.dvd_iff_emod_eq_zero]
      rwa [show w - -1 * u = u + w by omega]
    have hm := (op_mul hp n1 h4.2).2
    have hc1 := cl_one hp2 (cl_minus hp) ⟨0, -1, ⟨by simp, n1⟩, rfl⟩
    show chi p (rOf p w) = _
    rw [e, hm, ← (show ((p - 1) / 2 % 2 == 1) = chi p (rOf p (-1)) from congrArg Prod.snd hc1)]
  · obtain ⟨l, hl1, hl2⟩ := List.sublist_map_iff.1 h1
    obtain ⟨q, r, s, rfl⟩ : ∃ q r s, l = [q, r, s] := by
      have : l.length = 3 := by have := congrArg List.length hl2; simpa using this.symm
      match l, this with | [q, r, s], _ => exact ⟨q, r, s, rfl⟩
    simp only [List.map_cons, List.map_nil, List.cons.injEq, and_true] at hl2
    obtain ⟨rfl, rfl, rfl⟩ := hl2
    refine .inr ⟨q.1, r.1, s.1, by have := hl1.map Prod.fst; rwa [hz] at this, fun c d e hc hd he => ?_⟩
    rw [sq h2 h4 c hc, sq h3 h5 d hd, sq h3' h6 e he]
    exact ⟨rfl, rfl⟩
end Go.Proofs.Ytpjgcjkodmkemaa.Aid
