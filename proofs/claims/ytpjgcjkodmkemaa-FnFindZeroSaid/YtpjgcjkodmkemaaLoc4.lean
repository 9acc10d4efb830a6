/- Plain words on forms at the place 2: a zero makes a form vanish. No program in sight. -/
import Derived.Test.YtpjgcjkodmkemaaLoc3
namespace Go.Proofs.Ytpjgcjkodmkemaa.Aid
open Go.RowKit Go.Proofs.YtpjgcjkodmkemaaW.PrintWords Go.Proofs.YtpjgcjkodmkemaaW.PrintLast Go.Proofs.YtpjgcjkodmkemaaW.PrintMore
theorem prim {α : Type} {p : Nat} (hp : 2 ≤ p) : ∀ (m : Nat) (L : List (α × Int)), (L.map (fun q => q.2.natAbs)).sum ≤ m → (∃ q ∈ L, q.2 ≠ 0) →
    ∃ d : Int, d ≠ 0 ∧ ∃ L' : List (α × Int), L = L'.map (fun q => (q.1, d * q.2)) ∧ ∃ q ∈ L', ¬ (p : Int) ∣ q.2 := by
  have le : ∀ (L : List (α × Int)) (q : α × Int), q ∈ L → q.2.natAbs ≤ (L.map (fun q => q.2.natAbs)).sum := by
    intro L
    induction L with
    | nil => intro q h; cases h
    | cons y L ih =>
      intro q h
      rw [List.map_cons, List.sum_cons]
      rcases List.mem_cons.1 h with rfl | h
      · omega
      · have := ih q h; omega
  intro m
  induction m with
  | zero =>
    intro L h ⟨q, hq, q0⟩
    have := le L q hq; omega
  | succ m ih =>
    intro L h hne
    by_cases hall : ∀ q ∈ L, (p : Int) ∣ q.2
    · have key : ∀ (L : List (α × Int)), (∀ q ∈ L, (p : Int) ∣ q.2) → ∃ Y : List (α × Int), L = Y.map (fun q => (q.1, (p : Int) * q.2)) ∧ ((∃ q ∈ L, q.2 ≠ 0) → (Y.map (fun q => q.2.natAbs)).sum < (L.map (fun q => q.2.natAbs)).sum) ∧ (Y.map (fun q => q.2.natAbs)).sum ≤ (L.map (fun q => q.2.natAbs)).sum := by
        intro L
        induction L with
        | nil => intro _; exact ⟨[], rfl, ⟨fun h => absurd h (by simp), Nat.le_refl _⟩⟩
        | cons x L ihL =>
          intro hL
          obtain ⟨Y, hY, h1, h2⟩ := ihL (fun z hz => hL z (List.mem_cons_of_mem _ hz))
          obtain ⟨q, hq⟩ := hL x (List.mem_cons_self ..)
          have e : x.2.natAbs = p * q.natAbs := by rw [hq, Int.natAbs_mul]; rfl
          have h3 := Nat.mul_le_mul_right q.natAbs hp
          refine ⟨(x.1, q) :: Y, by rw [List.map_cons, ← hY, ← hq], fun ⟨z, hz, z0⟩ => ?_, ?_⟩
          · rw [List.map_cons, List.map_cons, List.sum_cons, List.sum_cons, e]
            rcases List.mem_cons.1 hz with rfl | hz
            · have : q ≠ 0 := fun k => z0 (by rw [hq, k, Int.mul_zero])
              show q.natAbs + _ < _
              omega
            · have := h1 ⟨z, hz, z0⟩
              show q.natAbs + _ < _
              omega
          · rw [List.map_cons, List.map_cons, List.sum_cons, List.sum_cons, e]
            show q.natAbs + _ ≤ _
            omega
      obtain ⟨Y, hY, h1, _⟩ := key L hall
      have hlt := h1 hne
      have hy1 : ∃ q ∈ Y, q.2 ≠ 0 := by
        obtain ⟨x, hx, x0⟩ := hne
        rw [hY] at hx
        obtain ⟨y, hy, rfl⟩ := List.mem_map.1 hx
        exact ⟨y, hy, fun k => x0 (by show (p : Int) * y.2 = 0; rw [k, Int.mul_zero])⟩
      obtain ⟨d, d0, L', h3, h4⟩ := ih Y (by omega) hy1
      refine ⟨(p : Int) * d, Int.mul_ne_zero (by omega) d0, L', ?_, h4⟩
      rw [hY, h3, List.map_map]
      refine List.map_congr_left (fun q _ => ?_)
      show (q.1, (p : Int) * (d * q.2)) = _
      rw [Int.mul_assoc]
    · refine ⟨1, by decide, L, ?_, ?_⟩
      · conv => lhs; rw [← List.map_id L]
        refine List.map_congr_left (fun q _ => ?_)
        show q = (q.1, 1 * q.2)
        rw [Int.one_mul]
      · refine Classical.byContradiction (fun k => hall (fun q hq => Classical.byContradiction (fun h => k ⟨q, hq, h⟩)))
def tm (q : (Nat × Int) × Int) : Int := (2 : Int) ^ q.1.1 * q.1.2
def vl (q : (Nat × Int) × Int) : Int := (if q.1.1 % 2 = 1 then 2 else 1) * q.1.2 * (q.2 * q.2)
def tc (q : (Nat × Int) × Int) : Nat := (if q.1.1 % 2 = 1 then 2 else 1) * rOf 8 q.1.2
theorem items : ∀ (f v : List Int), v.length = f.length → (∀ a ∈ f, a ≠ 0) → ∃ L : List ((Nat × Int) × Int), L.map tm = f ∧ (∀ q ∈ L, ¬ (2 : Int) ∣ q.1.2) ∧ (L.map vl).sum = dot3 f v v ∧ ((∃ x ∈ v, x ≠ 0) → ∃ q ∈ L, q.2 ≠ 0)
  | [], v, hl, _ => ⟨[], rfl, by simp, by simp [dot3], fun ⟨x, hx, _⟩ => by rw [List.eq_nil_of_length_eq_zero hl] at hx; cases hx⟩
  | a :: f, [], hl, _ => by simp at hl
  | a :: f, x :: v, hl, hf => by
    obtain ⟨L, h1, h2, h3, h4⟩ := items f v (by simpa using hl) (fun b hb => hf b (List.mem_cons_of_mem _ hb))
    obtain ⟨k, u, ⟨h5, h6⟩, _⟩ := vu_ex (p := 2) (by omega) a.natAbs a (Nat.le_refl _) (hf a (List.mem_cons_self ..))
    have h5 : a = (2 : Int) ^ k * u := h5
    refine ⟨((k, u), (2 : Int) ^ (k / 2) * x) :: L, ?_, ?_, ?_, ?_⟩
    · rw [List.map_cons, h1]
      show (2 : Int) ^ k * u :: f = _
      rw [← h5]
    · intro q hq
      rcases List.mem_cons.1 hq with rfl | hq
      · exact h6
      · exact h2 q hq
    · rw [List.map_cons, List.sum_cons, h3]
      show (if k % 2 = 1 then 2 else 1) * u * ((2 : Int) ^ (k / 2) * x * ((2 : Int) ^ (k / 2) * x)) + _ = a * x * x + dot3 f v v
      have e : (2 : Int) ^ k = (if k % 2 = 1 then 2 else 1) * ((2 : Int) ^ (k / 2) * (2 : Int) ^ (k / 2)) := by
        rw [← Int.pow_add]
        rcases Nat.mod_two_eq_zero_or_one k with h | h
        · rw [if_neg (by omega), Int.one_mul, show k / 2 + k / 2 = k by omega]
        · rw [if_pos h, show k = (k / 2 + k / 2) + 1 by omega, Int.pow_succ, Int.mul_comm]
          rw [show ((k / 2 + k / 2 + 1) / 2 + (k / 2 + k / 2 + 1) / 2) = k / 2 + k / 2 by omega]
      rw [h5, e]; grind
    · rintro ⟨z, hz, z0⟩
      rcases List.mem_cons.1 hz with rfl | hz
      · exact ⟨_, List.mem_cons_self .., Int.mul_ne_zero (Int.pow_ne_zero (by decide)) z0⟩
      · obtain ⟨q, hq, q0⟩ := h4 ⟨z, hz, z0⟩
        exact ⟨q, List.mem_cons_of_mem _ hq, q0⟩
theorem sum_mod {α : Type} (c : Int) (g h : α → Int) : ∀ L : List α, (∀ q ∈ L, c ∣ g q - h q) → c ∣ (L.map g).sum - (L.map h).sum
  | [], _ => by simp
  | q :: L, hL => by
    rw [List.map_cons, List.map_cons, List.sum_cons, List.sum_cons, show g q + (L.map g).sum - (h q + (L.map h).sum) = (g q - h q) + ((L.map g).sum - (L.map h).sum) by omega]
    exact Int.dvd_add (hL q (List.mem_cons_self ..)) (sum_mod c g h L (fun z hz => hL z (List.mem_cons_of_mem _ hz)))
theorem sum_cast {α : Type} (h : α → Nat) : ∀ L : List α, ((L.map (fun q => (h q : Int))).sum) = (((L.map h).sum : Nat) : Int)
  | [] => rfl
  | q :: L => by rw [List.map_cons, List.map_cons, List.sum_cons, List.sum_cons, sum_cast h L]; omega
theorem item_eight {q : (Nat × Int) × Int} (hu : ¬ (2 : Int) ∣ q.1.2) : (8 : Int) ∣ vl q - ((tc q * sqV q.2 : Nat) : Int) := by
  obtain ⟨⟨k, u⟩, V⟩ := q
  have hr := (rOf8 hu).1
  obtain ⟨w, hw⟩ : ∃ w : Int, u = 8 * w + (rOf 8 u : Int) := ⟨u / 8, by rw [hr]; exact (Int.mul_ediv_add_emod u 8).symm⟩
  have hs : ∃ m : Int, V * V = 8 * m + (sqV V : Int) := by
    by_cases h : V % 2 = 0
    · obtain ⟨m, s, h1, h2⟩ := sqV_even h
      exact ⟨2 * m, by rw [h1, h2]; push_cast; omega⟩
    · obtain ⟨m, h1⟩ := sqV_odd h
      exact ⟨m, by rw [h1]; unfold sqV; rw [if_neg h]; rfl⟩
  obtain ⟨m, hm⟩ := hs
  show (8 : Int) ∣ (if k % 2 = 1 then 2 else 1) * u * (V * V) - (((if k % 2 = 1 then 2 else 1) * rOf 8 u * sqV V : Nat) : Int)
  generalize rOf 8 u = r at *
  generalize sqV V = s at *
  rw [hm]
  clear hm hr hu
  subst hw
  split
  · exact ⟨2 * (w * (8 * m + (s : Int)) + (r : Int) * m), by push_cast; grind⟩
  · exact ⟨w * (8 * m + (s : Int)) + (r : Int) * m, by push_cast; grind⟩
theorem item_sixteen {q : (Nat × Int) × Int} (hu : ¬ (2 : Int) ∣ q.1.2) (h : q.1.1 % 2 = 1 ∨ q.2 % 2 = 0) : (16 : Int) ∣ vl q - ((tc q * sqV q.2 : Nat) : Int) := by
  obtain ⟨⟨k, u⟩, V⟩ := q
  have h : k % 2 = 1 ∨ V % 2 = 0 := h
  have hr := (rOf8 hu).1
  obtain ⟨w, hw⟩ : ∃ w : Int, u = 8 * w + (rOf 8 u : Int) := ⟨u / 8, by rw [hr]; exact (Int.mul_ediv_add_emod u 8).symm⟩
  show (16 : Int) ∣ (if k % 2 = 1 then 2 else 1) * u * (V * V) - (((if k % 2 = 1 then 2 else 1) * rOf 8 u * sqV V : Nat) : Int)
  by_cases hv : V % 2 = 0
  · obtain ⟨m, s, h1, h2⟩ := sqV_even hv
    rw [h1, h2]
    generalize rOf 8 u = r at *
    clear h1 h2 hr hu h hv
    subst hw
    split
    · exact ⟨2 * ((8 * w + (r : Int)) * m + 2 * w * (s : Int)), by push_cast; grind⟩
    · exact ⟨(8 * w + (r : Int)) * m + 2 * w * (s : Int), by push_cast; grind⟩
  · have hk : k % 2 = 1 := by rcases h with h | h; exact h; exact absurd h hv
    obtain ⟨m, h1⟩ := sqV_odd hv
    have h2 : sqV V = 1 := by unfold sqV; rw [if_neg hv]
    rw [h1, h2, if_pos hk, if_pos hk]
    generalize rOf 8 u = r at *
    clear h1 h2 hr hu h hv
    subst hw
    exact ⟨w * (8 * m + 1) + (r : Int) * m, by push_cast; grind⟩
theorem tc_odd {q : (Nat × Int) × Int} (hu : ¬ (2 : Int) ∣ q.1.2) : tc q % 2 = 1 ↔ q.1.1 % 2 = 0 := by
  unfold tc
  have := (rOf8 hu).2
  split <;> omega
theorem sqV_one (V : Int) : sqV V = 1 ↔ V % 2 ≠ 0 := by
  unfold sqV
  split
  · split <;> simp <;> omega
  · simp; omega
theorem zero2_of {L : List ((Nat × Int) × Int)} (hu : ∀ q ∈ L, ¬ (2 : Int) ∣ q.1.2) (h0 : (L.map vl).sum = 0) (ho : ∃ q ∈ L, ¬ (2 : Int) ∣ q.2) : zero2 (L.map (fun q => (tc q, sqV q.2))) = true := by
  unfold zero2
  rw [List.map_map]
  have em : (L.map ((fun q : Nat × Nat => q.1 * q.2) ∘ fun q => (tc q, sqV q.2))).sum = (L.map (fun q => tc q * sqV q.2)).sum := rfl
  rw [em]
  by_cases hA : ∃ q ∈ L, q.1.1 % 2 = 0 ∧ q.2 % 2 ≠ 0
  · rw [Bool.or_eq_true]
    left
    rw [Bool.and_eq_true, beq_iff_eq, List.any_map, List.any_eq_true]
    constructor
    · obtain ⟨q, hq, h1, h2⟩ := hA
      refine ⟨q, hq, ?_⟩
      show (tc q % 2 == 1 && sqV q.2 == 1) = true
      rw [Bool.and_eq_true, beq_iff_eq, beq_iff_eq]
      exact ⟨(tc_odd (hu q hq)).2 h1, (sqV_one _).2 h2⟩
    · have := sum_mod 8 vl (fun q => ((tc q * sqV q.2 : Nat) : Int)) L (fun q hq => item_eight (hu q hq))
      rw [h0, sum_cast] at this
      omega
  · rw [Bool.or_eq_true]
    right
    have hB : ∀ q ∈ L, q.1.1 % 2 = 1 ∨ q.2 % 2 = 0 := by
      intro q hq
      refine Classical.byContradiction (fun k => hA ⟨q, hq, by omega, by omega⟩)
    rw [Bool.and_eq_true, Bool.and_eq_true, beq_iff_eq, List.all_map, List.all_eq_true, List.any_map, List.any_eq_true]
    refine ⟨fun q hq => ?_, ?_, ?_⟩
    · show (tc q % 2 == 0 || sqV q.2 != 1) = true
      rw [Bool.or_eq_true, beq_iff_eq, bne_iff_ne]
      have a := tc_odd (hu q hq)
      have b := sqV_one q.2
      rcases hB q hq with h | h
      · left; omega
      · right; omega
    · obtain ⟨q, hq, h⟩ := ho
      refine ⟨q, hq, ?_⟩
      show (tc q % 2 == 0 && sqV q.2 == 1) = true
      rw [Bool.and_eq_true, beq_iff_eq, beq_iff_eq]
      have a := tc_odd (hu q hq)
      have b := sqV_one q.2
      rw [Int.dvd_iff_emod_eq_zero] at h
      rcases hB q hq with k | k
      · exact ⟨by omega, b.2 h⟩
      · exact absurd k h
    · have := sum_mod 16 vl (fun q => ((tc q * sqV q.2 : Nat) : Int)) L (fun q hq => item_sixteen (hu q hq) (hB q hq))
      rw [h0, sum_cast] at this
      omega
theorem vl_scale (d : Int) (L : List ((Nat × Int) × Int)) : ((L.map (fun q => (q.1, d * q.2))).map vl).sum = d * d * (L.map vl).sum := by
  induction L with
  | nil => simp
  | cons q L ih =>
    rw [List.map_cons, List.map_cons, List.map_cons, List.sum_cons, List.sum_cons, ih]
    show (if q.1.1 % 2 = 1 then 2 else 1) * q.1.2 * (d * q.2 * (d * q.2)) + _ = d * d * ((if q.1.1 % 2 = 1 then 2 else 1) * q.1.2 * (q.2 * q.2) + _)
    grind
theorem zero_two {f v : List Int} (hl : v.length = f.length) (hf : ∀ a ∈ f, a ≠ 0) (h0 : dot3 f v v = 0) (hv : ∃ x ∈ v, x ≠ 0) :
    ∃ L : List ((Nat × Int) × Int), L.map tm = f ∧ (∀ q ∈ L, CT (tm q) (tc q)) ∧ zero2 (L.map (fun q => (tc q, sqV q.2))) = true := by
  obtain ⟨L, h1, h2, h3, h4⟩ := items f v hl hf
  obtain ⟨d, d0, L', h5, h6⟩ := prim (p := 2) (by omega) _ L (Nat.le_refl _) (h4 hv)
  rw [h0, h5, vl_scale] at h3
  have h7 : (L'.map vl).sum = 0 := by
    rcases Int.mul_eq_zero.1 h3 with k | k
    · exact absurd k (Int.mul_ne_zero d0 d0)
    · exact k
  have h8 : ∀ q ∈ L', ¬ (2 : Int) ∣ q.1.2 := fun q hq => h2 (q.1, d * q.2) (by rw [h5]; exact List.mem_map.2 ⟨q, hq, rfl⟩)
  refine ⟨L', ?_, fun q hq => ⟨q.1.1, q.1.2, ⟨rfl, h8 q hq⟩, rfl⟩, zero2_of h8 h7 h6⟩
  rw [← h1, h5, List.map_map]; rfl
theorem two_two {a b : Int} {v : List Int} (hl : v.length = 2) (hf : ∀ x ∈ [a, b], x ≠ 0) (h0 : dot3 [a, b] v v = 0) (hv : ∃ x ∈ v, x ≠ 0) {A B : Nat} (ha : CT a A) (hb : CT b B) : van2 [A, B] = true := by
  obtain ⟨L, h1, h2, h3⟩ := zero_two hl hf h0 hv
  match L, h1 with
  | [p, q], h1 =>
    simp only [List.map_cons, List.map_nil, List.cons.injEq, and_true] at h1
    obtain ⟨rfl, rfl⟩ := h1
    obtain rfl := ct_one ha (h2 p (by simp))
    obtain rfl := ct_one hb (h2 q (by simp))
    have t := List.all_eq_true.1 (List.all_eq_true.1 chk2_true _ (ct_mem ha)) _ (ct_mem hb)
    rw [Bool.or_eq_true] at t
    rcases t with t | t
    · exact t
    · have t := List.all_eq_true.1 (List.all_eq_true.1 t _ (sqV_mem p.2)) _ (sqV_mem q.2)
      simp only [List.map_cons, List.map_nil] at h3
      rw [h3] at t; cases t
theorem two_three {a b c : Int} {v : List Int} (hl : v.length = 3) (hf : ∀ x ∈ [a, b, c], x ≠ 0) (h0 : dot3 [a, b, c] v v = 0) (hv : ∃ x ∈ v, x ≠ 0) {A B C : Nat} (ha : CT a A) (hb : CT b B) (hc : CT c C) : van2 [A, B, C] = true := by
  obtain ⟨L, h1, h2, h3⟩ := zero_two hl hf h0 hv
  match L, h1 with
  | [p, q, r], h1 =>
    simp only [List.map_cons, List.map_nil, List.cons.injEq, and_true] at h1
    obtain ⟨rfl, rfl, rfl⟩ := h1
    obtain rfl := ct_one ha (h2 p (by simp))
    obtain rfl := ct_one hb (h2 q (by simp))
    obtain rfl := ct_one hc (h2 r (by simp))
    have t := List.all_eq_true.1 (List.all_eq_true.1 (List.all_eq_true.1 chk3_true _ (ct_mem ha)) _ (ct_mem hb)) _ (ct_mem hc)
    rw [Bool.or_eq_true] at t
    rcases t with t | t
    · exact t
    · have t := List.all_eq_true.1 (List.all_eq_true.1 (List.all_eq_true.1 t _ (sqV_mem p.2)) _ (sqV_mem q.2)) _ (sqV_mem r.2)
      simp only [List.map_cons, List.map_nil] at h3
      rw [h3] at t; cases t
theorem two_four {a b c d : Int} {v : List Int} (hl : v.length = 4) (hf : ∀ x ∈ [a, b, c, d], x ≠ 0) (h0 : dot3 [a, b, c, d] v v = 0) (hv : ∃ x ∈ v, x ≠ 0) {A B C D : Nat} (ha : CT a A) (hb : CT b B) (hc : CT c C) (hd : CT d D) : van2 [A, B, C, D] = true := by
  obtain ⟨L, h1, h2, h3⟩ := zero_two hl hf h0 hv
  match L, h1 with
  | [p, q, r, s], h1 =>
    simp only [List.map_cons, List.map_nil, List.cons.injEq, and_true] at h1
    obtain ⟨rfl, rfl, rfl, rfl⟩ := h1
    obtain rfl := ct_one ha (h2 p (by simp))
    obtain rfl := ct_one hb (h2 q (by simp))
    obtain rfl := ct_one hc (h2 r (by simp))
    obtain rfl := ct_one hd (h2 s (by simp))
    have t := List.all_eq_true.1 (List.all_eq_true.1 (List.all_eq_true.1 (List.all_eq_true.1 chk4_true _ (ct_mem ha)) _ (ct_mem hb)) _ (ct_mem hc)) _ (ct_mem hd)
    rw [Bool.or_eq_true] at t
    rcases t with t | t
    · exact t
    · have t := List.all_eq_true.1 (List.all_eq_true.1 (List.all_eq_true.1 (List.all_eq_true.1 t _ (sqV_mem p.2)) _ (sqV_mem q.2)) _ (sqV_mem r.2)) _ (sqV_mem s.2)
      simp only [List.map_cons, List.map_nil] at h3
      rw [h3] at t; cases t
theorem sign_pos : ∀ (f v : List Int), v.length = f.length → (∀ a ∈ f, 0 < a) → 0 ≤ dot3 f v v ∧ ((∃ x ∈ v, x ≠ 0) → 0 < dot3 f v v)
  | [], v, hl, _ => ⟨by simp [dot3], fun ⟨x, hx, _⟩ => by rw [List.eq_nil_of_length_eq_zero hl] at hx; cases hx⟩
  | a :: f, [], hl, _ => by simp at hl
  | a :: f, x :: v, hl, hf => by
    obtain ⟨h1, h2⟩ := sign_pos f v (by simpa using hl) (fun b hb => hf b (List.mem_cons_of_mem _ hb))
    have ha := hf a (List.mem_cons_self ..)
    have e : dot3 (a :: f) (x :: v) (x :: v) = a * x * x + dot3 f v v := rfl
    have sq : 0 ≤ x * x := by
      rcases Int.le_total 0 x with h | h
      · exact Int.mul_nonneg h h
      · exact Int.mul_nonneg_of_nonpos_of_nonpos h h
    have hq : 0 ≤ a * x * x := by rw [Int.mul_assoc]; exact Int.mul_nonneg (by omega) sq
    rw [e]
    refine ⟨by omega, ?_⟩
    rintro ⟨z, hz, z0⟩
    rcases List.mem_cons.1 hz with rfl | hz
    · have : a * z * z ≠ 0 := Int.mul_ne_zero (Int.mul_ne_zero (by omega) z0) z0
      omega
    · have := h2 ⟨z, hz, z0⟩
      omega
theorem dot_neg : ∀ (f v : List Int), dot3 (f.map (-·)) v v = -dot3 f v v
  | [], _ => by simp [dot3]
  | _ :: _, [] => by simp [dot3]
  | a :: f, x :: v => by
    show -a * x * x + dot3 (f.map (-·)) v v = -(a * x * x + dot3 f v v)
    rw [dot_neg f v]; grind
theorem zero_sign {f v : List Int} (hl : v.length = f.length) (hf : ∀ a ∈ f, a ≠ 0) (h0 : dot3 f v v = 0) (hv : ∃ x ∈ v, x ≠ 0) : (∃ a ∈ f, a < 0) ∧ ∃ a ∈ f, 0 < a := by
  constructor
  · refine Classical.byContradiction (fun k => ?_)
    have := (sign_pos f v hl (fun a ha => by
      have := hf a ha
      have : ¬ a < 0 := fun h => k ⟨a, ha, h⟩
      omega)).2 hv
    omega
  · refine Classical.byContradiction (fun k => ?_)
    have := (sign_pos (f.map (-·)) v (by rw [List.length_map]; exact hl) (fun a ha => by
      obtain ⟨b, hb, rfl⟩ := List.mem_map.1 ha
      have := hf b hb
      have : ¬ 0 < b := fun h => k ⟨b, hb, h⟩
      omega)).2 hv
    rw [dot_neg] at this
    omega
theorem mul2_bd {a b A B : Int} (ha : -A ≤ a ∧ a ≤ A) (hb : -B ≤ b ∧ b ≤ B) : -(A * B) ≤ a * b ∧ a * b ≤ A * B := by
  have h2 : a.natAbs ≤ A.toNat := by omega
  have h3 : b.natAbs ≤ B.toNat := by omega
  have h4 : (a * b).natAbs ≤ A.toNat * B.toNat := by rw [Int.natAbs_mul]; exact Nat.mul_le_mul h2 h3
  have e : ((A.toNat * B.toNat : Nat) : Int) = A * B := by rw [Int.natCast_mul, Int.toNat_of_nonneg (by omega), Int.toNat_of_nonneg (by omega)]
  omega
theorem tdiv_mag (x d : Int) : (Int.tdiv x d).natAbs ≤ x.natAbs := by
  rw [Int.natAbs_tdiv]; exact Nat.div_le_self _ _
theorem plain_mul {z : List Int} (h : some0 z = true) : ∃ c : Int, c ≠ 0 ∧ (plainL z).length = z.length ∧ (∀ i, i < z.length → rd z (i : Int) = c * rd (plainL z) (i : Int)) := by
  have hg : gcdL 0 z ≠ 0 := fun k => by rw [gcdL_zero, h] at k; cases k
  have hs := sgn1_cases z
  have hc : sgn1 z * (gcdL 0 z : Int) ≠ 0 := Int.mul_ne_zero (by omega) (by omega)
  refine ⟨_, hc, by unfold plainL; rw [List.length_map], fun i hi => ?_⟩
  have hd : (sgn1 z * (gcdL 0 z : Int)) ∣ z[i] := by
    have := (gcdL_mono z 0).2 _ (List.getElem_mem hi)
    have h1 : (gcdL 0 z : Int) ∣ z[i] := Int.ofNat_dvd_left.2 this
    rcases hs with e | e <;> rw [e]
    · rw [Int.one_mul]; exact h1
    · rw [show (-1 : Int) * (gcdL 0 z : Int) = -(gcdL 0 z : Int) by omega]; exact Int.neg_dvd.2 h1
  have e1 : rd z (i : Int) = z[i] := by rw [rd_at]; simp [hi]
  have e2 : rd (plainL z) (i : Int) = Int.tdiv z[i] (sgn1 z * (gcdL 0 z : Int)) := by unfold plainL; rw [rd_at]; simp [hi]
  rw [e1, e2, Int.mul_tdiv_cancel' hd]
theorem list3 {α : Type} {l : List α} (h : l.length = 3) : ∃ a b c, l = [a, b, c] := by
  match l, h with | [a, b, c], _ => exact ⟨a, b, c, rfl⟩
theorem some0_rd {v : List Int} : some0 v = false ↔ ∀ i, i < v.length → rd v (i : Int) = 0 := by
  unfold some0
  rw [List.any_eq_false]
  constructor
  · intro h i hi
    have := h _ (rd_mem hi)
    simpa using this
  · intro h x hx
    obtain ⟨i, hi, rfl⟩ := List.getElem_of_mem hx
    have := h i hi
    rw [rd_at, List.getD_eq_getElem?_getD, List.getElem?_eq_getElem hi] at this
    simpa using this
def lessN (form : List Int) : Nat := form.countP (fun t => decide (t < 0))
theorem zB_of {form v : List Int} (h : zeroB form v = true) : fOk form = true ∧ vOk form.length 1000000 v = true ∧ some0 v = true ∧ dot3 form v v = 0 := by
  unfold zeroB at h; simp only [Bool.and_eq_true, beq_iff_eq] at h; exact h
end Go.Proofs.Ytpjgcjkodmkemaa.Aid
