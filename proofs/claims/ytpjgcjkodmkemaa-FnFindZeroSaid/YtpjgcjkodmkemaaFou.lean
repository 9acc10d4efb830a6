/- Zeros of forms of four small terms, as the program finds them: plain words. No program in sight. -/
import Derived.Test.YtpjgcjkodmkemaaPln
namespace Go.Proofs.Ytpjgcjkodmkemaa.Aid
open Go.RowKit Go.Proofs.YtpjgcjkodmkemaaW.PrintWords Go.Proofs.YtpjgcjkodmkemaaW.PrintLast Go.Proofs.YtpjgcjkodmkemaaW.PrintMore
def stepF (a b c d x y : Int) : Option (List Int) :=
  if a * x * x + b * y * y = 0 then some (plainL [x, y, 0, 0]) else
  if 30 < coreN (a * x * x + b * y * y) then none else
  if (findT c d (coreT (a * x * x + b * y * y)).1).2 = true then
    some (plainL [x * rd (findT c d (coreT (a * x * x + b * y * y)).1).1 2, y * rd (findT c d (coreT (a * x * x + b * y * y)).1).1 2, (rootT (a * x * x + b * y * y) : Int) * rd (findT c d (coreT (a * x * x + b * y * y)).1).1 0, (rootT (a * x * x + b * y * y) : Int) * rd (findT c d (coreT (a * x * x + b * y * y)).1).1 1])
  else none
def fourY (a b c d : Int) (x : Nat) : Nat → Nat → Option (List Int)
  | 0, _ => none
  | m + 1, y => match (if x = 0 ∧ y = 0 then none else stepF a b c d x y) with
    | some v => some v
    | none => fourY a b c d x m (y + 1)
def fourX (a b c d : Int) : Nat → Nat → Option (List Int)
  | 0, _ => none
  | m + 1, x => match fourY a b c d x 4 0 with
    | some v => some v
    | none => fourX a b c d m (x + 1)
def foundV : Option (List Int) → List Int × Bool
  | some v => (v, true)
  | none => ([], false)
def fourF (a b c d : Int) : List Int × Bool := foundV (fourX a b c d 4 0)
theorem four_t {a b : Int} {x y : Nat} (ha : -30 ≤ a ∧ a ≤ 30) (hb : -30 ≤ b ∧ b ≤ 30) (hx : x ≤ 3) (hy : y ≤ 3) :
    (-90 ≤ a * x ∧ a * x ≤ 90) ∧ (-270 ≤ a * x * x ∧ a * x * x ≤ 270) ∧ (-90 ≤ b * y ∧ b * y ≤ 90) ∧ (-270 ≤ b * y * y ∧ b * y * y ≤ 270) := by
  have b1 := mul2_bd (a := a) (b := (x : Int)) (A := 30) (B := 3) (by omega) (by omega)
  have b2 := mul2_bd (a := a * x) (b := (x : Int)) (A := 90) (B := 3) (by omega) (by omega)
  have b3 := mul2_bd (a := b) (b := (y : Int)) (A := 30) (B := 3) (by omega) (by omega)
  have b4 := mul2_bd (a := b * y) (b := (y : Int)) (A := 90) (B := 3) (by omega) (by omega)
  omega
theorem root_bd {t : Int} (h0 : t ≠ 0) (h : -540 ≤ t ∧ t ≤ 540) : 1 ≤ rootT t ∧ rootT t ≤ 23 := by
  obtain ⟨c1, c2, c3, _⟩ := core_is h0 h
  refine ⟨c2, ?_⟩
  rcases Nat.lt_or_ge 23 (rootT t) with k | k
  · have := Nat.mul_le_mul k k
    have := Nat.mul_le_mul_right (rootT t * rootT t) c3
    omega
  · exact k
theorem stepF_zero {a b c d : Int} {x y : Nat} (hm : ∀ t ∈ [a, b, c, d], t ≠ 0 ∧ -30 ≤ t ∧ t ≤ 30) (hx : x ≤ 3) (hy : y ≤ 3) (hne : ¬ (x = 0 ∧ y = 0)) {v : List Int} (h : stepF a b c d x y = some v) :
    ∃ u : List Int, u.length = 4 ∧ v = plainL u ∧ some0 u = true ∧ (∀ z ∈ u, -300000 ≤ z ∧ z ≤ 300000) ∧ dot3 [a, b, c, d] u u = 0 := by
  have ha := hm a (by simp); have hb := hm b (by simp); have hc := hm c (by simp); have hd := hm d (by simp)
  have T := four_t (x := x) (y := y) ha.2 hb.2 hx hy
  unfold stepF at h
  split at h
  · rename_i h0
    refine ⟨_, rfl, (Option.some.inj h).symm, ?_, ?_, ?_⟩
    · unfold some0; simp only [List.any_cons, Bool.or_eq_true, bne_iff_ne]
      rcases (by omega : x ≠ 0 ∨ y ≠ 0) with k | k
      · exact .inl (by omega)
      · exact .inr (.inl (by omega))
    · intro z hz; simp only [List.mem_cons, List.not_mem_nil, or_false] at hz; omega
    · show a * x * x + (b * y * y + (c * 0 * 0 + (d * 0 * 0 + 0))) = 0
      simp only [Int.mul_zero, Int.add_zero]; exact h0
  · rename_i h0
    obtain ⟨t, ht⟩ : ∃ t, a * (x : Int) * x + b * (y : Int) * y = t := ⟨_, rfl⟩
    rw [ht] at h h0
    have tb : -540 ≤ t ∧ t ≤ 540 := by omega
    have rb := root_bd h0 tb
    have cv := core_val h0 tb
    have ci := core_is h0 tb
    split at h
    · cases h
    · rename_i h30
      have cb : (coreT t).1 ≠ 0 ∧ -30 ≤ (coreT t).1 ∧ (coreT t).1 ≤ 30 := by
        have e : (coreT t).1.natAbs = coreN t := sx_abs _ _
        omega
      have hm3 : ∀ z ∈ [c, d, (coreT t).1], z ≠ 0 ∧ -30 ≤ z ∧ z ≤ 30 := by
        intro z hz; simp only [List.mem_cons, List.not_mem_nil, or_false] at hz
        rcases hz with rfl | rfl | rfl
        · exact hc
        · exact hd
        · exact cb
      have hf3 : fOk [c, d, (coreT t).1] = true := by unfold fOk; exact decide_eq_true ⟨by simp, by simp, hm3⟩
      split at h
      · rename_i hT
        rcases findF_zero (f := [c, d, (coreT t).1]) hf3 with e | ⟨w, e, hz, hp, hb9⟩
        · rw [show findT c d (coreT t).1 = ([], false) from e] at hT; cases hT
        · have e : findT c d (coreT t).1 = (w, true) := e
          rw [e] at h
          obtain ⟨z1, z2, z3, z4⟩ := zB_of hz
          have wl := vOk_len z2
          obtain ⟨p, q, r, rfl⟩ := list3 wl
          simp only at h
          have bp := hb9 p (by simp); have bq := hb9 q (by simp); have br := hb9 r (by simp)
          have h := (Option.some.inj h).symm
          refine ⟨[(x : Int) * r, (y : Int) * r, (rootT t : Int) * p, (rootT t : Int) * q], rfl, h, ?_, ?_, ?_⟩
          · unfold some0 at z3 ⊢
            simp only [List.any_cons, List.any_nil, Bool.or_eq_true, bne_iff_ne] at z3 ⊢
            rcases z3 with k | k | k | k
            · exact .inr (.inr (.inl (Int.mul_ne_zero (by omega) k)))
            · exact .inr (.inr (.inr (.inl (Int.mul_ne_zero (by omega) k))))
            · rcases (by omega : x ≠ 0 ∨ y ≠ 0) with j | j
              · exact .inl (Int.mul_ne_zero (by omega) k)
              · exact .inr (.inl (Int.mul_ne_zero (by omega) k))
            · cases k
          · have m1 := mul2_bd (a := (x : Int)) (b := r) (A := 3) (B := 9000) (by omega) (by omega)
            have m2 := mul2_bd (a := (y : Int)) (b := r) (A := 3) (B := 9000) (by omega) (by omega)
            have m3 := mul2_bd (a := (rootT t : Int)) (b := p) (A := 23) (B := 9000) (by omega) (by omega)
            have m4 := mul2_bd (a := (rootT t : Int)) (b := q) (A := 23) (B := 9000) (by omega) (by omega)
            intro z hz
            simp only [List.mem_cons, List.not_mem_nil, or_false] at hz
            rcases hz with rfl | rfl | rfl | rfl <;> omega
          · show a * (x * r) * (x * r) + (b * (y * r) * (y * r) + (c * (rootT t * p) * (rootT t * p) + (d * (rootT t * q) * (rootT t * q) + 0))) = 0
            have z4 : c * p * p + (d * q * q + ((coreT t).1 * r * r + 0)) = 0 := z4
            have cv : t = (coreT t).1 * ((rootT t : Int) * (rootT t : Int)) := cv
            generalize (coreT t).1 = C at *
            generalize (rootT t : Int) = R at *
            have e1 : a * (x * r) * (x * r) + b * (y * r) * (y * r) = t * (r * r) := by rw [← ht]; grind
            have e2 : c * (R * p) * (R * p) + d * (R * q) * (R * q) = R * R * (c * p * p + d * q * q) := by grind
            have e3 : c * p * p + d * q * q = -(C * r * r) := by omega
            rw [e3] at e2
            have e4 : t * (r * r) = R * R * (C * r * r) := by rw [cv]; grind
            have e5 : R * R * -(C * r * r) = -(R * R * (C * r * r)) := Int.mul_neg ..
            omega
      · cases h
theorem fourF_zero {a b c d : Int} (hf : fOk [a, b, c, d] = true) : fourF a b c d = ([], false) ∨ ∃ v, fourF a b c d = (v, true) ∧ zeroB [a, b, c, d] v = true ∧ plainL v = v := by
  have hm := fOk_mem hf
  have st : ∀ {x y : Nat} {v : List Int}, x ≤ 3 → y ≤ 3 → ¬ (x = 0 ∧ y = 0) → stepF a b c d x y = some v → zeroB [a, b, c, d] v = true ∧ plainL v = v := by
    intro x y v hx hy hne h
    obtain ⟨u, u1, rfl, u3, u4, u5⟩ := stepF_zero hm hx hy hne h
    have z := zero_plain (M := 300000) (u := u) hf u1 u3 (by omega) u4 u5
    exact ⟨z.1, z.2.1⟩
  have yy : ∀ (m x y : Nat) {v : List Int}, x ≤ 3 → y + m = 4 → fourY a b c d x m y = some v → zeroB [a, b, c, d] v = true ∧ plainL v = v := by
    intro m
    induction m with
    | zero => intro x y v _ _ h; cases h
    | succ m ih =>
      intro x y v hx hy h
      unfold fourY at h
      split at h
      · rename_i w hw
        split at hw
        · cases hw
        · rename_i hne
          obtain rfl := Option.some.inj h
          exact st hx (by omega) hne hw
      · exact ih x (y + 1) hx (by omega) h
  have xx : ∀ (m x : Nat) {v : List Int}, x + m = 4 → fourX a b c d m x = some v → zeroB [a, b, c, d] v = true ∧ plainL v = v := by
    intro m
    induction m with
    | zero => intro x v _ h; cases h
    | succ m ih =>
      intro x v hx h
      unfold fourX at h
      split at h
      · rename_i w hw
        obtain rfl := Option.some.inj h
        exact yy 4 x 0 (by omega) rfl hw
      · exact ih (x + 1) (by omega) h
  unfold fourF
  cases e : fourX a b c d 4 0 with
  | none => exact .inl rfl
  | some v => exact .inr ⟨v, rfl, xx 4 0 rfl e⟩
def findA : List Int → List Int × Bool
  | [a, b] => find2 a b
  | [a, b, c] => findT a b c
  | [a, b, c, d] => fourF a b c d
  | _ => ([], false)
theorem findA_zero {f : List Int} (hf : fOk f = true) : findA f = ([], false) ∨ ∃ v, findA f = (v, true) ∧ zeroB f v = true ∧ plainL v = v := by
  match f, hf with
  | [], _ => exact .inl rfl
  | [a], _ => exact .inl rfl
  | [a, b], hf => rcases findF_zero hf with h | ⟨v, h1, h2, h3, _⟩; exact .inl h; exact .inr ⟨v, h1, h2, h3⟩
  | [a, b, c], hf => rcases findF_zero hf with h | ⟨v, h1, h2, h3, _⟩; exact .inl h; exact .inr ⟨v, h1, h2, h3⟩
  | [a, b, c, d], hf => exact fourF_zero hf
  | _ :: _ :: _ :: _ :: _ :: _, _ => exact .inl rfl
theorem chkTwo : (CO.all fun a => CO.all fun b => Nat.beq a b || (Nat.beq a (2 * b) || (Nat.beq b (2 * a) || OP.any fun p => Nat.beq (a % p) 0 != Nat.beq (b % p) 0))) = true := by decide +kernel
theorem cl_fst (p : Nat) (t : Int) : (clT p t).1 = decide (coreN t % p = 0) := by
  unfold clT clN
  by_cases h : coreN t % p = 0
  · rw [if_pos h, decide_eq_true h]
  · rw [if_neg h, decide_eq_false h]
theorem van_two_fst : ∀ (e c1 c2 d1 d2 : Bool), vanB e [(c1, c2), (d1, d2)] = true → c1 = d1 := by decide
theorem van_turn : ∀ (e a1 a2 b1 b2 c1 c2 : Bool), vanB e [(a1, xor a2 e), (b1, xor b2 e), (c1, xor c2 e)] = vanB e [(a1, a2), (b1, b2), (c1, c2)] := by decide +kernel
theorem core_div {t : Int} {p : Nat} (h0 : t ≠ 0) (h : -30 ≤ t ∧ t ≤ 30) (hc : coreN t % p = 0) : t % (p : Int) = 0 := by
  have v := core_val h0 (by omega)
  have d : (p : Int) ∣ (coreT t).1 := by
    unfold coreT sx
    have := Int.ofNat_dvd.2 (Nat.dvd_of_mod_eq_zero hc)
    split
    · exact Int.dvd_neg.2 this
    · exact this
  rw [v]
  exact Int.emod_eq_zero_of_dvd (Int.dvd_trans d (Int.dvd_mul_right _ _))
theorem two_odd {n m : Int} {s : Bool} (h : n = sx s 1 * (2 * (m * m))) (hm : m ≠ 0) : ¬ CT n 1 := by
  rintro ⟨k, u, hu, e⟩
  have ke : k % 2 = 0 := by
    rcases Nat.mod_two_eq_zero_or_one k with h | h
    · exact h
    · rw [if_pos h] at e; omega
  obtain ⟨j, w, hw, _⟩ := vu_ex (p := 2) (by omega) m.natAbs m (Nat.le_refl _) hm
  have h2 : IsVU 2 n (2 * j + 1) (sx s 1 * (w * w)) := by
    refine ⟨?_, ?_⟩
    · have := hw.1
      rw [h, this, Int.pow_succ, Nat.two_mul, Int.pow_add]; grind
    · have h3 := hw.2
      have h4 : w % 2 = 1 := by omega
      have h5 : w * w % 2 = 1 := by rw [Int.mul_emod, h4]; rfl
      unfold sx
      split <;> omega
  have := (vu_one (by omega) hu h2).1
  omega
theorem found_two {a b : Int} (hm : ∀ t ∈ [a, b], t ≠ 0 ∧ -30 ≤ t ∧ t ≤ 30) (h0 : VanT [a, b] 0) (h2 : VanT [a, b] 2) (hp : ∀ P ∈ OP, (∃ t ∈ [a, b], t % (P : Int) = 0) → VanT [a, b] P) : (find2 a b).2 = true := by
  have ha := hm a (by simp); have hb := hm b (by simp)
  have ca := core_is ha.1 (by omega); have cb := core_is hb.1 (by omega)
  have va := core_val ha.1 (by omega); have vb := core_val hb.1 (by omega)
  have sg : decide (a < 0) = !decide (b < 0) := by
    obtain ⟨⟨x, hx, x0⟩, y, hy, y0⟩ := h0.1 rfl
    simp only [List.mem_cons, List.not_mem_nil, or_false] at hx hy
    by_cases h : a < 0
    · have : ¬ b < 0 := by rcases hy with rfl | rfl <;> omega
      simp [h, this]
    · have : b < 0 := by rcases hx with rfl | rfl <;> omega
      simp [h, this]
  have k := List.all_eq_true.1 (List.all_eq_true.1 chkTwo _ (ca.2.2.2.2 (by omega))) _ (cb.2.2.2.2 (by omega))
  simp only [Bool.or_eq_true, Nat.beq_eq] at k
  have ceq : coreN a = coreN b := by
    have nsq : ∀ {m : Int} {s : Bool}, -(a * b) = sx s 1 * (2 * (m * m)) → m ≠ 0 → False := fun e hm' => two_odd e hm' (h2.2.2 rfl a b rfl)
    have s1 : ∀ (s : Bool) (n : Nat), sx s n = sx s 1 * (n : Int) := by intro s n; unfold sx; split <;> simp
    have va' : a = sx (decide (a < 0)) 1 * ((coreN a : Int) * ((rootT a : Int) * rootT a)) := by
      have := va; unfold coreT at this; rw [s1, Int.mul_assoc] at this; exact this
    have vb' : b = sx (decide (b < 0)) 1 * ((coreN b : Int) * ((rootT b : Int) * rootT b)) := by
      have := vb; unfold coreT at this; rw [s1, Int.mul_assoc] at this; exact this
    have nz : ∀ {n m o : Nat}, 1 ≤ n → 1 ≤ m → 1 ≤ o → (n : Int) * ((m : Int) * o) ≠ 0 := fun h1 h2 h3 => Int.mul_ne_zero (by omega) (Int.mul_ne_zero (by omega) (by omega))
    have ss : sx (decide (a < 0)) 1 * sx (decide (b < 0)) 1 = -1 := by rw [sg]; cases decide (b < 0) <;> rfl
    rcases k with k | k | k | k
    · exact k
    · exfalso
      refine nsq (m := (coreN b : Int) * ((rootT a : Int) * rootT b)) (s := false) ?_ (nz cb.2.2.1 ca.2.1 cb.2.1)
      have e : a * b = (sx (decide (a < 0)) 1 * sx (decide (b < 0)) 1) * ((coreN a : Int) * ((rootT a : Int) * rootT a) * ((coreN b : Int) * ((rootT b : Int) * rootT b))) := by
        conv => lhs; rw [va', vb']
        grind
      rw [e, ss, k]
      show _ = 1 * _
      push_cast; grind
    · exfalso
      refine nsq (m := (coreN a : Int) * ((rootT a : Int) * rootT b)) (s := false) ?_ (nz ca.2.2.1 ca.2.1 cb.2.1)
      have e : a * b = (sx (decide (a < 0)) 1 * sx (decide (b < 0)) 1) * ((coreN a : Int) * ((rootT a : Int) * rootT a) * ((coreN b : Int) * ((rootT b : Int) * rootT b))) := by
        conv => lhs; rw [va', vb']
        grind
      rw [e, ss, k]
      show _ = 1 * _
      push_cast; grind
    · exfalso
      obtain ⟨p, hpo, hne⟩ := List.any_eq_true.1 k
      have hv : VanT [a, b] p := by
        refine hp p hpo ?_
        by_cases d : coreN a % p = 0
        · exact ⟨a, by simp, core_div ha.1 ha.2 d⟩
        · refine ⟨b, by simp, core_div hb.1 hb.2 ?_⟩
          by_cases d2 : coreN b % p = 0
          · exact d2
          · exfalso
            have e1 : Nat.beq (coreN a % p) 0 = false := by cases h : Nat.beq (coreN a % p) 0 with | false => rfl | true => exact absurd (Nat.eq_of_beq_eq_true h) d
            have e2 : Nat.beq (coreN b % p) 0 = false := by cases h : Nat.beq (coreN b % p) 0 with | false => rfl | true => exact absurd (Nat.eq_of_beq_eq_true h) d2
            rw [e1, e2] at hne; cases hne
      have f := van_two_fst _ (clT p a).1 (clT p a).2 (clT p b).1 (clT p b).2 (hv.2.1 hpo)
      rw [cl_fst, cl_fst] at f
      have q : ∀ n : Nat, Nat.beq n 0 = decide (n = 0) := fun n => by
        by_cases h : n = 0
        · rw [h]; rfl
        · rw [decide_eq_false h]; cases h' : Nat.beq n 0 with | false => rfl | true => exact absurd (Nat.eq_of_beq_eq_true h') h
      rw [q, q, f] at hne
      simp at hne
  unfold find2
  rw [if_pos]
  unfold coreT
  rw [sg, ceq]
  cases decide (b < 0) <;> simp [sx]
theorem certOk : (CERT.all fun v => Nat.ble v.2.2 299 && (Nat.ble 1 v.1 || Nat.ble 1 v.2.1)) = true := by decide +kernel
theorem found_three {a b c : Int} (hm : ∀ t ∈ [a, b, c], t ≠ 0 ∧ -30 ≤ t ∧ t ≤ 30) (h0 : VanT [a, b, c] 0) (hp : ∀ P ∈ OP, (∃ t ∈ [a, b, c], t % (P : Int) = 0) → VanT [a, b, c] P) : (findT a b c).2 = true := by
  have ha := hm a (by simp); have hb := hm b (by simp); have hc := hm c (by simp)
  have ca := core_is ha.1 (by omega); have cb := core_is hb.1 (by omega); have cc := core_is hc.1 (by omega)
  obtain ⟨X, Y, Z, x, y, z, N, k0, k1, k2⟩ := leg_of (ca.2.2.2.2 (by omega)) (cb.2.2.2.2 (by omega)) (cc.2.2.2.2 (by omega))
  have loc : ∀ (w : Bool), locOk (xor (decide (a < 0)) w) (xor (decide (b < 0)) w) (xor (decide (c < 0)) w) (coreN a) (coreN b) (coreN c) = true := by
    intro w
    unfold locOk
    refine List.all_eq_true.2 (fun p hpo => ?_)
    simp only [Bool.or_eq_true, Bool.and_eq_true, bne_iff_ne]
    by_cases h : coreN a % p ≠ 0 ∧ coreN b % p ≠ 0 ∧ coreN c % p ≠ 0
    · exact .inl h
    · right
      have hv : VanT [a, b, c] p := by
        refine hp p hpo ?_
        by_cases d : coreN a % p = 0
        · exact ⟨a, by simp, core_div ha.1 ha.2 d⟩
        · by_cases d2 : coreN b % p = 0
          · exact ⟨b, by simp, core_div hb.1 hb.2 d2⟩
          · refine ⟨c, by simp, core_div hc.1 hc.2 ?_⟩
            by_cases d3 : coreN c % p = 0
            · exact d3
            · exact absurd ⟨d, d2, d3⟩ h
      have v := hv.2.1 hpo
      have tw : ∀ (s : Bool) (n : Nat), clN p (xor s true) n = ((clN p s n).1, xor (clN p s n).2 ((p - 1) / 2 % 2 == 1)) := by
        intro s n
        unfold clN
        split <;> cases s <;> simp
      cases w with
      | false => simp only [Bool.xor_false]; exact v
      | true =>
        rw [tw, tw, tw, van_turn]; exact v
  obtain ⟨⟨s, hs, s0⟩, t, ht, t0⟩ := h0.1 rfl
  simp only [List.mem_cons, List.not_mem_nil, or_false] at hs ht
  obtain ⟨X1, Y1, Z1⟩ := N.pos
  have fin : ∀ {v : Nat × Nat × Nat}, v ∈ CERT → sx (decide (a < 0)) X * v.1 * v.1 + sx (decide (b < 0)) Y * v.2.1 * v.2.1 + sx (decide (c < 0)) Z * v.2.2 * v.2.2 = 0 → v.1 * v.1 ≤ Y * Z → v.2.1 * v.2.1 ≤ X * Z → (findT a b c).2 = true := by
    intro v hv he h1 h2
    have ck := List.all_eq_true.1 certOk v hv
    simp only [Bool.and_eq_true, Bool.or_eq_true, Nat.ble_eq] at ck
    have ab := prod_ab (x := sx (decide (a < 0)) X) (y := sx (decide (b < 0)) Y) (z := sx (decide (c < 0)) Z) (N := 30000) (by rw [sx_abs, sx_abs, sx_abs]; exact N.prod) (sx_ne X1) (sx_ne Y1)
    have e1 : (sx (decide (b < 0)) Y * sx (decide (c < 0)) Z).natAbs = Y * Z := by rw [Int.natAbs_mul, sx_abs, sx_abs]
    have e2 : (sx (decide (a < 0)) X * sx (decide (c < 0)) Z).natAbs = X * Z := by rw [Int.natAbs_mul, sx_abs, sx_abs]
    have S := search_some (a := sx (decide (a < 0)) X) (b := sx (decide (b < 0)) Y) (c := sx (decide (c < 0)) Z) (p := (v.1 : Int)) (q := (v.2.1 : Int)) (z := v.2.2) (sx_ne Z1) ab.1 ab.2 he (by omega) (by omega) (by omega) (by omega)
      (by rw [e1]; exact_mod_cast h1) (by rw [e2]; exact_mod_cast h2)
    unfold findT
    rw [N.at_]
    simp only
    cases e : searchF (sx (decide (a < 0)) X) (sx (decide (b < 0)) Y) (sx (decide (c < 0)) Z) with
    | none => rw [e] at S; cases S
    | some q => rfl
  have use : ∀ {pat : Nat}, holz X Y Z pat = true → ∃ v ∈ CERT, v.1 * v.1 ≤ Y * Z ∧ v.2.1 * v.2.1 ≤ X * Z ∧
      (pat = 0 → Y * (v.2.1 * v.2.1) + Z * (v.2.2 * v.2.2) = X * (v.1 * v.1)) ∧ (pat = 1 → X * (v.1 * v.1) + Z * (v.2.2 * v.2.2) = Y * (v.2.1 * v.2.1)) ∧ (pat = 2 → X * (v.1 * v.1) + Y * (v.2.1 * v.2.1) = Z * (v.2.2 * v.2.2)) := by
    intro pat h
    unfold holz at h
    obtain ⟨v, hv, h⟩ := List.any_eq_true.1 h
    refine ⟨v, hv, ?_⟩
    split at h
    all_goals
      simp only [Bool.and_eq_true, Nat.beq_eq, Nat.ble_eq] at h
      refine ⟨h.2.1, h.2.2, fun e => ?_, fun e => ?_, fun e => ?_⟩
      all_goals first | exact h.1 | (exfalso; omega) | (subst e; simp at *)
  have cast3 : ∀ {A B C x y z : Nat}, A * (x * x) + B * (y * y) = C * (z * z) → (A : Int) * x * x + (B : Int) * y * y = (C : Int) * z * z := by
    intro A B C x y z h
    have : ((A * (x * x) + B * (y * y) : Nat) : Int) = ((C * (z * z) : Nat) : Int) := by rw [h]
    push_cast at this
    rw [Int.mul_assoc, Int.mul_assoc, Int.mul_assoc]; exact this
  have neg : ∀ {s : Bool} {n m : Nat}, sx s n * (m : Int) * m = if s = true then -((n : Int) * m * m) else (n : Int) * m * m := by
    intro s n m; unfold sx; split
    · rw [Int.neg_mul, Int.neg_mul]
    · rfl
  have pick : ∀ (w : Bool), (decide (a < 0) = !w ∧ decide (b < 0) = w ∧ decide (c < 0) = w) ∨ (decide (a < 0) = w ∧ decide (b < 0) = !w ∧ decide (c < 0) = w) ∨ (decide (a < 0) = w ∧ decide (b < 0) = w ∧ decide (c < 0) = !w) → (findT a b c).2 = true := by
    intro w h
    have L := loc w
    rcases h with ⟨h1, h2, h3⟩ | ⟨h1, h2, h3⟩ | ⟨h1, h2, h3⟩
    · rw [h1, h2, h3] at L
      have L : locOk true false false (coreN a) (coreN b) (coreN c) = true := by cases w <;> exact L
      obtain ⟨v, hv, b1, b2, e, _⟩ := use (k0 L)
      refine fin hv ?_ b1 b2
      have e := cast3 (e rfl)
      rw [neg, neg, neg, h1, h2, h3]
      cases w <;> simp <;> omega
    · rw [h1, h2, h3] at L
      have L : locOk false true false (coreN a) (coreN b) (coreN c) = true := by cases w <;> exact L
      obtain ⟨v, hv, b1, b2, _, e, _⟩ := use (k1 L)
      refine fin hv ?_ b1 b2
      have e := cast3 (e rfl)
      rw [neg, neg, neg, h1, h2, h3]
      cases w <;> simp <;> omega
    · rw [h1, h2, h3] at L
      have L : locOk false false true (coreN a) (coreN b) (coreN c) = true := by cases w <;> exact L
      obtain ⟨v, hv, b1, b2, _, _, e⟩ := use (k2 L)
      refine fin hv ?_ b1 b2
      have e := cast3 (e rfl)
      rw [neg, neg, neg, h1, h2, h3]
      cases w <;> simp <;> omega
  have bo : ∀ {q : Int}, q ≠ 0 → (decide (q < 0) = true ∧ q < 0) ∨ (decide (q < 0) = false ∧ 0 < q) := by
    intro q hq
    rcases (by omega : q < 0 ∨ 0 < q) with h | h
    · exact .inl ⟨decide_eq_true h, h⟩
    · exact .inr ⟨decide_eq_false (by omega), h⟩
  rcases bo ha.1 with ⟨A, A0⟩ | ⟨A, A0⟩ <;> rcases bo hb.1 with ⟨B, B0⟩ | ⟨B, B0⟩ <;> rcases bo hc.1 with ⟨C, C0⟩ | ⟨C, C0⟩
  · exfalso; rcases ht with rfl | rfl | rfl <;> omega
  · exact pick true (.inr (.inr ⟨A, B, C⟩))
  · exact pick true (.inr (.inl ⟨A, B, C⟩))
  · exact pick false (.inl ⟨A, B, C⟩)
  · exact pick true (.inl ⟨A, B, C⟩)
  · exact pick false (.inr (.inl ⟨A, B, C⟩))
  · exact pick false (.inr (.inr ⟨A, B, C⟩))
  · exfalso; rcases hs with rfl | rfl | rfl <;> omega
end Go.Proofs.Ytpjgcjkodmkemaa.Aid
