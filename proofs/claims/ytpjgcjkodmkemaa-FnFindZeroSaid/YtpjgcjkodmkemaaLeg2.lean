/- Zeros of forms of two or three small terms, as the program finds them: plain words. No program in sight. -/
import Derived.Test.YtpjgcjkodmkemaaLeg
import Derived.Test.YtpjgcjkodmkemaaLoc4
namespace Go.Proofs.Ytpjgcjkodmkemaa.Aid
open Go.RowKit Go.Proofs.YtpjgcjkodmkemaaW.PrintWords Go.Proofs.YtpjgcjkodmkemaaW.PrintLast Go.Proofs.YtpjgcjkodmkemaaW.PrintMore
def sx (s : Bool) (n : Nat) : Int := if s = true then -(n : Int) else (n : Int)
theorem sx_abs (s : Bool) (n : Nat) : (sx s n).natAbs = n := by unfold sx; split <;> omega
theorem sx_ne {s : Bool} {n : Nat} (h : 1 ≤ n) : sx s n ≠ 0 := by unfold sx; split <;> omega
theorem sx_of (t : Int) : t = sx (decide (t < 0)) t.natAbs := by unfold sx; split <;> simp at * <;> omega
theorem sx_mul (s : Bool) (n p : Nat) : sx s n * (p : Int) = sx s (n * p) := by unfold sx; split <;> simp [Int.neg_mul]
theorem sx_tdiv {s : Bool} {n p : Nat} : Int.tdiv (sx s n) (p : Int) = sx s (n / p) := by
  unfold sx; split
  · rw [Int.neg_tdiv, Int.ofNat_tdiv]
  · rw [Int.ofNat_tdiv]
theorem sx_tmod {s : Bool} {n p : Nat} : Int.tmod (sx s n) (p : Int) = 0 ↔ n % p = 0 := by
  unfold sx; split
  · rw [Int.neg_tmod, ← Int.ofNat_tmod]; omega
  · rw [← Int.ofNat_tmod]; omega
def coreN (t : Int) : Nat := t.natAbs / (rootN t.natAbs 23 * rootN t.natAbs 23)
def rootT (t : Int) : Nat := rootN t.natAbs 23
def coreT (t : Int) : Int × Int := (sx (decide (t < 0)) (coreN t), (rootT t : Int))
def chkT (n : Nat) : Bool := (List.range n).all fun i => Nat.beq (coreN ((i + 1 : Nat) : Int) * (rootT ((i + 1 : Nat) : Int) * rootT ((i + 1 : Nat) : Int))) (i + 1) && (Nat.ble 1 (rootT ((i + 1 : Nat) : Int)) && (Nat.ble 31 (i + 1) || CO.contains (coreN ((i + 1 : Nat) : Int))))
theorem chkT_true : chkT 540 = true := by decide +kernel
theorem core_nat (t : Int) : coreN t = coreN ((t.natAbs : Nat) : Int) ∧ rootT t = rootT ((t.natAbs : Nat) : Int) := by unfold coreN rootT; simp
theorem core_is {t : Int} (h0 : t ≠ 0) (h : -540 ≤ t ∧ t ≤ 540) : coreN t * (rootT t * rootT t) = t.natAbs ∧ 1 ≤ rootT t ∧ 1 ≤ coreN t ∧ coreN t ≤ t.natAbs ∧ (t.natAbs ≤ 30 → coreN t ∈ CO) := by
  obtain ⟨n, hn⟩ : ∃ n, t.natAbs = n + 1 := ⟨t.natAbs - 1, by omega⟩
  have k := List.all_eq_true.1 chkT_true n (List.mem_range.2 (by omega))
  rw [(core_nat t).1, (core_nat t).2, hn]
  simp only [Bool.and_eq_true, Bool.or_eq_true, Nat.beq_eq, Nat.ble_eq, List.contains_eq_mem, decide_eq_true_eq] at k
  obtain ⟨k1, k2, k3⟩ := k
  have c1 : 1 ≤ coreN ((n + 1 : Nat) : Int) := by
    rcases Nat.eq_zero_or_pos (coreN ((n + 1 : Nat) : Int)) with e | e
    · rw [e] at k1; omega
    · exact e
  have c2 : coreN ((n + 1 : Nat) : Int) * 1 ≤ coreN ((n + 1 : Nat) : Int) * (rootT ((n + 1 : Nat) : Int) * rootT ((n + 1 : Nat) : Int)) := Nat.mul_le_mul_left _ (Nat.mul_pos k2 k2)
  exact ⟨k1, k2, c1, by omega, fun h => by rcases k3 with k3 | k3; omega; exact k3⟩
theorem core_val {t : Int} (h0 : t ≠ 0) (h : -540 ≤ t ∧ t ≤ 540) : t = (coreT t).1 * ((coreT t).2 * (coreT t).2) := by
  have c := (core_is h0 h).1
  have e : t = sx (decide (t < 0)) (coreN t * (rootT t * rootT t)) := by rw [c]; exact sx_of t
  have k : ∀ (s : Bool) (n r : Nat), sx s (n * (r * r)) = sx s n * ((r : Int) * (r : Int)) := by
    intro s n r; rw [← sx_mul]; push_cast; rfl
  rw [k] at e; exact e
structure Nrm (a b c X Y Z x y z : Nat) : Prop where
  at_ : nrmN 6 a b c 1 1 1 = some (X, Y, Z, x, y, z)
  pos : 1 ≤ X ∧ 1 ≤ Y ∧ 1 ≤ Z
  prod : X * (Y * Z) ≤ 30000
  le : X ≤ 900 ∧ Y ≤ 900 ∧ Z ≤ 900
  cop : Nat.gcd X Y = 1 ∧ Nat.gcd X Z = 1 ∧ Nat.gcd Y Z = 1
  sqf : rootN X 29 = 1 ∧ rootN Y 29 = 1 ∧ rootN Z 29 = 1
  tpos : 1 ≤ x ∧ 1 ≤ y ∧ 1 ≤ z
  tle : x ≤ b ∧ x ≤ c ∧ y ≤ a ∧ y ≤ c ∧ z ≤ a ∧ z ≤ b
  same : a * (x * x) * Y = b * (y * y) * X ∧ a * (x * x) * Z = c * (z * z) * X
theorem leg_of {a b c : Nat} (ha : a ∈ CO) (hb : b ∈ CO) (hc : c ∈ CO) : ∃ X Y Z x y z, Nrm a b c X Y Z x y z ∧
    (locOk true false false a b c = true → holz X Y Z 0 = true) ∧ (locOk false true false a b c = true → holz X Y Z 1 = true) ∧ (locOk false false true a b c = true → holz X Y Z 2 = true) := by
  have k := List.all_eq_true.1 (List.all_eq_true.1 (List.all_eq_true.1 legB_all a ha) b hb) c hc
  unfold legB at k
  cases e : nrmN 6 a b c 1 1 1 with
  | none => rw [e] at k; cases k
  | some q =>
    obtain ⟨X, Y, Z, x, y, z⟩ := q
    rw [e] at k
    simp only [legA, Bool.and_eq_true, Bool.or_eq_true, Bool.not_eq_true', Nat.beq_eq, Nat.ble_eq] at k
    obtain ⟨⟨a1, a2, a3, a4, a5, a6, a7, a8, a9, a10, a11, a12, a13, a14, a15, a16, a17, a18, a19, a20, a21, a22, a23, a24⟩, k1, k2, k3⟩ := k
    refine ⟨X, Y, Z, x, y, z, ⟨e, ⟨a1, a2, a3⟩, a4, ⟨a5, a6, a7⟩, ⟨a8, a9, a10⟩, ⟨a11, a12, a13⟩, ⟨a14, a15, a16⟩, ⟨a17, a18, a19, a20, a21, a22⟩, ⟨a23, a24⟩⟩, fun h => ?_, fun h => ?_, fun h => ?_⟩
    · rcases k1 with k | k; rw [h] at k; cases k; exact k
    · rcases k2 with k | k; rw [h] at k; cases k; exact k
    · rcases k3 with k | k; rw [h] at k; cases k; exact k
def sq (n : Int) : Option Nat := (List.range 300).find? (fun r => decide ((r : Int) * (r : Int) = n))
theorem sq_some {n : Int} {r : Nat} (h : sq n = some r) : (r : Int) * r = n ∧ r < 300 := by
  unfold sq at h
  have h1 := List.find?_some h
  have h2 := List.mem_of_find?_eq_some h
  exact ⟨of_decide_eq_true h1, List.mem_range.1 h2⟩
theorem sq_mul {r : Nat} (h : r < 300) : sq ((r : Int) * r) = some r := by
  cases e : sq ((r : Int) * r) with
  | none =>
    unfold sq at e
    rw [List.find?_eq_none] at e
    exact absurd (decide_eq_true rfl) (e r (List.mem_range.2 h))
  | some s =>
    have h1 := (sq_some e).1
    rcases Nat.lt_trichotomy s r with k | k | k
    · have := Nat.mul_lt_mul'' k k; omega
    · rw [k]
    · have := Nat.mul_lt_mul'' k k; omega
def hitF (a b c x y : Int) : Option Int :=
  if x = 0 ∧ y = 0 then none else if Int.tmod (-a * x * x - b * y * y) c = 0 then (match sq (Int.tdiv (-a * x * x - b * y * y) c) with | some r => some (r : Int) | none => none) else none
def searchY (a b c x : Int) : Nat → Int → Option (Int × Int × Int)
  | 0, _ => none
  | m + 1, y => if y * y ≤ ((a * c).natAbs : Int) then (match hitF a b c x y with | some z => some (x, y, z) | none => searchY a b c x m (y + 1)) else none
def searchX (a b c : Int) : Nat → Int → Option (Int × Int × Int)
  | 0, _ => none
  | m + 1, x => if x * x ≤ ((b * c).natAbs : Int) then (match searchY a b c x 180 0 with | some r => some r | none => searchX a b c m (x + 1)) else none
def searchF (a b c : Int) : Option (Int × Int × Int) := searchX a b c 180 0
theorem hit_zero {a b c x y z : Int} (h : hitF a b c x y = some z) : a * x * x + b * y * y + c * z * z = 0 ∧ (x ≠ 0 ∨ y ≠ 0) ∧ 0 ≤ z ∧ z < 300 := by
  unfold hitF at h
  split at h
  · cases h
  · rename_i h1
    split at h
    · rename_i h2
      split at h
      rotate_left
      · cases h
      rename_i r h3
      obtain rfl : (r : Int) = z := by simpa using h
      obtain ⟨h4, h5⟩ := sq_some h3
      have e := Int.mul_tdiv_cancel' (Int.dvd_of_tmod_eq_zero h2)
      rw [← h4] at e
      refine ⟨?_, by omega, by omega, by omega⟩
      have : c * (r : Int) * r = c * ((r : Int) * r) := Int.mul_assoc _ _ _
      have e2 : -a * x * x = -(a * x * x) := by rw [Int.neg_mul, Int.neg_mul]
      omega
    · cases h
theorem searchY_zero {a b c x : Int} (hac : (a * c).natAbs ≤ 30000) : ∀ (m : Nat) (y : Int), 0 ≤ y → ∀ {p q r : Int}, searchY a b c x m y = some (p, q, r) →
    p = x ∧ 0 ≤ q ∧ q ≤ 173 ∧ a * p * p + b * q * q + c * r * r = 0 ∧ (p ≠ 0 ∨ q ≠ 0) ∧ 0 ≤ r ∧ r < 300
  | 0, _, _, _, _, _, h => by cases h
  | m + 1, y, y0, p, q, r, h => by
    unfold searchY at h
    split at h
    · rename_i h1
      split at h
      · rename_i z hz
        obtain ⟨rfl, rfl, rfl⟩ : x = p ∧ y = q ∧ z = r := by simpa using h
        have := hit_zero hz
        refine ⟨rfl, y0, ?_, this⟩
        rcases (by omega : y ≤ 173 ∨ 174 ≤ y) with k | k
        · exact k
        · have := Int.mul_le_mul k k (by omega) y0; omega
      · exact searchY_zero hac m (y + 1) (by omega) h
    · cases h
theorem searchX_zero {a b c : Int} (hbc : (b * c).natAbs ≤ 30000) (hac : (a * c).natAbs ≤ 30000) : ∀ (m : Nat) (x : Int), 0 ≤ x → ∀ {p q r : Int}, searchX a b c m x = some (p, q, r) →
    0 ≤ p ∧ p ≤ 173 ∧ 0 ≤ q ∧ q ≤ 173 ∧ a * p * p + b * q * q + c * r * r = 0 ∧ (p ≠ 0 ∨ q ≠ 0) ∧ 0 ≤ r ∧ r < 300
  | 0, _, _, _, _, _, h => by cases h
  | m + 1, x, x0, p, q, r, h => by
    unfold searchX at h
    split at h
    · rename_i h1
      split at h
      · rename_i s hs
        obtain ⟨p', q', r'⟩ := s
        obtain ⟨rfl, rfl, rfl⟩ : p' = p ∧ q' = q ∧ r' = r := by simpa using h
        obtain ⟨rfl, k⟩ := searchY_zero hac 180 0 (by omega) hs
        refine ⟨x0, ?_, k⟩
        rcases (by omega : p' ≤ 173 ∨ 174 ≤ p') with k | k
        · exact k
        · have := Int.mul_le_mul k k (by omega) x0; omega
      · exact searchX_zero hbc hac m (x + 1) (by omega) h
    · cases h
theorem searchY_some {a b c x : Int} {q z : Int} (hz : hitF a b c x q = some z) (hq : q * q ≤ ((a * c).natAbs : Int)) : ∀ (m : Nat) (y : Int), 0 ≤ y → y ≤ q → q - y < m → (searchY a b c x m y).isSome = true
  | 0, _, _, _, h => by omega
  | m + 1, y, y0, h1, h2 => by
    unfold searchY
    have := Int.mul_le_mul h1 h1 y0 (by omega)
    rw [if_pos (by omega)]
    split
    · rfl
    · rename_i e
      refine searchY_some hz hq m (y + 1) (by omega) ?_ (by omega)
      rcases (by omega : y = q ∨ y + 1 ≤ q) with rfl | k
      · rw [hz] at e; cases e
      · exact k
theorem searchX_some {a b c : Int} {p q z : Int} (hz : hitF a b c p q = some z) (hp : p * p ≤ ((b * c).natAbs : Int)) (hq : q * q ≤ ((a * c).natAbs : Int)) (q0 : 0 ≤ q) (q1 : q < 180) : ∀ (m : Nat) (x : Int), 0 ≤ x → x ≤ p → p - x < m → (searchX a b c m x).isSome = true
  | 0, _, _, _, h => by omega
  | m + 1, x, x0, h1, h2 => by
    unfold searchX
    have := Int.mul_le_mul h1 h1 x0 (by omega)
    rw [if_pos (by omega)]
    split
    · rfl
    · rename_i e
      refine searchX_some hz hp hq q0 q1 m (x + 1) (by omega) ?_ (by omega)
      rcases (by omega : x = p ∨ x + 1 ≤ p) with rfl | k
      · have := searchY_some hz hq 180 0 (by omega) q0 (by omega)
        rw [e] at this; cases this
      · exact k
theorem search_some {a b c : Int} {p q : Int} {z : Nat} (hc : c ≠ 0) (hbc : (b * c).natAbs ≤ 30000) (hac : (a * c).natAbs ≤ 30000) (h : a * p * p + b * q * q + c * z * z = 0) (hne : p ≠ 0 ∨ q ≠ 0) (hz : z < 300) (p0 : 0 ≤ p) (q0 : 0 ≤ q) (hp : p * p ≤ ((b * c).natAbs : Int)) (hq : q * q ≤ ((a * c).natAbs : Int)) : (searchF a b c).isSome = true := by
  have e : -a * p * p - b * q * q = c * ((z : Int) * z) := by
    have : c * (z : Int) * z = c * ((z : Int) * z) := Int.mul_assoc _ _ _
    have e2 : -a * p * p = -(a * p * p) := by rw [Int.neg_mul, Int.neg_mul]
    omega
  have hh : hitF a b c p q = some (z : Int) := by
    unfold hitF
    rw [if_neg (by omega), e, if_pos (Int.mul_tmod_right _ _), Int.mul_tdiv_cancel_left _ hc, sq_mul hz]
  have bd : ∀ {x : Int}, 0 ≤ x → x * x ≤ 30000 → x < 180 := by
    intro x h0 h1
    rcases (by omega : x < 180 ∨ 180 ≤ x) with k | k
    · exact k
    · have := Int.mul_le_mul k k (by omega) h0; omega
  have e1 := bd p0 (by omega)
  have e2 := bd q0 (by omega)
  exact searchX_some hh hp hq q0 e2 180 0 (Int.le_refl _) p0 (by omega)
def findT (t0 t1 t2 : Int) : List Int × Bool :=
  match nrmN 6 (coreN t0) (coreN t1) (coreN t2) 1 1 1 with
  | some (X, Y, Z, x, y, z) =>
    match searchF (sx (decide (t0 < 0)) X) (sx (decide (t1 < 0)) Y) (sx (decide (t2 < 0)) Z) with
    | some (p, q, r) => (plainL [(rootT t1 * rootT t2 * x : Nat) * p, (rootT t0 * rootT t2 * y : Nat) * q, (rootT t0 * rootT t1 * z : Nat) * r], true)
    | none => ([], false)
  | none => ([], false)
def sgI (s : Bool) : Int := if s = true then -1 else 1
theorem sx_sg (s : Bool) (n : Nat) : sx s n = sgI s * (n : Int) := by unfold sx sgI; split <;> omega
theorem time_bd {R S x C D : Nat} (h1 : x ≤ C) (h2 : x ≤ D) (h3 : C * (R * R) ≤ 30) (h4 : D * (S * S) ≤ 30) : R * S * x ≤ 30 := by
  have a := Nat.mul_le_mul_right (R * R) h1
  have b := Nat.mul_le_mul_right (S * S) h2
  have c := Nat.mul_le_mul (Nat.le_trans a h3) (Nat.le_trans b h4)
  have e : x * (R * R) * (x * (S * S)) = R * S * x * (R * S * x) := by ac_rfl
  rw [e] at c
  rcases Nat.lt_or_ge 30 (R * S * x) with k | k
  · have := Nat.mul_le_mul k k; omega
  · exact k
theorem prod_ab {x y z : Int} {N : Nat} (h : x.natAbs * (y.natAbs * z.natAbs) ≤ N) (hx : x ≠ 0) (hy : y ≠ 0) : (y * z).natAbs ≤ N ∧ (x * z).natAbs ≤ N := by
  have a := Nat.pos_of_ne_zero (Int.natAbs_ne_zero.2 hx)
  have b := Nat.pos_of_ne_zero (Int.natAbs_ne_zero.2 hy)
  rw [Int.natAbs_mul, Int.natAbs_mul]
  have c : 1 * (y.natAbs * z.natAbs) ≤ x.natAbs * (y.natAbs * z.natAbs) := Nat.mul_le_mul_right _ a
  have d : x.natAbs * (1 * z.natAbs) ≤ x.natAbs * (y.natAbs * z.natAbs) := Nat.mul_le_mul_left _ (Nat.mul_le_mul_right _ b)
  rw [Nat.one_mul] at c d
  omega
theorem nrm_at {t0 t1 t2 : Int} (h : ∀ t ∈ [t0, t1, t2], t ≠ 0 ∧ -30 ≤ t ∧ t ≤ 30) : ∃ X Y Z x y z, Nrm (coreN t0) (coreN t1) (coreN t2) X Y Z x y z ∧
    (rootT t1 * rootT t2 * x ≤ 30 ∧ rootT t0 * rootT t2 * y ≤ 30 ∧ rootT t0 * rootT t1 * z ≤ 30) := by
  have b0 := h t0 (by simp); have b1 := h t1 (by simp); have b2 := h t2 (by simp)
  have c0 := core_is b0.1 (by omega); have c1 := core_is b1.1 (by omega); have c2 := core_is b2.1 (by omega)
  obtain ⟨X, Y, Z, x, y, z, N, _⟩ := leg_of (c0.2.2.2.2 (by omega)) (c1.2.2.2.2 (by omega)) (c2.2.2.2.2 (by omega))
  have e := N.tle
  exact ⟨X, Y, Z, x, y, z, N, time_bd e.1 e.2.1 (by omega) (by omega), time_bd e.2.2.1 e.2.2.2.1 (by omega) (by omega), time_bd e.2.2.2.2.1 e.2.2.2.2.2 (by omega) (by omega)⟩
theorem trip_ok {n m o : Nat} {p q r : Int} (hn : 1 ≤ n ∧ n ≤ 30) (hm : 1 ≤ m ∧ m ≤ 30) (ho : o ≤ 30) (hp : 0 ≤ p ∧ p < 300) (hq : 0 ≤ q ∧ q < 300) (hr : 0 ≤ r ∧ r < 300) (hne : p ≠ 0 ∨ q ≠ 0) :
    some0 [(n : Int) * p, (m : Int) * q, (o : Int) * r] = true ∧ ∀ x ∈ [(n : Int) * p, (m : Int) * q, (o : Int) * r], -9000 ≤ x ∧ x ≤ 9000 := by
  constructor
  · unfold some0
    simp only [List.any_cons, List.any_nil, Bool.or_eq_true, bne_iff_ne]
    rcases hne with g | g
    · exact .inl (Int.mul_ne_zero (by omega) g)
    · exact .inr (.inl (Int.mul_ne_zero (by omega) g))
  · have k : ∀ {n : Nat} {a : Int}, n ≤ 30 → 0 ≤ a → a < 300 → -9000 ≤ (n : Int) * a ∧ (n : Int) * a ≤ 9000 := by
      intro n a hn h0 h1
      have := mul2_bd (a := (n : Int)) (b := a) (A := 30) (B := 300) (by omega) (by omega); omega
    intro w hw
    simp only [List.mem_cons, List.not_mem_nil, or_false] at hw
    rcases hw with rfl | rfl | rfl
    · exact k hn.2 hp.1 hp.2
    · exact k hm.2 hq.1 hq.2
    · exact k ho hr.1 hr.2
theorem times_pos {t0 t1 t2 : Int} (h : ∀ t ∈ [t0, t1, t2], t ≠ 0 ∧ -30 ≤ t ∧ t ≤ 30) {x y : Nat} (hx : 1 ≤ x) (hy : 1 ≤ y) : 1 ≤ rootT t1 * rootT t2 * x ∧ 1 ≤ rootT t0 * rootT t2 * y := by
  have b0 := h t0 (by simp); have b1 := h t1 (by simp); have b2 := h t2 (by simp)
  have c0 := core_is b0.1 (by omega); have c1 := core_is b1.1 (by omega); have c2 := core_is b2.1 (by omega)
  exact ⟨Nat.mul_pos (Nat.mul_pos c1.2.1 c2.2.1) hx, Nat.mul_pos (Nat.mul_pos c0.2.1 c2.2.1) hy⟩
theorem findT_zero {t0 t1 t2 : Int} (h : ∀ t ∈ [t0, t1, t2], t ≠ 0 ∧ -30 ≤ t ∧ t ≤ 30) :
    findT t0 t1 t2 = ([], false) ∨ ∃ u v w : Int, findT t0 t1 t2 = (plainL [u, v, w], true) ∧ some0 [u, v, w] = true ∧ (∀ x ∈ [u, v, w], -9000 ≤ x ∧ x ≤ 9000) ∧ dot3 [t0, t1, t2] [u, v, w] [u, v, w] = 0 := by
  have b0 := h t0 (by simp); have b1 := h t1 (by simp); have b2 := h t2 (by simp)
  have c0 := core_is b0.1 (by omega); have c1 := core_is b1.1 (by omega); have c2 := core_is b2.1 (by omega)
  obtain ⟨X, Y, Z, x, y, z, N, m0, m1, m2⟩ := nrm_at h
  have v0 := core_val b0.1 (by omega); have v1 := core_val b1.1 (by omega); have v2 := core_val b2.1 (by omega)
  unfold findT
  rw [N.at_]
  simp only
  obtain ⟨X1, Y1, Z1⟩ := N.pos
  have pr := N.prod
  have ab := prod_ab (x := sx (decide (t0 < 0)) X) (y := sx (decide (t1 < 0)) Y) (z := sx (decide (t2 < 0)) Z) (N := 30000) (by rw [sx_abs, sx_abs, sx_abs]; exact pr) (sx_ne X1) (sx_ne Y1)
  cases e : searchF (sx (decide (t0 < 0)) X) (sx (decide (t1 < 0)) Y) (sx (decide (t2 < 0)) Z) with
  | none => exact .inl rfl
  | some s =>
    obtain ⟨p, q, r⟩ := s
    obtain ⟨p0, p1, q0, q1, hz, hne, r0, r1⟩ := searchX_zero ab.1 ab.2 180 0 (by omega) e
    refine .inr ⟨_, _, _, rfl, ?_, ?_, ?_⟩
    · exact (trip_ok ⟨(times_pos h N.tpos.1 N.tpos.2.1).1, m0⟩ ⟨(times_pos h N.tpos.1 N.tpos.2.1).2, m1⟩ m2 ⟨p0, by omega⟩ ⟨q0, by omega⟩ ⟨r0, r1⟩ hne).1
    · exact (trip_ok ⟨(times_pos h N.tpos.1 N.tpos.2.1).1, m0⟩ ⟨(times_pos h N.tpos.1 N.tpos.2.1).2, m1⟩ m2 ⟨p0, by omega⟩ ⟨q0, by omega⟩ ⟨r0, r1⟩ hne).2
    · have e1 : ((coreN t0 * (x * x) * Y : Nat) : Int) = ((coreN t1 * (y * y) * X : Nat) : Int) := by rw [N.same.1]
      have e2 : ((coreN t0 * (x * x) * Z : Nat) : Int) = ((coreN t2 * (z * z) * X : Nat) : Int) := by rw [N.same.2]
      unfold coreT at v0 v1 v2
      simp only [sx_sg] at hz v0 v1 v2
      push_cast at e1 e2 ⊢
      show t0 * _ * _ + (t1 * _ * _ + (t2 * _ * _ + 0)) = 0
      have X0 : (X : Int) ≠ 0 := by omega
      generalize (rootT t0 : Int) = R0 at *
      generalize (rootT t1 : Int) = R1 at *
      generalize (rootT t2 : Int) = R2 at *
      generalize (coreN t0 : Int) = C0 at *
      generalize (coreN t1 : Int) = C1 at *
      generalize (coreN t2 : Int) = C2 at *
      generalize sgI (decide (t0 < 0)) = S0 at *
      generalize sgI (decide (t1 < 0)) = S1 at *
      generalize sgI (decide (t2 < 0)) = S2 at *
      have key : S0 * C0 * (x * x) * p * p + S1 * C1 * (y * y) * q * q + S2 * C2 * (z * z) * r * r = 0 := by
        refine (Int.mul_eq_zero.1 (?_ : (X : Int) * (S0 * C0 * (x * x) * p * p + S1 * C1 * (y * y) * q * q + S2 * C2 * (z * z) * r * r) = 0)).resolve_left X0
        have : (X : Int) * (S0 * C0 * (x * x) * p * p + S1 * C1 * (y * y) * q * q + S2 * C2 * (z * z) * r * r) = C0 * (x * x) * (S0 * X * p * p + S1 * Y * q * q + S2 * Z * r * r) := by
          have f1 : (X : Int) * (S1 * C1 * (y * y) * q * q) = S1 * q * q * (C1 * (y * y) * X) := by grind
          have f2 : (X : Int) * (S2 * C2 * (z * z) * r * r) = S2 * r * r * (C2 * (z * z) * X) := by grind
          rw [← e1] at f1
          rw [← e2] at f2
          grind
        rw [this, hz, Int.mul_zero]
      have fin : t0 * (R1 * R2 * x * p) * (R1 * R2 * x * p) + (t1 * (R0 * R2 * y * q) * (R0 * R2 * y * q) + (t2 * (R0 * R1 * z * r) * (R0 * R1 * z * r) + 0)) = R0 * R0 * R1 * R1 * R2 * R2 * (S0 * C0 * (x * x) * p * p + S1 * C1 * (y * y) * q * q + S2 * C2 * (z * z) * r * r) := by
        have w0 : t0 * (R1 * R2 * x * p) * (R1 * R2 * x * p) = (S0 * C0 * (R0 * R0)) * (R1 * R2 * x * p) * (R1 * R2 * x * p) := congrArg (fun a => a * (R1 * R2 * x * p) * (R1 * R2 * x * p)) v0
        have w1 : t1 * (R0 * R2 * y * q) * (R0 * R2 * y * q) = (S1 * C1 * (R1 * R1)) * (R0 * R2 * y * q) * (R0 * R2 * y * q) := congrArg (fun a => a * (R0 * R2 * y * q) * (R0 * R2 * y * q)) v1
        have w2 : t2 * (R0 * R1 * z * r) * (R0 * R1 * z * r) = (S2 * C2 * (R2 * R2)) * (R0 * R1 * z * r) * (R0 * R1 * z * r) := congrArg (fun a => a * (R0 * R1 * z * r) * (R0 * R1 * z * r)) v2
        rw [w0, w1, w2]; grind
      rw [fin, key, Int.mul_zero]
end Go.Proofs.Ytpjgcjkodmkemaa.Aid
