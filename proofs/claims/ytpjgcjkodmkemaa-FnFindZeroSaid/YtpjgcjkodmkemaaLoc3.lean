/- Plain words on forms at the place 2. No program in sight. -/
import Derived.Test.YtpjgcjkodmkemaaLoc2
namespace Go.Proofs.Ytpjgcjkodmkemaa.Aid
open Go.RowKit Go.Proofs.YtpjgcjkodmkemaaW.PrintWords Go.Proofs.YtpjgcjkodmkemaaW.PrintLast Go.Proofs.YtpjgcjkodmkemaaW.PrintMore
def CT (n : Int) (T : Nat) : Prop := ∃ k u, IsVU 2 n k u ∧ T = (if k % 2 = 1 then 2 else 1) * rOf 8 u
def e2 (T : Nat) : Nat := if T % 2 = 0 then 1 else 0
def x2 (T : Nat) : Nat := if T % 2 = 0 then T / 2 else T
def sym2 (T S : Nat) : Bool := ((x2 T - 1) / 2 * ((x2 S - 1) / 2) + e2 T * ((x2 S * x2 S - 1) / 8) + e2 S * ((x2 T * x2 T - 1) / 8)) % 2 == 1
def mul2 (T S : Nat) : Nat := (if (e2 T + e2 S) % 2 = 1 then 2 else 1) * (x2 T * x2 S % 8)
def van2 : List Nat → Bool
  | [a, b] => mul2 7 (mul2 a b) == 1
  | [a, b, c] => xor (xor (sym2 b a) (sym2 c a)) (sym2 c b) == sym2 7 (mul2 7 (mul2 (mul2 a b) c))
  | [a, b, c, d] => !(mul2 (mul2 (mul2 a b) c) d == 1) || (xor (xor (xor (xor (xor (sym2 b a) (sym2 c a)) (sym2 c b)) (sym2 d a)) (sym2 d b)) (sym2 d c) == sym2 7 7)
  | _ => false
def C8 : List Nat := [1, 3, 5, 7, 2, 6, 10, 14]
def Q3 : List Nat := [0, 1, 4]
def zero2 (L : List (Nat × Nat)) : Bool :=
  (L.any (fun q => q.1 % 2 == 1 && q.2 == 1) && (L.map (fun q => q.1 * q.2)).sum % 8 == 0) ||
  (L.all (fun q => q.1 % 2 == 0 || q.2 != 1) && (L.any (fun q => q.1 % 2 == 0 && q.2 == 1) && (L.map (fun q => q.1 * q.2)).sum % 16 == 0))
def chk2 : Bool := C8.all fun a => C8.all fun b => van2 [a, b] || Q3.all fun x => Q3.all fun y => !zero2 [(a, x), (b, y)]
def chk3 : Bool := C8.all fun a => C8.all fun b => C8.all fun c => van2 [a, b, c] || Q3.all fun x => Q3.all fun y => Q3.all fun z => !zero2 [(a, x), (b, y), (c, z)]
def chk4 : Bool := C8.all fun a => C8.all fun b => C8.all fun c => C8.all fun d => van2 [a, b, c, d] || Q3.all fun x => Q3.all fun y => Q3.all fun z => Q3.all fun w => !zero2 [(a, x), (b, y), (c, z), (d, w)]
theorem chk2_true : chk2 = true := by decide +kernel
theorem chk3_true : chk3 = true := by decide +kernel
theorem chk4_true : chk4 = true := by decide +kernel
theorem rOf8 {u : Int} (h : ¬ (2 : Int) ∣ u) : (rOf 8 u : Int) = u % 8 ∧ (rOf 8 u = 1 ∨ rOf 8 u = 3 ∨ rOf 8 u = 5 ∨ rOf 8 u = 7) := by
  unfold rOf
  rw [Int.dvd_iff_emod_eq_zero] at h
  omega
theorem ct_mem {n : Int} {T : Nat} (h : CT n T) : T ∈ C8 := by
  obtain ⟨k, u, h1, rfl⟩ := h
  rcases (rOf8 h1.2).2 with h | h | h | h <;> rw [h] <;> split <;> decide
theorem ct_one {n : Int} {T S : Nat} (h : CT n T) (h' : CT n S) : T = S := by
  obtain ⟨k, u, h1, rfl⟩ := h
  obtain ⟨l, v, h2, rfl⟩ := h'
  obtain ⟨rfl, rfl⟩ := vu_one (by omega) h1 h2
  rfl
theorem ct_ex {n : Int} (h : n ≠ 0) : ∃ T, CT n T := by
  obtain ⟨k, u, h1, _⟩ := vu_ex (p := 2) (by omega) n.natAbs n (Nat.le_refl _) h
  exact ⟨_, k, u, h1, rfl⟩
theorem ct_parts {k : Nat} {u : Int} (h : ¬ (2 : Int) ∣ u) : e2 ((if k % 2 = 1 then 2 else 1) * rOf 8 u) = k % 2 ∧ x2 ((if k % 2 = 1 then 2 else 1) * rOf 8 u) = rOf 8 u := by
  unfold e2 x2
  rcases (rOf8 h).2 with e | e | e | e <;> rw [e] <;> rcases Nat.mod_two_eq_zero_or_one k with a | a <;> rw [a] <;> decide
theorem r8_mul (u v : Int) : rOf 8 (u * v) = rOf 8 u * rOf 8 v % 8 := r_mul (by omega) u v
theorem ct_mul {a b : Int} {T S : Nat} (h : CT a T) (h' : CT b S) : CT (a * b) (mul2 T S) := by
  obtain ⟨k, u, h1, rfl⟩ := h
  obtain ⟨l, v, h3, rfl⟩ := h'
  have p1 := ct_parts (k := k) h1.2
  have p2 := ct_parts (k := l) h3.2
  refine ⟨k + l, u * v, ⟨?_, ?_⟩, ?_⟩
  · rw [h1.1, h3.1, Int.pow_add]; grind
  · have a1 := (rOf8 h1.2).1
    have a2 := (rOf8 h3.2).1
    have b1 := h1.2
    have b2 := h3.2
    rw [Int.dvd_iff_emod_eq_zero] at b1 b2 ⊢
    rw [Int.mul_emod]
    rcases (by omega : u % 2 = 1) with c1
    rcases (by omega : v % 2 = 1) with c2
    show (u % 2) * (v % 2) % 2 ≠ 0
    rw [c1, c2]; decide
  · unfold mul2
    rw [p1.1, p1.2, p2.1, p2.2, r8_mul]
    rw [show (k % 2 + l % 2) % 2 = (k + l) % 2 by omega]
def sqV (V : Int) : Nat := if V % 2 = 0 then (if V % 4 = 0 then 0 else 4) else 1
theorem sqV_mem (V : Int) : sqV V ∈ Q3 := by unfold sqV; split <;> (try split) <;> decide
theorem sqV_odd {V : Int} (h : V % 2 ≠ 0) : ∃ m : Int, V * V = 8 * m + 1 := by
  obtain ⟨q, hq⟩ : ∃ q : Int, V = 2 * q + 1 := ⟨V / 2, by omega⟩
  rcases (by omega : q % 2 = 0 ∨ q % 2 = 1) with k | k
  · obtain ⟨s, hs⟩ : ∃ s : Int, q = 2 * s := ⟨q / 2, by omega⟩
    exact ⟨2 * s * s + s, by rw [hq, hs]; grind⟩
  · obtain ⟨s, hs⟩ : ∃ s : Int, q = 2 * s + 1 := ⟨q / 2, by omega⟩
    exact ⟨2 * s * s + 3 * s + 1, by rw [hq, hs]; grind⟩
theorem sqV_even {V : Int} (h : V % 2 = 0) : ∃ m : Int, ∃ s : Nat, V * V = 16 * m + 4 * s ∧ sqV V = 4 * s := by
  obtain ⟨q, hq⟩ : ∃ q : Int, V = 2 * q := ⟨V / 2, by omega⟩
  by_cases k : V % 4 = 0
  · obtain ⟨s, hs⟩ : ∃ s : Int, q = 2 * s := ⟨q / 2, by omega⟩
    exact ⟨s * s, 0, by rw [hq, hs]; grind, by unfold sqV; rw [if_pos h, if_pos k]⟩
  · obtain ⟨s, hs⟩ : ∃ s : Int, q = 2 * s + 1 := ⟨q / 2, by omega⟩
    exact ⟨s * s + s, 1, by rw [hq, hs]; grind, by unfold sqV; rw [if_pos h, if_neg k]⟩
end Go.Proofs.Ytpjgcjkodmkemaa.Aid
