/- Plain lemmas: from some number of rounds on (Ev), the wrap of int, lists read by an Int; no program in sight. -/
import Derived.Test.YtpjgcjkodmkemaaV
namespace Go.Proofs.Ytpjgcjkodmkemaa.Aid
open Go.RowKit Go.Proofs.YtpjgcjkodmkemaaW.PrintWords Go.Proofs.YtpjgcjkodmkemaaW.PrintLast Go.Proofs.YtpjgcjkodmkemaaW.PrintMore
theorem w64 {a : Int} (h0 : -9223372036854775808 ≤ a) (h1 : a ≤ 9223372036854775807) : wrap64 a = a := by
  unfold wrap64; omega
theorem w64s {i : Nat} (h : i < 4611686018427387904) : wrap64 ((i : Int) + 1) = ((i + 1 : Nat) : Int) := by
  rw [w64 (by omega) (by omega)]; rfl
section
variable {α β : Type}
theorem Ev.pos {c : Prop} [Decidable c] {f g : Nat → Option α} {r : α} (h : c) (k : Ev f r) : Ev (fun n => if c then f n else g n) r := by
  obtain ⟨K, k⟩ := k
  exact ⟨K, fun n hn => by simp only [if_pos h]; exact k n hn⟩
theorem Ev.neg {c : Prop} [Decidable c] {f g : Nat → Option α} {r : α} (h : ¬ c) (k : Ev g r) : Ev (fun n => if c then f n else g n) r := by
  obtain ⟨K, k⟩ := k
  exact ⟨K, fun n hn => by simp only [if_neg h]; exact k n hn⟩
theorem Ev.bind0 {o : Option α} {f : Nat → α → Option β} {a : α} {r : β} (h : o = some a) (k : Ev (fun n => f n a) r) : Ev (fun n => o.bind (f n)) r := by
  subst h; exact k
theorem Ev.val {o : Option α} {r : α} (h : o = some r) : Ev (fun _ => o) r := ⟨0, fun _ _ => h⟩
theorem Ev.nows {a r : α} (h : a = r) : Ev (fun _ => some a) r := ⟨0, fun _ _ => by rw [h]⟩
theorem Ev.to {g : Nat → Option α} {r s : α} (k : Ev g r) (h : r = s) : Ev g s := h ▸ k
theorem Ev.uniq {g : Nat → Option α} {r s : α} (h : Ev g r) (k : Ev g s) : r = s := by
  obtain ⟨K, h⟩ := h
  obtain ⟨L, k⟩ := k
  have a := h (max K L) (by omega)
  have b := k (max K L) (by omega)
  rw [a] at b
  exact Option.some.inj b
end
theorem rd_at (xs : List Int) (i : Nat) : rd xs (i : Int) = xs.getD i 0 := by simp [rd]
theorem rd_mem {xs : List Int} {i : Nat} (h : i < xs.length) : rd xs (i : Int) ∈ xs := by
  rw [rd_at, List.getD_eq_getElem?_getD, List.getElem?_eq_getElem h]; exact List.getElem_mem h
theorem drop_rd {xs : List Int} {i : Nat} (h : i < xs.length) : xs.drop i = rd xs (i : Int) :: xs.drop (i + 1) := by
  rw [rd_at, List.drop_eq_getElem_cons h, List.getD_eq_getElem?_getD, List.getElem?_eq_getElem h]; rfl
def gcdL (g : Nat) (xs : List Int) : Nat := xs.foldl (fun g x => Nat.gcd g x.natAbs) g
theorem mx_abs {x : Int} (h : -9223372036854775807 ≤ x) (h1 : x ≤ 9223372036854775807) : mx x (wrap64 (-x)) = (x.natAbs : Int) := by
  rw [w64 (by omega) (by omega)]; unfold mx; split <;> omega
theorem xor_i64 (a b : Nat) (ha : a < 9223372036854775808) (hb : b < 9223372036854775808) : bits .xor .i64 (a : Int) (b : Int) = ((a ^^^ b : Nat) : Int) := by
  have hx : a ^^^ b < 2 ^ 63 := Nat.xor_lt_two_pow (by omega) (by omega)
  have h1 : (BitVec.ofInt 64 (a : Int)).toNat = a := by
    rw [BitVec.ofInt_natCast, BitVec.toNat_ofNat]; exact Nat.mod_eq_of_lt (by omega)
  have h2 : (BitVec.ofInt 64 (b : Int)).toNat = b := by
    rw [BitVec.ofInt_natCast, BitVec.toNat_ofNat]; exact Nat.mod_eq_of_lt (by omega)
  show IntKind.i64.wrap ((BitVec.ofInt 64 (a : Int) ^^^ BitVec.ofInt 64 (b : Int)).toNat : Int) = _
  rw [BitVec.toNat_xor, h1, h2, i64_w]
  exact w64 (by omega) (by omega)
def IsCode (s : List Int) : Prop := s.length ≤ 2000 ∧ ∀ x ∈ s, 0 ≤ x ∧ x ≤ 255
def mixed (s : List Int) (p : Nat) : Nat :=
  (s.getD (p % s.length) 0).toNat * 131 + (s.getD ((p * 7 + 3) % s.length) 0).toNat * 1117 + p * 29 + p / s.length * 53
def pickv (s : List Int) (p n : Nat) : Nat :=
  if s.length = 0 then 0 else if p < s.length then (s.getD p 0).toNat % n else (mixed s p ^^^ mixed s p / 64) % n
theorem pickv_lt (s : List Int) (p : Nat) {n : Nat} (h : 1 ≤ n) : pickv s p n < n := by
  unfold pickv
  split
  · omega
  · split <;> exact Nat.mod_lt _ (by omega)
theorem code_at {s : List Int} (hs : IsCode s) (i : Nat) : 0 ≤ s.getD i 0 ∧ s.getD i 0 ≤ 255 := by
  rcases Nat.lt_or_ge i s.length with h | h
  · rw [List.getD_eq_getElem?_getD, List.getElem?_eq_getElem h]; exact hs.2 _ (List.getElem_mem h)
  · rw [List.getD_eq_getElem?_getD, List.getElem?_eq_none h]; simp
theorem mixed_le {s : List Int} (hs : IsCode s) (p : Nat) : mixed s p ≤ 318240 + p * 82 := by
  have h1 := code_at hs (p % s.length)
  have h2 := code_at hs ((p * 7 + 3) % s.length)
  have h3 : p / s.length ≤ p := Nat.div_le_self _ _
  unfold mixed; omega
theorem mixed_int {s : List Int} (hs : IsCode s) (p : Nat) : ((mixed s p : Nat) : Int) = s.getD (p % s.length) 0 * 131 + s.getD ((p * 7 + 3) % s.length) 0 * 1117 + (p : Int) * 29 + ((p / s.length : Nat) : Int) * 53 := by
  have h1 := code_at hs (p % s.length)
  have h2 := code_at hs ((p * 7 + 3) % s.length)
  unfold mixed
  generalize s.getD (p % s.length) 0 = x at *
  generalize s.getD ((p * 7 + 3) % s.length) 0 = y at *
  generalize p / s.length = q at *
  omega
theorem mix_wrap (x y p q : Int) (hx : 0 ≤ x) (hx1 : x ≤ 255) (hy : 0 ≤ y) (hy1 : y ≤ 255) (hp : 0 ≤ p) (hp1 : p ≤ 20000000000000000) (hq : 0 ≤ q) (hq1 : q ≤ p) :
    wrap64 ((wrap64 ((wrap64 ((wrap64 ((wrap64 x) * 131)) + (wrap64 ((wrap64 y) * 1117)))) + (wrap64 (p * 29)))) + (wrap64 (q * 53))) = x * 131 + y * 1117 + p * 29 + q * 53 := by
  rw [w64 (a := x) (by omega) (by omega), w64 (a := y) (by omega) (by omega), w64 (a := x * 131) (by omega) (by omega), w64 (a := y * 1117) (by omega) (by omega)]
  rw [w64 (a := p * 29) (by omega) (by omega), w64 (a := q * 53) (by omega) (by omega)]
  rw [w64 (a := x * 131 + y * 1117) (by omega) (by omega), w64 (a := x * 131 + y * 1117 + p * 29) (by omega) (by omega)]
  exact w64 (by omega) (by omega)
end Go.Proofs.Ytpjgcjkodmkemaa.Aid
namespace Go.Proofs.Ytpjgcjkodmkemaa
theorem PrintWords.sized_ints : type_of% @Go.Proofs.YtpjgcjkodmkemaaW.PrintWords.sized_ints := @Go.Proofs.YtpjgcjkodmkemaaW.PrintWords.sized_ints
end Go.Proofs.Ytpjgcjkodmkemaa
