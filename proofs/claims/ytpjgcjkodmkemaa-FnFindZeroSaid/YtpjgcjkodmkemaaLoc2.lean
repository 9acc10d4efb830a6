/- Plain words on forms at a place: what vanishing is, told by classes; a zero makes a form vanish. No program in sight. -/
import Derived.Test.YtpjgcjkodmkemaaLoc
namespace Go.Proofs.Ytpjgcjkodmkemaa.Aid
open Go.RowKit Go.Proofs.YtpjgcjkodmkemaaW.PrintWords Go.Proofs.YtpjgcjkodmkemaaW.PrintLast Go.Proofs.YtpjgcjkodmkemaaW.PrintMore
def symB (e : Bool) (c d : Bool × Bool) : Bool := xor (e && (c.1 && d.1)) (xor (c.2 && d.1) (d.2 && c.1))
def vanB (e : Bool) : List (Bool × Bool) → Bool
  | [a, b] => !(xor false (xor a.1 b.1)) && !(xor e (xor a.2 b.2))
  | [a, b, c] => xor (xor (symB e b a) (symB e c a)) (symB e c b) == symB e (false, e) (xor false (xor (xor a.1 b.1) c.1), xor e (xor (xor a.2 b.2) c.2))
  | [a, b, c, d] => !(!(xor (xor (xor a.1 b.1) c.1) d.1) && !(xor (xor (xor a.2 b.2) c.2) d.2)) || (xor (xor (xor (xor (xor (symB e b a) (symB e c a)) (symB e c b)) (symB e d a)) (symB e d b)) (symB e d c) == symB e (false, e) (false, e))
  | _ => false
theorem sub2_cons {x y a : Int} {l : List Int} (h : [x, y].Sublist (a :: l)) : (x = a ∧ y ∈ l) ∨ [x, y].Sublist l := by
  cases h with
  | cons _ h => exact .inr h
  | cons_cons _ h => exact .inl ⟨rfl, h.subset (by simp)⟩
theorem sub3_cons {x y z a : Int} {l : List Int} (h : [x, y, z].Sublist (a :: l)) : (x = a ∧ [y, z].Sublist l) ∨ [x, y, z].Sublist l := by
  cases h with
  | cons _ h => exact .inr h
  | cons_cons _ h => exact .inl ⟨rfl, h⟩
theorem sub2_two {x y a b : Int} (h : [x, y].Sublist [a, b]) : x = a ∧ y = b := by
  rcases sub2_cons h with ⟨h1, h2⟩ | h
  · exact ⟨h1, by simpa using h2⟩
  · have := h.length_le; simp at this
theorem sub2_three {x y a b c : Int} (h : [x, y].Sublist [a, b, c]) : (x = a ∧ y = b) ∨ (x = a ∧ y = c) ∨ (x = b ∧ y = c) := by
  rcases sub2_cons h with ⟨h1, h2⟩ | h
  · rcases List.mem_cons.1 h2 with h2 | h2
    · exact .inl ⟨h1, h2⟩
    · exact .inr (.inl ⟨h1, by simpa using h2⟩)
  · exact .inr (.inr (sub2_two h))
theorem sub2_four {x y a b c d : Int} (h : [x, y].Sublist [a, b, c, d]) : (x = a ∧ y = b) ∨ (x = a ∧ y = c) ∨ (x = a ∧ y = d) ∨ (x = b ∧ y = c) ∨ (x = b ∧ y = d) ∨ (x = c ∧ y = d) := by
  rcases sub2_cons h with ⟨h1, h2⟩ | h
  · simp only [List.mem_cons, List.not_mem_nil, or_false] at h2
    rcases h2 with h2 | h2 | h2
    · exact .inl ⟨h1, h2⟩
    · exact .inr (.inl ⟨h1, h2⟩)
    · exact .inr (.inr (.inl ⟨h1, h2⟩))
  · rcases sub2_three h with h | h | h
    · exact .inr (.inr (.inr (.inl h)))
    · exact .inr (.inr (.inr (.inr (.inl h))))
    · exact .inr (.inr (.inr (.inr (.inr h))))
theorem sub3_three {x y z a b c : Int} (h : [x, y, z].Sublist [a, b, c]) : x = a ∧ y = b ∧ z = c := by
  rcases sub3_cons h with ⟨h1, h2⟩ | h
  · exact ⟨h1, sub2_two h2⟩
  · have := h.length_le; simp at this
theorem sub3_four {x y z a b c d : Int} (h : [x, y, z].Sublist [a, b, c, d]) : (x = a ∧ y = b ∧ z = c) ∨ (x = a ∧ y = b ∧ z = d) ∨ (x = a ∧ y = c ∧ z = d) ∨ (x = b ∧ y = c ∧ z = d) := by
  rcases sub3_cons h with ⟨h1, h2⟩ | h
  · rcases sub2_three h2 with h | h | h
    · exact .inl ⟨h1, h⟩
    · exact .inr (.inl ⟨h1, h⟩)
    · exact .inr (.inr (.inl ⟨h1, h⟩))
  · exact .inr (.inr (.inr (sub3_three h)))
def plane (e : Bool) (c d : Bool × Bool) : Bool := c.1 == d.1 && d.2 == xor e c.2
theorem van_two : ∀ (e a1 a2 b1 b2 : Bool), plane e (a1, a2) (b1, b2) = true → vanB e [(a1, a2), (b1, b2)] = true := by decide
theorem van_three : ∀ (e a1 a2 b1 b2 c1 c2 : Bool), (plane e (a1, a2) (b1, b2) || (plane e (a1, a2) (c1, c2) || (plane e (b1, b2) (c1, c2) || (a1 == b1 && b1 == c1)))) = true → vanB e [(a1, a2), (b1, b2), (c1, c2)] = true := by decide +kernel
theorem van_four : ∀ (e a1 a2 b1 b2 c1 c2 d1 d2 : Bool), (plane e (a1, a2) (b1, b2) || (plane e (a1, a2) (c1, c2) || (plane e (a1, a2) (d1, d2) || (plane e (b1, b2) (c1, c2) || (plane e (b1, b2) (d1, d2) || (plane e (c1, c2) (d1, d2) || ((a1 == b1 && b1 == c1) || ((a1 == b1 && b1 == d1) || ((a1 == c1 && c1 == d1) || (b1 == c1 && c1 == d1)))))))))) = true → vanB e [(a1, a2), (b1, b2), (c1, c2), (d1, d2)] = true := by decide +kernel
theorem plane_of {e : Bool} {c d : Bool × Bool} (h : c.1 = d.1 ∧ d.2 = xor e c.2) : plane e c d = true := by
  unfold plane; rw [Bool.and_eq_true, beq_iff_eq, beq_iff_eq]; exact h
theorem odd_two {p : Nat} (hp : p ∈ OP) {a b : Int} {v : List Int} (hl : v.length = 2) (hf : ∀ x ∈ [a, b], x ≠ 0) (h0 : dot3 [a, b] v v = 0) (hv : ∃ x ∈ v, x ≠ 0) {c d : Bool × Bool} (hc : CL p a c) (hd : CL p b d) : vanB ((p - 1) / 2 % 2 == 1) [c, d] = true := by
  rcases zero_odd hp hl hf h0 hv with ⟨x, y, hs, h⟩ | ⟨x, y, z, hs, h⟩
  · obtain ⟨rfl, rfl⟩ := sub2_two hs
    exact van_two _ c.1 c.2 d.1 d.2 (plane_of (h c d hc hd))
  · have := hs.length_le; simp at this
theorem odd_three {p : Nat} (hp : p ∈ OP) {a b t : Int} {v : List Int} (hl : v.length = 3) (hf : ∀ x ∈ [a, b, t], x ≠ 0) (h0 : dot3 [a, b, t] v v = 0) (hv : ∃ x ∈ v, x ≠ 0) {c d e : Bool × Bool} (hc : CL p a c) (hd : CL p b d) (he : CL p t e) : vanB ((p - 1) / 2 % 2 == 1) [c, d, e] = true := by
  refine van_three _ c.1 c.2 d.1 d.2 e.1 e.2 ?_
  simp only [Bool.or_eq_true, Bool.and_eq_true, beq_iff_eq]
  rcases zero_odd hp hl hf h0 hv with ⟨x, y, hs, h⟩ | ⟨x, y, z, hs, h⟩
  · rcases sub2_three hs with ⟨rfl, rfl⟩ | ⟨rfl, rfl⟩ | ⟨rfl, rfl⟩
    · exact .inl (plane_of (h _ _ hc hd))
    · exact .inr (.inl (plane_of (h _ _ hc he)))
    · exact .inr (.inr (.inl (plane_of (h _ _ hd he))))
  · obtain ⟨rfl, rfl, rfl⟩ := sub3_three hs
    exact .inr (.inr (.inr (h _ _ _ hc hd he)))
theorem odd_four {p : Nat} (hp : p ∈ OP) {a b t s : Int} {v : List Int} (hl : v.length = 4) (hf : ∀ x ∈ [a, b, t, s], x ≠ 0) (h0 : dot3 [a, b, t, s] v v = 0) (hv : ∃ x ∈ v, x ≠ 0) {c d e g : Bool × Bool} (hc : CL p a c) (hd : CL p b d) (he : CL p t e) (hg : CL p s g) : vanB ((p - 1) / 2 % 2 == 1) [c, d, e, g] = true := by
  refine van_four _ c.1 c.2 d.1 d.2 e.1 e.2 g.1 g.2 ?_
  simp only [Bool.or_eq_true, Bool.and_eq_true, beq_iff_eq]
  rcases zero_odd hp hl hf h0 hv with ⟨x, y, hs, h⟩ | ⟨x, y, z, hs, h⟩
  · rcases sub2_four hs with ⟨rfl, rfl⟩ | ⟨rfl, rfl⟩ | ⟨rfl, rfl⟩ | ⟨rfl, rfl⟩ | ⟨rfl, rfl⟩ | ⟨rfl, rfl⟩
    · exact .inl (plane_of (h _ _ hc hd))
    · exact .inr (.inl (plane_of (h _ _ hc he)))
    · exact .inr (.inr (.inl (plane_of (h _ _ hc hg))))
    · exact .inr (.inr (.inr (.inl (plane_of (h _ _ hd he)))))
    · exact .inr (.inr (.inr (.inr (.inl (plane_of (h _ _ hd hg))))))
    · exact .inr (.inr (.inr (.inr (.inr (.inl (plane_of (h _ _ he hg)))))))
  · rcases sub3_four hs with ⟨rfl, rfl, rfl⟩ | ⟨rfl, rfl, rfl⟩ | ⟨rfl, rfl, rfl⟩ | ⟨rfl, rfl, rfl⟩
    · exact .inr (.inr (.inr (.inr (.inr (.inr (.inl (h _ _ _ hc hd he)))))))
    · exact .inr (.inr (.inr (.inr (.inr (.inr (.inr (.inl (h _ _ _ hc hd hg))))))))
    · exact .inr (.inr (.inr (.inr (.inr (.inr (.inr (.inr (.inl (h _ _ _ hc he hg)))))))))
    · exact .inr (.inr (.inr (.inr (.inr (.inr (.inr (.inr (.inr (h _ _ _ hd he hg)))))))))
end Go.Proofs.Ytpjgcjkodmkemaa.Aid
