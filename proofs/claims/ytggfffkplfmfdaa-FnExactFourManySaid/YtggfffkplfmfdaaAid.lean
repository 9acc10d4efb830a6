/- Plain lemmas: from some number of rounds on (Ev), the wrap of int, lists read by an Int; no program in sight. -/
import Derived.Test.YtggfffkplfmfdaaWWords
import Derived.Test.YtggfffkplfmfdaaWLast
import Derived.Test.YtggfffkplfmfdaaWMore
import Derived.Test.YtggfffkplfmfdaaWSized
namespace Go.Proofs.Ytggfffkplfmfdaa.Aid
open Go.RowKit Go.Proofs.YtggfffkplfmfdaaW.PrintWords Go.Proofs.YtggfffkplfmfdaaW.PrintLast Go.Proofs.YtggfffkplfmfdaaW.PrintMore

theorem wf_lo {a : Int} (h : (Lit.int .i64 a).wf = true) : -9223372036854775808 ≤ a := by
  simp [Lit.wf, IntKind.min, IntKind.max, IntKind.signed, IntKind.bits] at h; omega
theorem wf_hi {a : Int} (h : (Lit.int .i64 a).wf = true) : a ≤ 9223372036854775807 := by
  simp [Lit.wf, IntKind.min, IntKind.max, IntKind.signed, IntKind.bits] at h; omega
theorem w64 {a : Int} (h0 : -9223372036854775808 ≤ a) (h1 : a ≤ 9223372036854775807) : wrap64 a = a := by
  unfold wrap64; omega
theorem w64b (a : Int) : -9223372036854775808 ≤ wrap64 a ∧ wrap64 a ≤ 9223372036854775807 := by
  unfold wrap64; omega
theorem w64s {i : Nat} (h : i < 4611686018427387904) : wrap64 ((i : Int) + 1) = ((i + 1 : Nat) : Int) := by
  rw [w64 (by omega) (by omega)]; rfl

section
variable {α β : Type}
theorem Ev.pos {c : Prop} [Decidable c] {f g : Nat → Option α} {r : α} (h : c) (k : Ev f r) : Ev (fun n => if c then f n else g n) r := by
  obtain ⟨K, k⟩ := k
  exact ⟨K, fun n hn => by simp only [if_pos h]; exact k n hn⟩
theorem Ev.neg {c : Prop} [Decidable c] {f g : Nat → Option α} {r : α} (h : ¬ c) (k : Ev g r) : Ev (fun n => if c then f n else g n) r := by
  obtain ⟨K, k⟩ := k
  exact ⟨K, fun n hn => by simp only [if_neg h]; exact k n hn⟩
theorem Ev.bind0 {o : Option α} {f : Nat → α → Option β} {a : α} {r : β} (h : o = some a) (k : Ev (fun n => f n a) r) : Ev (fun n => o.bind (f n)) r := by
  subst h; exact k
theorem Ev.val {o : Option α} {r : α} (h : o = some r) : Ev (fun _ => o) r := ⟨0, fun _ _ => h⟩
theorem Ev.nows {a r : α} (h : a = r) : Ev (fun _ => some a) r := ⟨0, fun _ _ => by rw [h]⟩
theorem Ev.to {g : Nat → Option α} {r s : α} (k : Ev g r) (h : r = s) : Ev g s := h ▸ k
theorem Ev.uniq {g : Nat → Option α} {r s : α} (h : Ev g r) (k : Ev g s) : r = s := by
  obtain ⟨K, h⟩ := h
  obtain ⟨L, k⟩ := k
  have a := h (max K L) (by omega)
  have b := k (max K L) (by omega)
  rw [a] at b
  exact Option.some.inj b
end
theorem rd_at (xs : List Int) (i : Nat) : rd xs (i : Int) = xs.getD i 0 := by simp [rd]
theorem rd_mem {xs : List Int} {i : Nat} (h : i < xs.length) : rd xs (i : Int) ∈ xs := by
  rw [rd_at, List.getD_eq_getElem?_getD, List.getElem?_eq_getElem h]; exact List.getElem_mem h
theorem drop_rd {xs : List Int} {i : Nat} (h : i < xs.length) : xs.drop i = rd xs (i : Int) :: xs.drop (i + 1) := by
  rw [rd_at, List.drop_eq_getElem_cons h, List.getD_eq_getElem?_getD, List.getElem?_eq_getElem h]; rfl
/-- The greatest integer that divides a number and all of a list. -/
def gcdL (g : Nat) (xs : List Int) : Nat := xs.foldl (fun g x => Nat.gcd g x.natAbs) g
theorem mx_abs {x : Int} (h : -9223372036854775807 ≤ x) (h1 : x ≤ 9223372036854775807) : mx x (wrap64 (-x)) = (x.natAbs : Int) := by
  rw [w64 (by omega) (by omega)]; unfold mx; split <;> omega
end Go.Proofs.Ytggfffkplfmfdaa.Aid
namespace Go.Proofs.Ytggfffkplfmfdaa
/-- The word of WSized once more, under the name by which a row over slices calls it. -/
theorem PrintWords.sized_ints : type_of% @Go.Proofs.YtggfffkplfmfdaaW.PrintWords.sized_ints := @Go.Proofs.YtggfffkplfmfdaaW.PrintWords.sized_ints
end Go.Proofs.Ytggfffkplfmfdaa
