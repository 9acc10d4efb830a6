import Derived.Test.YtpjgcjkodmkemaaPFnFindZerox0
import Derived.Test.YtpjgcjkodmkemaaPFnFindZerox1
import Derived.Test.YtpjgcjkodmkemaaPFnFindZerox4
namespace Go.Proofs.Ytpjgcjkodmkemaa.PFnFindZero
open Go.RowKit Go.Proofs.YtpjgcjkodmkemaaW.PrintWords Go.Proofs.YtpjgcjkodmkemaaW.PrintLast Go.Proofs.YtpjgcjkodmkemaaW.PrintMore
attribute [local go_sem] max2_int min2_int max_two min_two max_three min_three max_four min_four   -- for this text's walks alone
set_option linter.unusedVariables false
set_option linter.unusedSimpArgs false

/-! ### impl_symbol: function 59 -/
def impl_symbol.f (k : Nat) (a0 : Int) (a1 : Int) (a2 : Int) : Option (Int) := if a2 = 0 then (if a0 < 0 then (if a1 < 0 then (some (-1)) else (some 1)) else (some 1)) else ((impl_split.f k a0 a2).bind fun bt162 => ((impl_split.f k a1 a2).bind fun bt164 => (if a2 = 2 then ((impl_rest.f bt162.2 8).bind fun t166 => ((impl_rest.f bt164.2 8).bind fun t167 => ((impl_power.f k (-1) (Int.tmod (wrap64 ((wrap64 ((wrap64 ((wrap64 (Int.tdiv (wrap64 (t166 - 1)) 2)) * (wrap64 (Int.tdiv (wrap64 (t167 - 1)) 2)))) + (wrap64 (Int.tdiv (wrap64 (bt162.1 * (wrap64 ((wrap64 (t167 * t167)) - 1)))) 8)))) + (wrap64 (Int.tdiv (wrap64 (bt164.1 * (wrap64 ((wrap64 (t166 * t166)) - 1)))) 8)))) 2)).bind fun t168 => (some t168)))) else ((impl_power.f k (-1) (Int.tmod (wrap64 (Int.tdiv (wrap64 ((wrap64 (bt162.1 * bt164.1)) * (wrap64 (a2 - 1)))) 2)) 2)).bind fun t169 => ((impl_residue.f k bt162.2 a2).bind fun t170 => ((impl_power.f k t170 (Int.tmod bt164.1 2)).bind fun t171 => ((impl_residue.f k bt164.2 a2).bind fun t172 => ((impl_power.f k t172 (Int.tmod bt162.1 2)).bind fun t173 => (some (wrap64 ((wrap64 (t169 * t171)) * t173)))))))))))
theorem impl_symbol.mono : ∀ a0 a1 a2 k, LeO (impl_symbol.f k a0 a1 a2) (impl_symbol.f (k + 1) a0 a1 a2) := by
  intro a0 a1 a2 k
  unfold impl_symbol.f
  with_reducible repeat' first | exact impl_power.mono _ _ _ | exact impl_residue.mono _ _ _ | exact impl_split.mono _ _ _ | exact LeO.refl _ | exact LeO.none _ | refine LeO.ite ?_ ?_ | refine LeO.bind ?_ (fun _ => ?_)
set_option maxHeartbeats 8000000 in
set_option maxRecDepth 100000 in
theorem impl_symbol.calls (k : Nat) (a0 : Int) (a1 : Int) (a2 : Int) (r : Int) (w : World) (h : impl_symbol.f k a0 a1 a2 = some r) :
    Calls Try.prog 59 #[.int .i64 a0, .int .i64 a1, .int .i64 a2] w fun e w' => e = .returned (.int .i64 r) ∧ Drawn0 w w' := by
  unfold impl_symbol.f at h; have H := h; clear h
  by_cases c4 : a2 = 0
  · rw [if_pos c4] at H
    have c4b0 : (a2 == 0) = true := beq_iff_eq.mpr c4; have c4b1 : (a2 != 0) = false := bne_eq_false_iff_eq.mpr c4; clear c4
    by_cases c5 : a0 < 0
    · rw [if_pos c5] at H
      have c5b0 : decide (a0 < 0) = true := decide_eq_true c5; clear c5
      by_cases c6 : a1 < 0
      · rw [if_pos c6] at H
        have c6b0 : decide (a1 < 0) = true := decide_eq_true c6; clear c6; obtain rfl := Option.some.inj H; go_enter Try.func59, Try.ntmps59
        go_wp2
        go_ret
        exact ⟨by first | rfl | (simp; done) | (simp [*]; done), by repeat (first | exact Drawn0.refl _ | apply Drawn0.step)⟩
      rw [if_neg c6] at H; have c6b0 : decide (a1 < 0) = false := decide_eq_false c6; clear c6; obtain rfl := Option.some.inj H; go_enter Try.func59, Try.ntmps59
      go_wp2
      go_ret
      exact ⟨by first | rfl | (simp; done) | (simp [*]; done), by repeat (first | exact Drawn0.refl _ | apply Drawn0.step)⟩
    rw [if_neg c5] at H; have c5b0 : decide (a0 < 0) = false := decide_eq_false c5; clear c5; obtain rfl := Option.some.inj H; go_enter Try.func59, Try.ntmps59
    go_wp2
    go_ret
    exact ⟨by first | rfl | (simp; done) | (simp [*]; done), by repeat (first | exact Drawn0.refl _ | apply Drawn0.step)⟩
  rw [if_neg c4] at H; have c4b0 : (a2 == 0) = false := beq_eq_false_iff_ne.mpr c4; have c4b1 : (a2 != 0) = true := bne_iff_ne.mpr c4; obtain ⟨⟨t162, t163⟩, A7, H⟩ := bnd H
  replace H : ((impl_split.f k a1 a2).bind fun bt164 => (if a2 = 2 then ((impl_rest.f t163 8).bind fun t166 => ((impl_rest.f bt164.2 8).bind fun t167 => ((impl_power.f k (-1) (Int.tmod (wrap64 ((wrap64 ((wrap64 ((wrap64 (Int.tdiv (wrap64 (t166 - 1)) 2)) * (wrap64 (Int.tdiv (wrap64 (t167 - 1)) 2)))) + (wrap64 (Int.tdiv (wrap64 (t162 * (wrap64 ((wrap64 (t167 * t167)) - 1)))) 8)))) + (wrap64 (Int.tdiv (wrap64 (bt164.1 * (wrap64 ((wrap64 (t166 * t166)) - 1)))) 8)))) 2)).bind fun t168 => (some t168)))) else ((impl_power.f k (-1) (Int.tmod (wrap64 (Int.tdiv (wrap64 ((wrap64 (t162 * bt164.1)) * (wrap64 (a2 - 1)))) 2)) 2)).bind fun t169 => ((impl_residue.f k t163 a2).bind fun t170 => ((impl_power.f k t170 (Int.tmod bt164.1 2)).bind fun t171 => ((impl_residue.f k bt164.2 a2).bind fun t172 => ((impl_power.f k t172 (Int.tmod t162 2)).bind fun t173 => (some (wrap64 ((wrap64 (t169 * t171)) * t173)))))))))) = some r := H
  obtain ⟨⟨t164, t165⟩, A8, H⟩ := bnd H
  replace H : (if a2 = 2 then ((impl_rest.f t163 8).bind fun t166 => ((impl_rest.f t165 8).bind fun t167 => ((impl_power.f k (-1) (Int.tmod (wrap64 ((wrap64 ((wrap64 ((wrap64 (Int.tdiv (wrap64 (t166 - 1)) 2)) * (wrap64 (Int.tdiv (wrap64 (t167 - 1)) 2)))) + (wrap64 (Int.tdiv (wrap64 (t162 * (wrap64 ((wrap64 (t167 * t167)) - 1)))) 8)))) + (wrap64 (Int.tdiv (wrap64 (t164 * (wrap64 ((wrap64 (t166 * t166)) - 1)))) 8)))) 2)).bind fun t168 => (some t168)))) else ((impl_power.f k (-1) (Int.tmod (wrap64 (Int.tdiv (wrap64 ((wrap64 (t162 * t164)) * (wrap64 (a2 - 1)))) 2)) 2)).bind fun t169 => ((impl_residue.f k t163 a2).bind fun t170 => ((impl_power.f k t170 (Int.tmod t164 2)).bind fun t171 => ((impl_residue.f k t165 a2).bind fun t172 => ((impl_power.f k t172 (Int.tmod t162 2)).bind fun t173 => (some (wrap64 ((wrap64 (t169 * t171)) * t173))))))))) = some r := H
  by_cases c9 : a2 = 2
  · rw [if_pos c9] at H
    have c9b0 : (a2 == 2) = true := beq_iff_eq.mpr c9; have c9b1 : (a2 != 2) = false := bne_eq_false_iff_eq.mpr c9; clear c9; obtain ⟨t166, A10, H⟩ := bnd H; obtain ⟨t167, A11, H⟩ := bnd H; obtain ⟨t168, A12, H⟩ := bnd H; obtain rfl := Option.some.inj H; go_enter Try.func59, Try.ntmps59
    go_wp2_with (first | ((with_reducible refine gate_callee (f := 73) rfl ?_); refine goesK (some 24) Try.func73 #[.int .i64 a0, .int .i64 a2] ?_; (with_reducible refine (impl_split.calls k a0 a2 t162 t163 _ A7.out).mono ?_); rintro e w' ⟨rfl, ⟨nd, rfl⟩⟩; refine ⟨_, rfl, ?_⟩) | ((with_reducible refine gate_callee (f := 73) rfl ?_); refine goesK (some 30) Try.func73 #[.int .i64 a1, .int .i64 a2] ?_; (with_reducible refine (impl_split.calls k a1 a2 t164 t165 _ A8.out).mono ?_); rintro e w' ⟨rfl, ⟨nd, rfl⟩⟩; refine ⟨_, rfl, ?_⟩) | ((with_reducible refine gate_callee (f := 74) rfl ?_); refine goesK (some 59) Try.func74 #[.int .i64 t163, .int .i64 8] ?_; (with_reducible refine (impl_rest.calls t163 8 t166 _ A10.out).mono ?_); rintro e w' ⟨rfl, ⟨nd, rfl⟩⟩; refine ⟨_, rfl, ?_⟩) | ((with_reducible refine gate_callee (f := 74) rfl ?_); refine goesK (some 61) Try.func74 #[.int .i64 t165, .int .i64 8] ?_; (with_reducible refine (impl_rest.calls t165 8 t167 _ A11.out).mono ?_); rintro e w' ⟨rfl, ⟨nd, rfl⟩⟩; refine ⟨_, rfl, ?_⟩) | ((with_reducible refine gate_callee (f := 33) rfl ?_); refine goesK (some 86) Try.func33 #[.int .i64 (-1), .int .i64 (Int.tmod (wrap64 ((wrap64 ((wrap64 ((wrap64 (Int.tdiv (wrap64 (t166 - 1)) 2)) * (wrap64 (Int.tdiv (wrap64 (t167 - 1)) 2)))) + (wrap64 (Int.tdiv (wrap64 (t162 * (wrap64 ((wrap64 (t167 * t167)) - 1)))) 8)))) + (wrap64 (Int.tdiv (wrap64 (t164 * (wrap64 ((wrap64 (t166 * t166)) - 1)))) 8)))) 2)] ?_; (with_reducible refine (impl_power.calls k (-1) (Int.tmod (wrap64 ((wrap64 ((wrap64 ((wrap64 (Int.tdiv (wrap64 (t166 - 1)) 2)) * (wrap64 (Int.tdiv (wrap64 (t167 - 1)) 2)))) + (wrap64 (Int.tdiv (wrap64 (t162 * (wrap64 ((wrap64 (t167 * t167)) - 1)))) 8)))) + (wrap64 (Int.tdiv (wrap64 (t164 * (wrap64 ((wrap64 (t166 * t166)) - 1)))) 8)))) 2) t168 _ A12.out).mono ?_); rintro e w' ⟨rfl, ⟨nd, rfl⟩⟩; refine ⟨_, rfl, ?_⟩))
    go_ret
    exact ⟨by first | rfl | (simp; done) | (simp [*]; done), by repeat (first | exact Drawn0.refl _ | apply Drawn0.step)⟩
  rw [if_neg c9] at H; have c9b0 : (a2 == 2) = false := beq_eq_false_iff_ne.mpr c9; have c9b1 : (a2 != 2) = true := bne_iff_ne.mpr c9; obtain ⟨t169, A13, H⟩ := bnd H; obtain ⟨t170, A14, H⟩ := bnd H; obtain ⟨t171, A15, H⟩ := bnd H; obtain ⟨t172, A16, H⟩ := bnd H; obtain ⟨t173, A17, H⟩ := bnd H; obtain rfl := Option.some.inj H; go_enter Try.func59, Try.ntmps59
  go_wp2_with (first | ((with_reducible refine gate_callee (f := 73) rfl ?_); refine goesK (some 24) Try.func73 #[.int .i64 a0, .int .i64 a2] ?_; (with_reducible refine (impl_split.calls k a0 a2 t162 t163 _ A7.out).mono ?_); rintro e w' ⟨rfl, ⟨nd, rfl⟩⟩; refine ⟨_, rfl, ?_⟩) | ((with_reducible refine gate_callee (f := 73) rfl ?_); refine goesK (some 30) Try.func73 #[.int .i64 a1, .int .i64 a2] ?_; (with_reducible refine (impl_split.calls k a1 a2 t164 t165 _ A8.out).mono ?_); rintro e w' ⟨rfl, ⟨nd, rfl⟩⟩; refine ⟨_, rfl, ?_⟩) | ((with_reducible refine gate_callee (f := 33) rfl ?_); refine goesK (some 43) Try.func33 #[.int .i64 (-1), .int .i64 (Int.tmod (wrap64 (Int.tdiv (wrap64 ((wrap64 (t162 * t164)) * (wrap64 (a2 - 1)))) 2)) 2)] ?_; (with_reducible refine (impl_power.calls k (-1) (Int.tmod (wrap64 (Int.tdiv (wrap64 ((wrap64 (t162 * t164)) * (wrap64 (a2 - 1)))) 2)) 2) t169 _ A13.out).mono ?_); rintro e w' ⟨rfl, ⟨nd, rfl⟩⟩; refine ⟨_, rfl, ?_⟩) | ((with_reducible refine gate_callee (f := 75) rfl ?_); refine goesK (some 46) Try.func75 #[.int .i64 t163, .int .i64 a2] ?_; (with_reducible refine (impl_residue.calls k t163 a2 t170 _ A14.out).mono ?_); rintro e w' ⟨rfl, ⟨nd, rfl⟩⟩; refine ⟨_, rfl, ?_⟩) | ((with_reducible refine gate_callee (f := 33) rfl ?_); refine goesK (some 49) Try.func33 #[.int .i64 t170, .int .i64 (Int.tmod t164 2)] ?_; (with_reducible refine (impl_power.calls k t170 (Int.tmod t164 2) t171 _ A15.out).mono ?_); rintro e w' ⟨rfl, ⟨nd, rfl⟩⟩; refine ⟨_, rfl, ?_⟩) | ((with_reducible refine gate_callee (f := 75) rfl ?_); refine goesK (some 53) Try.func75 #[.int .i64 t165, .int .i64 a2] ?_; (with_reducible refine (impl_residue.calls k t165 a2 t172 _ A16.out).mono ?_); rintro e w' ⟨rfl, ⟨nd, rfl⟩⟩; refine ⟨_, rfl, ?_⟩) | ((with_reducible refine gate_callee (f := 33) rfl ?_); refine goesK (some 56) Try.func33 #[.int .i64 t172, .int .i64 (Int.tmod t162 2)] ?_; (with_reducible refine (impl_power.calls k t172 (Int.tmod t162 2) t173 _ A17.out).mono ?_); rintro e w' ⟨rfl, ⟨nd, rfl⟩⟩; refine ⟨_, rfl, ?_⟩))
  go_ret
  exact ⟨by first | rfl | (simp; done) | (simp [*]; done), by repeat (first | exact Drawn0.refl _ | apply Drawn0.step)⟩

/-! ### impl_invariant: function 58 -/
mutual
def impl_invariant.l0 : Nat → List Int → Int → Int → List Int → Int → Int → Option (Int)
  | 0, _, _, _, _, _, _ => none
  | k + 1, x0, x1, x5, x10, x11, x12 => if x12 < x11 then (if 0 ≤ x12 then (if x12 < (x10.length : Int) then (if x12 ≤ (x0.length : Int) then (impl_invariant.l1 k x0 x1 x5 (rd x10 x12) x10 x11 x12 (x0.take (x12 : Int).toNat) ((x0.take (x12 : Int).toNat).length : Int) 0) else (none)) else (none)) else (none)) else (some x5)
def impl_invariant.l1 : Nat → List Int → Int → Int → Int → List Int → Int → Int → List Int → Int → Int → Option (Int)
  | 0, _, _, _, _, _, _, _, _, _, _ => none
  | k + 1, x0, x1, x5, x7, x10, x11, x12, x19, x20, x21 => if x21 < x20 then (if 0 ≤ x21 then (if x21 < (x19.length : Int) then ((impl_symbol.f k x7 (rd x19 x21) x1).bind fun t177 => (impl_invariant.l1 k x0 x1 (wrap64 (x5 * t177)) x7 x10 x11 x12 x19 x20 (wrap64 (x21 + 1)))) else (none)) else (none)) else (impl_invariant.l0 k x0 x1 x5 x10 x11 (wrap64 (x12 + 1)))
end
def impl_invariant.f (k : Nat) (l0 : List Int) (a1 : Int) : Option (Int) := impl_invariant.l0 k l0 a1 1 l0 (l0.length : Int) 0
theorem impl_invariant.mono_l : ∀ k, (∀ y0 y1 y2 y3 y4 y5, LeO (impl_invariant.l0 k y0 y1 y2 y3 y4 y5) (impl_invariant.l0 (k + 1) y0 y1 y2 y3 y4 y5)) ∧ (∀ y0 y1 y2 y3 y4 y5 y6 y7 y8 y9, LeO (impl_invariant.l1 k y0 y1 y2 y3 y4 y5 y6 y7 y8 y9) (impl_invariant.l1 (k + 1) y0 y1 y2 y3 y4 y5 y6 y7 y8 y9))
  | 0 => ⟨fun _ _ _ _ _ _ r h => by simp [impl_invariant.l0] at h, fun _ _ _ _ _ _ _ _ _ _ r h => by simp [impl_invariant.l1] at h⟩
  | k + 1 => by
    obtain ⟨ih0, ih1⟩ := impl_invariant.mono_l k
    refine ⟨?_, ?_⟩ <;> intros <;> (first | unfold impl_invariant.l0 | unfold impl_invariant.l1) <;> (with_reducible repeat' first | exact ih0 _ _ _ _ _ _ | exact ih1 _ _ _ _ _ _ _ _ _ _ | exact impl_symbol.mono _ _ _ _ | exact LeO.refl _ | exact LeO.none _ | refine LeO.ite ?_ ?_ | refine LeO.bind ?_ (fun _ => ?_))
theorem impl_invariant.mono : ∀ a0 a1 k, LeO (impl_invariant.f k a0 a1) (impl_invariant.f (k + 1) a0 a1) := by
  intro a0 a1 k
  obtain ⟨ih0, ih1⟩ := impl_invariant.mono_l k
  unfold impl_invariant.f
  with_reducible repeat' first | exact ih0 _ _ _ _ _ _ | exact ih1 _ _ _ _ _ _ _ _ _ _ | exact impl_symbol.mono _ _ _ _ | exact LeO.refl _ | exact LeO.none _ | refine LeO.ite ?_ ?_ | refine LeO.bind ?_ (fun _ => ?_)
set_option maxHeartbeats 8000000 in
set_option maxRecDepth 100000 in
theorem impl_invariant.calls (k : Nat) (A0 : Option Addr) (c0 : Nat) (l0 : List Int) (a1 : Int) (r : Int) (w : World) (hr0 : Kd.C (Kd.int .i64) w A0 l0.length l0) (hc0 : l0.length ≤ c0) (h : impl_invariant.f k l0 a1 = some r) :
    Calls Try.prog 58 #[.slice A0 l0.length c0, .int .i64 a1] w fun e w' => e = .returned (.int .i64 r) ∧ Drawn0 w w' := by
  have HR0 := Aside0.mk hr0; have HC0 := Aside0.mk hc0; clear hr0 hc0; unfold impl_invariant.f at h; have H := h; clear h; have H' := Aside0.mk H; clear H; go_enter Try.func58, Try.ntmps58
  go_wp2
  go_loopg [5, 12] k (fun kq v5 v12 w' => ∃ (x5_1 : Int) (x12_1 : Int), v5 = .int .i64 x5_1 ∧ v12 = .int .i64 x12_1 ∧ Aside0 (impl_invariant.l0 kq l0 a1 x5_1 l0 (l0.length : Int) x12_1 = some r) ∧ Aside0 (kq ≤ k) ∧ Drawn0 w w')
  case atStart => exact ⟨(1), (0), sR, sR, H', ⟨Nat.le_refl _⟩, by repeat (first | exact Drawn0.refl _ | apply Drawn0.step)⟩
  case round =>
    clear H'; obtain ⟨x5_1, x12_1, rfl, rfl, HA, HK1, ⟨m1, rfl⟩⟩ := hrel; cases gk with
    | zero => exact absurd HA.out (by simp [impl_invariant.l0])
    | succ k1 =>
      have H := HA.out; clear HA; simp only [impl_invariant.l0] at H
      by_cases c3 : x12_1 < (l0.length : Int)
      · rw [if_pos c3] at H
        have c3b0 : decide (x12_1 < (l0.length : Int)) = true := decide_eq_true c3; clear c3; obtain ⟨c4, H⟩ := ifN H; have c4b0 : decide (0 ≤ x12_1) = true := decide_eq_true c4; clear c4; obtain ⟨c5, H⟩ := ifN H; have c5b0 : decide (x12_1 < (l0.length : Int)) = true := decide_eq_true c5; clear c5; have c6b0 := eq_true (oD : 0 ≤ x12_1); obtain ⟨c7, H⟩ := ifN H; have c7b0 := eq_true c7; have c7b1 : decide (x12_1 ≤ (l0.length : Int)) = true := decide_eq_true c7; clear c7; have H' := Aside0.mk H; clear H; have p174 : 0 ≤ (x12_1 : Int) := oD; have q174 : x12_1 < (l0.length : Int) := oD; obtain ⟨ad174, e174, hx174_0⟩ := Kd.at_int HR0.out x12_1 p174 q174; cases e174; replace p174 := eq_true p174; replace q174 := eq_true q174; obtain ⟨i08, hi08, _, hsz8, _⟩ := info_parts info3; obtain ⟨hcut8, hA8, hC8⟩ := print_take_of (P := Try.prog) (Value.int .i64) 0 23 3 .i64 Try.underlying23 hi08 hsz8 (some ad174) c0 l0 x12_1 (oD) (oD) HC0.out; have HR175 := Aside0.mk (Kd.C_of_reads (h1 := fun _ => rfl) (hA8 _ (Kd.reads_of_C HR0.out))); have HC175 := Aside0.mk hC8; have HM175 := Aside0.mk (show max x12_1 0 = ((l0.take (x12_1 : Int).toNat).length : Int) by have h1_ : 0 ≤ x12_1 := of_decide_eq_true (by assumption); have h2_ : x12_1 ≤ (l0.length : Int) := of_decide_eq_true (by assumption); rw [List.length_take]; omega); clear hA8 hC8 hi08 hsz8
        go_wp2
        go_loopg [5, 21] k1 (fun kq v5 v21 w' => ∃ (x5_2 : Int) (x21_2 : Int), v5 = .int .i64 x5_2 ∧ v21 = .int .i64 x21_2 ∧ Aside0 (impl_invariant.l1 kq l0 a1 x5_2 (rd l0 x12_1) l0 (l0.length : Int) x12_1 (l0.take (x12_1 : Int).toNat) ((l0.take (x12_1 : Int).toNat).length : Int) x21_2 = some r) ∧ Aside0 (kq ≤ k1) ∧ Drawn0 w w')
        case atStart => exact ⟨(x5_1), (0), sR, sR, H', ⟨Nat.le_refl _⟩, by repeat (first | exact Drawn0.refl _ | apply Drawn0.step)⟩
        case round =>
          clear H'; (try clear c3); (try clear c3b0); (try clear c4); (try clear c4b0); (try clear c5); (try clear c5b0); (try clear c6b0); (try clear c7); (try clear c7b0); (try clear c7b1); (try clear hx174_0); (try clear p174); (try clear q174); obtain ⟨x5_2, x21_2, rfl, rfl, HA, HK2, ⟨m2, rfl⟩⟩ := hrel; cases gk with
          | zero => exact absurd HA.out (by simp [impl_invariant.l1])
          | succ k2 =>
            have H := HA.out; clear HA; simp only [impl_invariant.l1] at H
            by_cases c9 : x21_2 < ((l0.take (x12_1 : Int).toNat).length : Int)
            · rw [if_pos c9] at H
              have c9b0 : decide (x21_2 < ((l0.take (x12_1 : Int).toNat).length : Int)) = true := decide_eq_true c9
              have c9bm : decide (x21_2 < max x12_1 0) = true := by rw [show max x12_1 0 = ((l0.take (x12_1 : Int).toNat).length : Int) from Aside0.out (by assumption)]; exact c9b0
              have c9bq : (x21_2 < max x12_1 0) = True := eq_true (of_decide_eq_true c9bm); clear c9; obtain ⟨c10, H⟩ := ifN H; have c10b0 : decide (0 ≤ x21_2) = true := decide_eq_true c10; clear c10; obtain ⟨c11, H⟩ := ifN H; have c11b0 : decide (x21_2 < ((l0.take (x12_1 : Int).toNat).length : Int)) = true := decide_eq_true c11
              have c11bm : decide (x21_2 < max x12_1 0) = true := by rw [show max x12_1 0 = ((l0.take (x12_1 : Int).toNat).length : Int) from Aside0.out (by assumption)]; exact c11b0
              have c11bq : (x21_2 < max x12_1 0) = True := eq_true (of_decide_eq_true c11bm); clear c11; obtain ⟨t177, A12, H⟩ := bnd H; have H' := Aside0.mk H; clear H; have p176 : 0 ≤ (x21_2 : Int) := oD; have q176 : x21_2 < ((l0.take (x12_1 : Int).toNat).length : Int) := oD; obtain ⟨ad176, e176, hx176_0⟩ := Kd.at_int HR175.out x21_2 p176 q176; obtain rfl : ad174 = ad176 := (by injection e176); replace p176 := eq_true p176; replace q176 := eq_true q176
              go_wp2_with (first | ((with_reducible refine gate_callee (f := 59) rfl ?_); refine goesK (some 29) Try.func59 #[.int .i64 (rd l0 x12_1), .int .i64 (rd (l0.take (x12_1 : Int).toNat) x21_2), .int .i64 a1] ?_; (with_reducible refine (impl_symbol.calls k2 (rd l0 x12_1) (rd (l0.take (x12_1 : Int).toNat) x21_2) a1 t177 _ A12.out).mono ?_); rintro e w' ⟨rfl, ⟨nd, rfl⟩⟩; refine ⟨_, rfl, ?_⟩))
              go_roundg k2
              case measure => have := HK1.out; have := HK2.out; omega
              case rel => exact ⟨(wrap64 (x5_2 * t177)), (wrap64 (x21_2 + 1)), sR, sR, H', ⟨by have := HK1.out; have := HK2.out; omega⟩, by repeat (first | exact Drawn0.refl _ | apply Drawn0.step)⟩
            rw [if_neg c9] at H; have c9b0 : decide (x21_2 < ((l0.take (x12_1 : Int).toNat).length : Int)) = false := decide_eq_false c9
            have c9bm : decide (x21_2 < max x12_1 0) = false := by rw [show max x12_1 0 = ((l0.take (x12_1 : Int).toNat).length : Int) from Aside0.out (by assumption)]; exact c9b0
            clear c9; have H' := Aside0.mk H; clear H
            go_wp2
            go_roundg k2
            case measure => have := HK1.out; have := HK2.out; omega
            case rel => exact ⟨(x5_2), (wrap64 (x12_1 + 1)), sR, sR, H', ⟨by have := HK1.out; have := HK2.out; omega⟩, by repeat (first | exact Drawn0.refl _ | apply Drawn0.step)⟩
      rw [if_neg c3] at H; have c3b0 : decide (x12_1 < (l0.length : Int)) = false := decide_eq_false c3; clear c3; obtain rfl := Option.some.inj H
      go_wp2
      go_ret
      exact ⟨by first | rfl | (simp; done) | (simp [*]; done), by repeat (first | exact Drawn0.refl _ | apply Drawn0.step)⟩

/-! ### impl_vanishes: function 31 -/
def impl_vanishes.f (k : Nat) (l0 : List Int) (a1 : Int) : Option (Bool) := (impl_product.f k l0).bind fun t178 => (if a1 = 0 then ((impl_lessTerms.f k l0).bind fun t179 => (if t179 > 0 then (some (decide (t179 < (l0.length : Int)))) else (some false))) else (if (l0.length : Int) = 2 then ((impl_localSquare.f k (wrap64 (-t178)) a1).bind fun t180 => (some t180)) else (if (l0.length : Int) = 3 then ((impl_invariant.f k l0 a1).bind fun t181 => ((impl_symbol.f k (-1) (wrap64 (-t178)) a1).bind fun t182 => (some (t181 == t182)))) else (if (l0.length : Int) = 4 then ((impl_localSquare.f k t178 a1).bind fun t183 => (if t183 = true then ((impl_invariant.f k l0 a1).bind fun t184 => ((impl_symbol.f k (-1) (-1) a1).bind fun t185 => (some (t184 == t185)))) else (some true))) else (some false)))))
theorem impl_vanishes.mono : ∀ a0 a1 k, LeO (impl_vanishes.f k a0 a1) (impl_vanishes.f (k + 1) a0 a1) := by
  intro a0 a1 k
  unfold impl_vanishes.f
  with_reducible repeat' first | exact impl_invariant.mono _ _ _ | exact impl_lessTerms.mono _ _ | exact impl_localSquare.mono _ _ _ | exact impl_product.mono _ _ | exact impl_symbol.mono _ _ _ _ | exact LeO.refl _ | exact LeO.none _ | refine LeO.ite ?_ ?_ | refine LeO.bind ?_ (fun _ => ?_)
set_option maxHeartbeats 8000000 in
set_option maxRecDepth 100000 in
theorem impl_vanishes.calls (k : Nat) (A0 : Option Addr) (c0 : Nat) (l0 : List Int) (a1 : Int) (r : Bool) (w : World) (hr0 : Kd.C (Kd.int .i64) w A0 l0.length l0) (hc0 : l0.length ≤ c0) (h : impl_vanishes.f k l0 a1 = some r) :
    Calls Try.prog 31 #[.slice A0 l0.length c0, .int .i64 a1] w fun e w' => e = .returned (.bool r) ∧ Drawn0 w w' := by
  have HR0 := Aside0.mk hr0; have HC0 := Aside0.mk hc0; clear hr0 hc0; unfold impl_vanishes.f at h; have H := h; clear h; obtain ⟨t178, A3, H⟩ := bnd H
  by_cases c4 : a1 = 0
  · rw [if_pos c4] at H
    have c4b0 : (a1 == 0) = true := beq_iff_eq.mpr c4; have c4b1 : (a1 != 0) = false := bne_eq_false_iff_eq.mpr c4; clear c4; obtain ⟨t179, A5, H⟩ := bnd H
    by_cases c6 : t179 > 0
    · rw [if_pos c6] at H
      have c6b0 : decide (0 < t179) = true := decide_eq_true c6; clear c6; obtain rfl := Option.some.inj H; go_enter Try.func31, Try.ntmps31
      go_wp2_with (first | ((with_reducible refine gate_callee (f := 55) rfl ?_); refine goesK (some 8) Try.func55 #[.slice A0 l0.length c0] ?_; (with_reducible refine (impl_product.calls k _ _ l0 t178 _ ?side1 ?side2 A3.out).mono ?_); (case side1 => exact U HR0.out); (case side2 => exact HC0.out); rintro e w' ⟨rfl, ⟨nd, rfl⟩⟩; refine ⟨_, rfl, ?_⟩) | ((with_reducible refine gate_callee (f := 56) rfl ?_); refine goesK (some 12) Try.func56 #[.slice A0 l0.length c0] ?_; (with_reducible refine (impl_lessTerms.calls k _ _ l0 t179 _ ?side1 ?side2 A5.out).mono ?_); (case side1 => exact U HR0.out); (case side2 => exact HC0.out); rintro e w' ⟨rfl, ⟨nd, rfl⟩⟩; refine ⟨_, rfl, ?_⟩))
      go_ret
      exact ⟨by first | rfl | (simp; done) | (simp [*]; done), by repeat (first | exact Drawn0.refl _ | apply Drawn0.step)⟩
    rw [if_neg c6] at H; have c6b0 : decide (0 < t179) = false := decide_eq_false c6; clear c6; obtain rfl := Option.some.inj H; go_enter Try.func31, Try.ntmps31
    go_wp2_with (first | ((with_reducible refine gate_callee (f := 55) rfl ?_); refine goesK (some 8) Try.func55 #[.slice A0 l0.length c0] ?_; (with_reducible refine (impl_product.calls k _ _ l0 t178 _ ?side1 ?side2 A3.out).mono ?_); (case side1 => exact U HR0.out); (case side2 => exact HC0.out); rintro e w' ⟨rfl, ⟨nd, rfl⟩⟩; refine ⟨_, rfl, ?_⟩) | ((with_reducible refine gate_callee (f := 56) rfl ?_); refine goesK (some 12) Try.func56 #[.slice A0 l0.length c0] ?_; (with_reducible refine (impl_lessTerms.calls k _ _ l0 t179 _ ?side1 ?side2 A5.out).mono ?_); (case side1 => exact U HR0.out); (case side2 => exact HC0.out); rintro e w' ⟨rfl, ⟨nd, rfl⟩⟩; refine ⟨_, rfl, ?_⟩))
    go_ret
    exact ⟨by first | rfl | (simp; done) | (simp [*]; done), by repeat (first | exact Drawn0.refl _ | apply Drawn0.step)⟩
  rw [if_neg c4] at H; have c4b0 : (a1 == 0) = false := beq_eq_false_iff_ne.mpr c4; have c4b1 : (a1 != 0) = true := bne_iff_ne.mpr c4
  by_cases c7 : (l0.length : Int) = 2
  · rw [if_pos c7] at H
    have c7b0 : ((l0.length : Int) == 2) = true := beq_iff_eq.mpr c7; have c7b1 : ((l0.length : Int) != 2) = false := bne_eq_false_iff_eq.mpr c7; clear c7; obtain ⟨t180, A8, H⟩ := bnd H; obtain rfl := Option.some.inj H; go_enter Try.func31, Try.ntmps31
    go_wp2_with (first | ((with_reducible refine gate_callee (f := 55) rfl ?_); refine goesK (some 8) Try.func55 #[.slice A0 l0.length c0] ?_; (with_reducible refine (impl_product.calls k _ _ l0 t178 _ ?side1 ?side2 A3.out).mono ?_); (case side1 => exact U HR0.out); (case side2 => exact HC0.out); rintro e w' ⟨rfl, ⟨nd, rfl⟩⟩; refine ⟨_, rfl, ?_⟩) | ((with_reducible refine gate_callee (f := 57) rfl ?_); refine goesK (some 28) Try.func57 #[.int .i64 (wrap64 (-t178)), .int .i64 a1] ?_; (with_reducible refine (impl_localSquare.calls k (wrap64 (-t178)) a1 t180 _ A8.out).mono ?_); rintro e w' ⟨rfl, ⟨nd, rfl⟩⟩; refine ⟨_, rfl, ?_⟩))
    go_ret
    exact ⟨by first | rfl | (simp; done) | (simp [*]; done), by repeat (first | exact Drawn0.refl _ | apply Drawn0.step)⟩
  rw [if_neg c7] at H; have c7b0 : ((l0.length : Int) == 2) = false := beq_eq_false_iff_ne.mpr c7; have c7b1 : ((l0.length : Int) != 2) = true := bne_iff_ne.mpr c7
  by_cases c9 : (l0.length : Int) = 3
  · rw [if_pos c9] at H
    have c9b0 : ((l0.length : Int) == 3) = true := beq_iff_eq.mpr c9; have c9b1 : ((l0.length : Int) != 3) = false := bne_eq_false_iff_eq.mpr c9; clear c9; obtain ⟨t181, A10, H⟩ := bnd H; obtain ⟨t182, A11, H⟩ := bnd H; obtain rfl := Option.some.inj H; go_enter Try.func31, Try.ntmps31
    go_wp2_with (first | ((with_reducible refine gate_callee (f := 55) rfl ?_); refine goesK (some 8) Try.func55 #[.slice A0 l0.length c0] ?_; (with_reducible refine (impl_product.calls k _ _ l0 t178 _ ?side1 ?side2 A3.out).mono ?_); (case side1 => exact U HR0.out); (case side2 => exact HC0.out); rintro e w' ⟨rfl, ⟨nd, rfl⟩⟩; refine ⟨_, rfl, ?_⟩) | ((with_reducible refine gate_callee (f := 58) rfl ?_); refine goesK (some 33) Try.func58 #[.slice A0 l0.length c0, .int .i64 a1] ?_; (with_reducible refine (impl_invariant.calls k _ _ l0 a1 t181 _ ?side1 ?side2 A10.out).mono ?_); (case side1 => exact U HR0.out); (case side2 => exact HC0.out); rintro e w' ⟨rfl, ⟨nd, rfl⟩⟩; refine ⟨_, rfl, ?_⟩) | ((with_reducible refine gate_callee (f := 59) rfl ?_); refine goesK (some 37) Try.func59 #[.int .i64 (-1), .int .i64 (wrap64 (-t178)), .int .i64 a1] ?_; (with_reducible refine (impl_symbol.calls k (-1) (wrap64 (-t178)) a1 t182 _ A11.out).mono ?_); rintro e w' ⟨rfl, ⟨nd, rfl⟩⟩; refine ⟨_, rfl, ?_⟩))
    go_ret
    exact ⟨by first | rfl | (simp; done) | (simp [*]; done), by repeat (first | exact Drawn0.refl _ | apply Drawn0.step)⟩
  rw [if_neg c9] at H; have c9b0 : ((l0.length : Int) == 3) = false := beq_eq_false_iff_ne.mpr c9; have c9b1 : ((l0.length : Int) != 3) = true := bne_iff_ne.mpr c9
  by_cases c12 : (l0.length : Int) = 4
  · rw [if_pos c12] at H
    have c12b0 : ((l0.length : Int) == 4) = true := beq_iff_eq.mpr c12; have c12b1 : ((l0.length : Int) != 4) = false := bne_eq_false_iff_eq.mpr c12; clear c12; obtain ⟨t183, A13, H⟩ := bnd H
    by_cases c14 : t183 = true
    · subst c14
      replace H := ifT H; obtain ⟨t184, A15, H⟩ := bnd H; obtain ⟨t185, A16, H⟩ := bnd H; obtain rfl := Option.some.inj H; go_enter Try.func31, Try.ntmps31
      go_wp2_with (first | ((with_reducible refine gate_callee (f := 55) rfl ?_); refine goesK (some 8) Try.func55 #[.slice A0 l0.length c0] ?_; (with_reducible refine (impl_product.calls k _ _ l0 t178 _ ?side1 ?side2 A3.out).mono ?_); (case side1 => exact U HR0.out); (case side2 => exact HC0.out); rintro e w' ⟨rfl, ⟨nd, rfl⟩⟩; refine ⟨_, rfl, ?_⟩) | ((with_reducible refine gate_callee (f := 57) rfl ?_); refine goesK (some 43) Try.func57 #[.int .i64 t178, .int .i64 a1] ?_; (with_reducible refine (impl_localSquare.calls k t178 a1 true _ A13.out).mono ?_); rintro e w' ⟨rfl, ⟨nd, rfl⟩⟩; refine ⟨_, rfl, ?_⟩) | (go_at_call 58; (with_reducible refine (impl_invariant.calls k _ _ l0 a1 t184 _ ?side1 ?side2 A15.out).mono ?_); (case side1 => exact U HR0.out); (case side2 => exact HC0.out); rintro e w' ⟨rfl, ⟨nd, rfl⟩⟩) | (go_at_call 59; (with_reducible refine (impl_symbol.calls k (-1) (-1) a1 t185 _ A16.out).mono ?_); rintro e w' ⟨rfl, ⟨nd, rfl⟩⟩))
      go_ret
      exact ⟨by first | rfl | (simp; done) | (simp [*]; done), by repeat (first | exact Drawn0.refl _ | apply Drawn0.step)⟩
    replace c14 := Bool.eq_false_iff.mpr c14; subst c14; replace H := ifF H; obtain rfl := Option.some.inj H; go_enter Try.func31, Try.ntmps31
    go_wp2_with (first | ((with_reducible refine gate_callee (f := 55) rfl ?_); refine goesK (some 8) Try.func55 #[.slice A0 l0.length c0] ?_; (with_reducible refine (impl_product.calls k _ _ l0 t178 _ ?side1 ?side2 A3.out).mono ?_); (case side1 => exact U HR0.out); (case side2 => exact HC0.out); rintro e w' ⟨rfl, ⟨nd, rfl⟩⟩; refine ⟨_, rfl, ?_⟩) | ((with_reducible refine gate_callee (f := 57) rfl ?_); refine goesK (some 43) Try.func57 #[.int .i64 t178, .int .i64 a1] ?_; (with_reducible refine (impl_localSquare.calls k t178 a1 false _ A13.out).mono ?_); rintro e w' ⟨rfl, ⟨nd, rfl⟩⟩; refine ⟨_, rfl, ?_⟩))
    go_ret
    exact ⟨by first | rfl | (simp; done) | (simp [*]; done), by repeat (first | exact Drawn0.refl _ | apply Drawn0.step)⟩
  rw [if_neg c12] at H; have c12b0 : ((l0.length : Int) == 4) = false := beq_eq_false_iff_ne.mpr c12; have c12b1 : ((l0.length : Int) != 4) = true := bne_iff_ne.mpr c12; obtain rfl := Option.some.inj H; go_enter Try.func31, Try.ntmps31
  go_wp2_with (first | ((with_reducible refine gate_callee (f := 55) rfl ?_); refine goesK (some 8) Try.func55 #[.slice A0 l0.length c0] ?_; (with_reducible refine (impl_product.calls k _ _ l0 t178 _ ?side1 ?side2 A3.out).mono ?_); (case side1 => exact U HR0.out); (case side2 => exact HC0.out); rintro e w' ⟨rfl, ⟨nd, rfl⟩⟩; refine ⟨_, rfl, ?_⟩))
  go_ret
  exact ⟨by first | rfl | (simp; done) | (simp [*]; done), by repeat (first | exact Drawn0.refl _ | apply Drawn0.step)⟩

/-! ### impl_FormBad: function 9 -/
def impl_FormBad.l0 : Nat → List Int → List Int → List Int → Int → Int → Option (List Int)
  | 0, _, _, _, _, _ => none
  | k + 1, x0, x3, x8, x9, x10 => if x10 < x9 then (if 0 ≤ x10 then (if x10 < (x8.length : Int) then ((impl_vanishes.f k x0 (rd x8 x10)).bind fun t193 => (if t193 = true then (impl_FormBad.l0 k x0 x3 x8 x9 (wrap64 (x10 + 1))) else (if x3.length < 17592186044416 then (impl_FormBad.l0 k x0 (x3 ++ [rd x8 x10]) x8 x9 (wrap64 (x10 + 1))) else (none)))) else (none)) else (none)) else (some x3)
def impl_FormBad.f (k : Nat) (l0 : List Int) : Option (List Int) := (impl_FormPlaces.f k l0).bind fun t189 => (impl_FormBad.l0 k l0 (([] : List Int)) t189 (t189.length : Int) 0)
theorem impl_FormBad.mono_l : ∀ k, (∀ y0 y1 y2 y3 y4, LeO (impl_FormBad.l0 k y0 y1 y2 y3 y4) (impl_FormBad.l0 (k + 1) y0 y1 y2 y3 y4))
  | 0 => fun _ _ _ _ _ r h => by simp [impl_FormBad.l0] at h
  | k + 1 => by
    have ih0 := impl_FormBad.mono_l k
    · intro y0 y1 y2 y3 y4
      unfold impl_FormBad.l0
      with_reducible repeat' first | exact ih0 _ _ _ _ _ | exact impl_FormPlaces.mono _ _ | exact impl_vanishes.mono _ _ _ | exact LeO.refl _ | exact LeO.none _ | refine LeO.ite ?_ ?_ | refine LeO.bind ?_ (fun _ => ?_)
theorem impl_FormBad.mono : ∀ a0 k, LeO (impl_FormBad.f k a0) (impl_FormBad.f (k + 1) a0) := by
  intro a0 k
  have ih0 := impl_FormBad.mono_l k
  unfold impl_FormBad.f
  with_reducible repeat' first | exact ih0 _ _ _ _ _ | exact impl_FormPlaces.mono _ _ | exact impl_vanishes.mono _ _ _ | exact LeO.refl _ | exact LeO.none _ | refine LeO.ite ?_ ?_ | refine LeO.bind ?_ (fun _ => ?_)
set_option maxHeartbeats 8000000 in
set_option maxRecDepth 100000 in
theorem impl_FormBad.calls (k : Nat) (A0 : Option Addr) (c0 : Nat) (l0 : List Int) (r : List Int) (w : World) (hr0 : Kd.C (Kd.int .i64) w A0 l0.length l0) (hc0 : l0.length ≤ c0) (h : impl_FormBad.f k l0 = some r) :
    Calls Try.prog 9 #[.slice A0 l0.length c0] w fun e w' => ∃ v0_ : Value, e = .returned (v0_) ∧ Kd.R (Kd.int .i64) 3 w' w.heap.size (fun _ => True) v0_ r ∧ Below w.heap.size w w' := by
  have HR0 := Aside0.mk hr0; have HC0 := Aside0.mk hc0; clear hr0 hc0; have HB := Aside0.mk (Below.refl w.heap.size w); unfold impl_FormBad.f at h; have H := h; clear h; obtain ⟨y186, hy186⟩ : ∃ y_ : List Int, y_ = (([] : List Int)) := ⟨_, rfl⟩; replace H : ((impl_FormPlaces.f k l0).bind fun t189 => (impl_FormBad.l0 k l0 y186 t189 (t189.length : Int) 0)) = some r := rH hy186 H; have Ny186 := Aside0.mk hy186; clear hy186; obtain ⟨t189, A2, H⟩ := bnd H; have H' := Aside0.mk H; clear H; go_enter Try.func9, Try.ntmps9
  go_wp2_with (first | ((with_reducible refine gate_dst (N := 6) rfl ?_); refine Kd.R_lit (Kd.int .i64) _ 3 ?hg (N := 6) ?hd (xs := ([] : List Int)) (inner := []) (ok := fun _ => True) (okp := fun _ => True) ?hr ?hp (fun _ hk => hk) trivial (Below.refl _ _) (Nat.le_refl _) (by simp) ?_; (case hd => rfl); (case hg => rfl); (case hr => first | (go_simp; done) | (go_simp; rfl)); (case hp => exact (Reps.none _ _)); intro v187 w3 ho4 hb hg_ hnew_; clear hg_ hnew_; (first | rw [← Ny186.out] at ho4 | (simp only [Int.reduceToNat] at ho4; rw [← Ny186.out] at ho4)); have HO188 := Aside0.mk (Kd.R_lower ho4 (below_size BU)); replace HB := BS hb; clear hb ho4) | ((with_reducible refine gate_callee (f := 30) rfl ?_); refine goesK (some 8) Try.func30 #[.slice A0 l0.length c0] ?_; (with_reducible refine (impl_FormPlaces.calls k _ _ l0 t189 _ ?side1 ?side2 A2.out).mono ?_); (case side1 => exact U (Kd.C_below HR0.out HB.out)); (case side2 => exact HC0.out); rintro e w5 ⟨v190, rfl, ho0, hb⟩; refine ⟨_, rfl, ?_⟩; have HO191 := Aside0.mk (Kd.R_lower (Kd.R_new' ho0 (Kd.R_lt (U HO188.out))) (below_size BU)); replace HO188 := Aside0.mk (Kd.R_elder' (U HO188.out) (Kd.R_base ho0) hb); replace HB := BS hb; (try clear hb); (try clear ho0); obtain ⟨Ao6, co6, eo6⟩ := Kd.R_slice HO191.out; subst eo6))
  go_loopg [3, 10] k (fun kq v3 v10 w' => ∃ (x3_1 : List Int) (x10_1 : Int), v10 = .int .i64 x10_1 ∧ Aside0 (impl_FormBad.l0 kq l0 x3_1 t189 (t189.length : Int) x10_1 = some r) ∧ Aside0 (kq ≤ k) ∧ Aside0 (Kd.R (Kd.int .i64) 3 w' w.heap.size (fun k_ => some k_ ≠ ((.slice Ao6 t189.length co6) : Value).ownBlock) v3 x3_1) ∧ Aside0 (Kd.R (Kd.int .i64) 3 w' w.heap.size (fun k_ => some k_ ≠ (v3 : Value).ownBlock) (.slice Ao6 t189.length co6) t189) ∧ Aside0 (Below w.heap.size w w'))
  case atStart => exact ⟨(y186), (0), sR, H', ⟨Nat.le_refl _⟩, ⟨Kd.RM HO188.out (fun _ hk => hk.2)⟩, ⟨Kd.RM HO191.out (fun _ hk => hk.2)⟩, ⟨BU⟩⟩
  case round =>
    clear H'; obtain ⟨x3_1, x10_1, rfl, HA, HK1, HO_3, HO_8, HB⟩ := hrel; cases gk with
    | zero => exact absurd HA.out (by simp [impl_FormBad.l0])
    | succ k1 =>
      have H := HA.out; clear HA; simp only [impl_FormBad.l0] at H
      by_cases c7 : x10_1 < (t189.length : Int)
      · rw [if_pos c7] at H
        have c7b0 : decide (x10_1 < (t189.length : Int)) = true := decide_eq_true c7; clear c7; obtain ⟨c8, H⟩ := ifN H; have c8b0 : decide (0 ≤ x10_1) = true := decide_eq_true c8; clear c8; obtain ⟨c9, H⟩ := ifN H; have c9b0 : decide (x10_1 < (t189.length : Int)) = true := decide_eq_true c9; clear c9; obtain ⟨t193, A10, H⟩ := bnd H
        by_cases c11 : t193 = true
        · subst c11
          replace H := ifT H; have H' := Aside0.mk H; clear H; have p192 : 0 ≤ (x10_1 : Int) := oD; have q192 : x10_1 < (t189.length : Int) := oD; obtain ⟨ad192, e192, hx192_0⟩ := Kd.at_int (Kd.R_reads' HO_8.out).2.2 x10_1 p192 q192; cases e192; replace p192 := eq_true p192; replace q192 := eq_true q192
          go_wp2_with (first | ((with_reducible refine gate_callee (f := 31) rfl ?_); refine goesK (some 16) Try.func31 #[.slice A0 l0.length c0, .int .i64 (rd t189 x10_1)] ?_; (with_reducible refine (impl_vanishes.calls k1 _ _ l0 (rd t189 x10_1) true _ ?side1 ?side2 A10.out).mono ?_); (case side1 => exact U (Kd.C_below HR0.out HB.out)); (case side2 => exact HC0.out); rintro e w' ⟨rfl, ⟨nd, rfl⟩⟩; refine ⟨_, rfl, ?_⟩))
          go_roundg k1
          case measure => have := HK1.out; omega
          case rel => exact ⟨(x3_1), (wrap64 (x10_1 + 1)), sR, H', ⟨by have := HK1.out; omega⟩, ⟨U HO_3.out⟩, ⟨U HO_8.out⟩, ⟨BU⟩⟩
        replace c11 := Bool.eq_false_iff.mpr c11; subst c11; replace H := ifF H; obtain ⟨c12, H⟩ := ifN H; have LMc12 := Aside0.mk c12; clear c12; obtain ⟨y194, hy194⟩ : ∃ y_ : List Int, y_ = (x3_1 ++ [rd t189 x10_1]) := ⟨_, rfl⟩; replace H : (impl_FormBad.l0 k1 l0 y194 t189 (t189.length : Int) (wrap64 (x10_1 + 1))) = some r := rH hy194 H; have Ny194 := Aside0.mk hy194; clear hy194; have H' := Aside0.mk H; clear H; have p192 : 0 ≤ (x10_1 : Int) := oD; have q192 : x10_1 < (t189.length : Int) := oD; obtain ⟨ad192, e192, hx192_0⟩ := Kd.at_int (Kd.R_reads' HO_8.out).2.2 x10_1 p192 q192; cases e192; replace p192 := eq_true p192; replace q192 := eq_true q192
        go_wp2_with (first | ((with_reducible refine gate_callee (f := 31) rfl ?_); refine goesK (some 16) Try.func31 #[.slice A0 l0.length c0, .int .i64 (rd t189 x10_1)] ?_; (with_reducible refine (impl_vanishes.calls k1 _ _ l0 (rd t189 x10_1) false _ ?side1 ?side2 A10.out).mono ?_); (case side1 => exact U (Kd.C_below HR0.out HB.out)); (case side2 => exact HC0.out); rintro e w' ⟨rfl, ⟨nd, rfl⟩⟩; refine ⟨_, rfl, ?_⟩) | ((with_reducible refine gate_builtin (b := .append) (xs := #[.tmp 18, .tmp 20]) rfl ?_); at_builtin; refine Kd.R_append (Kd.int .i64) (w0 := w) w.heap.size rfl (.tmp 18) (.tmp 20) 23 3 (.int .i64 0) 8 rfl Try.underlying23 info3 rfl (by decide) (by omega) u3 x3_1 (rd t189 x10_1) [.int .i64 (rd t189 x10_1)] (fun k_ => some k_ ≠ (.slice (some ad192) t189.length co6 : Value).ownBlock) (fun _ => False) rfl rfl ?aP (fun _ hk => hk.elim) ?aF ?aO ?aB ?aS ?aL ?_; (case aP => exact rfl); (case aB => exact BU); (case aF => exact (fun k_ hk => Kd.fresh' (Kd.R_lt (U HO_8.out)) k_ hk)); (case aO => exact (U HO_3.out)); (case aS => exact (below_size BU)); (case aL => have := LMc12.out; omega); intro v195 w13 ho hb hg hat; rw [← Ny194.out] at ho; have n0_ := Aside0.mk (Kd.R_after (ok := (fun _ => True)) (Kd.RM HO_8.out (fun _ hk => ⟨trivial, hk⟩)) hg hat); have n1_ := Aside0.mk (hb); have n2_ := Aside0.mk (ho); clear HO_8; try clear HB; clear HO_3; have HO_8 := n0_; have HB := n1_; have HO196 := n2_; clear n0_ n1_ n2_; clear ho hb hg hat))
        go_roundg k1
        case measure => have := HK1.out; omega
        case rel => exact ⟨(y194), (wrap64 (x10_1 + 1)), sR, H', ⟨by have := HK1.out; omega⟩, ⟨U HO196.out⟩, ⟨Kd.RM HO_8.out (fun _ hk => hk.2)⟩, ⟨BU⟩⟩
      rw [if_neg c7] at H; have c7b0 : decide (x10_1 < (t189.length : Int)) = false := decide_eq_false c7
      try (have c7bz : decide (x10_1 < (x11_1.length : Int)) = false := by rw [← hl11_1]; exact c7b0)
      clear c7; obtain rfl := Option.some.inj H
      go_wp2
      go_ret
      exact ⟨_, eR, Kd.RM HO_3.out (fun _ hk => trivial), BU⟩

end Go.Proofs.Ytpjgcjkodmkemaa.PFnFindZero
