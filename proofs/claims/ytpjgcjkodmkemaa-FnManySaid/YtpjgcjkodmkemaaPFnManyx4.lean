-- Written by a program of this session (wip/print2.py): the functions that the law reaches, plain, and the walks.
import Derived.Test.YtpjgcjkodmkemaaPFnManyx0
import Derived.Test.YtpjgcjkodmkemaaPFnManyx1
import Derived.Test.YtpjgcjkodmkemaaPFnManyx3
namespace Go.Proofs.Ytpjgcjkodmkemaa.PFnMany
open Go.RowKit Go.Proofs.YtpjgcjkodmkemaaW.PrintWords Go.Proofs.YtpjgcjkodmkemaaW.PrintLast Go.Proofs.YtpjgcjkodmkemaaW.PrintMore
attribute [local go_sem] max2_int min2_int max_two min_two max_three min_three max_four min_four   -- for this text's walks alone
set_option linter.unusedVariables false
set_option linter.unusedSimpArgs false

/-! ### impl_symbol: function 59 -/
def impl_symbol.f (k : Nat) (a0 : Int) (a1 : Int) (a2 : Int) : Option (Int) := if a2 = 0 then (if a0 < 0 then (if a1 < 0 then (some (-1)) else (some 1)) else (some 1)) else ((impl_split.f k a0 a2).bind fun bt152 => ((impl_split.f k a1 a2).bind fun bt154 => (if a2 = 2 then ((impl_rest.f bt152.2 8).bind fun t156 => ((impl_rest.f bt154.2 8).bind fun t157 => ((impl_power.f k (-1) (Int.tmod (wrap64 ((wrap64 ((wrap64 ((wrap64 (Int.tdiv (wrap64 (t156 - 1)) 2)) * (wrap64 (Int.tdiv (wrap64 (t157 - 1)) 2)))) + (wrap64 (Int.tdiv (wrap64 (bt152.1 * (wrap64 ((wrap64 (t157 * t157)) - 1)))) 8)))) + (wrap64 (Int.tdiv (wrap64 (bt154.1 * (wrap64 ((wrap64 (t156 * t156)) - 1)))) 8)))) 2)).bind fun t158 => (some t158)))) else ((impl_power.f k (-1) (Int.tmod (wrap64 (Int.tdiv (wrap64 ((wrap64 (bt152.1 * bt154.1)) * (wrap64 (a2 - 1)))) 2)) 2)).bind fun t159 => ((impl_residue.f k bt152.2 a2).bind fun t160 => ((impl_power.f k t160 (Int.tmod bt154.1 2)).bind fun t161 => ((impl_residue.f k bt154.2 a2).bind fun t162 => ((impl_power.f k t162 (Int.tmod bt152.1 2)).bind fun t163 => (some (wrap64 ((wrap64 (t159 * t161)) * t163)))))))))))
theorem impl_symbol.mono : ∀ a0 a1 a2 k, LeO (impl_symbol.f k a0 a1 a2) (impl_symbol.f (k + 1) a0 a1 a2) := by
  intro a0 a1 a2 k
  unfold impl_symbol.f
  repeat' first
      | (with_reducible exact impl_power.mono _ _ _)
      | (with_reducible exact impl_residue.mono _ _ _)
      | (with_reducible exact impl_split.mono _ _ _)
      | (with_reducible exact LeO.refl _)
      | (with_reducible exact LeO.none _)
      | (with_reducible refine LeO.ite ?_ ?_)
      | (with_reducible refine LeO.bind ?_ (fun _ => ?_))
      | exact impl_power.mono _ _ _
      | exact impl_residue.mono _ _ _
      | exact impl_split.mono _ _ _
      | exact LeO.none _
      | refine LeO.ite ?_ ?_
      | refine LeO.bind ?_ (fun _ => ?_)
set_option maxHeartbeats 8000000 in
set_option maxRecDepth 100000 in
theorem impl_symbol.calls (k : Nat) (a0 : Int) (a1 : Int) (a2 : Int) (r : Int) (w : World) (h : impl_symbol.f k a0 a1 a2 = some r) :
    Calls Try.prog 59 #[.int .i64 a0, .int .i64 a1, .int .i64 a2] w fun e w' => e = .returned (.int .i64 r) ∧ Drawn0 w w' := by
  unfold impl_symbol.f at h; have H := h; clear h
  by_cases c4 : a2 = 0
  · rw [if_pos c4] at H
    have c4b0 : (a2 == 0) = true := beq_iff_eq.mpr c4; have c4b1 : (a2 != 0) = false := bne_eq_false_iff_eq.mpr c4; clear c4
    by_cases c5 : a0 < 0
    · rw [if_pos c5] at H
      have c5b0 : decide (a0 < 0) = true := decide_eq_true c5; clear c5
      by_cases c6 : a1 < 0
      · rw [if_pos c6] at H
        have c6b0 : decide (a1 < 0) = true := decide_eq_true c6; clear c6; obtain rfl := Option.some.inj H; go_enter Try.func59, Try.ntmps59
        go_wp2
        go_ret
        exact ⟨by first | rfl | (simp; done) | (simp [*]; done), by repeat (first | exact Drawn0.refl _ | apply Drawn0.step)⟩
      rw [if_neg c6] at H; have c6b0 : decide (a1 < 0) = false := decide_eq_false c6; clear c6; obtain rfl := Option.some.inj H; go_enter Try.func59, Try.ntmps59
      go_wp2
      go_ret
      exact ⟨by first | rfl | (simp; done) | (simp [*]; done), by repeat (first | exact Drawn0.refl _ | apply Drawn0.step)⟩
    rw [if_neg c5] at H; have c5b0 : decide (a0 < 0) = false := decide_eq_false c5; clear c5; obtain rfl := Option.some.inj H; go_enter Try.func59, Try.ntmps59
    go_wp2
    go_ret
    exact ⟨by first | rfl | (simp; done) | (simp [*]; done), by repeat (first | exact Drawn0.refl _ | apply Drawn0.step)⟩
  rw [if_neg c4] at H; have c4b0 : (a2 == 0) = false := beq_eq_false_iff_ne.mpr c4; have c4b1 : (a2 != 0) = true := bne_iff_ne.mpr c4; obtain ⟨⟨t152, t153⟩, A7, H⟩ := bnd H
  replace H : ((impl_split.f k a1 a2).bind fun bt154 => (if a2 = 2 then ((impl_rest.f t153 8).bind fun t156 => ((impl_rest.f bt154.2 8).bind fun t157 => ((impl_power.f k (-1) (Int.tmod (wrap64 ((wrap64 ((wrap64 ((wrap64 (Int.tdiv (wrap64 (t156 - 1)) 2)) * (wrap64 (Int.tdiv (wrap64 (t157 - 1)) 2)))) + (wrap64 (Int.tdiv (wrap64 (t152 * (wrap64 ((wrap64 (t157 * t157)) - 1)))) 8)))) + (wrap64 (Int.tdiv (wrap64 (bt154.1 * (wrap64 ((wrap64 (t156 * t156)) - 1)))) 8)))) 2)).bind fun t158 => (some t158)))) else ((impl_power.f k (-1) (Int.tmod (wrap64 (Int.tdiv (wrap64 ((wrap64 (t152 * bt154.1)) * (wrap64 (a2 - 1)))) 2)) 2)).bind fun t159 => ((impl_residue.f k t153 a2).bind fun t160 => ((impl_power.f k t160 (Int.tmod bt154.1 2)).bind fun t161 => ((impl_residue.f k bt154.2 a2).bind fun t162 => ((impl_power.f k t162 (Int.tmod t152 2)).bind fun t163 => (some (wrap64 ((wrap64 (t159 * t161)) * t163)))))))))) = some r := H
  obtain ⟨⟨t154, t155⟩, A8, H⟩ := bnd H
  replace H : (if a2 = 2 then ((impl_rest.f t153 8).bind fun t156 => ((impl_rest.f t155 8).bind fun t157 => ((impl_power.f k (-1) (Int.tmod (wrap64 ((wrap64 ((wrap64 ((wrap64 (Int.tdiv (wrap64 (t156 - 1)) 2)) * (wrap64 (Int.tdiv (wrap64 (t157 - 1)) 2)))) + (wrap64 (Int.tdiv (wrap64 (t152 * (wrap64 ((wrap64 (t157 * t157)) - 1)))) 8)))) + (wrap64 (Int.tdiv (wrap64 (t154 * (wrap64 ((wrap64 (t156 * t156)) - 1)))) 8)))) 2)).bind fun t158 => (some t158)))) else ((impl_power.f k (-1) (Int.tmod (wrap64 (Int.tdiv (wrap64 ((wrap64 (t152 * t154)) * (wrap64 (a2 - 1)))) 2)) 2)).bind fun t159 => ((impl_residue.f k t153 a2).bind fun t160 => ((impl_power.f k t160 (Int.tmod t154 2)).bind fun t161 => ((impl_residue.f k t155 a2).bind fun t162 => ((impl_power.f k t162 (Int.tmod t152 2)).bind fun t163 => (some (wrap64 ((wrap64 (t159 * t161)) * t163))))))))) = some r := H
  by_cases c9 : a2 = 2
  · rw [if_pos c9] at H
    have c9b0 : (a2 == 2) = true := beq_iff_eq.mpr c9; have c9b1 : (a2 != 2) = false := bne_eq_false_iff_eq.mpr c9; clear c9; obtain ⟨t156, A10, H⟩ := bnd H; obtain ⟨t157, A11, H⟩ := bnd H; obtain ⟨t158, A12, H⟩ := bnd H; obtain rfl := Option.some.inj H; go_enter Try.func59, Try.ntmps59
    go_wp2_with (first | ((with_reducible refine gate_callee (f := 73) rfl ?_); refine goesK (some 24) Try.func73 #[.int .i64 a0, .int .i64 a2] ?_; (with_reducible refine (impl_split.calls k a0 a2 t152 t153 _ A7.out).mono ?_); rintro e w' ⟨rfl, ⟨nd, rfl⟩⟩; refine ⟨_, rfl, ?_⟩) | ((with_reducible refine gate_callee (f := 73) rfl ?_); refine goesK (some 30) Try.func73 #[.int .i64 a1, .int .i64 a2] ?_; (with_reducible refine (impl_split.calls k a1 a2 t154 t155 _ A8.out).mono ?_); rintro e w' ⟨rfl, ⟨nd, rfl⟩⟩; refine ⟨_, rfl, ?_⟩) | ((with_reducible refine gate_callee (f := 74) rfl ?_); refine goesK (some 59) Try.func74 #[.int .i64 t153, .int .i64 8] ?_; (with_reducible refine (impl_rest.calls t153 8 t156 _ A10.out).mono ?_); rintro e w' ⟨rfl, ⟨nd, rfl⟩⟩; refine ⟨_, rfl, ?_⟩) | ((with_reducible refine gate_callee (f := 74) rfl ?_); refine goesK (some 61) Try.func74 #[.int .i64 t155, .int .i64 8] ?_; (with_reducible refine (impl_rest.calls t155 8 t157 _ A11.out).mono ?_); rintro e w' ⟨rfl, ⟨nd, rfl⟩⟩; refine ⟨_, rfl, ?_⟩) | ((with_reducible refine gate_callee (f := 33) rfl ?_); refine goesK (some 86) Try.func33 #[.int .i64 (-1), .int .i64 (Int.tmod (wrap64 ((wrap64 ((wrap64 ((wrap64 (Int.tdiv (wrap64 (t156 - 1)) 2)) * (wrap64 (Int.tdiv (wrap64 (t157 - 1)) 2)))) + (wrap64 (Int.tdiv (wrap64 (t152 * (wrap64 ((wrap64 (t157 * t157)) - 1)))) 8)))) + (wrap64 (Int.tdiv (wrap64 (t154 * (wrap64 ((wrap64 (t156 * t156)) - 1)))) 8)))) 2)] ?_; (with_reducible refine (impl_power.calls k (-1) (Int.tmod (wrap64 ((wrap64 ((wrap64 ((wrap64 (Int.tdiv (wrap64 (t156 - 1)) 2)) * (wrap64 (Int.tdiv (wrap64 (t157 - 1)) 2)))) + (wrap64 (Int.tdiv (wrap64 (t152 * (wrap64 ((wrap64 (t157 * t157)) - 1)))) 8)))) + (wrap64 (Int.tdiv (wrap64 (t154 * (wrap64 ((wrap64 (t156 * t156)) - 1)))) 8)))) 2) t158 _ A12.out).mono ?_); rintro e w' ⟨rfl, ⟨nd, rfl⟩⟩; refine ⟨_, rfl, ?_⟩))
    go_ret
    exact ⟨by first | rfl | (simp; done) | (simp [*]; done), by repeat (first | exact Drawn0.refl _ | apply Drawn0.step)⟩
  rw [if_neg c9] at H; have c9b0 : (a2 == 2) = false := beq_eq_false_iff_ne.mpr c9; have c9b1 : (a2 != 2) = true := bne_iff_ne.mpr c9; obtain ⟨t159, A13, H⟩ := bnd H; obtain ⟨t160, A14, H⟩ := bnd H; obtain ⟨t161, A15, H⟩ := bnd H; obtain ⟨t162, A16, H⟩ := bnd H; obtain ⟨t163, A17, H⟩ := bnd H; obtain rfl := Option.some.inj H; go_enter Try.func59, Try.ntmps59
  go_wp2_with (first | ((with_reducible refine gate_callee (f := 73) rfl ?_); refine goesK (some 24) Try.func73 #[.int .i64 a0, .int .i64 a2] ?_; (with_reducible refine (impl_split.calls k a0 a2 t152 t153 _ A7.out).mono ?_); rintro e w' ⟨rfl, ⟨nd, rfl⟩⟩; refine ⟨_, rfl, ?_⟩) | ((with_reducible refine gate_callee (f := 73) rfl ?_); refine goesK (some 30) Try.func73 #[.int .i64 a1, .int .i64 a2] ?_; (with_reducible refine (impl_split.calls k a1 a2 t154 t155 _ A8.out).mono ?_); rintro e w' ⟨rfl, ⟨nd, rfl⟩⟩; refine ⟨_, rfl, ?_⟩) | ((with_reducible refine gate_callee (f := 33) rfl ?_); refine goesK (some 43) Try.func33 #[.int .i64 (-1), .int .i64 (Int.tmod (wrap64 (Int.tdiv (wrap64 ((wrap64 (t152 * t154)) * (wrap64 (a2 - 1)))) 2)) 2)] ?_; (with_reducible refine (impl_power.calls k (-1) (Int.tmod (wrap64 (Int.tdiv (wrap64 ((wrap64 (t152 * t154)) * (wrap64 (a2 - 1)))) 2)) 2) t159 _ A13.out).mono ?_); rintro e w' ⟨rfl, ⟨nd, rfl⟩⟩; refine ⟨_, rfl, ?_⟩) | ((with_reducible refine gate_callee (f := 75) rfl ?_); refine goesK (some 46) Try.func75 #[.int .i64 t153, .int .i64 a2] ?_; (with_reducible refine (impl_residue.calls k t153 a2 t160 _ A14.out).mono ?_); rintro e w' ⟨rfl, ⟨nd, rfl⟩⟩; refine ⟨_, rfl, ?_⟩) | ((with_reducible refine gate_callee (f := 33) rfl ?_); refine goesK (some 49) Try.func33 #[.int .i64 t160, .int .i64 (Int.tmod t154 2)] ?_; (with_reducible refine (impl_power.calls k t160 (Int.tmod t154 2) t161 _ A15.out).mono ?_); rintro e w' ⟨rfl, ⟨nd, rfl⟩⟩; refine ⟨_, rfl, ?_⟩) | ((with_reducible refine gate_callee (f := 75) rfl ?_); refine goesK (some 53) Try.func75 #[.int .i64 t155, .int .i64 a2] ?_; (with_reducible refine (impl_residue.calls k t155 a2 t162 _ A16.out).mono ?_); rintro e w' ⟨rfl, ⟨nd, rfl⟩⟩; refine ⟨_, rfl, ?_⟩) | ((with_reducible refine gate_callee (f := 33) rfl ?_); refine goesK (some 56) Try.func33 #[.int .i64 t162, .int .i64 (Int.tmod t152 2)] ?_; (with_reducible refine (impl_power.calls k t162 (Int.tmod t152 2) t163 _ A17.out).mono ?_); rintro e w' ⟨rfl, ⟨nd, rfl⟩⟩; refine ⟨_, rfl, ?_⟩))
  go_ret
  exact ⟨by first | rfl | (simp; done) | (simp [*]; done), by repeat (first | exact Drawn0.refl _ | apply Drawn0.step)⟩

/-! ### impl_invariant: function 58 -/
mutual
def impl_invariant.l0 : Nat → List Int → Int → Int → List Int → Int → Int → Option (Int)
  | 0, _, _, _, _, _, _ => none
  | k + 1, x0, x1, x5, x10, x11, x12 => if x12 < x11 then (if 0 ≤ x12 then (if x12 < (x10.length : Int) then (if x12 ≤ (x0.length : Int) then (impl_invariant.l1 k x0 x1 x5 (rd x10 x12) x10 x11 x12 (x0.take (x12 : Int).toNat) ((x0.take (x12 : Int).toNat).length : Int) 0) else (none)) else (none)) else (none)) else (some x5)
def impl_invariant.l1 : Nat → List Int → Int → Int → Int → List Int → Int → Int → List Int → Int → Int → Option (Int)
  | 0, _, _, _, _, _, _, _, _, _, _ => none
  | k + 1, x0, x1, x5, x7, x10, x11, x12, x19, x20, x21 => if x21 < x20 then (if 0 ≤ x21 then (if x21 < (x19.length : Int) then ((impl_symbol.f k x7 (rd x19 x21) x1).bind fun t167 => (impl_invariant.l1 k x0 x1 (wrap64 (x5 * t167)) x7 x10 x11 x12 x19 x20 (wrap64 (x21 + 1)))) else (none)) else (none)) else (impl_invariant.l0 k x0 x1 x5 x10 x11 (wrap64 (x12 + 1)))
end
def impl_invariant.f (k : Nat) (l0 : List Int) (a1 : Int) : Option (Int) := impl_invariant.l0 k l0 a1 1 l0 (l0.length : Int) 0
theorem impl_invariant.mono_l : ∀ k, (∀ y0 y1 y2 y3 y4 y5, LeO (impl_invariant.l0 k y0 y1 y2 y3 y4 y5) (impl_invariant.l0 (k + 1) y0 y1 y2 y3 y4 y5)) ∧ (∀ y0 y1 y2 y3 y4 y5 y6 y7 y8 y9, LeO (impl_invariant.l1 k y0 y1 y2 y3 y4 y5 y6 y7 y8 y9) (impl_invariant.l1 (k + 1) y0 y1 y2 y3 y4 y5 y6 y7 y8 y9))
  | 0 => ⟨fun _ _ _ _ _ _ r h => by simp [impl_invariant.l0] at h, fun _ _ _ _ _ _ _ _ _ _ r h => by simp [impl_invariant.l1] at h⟩
  | k + 1 => by
    obtain ⟨ih0, ih1⟩ := impl_invariant.mono_l k
    refine ⟨?_, ?_⟩ <;> intros <;> (first | unfold impl_invariant.l0 | unfold impl_invariant.l1) <;> (repeat' first
      | (with_reducible exact ih0 _ _ _ _ _ _)
      | (with_reducible exact ih1 _ _ _ _ _ _ _ _ _ _)
      | (with_reducible exact impl_symbol.mono _ _ _ _)
      | (with_reducible exact LeO.refl _)
      | (with_reducible exact LeO.none _)
      | (with_reducible refine LeO.ite ?_ ?_)
      | (with_reducible refine LeO.bind ?_ (fun _ => ?_))
      | exact ih0 _ _ _ _ _ _
      | exact ih1 _ _ _ _ _ _ _ _ _ _
      | exact impl_symbol.mono _ _ _ _
      | exact LeO.none _
      | refine LeO.ite ?_ ?_
      | refine LeO.bind ?_ (fun _ => ?_))
theorem impl_invariant.mono : ∀ a0 a1 k, LeO (impl_invariant.f k a0 a1) (impl_invariant.f (k + 1) a0 a1) := by
  intro a0 a1 k
  obtain ⟨ih0, ih1⟩ := impl_invariant.mono_l k
  unfold impl_invariant.f
  repeat' first
      | (with_reducible exact ih0 _ _ _ _ _ _)
      | (with_reducible exact ih1 _ _ _ _ _ _ _ _ _ _)
      | (with_reducible exact impl_symbol.mono _ _ _ _)
      | (with_reducible exact LeO.refl _)
      | (with_reducible exact LeO.none _)
      | (with_reducible refine LeO.ite ?_ ?_)
      | (with_reducible refine LeO.bind ?_ (fun _ => ?_))
      | exact ih0 _ _ _ _ _ _
      | exact ih1 _ _ _ _ _ _ _ _ _ _
      | exact impl_symbol.mono _ _ _ _
      | exact LeO.none _
      | refine LeO.ite ?_ ?_
      | refine LeO.bind ?_ (fun _ => ?_)
set_option maxHeartbeats 8000000 in
set_option maxRecDepth 100000 in
theorem impl_invariant.calls (k : Nat) (A0 : Option Addr) (c0 : Nat) (l0 : List Int) (a1 : Int) (r : Int) (w : World) (hr0 : Kd.C (Kd.int .i64) w A0 l0.length l0) (hc0 : l0.length ≤ c0) (h : impl_invariant.f k l0 a1 = some r) :
    Calls Try.prog 58 #[.slice A0 l0.length c0, .int .i64 a1] w fun e w' => e = .returned (.int .i64 r) ∧ Drawn0 w w' := by
  have HR0 := Aside0.mk hr0; have HC0 := Aside0.mk hc0; clear hr0 hc0; unfold impl_invariant.f at h; have H := h; clear h; have H' := Aside0.mk H; clear H; go_enter Try.func58, Try.ntmps58
  go_wp2
  go_loopg [5, 12] k (fun kq v5 v12 w' => ∃ (x5_1 : Int) (x12_1 : Int), v5 = .int .i64 x5_1 ∧ v12 = .int .i64 x12_1 ∧ Aside0 (impl_invariant.l0 kq l0 a1 x5_1 l0 (l0.length : Int) x12_1 = some r) ∧ Aside0 (kq ≤ k) ∧ Drawn0 w w')
  case atStart => exact ⟨(1), (0), sR, sR, H', ⟨Nat.le_refl _⟩, by repeat (first | exact Drawn0.refl _ | apply Drawn0.step)⟩
  case round =>
    clear H'; obtain ⟨x5_1, x12_1, rfl, rfl, HA, HK1, ⟨m1, rfl⟩⟩ := hrel; cases gk with
    | zero => exact absurd HA.out (by simp [impl_invariant.l0])
    | succ k1 =>
      have H := HA.out; clear HA; simp only [impl_invariant.l0] at H
      by_cases c3 : x12_1 < (l0.length : Int)
      · rw [if_pos c3] at H
        have c3b0 : decide (x12_1 < (l0.length : Int)) = true := decide_eq_true c3; clear c3; obtain ⟨c4, H⟩ := ifN H; have c4b0 : decide (0 ≤ x12_1) = true := decide_eq_true c4; clear c4; obtain ⟨c5, H⟩ := ifN H; have c5b0 : decide (x12_1 < (l0.length : Int)) = true := decide_eq_true c5; clear c5; have c6b0 := eq_true (oD : 0 ≤ x12_1); obtain ⟨c7, H⟩ := ifN H; have c7b0 := eq_true c7; have c7b1 : decide (x12_1 ≤ (l0.length : Int)) = true := decide_eq_true c7; clear c7; have H' := Aside0.mk H; clear H; have p164 : 0 ≤ (x12_1 : Int) := oD; have q164 : x12_1 < (l0.length : Int) := oD; obtain ⟨ad164, e164, hx164_0⟩ := Kd.at_int HR0.out x12_1 p164 q164; cases e164; replace p164 := eq_true p164; replace q164 := eq_true q164; obtain ⟨i08, hi08, _, hsz8, _⟩ := info_parts info3; obtain ⟨hcut8, hA8, hC8⟩ := print_take_of (P := Try.prog) (Value.int .i64) 0 23 3 .i64 Try.underlying23 hi08 hsz8 (some ad164) c0 l0 x12_1 (oD) (oD) HC0.out; have HR165 := Aside0.mk (Kd.C_of_reads (h1 := fun _ => rfl) (hA8 _ (Kd.reads_of_C HR0.out))); have HC165 := Aside0.mk hC8; have HM165 := Aside0.mk (show max x12_1 0 = ((l0.take (x12_1 : Int).toNat).length : Int) by have h1_ : 0 ≤ x12_1 := of_decide_eq_true (by assumption); have h2_ : x12_1 ≤ (l0.length : Int) := of_decide_eq_true (by assumption); rw [List.length_take]; omega); clear hA8 hC8 hi08 hsz8
        go_wp2
        go_loopg [5, 21] k1 (fun kq v5 v21 w' => ∃ (x5_2 : Int) (x21_2 : Int), v5 = .int .i64 x5_2 ∧ v21 = .int .i64 x21_2 ∧ Aside0 (impl_invariant.l1 kq l0 a1 x5_2 (rd l0 x12_1) l0 (l0.length : Int) x12_1 (l0.take (x12_1 : Int).toNat) ((l0.take (x12_1 : Int).toNat).length : Int) x21_2 = some r) ∧ Aside0 (kq ≤ k1) ∧ Drawn0 w w')
        case atStart => exact ⟨(x5_1), (0), sR, sR, H', ⟨Nat.le_refl _⟩, by repeat (first | exact Drawn0.refl _ | apply Drawn0.step)⟩
        case round =>
          clear H'; (try clear c3); (try clear c3b0); (try clear c4); (try clear c4b0); (try clear c5); (try clear c5b0); (try clear c6b0); (try clear c7); (try clear c7b0); (try clear c7b1); (try clear hx164_0); (try clear p164); (try clear q164); obtain ⟨x5_2, x21_2, rfl, rfl, HA, HK2, ⟨m2, rfl⟩⟩ := hrel; cases gk with
          | zero => exact absurd HA.out (by simp [impl_invariant.l1])
          | succ k2 =>
            have H := HA.out; clear HA; simp only [impl_invariant.l1] at H
            by_cases c9 : x21_2 < ((l0.take (x12_1 : Int).toNat).length : Int)
            · rw [if_pos c9] at H
              have c9b0 : decide (x21_2 < ((l0.take (x12_1 : Int).toNat).length : Int)) = true := decide_eq_true c9
              have c9bm : decide (x21_2 < max x12_1 0) = true := by rw [show max x12_1 0 = ((l0.take (x12_1 : Int).toNat).length : Int) from Aside0.out (by assumption)]; exact c9b0
              have c9bq : (x21_2 < max x12_1 0) = True := eq_true (of_decide_eq_true c9bm); clear c9; obtain ⟨c10, H⟩ := ifN H; have c10b0 : decide (0 ≤ x21_2) = true := decide_eq_true c10; clear c10; obtain ⟨c11, H⟩ := ifN H; have c11b0 : decide (x21_2 < ((l0.take (x12_1 : Int).toNat).length : Int)) = true := decide_eq_true c11
              have c11bm : decide (x21_2 < max x12_1 0) = true := by rw [show max x12_1 0 = ((l0.take (x12_1 : Int).toNat).length : Int) from Aside0.out (by assumption)]; exact c11b0
              have c11bq : (x21_2 < max x12_1 0) = True := eq_true (of_decide_eq_true c11bm); clear c11; obtain ⟨t167, A12, H⟩ := bnd H; have H' := Aside0.mk H; clear H; have p166 : 0 ≤ (x21_2 : Int) := oD; have q166 : x21_2 < ((l0.take (x12_1 : Int).toNat).length : Int) := oD; obtain ⟨ad166, e166, hx166_0⟩ := Kd.at_int HR165.out x21_2 p166 q166; obtain rfl : ad164 = ad166 := (by injection e166); replace p166 := eq_true p166; replace q166 := eq_true q166
              go_wp2_with (first | ((with_reducible refine gate_callee (f := 59) rfl ?_); refine goesK (some 29) Try.func59 #[.int .i64 (rd l0 x12_1), .int .i64 (rd (l0.take (x12_1 : Int).toNat) x21_2), .int .i64 a1] ?_; (with_reducible refine (impl_symbol.calls k2 (rd l0 x12_1) (rd (l0.take (x12_1 : Int).toNat) x21_2) a1 t167 _ A12.out).mono ?_); rintro e w' ⟨rfl, ⟨nd, rfl⟩⟩; refine ⟨_, rfl, ?_⟩))
              go_roundg k2
              case measure => have := HK1.out; have := HK2.out; omega
              case rel => exact ⟨(wrap64 (x5_2 * t167)), (wrap64 (x21_2 + 1)), sR, sR, H', ⟨by have := HK1.out; have := HK2.out; omega⟩, by repeat (first | exact Drawn0.refl _ | apply Drawn0.step)⟩
            rw [if_neg c9] at H; have c9b0 : decide (x21_2 < ((l0.take (x12_1 : Int).toNat).length : Int)) = false := decide_eq_false c9
            have c9bm : decide (x21_2 < max x12_1 0) = false := by rw [show max x12_1 0 = ((l0.take (x12_1 : Int).toNat).length : Int) from Aside0.out (by assumption)]; exact c9b0
            clear c9; have H' := Aside0.mk H; clear H
            go_wp2
            go_roundg k2
            case measure => have := HK1.out; have := HK2.out; omega
            case rel => exact ⟨(x5_2), (wrap64 (x12_1 + 1)), sR, sR, H', ⟨by have := HK1.out; have := HK2.out; omega⟩, by repeat (first | exact Drawn0.refl _ | apply Drawn0.step)⟩
      rw [if_neg c3] at H; have c3b0 : decide (x12_1 < (l0.length : Int)) = false := decide_eq_false c3; clear c3; obtain rfl := Option.some.inj H
      go_wp2
      go_ret
      exact ⟨by first | rfl | (simp; done) | (simp [*]; done), by repeat (first | exact Drawn0.refl _ | apply Drawn0.step)⟩

/-! ### impl_vanishes: function 31 -/
def impl_vanishes.f (k : Nat) (l0 : List Int) (a1 : Int) : Option (Bool) := (impl_product.f k l0).bind fun t168 => (if a1 = 0 then ((impl_lessTerms.f k l0).bind fun t169 => (if t169 > 0 then (some (decide (t169 < (l0.length : Int)))) else (some false))) else (if (l0.length : Int) = 2 then ((impl_localSquare.f k (wrap64 (-t168)) a1).bind fun t170 => (some t170)) else (if (l0.length : Int) = 3 then ((impl_invariant.f k l0 a1).bind fun t171 => ((impl_symbol.f k (-1) (wrap64 (-t168)) a1).bind fun t172 => (some (t171 == t172)))) else (if (l0.length : Int) = 4 then ((impl_localSquare.f k t168 a1).bind fun t173 => (if t173 = true then ((impl_invariant.f k l0 a1).bind fun t174 => ((impl_symbol.f k (-1) (-1) a1).bind fun t175 => (some (t174 == t175)))) else (some true))) else (some false)))))
theorem impl_vanishes.mono : ∀ a0 a1 k, LeO (impl_vanishes.f k a0 a1) (impl_vanishes.f (k + 1) a0 a1) := by
  intro a0 a1 k
  unfold impl_vanishes.f
  repeat' first
      | (with_reducible exact impl_invariant.mono _ _ _)
      | (with_reducible exact impl_lessTerms.mono _ _)
      | (with_reducible exact impl_localSquare.mono _ _ _)
      | (with_reducible exact impl_product.mono _ _)
      | (with_reducible exact impl_symbol.mono _ _ _ _)
      | (with_reducible exact LeO.refl _)
      | (with_reducible exact LeO.none _)
      | (with_reducible refine LeO.ite ?_ ?_)
      | (with_reducible refine LeO.bind ?_ (fun _ => ?_))
      | exact impl_invariant.mono _ _ _
      | exact impl_lessTerms.mono _ _
      | exact impl_localSquare.mono _ _ _
      | exact impl_product.mono _ _
      | exact impl_symbol.mono _ _ _ _
      | exact LeO.none _
      | refine LeO.ite ?_ ?_
      | refine LeO.bind ?_ (fun _ => ?_)
set_option maxHeartbeats 8000000 in
set_option maxRecDepth 100000 in
theorem impl_vanishes.calls (k : Nat) (A0 : Option Addr) (c0 : Nat) (l0 : List Int) (a1 : Int) (r : Bool) (w : World) (hr0 : Kd.C (Kd.int .i64) w A0 l0.length l0) (hc0 : l0.length ≤ c0) (h : impl_vanishes.f k l0 a1 = some r) :
    Calls Try.prog 31 #[.slice A0 l0.length c0, .int .i64 a1] w fun e w' => e = .returned (.bool r) ∧ Drawn0 w w' := by
  have HR0 := Aside0.mk hr0; have HC0 := Aside0.mk hc0; clear hr0 hc0; unfold impl_vanishes.f at h; have H := h; clear h; obtain ⟨t168, A3, H⟩ := bnd H
  by_cases c4 : a1 = 0
  · rw [if_pos c4] at H
    have c4b0 : (a1 == 0) = true := beq_iff_eq.mpr c4; have c4b1 : (a1 != 0) = false := bne_eq_false_iff_eq.mpr c4; clear c4; obtain ⟨t169, A5, H⟩ := bnd H
    by_cases c6 : t169 > 0
    · rw [if_pos c6] at H
      have c6b0 : decide (0 < t169) = true := decide_eq_true c6; clear c6; obtain rfl := Option.some.inj H; go_enter Try.func31, Try.ntmps31
      go_wp2_with (first | ((with_reducible refine gate_callee (f := 55) rfl ?_); refine goesK (some 8) Try.func55 #[.slice A0 l0.length c0] ?_; (with_reducible refine (impl_product.calls k _ _ l0 t168 _ ?side1 ?side2 A3.out).mono ?_); (case side1 => exact U HR0.out); (case side2 => exact HC0.out); rintro e w' ⟨rfl, ⟨nd, rfl⟩⟩; refine ⟨_, rfl, ?_⟩) | ((with_reducible refine gate_callee (f := 56) rfl ?_); refine goesK (some 12) Try.func56 #[.slice A0 l0.length c0] ?_; (with_reducible refine (impl_lessTerms.calls k _ _ l0 t169 _ ?side1 ?side2 A5.out).mono ?_); (case side1 => exact U HR0.out); (case side2 => exact HC0.out); rintro e w' ⟨rfl, ⟨nd, rfl⟩⟩; refine ⟨_, rfl, ?_⟩))
      go_ret
      exact ⟨by first | rfl | (simp; done) | (simp [*]; done), by repeat (first | exact Drawn0.refl _ | apply Drawn0.step)⟩
    rw [if_neg c6] at H; have c6b0 : decide (0 < t169) = false := decide_eq_false c6; clear c6; obtain rfl := Option.some.inj H; go_enter Try.func31, Try.ntmps31
    go_wp2_with (first | ((with_reducible refine gate_callee (f := 55) rfl ?_); refine goesK (some 8) Try.func55 #[.slice A0 l0.length c0] ?_; (with_reducible refine (impl_product.calls k _ _ l0 t168 _ ?side1 ?side2 A3.out).mono ?_); (case side1 => exact U HR0.out); (case side2 => exact HC0.out); rintro e w' ⟨rfl, ⟨nd, rfl⟩⟩; refine ⟨_, rfl, ?_⟩) | ((with_reducible refine gate_callee (f := 56) rfl ?_); refine goesK (some 12) Try.func56 #[.slice A0 l0.length c0] ?_; (with_reducible refine (impl_lessTerms.calls k _ _ l0 t169 _ ?side1 ?side2 A5.out).mono ?_); (case side1 => exact U HR0.out); (case side2 => exact HC0.out); rintro e w' ⟨rfl, ⟨nd, rfl⟩⟩; refine ⟨_, rfl, ?_⟩))
    go_ret
    exact ⟨by first | rfl | (simp; done) | (simp [*]; done), by repeat (first | exact Drawn0.refl _ | apply Drawn0.step)⟩
  rw [if_neg c4] at H; have c4b0 : (a1 == 0) = false := beq_eq_false_iff_ne.mpr c4; have c4b1 : (a1 != 0) = true := bne_iff_ne.mpr c4
  by_cases c7 : (l0.length : Int) = 2
  · rw [if_pos c7] at H
    have c7b0 : ((l0.length : Int) == 2) = true := beq_iff_eq.mpr c7; have c7b1 : ((l0.length : Int) != 2) = false := bne_eq_false_iff_eq.mpr c7; clear c7; obtain ⟨t170, A8, H⟩ := bnd H; obtain rfl := Option.some.inj H; go_enter Try.func31, Try.ntmps31
    go_wp2_with (first | ((with_reducible refine gate_callee (f := 55) rfl ?_); refine goesK (some 8) Try.func55 #[.slice A0 l0.length c0] ?_; (with_reducible refine (impl_product.calls k _ _ l0 t168 _ ?side1 ?side2 A3.out).mono ?_); (case side1 => exact U HR0.out); (case side2 => exact HC0.out); rintro e w' ⟨rfl, ⟨nd, rfl⟩⟩; refine ⟨_, rfl, ?_⟩) | ((with_reducible refine gate_callee (f := 57) rfl ?_); refine goesK (some 28) Try.func57 #[.int .i64 (wrap64 (-t168)), .int .i64 a1] ?_; (with_reducible refine (impl_localSquare.calls k (wrap64 (-t168)) a1 t170 _ A8.out).mono ?_); rintro e w' ⟨rfl, ⟨nd, rfl⟩⟩; refine ⟨_, rfl, ?_⟩))
    go_ret
    exact ⟨by first | rfl | (simp; done) | (simp [*]; done), by repeat (first | exact Drawn0.refl _ | apply Drawn0.step)⟩
  rw [if_neg c7] at H; have c7b0 : ((l0.length : Int) == 2) = false := beq_eq_false_iff_ne.mpr c7; have c7b1 : ((l0.length : Int) != 2) = true := bne_iff_ne.mpr c7
  by_cases c9 : (l0.length : Int) = 3
  · rw [if_pos c9] at H
    have c9b0 : ((l0.length : Int) == 3) = true := beq_iff_eq.mpr c9; have c9b1 : ((l0.length : Int) != 3) = false := bne_eq_false_iff_eq.mpr c9; clear c9; obtain ⟨t171, A10, H⟩ := bnd H; obtain ⟨t172, A11, H⟩ := bnd H; obtain rfl := Option.some.inj H; go_enter Try.func31, Try.ntmps31
    go_wp2_with (first | ((with_reducible refine gate_callee (f := 55) rfl ?_); refine goesK (some 8) Try.func55 #[.slice A0 l0.length c0] ?_; (with_reducible refine (impl_product.calls k _ _ l0 t168 _ ?side1 ?side2 A3.out).mono ?_); (case side1 => exact U HR0.out); (case side2 => exact HC0.out); rintro e w' ⟨rfl, ⟨nd, rfl⟩⟩; refine ⟨_, rfl, ?_⟩) | ((with_reducible refine gate_callee (f := 58) rfl ?_); refine goesK (some 33) Try.func58 #[.slice A0 l0.length c0, .int .i64 a1] ?_; (with_reducible refine (impl_invariant.calls k _ _ l0 a1 t171 _ ?side1 ?side2 A10.out).mono ?_); (case side1 => exact U HR0.out); (case side2 => exact HC0.out); rintro e w' ⟨rfl, ⟨nd, rfl⟩⟩; refine ⟨_, rfl, ?_⟩) | ((with_reducible refine gate_callee (f := 59) rfl ?_); refine goesK (some 37) Try.func59 #[.int .i64 (-1), .int .i64 (wrap64 (-t168)), .int .i64 a1] ?_; (with_reducible refine (impl_symbol.calls k (-1) (wrap64 (-t168)) a1 t172 _ A11.out).mono ?_); rintro e w' ⟨rfl, ⟨nd, rfl⟩⟩; refine ⟨_, rfl, ?_⟩))
    go_ret
    exact ⟨by first | rfl | (simp; done) | (simp [*]; done), by repeat (first | exact Drawn0.refl _ | apply Drawn0.step)⟩
  rw [if_neg c9] at H; have c9b0 : ((l0.length : Int) == 3) = false := beq_eq_false_iff_ne.mpr c9; have c9b1 : ((l0.length : Int) != 3) = true := bne_iff_ne.mpr c9
  by_cases c12 : (l0.length : Int) = 4
  · rw [if_pos c12] at H
    have c12b0 : ((l0.length : Int) == 4) = true := beq_iff_eq.mpr c12; have c12b1 : ((l0.length : Int) != 4) = false := bne_eq_false_iff_eq.mpr c12; clear c12; obtain ⟨t173, A13, H⟩ := bnd H
    by_cases c14 : t173 = true
    · subst c14
      replace H := ifT H; obtain ⟨t174, A15, H⟩ := bnd H; obtain ⟨t175, A16, H⟩ := bnd H; obtain rfl := Option.some.inj H; go_enter Try.func31, Try.ntmps31
      go_wp2_with (first | ((with_reducible refine gate_callee (f := 55) rfl ?_); refine goesK (some 8) Try.func55 #[.slice A0 l0.length c0] ?_; (with_reducible refine (impl_product.calls k _ _ l0 t168 _ ?side1 ?side2 A3.out).mono ?_); (case side1 => exact U HR0.out); (case side2 => exact HC0.out); rintro e w' ⟨rfl, ⟨nd, rfl⟩⟩; refine ⟨_, rfl, ?_⟩) | ((with_reducible refine gate_callee (f := 57) rfl ?_); refine goesK (some 43) Try.func57 #[.int .i64 t168, .int .i64 a1] ?_; (with_reducible refine (impl_localSquare.calls k t168 a1 true _ A13.out).mono ?_); rintro e w' ⟨rfl, ⟨nd, rfl⟩⟩; refine ⟨_, rfl, ?_⟩) | (go_at_call 58; (with_reducible refine (impl_invariant.calls k _ _ l0 a1 t174 _ ?side1 ?side2 A15.out).mono ?_); (case side1 => exact U HR0.out); (case side2 => exact HC0.out); rintro e w' ⟨rfl, ⟨nd, rfl⟩⟩) | (go_at_call 59; (with_reducible refine (impl_symbol.calls k (-1) (-1) a1 t175 _ A16.out).mono ?_); rintro e w' ⟨rfl, ⟨nd, rfl⟩⟩))
      go_ret
      exact ⟨by first | rfl | (simp; done) | (simp [*]; done), by repeat (first | exact Drawn0.refl _ | apply Drawn0.step)⟩
    replace c14 := Bool.eq_false_iff.mpr c14; subst c14; replace H := ifF H; obtain rfl := Option.some.inj H; go_enter Try.func31, Try.ntmps31
    go_wp2_with (first | ((with_reducible refine gate_callee (f := 55) rfl ?_); refine goesK (some 8) Try.func55 #[.slice A0 l0.length c0] ?_; (with_reducible refine (impl_product.calls k _ _ l0 t168 _ ?side1 ?side2 A3.out).mono ?_); (case side1 => exact U HR0.out); (case side2 => exact HC0.out); rintro e w' ⟨rfl, ⟨nd, rfl⟩⟩; refine ⟨_, rfl, ?_⟩) | ((with_reducible refine gate_callee (f := 57) rfl ?_); refine goesK (some 43) Try.func57 #[.int .i64 t168, .int .i64 a1] ?_; (with_reducible refine (impl_localSquare.calls k t168 a1 false _ A13.out).mono ?_); rintro e w' ⟨rfl, ⟨nd, rfl⟩⟩; refine ⟨_, rfl, ?_⟩))
    go_ret
    exact ⟨by first | rfl | (simp; done) | (simp [*]; done), by repeat (first | exact Drawn0.refl _ | apply Drawn0.step)⟩
  rw [if_neg c12] at H; have c12b0 : ((l0.length : Int) == 4) = false := beq_eq_false_iff_ne.mpr c12; have c12b1 : ((l0.length : Int) != 4) = true := bne_iff_ne.mpr c12; obtain rfl := Option.some.inj H; go_enter Try.func31, Try.ntmps31
  go_wp2_with (first | ((with_reducible refine gate_callee (f := 55) rfl ?_); refine goesK (some 8) Try.func55 #[.slice A0 l0.length c0] ?_; (with_reducible refine (impl_product.calls k _ _ l0 t168 _ ?side1 ?side2 A3.out).mono ?_); (case side1 => exact U HR0.out); (case side2 => exact HC0.out); rintro e w' ⟨rfl, ⟨nd, rfl⟩⟩; refine ⟨_, rfl, ?_⟩))
  go_ret
  exact ⟨by first | rfl | (simp; done) | (simp [*]; done), by repeat (first | exact Drawn0.refl _ | apply Drawn0.step)⟩

/-! ### impl_FormBad: function 9 -/
def impl_FormBad.l0 : Nat → List Int → List Int → List Int → Int → Int → Option (List Int)
  | 0, _, _, _, _, _ => none
  | k + 1, x0, x3, x8, x9, x10 => if x10 < x9 then (if 0 ≤ x10 then (if x10 < (x8.length : Int) then ((impl_vanishes.f k x0 (rd x8 x10)).bind fun t183 => (if t183 = true then (impl_FormBad.l0 k x0 x3 x8 x9 (wrap64 (x10 + 1))) else (if x3.length < 17592186044416 then (impl_FormBad.l0 k x0 (x3 ++ [rd x8 x10]) x8 x9 (wrap64 (x10 + 1))) else (none)))) else (none)) else (none)) else (some x3)
def impl_FormBad.f (k : Nat) (l0 : List Int) : Option (List Int) := (impl_FormPlaces.f k l0).bind fun t179 => (impl_FormBad.l0 k l0 (([] : List Int)) t179 (t179.length : Int) 0)
theorem impl_FormBad.mono_l : ∀ k, (∀ y0 y1 y2 y3 y4, LeO (impl_FormBad.l0 k y0 y1 y2 y3 y4) (impl_FormBad.l0 (k + 1) y0 y1 y2 y3 y4))
  | 0 => fun _ _ _ _ _ r h => by simp [impl_FormBad.l0] at h
  | k + 1 => by
    have ih0 := impl_FormBad.mono_l k
    · intro y0 y1 y2 y3 y4
      unfold impl_FormBad.l0
      repeat' first
      | (with_reducible exact ih0 _ _ _ _ _)
      | (with_reducible exact impl_FormPlaces.mono _ _)
      | (with_reducible exact impl_vanishes.mono _ _ _)
      | (with_reducible exact LeO.refl _)
      | (with_reducible exact LeO.none _)
      | (with_reducible refine LeO.ite ?_ ?_)
      | (with_reducible refine LeO.bind ?_ (fun _ => ?_))
      | exact ih0 _ _ _ _ _
      | exact impl_FormPlaces.mono _ _
      | exact impl_vanishes.mono _ _ _
      | exact LeO.none _
      | refine LeO.ite ?_ ?_
      | refine LeO.bind ?_ (fun _ => ?_)
theorem impl_FormBad.mono : ∀ a0 k, LeO (impl_FormBad.f k a0) (impl_FormBad.f (k + 1) a0) := by
  intro a0 k
  have ih0 := impl_FormBad.mono_l k
  unfold impl_FormBad.f
  repeat' first
      | (with_reducible exact ih0 _ _ _ _ _)
      | (with_reducible exact impl_FormPlaces.mono _ _)
      | (with_reducible exact impl_vanishes.mono _ _ _)
      | (with_reducible exact LeO.refl _)
      | (with_reducible exact LeO.none _)
      | (with_reducible refine LeO.ite ?_ ?_)
      | (with_reducible refine LeO.bind ?_ (fun _ => ?_))
      | exact ih0 _ _ _ _ _
      | exact impl_FormPlaces.mono _ _
      | exact impl_vanishes.mono _ _ _
      | exact LeO.none _
      | refine LeO.ite ?_ ?_
      | refine LeO.bind ?_ (fun _ => ?_)
set_option maxHeartbeats 8000000 in
set_option maxRecDepth 100000 in
theorem impl_FormBad.calls (k : Nat) (A0 : Option Addr) (c0 : Nat) (l0 : List Int) (r : List Int) (w : World) (hr0 : Kd.C (Kd.int .i64) w A0 l0.length l0) (hc0 : l0.length ≤ c0) (h : impl_FormBad.f k l0 = some r) :
    Calls Try.prog 9 #[.slice A0 l0.length c0] w fun e w' => ∃ v0_ : Value, e = .returned (v0_) ∧ Kd.R (Kd.int .i64) 3 w' w.heap.size (fun _ => True) v0_ r ∧ Below w.heap.size w w' := by
  have HR0 := Aside0.mk hr0; have HC0 := Aside0.mk hc0; clear hr0 hc0; have HB := Aside0.mk (Below.refl w.heap.size w); unfold impl_FormBad.f at h; have H := h; clear h; obtain ⟨y176, hy176⟩ : ∃ y_ : List Int, y_ = (([] : List Int)) := ⟨_, rfl⟩; replace H : ((impl_FormPlaces.f k l0).bind fun t179 => (impl_FormBad.l0 k l0 y176 t179 (t179.length : Int) 0)) = some r := rH hy176 H; have Ny176 := Aside0.mk hy176; clear hy176; obtain ⟨t179, A2, H⟩ := bnd H; have H' := Aside0.mk H; clear H; go_enter Try.func9, Try.ntmps9
  go_wp2_with (first | ((with_reducible refine gate_dst (N := 6) rfl ?_); refine Kd.R_lit (Kd.int .i64) _ 3 ?hg (N := 6) ?hd (xs := ([] : List Int)) (inner := []) (ok := fun _ => True) (okp := fun _ => True) ?hr ?hp (fun _ hk => hk) trivial (Below.refl _ _) (Nat.le_refl _) (by simp) ?_; (case hd => rfl); (case hg => rfl); (case hr => first | (go_simp; done) | (go_simp; rfl)); (case hp => exact (Reps.none _ _)); intro v177 w3 ho4 hb hg_ hnew_; clear hg_ hnew_; (first | rw [← Ny176.out] at ho4 | (simp only [Int.reduceToNat] at ho4; rw [← Ny176.out] at ho4)); have HO178 := Aside0.mk (Kd.R_lower ho4 (below_size BU)); replace HB := BS hb; clear hb ho4) | ((with_reducible refine gate_callee (f := 30) rfl ?_); refine goesK (some 8) Try.func30 #[.slice A0 l0.length c0] ?_; (with_reducible refine (impl_FormPlaces.calls k _ _ l0 t179 _ ?side1 ?side2 A2.out).mono ?_); (case side1 => exact U (Kd.C_below HR0.out HB.out)); (case side2 => exact HC0.out); rintro e w5 ⟨v180, rfl, ho0, hb⟩; refine ⟨_, rfl, ?_⟩; have HO181 := Aside0.mk (Kd.R_lower (Kd.R_new' ho0 (Kd.R_lt (U HO178.out))) (below_size BU)); replace HO178 := Aside0.mk (Kd.R_elder' (U HO178.out) (Kd.R_base ho0) hb); replace HB := BS hb; (try clear hb); (try clear ho0); obtain ⟨Ao6, co6, eo6⟩ := Kd.R_slice HO181.out; subst eo6))
  go_loopg [3, 10] k (fun kq v3 v10 w' => ∃ (x3_1 : List Int) (x10_1 : Int), v10 = .int .i64 x10_1 ∧ Aside0 (impl_FormBad.l0 kq l0 x3_1 t179 (t179.length : Int) x10_1 = some r) ∧ Aside0 (kq ≤ k) ∧ Aside0 (Kd.R (Kd.int .i64) 3 w' w.heap.size (fun k_ => some k_ ≠ ((.slice Ao6 t179.length co6) : Value).ownBlock) v3 x3_1) ∧ Aside0 (Kd.R (Kd.int .i64) 3 w' w.heap.size (fun k_ => some k_ ≠ (v3 : Value).ownBlock) (.slice Ao6 t179.length co6) t179) ∧ Aside0 (Below w.heap.size w w'))
  case atStart => exact ⟨(y176), (0), sR, H', ⟨Nat.le_refl _⟩, ⟨Kd.RM HO178.out (fun _ hk => hk.2)⟩, ⟨Kd.RM HO181.out (fun _ hk => hk.2)⟩, ⟨BU⟩⟩
  case round =>
    clear H'; obtain ⟨x3_1, x10_1, rfl, HA, HK1, HO_3, HO_8, HB⟩ := hrel; cases gk with
    | zero => exact absurd HA.out (by simp [impl_FormBad.l0])
    | succ k1 =>
      have H := HA.out; clear HA; simp only [impl_FormBad.l0] at H
      by_cases c7 : x10_1 < (t179.length : Int)
      · rw [if_pos c7] at H
        have c7b0 : decide (x10_1 < (t179.length : Int)) = true := decide_eq_true c7; clear c7
        by_cases c8 : 0 ≤ x10_1
        · rw [if_pos c8] at H
          have c8b0 : decide (0 ≤ x10_1) = true := decide_eq_true c8; clear c8
          by_cases c9 : x10_1 < (t179.length : Int)
          · rw [if_pos c9] at H
            have c9b0 : decide (x10_1 < (t179.length : Int)) = true := decide_eq_true c9; clear c9; obtain ⟨t183, A10, H⟩ := bnd H
            by_cases c11 : t183 = true
            · subst c11
              replace H := ifT H; have H' := Aside0.mk H; clear H; have p182 : 0 ≤ (x10_1 : Int) := oD; have q182 : x10_1 < (t179.length : Int) := oD; obtain ⟨ad182, e182, hx182_0⟩ := Kd.at_int (Kd.R_reads' HO_8.out).2.2 x10_1 p182 q182; cases e182; replace p182 := eq_true p182; replace q182 := eq_true q182
              go_wp2_with (first | ((with_reducible refine gate_callee (f := 31) rfl ?_); refine goesK (some 16) Try.func31 #[.slice A0 l0.length c0, .int .i64 (rd t179 x10_1)] ?_; (with_reducible refine (impl_vanishes.calls k1 _ _ l0 (rd t179 x10_1) true _ ?side1 ?side2 A10.out).mono ?_); (case side1 => exact U (Kd.C_below HR0.out HB.out)); (case side2 => exact HC0.out); rintro e w' ⟨rfl, ⟨nd, rfl⟩⟩; refine ⟨_, rfl, ?_⟩))
              go_roundg k1
              case measure => have := HK1.out; omega
              case rel => exact ⟨(x3_1), (wrap64 (x10_1 + 1)), sR, H', ⟨by have := HK1.out; omega⟩, ⟨U HO_3.out⟩, ⟨U HO_8.out⟩, ⟨BU⟩⟩
            · replace c11 := Bool.eq_false_iff.mpr c11
              subst c11; replace H := ifF H
              by_cases c12 : x3_1.length < 17592186044416
              · rw [if_pos c12] at H
                have LMc12 := Aside0.mk c12; clear c12; obtain ⟨y184, hy184⟩ : ∃ y_ : List Int, y_ = (x3_1 ++ [rd t179 x10_1]) := ⟨_, rfl⟩; replace H : (impl_FormBad.l0 k1 l0 y184 t179 (t179.length : Int) (wrap64 (x10_1 + 1))) = some r := rH hy184 H; have Ny184 := Aside0.mk hy184; clear hy184; have H' := Aside0.mk H; clear H; have p182 : 0 ≤ (x10_1 : Int) := oD; have q182 : x10_1 < (t179.length : Int) := oD; obtain ⟨ad182, e182, hx182_0⟩ := Kd.at_int (Kd.R_reads' HO_8.out).2.2 x10_1 p182 q182; cases e182; replace p182 := eq_true p182; replace q182 := eq_true q182
                go_wp2_with (first | ((with_reducible refine gate_callee (f := 31) rfl ?_); refine goesK (some 16) Try.func31 #[.slice A0 l0.length c0, .int .i64 (rd t179 x10_1)] ?_; (with_reducible refine (impl_vanishes.calls k1 _ _ l0 (rd t179 x10_1) false _ ?side1 ?side2 A10.out).mono ?_); (case side1 => exact U (Kd.C_below HR0.out HB.out)); (case side2 => exact HC0.out); rintro e w' ⟨rfl, ⟨nd, rfl⟩⟩; refine ⟨_, rfl, ?_⟩) | ((with_reducible refine gate_builtin (b := .append) (xs := #[.tmp 18, .tmp 20]) rfl ?_); at_builtin; refine Kd.R_append (Kd.int .i64) (w0 := w) w.heap.size rfl (.tmp 18) (.tmp 20) 23 3 (.int .i64 0) 8 rfl Try.underlying23 info3 rfl (by decide) (by omega) u3 x3_1 (rd t179 x10_1) [.int .i64 (rd t179 x10_1)] (fun k_ => some k_ ≠ (.slice (some ad182) t179.length co6 : Value).ownBlock) (fun _ => False) rfl rfl ?aP (fun _ hk => hk.elim) ?aF ?aO ?aB ?aS ?aL ?_; (case aP => exact rfl); (case aB => exact BU); (case aF => exact (fun k_ hk => Kd.fresh' (Kd.R_lt (U HO_8.out)) k_ hk)); (case aO => exact (U HO_3.out)); (case aS => exact (below_size BU)); (case aL => have := LMc12.out; omega); intro v185 w13 ho hb hg hat; rw [← Ny184.out] at ho; have n0_ := Aside0.mk (Kd.R_after (ok := (fun _ => True)) (Kd.RM HO_8.out (fun _ hk => ⟨trivial, hk⟩)) hg hat); have n1_ := Aside0.mk (hb); have n2_ := Aside0.mk (ho); clear HO_8; try clear HB; clear HO_3; have HO_8 := n0_; have HB := n1_; have HO186 := n2_; clear n0_ n1_ n2_; clear ho hb hg hat))
                go_roundg k1
                case measure => have := HK1.out; omega
                case rel => exact ⟨(y184), (wrap64 (x10_1 + 1)), sR, H', ⟨by have := HK1.out; omega⟩, ⟨U HO186.out⟩, ⟨Kd.RM HO_8.out (fun _ hk => hk.2)⟩, ⟨BU⟩⟩
              · rw [if_neg c12] at H
                exact absurd H (by simp)
          · rw [if_neg c9] at H
            exact absurd H (by simp)
        · rw [if_neg c8] at H
          exact absurd H (by simp)
      · rw [if_neg c7] at H
        have c7b0 : decide (x10_1 < (t179.length : Int)) = false := decide_eq_false c7
        try (have c7bz : decide (x10_1 < (x11_1.length : Int)) = false := by rw [← hl11_1]; exact c7b0)
        clear c7; obtain rfl := Option.some.inj H
        go_wp2
        go_ret
        exact ⟨_, eR, Kd.RM HO_3.out (fun _ hk => trivial), BU⟩

/-- A state of type 60 at block g of W; what its slices lead to came in by w0. -/
def IsS60 (w0 W : World) (g : Nat) (f0 : List Int) (f1 : Int) : Prop := ∃ A0 c0, W.heap[g]? = some (.cells #[.slice A0 f0.length c0, .int .i64 f1] 60 (0, 0)) ∧ w0.heap.size ≤ g ∧ Kd.C (Kd.int .u8) w0 A0 f0.length f0
theorem IsS60.grown {w0 W : World} {g : Nat} {f0 : List Int} {f1 : Int} {W1 : World} {row : Option Nat} (h : IsS60 w0 W g f0 f1) (hw : W.grownBy W1 row) (hne : some g ≠ row) : IsS60 w0 W1 g f0 f1 := by
  obtain ⟨A0, c0, hb, hg, hr0⟩ := h
  exact ⟨A0, c0, blk_grown hb hw hne, hg, hr0⟩
theorem IsS60.own_neN {w0 W : World} {g : Nat} {f0 : List Int} {f1 : Int} {α : Type} {d : Kd α} {e : Nat} {base : Nat} {ok : Nat → Prop} {v : Value} {xs : List α} (h : IsS60 w0 W g f0 f1) (ho : Kd.N d e W base ok v xs) (ht : e ≠ 60) : some g ≠ v.ownBlock := by
  obtain ⟨A0, c0, hb, hg, hr0⟩ := h
  exact Kd.N_ne ho hb ht
theorem IsS60.fresh {w0 W : World} {g : Nat} {f0 : List Int} {f1 : Int} (h : IsS60 w0 W g f0 f1) : ∀ k, W.heap.size ≤ k → k ≠ g := by
  obtain ⟨A0, c0, hb, hg, hr0⟩ := h
  exact Kd.freshB hb
theorem IsS60.kept {w0 W : World} {g : Nat} {f0 : List Int} {f1 : Int} {W1 : World} {S : Nat → Prop} (h : IsS60 w0 W g f0 f1) (hk : Kept W W1 S) (hne : ¬ S g) : IsS60 w0 W1 g f0 f1 := by
  obtain ⟨A0, c0, hb, hg, hr0⟩ := h
  exact ⟨A0, c0, blk_kept hb hk hne, hg, hr0⟩
theorem IsS60.below {w0 W : World} {g : Nat} {f0 : List Int} {f1 : Int} {W1 : World} (h : IsS60 w0 W g f0 f1) (hw : Below W.heap.size W W1) : IsS60 w0 W1 g f0 f1 := h.grown (grown_of_below hw none) (by simp)
theorem IsS60.alloc {w0 W : World} {g : Nat} {f0 : List Int} {f1 : Int} (h : IsS60 w0 W g f0 f1) (o : Obj) : IsS60 w0 (W.alloc o) g f0 f1 := h.below (below_alloc (Below.refl _ _) o)
theorem IsS60.drewN {w0 W : World} {g : Nat} {f0 : List Int} {f1 : Int} (h : IsS60 w0 W g f0 f1) (m : Nat) : IsS60 w0 (W.drewN m) g f0 f1 := h
theorem IsS60.drew {w0 W : World} {g : Nat} {f0 : List Int} {f1 : Int} (h : IsS60 w0 W g f0 f1) : IsS60 w0 W.drew g f0 f1 := h
theorem IsS60.at_ {w0 W : World} {g : Nat} {f0 : List Int} {f1 : Int} {w' : World} {m : Nat} (hq : W.drewN m = w') (h : IsS60 w0 W g f0 f1) : IsS60 w0 w' g f0 f1 := by subst hq; exact IsS60.drewN h m
theorem IsS60.apart {w0 W : World} {g : Nat} {f0 : List Int} {f1 : Int} {α : Type} {d : Kd α} {e : Nat} {base : Nat} {ok : Nat → Prop} {v : Value} {xs : List α} (h : IsS60 w0 W g f0 f1) (ho : d.R e W base ok v xs) (ht : ∀ q, q ∈ e :: d.E → q ≠ 60) : d.R e W base (fun k => ok k ∧ k ≠ g) v xs := by
  obtain ⟨A0, c0, hb, hg, hr0⟩ := h
  exact Kd.R_types ho hb ht
theorem IsS60.own_ne {w0 W : World} {g : Nat} {f0 : List Int} {f1 : Int} {α : Type} {d : Kd α} {e : Nat} {base : Nat} {ok : Nat → Prop} {v : Value} {xs : List α} (h : IsS60 w0 W g f0 f1) (ho : d.R e W base ok v xs) (ht : e ≠ 60) : some g ≠ v.ownBlock := by
  obtain ⟨A0, c0, hb, hg, hr0⟩ := h
  exact Kd.R_ne ho hb ht
theorem IsS60.apartQ {w0 W : World} {g : Nat} {f0 : List Int} {f1 : Int} {α : Type} {d : Kd α} {e : Nat} {base : Nat} {ok : Nat → Prop} {v : Value} {xs : List α} (h : IsS60 w0 W g f0 f1) (ho : d.Q e W base ok v xs) (ht : ∀ q, q ∈ e :: d.E → q ≠ 60) : d.Q e W base (fun k => ok k ∧ k ≠ g) v xs := by
  obtain ⟨A0, c0, hb, hg, hr0⟩ := h
  exact Kd.Q_types ho hb ht
theorem IsS60.own_neQ {w0 W : World} {g : Nat} {f0 : List Int} {f1 : Int} {α : Type} {d : Kd α} {e : Nat} {base : Nat} {ok : Nat → Prop} {v : Value} {xs : List α} (h : IsS60 w0 W g f0 f1) (ho : d.Q e W base ok v xs) (ht : e ≠ 60) : some g ≠ v.ownBlock := by
  obtain ⟨A0, c0, hb, hg, hr0⟩ := h
  exact Kd.Q_ne ho hb ht
theorem IsS60.apartS {w0 W : World} {g : Nat} {f0 : List Int} {f1 : Int} {α : Type} {d : Kd α} {e : Nat} {base : Nat} {ok : Nat → Prop} {v : Value} {xs : List α} (h : IsS60 w0 W g f0 f1) (ho : d.S e W base ok v xs) (ht : ∀ q, q ∈ e :: d.E → q ≠ 60) : d.S e W base (fun k => ok k ∧ k ≠ g) v xs := by
  obtain ⟨A0, c0, hb, hg, hr0⟩ := h
  exact Kd.S_types ho hb ht
theorem IsS60.own_neS {w0 W : World} {g : Nat} {f0 : List Int} {f1 : Int} {α : Type} {d : Kd α} {e : Nat} {base : Nat} {ok : Nat → Prop} {v : Value} {xs : List α} (h : IsS60 w0 W g f0 f1) (ho : d.S e W base ok v xs) (ht : e ≠ 60) : some g ≠ v.ownBlock := by
  obtain ⟨A0, c0, hb, hg, hr0⟩ := h
  exact Kd.S_ne ho hb ht
theorem IsS60.lt {w0 W : World} {g : Nat} {f0 : List Int} {f1 : Int} (h : IsS60 w0 W g f0 f1) : g < W.heap.size := by
  obtain ⟨A0, c0, hb, hg, hr0⟩ := h
  exact blk_lt hb
theorem IsS60.ge {w0 W : World} {g : Nat} {f0 : List Int} {f1 : Int} (h : IsS60 w0 W g f0 f1) : w0.heap.size ≤ g := by
  obtain ⟨A0, c0, hb, hg, hr0⟩ := h
  exact hg
theorem IsS60.ne_blk {w0 W : World} {g : Nat} {f0 : List Int} {f1 : Int} {a : Nat} {cs : Array Value} {t : TypeId} {fr : Nat × Nat} (h : IsS60 w0 W g f0 f1) (hb2 : W.heap[a]? = some (.cells cs t fr)) (ht : t ≠ 60) : g ≠ a := by
  obtain ⟨A0, c0, hb, hg, hr0⟩ := h
  rintro rfl
  rw [hb] at hb2
  injection hb2 with hb2
  injection hb2 with _ ht2
  exact ht ht2.symm
theorem IsS60.far {w0 W : World} {g : Nat} {f0 : List Int} {f1 : Int} {p : Addr} (h : IsS60 w0 W g f0 f1) (hne : g ≠ p.block) (u : Value) : IsS60 w0 (W.setCell p u) g f0 f1 := by
  obtain ⟨A0, c0, hb, hg, hr0⟩ := h
  exact ⟨A0, c0, blk_far hb hne u, hg, hr0⟩
theorem cellS60_0 {W : World} {g : Nat} {A0 : Option Addr} {c0 : Nat} {f0 : List Int} {f1 : Int} (h : W.heap[g]? = some (.cells #[.slice A0 f0.length c0, .int .i64 f1] 60 (0, 0))) : W.cell? ⟨g, 0, none⟩ = some (.slice A0 f0.length c0) := (blk_cell h 0).trans rfl
theorem cellS60_1 {W : World} {g : Nat} {A0 : Option Addr} {c0 : Nat} {f0 : List Int} {f1 : Int} (h : W.heap[g]? = some (.cells #[.slice A0 f0.length c0, .int .i64 f1] 60 (0, 0))) : W.cell? ⟨g, 1, none⟩ = some (.int .i64 f1) := (blk_cell h 1).trans rfl
theorem IsS60.set_1 {w0 W : World} {g : Nat} {f0 : List Int} {f1 : Int} (h : IsS60 w0 W g f0 f1) (x : Int) : IsS60 w0 (W.setCell ⟨g, 1, none⟩ (.int .i64 x)) g f0 x := by
  obtain ⟨A0, c0, hb, hg, hr0⟩ := h
  exact ⟨A0, c0, by simpa using blk_set hb 1 (.int .i64 x), hg, hr0⟩
theorem IsS60.new (w0 W : World) (A0 : Option Addr) (c0 : Nat) (f0 : List Int) (f1 : Int) (hB : Below w0.heap.size w0 W) (hr0 : Kd.C (Kd.int .u8) w0 A0 f0.length f0) : IsS60 w0 (W.alloc (.cells #[.slice A0 f0.length c0, .int .i64 f1] 60)) W.heap.size f0 f1 := ⟨A0, c0, by simpa using heap_alloc_new W _, hB.size, hr0⟩

/-! ### spec_l6Open: function 23 -/
def spec_l6Open.f (l0 : List Int) : Option (List Int × Int) := if (l0.length : Int) > 2000 then (if 2000 ≤ (l0.length : Int) then (some (l0.take 2000, 0)) else (none)) else (some (l0, 0))
set_option maxHeartbeats 8000000 in
set_option maxRecDepth 100000 in
theorem spec_l6Open.calls (A0 : Option Addr) (c0 : Nat) (l0 : List Int) (r1 : List Int) (r2 : Int) (w0 w : World) (hB : Below w0.heap.size w0 w) (hr0 : Kd.C (Kd.int .u8) w0 A0 l0.length l0) (hc0 : l0.length ≤ c0) (h : spec_l6Open.f l0 = some (r1, r2)) :
    Calls Try.prog 23 #[.slice A0 l0.length c0] w fun e w' => ∃ g_ : Nat, e = .returned (.pointer (some ⟨g_, 0, none⟩)) ∧ IsS60 w0 w' g_ r1 r2 ∧ Below w0.heap.size w0 w' ∧ Below w.heap.size w w' := by
  have hu60 := Try.underlying60; have HR0 := Aside0.mk hr0; have HC0 := Aside0.mk hc0; clear hr0 hc0; have HBW := Aside0.mk (Below.refl w.heap.size w); have HW0 := Aside0.mk hB.size; have HB := Aside0.mk hB; clear hB; unfold spec_l6Open.f at h; have H := h; clear h
  by_cases c2 : (l0.length : Int) > 2000
  · rw [if_pos c2] at H
    have c2b0 : decide (2000 < (l0.length : Int)) = true := decide_eq_true c2; have c2b1 : decide (2000 < l0.length) = true := decide_eq_true (by omega); clear c2; obtain ⟨c3, H⟩ := ifN H; have c3b0 := eq_true c3; have c3b1 : decide (2000 ≤ (l0.length : Int)) = true := decide_eq_true c3; clear c3; simp only [Option.some.injEq, Prod.mk.injEq] at H; obtain ⟨rfl, rfl⟩ := H; obtain ⟨i04, hi04, _, hsz4, _⟩ := info_parts info5; obtain ⟨hcut4, hA4, hC4⟩ := print_take_of (P := Try.prog) (Value.int .u8) 0 22 5 .i64 Try.underlying22 hi04 hsz4 A0 c0 l0 2000 (by omega) (oD) HC0.out; have HR187 := Aside0.mk (Kd.C_of_reads (h1 := fun _ => rfl) (hA4 _ (Kd.reads_of_C HR0.out))); have HC187 := Aside0.mk hC4; clear hA4 hC4 hi04 hsz4; go_enter Try.func23, Try.ntmps23
    go_wp2_with (first | ((with_reducible refine gate_dst (N := 10) rfl ?_); refine boxE (N := 10) (cs := #[.slice A0 (l0.take 2000).length c0, .int .i64 0]) (t := 60) ?_; intro gb188 hg w5 hbox hb; replace HB := BS hb; have BK188 := Aside0.mk (hbox); have GW188 := Aside0.mk ((by rw [hg]; exact (below_size (by repeat (first | (with_reducible first | exact HBW.out | apply below_alloc | apply pw_below_drewN | apply below_drew1) | exact HBW.out))) : w.heap.size ≤ gb188)); have GE188 := Aside0.mk ((Nat.le_trans HW0.out (by rw [hg]; exact (below_size (by repeat (first | (with_reducible first | exact HBW.out | apply below_alloc | apply pw_below_drewN | apply below_drew1) | exact HBW.out))) : w.heap.size ≤ gb188) : w0.heap.size ≤ gb188)); replace HBW := Aside0.mk (below_step HBW.out hb); clear hb hbox hg))
    go_ret
    exact ⟨_, rfl, (show IsS60 w0 _ gb188 (l0.take 2000) 0 from ⟨_, _, U BK188.out, GE188.out, HR187.out⟩), BU, by repeat (first | (with_reducible first | exact HBW.out | apply below_alloc | apply pw_below_drewN | apply below_drew1 | refine below_set ?_ GW188.out) | exact HBW.out)⟩
  rw [if_neg c2] at H; have c2b0 : decide (2000 < (l0.length : Int)) = false := decide_eq_false c2; have c2b1 : decide (2000 < l0.length) = false := decide_eq_false (by omega); clear c2; simp only [Option.some.injEq, Prod.mk.injEq] at H; obtain ⟨rfl, rfl⟩ := H; go_enter Try.func23, Try.ntmps23
  go_wp2_with (first | ((with_reducible refine gate_dst (N := 10) rfl ?_); refine boxE (N := 10) (cs := #[.slice A0 l0.length c0, .int .i64 0]) (t := 60) ?_; intro gb189 hg w6 hbox hb; replace HB := BS hb; have BK189 := Aside0.mk (hbox); have GW189 := Aside0.mk ((by rw [hg]; exact (below_size (by repeat (first | (with_reducible first | exact HBW.out | apply below_alloc | apply pw_below_drewN | apply below_drew1) | exact HBW.out))) : w.heap.size ≤ gb189)); have GE189 := Aside0.mk ((Nat.le_trans HW0.out (by rw [hg]; exact (below_size (by repeat (first | (with_reducible first | exact HBW.out | apply below_alloc | apply pw_below_drewN | apply below_drew1) | exact HBW.out))) : w.heap.size ≤ gb189) : w0.heap.size ≤ gb189)); replace HBW := Aside0.mk (below_step HBW.out hb); clear hb hbox hg))
  go_ret
  exact ⟨_, rfl, (show IsS60 w0 _ gb189 l0 0 from ⟨_, _, U BK189.out, GE189.out, HR0.out⟩), BU, by repeat (first | (with_reducible first | exact HBW.out | apply below_alloc | apply pw_below_drewN | apply below_drew1 | refine below_set ?_ GW189.out) | exact HBW.out)⟩

end Go.Proofs.Ytpjgcjkodmkemaa.PFnMany
