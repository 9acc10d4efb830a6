-- Written by a program of this session (wip/print2.py): the functions that the law reaches, plain, and the walks.
import Derived.Test.YtpjgcjkodmkemaaPFnZerox0
import Derived.Test.YtpjgcjkodmkemaaPFnZerox10
import Derived.Test.YtpjgcjkodmkemaaPFnZerox12
namespace Go.Proofs.Ytpjgcjkodmkemaa.PFnZero
open Go.RowKit Go.Proofs.YtpjgcjkodmkemaaW.PrintWords Go.Proofs.YtpjgcjkodmkemaaW.PrintLast Go.Proofs.YtpjgcjkodmkemaaW.PrintMore
attribute [local go_sem] max2_int min2_int max_two min_two max_three min_three max_four min_four   -- for this text's walks alone
set_option linter.unusedVariables false
set_option linter.unusedSimpArgs false

/-! ### impl_symbol: function 59 -/
def impl_symbol.f (k : Nat) (a0 : Int) (a1 : Int) (a2 : Int) : Option (Int) := if a2 = 0 then (if a0 < 0 then (if a1 < 0 then (some (-1)) else (some 1)) else (some 1)) else ((impl_split.f k a0 a2).bind fun bt444 => ((impl_split.f k a1 a2).bind fun bt446 => (if a2 = 2 then ((impl_rest.f bt444.2 8).bind fun t448 => ((impl_rest.f bt446.2 8).bind fun t449 => ((impl_power.f k (-1) (Int.tmod (wrap64 ((wrap64 ((wrap64 ((wrap64 (Int.tdiv (wrap64 (t448 - 1)) 2)) * (wrap64 (Int.tdiv (wrap64 (t449 - 1)) 2)))) + (wrap64 (Int.tdiv (wrap64 (bt444.1 * (wrap64 ((wrap64 (t449 * t449)) - 1)))) 8)))) + (wrap64 (Int.tdiv (wrap64 (bt446.1 * (wrap64 ((wrap64 (t448 * t448)) - 1)))) 8)))) 2)).bind fun t450 => (some t450)))) else ((impl_power.f k (-1) (Int.tmod (wrap64 (Int.tdiv (wrap64 ((wrap64 (bt444.1 * bt446.1)) * (wrap64 (a2 - 1)))) 2)) 2)).bind fun t451 => ((impl_residue.f k bt444.2 a2).bind fun t452 => ((impl_power.f k t452 (Int.tmod bt446.1 2)).bind fun t453 => ((impl_residue.f k bt446.2 a2).bind fun t454 => ((impl_power.f k t454 (Int.tmod bt444.1 2)).bind fun t455 => (some (wrap64 ((wrap64 (t451 * t453)) * t455)))))))))))
theorem impl_symbol.mono : ∀ a0 a1 a2 k, LeO (impl_symbol.f k a0 a1 a2) (impl_symbol.f (k + 1) a0 a1 a2) := by
  intro a0 a1 a2 k
  unfold impl_symbol.f
  repeat' first
      | (with_reducible exact impl_power.mono _ _ _)
      | (with_reducible exact impl_residue.mono _ _ _)
      | (with_reducible exact impl_split.mono _ _ _)
      | (with_reducible exact LeO.refl _)
      | (with_reducible exact LeO.none _)
      | (with_reducible refine LeO.ite ?_ ?_)
      | (with_reducible refine LeO.bind ?_ (fun _ => ?_))
      | exact impl_power.mono _ _ _
      | exact impl_residue.mono _ _ _
      | exact impl_split.mono _ _ _
      | exact LeO.none _
      | refine LeO.ite ?_ ?_
      | refine LeO.bind ?_ (fun _ => ?_)
set_option maxHeartbeats 8000000 in
set_option maxRecDepth 100000 in
theorem impl_symbol.calls (k : Nat) (a0 : Int) (a1 : Int) (a2 : Int) (r : Int) (w : World) (h : impl_symbol.f k a0 a1 a2 = some r) :
    Calls Try.prog 59 #[.int .i64 a0, .int .i64 a1, .int .i64 a2] w fun e w' => e = .returned (.int .i64 r) ∧ Drawn0 w w' := by
  unfold impl_symbol.f at h; have H := h; clear h
  by_cases c4 : a2 = 0
  · rw [if_pos c4] at H
    have c4b0 : (a2 == 0) = true := beq_iff_eq.mpr c4; have c4b1 : (a2 != 0) = false := bne_eq_false_iff_eq.mpr c4; clear c4
    by_cases c5 : a0 < 0
    · rw [if_pos c5] at H
      have c5b0 : decide (a0 < 0) = true := decide_eq_true c5; clear c5
      by_cases c6 : a1 < 0
      · rw [if_pos c6] at H
        have c6b0 : decide (a1 < 0) = true := decide_eq_true c6; clear c6; obtain rfl := Option.some.inj H; go_enter Try.func59, Try.ntmps59
        go_wp2
        go_ret
        exact ⟨by first | rfl | (simp; done) | (simp [*]; done), by repeat (first | exact Drawn0.refl _ | apply Drawn0.step)⟩
      rw [if_neg c6] at H; have c6b0 : decide (a1 < 0) = false := decide_eq_false c6; clear c6; obtain rfl := Option.some.inj H; go_enter Try.func59, Try.ntmps59
      go_wp2
      go_ret
      exact ⟨by first | rfl | (simp; done) | (simp [*]; done), by repeat (first | exact Drawn0.refl _ | apply Drawn0.step)⟩
    rw [if_neg c5] at H; have c5b0 : decide (a0 < 0) = false := decide_eq_false c5; clear c5; obtain rfl := Option.some.inj H; go_enter Try.func59, Try.ntmps59
    go_wp2
    go_ret
    exact ⟨by first | rfl | (simp; done) | (simp [*]; done), by repeat (first | exact Drawn0.refl _ | apply Drawn0.step)⟩
  rw [if_neg c4] at H; have c4b0 : (a2 == 0) = false := beq_eq_false_iff_ne.mpr c4; have c4b1 : (a2 != 0) = true := bne_iff_ne.mpr c4; obtain ⟨⟨t444, t445⟩, A7, H⟩ := bnd H
  replace H : ((impl_split.f k a1 a2).bind fun bt446 => (if a2 = 2 then ((impl_rest.f t445 8).bind fun t448 => ((impl_rest.f bt446.2 8).bind fun t449 => ((impl_power.f k (-1) (Int.tmod (wrap64 ((wrap64 ((wrap64 ((wrap64 (Int.tdiv (wrap64 (t448 - 1)) 2)) * (wrap64 (Int.tdiv (wrap64 (t449 - 1)) 2)))) + (wrap64 (Int.tdiv (wrap64 (t444 * (wrap64 ((wrap64 (t449 * t449)) - 1)))) 8)))) + (wrap64 (Int.tdiv (wrap64 (bt446.1 * (wrap64 ((wrap64 (t448 * t448)) - 1)))) 8)))) 2)).bind fun t450 => (some t450)))) else ((impl_power.f k (-1) (Int.tmod (wrap64 (Int.tdiv (wrap64 ((wrap64 (t444 * bt446.1)) * (wrap64 (a2 - 1)))) 2)) 2)).bind fun t451 => ((impl_residue.f k t445 a2).bind fun t452 => ((impl_power.f k t452 (Int.tmod bt446.1 2)).bind fun t453 => ((impl_residue.f k bt446.2 a2).bind fun t454 => ((impl_power.f k t454 (Int.tmod t444 2)).bind fun t455 => (some (wrap64 ((wrap64 (t451 * t453)) * t455)))))))))) = some r := H
  obtain ⟨⟨t446, t447⟩, A8, H⟩ := bnd H
  replace H : (if a2 = 2 then ((impl_rest.f t445 8).bind fun t448 => ((impl_rest.f t447 8).bind fun t449 => ((impl_power.f k (-1) (Int.tmod (wrap64 ((wrap64 ((wrap64 ((wrap64 (Int.tdiv (wrap64 (t448 - 1)) 2)) * (wrap64 (Int.tdiv (wrap64 (t449 - 1)) 2)))) + (wrap64 (Int.tdiv (wrap64 (t444 * (wrap64 ((wrap64 (t449 * t449)) - 1)))) 8)))) + (wrap64 (Int.tdiv (wrap64 (t446 * (wrap64 ((wrap64 (t448 * t448)) - 1)))) 8)))) 2)).bind fun t450 => (some t450)))) else ((impl_power.f k (-1) (Int.tmod (wrap64 (Int.tdiv (wrap64 ((wrap64 (t444 * t446)) * (wrap64 (a2 - 1)))) 2)) 2)).bind fun t451 => ((impl_residue.f k t445 a2).bind fun t452 => ((impl_power.f k t452 (Int.tmod t446 2)).bind fun t453 => ((impl_residue.f k t447 a2).bind fun t454 => ((impl_power.f k t454 (Int.tmod t444 2)).bind fun t455 => (some (wrap64 ((wrap64 (t451 * t453)) * t455))))))))) = some r := H
  by_cases c9 : a2 = 2
  · rw [if_pos c9] at H
    have c9b0 : (a2 == 2) = true := beq_iff_eq.mpr c9; have c9b1 : (a2 != 2) = false := bne_eq_false_iff_eq.mpr c9; clear c9; obtain ⟨t448, A10, H⟩ := bnd H; obtain ⟨t449, A11, H⟩ := bnd H; obtain ⟨t450, A12, H⟩ := bnd H; obtain rfl := Option.some.inj H; go_enter Try.func59, Try.ntmps59
    go_wp2_with (first | ((with_reducible refine gate_callee (f := 73) rfl ?_); refine goesK (some 24) Try.func73 #[.int .i64 a0, .int .i64 a2] ?_; (with_reducible refine (impl_split.calls k a0 a2 t444 t445 _ A7.out).mono ?_); rintro e w' ⟨rfl, ⟨nd, rfl⟩⟩; refine ⟨_, rfl, ?_⟩) | ((with_reducible refine gate_callee (f := 73) rfl ?_); refine goesK (some 30) Try.func73 #[.int .i64 a1, .int .i64 a2] ?_; (with_reducible refine (impl_split.calls k a1 a2 t446 t447 _ A8.out).mono ?_); rintro e w' ⟨rfl, ⟨nd, rfl⟩⟩; refine ⟨_, rfl, ?_⟩) | ((with_reducible refine gate_callee (f := 74) rfl ?_); refine goesK (some 59) Try.func74 #[.int .i64 t445, .int .i64 8] ?_; (with_reducible refine (impl_rest.calls t445 8 t448 _ A10.out).mono ?_); rintro e w' ⟨rfl, ⟨nd, rfl⟩⟩; refine ⟨_, rfl, ?_⟩) | ((with_reducible refine gate_callee (f := 74) rfl ?_); refine goesK (some 61) Try.func74 #[.int .i64 t447, .int .i64 8] ?_; (with_reducible refine (impl_rest.calls t447 8 t449 _ A11.out).mono ?_); rintro e w' ⟨rfl, ⟨nd, rfl⟩⟩; refine ⟨_, rfl, ?_⟩) | ((with_reducible refine gate_callee (f := 33) rfl ?_); refine goesK (some 86) Try.func33 #[.int .i64 (-1), .int .i64 (Int.tmod (wrap64 ((wrap64 ((wrap64 ((wrap64 (Int.tdiv (wrap64 (t448 - 1)) 2)) * (wrap64 (Int.tdiv (wrap64 (t449 - 1)) 2)))) + (wrap64 (Int.tdiv (wrap64 (t444 * (wrap64 ((wrap64 (t449 * t449)) - 1)))) 8)))) + (wrap64 (Int.tdiv (wrap64 (t446 * (wrap64 ((wrap64 (t448 * t448)) - 1)))) 8)))) 2)] ?_; (with_reducible refine (impl_power.calls k (-1) (Int.tmod (wrap64 ((wrap64 ((wrap64 ((wrap64 (Int.tdiv (wrap64 (t448 - 1)) 2)) * (wrap64 (Int.tdiv (wrap64 (t449 - 1)) 2)))) + (wrap64 (Int.tdiv (wrap64 (t444 * (wrap64 ((wrap64 (t449 * t449)) - 1)))) 8)))) + (wrap64 (Int.tdiv (wrap64 (t446 * (wrap64 ((wrap64 (t448 * t448)) - 1)))) 8)))) 2) t450 _ A12.out).mono ?_); rintro e w' ⟨rfl, ⟨nd, rfl⟩⟩; refine ⟨_, rfl, ?_⟩))
    go_ret
    exact ⟨by first | rfl | (simp; done) | (simp [*]; done), by repeat (first | exact Drawn0.refl _ | apply Drawn0.step)⟩
  rw [if_neg c9] at H; have c9b0 : (a2 == 2) = false := beq_eq_false_iff_ne.mpr c9; have c9b1 : (a2 != 2) = true := bne_iff_ne.mpr c9; obtain ⟨t451, A13, H⟩ := bnd H; obtain ⟨t452, A14, H⟩ := bnd H; obtain ⟨t453, A15, H⟩ := bnd H; obtain ⟨t454, A16, H⟩ := bnd H; obtain ⟨t455, A17, H⟩ := bnd H; obtain rfl := Option.some.inj H; go_enter Try.func59, Try.ntmps59
  go_wp2_with (first | ((with_reducible refine gate_callee (f := 73) rfl ?_); refine goesK (some 24) Try.func73 #[.int .i64 a0, .int .i64 a2] ?_; (with_reducible refine (impl_split.calls k a0 a2 t444 t445 _ A7.out).mono ?_); rintro e w' ⟨rfl, ⟨nd, rfl⟩⟩; refine ⟨_, rfl, ?_⟩) | ((with_reducible refine gate_callee (f := 73) rfl ?_); refine goesK (some 30) Try.func73 #[.int .i64 a1, .int .i64 a2] ?_; (with_reducible refine (impl_split.calls k a1 a2 t446 t447 _ A8.out).mono ?_); rintro e w' ⟨rfl, ⟨nd, rfl⟩⟩; refine ⟨_, rfl, ?_⟩) | ((with_reducible refine gate_callee (f := 33) rfl ?_); refine goesK (some 43) Try.func33 #[.int .i64 (-1), .int .i64 (Int.tmod (wrap64 (Int.tdiv (wrap64 ((wrap64 (t444 * t446)) * (wrap64 (a2 - 1)))) 2)) 2)] ?_; (with_reducible refine (impl_power.calls k (-1) (Int.tmod (wrap64 (Int.tdiv (wrap64 ((wrap64 (t444 * t446)) * (wrap64 (a2 - 1)))) 2)) 2) t451 _ A13.out).mono ?_); rintro e w' ⟨rfl, ⟨nd, rfl⟩⟩; refine ⟨_, rfl, ?_⟩) | ((with_reducible refine gate_callee (f := 75) rfl ?_); refine goesK (some 46) Try.func75 #[.int .i64 t445, .int .i64 a2] ?_; (with_reducible refine (impl_residue.calls k t445 a2 t452 _ A14.out).mono ?_); rintro e w' ⟨rfl, ⟨nd, rfl⟩⟩; refine ⟨_, rfl, ?_⟩) | ((with_reducible refine gate_callee (f := 33) rfl ?_); refine goesK (some 49) Try.func33 #[.int .i64 t452, .int .i64 (Int.tmod t446 2)] ?_; (with_reducible refine (impl_power.calls k t452 (Int.tmod t446 2) t453 _ A15.out).mono ?_); rintro e w' ⟨rfl, ⟨nd, rfl⟩⟩; refine ⟨_, rfl, ?_⟩) | ((with_reducible refine gate_callee (f := 75) rfl ?_); refine goesK (some 53) Try.func75 #[.int .i64 t447, .int .i64 a2] ?_; (with_reducible refine (impl_residue.calls k t447 a2 t454 _ A16.out).mono ?_); rintro e w' ⟨rfl, ⟨nd, rfl⟩⟩; refine ⟨_, rfl, ?_⟩) | ((with_reducible refine gate_callee (f := 33) rfl ?_); refine goesK (some 56) Try.func33 #[.int .i64 t454, .int .i64 (Int.tmod t444 2)] ?_; (with_reducible refine (impl_power.calls k t454 (Int.tmod t444 2) t455 _ A17.out).mono ?_); rintro e w' ⟨rfl, ⟨nd, rfl⟩⟩; refine ⟨_, rfl, ?_⟩))
  go_ret
  exact ⟨by first | rfl | (simp; done) | (simp [*]; done), by repeat (first | exact Drawn0.refl _ | apply Drawn0.step)⟩

/-! ### impl_invariant: function 58 -/
mutual
def impl_invariant.l0 : Nat → List Int → Int → Int → List Int → Int → Int → Option (Int)
  | 0, _, _, _, _, _, _ => none
  | k + 1, x0, x1, x5, x10, x11, x12 => if x12 < x11 then (if 0 ≤ x12 then (if x12 < (x10.length : Int) then (if x12 ≤ (x0.length : Int) then (impl_invariant.l1 k x0 x1 x5 (rd x10 x12) x10 x11 x12 (x0.take (x12 : Int).toNat) ((x0.take (x12 : Int).toNat).length : Int) 0) else (none)) else (none)) else (none)) else (some x5)
def impl_invariant.l1 : Nat → List Int → Int → Int → Int → List Int → Int → Int → List Int → Int → Int → Option (Int)
  | 0, _, _, _, _, _, _, _, _, _, _ => none
  | k + 1, x0, x1, x5, x7, x10, x11, x12, x19, x20, x21 => if x21 < x20 then (if 0 ≤ x21 then (if x21 < (x19.length : Int) then ((impl_symbol.f k x7 (rd x19 x21) x1).bind fun t459 => (impl_invariant.l1 k x0 x1 (wrap64 (x5 * t459)) x7 x10 x11 x12 x19 x20 (wrap64 (x21 + 1)))) else (none)) else (none)) else (impl_invariant.l0 k x0 x1 x5 x10 x11 (wrap64 (x12 + 1)))
end
def impl_invariant.f (k : Nat) (l0 : List Int) (a1 : Int) : Option (Int) := impl_invariant.l0 k l0 a1 1 l0 (l0.length : Int) 0
theorem impl_invariant.mono_l : ∀ k, (∀ y0 y1 y2 y3 y4 y5, LeO (impl_invariant.l0 k y0 y1 y2 y3 y4 y5) (impl_invariant.l0 (k + 1) y0 y1 y2 y3 y4 y5)) ∧ (∀ y0 y1 y2 y3 y4 y5 y6 y7 y8 y9, LeO (impl_invariant.l1 k y0 y1 y2 y3 y4 y5 y6 y7 y8 y9) (impl_invariant.l1 (k + 1) y0 y1 y2 y3 y4 y5 y6 y7 y8 y9))
  | 0 => ⟨fun _ _ _ _ _ _ r h => by simp [impl_invariant.l0] at h, fun _ _ _ _ _ _ _ _ _ _ r h => by simp [impl_invariant.l1] at h⟩
  | k + 1 => by
    obtain ⟨ih0, ih1⟩ := impl_invariant.mono_l k
    refine ⟨?_, ?_⟩ <;> intros <;> (first | unfold impl_invariant.l0 | unfold impl_invariant.l1) <;> (repeat' first
      | (with_reducible exact ih0 _ _ _ _ _ _)
      | (with_reducible exact ih1 _ _ _ _ _ _ _ _ _ _)
      | (with_reducible exact impl_symbol.mono _ _ _ _)
      | (with_reducible exact LeO.refl _)
      | (with_reducible exact LeO.none _)
      | (with_reducible refine LeO.ite ?_ ?_)
      | (with_reducible refine LeO.bind ?_ (fun _ => ?_))
      | exact ih0 _ _ _ _ _ _
      | exact ih1 _ _ _ _ _ _ _ _ _ _
      | exact impl_symbol.mono _ _ _ _
      | exact LeO.none _
      | refine LeO.ite ?_ ?_
      | refine LeO.bind ?_ (fun _ => ?_))
theorem impl_invariant.mono : ∀ a0 a1 k, LeO (impl_invariant.f k a0 a1) (impl_invariant.f (k + 1) a0 a1) := by
  intro a0 a1 k
  obtain ⟨ih0, ih1⟩ := impl_invariant.mono_l k
  unfold impl_invariant.f
  repeat' first
      | (with_reducible exact ih0 _ _ _ _ _ _)
      | (with_reducible exact ih1 _ _ _ _ _ _ _ _ _ _)
      | (with_reducible exact impl_symbol.mono _ _ _ _)
      | (with_reducible exact LeO.refl _)
      | (with_reducible exact LeO.none _)
      | (with_reducible refine LeO.ite ?_ ?_)
      | (with_reducible refine LeO.bind ?_ (fun _ => ?_))
      | exact ih0 _ _ _ _ _ _
      | exact ih1 _ _ _ _ _ _ _ _ _ _
      | exact impl_symbol.mono _ _ _ _
      | exact LeO.none _
      | refine LeO.ite ?_ ?_
      | refine LeO.bind ?_ (fun _ => ?_)
set_option maxHeartbeats 8000000 in
set_option maxRecDepth 100000 in
theorem impl_invariant.calls (k : Nat) (A0 : Option Addr) (c0 : Nat) (l0 : List Int) (a1 : Int) (r : Int) (w : World) (hr0 : Kd.C (Kd.int .i64) w A0 l0.length l0) (hc0 : l0.length ≤ c0) (h : impl_invariant.f k l0 a1 = some r) :
    Calls Try.prog 58 #[.slice A0 l0.length c0, .int .i64 a1] w fun e w' => e = .returned (.int .i64 r) ∧ Drawn0 w w' := by
  have HR0 := Aside0.mk hr0; have HC0 := Aside0.mk hc0; clear hr0 hc0; unfold impl_invariant.f at h; have H := h; clear h; have H' := Aside0.mk H; clear H; go_enter Try.func58, Try.ntmps58
  go_wp2
  go_loopg [5, 12] k (fun kq v5 v12 w' => ∃ (x5_1 : Int) (x12_1 : Int), v5 = .int .i64 x5_1 ∧ v12 = .int .i64 x12_1 ∧ Aside0 (impl_invariant.l0 kq l0 a1 x5_1 l0 (l0.length : Int) x12_1 = some r) ∧ Aside0 (kq ≤ k) ∧ Drawn0 w w')
  case atStart => exact ⟨(1), (0), sR, sR, H', ⟨Nat.le_refl _⟩, by repeat (first | exact Drawn0.refl _ | apply Drawn0.step)⟩
  case round =>
    clear H'; obtain ⟨x5_1, x12_1, rfl, rfl, HA, HK1, ⟨m1, rfl⟩⟩ := hrel; cases gk with
    | zero => exact absurd HA.out (by simp [impl_invariant.l0])
    | succ k1 =>
      have H := HA.out; clear HA; simp only [impl_invariant.l0] at H
      by_cases c3 : x12_1 < (l0.length : Int)
      · rw [if_pos c3] at H
        have c3b0 : decide (x12_1 < (l0.length : Int)) = true := decide_eq_true c3; clear c3; obtain ⟨c4, H⟩ := ifN H; have c4b0 : decide (0 ≤ x12_1) = true := decide_eq_true c4; clear c4; obtain ⟨c5, H⟩ := ifN H; have c5b0 : decide (x12_1 < (l0.length : Int)) = true := decide_eq_true c5; clear c5; have c6b0 := eq_true (oD : 0 ≤ x12_1); obtain ⟨c7, H⟩ := ifN H; have c7b0 := eq_true c7; have c7b1 : decide (x12_1 ≤ (l0.length : Int)) = true := decide_eq_true c7; clear c7; have H' := Aside0.mk H; clear H; have p456 : 0 ≤ (x12_1 : Int) := oD; have q456 : x12_1 < (l0.length : Int) := oD; obtain ⟨ad456, e456, hx456_0⟩ := Kd.at_int HR0.out x12_1 p456 q456; cases e456; replace p456 := eq_true p456; replace q456 := eq_true q456; obtain ⟨i08, hi08, _, hsz8, _⟩ := info_parts info3; obtain ⟨hcut8, hA8, hC8⟩ := print_take_of (P := Try.prog) (Value.int .i64) 0 23 3 .i64 Try.underlying23 hi08 hsz8 (some ad456) c0 l0 x12_1 (oD) (oD) HC0.out; have HR457 := Aside0.mk (Kd.C_of_reads (h1 := fun _ => rfl) (hA8 _ (Kd.reads_of_C HR0.out))); have HC457 := Aside0.mk hC8; have HM457 := Aside0.mk (show max x12_1 0 = ((l0.take (x12_1 : Int).toNat).length : Int) by have h1_ : 0 ≤ x12_1 := of_decide_eq_true (by assumption); have h2_ : x12_1 ≤ (l0.length : Int) := of_decide_eq_true (by assumption); rw [List.length_take]; omega); clear hA8 hC8 hi08 hsz8
        go_wp2
        go_loopg [5, 21] k1 (fun kq v5 v21 w' => ∃ (x5_2 : Int) (x21_2 : Int), v5 = .int .i64 x5_2 ∧ v21 = .int .i64 x21_2 ∧ Aside0 (impl_invariant.l1 kq l0 a1 x5_2 (rd l0 x12_1) l0 (l0.length : Int) x12_1 (l0.take (x12_1 : Int).toNat) ((l0.take (x12_1 : Int).toNat).length : Int) x21_2 = some r) ∧ Aside0 (kq ≤ k1) ∧ Drawn0 w w')
        case atStart => exact ⟨(x5_1), (0), sR, sR, H', ⟨Nat.le_refl _⟩, by repeat (first | exact Drawn0.refl _ | apply Drawn0.step)⟩
        case round =>
          clear H'; (try clear c3); (try clear c3b0); (try clear c4); (try clear c4b0); (try clear c5); (try clear c5b0); (try clear c6b0); (try clear c7); (try clear c7b0); (try clear c7b1); (try clear hx456_0); (try clear p456); (try clear q456); obtain ⟨x5_2, x21_2, rfl, rfl, HA, HK2, ⟨m2, rfl⟩⟩ := hrel; cases gk with
          | zero => exact absurd HA.out (by simp [impl_invariant.l1])
          | succ k2 =>
            have H := HA.out; clear HA; simp only [impl_invariant.l1] at H
            by_cases c9 : x21_2 < ((l0.take (x12_1 : Int).toNat).length : Int)
            · rw [if_pos c9] at H
              have c9b0 : decide (x21_2 < ((l0.take (x12_1 : Int).toNat).length : Int)) = true := decide_eq_true c9
              have c9bm : decide (x21_2 < max x12_1 0) = true := by rw [show max x12_1 0 = ((l0.take (x12_1 : Int).toNat).length : Int) from Aside0.out (by assumption)]; exact c9b0
              have c9bq : (x21_2 < max x12_1 0) = True := eq_true (of_decide_eq_true c9bm); clear c9; obtain ⟨c10, H⟩ := ifN H; have c10b0 : decide (0 ≤ x21_2) = true := decide_eq_true c10; clear c10; obtain ⟨c11, H⟩ := ifN H; have c11b0 : decide (x21_2 < ((l0.take (x12_1 : Int).toNat).length : Int)) = true := decide_eq_true c11
              have c11bm : decide (x21_2 < max x12_1 0) = true := by rw [show max x12_1 0 = ((l0.take (x12_1 : Int).toNat).length : Int) from Aside0.out (by assumption)]; exact c11b0
              have c11bq : (x21_2 < max x12_1 0) = True := eq_true (of_decide_eq_true c11bm); clear c11; obtain ⟨t459, A12, H⟩ := bnd H; have H' := Aside0.mk H; clear H; have p458 : 0 ≤ (x21_2 : Int) := oD; have q458 : x21_2 < ((l0.take (x12_1 : Int).toNat).length : Int) := oD; obtain ⟨ad458, e458, hx458_0⟩ := Kd.at_int HR457.out x21_2 p458 q458; obtain rfl : ad456 = ad458 := (by injection e458); replace p458 := eq_true p458; replace q458 := eq_true q458
              go_wp2_with (first | ((with_reducible refine gate_callee (f := 59) rfl ?_); refine goesK (some 29) Try.func59 #[.int .i64 (rd l0 x12_1), .int .i64 (rd (l0.take (x12_1 : Int).toNat) x21_2), .int .i64 a1] ?_; (with_reducible refine (impl_symbol.calls k2 (rd l0 x12_1) (rd (l0.take (x12_1 : Int).toNat) x21_2) a1 t459 _ A12.out).mono ?_); rintro e w' ⟨rfl, ⟨nd, rfl⟩⟩; refine ⟨_, rfl, ?_⟩))
              go_roundg k2
              case measure => have := HK1.out; have := HK2.out; omega
              case rel => exact ⟨(wrap64 (x5_2 * t459)), (wrap64 (x21_2 + 1)), sR, sR, H', ⟨by have := HK1.out; have := HK2.out; omega⟩, by repeat (first | exact Drawn0.refl _ | apply Drawn0.step)⟩
            rw [if_neg c9] at H; have c9b0 : decide (x21_2 < ((l0.take (x12_1 : Int).toNat).length : Int)) = false := decide_eq_false c9
            have c9bm : decide (x21_2 < max x12_1 0) = false := by rw [show max x12_1 0 = ((l0.take (x12_1 : Int).toNat).length : Int) from Aside0.out (by assumption)]; exact c9b0
            clear c9; have H' := Aside0.mk H; clear H
            go_wp2
            go_roundg k2
            case measure => have := HK1.out; have := HK2.out; omega
            case rel => exact ⟨(x5_2), (wrap64 (x12_1 + 1)), sR, sR, H', ⟨by have := HK1.out; have := HK2.out; omega⟩, by repeat (first | exact Drawn0.refl _ | apply Drawn0.step)⟩
      rw [if_neg c3] at H; have c3b0 : decide (x12_1 < (l0.length : Int)) = false := decide_eq_false c3; clear c3; obtain rfl := Option.some.inj H
      go_wp2
      go_ret
      exact ⟨by first | rfl | (simp; done) | (simp [*]; done), by repeat (first | exact Drawn0.refl _ | apply Drawn0.step)⟩

/-! ### impl_vanishes: function 31 -/
def impl_vanishes.f (k : Nat) (l0 : List Int) (a1 : Int) : Option (Bool) := (impl_product.f k l0).bind fun t460 => (if a1 = 0 then ((impl_lessTerms.f k l0).bind fun t461 => (if t461 > 0 then (some (decide (t461 < (l0.length : Int)))) else (some false))) else (if (l0.length : Int) = 2 then ((impl_localSquare.f k (wrap64 (-t460)) a1).bind fun t462 => (some t462)) else (if (l0.length : Int) = 3 then ((impl_invariant.f k l0 a1).bind fun t463 => ((impl_symbol.f k (-1) (wrap64 (-t460)) a1).bind fun t464 => (some (t463 == t464)))) else (if (l0.length : Int) = 4 then ((impl_localSquare.f k t460 a1).bind fun t465 => (if t465 = true then ((impl_invariant.f k l0 a1).bind fun t466 => ((impl_symbol.f k (-1) (-1) a1).bind fun t467 => (some (t466 == t467)))) else (some true))) else (some false)))))
theorem impl_vanishes.mono : ∀ a0 a1 k, LeO (impl_vanishes.f k a0 a1) (impl_vanishes.f (k + 1) a0 a1) := by
  intro a0 a1 k
  unfold impl_vanishes.f
  repeat' first
      | (with_reducible exact impl_invariant.mono _ _ _)
      | (with_reducible exact impl_lessTerms.mono _ _)
      | (with_reducible exact impl_localSquare.mono _ _ _)
      | (with_reducible exact impl_product.mono _ _)
      | (with_reducible exact impl_symbol.mono _ _ _ _)
      | (with_reducible exact LeO.refl _)
      | (with_reducible exact LeO.none _)
      | (with_reducible refine LeO.ite ?_ ?_)
      | (with_reducible refine LeO.bind ?_ (fun _ => ?_))
      | exact impl_invariant.mono _ _ _
      | exact impl_lessTerms.mono _ _
      | exact impl_localSquare.mono _ _ _
      | exact impl_product.mono _ _
      | exact impl_symbol.mono _ _ _ _
      | exact LeO.none _
      | refine LeO.ite ?_ ?_
      | refine LeO.bind ?_ (fun _ => ?_)
set_option maxHeartbeats 8000000 in
set_option maxRecDepth 100000 in
theorem impl_vanishes.calls (k : Nat) (A0 : Option Addr) (c0 : Nat) (l0 : List Int) (a1 : Int) (r : Bool) (w : World) (hr0 : Kd.C (Kd.int .i64) w A0 l0.length l0) (hc0 : l0.length ≤ c0) (h : impl_vanishes.f k l0 a1 = some r) :
    Calls Try.prog 31 #[.slice A0 l0.length c0, .int .i64 a1] w fun e w' => e = .returned (.bool r) ∧ Drawn0 w w' := by
  have HR0 := Aside0.mk hr0; have HC0 := Aside0.mk hc0; clear hr0 hc0; unfold impl_vanishes.f at h; have H := h; clear h; obtain ⟨t460, A3, H⟩ := bnd H
  by_cases c4 : a1 = 0
  · rw [if_pos c4] at H
    have c4b0 : (a1 == 0) = true := beq_iff_eq.mpr c4; have c4b1 : (a1 != 0) = false := bne_eq_false_iff_eq.mpr c4; clear c4; obtain ⟨t461, A5, H⟩ := bnd H
    by_cases c6 : t461 > 0
    · rw [if_pos c6] at H
      have c6b0 : decide (0 < t461) = true := decide_eq_true c6; clear c6; obtain rfl := Option.some.inj H; go_enter Try.func31, Try.ntmps31
      go_wp2_with (first | ((with_reducible refine gate_callee (f := 55) rfl ?_); refine goesK (some 8) Try.func55 #[.slice A0 l0.length c0] ?_; (with_reducible refine (impl_product.calls k _ _ l0 t460 _ ?side1 ?side2 A3.out).mono ?_); (case side1 => exact U HR0.out); (case side2 => exact HC0.out); rintro e w' ⟨rfl, ⟨nd, rfl⟩⟩; refine ⟨_, rfl, ?_⟩) | ((with_reducible refine gate_callee (f := 56) rfl ?_); refine goesK (some 12) Try.func56 #[.slice A0 l0.length c0] ?_; (with_reducible refine (impl_lessTerms.calls k _ _ l0 t461 _ ?side1 ?side2 A5.out).mono ?_); (case side1 => exact U HR0.out); (case side2 => exact HC0.out); rintro e w' ⟨rfl, ⟨nd, rfl⟩⟩; refine ⟨_, rfl, ?_⟩))
      go_ret
      exact ⟨by first | rfl | (simp; done) | (simp [*]; done), by repeat (first | exact Drawn0.refl _ | apply Drawn0.step)⟩
    rw [if_neg c6] at H; have c6b0 : decide (0 < t461) = false := decide_eq_false c6; clear c6; obtain rfl := Option.some.inj H; go_enter Try.func31, Try.ntmps31
    go_wp2_with (first | ((with_reducible refine gate_callee (f := 55) rfl ?_); refine goesK (some 8) Try.func55 #[.slice A0 l0.length c0] ?_; (with_reducible refine (impl_product.calls k _ _ l0 t460 _ ?side1 ?side2 A3.out).mono ?_); (case side1 => exact U HR0.out); (case side2 => exact HC0.out); rintro e w' ⟨rfl, ⟨nd, rfl⟩⟩; refine ⟨_, rfl, ?_⟩) | ((with_reducible refine gate_callee (f := 56) rfl ?_); refine goesK (some 12) Try.func56 #[.slice A0 l0.length c0] ?_; (with_reducible refine (impl_lessTerms.calls k _ _ l0 t461 _ ?side1 ?side2 A5.out).mono ?_); (case side1 => exact U HR0.out); (case side2 => exact HC0.out); rintro e w' ⟨rfl, ⟨nd, rfl⟩⟩; refine ⟨_, rfl, ?_⟩))
    go_ret
    exact ⟨by first | rfl | (simp; done) | (simp [*]; done), by repeat (first | exact Drawn0.refl _ | apply Drawn0.step)⟩
  rw [if_neg c4] at H; have c4b0 : (a1 == 0) = false := beq_eq_false_iff_ne.mpr c4; have c4b1 : (a1 != 0) = true := bne_iff_ne.mpr c4
  by_cases c7 : (l0.length : Int) = 2
  · rw [if_pos c7] at H
    have c7b0 : ((l0.length : Int) == 2) = true := beq_iff_eq.mpr c7; have c7b1 : ((l0.length : Int) != 2) = false := bne_eq_false_iff_eq.mpr c7; clear c7; obtain ⟨t462, A8, H⟩ := bnd H; obtain rfl := Option.some.inj H; go_enter Try.func31, Try.ntmps31
    go_wp2_with (first | ((with_reducible refine gate_callee (f := 55) rfl ?_); refine goesK (some 8) Try.func55 #[.slice A0 l0.length c0] ?_; (with_reducible refine (impl_product.calls k _ _ l0 t460 _ ?side1 ?side2 A3.out).mono ?_); (case side1 => exact U HR0.out); (case side2 => exact HC0.out); rintro e w' ⟨rfl, ⟨nd, rfl⟩⟩; refine ⟨_, rfl, ?_⟩) | ((with_reducible refine gate_callee (f := 57) rfl ?_); refine goesK (some 28) Try.func57 #[.int .i64 (wrap64 (-t460)), .int .i64 a1] ?_; (with_reducible refine (impl_localSquare.calls k (wrap64 (-t460)) a1 t462 _ A8.out).mono ?_); rintro e w' ⟨rfl, ⟨nd, rfl⟩⟩; refine ⟨_, rfl, ?_⟩))
    go_ret
    exact ⟨by first | rfl | (simp; done) | (simp [*]; done), by repeat (first | exact Drawn0.refl _ | apply Drawn0.step)⟩
  rw [if_neg c7] at H; have c7b0 : ((l0.length : Int) == 2) = false := beq_eq_false_iff_ne.mpr c7; have c7b1 : ((l0.length : Int) != 2) = true := bne_iff_ne.mpr c7
  by_cases c9 : (l0.length : Int) = 3
  · rw [if_pos c9] at H
    have c9b0 : ((l0.length : Int) == 3) = true := beq_iff_eq.mpr c9; have c9b1 : ((l0.length : Int) != 3) = false := bne_eq_false_iff_eq.mpr c9; clear c9; obtain ⟨t463, A10, H⟩ := bnd H; obtain ⟨t464, A11, H⟩ := bnd H; obtain rfl := Option.some.inj H; go_enter Try.func31, Try.ntmps31
    go_wp2_with (first | ((with_reducible refine gate_callee (f := 55) rfl ?_); refine goesK (some 8) Try.func55 #[.slice A0 l0.length c0] ?_; (with_reducible refine (impl_product.calls k _ _ l0 t460 _ ?side1 ?side2 A3.out).mono ?_); (case side1 => exact U HR0.out); (case side2 => exact HC0.out); rintro e w' ⟨rfl, ⟨nd, rfl⟩⟩; refine ⟨_, rfl, ?_⟩) | ((with_reducible refine gate_callee (f := 58) rfl ?_); refine goesK (some 33) Try.func58 #[.slice A0 l0.length c0, .int .i64 a1] ?_; (with_reducible refine (impl_invariant.calls k _ _ l0 a1 t463 _ ?side1 ?side2 A10.out).mono ?_); (case side1 => exact U HR0.out); (case side2 => exact HC0.out); rintro e w' ⟨rfl, ⟨nd, rfl⟩⟩; refine ⟨_, rfl, ?_⟩) | ((with_reducible refine gate_callee (f := 59) rfl ?_); refine goesK (some 37) Try.func59 #[.int .i64 (-1), .int .i64 (wrap64 (-t460)), .int .i64 a1] ?_; (with_reducible refine (impl_symbol.calls k (-1) (wrap64 (-t460)) a1 t464 _ A11.out).mono ?_); rintro e w' ⟨rfl, ⟨nd, rfl⟩⟩; refine ⟨_, rfl, ?_⟩))
    go_ret
    exact ⟨by first | rfl | (simp; done) | (simp [*]; done), by repeat (first | exact Drawn0.refl _ | apply Drawn0.step)⟩
  rw [if_neg c9] at H; have c9b0 : ((l0.length : Int) == 3) = false := beq_eq_false_iff_ne.mpr c9; have c9b1 : ((l0.length : Int) != 3) = true := bne_iff_ne.mpr c9
  by_cases c12 : (l0.length : Int) = 4
  · rw [if_pos c12] at H
    have c12b0 : ((l0.length : Int) == 4) = true := beq_iff_eq.mpr c12; have c12b1 : ((l0.length : Int) != 4) = false := bne_eq_false_iff_eq.mpr c12; clear c12; obtain ⟨t465, A13, H⟩ := bnd H
    by_cases c14 : t465 = true
    · subst c14
      replace H := ifT H; obtain ⟨t466, A15, H⟩ := bnd H; obtain ⟨t467, A16, H⟩ := bnd H; obtain rfl := Option.some.inj H; go_enter Try.func31, Try.ntmps31
      go_wp2_with (first | ((with_reducible refine gate_callee (f := 55) rfl ?_); refine goesK (some 8) Try.func55 #[.slice A0 l0.length c0] ?_; (with_reducible refine (impl_product.calls k _ _ l0 t460 _ ?side1 ?side2 A3.out).mono ?_); (case side1 => exact U HR0.out); (case side2 => exact HC0.out); rintro e w' ⟨rfl, ⟨nd, rfl⟩⟩; refine ⟨_, rfl, ?_⟩) | ((with_reducible refine gate_callee (f := 57) rfl ?_); refine goesK (some 43) Try.func57 #[.int .i64 t460, .int .i64 a1] ?_; (with_reducible refine (impl_localSquare.calls k t460 a1 true _ A13.out).mono ?_); rintro e w' ⟨rfl, ⟨nd, rfl⟩⟩; refine ⟨_, rfl, ?_⟩) | (go_at_call 58; (with_reducible refine (impl_invariant.calls k _ _ l0 a1 t466 _ ?side1 ?side2 A15.out).mono ?_); (case side1 => exact U HR0.out); (case side2 => exact HC0.out); rintro e w' ⟨rfl, ⟨nd, rfl⟩⟩) | (go_at_call 59; (with_reducible refine (impl_symbol.calls k (-1) (-1) a1 t467 _ A16.out).mono ?_); rintro e w' ⟨rfl, ⟨nd, rfl⟩⟩))
      go_ret
      exact ⟨by first | rfl | (simp; done) | (simp [*]; done), by repeat (first | exact Drawn0.refl _ | apply Drawn0.step)⟩
    replace c14 := Bool.eq_false_iff.mpr c14; subst c14; replace H := ifF H; obtain rfl := Option.some.inj H; go_enter Try.func31, Try.ntmps31
    go_wp2_with (first | ((with_reducible refine gate_callee (f := 55) rfl ?_); refine goesK (some 8) Try.func55 #[.slice A0 l0.length c0] ?_; (with_reducible refine (impl_product.calls k _ _ l0 t460 _ ?side1 ?side2 A3.out).mono ?_); (case side1 => exact U HR0.out); (case side2 => exact HC0.out); rintro e w' ⟨rfl, ⟨nd, rfl⟩⟩; refine ⟨_, rfl, ?_⟩) | ((with_reducible refine gate_callee (f := 57) rfl ?_); refine goesK (some 43) Try.func57 #[.int .i64 t460, .int .i64 a1] ?_; (with_reducible refine (impl_localSquare.calls k t460 a1 false _ A13.out).mono ?_); rintro e w' ⟨rfl, ⟨nd, rfl⟩⟩; refine ⟨_, rfl, ?_⟩))
    go_ret
    exact ⟨by first | rfl | (simp; done) | (simp [*]; done), by repeat (first | exact Drawn0.refl _ | apply Drawn0.step)⟩
  rw [if_neg c12] at H; have c12b0 : ((l0.length : Int) == 4) = false := beq_eq_false_iff_ne.mpr c12; have c12b1 : ((l0.length : Int) != 4) = true := bne_iff_ne.mpr c12; obtain rfl := Option.some.inj H; go_enter Try.func31, Try.ntmps31
  go_wp2_with (first | ((with_reducible refine gate_callee (f := 55) rfl ?_); refine goesK (some 8) Try.func55 #[.slice A0 l0.length c0] ?_; (with_reducible refine (impl_product.calls k _ _ l0 t460 _ ?side1 ?side2 A3.out).mono ?_); (case side1 => exact U HR0.out); (case side2 => exact HC0.out); rintro e w' ⟨rfl, ⟨nd, rfl⟩⟩; refine ⟨_, rfl, ?_⟩))
  go_ret
  exact ⟨by first | rfl | (simp; done) | (simp [*]; done), by repeat (first | exact Drawn0.refl _ | apply Drawn0.step)⟩

/-! ### impl_FormBad: function 9 -/
def impl_FormBad.l0 : Nat → List Int → List Int → List Int → Int → Int → Option (List Int)
  | 0, _, _, _, _, _ => none
  | k + 1, x0, x3, x8, x9, x10 => if x10 < x9 then (if 0 ≤ x10 then (if x10 < (x8.length : Int) then ((impl_vanishes.f k x0 (rd x8 x10)).bind fun t475 => (if t475 = true then (impl_FormBad.l0 k x0 x3 x8 x9 (wrap64 (x10 + 1))) else (if x3.length < 17592186044416 then (impl_FormBad.l0 k x0 (x3 ++ [rd x8 x10]) x8 x9 (wrap64 (x10 + 1))) else (none)))) else (none)) else (none)) else (some x3)
def impl_FormBad.f (k : Nat) (l0 : List Int) : Option (List Int) := (impl_FormPlaces.f k l0).bind fun t471 => (impl_FormBad.l0 k l0 (([] : List Int)) t471 (t471.length : Int) 0)
theorem impl_FormBad.mono_l : ∀ k, (∀ y0 y1 y2 y3 y4, LeO (impl_FormBad.l0 k y0 y1 y2 y3 y4) (impl_FormBad.l0 (k + 1) y0 y1 y2 y3 y4))
  | 0 => fun _ _ _ _ _ r h => by simp [impl_FormBad.l0] at h
  | k + 1 => by
    have ih0 := impl_FormBad.mono_l k
    · intro y0 y1 y2 y3 y4
      unfold impl_FormBad.l0
      repeat' first
      | (with_reducible exact ih0 _ _ _ _ _)
      | (with_reducible exact impl_FormPlaces.mono _ _)
      | (with_reducible exact impl_vanishes.mono _ _ _)
      | (with_reducible exact LeO.refl _)
      | (with_reducible exact LeO.none _)
      | (with_reducible refine LeO.ite ?_ ?_)
      | (with_reducible refine LeO.bind ?_ (fun _ => ?_))
      | exact ih0 _ _ _ _ _
      | exact impl_FormPlaces.mono _ _
      | exact impl_vanishes.mono _ _ _
      | exact LeO.none _
      | refine LeO.ite ?_ ?_
      | refine LeO.bind ?_ (fun _ => ?_)
theorem impl_FormBad.mono : ∀ a0 k, LeO (impl_FormBad.f k a0) (impl_FormBad.f (k + 1) a0) := by
  intro a0 k
  have ih0 := impl_FormBad.mono_l k
  unfold impl_FormBad.f
  repeat' first
      | (with_reducible exact ih0 _ _ _ _ _)
      | (with_reducible exact impl_FormPlaces.mono _ _)
      | (with_reducible exact impl_vanishes.mono _ _ _)
      | (with_reducible exact LeO.refl _)
      | (with_reducible exact LeO.none _)
      | (with_reducible refine LeO.ite ?_ ?_)
      | (with_reducible refine LeO.bind ?_ (fun _ => ?_))
      | exact ih0 _ _ _ _ _
      | exact impl_FormPlaces.mono _ _
      | exact impl_vanishes.mono _ _ _
      | exact LeO.none _
      | refine LeO.ite ?_ ?_
      | refine LeO.bind ?_ (fun _ => ?_)
set_option maxHeartbeats 8000000 in
set_option maxRecDepth 100000 in
theorem impl_FormBad.calls (k : Nat) (A0 : Option Addr) (c0 : Nat) (l0 : List Int) (r : List Int) (w : World) (hr0 : Kd.C (Kd.int .i64) w A0 l0.length l0) (hc0 : l0.length ≤ c0) (h : impl_FormBad.f k l0 = some r) :
    Calls Try.prog 9 #[.slice A0 l0.length c0] w fun e w' => ∃ v0_ : Value, e = .returned (v0_) ∧ Kd.R (Kd.int .i64) 3 w' w.heap.size (fun _ => True) v0_ r ∧ Below w.heap.size w w' := by
  have HR0 := Aside0.mk hr0; have HC0 := Aside0.mk hc0; clear hr0 hc0; have HB := Aside0.mk (Below.refl w.heap.size w); unfold impl_FormBad.f at h; have H := h; clear h; obtain ⟨y468, hy468⟩ : ∃ y_ : List Int, y_ = (([] : List Int)) := ⟨_, rfl⟩; replace H : ((impl_FormPlaces.f k l0).bind fun t471 => (impl_FormBad.l0 k l0 y468 t471 (t471.length : Int) 0)) = some r := rH hy468 H; have Ny468 := Aside0.mk hy468; clear hy468; obtain ⟨t471, A2, H⟩ := bnd H; have H' := Aside0.mk H; clear H; go_enter Try.func9, Try.ntmps9
  go_wp2_with (first | ((with_reducible refine gate_dst (N := 6) rfl ?_); refine Kd.R_lit (Kd.int .i64) _ 3 ?hg (N := 6) ?hd (xs := ([] : List Int)) (inner := []) (ok := fun _ => True) (okp := fun _ => True) ?hr ?hp (fun _ hk => hk) trivial (Below.refl _ _) (Nat.le_refl _) (by simp) ?_; (case hd => rfl); (case hg => rfl); (case hr => first | (go_simp; done) | (go_simp; rfl)); (case hp => exact (Reps.none _ _)); intro v469 w3 ho4 hb hg_ hnew_; clear hg_ hnew_; (first | rw [← Ny468.out] at ho4 | (simp only [Int.reduceToNat] at ho4; rw [← Ny468.out] at ho4)); have HO470 := Aside0.mk (Kd.R_lower ho4 (below_size BU)); replace HB := BS hb; clear hb ho4) | ((with_reducible refine gate_callee (f := 30) rfl ?_); refine goesK (some 8) Try.func30 #[.slice A0 l0.length c0] ?_; (with_reducible refine (impl_FormPlaces.calls k _ _ l0 t471 _ ?side1 ?side2 A2.out).mono ?_); (case side1 => exact U (Kd.C_below HR0.out HB.out)); (case side2 => exact HC0.out); rintro e w5 ⟨v472, rfl, ho0, hb⟩; refine ⟨_, rfl, ?_⟩; have HO473 := Aside0.mk (Kd.R_lower (Kd.R_new' ho0 (Kd.R_lt (U HO470.out))) (below_size BU)); replace HO470 := Aside0.mk (Kd.R_elder' (U HO470.out) (Kd.R_base ho0) hb); replace HB := BS hb; (try clear hb); (try clear ho0); obtain ⟨Ao6, co6, eo6⟩ := Kd.R_slice HO473.out; subst eo6))
  go_loopg [3, 10] k (fun kq v3 v10 w' => ∃ (x3_1 : List Int) (x10_1 : Int), v10 = .int .i64 x10_1 ∧ Aside0 (impl_FormBad.l0 kq l0 x3_1 t471 (t471.length : Int) x10_1 = some r) ∧ Aside0 (kq ≤ k) ∧ Aside0 (Kd.R (Kd.int .i64) 3 w' w.heap.size (fun k_ => some k_ ≠ ((.slice Ao6 t471.length co6) : Value).ownBlock) v3 x3_1) ∧ Aside0 (Kd.R (Kd.int .i64) 3 w' w.heap.size (fun k_ => some k_ ≠ (v3 : Value).ownBlock) (.slice Ao6 t471.length co6) t471) ∧ Aside0 (Below w.heap.size w w'))
  case atStart => exact ⟨(y468), (0), sR, H', ⟨Nat.le_refl _⟩, ⟨Kd.RM HO470.out (fun _ hk => hk.2)⟩, ⟨Kd.RM HO473.out (fun _ hk => hk.2)⟩, ⟨BU⟩⟩
  case round =>
    clear H'; obtain ⟨x3_1, x10_1, rfl, HA, HK1, HO_3, HO_8, HB⟩ := hrel; cases gk with
    | zero => exact absurd HA.out (by simp [impl_FormBad.l0])
    | succ k1 =>
      have H := HA.out; clear HA; simp only [impl_FormBad.l0] at H
      by_cases c7 : x10_1 < (t471.length : Int)
      · rw [if_pos c7] at H
        have c7b0 : decide (x10_1 < (t471.length : Int)) = true := decide_eq_true c7; clear c7; obtain ⟨c8, H⟩ := ifN H; have c8b0 : decide (0 ≤ x10_1) = true := decide_eq_true c8; clear c8; obtain ⟨c9, H⟩ := ifN H; have c9b0 : decide (x10_1 < (t471.length : Int)) = true := decide_eq_true c9; clear c9; obtain ⟨t475, A10, H⟩ := bnd H
        by_cases c11 : t475 = true
        · subst c11
          replace H := ifT H; have H' := Aside0.mk H; clear H; have p474 : 0 ≤ (x10_1 : Int) := oD; have q474 : x10_1 < (t471.length : Int) := oD; obtain ⟨ad474, e474, hx474_0⟩ := Kd.at_int (Kd.R_reads' HO_8.out).2.2 x10_1 p474 q474; cases e474; replace p474 := eq_true p474; replace q474 := eq_true q474
          go_wp2_with (first | ((with_reducible refine gate_callee (f := 31) rfl ?_); refine goesK (some 16) Try.func31 #[.slice A0 l0.length c0, .int .i64 (rd t471 x10_1)] ?_; (with_reducible refine (impl_vanishes.calls k1 _ _ l0 (rd t471 x10_1) true _ ?side1 ?side2 A10.out).mono ?_); (case side1 => exact U (Kd.C_below HR0.out HB.out)); (case side2 => exact HC0.out); rintro e w' ⟨rfl, ⟨nd, rfl⟩⟩; refine ⟨_, rfl, ?_⟩))
          go_roundg k1
          case measure => have := HK1.out; omega
          case rel => exact ⟨(x3_1), (wrap64 (x10_1 + 1)), sR, H', ⟨by have := HK1.out; omega⟩, ⟨U HO_3.out⟩, ⟨U HO_8.out⟩, ⟨BU⟩⟩
        replace c11 := Bool.eq_false_iff.mpr c11; subst c11; replace H := ifF H; obtain ⟨c12, H⟩ := ifN H; have LMc12 := Aside0.mk c12; clear c12; obtain ⟨y476, hy476⟩ : ∃ y_ : List Int, y_ = (x3_1 ++ [rd t471 x10_1]) := ⟨_, rfl⟩; replace H : (impl_FormBad.l0 k1 l0 y476 t471 (t471.length : Int) (wrap64 (x10_1 + 1))) = some r := rH hy476 H; have Ny476 := Aside0.mk hy476; clear hy476; have H' := Aside0.mk H; clear H; have p474 : 0 ≤ (x10_1 : Int) := oD; have q474 : x10_1 < (t471.length : Int) := oD; obtain ⟨ad474, e474, hx474_0⟩ := Kd.at_int (Kd.R_reads' HO_8.out).2.2 x10_1 p474 q474; cases e474; replace p474 := eq_true p474; replace q474 := eq_true q474
        go_wp2_with (first | ((with_reducible refine gate_callee (f := 31) rfl ?_); refine goesK (some 16) Try.func31 #[.slice A0 l0.length c0, .int .i64 (rd t471 x10_1)] ?_; (with_reducible refine (impl_vanishes.calls k1 _ _ l0 (rd t471 x10_1) false _ ?side1 ?side2 A10.out).mono ?_); (case side1 => exact U (Kd.C_below HR0.out HB.out)); (case side2 => exact HC0.out); rintro e w' ⟨rfl, ⟨nd, rfl⟩⟩; refine ⟨_, rfl, ?_⟩) | ((with_reducible refine gate_builtin (b := .append) (xs := #[.tmp 18, .tmp 20]) rfl ?_); at_builtin; refine Kd.R_append (Kd.int .i64) (w0 := w) w.heap.size rfl (.tmp 18) (.tmp 20) 23 3 (.int .i64 0) 8 rfl Try.underlying23 info3 rfl (by decide) (by omega) u3 x3_1 (rd t471 x10_1) [.int .i64 (rd t471 x10_1)] (fun k_ => some k_ ≠ (.slice (some ad474) t471.length co6 : Value).ownBlock) (fun _ => False) rfl rfl ?aP (fun _ hk => hk.elim) ?aF ?aO ?aB ?aS ?aL ?_; (case aP => exact rfl); (case aB => exact BU); (case aF => exact (fun k_ hk => Kd.fresh' (Kd.R_lt (U HO_8.out)) k_ hk)); (case aO => exact (U HO_3.out)); (case aS => exact (below_size BU)); (case aL => have := LMc12.out; omega); intro v477 w13 ho hb hg hat; rw [← Ny476.out] at ho; have n0_ := Aside0.mk (Kd.R_after (ok := (fun _ => True)) (Kd.RM HO_8.out (fun _ hk => ⟨trivial, hk⟩)) hg hat); have n1_ := Aside0.mk (hb); have n2_ := Aside0.mk (ho); clear HO_8; try clear HB; clear HO_3; have HO_8 := n0_; have HB := n1_; have HO478 := n2_; clear n0_ n1_ n2_; clear ho hb hg hat))
        go_roundg k1
        case measure => have := HK1.out; omega
        case rel => exact ⟨(y476), (wrap64 (x10_1 + 1)), sR, H', ⟨by have := HK1.out; omega⟩, ⟨U HO478.out⟩, ⟨Kd.RM HO_8.out (fun _ hk => hk.2)⟩, ⟨BU⟩⟩
      rw [if_neg c7] at H; have c7b0 : decide (x10_1 < (t471.length : Int)) = false := decide_eq_false c7; clear c7; obtain rfl := Option.some.inj H
      go_wp2
      go_ret
      exact ⟨_, eR, Kd.RM HO_3.out (fun _ hk => trivial), BU⟩

/-! ### laws_minusOf: function 10 -/
def laws_minusOf.l0 : Nat → List Int → List Int → Int → Option (List Int)
  | 0, _, _, _ => none
  | k + 1, x0, x3, x4 => if x4 < (x0.length : Int) then (if 0 ≤ x4 then (if x3.length < 17592186044416 then (laws_minusOf.l0 k x0 (x3 ++ [wrap64 (-(rd x0 x4))]) (wrap64 (x4 + 1))) else (none)) else (none)) else (some x3)
def laws_minusOf.f (k : Nat) (l0 : List Int) : Option (List Int) := laws_minusOf.l0 k l0 (([] : List Int)) 0
theorem laws_minusOf.mono_l : ∀ k, (∀ y0 y1 y2, LeO (laws_minusOf.l0 k y0 y1 y2) (laws_minusOf.l0 (k + 1) y0 y1 y2))
  | 0 => fun _ _ _ r h => by simp [laws_minusOf.l0] at h
  | k + 1 => by
    have ih0 := laws_minusOf.mono_l k
    · intro y0 y1 y2
      unfold laws_minusOf.l0
      repeat' first
      | (with_reducible exact ih0 _ _ _)
      | (with_reducible exact LeO.refl _)
      | (with_reducible exact LeO.none _)
      | (with_reducible refine LeO.ite ?_ ?_)
      | (with_reducible refine LeO.bind ?_ (fun _ => ?_))
      | exact ih0 _ _ _
      | exact LeO.none _
      | refine LeO.ite ?_ ?_
      | refine LeO.bind ?_ (fun _ => ?_)
theorem laws_minusOf.mono : ∀ a0 k, LeO (laws_minusOf.f k a0) (laws_minusOf.f (k + 1) a0) := by
  intro a0 k
  have ih0 := laws_minusOf.mono_l k
  unfold laws_minusOf.f
  repeat' first
      | (with_reducible exact ih0 _ _ _)
      | (with_reducible exact LeO.refl _)
      | (with_reducible exact LeO.none _)
      | (with_reducible refine LeO.ite ?_ ?_)
      | (with_reducible refine LeO.bind ?_ (fun _ => ?_))
      | exact ih0 _ _ _
      | exact LeO.none _
      | refine LeO.ite ?_ ?_
      | refine LeO.bind ?_ (fun _ => ?_)
set_option maxHeartbeats 8000000 in
set_option maxRecDepth 100000 in
theorem laws_minusOf.calls (k : Nat) (A0 : Option Addr) (c0 : Nat) (l0 : List Int) (r : List Int) (w : World) (hr0 : Kd.C (Kd.int .i64) w A0 l0.length l0) (hc0 : l0.length ≤ c0) (h : laws_minusOf.f k l0 = some r) :
    Calls Try.prog 10 #[.slice A0 l0.length c0] w fun e w' => ∃ v0_ : Value, e = .returned (v0_) ∧ Kd.R (Kd.int .i64) 3 w' w.heap.size (fun _ => True) v0_ r ∧ Below w.heap.size w w' := by
  have HR0 := Aside0.mk hr0; have HC0 := Aside0.mk hc0; clear hr0 hc0; have HB := Aside0.mk (Below.refl w.heap.size w); unfold laws_minusOf.f at h; have H := h; clear h; obtain ⟨y479, hy479⟩ : ∃ y_ : List Int, y_ = (([] : List Int)) := ⟨_, rfl⟩; replace H : (laws_minusOf.l0 k l0 y479 0) = some r := rH hy479 H; have Ny479 := Aside0.mk hy479; clear hy479; have H' := Aside0.mk H; clear H; go_enter Try.func10, Try.ntmps10
  go_wp2_with (first | ((with_reducible refine gate_dst (N := 5) rfl ?_); refine Kd.R_lit (Kd.int .i64) _ 3 ?hg (N := 5) ?hd (xs := ([] : List Int)) (inner := []) (ok := fun _ => True) (okp := fun _ => True) ?hr ?hp (fun _ hk => hk) trivial (Below.refl _ _) (Nat.le_refl _) (by simp) ?_; (case hd => rfl); (case hg => rfl); (case hr => first | (go_simp; done) | (go_simp; rfl)); (case hp => exact (Reps.none _ _)); intro v480 w2 ho3 hb hg_ hnew_; clear hg_ hnew_; (first | rw [← Ny479.out] at ho3 | (simp only [Int.reduceToNat] at ho3; rw [← Ny479.out] at ho3)); have HO481 := Aside0.mk (Kd.R_lower ho3 (below_size BU)); replace HB := BS hb; clear hb ho3))
  go_loopg [3, 4] k (fun kq v3 v4 w' => ∃ (x3_1 : List Int) (x4_1 : Int), v4 = .int .i64 x4_1 ∧ Aside0 (laws_minusOf.l0 kq l0 x3_1 x4_1 = some r) ∧ Aside0 (kq ≤ k) ∧ Aside0 (Kd.R (Kd.int .i64) 3 w' w.heap.size (fun _ => True) v3 x3_1) ∧ Aside0 (Below w.heap.size w w'))
  case atStart => exact ⟨(y479), (0), sR, H', ⟨Nat.le_refl _⟩, ⟨U HO481.out⟩, ⟨BU⟩⟩
  case round =>
    clear H'; obtain ⟨x3_1, x4_1, rfl, HA, HK1, HO_3, HB⟩ := hrel; cases gk with
    | zero => exact absurd HA.out (by simp [laws_minusOf.l0])
    | succ k1 =>
      have H := HA.out; clear HA; simp only [laws_minusOf.l0] at H
      by_cases c4 : x4_1 < (l0.length : Int)
      · rw [if_pos c4] at H
        have c4b0 : decide (x4_1 < (l0.length : Int)) = true := decide_eq_true c4; clear c4; obtain ⟨c5, H⟩ := ifN H; have c5b0 : decide (0 ≤ x4_1) = true := decide_eq_true c5; clear c5; obtain ⟨c6, H⟩ := ifN H; have LMc6 := Aside0.mk c6; clear c6; obtain ⟨y483, hy483⟩ : ∃ y_ : List Int, y_ = (x3_1 ++ [wrap64 (-(rd l0 x4_1))]) := ⟨_, rfl⟩; replace H : (laws_minusOf.l0 k1 l0 y483 (wrap64 (x4_1 + 1))) = some r := rH hy483 H; have Ny483 := Aside0.mk hy483; clear hy483; have H' := Aside0.mk H; clear H; have p482 : 0 ≤ (x4_1 : Int) := oD; have q482 : x4_1 < (l0.length : Int) := oD; obtain ⟨ad482, e482, hx482_0⟩ := Kd.at_int HR0.out x4_1 p482 q482; cases e482; replace hx482_0 := (HB.out.cell (World.block_lt_of_cell? w _ hx482_0)).trans hx482_0; replace p482 := eq_true p482; replace q482 := eq_true q482
        go_wp2_with (first | ((with_reducible refine gate_builtin (b := .append) (xs := #[.tmp 12, .tmp 18]) rfl ?_); at_builtin; refine Kd.R_append (Kd.int .i64) (w0 := w) w.heap.size rfl (.tmp 12) (.tmp 18) 23 3 (.int .i64 0) 8 rfl Try.underlying23 info3 rfl (by decide) (by omega) u3 x3_1 (wrap64 (-(rd l0 x4_1))) [.int .i64 (wrap64 (-(rd l0 x4_1)))] (fun _ => True) (fun _ => False) rfl rfl ?aP (fun _ hk => hk.elim) ?aF ?aO ?aB ?aS ?aL ?_; (case aP => exact rfl); (case aB => exact BU); (case aF => exact (fun _ _ => trivial)); (case aO => exact (U HO_3.out)); (case aS => exact (below_size BU)); (case aL => have := LMc6.out; omega); intro v484 w7 ho hb hg hat; rw [← Ny483.out] at ho; have n0_ := Aside0.mk (hb); have n1_ := Aside0.mk (ho); try clear HB; clear HO_3; have HB := n0_; have HO485 := n1_; clear n0_ n1_; clear ho hb hg hat))
        go_roundg k1
        case measure => have := HK1.out; omega
        case rel => exact ⟨(y483), (wrap64 (x4_1 + 1)), sR, H', ⟨by have := HK1.out; omega⟩, ⟨U HO485.out⟩, ⟨BU⟩⟩
      rw [if_neg c4] at H; have c4b0 : decide (x4_1 < (l0.length : Int)) = false := decide_eq_false c4; clear c4; obtain rfl := Option.some.inj H
      go_wp2
      go_ret
      exact ⟨_, eR, U HO_3.out, BU⟩

/-! ### impl_prime: function 60 -/
def impl_prime.l0 : Nat → Int → Int → Option (Bool)
  | 0, _, _ => none
  | k + 1, x0, x3 => if (wrap64 (x3 * x3)) ≤ x0 then (if x3 = 0 then (none) else (if (Int.tmod x0 x3) = 0 then (some false) else (impl_prime.l0 k x0 (wrap64 (x3 + 1))))) else (some (decide (x0 ≥ 2)))
def impl_prime.f (k : Nat) (a0 : Int) : Option (Bool) := impl_prime.l0 k a0 2
theorem impl_prime.mono_l : ∀ k, (∀ y0 y1, LeO (impl_prime.l0 k y0 y1) (impl_prime.l0 (k + 1) y0 y1))
  | 0 => fun _ _ r h => by simp [impl_prime.l0] at h
  | k + 1 => by
    have ih0 := impl_prime.mono_l k
    · intro y0 y1
      unfold impl_prime.l0
      repeat' first
      | (with_reducible exact ih0 _ _)
      | (with_reducible exact LeO.refl _)
      | (with_reducible exact LeO.none _)
      | (with_reducible refine LeO.ite ?_ ?_)
      | (with_reducible refine LeO.bind ?_ (fun _ => ?_))
      | exact ih0 _ _
      | exact LeO.none _
      | refine LeO.ite ?_ ?_
      | refine LeO.bind ?_ (fun _ => ?_)
theorem impl_prime.mono : ∀ a0 k, LeO (impl_prime.f k a0) (impl_prime.f (k + 1) a0) := by
  intro a0 k
  have ih0 := impl_prime.mono_l k
  unfold impl_prime.f
  repeat' first
      | (with_reducible exact ih0 _ _)
      | (with_reducible exact LeO.refl _)
      | (with_reducible exact LeO.none _)
      | (with_reducible refine LeO.ite ?_ ?_)
      | (with_reducible refine LeO.bind ?_ (fun _ => ?_))
      | exact ih0 _ _
      | exact LeO.none _
      | refine LeO.ite ?_ ?_
      | refine LeO.bind ?_ (fun _ => ?_)
set_option maxHeartbeats 8000000 in
set_option maxRecDepth 100000 in
theorem impl_prime.calls (k : Nat) (a0 : Int) (r : Bool) (w : World) (h : impl_prime.f k a0 = some r) :
    Calls Try.prog 60 #[.int .i64 a0] w fun e w' => e = .returned (.bool r) ∧ Drawn0 w w' := by
  unfold impl_prime.f at h; have H := h; clear h; have H' := Aside0.mk H; clear H; go_enter Try.func60, Try.ntmps60
  go_wp2
  go_loopg [3] k (fun kq v3 w' => ∃ (x3_1 : Int), v3 = .int .i64 x3_1 ∧ Aside0 (impl_prime.l0 kq a0 x3_1 = some r) ∧ Aside0 (kq ≤ k) ∧ Drawn0 w w')
  case atStart => exact ⟨(2), sR, H', ⟨Nat.le_refl _⟩, by repeat (first | exact Drawn0.refl _ | apply Drawn0.step)⟩
  case round =>
    clear H'; obtain ⟨x3_1, rfl, HA, HK1, ⟨m1, rfl⟩⟩ := hrel; cases gk with
    | zero => exact absurd HA.out (by simp [impl_prime.l0])
    | succ k1 =>
      have H := HA.out; clear HA; simp only [impl_prime.l0] at H
      by_cases c2 : (wrap64 (x3_1 * x3_1)) ≤ a0
      · rw [if_pos c2] at H
        have c2b0 : decide ((wrap64 (x3_1 * x3_1)) ≤ a0) = true := decide_eq_true c2; clear c2; obtain ⟨c3, H⟩ := ifM H; have c3b0 : (x3_1 == 0) = false := beq_eq_false_iff_ne.mpr c3; have c3b1 : (x3_1 != 0) = true := bne_iff_ne.mpr c3
        by_cases c4 : (Int.tmod a0 x3_1) = 0
        · rw [if_pos c4] at H
          have c4b0 : ((Int.tmod a0 x3_1) == 0) = true := beq_iff_eq.mpr c4; have c4b1 : ((Int.tmod a0 x3_1) != 0) = false := bne_eq_false_iff_eq.mpr c4; clear c4; obtain rfl := Option.some.inj H
          go_wp2
          go_ret
          exact ⟨by first | rfl | (simp; done) | (simp [*]; done), by repeat (first | exact Drawn0.refl _ | apply Drawn0.step)⟩
        rw [if_neg c4] at H; have c4b0 : ((Int.tmod a0 x3_1) == 0) = false := beq_eq_false_iff_ne.mpr c4; have c4b1 : ((Int.tmod a0 x3_1) != 0) = true := bne_iff_ne.mpr c4; have H' := Aside0.mk H; clear H
        go_wp2
        go_roundg k1
        case measure => have := HK1.out; omega
        case rel => exact ⟨(wrap64 (x3_1 + 1)), sR, H', ⟨by have := HK1.out; omega⟩, by repeat (first | exact Drawn0.refl _ | apply Drawn0.step)⟩
      rw [if_neg c2] at H; have c2b0 : decide ((wrap64 (x3_1 * x3_1)) ≤ a0) = false := decide_eq_false c2; clear c2; obtain rfl := Option.some.inj H
      go_wp2
      go_ret
      exact ⟨by first | rfl | (simp; done) | (simp [*]; done), by repeat (first | exact Drawn0.refl _ | apply Drawn0.step)⟩

/-! ### impl_PrimeIs: function 32 -/
def impl_PrimeIs.f (k : Nat) (a0 : Int) : Option (Bool) := if a0 ≤ 5000 then ((impl_prime.f k a0).bind fun t486 => (some t486)) else (some false)
theorem impl_PrimeIs.mono : ∀ a0 k, LeO (impl_PrimeIs.f k a0) (impl_PrimeIs.f (k + 1) a0) := by
  intro a0 k
  unfold impl_PrimeIs.f
  repeat' first
      | (with_reducible exact impl_prime.mono _ _)
      | (with_reducible exact LeO.refl _)
      | (with_reducible exact LeO.none _)
      | (with_reducible refine LeO.ite ?_ ?_)
      | (with_reducible refine LeO.bind ?_ (fun _ => ?_))
      | exact impl_prime.mono _ _
      | exact LeO.none _
      | refine LeO.ite ?_ ?_
      | refine LeO.bind ?_ (fun _ => ?_)
set_option maxHeartbeats 8000000 in
set_option maxRecDepth 100000 in
theorem impl_PrimeIs.calls (k : Nat) (a0 : Int) (r : Bool) (w : World) (h : impl_PrimeIs.f k a0 = some r) :
    Calls Try.prog 32 #[.int .i64 a0] w fun e w' => e = .returned (.bool r) ∧ Drawn0 w w' := by
  unfold impl_PrimeIs.f at h; have H := h; clear h
  by_cases c2 : a0 ≤ 5000
  · rw [if_pos c2] at H
    have c2b0 : decide (a0 ≤ 5000) = true := decide_eq_true c2; clear c2; obtain ⟨t486, A3, H⟩ := bnd H; obtain rfl := Option.some.inj H; go_enter Try.func32, Try.ntmps32
    go_wp2_with (first | (go_at_call 60; (with_reducible refine (impl_prime.calls k a0 t486 _ A3.out).mono ?_); rintro e w' ⟨rfl, ⟨nd, rfl⟩⟩))
    go_ret
    exact ⟨by first | rfl | (simp; done) | (simp [*]; done), by repeat (first | exact Drawn0.refl _ | apply Drawn0.step)⟩
  rw [if_neg c2] at H; have c2b0 : decide (a0 ≤ 5000) = false := decide_eq_false c2; clear c2; obtain rfl := Option.some.inj H; go_enter Try.func32, Try.ntmps32
  go_wp2
  go_ret
  exact ⟨by first | rfl | (simp; done) | (simp [*]; done), by repeat (first | exact Drawn0.refl _ | apply Drawn0.step)⟩

end Go.Proofs.Ytpjgcjkodmkemaa.PFnZero
